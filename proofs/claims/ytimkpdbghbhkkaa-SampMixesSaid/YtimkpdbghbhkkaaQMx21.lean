-- Printed by a program of this session (wip/tools): Lean functions for Go functions, and their contracts.
import Derived.Test.YtimkpdbghbhkkaaQMx0
import Derived.Test.YtimkpdbghbhkkaaQMx1
import Derived.Test.YtimkpdbghbhkkaaQMx7
import Derived.Test.YtimkpdbghbhkkaaQMx8
import Derived.Test.YtimkpdbghbhkkaaQMx11
import Derived.Test.YtimkpdbghbhkkaaQMx12
import Derived.Test.YtimkpdbghbhkkaaQMx13
import Derived.Test.YtimkpdbghbhkkaaQMx14
import Derived.Test.YtimkpdbghbhkkaaQMx15
import Derived.Test.YtimkpdbghbhkkaaQMx16
import Derived.Test.YtimkpdbghbhkkaaQMx17
import Derived.Test.YtimkpdbghbhkkaaQMx20
namespace Go.Proofs.Ytimkpdbghbhkkaa.QM
open Go.RowKit Go.Proofs.YtimkpdbghbhkkaaW.PrintWords Go.Proofs.YtimkpdbghbhkkaaW.PrintLast Go.Proofs.YtimkpdbghbhkkaaW.PrintMore
attribute [local go_sem] max2_int min2_int max_two min_two max_three min_three max_four min_four   -- for this text's walks alone
set_option linter.unusedVariables false
set_option linter.unusedSimpArgs false

/-! ### bakelaw3_SampMixes: function 14 -/
mutual
def bakelaw3_SampMixes.j0 : Nat → List Int → List Int → Int → List Int → Int → Int → Int → Option (Bool)
 | 0, _, _, _, _, _, _, _ => none
 | k + 1, x0, x1, x2, x7, x8, x9, x10 => bakelaw3_SampMixes.l0 k x0 x1 x2 x7 x8 x9 x10 ([] : List Int) (mx (x0.length : Int) (x1.length : Int)) 0
def bakelaw3_SampMixes.l0 : Nat → List Int → List Int → Int → List Int → Int → Int → Int → List Int → Int → Int → Option (Bool)
 | 0, _, _, _, _, _, _, _, _, _, _ => none
 | k + 1, x0, x1, x2, x7, x8, x9, x10, x12, x56, x57 => if x57 < x56 then (if x12.length < 17592186044416 then ((some (x12 ++ [0] : List Int)).bind fun y205 => (if x9 = 0 then ((bakelaw3_SampMixes_1_137.f x0 x57).bind fun t208 => ((bakelaw3_SampMixes_1_137.f x1 x57).bind fun t209 => (if 0 ≤ x57 then (if x57 < (y205.length : Int) then (bakelaw3_SampMixes.l0 k x0 x1 x2 x7 x8 x9 x10 (y205.set (x57 : Int).toNat (wrap64 ((wrap64 (2 * t208)) + t209))) x56 (wrap64 (x57 + 1))) else (none)) else (none)))) else (bakelaw3_SampMixes.l0 k x0 x1 x2 x7 x8 x9 x10 y205 x56 (wrap64 (x57 + 1))))) else (none)) else (if x9 = 0 then ((slices_ContainsFunc_int_int_138.f k x12).bind fun t211 => (bakelaw3_SampMixes.j2 k x0 x2 x7 x8 x9 x10 x12 t211)) else (bakelaw3_SampMixes.j2 k x0 x2 x7 x8 x9 x10 x12 false))
def bakelaw3_SampMixes.j2 : Nat → List Int → Int → List Int → Int → Int → Int → List Int → Bool → Option (Bool)
 | 0, _, _, _, _, _, _, _, _ => none
 | k + 1, x0, x2, x7, x8, x9, x10, x12, x84 => if x84 = true then (bakelaw3_SampMixes.j3 k x0 x2 x7 x8 21 x10 x12) else (bakelaw3_SampMixes.j3 k x0 x2 x7 x8 x9 x10 x12)
def bakelaw3_SampMixes.j3 : Nat → List Int → Int → List Int → Int → Int → Int → List Int → Option (Bool)
 | 0, _, _, _, _, _, _, _ => none
 | k + 1, x0, x2, x7, x8, x9, x10, x12 => if x9 = 0 then (bakelaw3_SampMixes.j4 k x0 x2 x7 x8 x9 x10 x12) else (bakelaw3_SampMixes.j4 k x0 x2 x7 x8 x9 x10 ([] : List Int))
def bakelaw3_SampMixes.j4 : Nat → List Int → Int → List Int → Int → Int → Int → List Int → Option (Bool)
 | 0, _, _, _, _, _, _, _ => none
 | k + 1, x0, x2, x7, x8, x9, x10, x12 => (bakelaw3_heard.f k).bind fun t212 => (if t212 = true then (if x8 = x9 then ((slices_Equal_int_int.f k x7 x12).bind fun t213 => (bakelaw3_SampMixes.j5 k x0 x2 x10 (!t213))) else (bakelaw3_SampMixes.j5 k x0 x2 x10 true)) else (bakelaw3_SampMixes.j5 k x0 x2 x10 true))
def bakelaw3_SampMixes.j5 : Nat → List Int → Int → Int → Bool → Option (Bool)
 | 0, _, _, _, _ => none
 | k + 1, x0, x2, x10, x99 => if x99 = true then (some false) else ((samp_Smooth.f k x0 x2).bind fun bt214 => (if x10 = 0 then (if x2 < 1 then (bakelaw3_SampMixes.j6 k x0 x2 bt214.2 x10 x10 bt214.1 true) else (bakelaw3_SampMixes.j6 k x0 x2 bt214.2 x10 x10 bt214.1 (decide (x2 > 1000)))) else (bakelaw3_SampMixes.j6 k x0 x2 bt214.2 x10 x10 bt214.1 false)))
def bakelaw3_SampMixes.j6 : Nat → List Int → Int → Int → Int → Int → List Int → Bool → Option (Bool)
 | 0, _, _, _, _, _, _, _ => none
 | k + 1, x0, x2, x8, x9, x10, x14, x116 => if x116 = true then (bakelaw3_SampMixes.j7 k x0 x2 x8 1 x10 x14) else (bakelaw3_SampMixes.j7 k x0 x2 x8 x9 x10 x14)
def bakelaw3_SampMixes.j7 : Nat → List Int → Int → Int → Int → Int → List Int → Option (Bool)
 | 0, _, _, _, _, _, _ => none
 | k + 1, x0, x2, x8, x9, x10, x14 => bakelaw3_SampMixes.l1 k x0 x2 x8 x9 x10 x14 ([] : List Int) (x0.length : Int) 0
def bakelaw3_SampMixes.j10 : Nat → List Int → Int → Int → Int → List Int → List Int → Option (Bool)
 | 0, _, _, _, _, _, _ => none
 | k + 1, x0, x8, x9, x10, x14, x15 => (samp_Period.f k x0).bind fun bt227 => ((samp_Range.f k x0).bind fun bt229 => (if x8 = x9 then ((slices_Equal_int_int.f k x14 x15).bind fun t232 => (if t232 = true then (if bt227.2 = x10 then (bakelaw3_SampMixes.j11 k x0 x10 bt227.1 bt229.1 bt229.2.1 (bt229.2.2 != x10)) else (bakelaw3_SampMixes.j11 k x0 x10 bt227.1 bt229.1 bt229.2.1 true)) else (bakelaw3_SampMixes.j11 k x0 x10 bt227.1 bt229.1 bt229.2.1 true))) else (bakelaw3_SampMixes.j11 k x0 x10 bt227.1 bt229.1 bt229.2.1 true)))
def bakelaw3_SampMixes.j11 : Nat → List Int → Int → Int → Int → Int → Bool → Option (Bool)
 | 0, _, _, _, _, _, _ => none
 | k + 1, x0, x10, x21, x23, x24, x182 => if x182 = true then (some false) else (if x10 = 0 then (bakelaw3_SampMixes.j12 k x0 x21 x23 x24 ((x0.length : Int) == 0)) else (bakelaw3_SampMixes.j12 k x0 x21 x23 x24 true))
def bakelaw3_SampMixes.j12 : Nat → List Int → Int → Int → Int → Bool → Option (Bool)
 | 0, _, _, _, _, _ => none
 | k + 1, x0, x21, x23, x24, x189 => if x189 = true then (if x21 = 0 then (if x23 = 0 then (some (x24 == 0)) else (some false)) else (some false)) else (bakelaw3_SampMixes.l3 k x0 x21 x23 x24 1)
def bakelaw3_SampMixes.l3 : Nat → List Int → Int → Int → Int → Int → Option (Bool)
 | 0, _, _, _, _, _ => none
 | k + 1, x0, x21, x23, x24, x26 => if 0 ≤ x26 then (if x26 ≤ (x0.length : Int) then (if 0 ≤ (wrap64 ((x0.length : Int) - x26)) then (if (wrap64 ((x0.length : Int) - x26)) ≤ (x0.length : Int) then ((slices_Equal_int_int.f k (x0.drop (x26 : Int).toNat) (x0.take ((wrap64 ((x0.length : Int) - x26)) : Int).toNat)).bind fun t243 => (if t243 = true then (if x21 = x26 then ((slices_Min_int_int.f k x0).bind fun t244 => (if x23 = t244 then ((slices_Max_int_int.f k x0).bind fun t245 => (some (x24 == t245))) else (some false))) else (some false)) else (bakelaw3_SampMixes.l3 k x0 x21 x23 x24 (wrap64 (x26 + 1))))) else (none)) else (none)) else (none)) else (none)
def bakelaw3_SampMixes.l1 : Nat → List Int → Int → Int → Int → Int → List Int → List Int → Int → Int → Option (Bool)
 | 0, _, _, _, _, _, _, _, _, _ => none
 | k + 1, x0, x2, x8, x9, x10, x14, x15, x118, x119 => if x119 < x118 then (if x9 = 0 then (if 0 ≤ (mx 0 (wrap64 ((wrap64 (x119 + 1)) - x2))) then (if (mx 0 (wrap64 ((wrap64 (x119 + 1)) - x2))) ≤ (wrap64 (x119 + 1)) then (if (wrap64 (x119 + 1)) ≤ (x0.length : Int) then ((some ((x0.take ((wrap64 (x119 + 1)) : Int).toNat).drop ((mx 0 (wrap64 ((wrap64 (x119 + 1)) - x2))) : Int).toNat : List Int)).bind fun y218 => (bakelaw3_SampMixes.l2 k x0 x2 x8 x9 x10 x14 x15 x119 0 (mx 0 (wrap64 ((wrap64 (x119 + 1)) - x2))) x118 x119 y218 (y218.length : Int) 0)) else (none)) else (none)) else (none)) else (bakelaw3_SampMixes.j10 k x0 x8 x9 x10 x14 x15)) else (bakelaw3_SampMixes.j10 k x0 x8 x9 x10 x14 x15)
def bakelaw3_SampMixes.l2 : Nat → List Int → Int → Int → Int → Int → List Int → List Int → Int → Int → Int → Int → Int → List Int → Int → Int → Option (Bool)
 | 0, _, _, _, _, _, _, _, _, _, _, _, _, _, _, _ => none
 | k + 1, x0, x2, x8, x9, x10, x14, x15, x16, x17, x18, x118, x119, x133, x134, x135 => if x135 < x134 then (if 0 ≤ x135 then (if x135 < (x133.length : Int) then (bakelaw3_SampMixes.l2 k x0 x2 x8 x9 x10 x14 x15 x16 (wrap64 (x17 + (rd x133 x135))) x18 x118 x119 x133 x134 (wrap64 (x135 + 1))) else (none)) else (none)) else (if (wrap64 ((wrap64 (x16 + 1)) - x18)) = 0 then (none) else (if x15.length < 17592186044416 then (bakelaw3_SampMixes.l1 k x0 x2 x8 x9 x10 x14 (x15 ++ [wrap64 (Int.tdiv x17 (wrap64 ((wrap64 (x16 + 1)) - x18)))]) x118 (wrap64 (x119 + 1))) else (none)))
end
def bakelaw3_SampMixes.f (k : Nat) (l0 : List Int) (l1 : List Int) (a2 : Int) : Option (Bool) := if 0 ≤ (mn (l0.length : Int) 200) then (if (mn (l0.length : Int) 200) ≤ (l0.length : Int) then ((some (l0.take ((mn (l0.length : Int) 200) : Int).toNat : List Int)).bind fun y186 => (if 0 ≤ (mn (l1.length : Int) 200) then (if (mn (l1.length : Int) 200) ≤ (l1.length : Int) then ((some (l1.take ((mn (l1.length : Int) 200) : Int).toNat : List Int)).bind fun y191 => ((samp_Mix.f k (([y186, y191, y186] : List (List Int)))).bind fun bt199 => ((bakelaw3_levelFault.f k y186).bind fun t203 => (if t203 = 0 then ((bakelaw3_levelFault.f k y191).bind fun t204 => (bakelaw3_SampMixes.j0 k y186 y191 a2 bt199.1 bt199.2 t204 t203)) else (bakelaw3_SampMixes.j0 k y186 y191 a2 bt199.1 bt199.2 t203 t203))))) else (none)) else (none))) else (none)) else (none)
theorem bakelaw3_SampMixes.mono_l : ∀ k, (∀ y0 y1 y2 y3 y4 y5 y6, LeO (bakelaw3_SampMixes.j0 k y0 y1 y2 y3 y4 y5 y6) (bakelaw3_SampMixes.j0 (k + 1) y0 y1 y2 y3 y4 y5 y6)) ∧ (∀ y0 y1 y2 y3 y4 y5 y6 y7 y8 y9, LeO (bakelaw3_SampMixes.l0 k y0 y1 y2 y3 y4 y5 y6 y7 y8 y9) (bakelaw3_SampMixes.l0 (k + 1) y0 y1 y2 y3 y4 y5 y6 y7 y8 y9)) ∧ (∀ y0 y1 y2 y3 y4 y5 y6 y7, LeO (bakelaw3_SampMixes.j2 k y0 y1 y2 y3 y4 y5 y6 y7) (bakelaw3_SampMixes.j2 (k + 1) y0 y1 y2 y3 y4 y5 y6 y7)) ∧ (∀ y0 y1 y2 y3 y4 y5 y6, LeO (bakelaw3_SampMixes.j3 k y0 y1 y2 y3 y4 y5 y6) (bakelaw3_SampMixes.j3 (k + 1) y0 y1 y2 y3 y4 y5 y6)) ∧ (∀ y0 y1 y2 y3 y4 y5 y6, LeO (bakelaw3_SampMixes.j4 k y0 y1 y2 y3 y4 y5 y6) (bakelaw3_SampMixes.j4 (k + 1) y0 y1 y2 y3 y4 y5 y6)) ∧ (∀ y0 y1 y2 y3, LeO (bakelaw3_SampMixes.j5 k y0 y1 y2 y3) (bakelaw3_SampMixes.j5 (k + 1) y0 y1 y2 y3)) ∧ (∀ y0 y1 y2 y3 y4 y5 y6, LeO (bakelaw3_SampMixes.j6 k y0 y1 y2 y3 y4 y5 y6) (bakelaw3_SampMixes.j6 (k + 1) y0 y1 y2 y3 y4 y5 y6)) ∧ (∀ y0 y1 y2 y3 y4 y5, LeO (bakelaw3_SampMixes.j7 k y0 y1 y2 y3 y4 y5) (bakelaw3_SampMixes.j7 (k + 1) y0 y1 y2 y3 y4 y5)) ∧ (∀ y0 y1 y2 y3 y4 y5, LeO (bakelaw3_SampMixes.j10 k y0 y1 y2 y3 y4 y5) (bakelaw3_SampMixes.j10 (k + 1) y0 y1 y2 y3 y4 y5)) ∧ (∀ y0 y1 y2 y3 y4 y5, LeO (bakelaw3_SampMixes.j11 k y0 y1 y2 y3 y4 y5) (bakelaw3_SampMixes.j11 (k + 1) y0 y1 y2 y3 y4 y5)) ∧ (∀ y0 y1 y2 y3 y4, LeO (bakelaw3_SampMixes.j12 k y0 y1 y2 y3 y4) (bakelaw3_SampMixes.j12 (k + 1) y0 y1 y2 y3 y4)) ∧ (∀ y0 y1 y2 y3 y4, LeO (bakelaw3_SampMixes.l3 k y0 y1 y2 y3 y4) (bakelaw3_SampMixes.l3 (k + 1) y0 y1 y2 y3 y4)) ∧ (∀ y0 y1 y2 y3 y4 y5 y6 y7 y8, LeO (bakelaw3_SampMixes.l1 k y0 y1 y2 y3 y4 y5 y6 y7 y8) (bakelaw3_SampMixes.l1 (k + 1) y0 y1 y2 y3 y4 y5 y6 y7 y8)) ∧ (∀ y0 y1 y2 y3 y4 y5 y6 y7 y8 y9 y10 y11 y12 y13 y14, LeO (bakelaw3_SampMixes.l2 k y0 y1 y2 y3 y4 y5 y6 y7 y8 y9 y10 y11 y12 y13 y14) (bakelaw3_SampMixes.l2 (k + 1) y0 y1 y2 y3 y4 y5 y6 y7 y8 y9 y10 y11 y12 y13 y14))
 | 0 => ⟨fun _ _ _ _ _ _ _ r h => by simp [bakelaw3_SampMixes.j0] at h, fun _ _ _ _ _ _ _ _ _ _ r h => by simp [bakelaw3_SampMixes.l0] at h, fun _ _ _ _ _ _ _ _ r h => by simp [bakelaw3_SampMixes.j2] at h, fun _ _ _ _ _ _ _ r h => by simp [bakelaw3_SampMixes.j3] at h, fun _ _ _ _ _ _ _ r h => by simp [bakelaw3_SampMixes.j4] at h, fun _ _ _ _ r h => by simp [bakelaw3_SampMixes.j5] at h, fun _ _ _ _ _ _ _ r h => by simp [bakelaw3_SampMixes.j6] at h, fun _ _ _ _ _ _ r h => by simp [bakelaw3_SampMixes.j7] at h, fun _ _ _ _ _ _ r h => by simp [bakelaw3_SampMixes.j10] at h, fun _ _ _ _ _ _ r h => by simp [bakelaw3_SampMixes.j11] at h, fun _ _ _ _ _ r h => by simp [bakelaw3_SampMixes.j12] at h, fun _ _ _ _ _ r h => by simp [bakelaw3_SampMixes.l3] at h, fun _ _ _ _ _ _ _ _ _ r h => by simp [bakelaw3_SampMixes.l1] at h, fun _ _ _ _ _ _ _ _ _ _ _ _ _ _ _ r h => by simp [bakelaw3_SampMixes.l2] at h⟩
 | k + 1 => by
  obtain ⟨ih0, ih1, ih2, ih3, ih4, ih5, ih6, ih7, ih8, ih9, ih10, ih11, ih12, ih13⟩ := bakelaw3_SampMixes.mono_l k
  refine ⟨?_, ?_, ?_, ?_, ?_, ?_, ?_, ?_, ?_, ?_, ?_, ?_, ?_, ?_⟩
  ·
   intro y0 y1 y2 y3 y4 y5 y6
   unfold bakelaw3_SampMixes.j0
   repeat' first
   | (with_reducible first | exact ih0 _ _ _ _ _ _ _ | exact ih1 _ _ _ _ _ _ _ _ _ _ | exact ih2 _ _ _ _ _ _ _ _ | exact ih3 _ _ _ _ _ _ _ | exact ih4 _ _ _ _ _ _ _ | exact ih5 _ _ _ _ | exact ih6 _ _ _ _ _ _ _ | exact ih7 _ _ _ _ _ _ | exact ih8 _ _ _ _ _ _ | exact ih9 _ _ _ _ _ _ | exact ih10 _ _ _ _ _ | exact ih11 _ _ _ _ _ | exact ih12 _ _ _ _ _ _ _ _ _ | exact ih13 _ _ _ _ _ _ _ _ _ _ _ _ _ _ _ | exact bakelaw3_heard.mono _ | exact bakelaw3_levelFault.mono _ _ | exact samp_Mix.mono _ _ | exact samp_Period.mono _ _ | exact samp_Range.mono _ _ | exact samp_Smooth.mono _ _ _ | exact slices_ContainsFunc_int_int_138.mono _ _ | exact slices_Equal_int_int.mono _ _ _ | exact slices_Max_int_int.mono _ _ | exact slices_Min_int_int.mono _ _ | exact LeO.refl _ | exact LeO.none _)
   | (with_reducible refine LeO.ite ?_ ?_)
   | (with_reducible refine LeO.bind ?_ (fun _ => ?_))
   | exact ih0 _ _ _ _ _ _ _ | exact ih1 _ _ _ _ _ _ _ _ _ _ | exact ih2 _ _ _ _ _ _ _ _ | exact ih3 _ _ _ _ _ _ _ | exact ih4 _ _ _ _ _ _ _ | exact ih5 _ _ _ _ | exact ih6 _ _ _ _ _ _ _ | exact ih7 _ _ _ _ _ _ | exact ih8 _ _ _ _ _ _ | exact ih9 _ _ _ _ _ _ | exact ih10 _ _ _ _ _ | exact ih11 _ _ _ _ _ | exact ih12 _ _ _ _ _ _ _ _ _ | exact ih13 _ _ _ _ _ _ _ _ _ _ _ _ _ _ _ | exact bakelaw3_heard.mono _ | exact bakelaw3_levelFault.mono _ _ | exact samp_Mix.mono _ _ | exact samp_Period.mono _ _ | exact samp_Range.mono _ _ | exact samp_Smooth.mono _ _ _ | exact slices_ContainsFunc_int_int_138.mono _ _ | exact slices_Equal_int_int.mono _ _ _ | exact slices_Max_int_int.mono _ _ | exact slices_Min_int_int.mono _ _ | exact LeO.none _
   | refine LeO.ite ?_ ?_
   | refine LeO.bind ?_ (fun _ => ?_)
  ·
   intro y0 y1 y2 y3 y4 y5 y6 y7 y8 y9
   unfold bakelaw3_SampMixes.l0
   repeat' first
   | (with_reducible first | exact ih0 _ _ _ _ _ _ _ | exact ih1 _ _ _ _ _ _ _ _ _ _ | exact ih2 _ _ _ _ _ _ _ _ | exact ih3 _ _ _ _ _ _ _ | exact ih4 _ _ _ _ _ _ _ | exact ih5 _ _ _ _ | exact ih6 _ _ _ _ _ _ _ | exact ih7 _ _ _ _ _ _ | exact ih8 _ _ _ _ _ _ | exact ih9 _ _ _ _ _ _ | exact ih10 _ _ _ _ _ | exact ih11 _ _ _ _ _ | exact ih12 _ _ _ _ _ _ _ _ _ | exact ih13 _ _ _ _ _ _ _ _ _ _ _ _ _ _ _ | exact bakelaw3_heard.mono _ | exact bakelaw3_levelFault.mono _ _ | exact samp_Mix.mono _ _ | exact samp_Period.mono _ _ | exact samp_Range.mono _ _ | exact samp_Smooth.mono _ _ _ | exact slices_ContainsFunc_int_int_138.mono _ _ | exact slices_Equal_int_int.mono _ _ _ | exact slices_Max_int_int.mono _ _ | exact slices_Min_int_int.mono _ _ | exact LeO.refl _ | exact LeO.none _)
   | (with_reducible refine LeO.ite ?_ ?_)
   | (with_reducible refine LeO.bind ?_ (fun _ => ?_))
   | exact ih0 _ _ _ _ _ _ _ | exact ih1 _ _ _ _ _ _ _ _ _ _ | exact ih2 _ _ _ _ _ _ _ _ | exact ih3 _ _ _ _ _ _ _ | exact ih4 _ _ _ _ _ _ _ | exact ih5 _ _ _ _ | exact ih6 _ _ _ _ _ _ _ | exact ih7 _ _ _ _ _ _ | exact ih8 _ _ _ _ _ _ | exact ih9 _ _ _ _ _ _ | exact ih10 _ _ _ _ _ | exact ih11 _ _ _ _ _ | exact ih12 _ _ _ _ _ _ _ _ _ | exact ih13 _ _ _ _ _ _ _ _ _ _ _ _ _ _ _ | exact bakelaw3_heard.mono _ | exact bakelaw3_levelFault.mono _ _ | exact samp_Mix.mono _ _ | exact samp_Period.mono _ _ | exact samp_Range.mono _ _ | exact samp_Smooth.mono _ _ _ | exact slices_ContainsFunc_int_int_138.mono _ _ | exact slices_Equal_int_int.mono _ _ _ | exact slices_Max_int_int.mono _ _ | exact slices_Min_int_int.mono _ _ | exact LeO.none _
   | refine LeO.ite ?_ ?_
   | refine LeO.bind ?_ (fun _ => ?_)
  ·
   intro y0 y1 y2 y3 y4 y5 y6 y7
   unfold bakelaw3_SampMixes.j2
   repeat' first
   | (with_reducible first | exact ih0 _ _ _ _ _ _ _ | exact ih1 _ _ _ _ _ _ _ _ _ _ | exact ih2 _ _ _ _ _ _ _ _ | exact ih3 _ _ _ _ _ _ _ | exact ih4 _ _ _ _ _ _ _ | exact ih5 _ _ _ _ | exact ih6 _ _ _ _ _ _ _ | exact ih7 _ _ _ _ _ _ | exact ih8 _ _ _ _ _ _ | exact ih9 _ _ _ _ _ _ | exact ih10 _ _ _ _ _ | exact ih11 _ _ _ _ _ | exact ih12 _ _ _ _ _ _ _ _ _ | exact ih13 _ _ _ _ _ _ _ _ _ _ _ _ _ _ _ | exact bakelaw3_heard.mono _ | exact bakelaw3_levelFault.mono _ _ | exact samp_Mix.mono _ _ | exact samp_Period.mono _ _ | exact samp_Range.mono _ _ | exact samp_Smooth.mono _ _ _ | exact slices_ContainsFunc_int_int_138.mono _ _ | exact slices_Equal_int_int.mono _ _ _ | exact slices_Max_int_int.mono _ _ | exact slices_Min_int_int.mono _ _ | exact LeO.refl _ | exact LeO.none _)
   | (with_reducible refine LeO.ite ?_ ?_)
   | (with_reducible refine LeO.bind ?_ (fun _ => ?_))
   | exact ih0 _ _ _ _ _ _ _ | exact ih1 _ _ _ _ _ _ _ _ _ _ | exact ih2 _ _ _ _ _ _ _ _ | exact ih3 _ _ _ _ _ _ _ | exact ih4 _ _ _ _ _ _ _ | exact ih5 _ _ _ _ | exact ih6 _ _ _ _ _ _ _ | exact ih7 _ _ _ _ _ _ | exact ih8 _ _ _ _ _ _ | exact ih9 _ _ _ _ _ _ | exact ih10 _ _ _ _ _ | exact ih11 _ _ _ _ _ | exact ih12 _ _ _ _ _ _ _ _ _ | exact ih13 _ _ _ _ _ _ _ _ _ _ _ _ _ _ _ | exact bakelaw3_heard.mono _ | exact bakelaw3_levelFault.mono _ _ | exact samp_Mix.mono _ _ | exact samp_Period.mono _ _ | exact samp_Range.mono _ _ | exact samp_Smooth.mono _ _ _ | exact slices_ContainsFunc_int_int_138.mono _ _ | exact slices_Equal_int_int.mono _ _ _ | exact slices_Max_int_int.mono _ _ | exact slices_Min_int_int.mono _ _ | exact LeO.none _
   | refine LeO.ite ?_ ?_
   | refine LeO.bind ?_ (fun _ => ?_)
  ·
   intro y0 y1 y2 y3 y4 y5 y6
   unfold bakelaw3_SampMixes.j3
   repeat' first
   | (with_reducible first | exact ih0 _ _ _ _ _ _ _ | exact ih1 _ _ _ _ _ _ _ _ _ _ | exact ih2 _ _ _ _ _ _ _ _ | exact ih3 _ _ _ _ _ _ _ | exact ih4 _ _ _ _ _ _ _ | exact ih5 _ _ _ _ | exact ih6 _ _ _ _ _ _ _ | exact ih7 _ _ _ _ _ _ | exact ih8 _ _ _ _ _ _ | exact ih9 _ _ _ _ _ _ | exact ih10 _ _ _ _ _ | exact ih11 _ _ _ _ _ | exact ih12 _ _ _ _ _ _ _ _ _ | exact ih13 _ _ _ _ _ _ _ _ _ _ _ _ _ _ _ | exact bakelaw3_heard.mono _ | exact bakelaw3_levelFault.mono _ _ | exact samp_Mix.mono _ _ | exact samp_Period.mono _ _ | exact samp_Range.mono _ _ | exact samp_Smooth.mono _ _ _ | exact slices_ContainsFunc_int_int_138.mono _ _ | exact slices_Equal_int_int.mono _ _ _ | exact slices_Max_int_int.mono _ _ | exact slices_Min_int_int.mono _ _ | exact LeO.refl _ | exact LeO.none _)
   | (with_reducible refine LeO.ite ?_ ?_)
   | (with_reducible refine LeO.bind ?_ (fun _ => ?_))
   | exact ih0 _ _ _ _ _ _ _ | exact ih1 _ _ _ _ _ _ _ _ _ _ | exact ih2 _ _ _ _ _ _ _ _ | exact ih3 _ _ _ _ _ _ _ | exact ih4 _ _ _ _ _ _ _ | exact ih5 _ _ _ _ | exact ih6 _ _ _ _ _ _ _ | exact ih7 _ _ _ _ _ _ | exact ih8 _ _ _ _ _ _ | exact ih9 _ _ _ _ _ _ | exact ih10 _ _ _ _ _ | exact ih11 _ _ _ _ _ | exact ih12 _ _ _ _ _ _ _ _ _ | exact ih13 _ _ _ _ _ _ _ _ _ _ _ _ _ _ _ | exact bakelaw3_heard.mono _ | exact bakelaw3_levelFault.mono _ _ | exact samp_Mix.mono _ _ | exact samp_Period.mono _ _ | exact samp_Range.mono _ _ | exact samp_Smooth.mono _ _ _ | exact slices_ContainsFunc_int_int_138.mono _ _ | exact slices_Equal_int_int.mono _ _ _ | exact slices_Max_int_int.mono _ _ | exact slices_Min_int_int.mono _ _ | exact LeO.none _
   | refine LeO.ite ?_ ?_
   | refine LeO.bind ?_ (fun _ => ?_)
  ·
   intro y0 y1 y2 y3 y4 y5 y6
   unfold bakelaw3_SampMixes.j4
   repeat' first
   | (with_reducible first | exact ih0 _ _ _ _ _ _ _ | exact ih1 _ _ _ _ _ _ _ _ _ _ | exact ih2 _ _ _ _ _ _ _ _ | exact ih3 _ _ _ _ _ _ _ | exact ih4 _ _ _ _ _ _ _ | exact ih5 _ _ _ _ | exact ih6 _ _ _ _ _ _ _ | exact ih7 _ _ _ _ _ _ | exact ih8 _ _ _ _ _ _ | exact ih9 _ _ _ _ _ _ | exact ih10 _ _ _ _ _ | exact ih11 _ _ _ _ _ | exact ih12 _ _ _ _ _ _ _ _ _ | exact ih13 _ _ _ _ _ _ _ _ _ _ _ _ _ _ _ | exact bakelaw3_heard.mono _ | exact bakelaw3_levelFault.mono _ _ | exact samp_Mix.mono _ _ | exact samp_Period.mono _ _ | exact samp_Range.mono _ _ | exact samp_Smooth.mono _ _ _ | exact slices_ContainsFunc_int_int_138.mono _ _ | exact slices_Equal_int_int.mono _ _ _ | exact slices_Max_int_int.mono _ _ | exact slices_Min_int_int.mono _ _ | exact LeO.refl _ | exact LeO.none _)
   | (with_reducible refine LeO.ite ?_ ?_)
   | (with_reducible refine LeO.bind ?_ (fun _ => ?_))
   | exact ih0 _ _ _ _ _ _ _ | exact ih1 _ _ _ _ _ _ _ _ _ _ | exact ih2 _ _ _ _ _ _ _ _ | exact ih3 _ _ _ _ _ _ _ | exact ih4 _ _ _ _ _ _ _ | exact ih5 _ _ _ _ | exact ih6 _ _ _ _ _ _ _ | exact ih7 _ _ _ _ _ _ | exact ih8 _ _ _ _ _ _ | exact ih9 _ _ _ _ _ _ | exact ih10 _ _ _ _ _ | exact ih11 _ _ _ _ _ | exact ih12 _ _ _ _ _ _ _ _ _ | exact ih13 _ _ _ _ _ _ _ _ _ _ _ _ _ _ _ | exact bakelaw3_heard.mono _ | exact bakelaw3_levelFault.mono _ _ | exact samp_Mix.mono _ _ | exact samp_Period.mono _ _ | exact samp_Range.mono _ _ | exact samp_Smooth.mono _ _ _ | exact slices_ContainsFunc_int_int_138.mono _ _ | exact slices_Equal_int_int.mono _ _ _ | exact slices_Max_int_int.mono _ _ | exact slices_Min_int_int.mono _ _ | exact LeO.none _
   | refine LeO.ite ?_ ?_
   | refine LeO.bind ?_ (fun _ => ?_)
  ·
   intro y0 y1 y2 y3
   unfold bakelaw3_SampMixes.j5
   repeat' first
   | (with_reducible first | exact ih0 _ _ _ _ _ _ _ | exact ih1 _ _ _ _ _ _ _ _ _ _ | exact ih2 _ _ _ _ _ _ _ _ | exact ih3 _ _ _ _ _ _ _ | exact ih4 _ _ _ _ _ _ _ | exact ih5 _ _ _ _ | exact ih6 _ _ _ _ _ _ _ | exact ih7 _ _ _ _ _ _ | exact ih8 _ _ _ _ _ _ | exact ih9 _ _ _ _ _ _ | exact ih10 _ _ _ _ _ | exact ih11 _ _ _ _ _ | exact ih12 _ _ _ _ _ _ _ _ _ | exact ih13 _ _ _ _ _ _ _ _ _ _ _ _ _ _ _ | exact bakelaw3_heard.mono _ | exact bakelaw3_levelFault.mono _ _ | exact samp_Mix.mono _ _ | exact samp_Period.mono _ _ | exact samp_Range.mono _ _ | exact samp_Smooth.mono _ _ _ | exact slices_ContainsFunc_int_int_138.mono _ _ | exact slices_Equal_int_int.mono _ _ _ | exact slices_Max_int_int.mono _ _ | exact slices_Min_int_int.mono _ _ | exact LeO.refl _ | exact LeO.none _)
   | (with_reducible refine LeO.ite ?_ ?_)
   | (with_reducible refine LeO.bind ?_ (fun _ => ?_))
   | exact ih0 _ _ _ _ _ _ _ | exact ih1 _ _ _ _ _ _ _ _ _ _ | exact ih2 _ _ _ _ _ _ _ _ | exact ih3 _ _ _ _ _ _ _ | exact ih4 _ _ _ _ _ _ _ | exact ih5 _ _ _ _ | exact ih6 _ _ _ _ _ _ _ | exact ih7 _ _ _ _ _ _ | exact ih8 _ _ _ _ _ _ | exact ih9 _ _ _ _ _ _ | exact ih10 _ _ _ _ _ | exact ih11 _ _ _ _ _ | exact ih12 _ _ _ _ _ _ _ _ _ | exact ih13 _ _ _ _ _ _ _ _ _ _ _ _ _ _ _ | exact bakelaw3_heard.mono _ | exact bakelaw3_levelFault.mono _ _ | exact samp_Mix.mono _ _ | exact samp_Period.mono _ _ | exact samp_Range.mono _ _ | exact samp_Smooth.mono _ _ _ | exact slices_ContainsFunc_int_int_138.mono _ _ | exact slices_Equal_int_int.mono _ _ _ | exact slices_Max_int_int.mono _ _ | exact slices_Min_int_int.mono _ _ | exact LeO.none _
   | refine LeO.ite ?_ ?_
   | refine LeO.bind ?_ (fun _ => ?_)
  ·
   intro y0 y1 y2 y3 y4 y5 y6
   unfold bakelaw3_SampMixes.j6
   repeat' first
   | (with_reducible first | exact ih0 _ _ _ _ _ _ _ | exact ih1 _ _ _ _ _ _ _ _ _ _ | exact ih2 _ _ _ _ _ _ _ _ | exact ih3 _ _ _ _ _ _ _ | exact ih4 _ _ _ _ _ _ _ | exact ih5 _ _ _ _ | exact ih6 _ _ _ _ _ _ _ | exact ih7 _ _ _ _ _ _ | exact ih8 _ _ _ _ _ _ | exact ih9 _ _ _ _ _ _ | exact ih10 _ _ _ _ _ | exact ih11 _ _ _ _ _ | exact ih12 _ _ _ _ _ _ _ _ _ | exact ih13 _ _ _ _ _ _ _ _ _ _ _ _ _ _ _ | exact bakelaw3_heard.mono _ | exact bakelaw3_levelFault.mono _ _ | exact samp_Mix.mono _ _ | exact samp_Period.mono _ _ | exact samp_Range.mono _ _ | exact samp_Smooth.mono _ _ _ | exact slices_ContainsFunc_int_int_138.mono _ _ | exact slices_Equal_int_int.mono _ _ _ | exact slices_Max_int_int.mono _ _ | exact slices_Min_int_int.mono _ _ | exact LeO.refl _ | exact LeO.none _)
   | (with_reducible refine LeO.ite ?_ ?_)
   | (with_reducible refine LeO.bind ?_ (fun _ => ?_))
   | exact ih0 _ _ _ _ _ _ _ | exact ih1 _ _ _ _ _ _ _ _ _ _ | exact ih2 _ _ _ _ _ _ _ _ | exact ih3 _ _ _ _ _ _ _ | exact ih4 _ _ _ _ _ _ _ | exact ih5 _ _ _ _ | exact ih6 _ _ _ _ _ _ _ | exact ih7 _ _ _ _ _ _ | exact ih8 _ _ _ _ _ _ | exact ih9 _ _ _ _ _ _ | exact ih10 _ _ _ _ _ | exact ih11 _ _ _ _ _ | exact ih12 _ _ _ _ _ _ _ _ _ | exact ih13 _ _ _ _ _ _ _ _ _ _ _ _ _ _ _ | exact bakelaw3_heard.mono _ | exact bakelaw3_levelFault.mono _ _ | exact samp_Mix.mono _ _ | exact samp_Period.mono _ _ | exact samp_Range.mono _ _ | exact samp_Smooth.mono _ _ _ | exact slices_ContainsFunc_int_int_138.mono _ _ | exact slices_Equal_int_int.mono _ _ _ | exact slices_Max_int_int.mono _ _ | exact slices_Min_int_int.mono _ _ | exact LeO.none _
   | refine LeO.ite ?_ ?_
   | refine LeO.bind ?_ (fun _ => ?_)
  ·
   intro y0 y1 y2 y3 y4 y5
   unfold bakelaw3_SampMixes.j7
   repeat' first
   | (with_reducible first | exact ih0 _ _ _ _ _ _ _ | exact ih1 _ _ _ _ _ _ _ _ _ _ | exact ih2 _ _ _ _ _ _ _ _ | exact ih3 _ _ _ _ _ _ _ | exact ih4 _ _ _ _ _ _ _ | exact ih5 _ _ _ _ | exact ih6 _ _ _ _ _ _ _ | exact ih7 _ _ _ _ _ _ | exact ih8 _ _ _ _ _ _ | exact ih9 _ _ _ _ _ _ | exact ih10 _ _ _ _ _ | exact ih11 _ _ _ _ _ | exact ih12 _ _ _ _ _ _ _ _ _ | exact ih13 _ _ _ _ _ _ _ _ _ _ _ _ _ _ _ | exact bakelaw3_heard.mono _ | exact bakelaw3_levelFault.mono _ _ | exact samp_Mix.mono _ _ | exact samp_Period.mono _ _ | exact samp_Range.mono _ _ | exact samp_Smooth.mono _ _ _ | exact slices_ContainsFunc_int_int_138.mono _ _ | exact slices_Equal_int_int.mono _ _ _ | exact slices_Max_int_int.mono _ _ | exact slices_Min_int_int.mono _ _ | exact LeO.refl _ | exact LeO.none _)
   | (with_reducible refine LeO.ite ?_ ?_)
   | (with_reducible refine LeO.bind ?_ (fun _ => ?_))
   | exact ih0 _ _ _ _ _ _ _ | exact ih1 _ _ _ _ _ _ _ _ _ _ | exact ih2 _ _ _ _ _ _ _ _ | exact ih3 _ _ _ _ _ _ _ | exact ih4 _ _ _ _ _ _ _ | exact ih5 _ _ _ _ | exact ih6 _ _ _ _ _ _ _ | exact ih7 _ _ _ _ _ _ | exact ih8 _ _ _ _ _ _ | exact ih9 _ _ _ _ _ _ | exact ih10 _ _ _ _ _ | exact ih11 _ _ _ _ _ | exact ih12 _ _ _ _ _ _ _ _ _ | exact ih13 _ _ _ _ _ _ _ _ _ _ _ _ _ _ _ | exact bakelaw3_heard.mono _ | exact bakelaw3_levelFault.mono _ _ | exact samp_Mix.mono _ _ | exact samp_Period.mono _ _ | exact samp_Range.mono _ _ | exact samp_Smooth.mono _ _ _ | exact slices_ContainsFunc_int_int_138.mono _ _ | exact slices_Equal_int_int.mono _ _ _ | exact slices_Max_int_int.mono _ _ | exact slices_Min_int_int.mono _ _ | exact LeO.none _
   | refine LeO.ite ?_ ?_
   | refine LeO.bind ?_ (fun _ => ?_)
  ·
   intro y0 y1 y2 y3 y4 y5
   unfold bakelaw3_SampMixes.j10
   repeat' first
   | (with_reducible first | exact ih0 _ _ _ _ _ _ _ | exact ih1 _ _ _ _ _ _ _ _ _ _ | exact ih2 _ _ _ _ _ _ _ _ | exact ih3 _ _ _ _ _ _ _ | exact ih4 _ _ _ _ _ _ _ | exact ih5 _ _ _ _ | exact ih6 _ _ _ _ _ _ _ | exact ih7 _ _ _ _ _ _ | exact ih8 _ _ _ _ _ _ | exact ih9 _ _ _ _ _ _ | exact ih10 _ _ _ _ _ | exact ih11 _ _ _ _ _ | exact ih12 _ _ _ _ _ _ _ _ _ | exact ih13 _ _ _ _ _ _ _ _ _ _ _ _ _ _ _ | exact bakelaw3_heard.mono _ | exact bakelaw3_levelFault.mono _ _ | exact samp_Mix.mono _ _ | exact samp_Period.mono _ _ | exact samp_Range.mono _ _ | exact samp_Smooth.mono _ _ _ | exact slices_ContainsFunc_int_int_138.mono _ _ | exact slices_Equal_int_int.mono _ _ _ | exact slices_Max_int_int.mono _ _ | exact slices_Min_int_int.mono _ _ | exact LeO.refl _ | exact LeO.none _)
   | (with_reducible refine LeO.ite ?_ ?_)
   | (with_reducible refine LeO.bind ?_ (fun _ => ?_))
   | exact ih0 _ _ _ _ _ _ _ | exact ih1 _ _ _ _ _ _ _ _ _ _ | exact ih2 _ _ _ _ _ _ _ _ | exact ih3 _ _ _ _ _ _ _ | exact ih4 _ _ _ _ _ _ _ | exact ih5 _ _ _ _ | exact ih6 _ _ _ _ _ _ _ | exact ih7 _ _ _ _ _ _ | exact ih8 _ _ _ _ _ _ | exact ih9 _ _ _ _ _ _ | exact ih10 _ _ _ _ _ | exact ih11 _ _ _ _ _ | exact ih12 _ _ _ _ _ _ _ _ _ | exact ih13 _ _ _ _ _ _ _ _ _ _ _ _ _ _ _ | exact bakelaw3_heard.mono _ | exact bakelaw3_levelFault.mono _ _ | exact samp_Mix.mono _ _ | exact samp_Period.mono _ _ | exact samp_Range.mono _ _ | exact samp_Smooth.mono _ _ _ | exact slices_ContainsFunc_int_int_138.mono _ _ | exact slices_Equal_int_int.mono _ _ _ | exact slices_Max_int_int.mono _ _ | exact slices_Min_int_int.mono _ _ | exact LeO.none _
   | refine LeO.ite ?_ ?_
   | refine LeO.bind ?_ (fun _ => ?_)
  ·
   intro y0 y1 y2 y3 y4 y5
   unfold bakelaw3_SampMixes.j11
   repeat' first
   | (with_reducible first | exact ih0 _ _ _ _ _ _ _ | exact ih1 _ _ _ _ _ _ _ _ _ _ | exact ih2 _ _ _ _ _ _ _ _ | exact ih3 _ _ _ _ _ _ _ | exact ih4 _ _ _ _ _ _ _ | exact ih5 _ _ _ _ | exact ih6 _ _ _ _ _ _ _ | exact ih7 _ _ _ _ _ _ | exact ih8 _ _ _ _ _ _ | exact ih9 _ _ _ _ _ _ | exact ih10 _ _ _ _ _ | exact ih11 _ _ _ _ _ | exact ih12 _ _ _ _ _ _ _ _ _ | exact ih13 _ _ _ _ _ _ _ _ _ _ _ _ _ _ _ | exact bakelaw3_heard.mono _ | exact bakelaw3_levelFault.mono _ _ | exact samp_Mix.mono _ _ | exact samp_Period.mono _ _ | exact samp_Range.mono _ _ | exact samp_Smooth.mono _ _ _ | exact slices_ContainsFunc_int_int_138.mono _ _ | exact slices_Equal_int_int.mono _ _ _ | exact slices_Max_int_int.mono _ _ | exact slices_Min_int_int.mono _ _ | exact LeO.refl _ | exact LeO.none _)
   | (with_reducible refine LeO.ite ?_ ?_)
   | (with_reducible refine LeO.bind ?_ (fun _ => ?_))
   | exact ih0 _ _ _ _ _ _ _ | exact ih1 _ _ _ _ _ _ _ _ _ _ | exact ih2 _ _ _ _ _ _ _ _ | exact ih3 _ _ _ _ _ _ _ | exact ih4 _ _ _ _ _ _ _ | exact ih5 _ _ _ _ | exact ih6 _ _ _ _ _ _ _ | exact ih7 _ _ _ _ _ _ | exact ih8 _ _ _ _ _ _ | exact ih9 _ _ _ _ _ _ | exact ih10 _ _ _ _ _ | exact ih11 _ _ _ _ _ | exact ih12 _ _ _ _ _ _ _ _ _ | exact ih13 _ _ _ _ _ _ _ _ _ _ _ _ _ _ _ | exact bakelaw3_heard.mono _ | exact bakelaw3_levelFault.mono _ _ | exact samp_Mix.mono _ _ | exact samp_Period.mono _ _ | exact samp_Range.mono _ _ | exact samp_Smooth.mono _ _ _ | exact slices_ContainsFunc_int_int_138.mono _ _ | exact slices_Equal_int_int.mono _ _ _ | exact slices_Max_int_int.mono _ _ | exact slices_Min_int_int.mono _ _ | exact LeO.none _
   | refine LeO.ite ?_ ?_
   | refine LeO.bind ?_ (fun _ => ?_)
  ·
   intro y0 y1 y2 y3 y4
   unfold bakelaw3_SampMixes.j12
   repeat' first
   | (with_reducible first | exact ih0 _ _ _ _ _ _ _ | exact ih1 _ _ _ _ _ _ _ _ _ _ | exact ih2 _ _ _ _ _ _ _ _ | exact ih3 _ _ _ _ _ _ _ | exact ih4 _ _ _ _ _ _ _ | exact ih5 _ _ _ _ | exact ih6 _ _ _ _ _ _ _ | exact ih7 _ _ _ _ _ _ | exact ih8 _ _ _ _ _ _ | exact ih9 _ _ _ _ _ _ | exact ih10 _ _ _ _ _ | exact ih11 _ _ _ _ _ | exact ih12 _ _ _ _ _ _ _ _ _ | exact ih13 _ _ _ _ _ _ _ _ _ _ _ _ _ _ _ | exact bakelaw3_heard.mono _ | exact bakelaw3_levelFault.mono _ _ | exact samp_Mix.mono _ _ | exact samp_Period.mono _ _ | exact samp_Range.mono _ _ | exact samp_Smooth.mono _ _ _ | exact slices_ContainsFunc_int_int_138.mono _ _ | exact slices_Equal_int_int.mono _ _ _ | exact slices_Max_int_int.mono _ _ | exact slices_Min_int_int.mono _ _ | exact LeO.refl _ | exact LeO.none _)
   | (with_reducible refine LeO.ite ?_ ?_)
   | (with_reducible refine LeO.bind ?_ (fun _ => ?_))
   | exact ih0 _ _ _ _ _ _ _ | exact ih1 _ _ _ _ _ _ _ _ _ _ | exact ih2 _ _ _ _ _ _ _ _ | exact ih3 _ _ _ _ _ _ _ | exact ih4 _ _ _ _ _ _ _ | exact ih5 _ _ _ _ | exact ih6 _ _ _ _ _ _ _ | exact ih7 _ _ _ _ _ _ | exact ih8 _ _ _ _ _ _ | exact ih9 _ _ _ _ _ _ | exact ih10 _ _ _ _ _ | exact ih11 _ _ _ _ _ | exact ih12 _ _ _ _ _ _ _ _ _ | exact ih13 _ _ _ _ _ _ _ _ _ _ _ _ _ _ _ | exact bakelaw3_heard.mono _ | exact bakelaw3_levelFault.mono _ _ | exact samp_Mix.mono _ _ | exact samp_Period.mono _ _ | exact samp_Range.mono _ _ | exact samp_Smooth.mono _ _ _ | exact slices_ContainsFunc_int_int_138.mono _ _ | exact slices_Equal_int_int.mono _ _ _ | exact slices_Max_int_int.mono _ _ | exact slices_Min_int_int.mono _ _ | exact LeO.none _
   | refine LeO.ite ?_ ?_
   | refine LeO.bind ?_ (fun _ => ?_)
  ·
   intro y0 y1 y2 y3 y4
   unfold bakelaw3_SampMixes.l3
   repeat' first
   | (with_reducible first | exact ih0 _ _ _ _ _ _ _ | exact ih1 _ _ _ _ _ _ _ _ _ _ | exact ih2 _ _ _ _ _ _ _ _ | exact ih3 _ _ _ _ _ _ _ | exact ih4 _ _ _ _ _ _ _ | exact ih5 _ _ _ _ | exact ih6 _ _ _ _ _ _ _ | exact ih7 _ _ _ _ _ _ | exact ih8 _ _ _ _ _ _ | exact ih9 _ _ _ _ _ _ | exact ih10 _ _ _ _ _ | exact ih11 _ _ _ _ _ | exact ih12 _ _ _ _ _ _ _ _ _ | exact ih13 _ _ _ _ _ _ _ _ _ _ _ _ _ _ _ | exact bakelaw3_heard.mono _ | exact bakelaw3_levelFault.mono _ _ | exact samp_Mix.mono _ _ | exact samp_Period.mono _ _ | exact samp_Range.mono _ _ | exact samp_Smooth.mono _ _ _ | exact slices_ContainsFunc_int_int_138.mono _ _ | exact slices_Equal_int_int.mono _ _ _ | exact slices_Max_int_int.mono _ _ | exact slices_Min_int_int.mono _ _ | exact LeO.refl _ | exact LeO.none _)
   | (with_reducible refine LeO.ite ?_ ?_)
   | (with_reducible refine LeO.bind ?_ (fun _ => ?_))
   | exact ih0 _ _ _ _ _ _ _ | exact ih1 _ _ _ _ _ _ _ _ _ _ | exact ih2 _ _ _ _ _ _ _ _ | exact ih3 _ _ _ _ _ _ _ | exact ih4 _ _ _ _ _ _ _ | exact ih5 _ _ _ _ | exact ih6 _ _ _ _ _ _ _ | exact ih7 _ _ _ _ _ _ | exact ih8 _ _ _ _ _ _ | exact ih9 _ _ _ _ _ _ | exact ih10 _ _ _ _ _ | exact ih11 _ _ _ _ _ | exact ih12 _ _ _ _ _ _ _ _ _ | exact ih13 _ _ _ _ _ _ _ _ _ _ _ _ _ _ _ | exact bakelaw3_heard.mono _ | exact bakelaw3_levelFault.mono _ _ | exact samp_Mix.mono _ _ | exact samp_Period.mono _ _ | exact samp_Range.mono _ _ | exact samp_Smooth.mono _ _ _ | exact slices_ContainsFunc_int_int_138.mono _ _ | exact slices_Equal_int_int.mono _ _ _ | exact slices_Max_int_int.mono _ _ | exact slices_Min_int_int.mono _ _ | exact LeO.none _
   | refine LeO.ite ?_ ?_
   | refine LeO.bind ?_ (fun _ => ?_)
  ·
   intro y0 y1 y2 y3 y4 y5 y6 y7 y8
   unfold bakelaw3_SampMixes.l1
   repeat' first
   | (with_reducible first | exact ih0 _ _ _ _ _ _ _ | exact ih1 _ _ _ _ _ _ _ _ _ _ | exact ih2 _ _ _ _ _ _ _ _ | exact ih3 _ _ _ _ _ _ _ | exact ih4 _ _ _ _ _ _ _ | exact ih5 _ _ _ _ | exact ih6 _ _ _ _ _ _ _ | exact ih7 _ _ _ _ _ _ | exact ih8 _ _ _ _ _ _ | exact ih9 _ _ _ _ _ _ | exact ih10 _ _ _ _ _ | exact ih11 _ _ _ _ _ | exact ih12 _ _ _ _ _ _ _ _ _ | exact ih13 _ _ _ _ _ _ _ _ _ _ _ _ _ _ _ | exact bakelaw3_heard.mono _ | exact bakelaw3_levelFault.mono _ _ | exact samp_Mix.mono _ _ | exact samp_Period.mono _ _ | exact samp_Range.mono _ _ | exact samp_Smooth.mono _ _ _ | exact slices_ContainsFunc_int_int_138.mono _ _ | exact slices_Equal_int_int.mono _ _ _ | exact slices_Max_int_int.mono _ _ | exact slices_Min_int_int.mono _ _ | exact LeO.refl _ | exact LeO.none _)
   | (with_reducible refine LeO.ite ?_ ?_)
   | (with_reducible refine LeO.bind ?_ (fun _ => ?_))
   | exact ih0 _ _ _ _ _ _ _ | exact ih1 _ _ _ _ _ _ _ _ _ _ | exact ih2 _ _ _ _ _ _ _ _ | exact ih3 _ _ _ _ _ _ _ | exact ih4 _ _ _ _ _ _ _ | exact ih5 _ _ _ _ | exact ih6 _ _ _ _ _ _ _ | exact ih7 _ _ _ _ _ _ | exact ih8 _ _ _ _ _ _ | exact ih9 _ _ _ _ _ _ | exact ih10 _ _ _ _ _ | exact ih11 _ _ _ _ _ | exact ih12 _ _ _ _ _ _ _ _ _ | exact ih13 _ _ _ _ _ _ _ _ _ _ _ _ _ _ _ | exact bakelaw3_heard.mono _ | exact bakelaw3_levelFault.mono _ _ | exact samp_Mix.mono _ _ | exact samp_Period.mono _ _ | exact samp_Range.mono _ _ | exact samp_Smooth.mono _ _ _ | exact slices_ContainsFunc_int_int_138.mono _ _ | exact slices_Equal_int_int.mono _ _ _ | exact slices_Max_int_int.mono _ _ | exact slices_Min_int_int.mono _ _ | exact LeO.none _
   | refine LeO.ite ?_ ?_
   | refine LeO.bind ?_ (fun _ => ?_)
  ·
   intro y0 y1 y2 y3 y4 y5 y6 y7 y8 y9 y10 y11 y12 y13 y14
   unfold bakelaw3_SampMixes.l2
   repeat' first
   | (with_reducible first | exact ih0 _ _ _ _ _ _ _ | exact ih1 _ _ _ _ _ _ _ _ _ _ | exact ih2 _ _ _ _ _ _ _ _ | exact ih3 _ _ _ _ _ _ _ | exact ih4 _ _ _ _ _ _ _ | exact ih5 _ _ _ _ | exact ih6 _ _ _ _ _ _ _ | exact ih7 _ _ _ _ _ _ | exact ih8 _ _ _ _ _ _ | exact ih9 _ _ _ _ _ _ | exact ih10 _ _ _ _ _ | exact ih11 _ _ _ _ _ | exact ih12 _ _ _ _ _ _ _ _ _ | exact ih13 _ _ _ _ _ _ _ _ _ _ _ _ _ _ _ | exact bakelaw3_heard.mono _ | exact bakelaw3_levelFault.mono _ _ | exact samp_Mix.mono _ _ | exact samp_Period.mono _ _ | exact samp_Range.mono _ _ | exact samp_Smooth.mono _ _ _ | exact slices_ContainsFunc_int_int_138.mono _ _ | exact slices_Equal_int_int.mono _ _ _ | exact slices_Max_int_int.mono _ _ | exact slices_Min_int_int.mono _ _ | exact LeO.refl _ | exact LeO.none _)
   | (with_reducible refine LeO.ite ?_ ?_)
   | (with_reducible refine LeO.bind ?_ (fun _ => ?_))
   | exact ih0 _ _ _ _ _ _ _ | exact ih1 _ _ _ _ _ _ _ _ _ _ | exact ih2 _ _ _ _ _ _ _ _ | exact ih3 _ _ _ _ _ _ _ | exact ih4 _ _ _ _ _ _ _ | exact ih5 _ _ _ _ | exact ih6 _ _ _ _ _ _ _ | exact ih7 _ _ _ _ _ _ | exact ih8 _ _ _ _ _ _ | exact ih9 _ _ _ _ _ _ | exact ih10 _ _ _ _ _ | exact ih11 _ _ _ _ _ | exact ih12 _ _ _ _ _ _ _ _ _ | exact ih13 _ _ _ _ _ _ _ _ _ _ _ _ _ _ _ | exact bakelaw3_heard.mono _ | exact bakelaw3_levelFault.mono _ _ | exact samp_Mix.mono _ _ | exact samp_Period.mono _ _ | exact samp_Range.mono _ _ | exact samp_Smooth.mono _ _ _ | exact slices_ContainsFunc_int_int_138.mono _ _ | exact slices_Equal_int_int.mono _ _ _ | exact slices_Max_int_int.mono _ _ | exact slices_Min_int_int.mono _ _ | exact LeO.none _
   | refine LeO.ite ?_ ?_
   | refine LeO.bind ?_ (fun _ => ?_)
theorem bakelaw3_SampMixes.mono : ∀ a0 a1 a2 k, LeO (bakelaw3_SampMixes.f k a0 a1 a2) (bakelaw3_SampMixes.f (k + 1) a0 a1 a2) := by
 intro a0 a1 a2 k
 obtain ⟨ih0, ih1, ih2, ih3, ih4, ih5, ih6, ih7, ih8, ih9, ih10, ih11, ih12, ih13⟩ := bakelaw3_SampMixes.mono_l k
 unfold bakelaw3_SampMixes.f
 repeat' first
   | (with_reducible first | exact ih0 _ _ _ _ _ _ _ | exact ih1 _ _ _ _ _ _ _ _ _ _ | exact ih2 _ _ _ _ _ _ _ _ | exact ih3 _ _ _ _ _ _ _ | exact ih4 _ _ _ _ _ _ _ | exact ih5 _ _ _ _ | exact ih6 _ _ _ _ _ _ _ | exact ih7 _ _ _ _ _ _ | exact ih8 _ _ _ _ _ _ | exact ih9 _ _ _ _ _ _ | exact ih10 _ _ _ _ _ | exact ih11 _ _ _ _ _ | exact ih12 _ _ _ _ _ _ _ _ _ | exact ih13 _ _ _ _ _ _ _ _ _ _ _ _ _ _ _ | exact bakelaw3_heard.mono _ | exact bakelaw3_levelFault.mono _ _ | exact samp_Mix.mono _ _ | exact samp_Period.mono _ _ | exact samp_Range.mono _ _ | exact samp_Smooth.mono _ _ _ | exact slices_ContainsFunc_int_int_138.mono _ _ | exact slices_Equal_int_int.mono _ _ _ | exact slices_Max_int_int.mono _ _ | exact slices_Min_int_int.mono _ _ | exact LeO.refl _ | exact LeO.none _)
   | (with_reducible refine LeO.ite ?_ ?_)
   | (with_reducible refine LeO.bind ?_ (fun _ => ?_))
   | exact ih0 _ _ _ _ _ _ _ | exact ih1 _ _ _ _ _ _ _ _ _ _ | exact ih2 _ _ _ _ _ _ _ _ | exact ih3 _ _ _ _ _ _ _ | exact ih4 _ _ _ _ _ _ _ | exact ih5 _ _ _ _ | exact ih6 _ _ _ _ _ _ _ | exact ih7 _ _ _ _ _ _ | exact ih8 _ _ _ _ _ _ | exact ih9 _ _ _ _ _ _ | exact ih10 _ _ _ _ _ | exact ih11 _ _ _ _ _ | exact ih12 _ _ _ _ _ _ _ _ _ | exact ih13 _ _ _ _ _ _ _ _ _ _ _ _ _ _ _ | exact bakelaw3_heard.mono _ | exact bakelaw3_levelFault.mono _ _ | exact samp_Mix.mono _ _ | exact samp_Period.mono _ _ | exact samp_Range.mono _ _ | exact samp_Smooth.mono _ _ _ | exact slices_ContainsFunc_int_int_138.mono _ _ | exact slices_Equal_int_int.mono _ _ _ | exact slices_Max_int_int.mono _ _ | exact slices_Min_int_int.mono _ _ | exact LeO.none _
   | refine LeO.ite ?_ ?_
   | refine LeO.bind ?_ (fun _ => ?_)
def bakelaw3_SampMixes.T1 : Bool × List (List Nat × List Nat) := (true, [([], []), ([], []), ([1], [1]), ([2], [2]), ([0, 3], [0, 3]), ([], []), ([], []), ([6], [6]), ([7], [7]), ([5, 8], [5, 8]), ([4, 0, 1, 2, 3, 4], [0, 1, 4]), ([9, 10, 0, 1, 2, 3, 4, 5, 6, 7, 8, 9, 10], [5, 6, 9])])
def bakelaw3_SampMixes.B1 : List Nat := [0, 0, 2, 6, 15, 0, 0, 64, 192, 480, 31, 2047]
theorem bakelaw3_SampMixes.tab1 : rtab .any (opsOf Try.f14 1) = bakelaw3_SampMixes.T1 := by kernel_rfl
theorem bakelaw3_SampMixes.bits1 : waitsOk bakelaw3_SampMixes.T1.2 bakelaw3_SampMixes.B1 = true := by kernel_rfl
def bakelaw3_SampMixes.T46 : Bool × List (List Nat × List Nat) := (true, [([], []), ([], []), ([0, 1], [0, 1]), ([], []), ([], []), ([4], [4]), ([], []), ([5, 6], [5, 6]), ([3, 7], [3, 7]), ([2, 8], [2, 8]), ([9], [9])])
def bakelaw3_SampMixes.B46 : List Nat := [0, 0, 3, 0, 0, 16, 0, 112, 248, 511, 1023]
theorem bakelaw3_SampMixes.tab46 : rtab .any (opsOf Try.f14 46) = bakelaw3_SampMixes.T46 := by kernel_rfl
theorem bakelaw3_SampMixes.bits46 : waitsOk bakelaw3_SampMixes.T46.2 bakelaw3_SampMixes.B46 = true := by kernel_rfl
set_option maxHeartbeats 8000000 in
set_option maxRecDepth 100000 in
theorem bakelaw3_SampMixes.calls (k : Nat) (P0_ : Nat → Prop) (A0 : Option Addr) (c0 : Nat) (l0 : List Int) (P1_ : Nat → Prop) (A1 : Option Addr) (c1 : Nat) (l1 : List Int) (a2 : Int) (r : Bool) (w : World) (hs0 : Kd.V (Kd.int .i64) 3 w w.heap.size (fun k_ => P0_ k_) (.slice A0 l0.length c0) l0) (hs1 : Kd.V (Kd.int .i64) 3 w w.heap.size (fun k_ => P1_ k_) (.slice A1 l1.length c1) l1) (h : bakelaw3_SampMixes.f k l0 l1 a2 = some r) :
  Calls Try.prog 14 #[.slice A0 l0.length c0, .slice A1 l1.length c1, .int .i64 a2] w fun e w' => e = .returned (.bool r) ∧ Below w.heap.size w w' := by
 have HO0 := Aside0.mk (show Kd.V (Kd.int .i64) 3 w w.heap.size (fun k_ => ((P0_ k_ ∨ P1_ k_) ∨ w.heap.size ≤ k_)) (.slice A0 l0.length c0) l0 from Kd.V_mono hs0 (fun k_ hk => .inl (.inl hk)))
 have HO1 := Aside0.mk (show Kd.V (Kd.int .i64) 3 w w.heap.size (fun k_ => ((P0_ k_ ∨ P1_ k_) ∨ w.heap.size ≤ k_)) (.slice A1 l1.length c1) l1 from Kd.V_mono hs1 (fun k_ hk => .inl (.inr hk)))
 have HB := Aside0.mk (Below.refl w.heap.size w)
 have H : (if 0 ≤ (mn (l0.length : Int) 200) then (if (mn (l0.length : Int) 200) ≤ (l0.length : Int) then ((some (l0.take ((mn (l0.length : Int) 200) : Int).toNat : List Int)).bind fun y186 => (if 0 ≤ (mn (l1.length : Int) 200) then (if (mn (l1.length : Int) 200) ≤ (l1.length : Int) then ((some (l1.take ((mn (l1.length : Int) 200) : Int).toNat : List Int)).bind fun y191 => ((samp_Mix.f k (([y186, y191, y186] : List (List Int)))).bind fun bt199 => ((bakelaw3_levelFault.f k y186).bind fun t203 => (if t203 = 0 then ((bakelaw3_levelFault.f k y191).bind fun t204 => (bakelaw3_SampMixes.j0 k y186 y191 a2 bt199.1 bt199.2 t204 t203)) else (bakelaw3_SampMixes.j0 k y186 y191 a2 bt199.1 bt199.2 t203 t203))))) else (none)) else (none))) else (none)) else (none)) = some r := h
 clear h
 obtain ⟨ji4, hji4⟩ : ∃ j_ : Int, (mn (l0.length : Int) 200) = j_ := ⟨_, rfl⟩
 replace H : (if 0 ≤ (ji4) then (if (ji4) ≤ (l0.length : Int) then ((some (l0.take ((ji4) : Int).toNat : List Int)).bind fun y186 => (if 0 ≤ (mn (l1.length : Int) 200) then (if (mn (l1.length : Int) 200) ≤ (l1.length : Int) then ((some (l1.take ((mn (l1.length : Int) 200) : Int).toNat : List Int)).bind fun y191 => ((samp_Mix.f k (([y186, y191, y186] : List (List Int)))).bind fun bt199 => ((bakelaw3_levelFault.f k y186).bind fun t203 => (if t203 = 0 then ((bakelaw3_levelFault.f k y191).bind fun t204 => (bakelaw3_SampMixes.j0 k y186 y191 a2 bt199.1 bt199.2 t204 t203)) else (bakelaw3_SampMixes.j0 k y186 y191 a2 bt199.1 bt199.2 t203 t203))))) else (none)) else (none))) else (none)) else (none)) = some r := by first | (rw [hji4] at H; exact H) | (simp only [hji4] at H ⊢; exact H)
 (try (have hji4h : ji4 ≤ 200 := by (rw [← hji4]; unfold mn; (repeat' split) <;> omega)))
 (try (have hji4g : ji4 ≤ 64 := by omega))
 (try (have hji4l : 0 ≤ ji4 := by (rw [← hji4]; unfold mn; (repeat' split) <;> omega)))
 (try (have hji4m : 0 ≤ ji4 := by omega))
 have hji4_ : (if 200 < (l0.length : Int) then 200 else (l0.length : Int)) = ji4 := hji4
 have hji4n_ : (if 200 < l0.length then 200 else (l0.length : Int)) = ji4 := by (rw [← hji4_]; (repeat' split) <;> first | rfl | omega)
 by_cases c5 : 0 ≤ (ji4)
 ·
  rw [if_pos c5] at H
  have c5b0 := eq_true c5
  have c5b1 : decide (0 ≤ (ji4)) = true := decide_eq_true c5
  clear c5
  by_cases c6 : (ji4) ≤ (l0.length : Int)
  ·
   rw [if_pos c6] at H
   have c6b0 := eq_true c6
   have c6b1 : decide ((ji4) ≤ (l0.length : Int)) = true := decide_eq_true c6
   clear c6
   obtain ⟨y186, hy186⟩ : ∃ y_ : List Int, y_ = (l0.take ((ji4) : Int).toNat) := ⟨_, rfl⟩
   replace H : (if 0 ≤ (mn (l1.length : Int) 200) then (if (mn (l1.length : Int) 200) ≤ (l1.length : Int) then ((some (l1.take ((mn (l1.length : Int) 200) : Int).toNat : List Int)).bind fun y191 => ((samp_Mix.f k (([y186, y191, y186] : List (List Int)))).bind fun bt199 => ((bakelaw3_levelFault.f k y186).bind fun t203 => (if t203 = 0 then ((bakelaw3_levelFault.f k y191).bind fun t204 => (bakelaw3_SampMixes.j0 k y186 y191 a2 bt199.1 bt199.2 t204 t203)) else (bakelaw3_SampMixes.j0 k y186 y191 a2 bt199.1 bt199.2 t203 t203))))) else (none)) else (none)) = some r := by first | (rw [hy186]; with_reducible exact H) | (have H2_ := (Option.bind_some _ _).symm.trans H; rw [hy186]; with_reducible exact H2_) | (have H2_ := (Option.bind_some _ _).symm.trans H; with_reducible exact H2_) | with_reducible exact H | (rw [hy186]; exact H) | exact H
   have Ny186 := Aside0.mk hy186
   clear hy186
   obtain ⟨ji7, hji7⟩ : ∃ j_ : Int, (mn (l1.length : Int) 200) = j_ := ⟨_, rfl⟩
   replace H : (if 0 ≤ (ji7) then (if (ji7) ≤ (l1.length : Int) then ((some (l1.take ((ji7) : Int).toNat : List Int)).bind fun y191 => ((samp_Mix.f k (([y186, y191, y186] : List (List Int)))).bind fun bt199 => ((bakelaw3_levelFault.f k y186).bind fun t203 => (if t203 = 0 then ((bakelaw3_levelFault.f k y191).bind fun t204 => (bakelaw3_SampMixes.j0 k y186 y191 a2 bt199.1 bt199.2 t204 t203)) else (bakelaw3_SampMixes.j0 k y186 y191 a2 bt199.1 bt199.2 t203 t203))))) else (none)) else (none)) = some r := by first | (rw [hji7] at H; exact H) | (simp only [hji7] at H ⊢; exact H)
   (try (have hji7h : ji7 ≤ 200 := by (rw [← hji7]; unfold mn; (repeat' split) <;> omega)))
   (try (have hji7g : ji7 ≤ 64 := by omega))
   (try (have hji7l : 0 ≤ ji7 := by (rw [← hji7]; unfold mn; (repeat' split) <;> omega)))
   (try (have hji7m : 0 ≤ ji7 := by omega))
   have hji7_ : (if 200 < (l1.length : Int) then 200 else (l1.length : Int)) = ji7 := hji7
   have hji7n_ : (if 200 < l1.length then 200 else (l1.length : Int)) = ji7 := by (rw [← hji7_]; (repeat' split) <;> first | rfl | omega)
   by_cases c8 : 0 ≤ (ji7)
   ·
    rw [if_pos c8] at H
    have c8b0 := eq_true c8
    have c8b1 : decide (0 ≤ (ji7)) = true := decide_eq_true c8
    clear c8
    by_cases c9 : (ji7) ≤ (l1.length : Int)
    ·
     rw [if_pos c9] at H
     have c9b0 := eq_true c9
     have c9b1 : decide ((ji7) ≤ (l1.length : Int)) = true := decide_eq_true c9
     clear c9
     obtain ⟨y191, hy191⟩ : ∃ y_ : List Int, y_ = (l1.take ((ji7) : Int).toNat) := ⟨_, rfl⟩
     replace H : ((samp_Mix.f k (([y186, y191, y186] : List (List Int)))).bind fun bt199 => ((bakelaw3_levelFault.f k y186).bind fun t203 => (if t203 = 0 then ((bakelaw3_levelFault.f k y191).bind fun t204 => (bakelaw3_SampMixes.j0 k y186 y191 a2 bt199.1 bt199.2 t204 t203)) else (bakelaw3_SampMixes.j0 k y186 y191 a2 bt199.1 bt199.2 t203 t203)))) = some r := by first | (rw [hy191]; with_reducible exact H) | (have H2_ := (Option.bind_some _ _).symm.trans H; rw [hy191]; with_reducible exact H2_) | (have H2_ := (Option.bind_some _ _).symm.trans H; with_reducible exact H2_) | with_reducible exact H | (rw [hy191]; exact H) | exact H
     have Ny191 := Aside0.mk hy191
     clear hy191
     obtain ⟨y196, hy196⟩ : ∃ y_ : List (List Int), y_ = (([y186, y191, y186] : List (List Int))) := ⟨_, rfl⟩
     replace H : ((samp_Mix.f k y196).bind fun bt199 => ((bakelaw3_levelFault.f k y186).bind fun t203 => (if t203 = 0 then ((bakelaw3_levelFault.f k y191).bind fun t204 => (bakelaw3_SampMixes.j0 k y186 y191 a2 bt199.1 bt199.2 t204 t203)) else (bakelaw3_SampMixes.j0 k y186 y191 a2 bt199.1 bt199.2 t203 t203)))) = some r := by first | (rw [hy196]; with_reducible exact H) | (have H2_ := (Option.bind_some _ _).symm.trans H; rw [hy196]; with_reducible exact H2_) | (have H2_ := (Option.bind_some _ _).symm.trans H; with_reducible exact H2_) | with_reducible exact H | (rw [hy196]; exact H) | exact H
     have Ny196 := Aside0.mk hy196
     clear hy196
     replace H := Option.bind_eq_some_iff.mp H
     obtain ⟨⟨t199, t200⟩, A100, H⟩ := H
     replace H : ((bakelaw3_levelFault.f k y186).bind fun t203 => (if t203 = 0 then ((bakelaw3_levelFault.f k y191).bind fun t204 => (bakelaw3_SampMixes.j0 k y186 y191 a2 t199 t200 t204 t203)) else (bakelaw3_SampMixes.j0 k y186 y191 a2 t199 t200 t203 t203))) = some r := H
     have A10 := Aside0.mk A100
     clear A100
     replace H := Option.bind_eq_some_iff.mp H
     obtain ⟨t203, A110, H⟩ := H
     replace H : (if t203 = 0 then ((bakelaw3_levelFault.f k y191).bind fun t204 => (bakelaw3_SampMixes.j0 k y186 y191 a2 t199 t200 t204 t203)) else (bakelaw3_SampMixes.j0 k y186 y191 a2 t199 t200 t203 t203)) = some r := H
     have A11 := Aside0.mk A110
     clear A110
     have HC12 := Aside0.mk H
     clear H
     go_enter Try.func14, Try.ntmps14
     try go_wp2
     have n0_ := Aside0.mk (Kd.V_drew HO0.out)
     have n1_ := Aside0.mk (Kd.V_drew HO1.out)
     have n2_ := Aside0.mk (below_drew1 HB.out)
     clear HO0
     clear HO1
     clear HB
     have HO0 := n0_
     have HO1 := n1_
     have HB := n2_
     clear n0_ n1_ n2_
     have q14 : ((ji4) : Int) ≤ ((l0.length : Int) : Int) := of_decide_eq_true (by first | (with_reducible assumption) | assumption)
     obtain ⟨i014, hi014, _, hsz14, _⟩ := info_parts info3
     have hroom14 : l0.length ≤ c0 := (Kd.V_reads' HO0.out).2.1
     have hC14 : Kd.F (Kd.int .i64) _ _ A0 l0.length l0 := (Kd.V_at (base := w.heap.size) HO0.out).2.2
     have hcut14 := cut_to (P := Try.prog) 22 3 .i64 Try.underlying22 hi014 A0 l0.length c0 (ji4) (of_decide_eq_true (by first | (with_reducible assumption) | assumption)) q14 hroom14
     have hr14 := Kd.F_take (m := ((ji4) : Int).toNat) hC14 (by omega)
     have hy14 : y186.length = ((ji4) : Int).toNat := (by rw [Ny186.out, List.length_take]; omega)
     rw [← Ny186.out] at hr14
     rw [← hy14] at hcut14
     have HO190 := Aside0.mk (show Kd.V (Kd.int .i64) 3 _ w.heap.size _ (.slice A0 y186.length c0) y186 from Kd.V_mk (by omega) hr14)
     have HC190 := Aside0.mk (show y186.length ≤ c0 from by omega)
     clear hr14 hC14 hroom14 hi014 hsz14
     have KY14 := Aside0.mk hy14
     clear hy14
     replace q14 := eq_true q14
     have q15 : ((ji7) : Int) ≤ ((l1.length : Int) : Int) := of_decide_eq_true (by first | (with_reducible assumption) | assumption)
     obtain ⟨i015, hi015, _, hsz15, _⟩ := info_parts info3
     have hroom15 : l1.length ≤ c1 := (Kd.V_reads' HO1.out).2.1
     have hC15 : Kd.F (Kd.int .i64) _ _ A1 l1.length l1 := (Kd.V_at (base := w.heap.size) HO1.out).2.2
     have hcut15 := cut_to (P := Try.prog) 22 3 .i64 Try.underlying22 hi015 A1 l1.length c1 (ji7) (of_decide_eq_true (by first | (with_reducible assumption) | assumption)) q15 hroom15
     have hr15 := Kd.F_take (m := ((ji7) : Int).toNat) hC15 (by omega)
     have hy15 : y191.length = ((ji7) : Int).toNat := (by rw [Ny191.out, List.length_take]; omega)
     rw [← Ny191.out] at hr15
     rw [← hy15] at hcut15
     have HO195 := Aside0.mk (show Kd.V (Kd.int .i64) 3 _ w.heap.size _ (.slice A1 y191.length c1) y191 from Kd.V_mk (by omega) hr15)
     have HC195 := Aside0.mk (show y191.length ≤ c1 from by omega)
     clear hr15 hC15 hroom15 hi015 hsz15
     have KY15 := Aside0.mk hy15
     clear hy15
     replace q15 := eq_true q15
     refine start_ (n := 12) (S := fun w' => True) (ds := []) #[false, false, false, false, false, false, false, false, false, false, false, false] (by kernel_rfl) rfl rfl trivial (fun hHeld => ?_); refine with_tabW bakelaw3_SampMixes.tab1 bakelaw3_SampMixes.bits1 (fun HT_ HW_ => ?_)
     generalize w.drew = w13 at HO0 HO1 HB HO190 HO195 hHeld ⊢
     refine pure_ (i := 0) (N := some 27) (v := ?_) (a' := ?_) #[true, false, false, false, false, false, false, false, false, false, false, false] rfl rfl (any_of HT_.out (by kernel_rfl)) (fun _ _ _ h => h) (Or.inl ⟨by rfl, ?_⟩) ?_ ?_
     rotate_left
     ·
      intro w'
      go_simp
      with_reducible rfl
     rotate_left
     ·
      simp only [Act.put, List.setIfInBounds_toArray, List.set_cons_zero, List.set_cons_succ, i64_w, i32_w]
      rfl
     refine pure_ (i := 1) (N := some 28) (v := ?_) (a' := ?_) #[true, true, false, false, false, false, false, false, false, false, false, false] rfl rfl (any_of HT_.out (by kernel_rfl)) (fun _ _ _ h => h) (Or.inl ⟨by rfl, ?_⟩) ?_ ?_
     rotate_left
     ·
      intro w'
      go_simp
      with_reducible rfl
     rotate_left
     ·
      simp only [Act.put, List.setIfInBounds_toArray, List.set_cons_zero, List.set_cons_succ, i64_w, i32_w]
      rfl
     refine pure_ (i := 2) (N := some 29) (v := ?_) (a' := ?_) #[true, true, true, false, false, false, false, false, false, false, false, false] rfl rfl (any_of HT_.out (by kernel_rfl)) (fun _ _ _ h => h) (Or.inl ⟨by rfl, ?_⟩) ?_ ?_
     rotate_left
     ·
      intro w'
      go_simp
      with_reducible rfl
     rotate_left
     ·
      simp only [Act.put, List.setIfInBounds_toArray, List.set_cons_zero, List.set_cons_succ, i64_w, i32_w]
      rfl
     refine pure_ (i := 3) (N := some 30) (v := ?_) (a' := ?_) #[true, true, true, true, false, false, false, false, false, false, false, false] rfl rfl (any_of HT_.out (by kernel_rfl)) (fun _ _ _ h => h) (Or.inl ⟨by rfl, ?_⟩) ?_ ?_
     rotate_left
     ·
      intro w'
      go_simp
      with_reducible rfl
     rotate_left
     ·
      simp only [Act.put, List.setIfInBounds_toArray, List.set_cons_zero, List.set_cons_succ, i64_w, i32_w]
      rfl
     refine pure_ (i := 4) (N := some 31) (v := ?_) (a' := ?_) #[true, true, true, true, true, false, false, false, false, false, false, false] rfl rfl (any_of HT_.out (by kernel_rfl)) (fun _ _ _ h => h) (Or.inl ⟨by rfl, ?_⟩) ?_ ?_
     rotate_left
     ·
      intro w'
      go_simp
      with_reducible rfl
     rotate_left
     ·
      simp only [Act.put, List.setIfInBounds_toArray, List.set_cons_zero, List.set_cons_succ, i64_w, i32_w]
      rfl
     refine pure_ (i := 5) (N := some 32) (v := ?_) (a' := ?_) #[true, true, true, true, true, true, false, false, false, false, false, false] rfl rfl (any_of HT_.out (by kernel_rfl)) (fun _ _ _ h => h) (Or.inl ⟨by rfl, ?_⟩) ?_ ?_
     rotate_left
     ·
      intro w'
      go_simp
      with_reducible rfl
     rotate_left
     ·
      simp only [Act.put, List.setIfInBounds_toArray, List.set_cons_zero, List.set_cons_succ, i64_w, i32_w]
      rfl
     refine pure_ (i := 6) (N := some 33) (v := ?_) (a' := ?_) #[true, true, true, true, true, true, true, false, false, false, false, false] rfl rfl (any_of HT_.out (by kernel_rfl)) (fun _ _ _ h => h) (Or.inl ⟨by rfl, ?_⟩) ?_ ?_
     rotate_left
     ·
      intro w'
      go_simp
      with_reducible rfl
     rotate_left
     ·
      simp only [Act.put, List.setIfInBounds_toArray, List.set_cons_zero, List.set_cons_succ, i64_w, i32_w]
      rfl
     refine pure_ (i := 7) (N := some 34) (v := ?_) (a' := ?_) #[true, true, true, true, true, true, true, true, false, false, false, false] rfl rfl (any_of HT_.out (by kernel_rfl)) (fun _ _ _ h => h) (Or.inl ⟨by rfl, ?_⟩) ?_ ?_
     rotate_left
     ·
      intro w'
      go_simp
      with_reducible rfl
     rotate_left
     ·
      simp only [Act.put, List.setIfInBounds_toArray, List.set_cons_zero, List.set_cons_succ, i64_w, i32_w]
      rfl
     refine pure_ (i := 8) (N := some 35) (v := ?_) (a' := ?_) #[true, true, true, true, true, true, true, true, true, false, false, false] rfl rfl (any_of HT_.out (by kernel_rfl)) (fun _ _ _ h => h) (Or.inl ⟨by rfl, ?_⟩) ?_ ?_
     rotate_left
     ·
      intro w'
      go_simp
      with_reducible rfl
     rotate_left
     ·
      simp only [Act.put, List.setIfInBounds_toArray, List.set_cons_zero, List.set_cons_succ, i64_w, i32_w]
      rfl
     refine pure_ (i := 9) (N := some 36) (v := ?_) (a' := ?_) #[true, true, true, true, true, true, true, true, true, true, false, false] rfl rfl (any_of HT_.out (by kernel_rfl)) (fun _ _ _ h => h) (Or.inl ⟨by rfl, ?_⟩) ?_ ?_
     rotate_left
     ·
      intro w'
      go_simp
      with_reducible rfl
     rotate_left
     ·
      simp only [Act.put, List.setIfInBounds_toArray, List.set_cons_zero, List.set_cons_succ, i64_w, i32_w]
      rfl
     refine pure_ (i := 10) (N := some 0) (v := ?_) (a' := ?_) #[true, true, true, true, true, true, true, true, true, true, true, false] rfl rfl (any_of HT_.out (by kernel_rfl)) (fun _ _ _ h => h) (Or.inl ⟨by rfl, ?_⟩) ?_ ?_
     rotate_left
     ·
      intro w'
      go_simp
      with_reducible rfl
     rotate_left
     ·
      simp only [Act.put, List.setIfInBounds_toArray, List.set_cons_zero, List.set_cons_succ, i64_w, i32_w]
      rfl
     refine pure_ (i := 11) (N := some 1) (v := ?_) (a' := ?_) #[true, true, true, true, true, true, true, true, true, true, true, true] rfl rfl (any_of HT_.out (by kernel_rfl)) (fun _ _ _ h => h) (Or.inl ⟨by rfl, ?_⟩) ?_ ?_
     rotate_left
     ·
      intro w'
      go_simp
      with_reducible rfl
     rotate_left
     ·
      simp only [Act.put, List.setIfInBounds_toArray, List.set_cons_zero, List.set_cons_succ, i64_w, i32_w]
      rfl
     refine done_ (done_of HT_.out (by kernel_rfl)) ?_
     go_upto_if 49 with (first | ((with_reducible refine gate_dst (N := 41) rfl ?_); (try (refine gate_guard (by rfl) ?_; dsimp only)); refine Kd.N_lit (Kd.slice 3 (Kd.int .i64)) _ 22 ?hg (N' := 41) ?hd (xs := ([y186, y191, y186] : List (List Int))) (inner := [.slice A0 y186.length c0, .slice A1 y191.length c1, .slice A0 y186.length c0]) (ok := (fun k_ => ((P0_ k_ ∨ P1_ k_) ∨ w.heap.size ≤ k_))) (okp := (fun k_ => ((P0_ k_ ∨ P1_ k_) ∨ w.heap.size ≤ k_))) ?hr ?hp (fun _ hk => hk) ((show ∀ k_, w13.heap.size ≤ k_ → (fun k_ => ((P0_ k_ ∨ P1_ k_) ∨ w.heap.size ≤ k_)) k_ from fun k_ hk => (.inr (Nat.le_trans (below_size (by repeat (first | (with_reducible first | exact HB.out | apply below_alloc | apply pw_below_drewN | apply below_drew1) | exact HB.out))) hk))) _ (Nat.le_refl _)) (Below.refl _ _) (Nat.le_refl _) (by simp) ?_; (case hd => rfl); (case hg => rfl); (case hr => first | (go_simp; done) | (go_simp; rfl)); (case hp => exact (Reps.one (show Kd.FK (Kd.slice 3 (Kd.int .i64)) _ _ y186 [.slice A0 y186.length c0] from (Kd.FK_slice_mk (Kd.V_reads' (Kd.V_mono (ok' := (fun k_ => ((P0_ k_ ∨ P1_ k_) ∨ w.heap.size ≤ k_))) (HO190.out) (fun k_ hk => hk))).2.1 (Kd.V_F (Kd.V_mono (ok' := (fun k_ => ((P0_ k_ ∨ P1_ k_) ∨ w.heap.size ≤ k_))) (HO190.out) (fun k_ hk => hk))))) (Reps.one (show Kd.FK (Kd.slice 3 (Kd.int .i64)) _ _ y191 [.slice A1 y191.length c1] from (Kd.FK_slice_mk (Kd.V_reads' (Kd.V_mono (ok' := (fun k_ => ((P0_ k_ ∨ P1_ k_) ∨ w.heap.size ≤ k_))) (HO195.out) (fun k_ hk => hk))).2.1 (Kd.V_F (Kd.V_mono (ok' := (fun k_ => ((P0_ k_ ∨ P1_ k_) ∨ w.heap.size ≤ k_))) (HO195.out) (fun k_ hk => hk))))) (Reps.one (show Kd.FK (Kd.slice 3 (Kd.int .i64)) _ _ y186 [.slice A0 y186.length c0] from (Kd.FK_slice_mk (Kd.V_reads' (Kd.V_mono (ok' := (fun k_ => ((P0_ k_ ∨ P1_ k_) ∨ w.heap.size ≤ k_))) (HO190.out) (fun k_ hk => hk))).2.1 (Kd.V_F (Kd.V_mono (ok' := (fun k_ => ((P0_ k_ ∨ P1_ k_) ∨ w.heap.size ≤ k_))) (HO190.out) (fun k_ hk => hk))))) (Reps.none _ _))))); intro v197 w16 ho17 hb hg_ hnew_; clear hg_ hnew_; (first | rw [← Ny196.out] at ho17 | (simp only [Int.reduceToNat] at ho17; rw [← Ny196.out] at ho17)); have n0_ := Aside0.mk (Kd.V_elder' (by (with_reducible repeat (first | apply Kd.V_alloc | apply Kd.V_drewN | apply Kd.V_drew)); exact HO0.out) (Kd.N_base ho17) hb); have n1_ := Aside0.mk (Kd.V_elder' (by (with_reducible repeat (first | apply Kd.V_alloc | apply Kd.V_drewN | apply Kd.V_drew)); exact HO1.out) (Kd.N_base ho17) hb); have n2_ := Aside0.mk (Kd.V_elder' (by (with_reducible repeat (first | apply Kd.V_alloc | apply Kd.V_drewN | apply Kd.V_drew)); exact HO190.out) (Kd.N_base ho17) hb); have n3_ := Aside0.mk (Kd.V_elder' (by (with_reducible repeat (first | apply Kd.V_alloc | apply Kd.V_drewN | apply Kd.V_drew)); exact HO195.out) (Kd.N_base ho17) hb); have n4_ := Aside0.mk (Kd.N_lower ho17 (below_size (by repeat (first | (with_reducible first | exact HB.out | apply below_alloc | apply pw_below_drewN | apply below_drew1) | exact HB.out)))); have n5_ := Aside0.mk (below_step (by repeat (first | (with_reducible first | exact HB.out | apply below_alloc | apply pw_below_drewN | apply below_drew1) | exact HB.out)) hb); clear HO0; clear HO1; clear HO190; clear HO195; clear HB; have HO0 := n0_; have HO1 := n1_; have HO190 := n2_; have HO195 := n3_; have HO198 := n4_; have HB := n5_; clear n0_ n1_ n2_ n3_ n4_ n5_; clear hb ho17; obtain ⟨Ao18, co18, eo18⟩ := Kd.N_slice HO198.out; subst eo18) | ((with_reducible refine gate_callee (f := 74) rfl ?_); refine goesL_ (some 42) rfl rfl Try.func74 (by kernel_rfl) rfl #[.slice Ao18 y196.length co18] rfl (by (try simp only [List.map_toArray, List.map_cons, List.map_nil]); first | done | rfl | (simp only [List.length_drop, List.length_take]; rfl)) ?_; (with_reducible refine (samp_Mix.calls k _ _ y196 t199 t200 _ ?side1 ?side2 A10.out).mono ?_); (case side1 => repeat (first | exact (Kd.N_reads' HO198.out).2.2 | (with_reducible refine Kd.C_alloc ?_ _) | (with_reducible refine Kd.C_drewN ?_ _) | (with_reducible refine Kd.C_drew ?_))); (case side2 => exact (Kd.N_reads' HO198.out).2.1); rintro e w19 ⟨v201, rfl, ho0, hb⟩; refine ⟨_, rfl, ?_⟩; have n0_ := Aside0.mk (Kd.V_elder' (by (with_reducible repeat (first | apply Kd.V_alloc | apply Kd.V_drewN | apply Kd.V_drew)); exact HO0.out) (Kd.R_base ho0) hb); have n1_ := Aside0.mk (Kd.V_elder' (by (with_reducible repeat (first | apply Kd.V_alloc | apply Kd.V_drewN | apply Kd.V_drew)); exact HO1.out) (Kd.R_base ho0) hb); have n2_ := Aside0.mk (Kd.V_elder' (by (with_reducible repeat (first | apply Kd.V_alloc | apply Kd.V_drewN | apply Kd.V_drew)); exact HO190.out) (Kd.R_base ho0) hb); have n3_ := Aside0.mk (Kd.V_elder' (by (with_reducible repeat (first | apply Kd.V_alloc | apply Kd.V_drewN | apply Kd.V_drew)); exact HO195.out) (Kd.R_base ho0) hb); have n4_ := Aside0.mk (Kd.N_elder' (by (with_reducible repeat (first | apply Kd.N_alloc | apply Kd.N_drewN | apply Kd.N_drew)); exact HO198.out) (Kd.R_base ho0) hb); have n5_ := Aside0.mk (Kd.R_lower (Kd.R_newM (M := fun k_ => (w.heap.size ≤ k_)) ho0 (below_size (by repeat (first | (with_reducible first | exact HB.out | apply below_alloc | apply pw_below_drewN | apply below_drew1) | exact HB.out))) (fun k_ h_ => h_)) (below_size (by repeat (first | (with_reducible first | exact HB.out | apply below_alloc | apply pw_below_drewN | apply below_drew1) | exact HB.out)))); have n6_ := Aside0.mk (below_step (by repeat (first | (with_reducible first | exact HB.out | apply below_alloc | apply pw_below_drewN | apply below_drew1) | exact HB.out)) hb); clear HO0; clear HO1; clear HO190; clear HO195; clear HO198; clear HB; have HO0 := n0_; have HO1 := n1_; have HO190 := n2_; have HO195 := n3_; have HO198 := n4_; have HO202 := n5_; have HB := n6_; clear n0_ n1_ n2_ n3_ n4_ n5_ n6_; (try clear hb); (try clear hb2); (try clear hk); (try clear hi); (try clear ho0)) | ((with_reducible refine gate_callee (f := 15) rfl ?_); refine goesL_ (some 46) rfl rfl Try.func15 (by kernel_rfl) rfl #[.slice A0 y186.length c0] rfl (by (try simp only [List.map_toArray, List.map_cons, List.map_nil]); first | done | rfl | (simp only [List.length_drop, List.length_take]; rfl)) ?_; (with_reducible refine (bakelaw3_levelFault.calls k _ _ y186 t203 _ ?side1 ?side2 A11.out).mono ?_); (case side1 => repeat (first | exact (Kd.V_reads' HO190.out).2.2 | (with_reducible refine Kd.C_alloc ?_ _) | (with_reducible refine Kd.C_drewN ?_ _) | (with_reducible refine Kd.C_drew ?_))); (case side2 => exact (Kd.V_reads' HO190.out).2.1); rintro e w' ⟨rfl, ⟨nd, rfl⟩⟩; refine ⟨_, rfl, ?_⟩))
     (try simp only [Act.put, List.setIfInBounds_toArray, List.set_cons_zero, List.set_cons_succ])
     go_cut [9] (fun v9 wc => ∃ (kq : Nat) (x9_11 : Int), v9 = .int .i64 x9_11 ∧ Aside0 (bakelaw3_SampMixes.j0 kq y186 y191 a2 t199 t200 x9_11 t203 = some r) ∧ Aside0 (kq ≤ k) ∧ Aside0 (Kd.V (Kd.int .i64) 3 wc w.heap.size (fun k_ => ((P0_ k_ ∨ P1_ k_) ∨ w.heap.size ≤ k_) ∧ some k_ ≠ (v201 : Value).ownBlock) (.slice A0 y186.length c0) y186) ∧ Aside0 (Kd.V (Kd.int .i64) 3 wc w.heap.size (fun k_ => ((P0_ k_ ∨ P1_ k_) ∨ w.heap.size ≤ k_) ∧ some k_ ≠ (v201 : Value).ownBlock) (.slice A1 y191.length c1) y191) ∧ Aside0 (Kd.R (Kd.int .i64) 3 wc w.heap.size (fun k_ => (w.heap.size ≤ k_)) v201 t199) ∧ Aside0 (Below w.heap.size w wc))
     case first =>
      as_aux_lemma =>
      have H := HC12.out
      clear HC12
      by_cases c20 : t203 = 0
      ·
       rw [if_pos c20] at H
       have c20b0 : (t203 == 0) = true := beq_iff_eq.mpr c20
       have c20b1 : (t203 != 0) = false := bne_eq_false_iff_eq.mpr c20
       clear c20
       (first | rw [c20b0] | (simp only [i64_w, i32_w]; rw [c20b0]) | skip)
       replace H := Option.bind_eq_some_iff.mp H
       obtain ⟨t204, A210, H⟩ := H
       replace H : (bakelaw3_SampMixes.j0 k y186 y191 a2 t199 t200 t204 t203) = some r := H
       have A21 := Aside0.mk A210
       clear A210
       have H' := Aside0.mk H
       clear H
       go_wp2_with (first | ((with_reducible refine gate_callee (f := 15) rfl ?_); refine goesL_ (some 51) rfl rfl Try.func15 (by kernel_rfl) rfl #[.slice A1 y191.length c1] rfl (by (try simp only [List.map_toArray, List.map_cons, List.map_nil]); first | done | rfl | (simp only [List.length_drop, List.length_take]; rfl)) ?_; (with_reducible refine (bakelaw3_levelFault.calls k _ _ y191 t204 _ ?side1 ?side2 A21.out).mono ?_); (case side1 => repeat (first | exact (Kd.V_reads' HO195.out).2.2 | (with_reducible refine Kd.C_alloc ?_ _) | (with_reducible refine Kd.C_drewN ?_ _) | (with_reducible refine Kd.C_drew ?_))); (case side2 => exact (Kd.V_reads' HO195.out).2.1); rintro e w' ⟨rfl, ⟨nd, rfl⟩⟩; refine ⟨_, rfl, ?_⟩))
       go_meet
       case rel => exact ⟨_, (t204), (by first | rfl | (simp; done) | (simp [*]; done)), H', ⟨by first | omega | exact Nat.le_refl _⟩, ⟨by (with_reducible repeat (first | apply Kd.V_alloc | apply Kd.V_drewN | apply Kd.V_drew)); exact Kd.V_mono HO190.out (fun _ hk => by first | exact ⟨hk.1.1, hk.2⟩ | exact hk | exact hk.1 | exact hk.2 | exact hk.1.1 | exact hk.1.2 | exact ⟨hk.1.1, hk.1.2⟩)⟩, ⟨by (with_reducible repeat (first | apply Kd.V_alloc | apply Kd.V_drewN | apply Kd.V_drew)); exact Kd.V_mono HO195.out (fun _ hk => by first | exact ⟨hk.1.1, hk.2⟩ | exact hk | exact hk.1 | exact hk.2 | exact hk.1.1 | exact hk.1.2 | exact ⟨hk.1.1, hk.1.2⟩)⟩, ⟨by (with_reducible repeat (first | apply Kd.R_alloc | apply Kd.R_drewN | apply Kd.R_drew)); exact Kd.R_mono HO202.out (fun _ hk => hk.1)⟩, ⟨by repeat (first | (with_reducible first | exact HB.out | apply below_alloc | apply pw_below_drewN | apply below_drew1) | exact HB.out)⟩⟩
      ·
       rw [if_neg c20] at H
       have c20b0 : (t203 == 0) = false := beq_eq_false_iff_ne.mpr c20
       have c20b1 : (t203 != 0) = true := bne_iff_ne.mpr c20
       (first | rw [c20b0] | (simp only [i64_w, i32_w]; rw [c20b0]) | skip)
       have H' := Aside0.mk H
       clear H
       go_wp2
       go_meet
       case rel => exact ⟨_, (t203), (by first | rfl | (simp; done) | (simp [*]; done)), H', ⟨by first | omega | exact Nat.le_refl _⟩, ⟨by (with_reducible repeat (first | apply Kd.V_alloc | apply Kd.V_drewN | apply Kd.V_drew)); exact Kd.V_mono HO190.out (fun _ hk => by first | exact ⟨hk.1.1, hk.2⟩ | exact hk | exact hk.1 | exact hk.2 | exact hk.1.1 | exact hk.1.2 | exact ⟨hk.1.1, hk.1.2⟩)⟩, ⟨by (with_reducible repeat (first | apply Kd.V_alloc | apply Kd.V_drewN | apply Kd.V_drew)); exact Kd.V_mono HO195.out (fun _ hk => by first | exact ⟨hk.1.1, hk.2⟩ | exact hk | exact hk.1 | exact hk.2 | exact hk.1.1 | exact hk.1.2 | exact ⟨hk.1.1, hk.1.2⟩)⟩, ⟨by (with_reducible repeat (first | apply Kd.R_alloc | apply Kd.R_drewN | apply Kd.R_drew)); exact Kd.R_mono HO202.out (fun _ hk => hk.1)⟩, ⟨by repeat (first | (with_reducible first | exact HB.out | apply below_alloc | apply pw_below_drewN | apply below_drew1) | exact HB.out)⟩⟩
     case rest =>
      clear HC12
      (try clear c1); (try clear q1); (try clear c2); (try clear p2); (try clear c5); (try clear c5b0); (try clear c5b1); (try clear c6); (try clear c6b0); (try clear c6b1); (try clear c7); (try clear c8); (try clear c8b0); (try clear c8b1); (try clear c9); (try clear c9b0); (try clear c9b1); (try clear c14); (try clear q14); (try clear c15); (try clear q15); (try clear c20); (try clear c20b0); (try clear c20b1); (try clear q14); (try clear q15)
      obtain ⟨kq, x9_11, rfl, HA, HJ11, HO_0, HO_1, HO_7, HB⟩ := hcut
      cases kq with
      | zero => exact absurd HA.out (by simp [bakelaw3_SampMixes.j0])
      | succ kj11 =>
       have H := HA.out
       clear HA
       simp only [bakelaw3_SampMixes.j0] at H
       obtain ⟨ji22, hji22⟩ : ∃ j_ : Int, (mx (y186.length : Int) (y191.length : Int)) = j_ := ⟨_, rfl⟩
       replace H : (bakelaw3_SampMixes.l0 kj11 y186 y191 a2 t199 t200 x9_11 t203 ([] : List Int) ji22 0) = some r := by first | (rw [hji22] at H; exact H) | (simp only [hji22] at H ⊢; exact H)
       have hji22_ : (if (y186.length : Int) < (y191.length : Int) then (y191.length : Int) else (y186.length : Int)) = ji22 := hji22
       have hji22n_ : (if y186.length < y191.length then (y191.length : Int) else (y186.length : Int)) = ji22 := by (rw [← hji22_]; (repeat' split) <;> first | rfl | omega)
       have H' := Aside0.mk H
       clear H
       go_wp2
       go_loopg [12, 57] kj11 (fun kq v12 v57 w' => ∃ (x0_2 : List Int) (x1_2 : List Int) (x7_2 : List Int) (x12_2 : List Int) (x57_2 : Int), v57 = .int .i64 x57_2 ∧ Aside0 (bakelaw3_SampMixes.l0 kq x0_2 x1_2 a2 x7_2 t200 x9_11 t203 x12_2 ji22 x57_2 = some r) ∧ Aside0 (kq ≤ kj11) ∧ Aside0 (Kd.V (Kd.int .i64) 3 w' w.heap.size (fun k_ => ((P0_ k_ ∨ P1_ k_) ∨ w.heap.size ≤ k_) ∧ some k_ ≠ (v201 : Value).ownBlock ∧ some k_ ≠ (v12 : Value).ownBlock) (.slice A0 y186.length c0) x0_2) ∧ Aside0 (Kd.V (Kd.int .i64) 3 w' w.heap.size (fun k_ => ((P0_ k_ ∨ P1_ k_) ∨ w.heap.size ≤ k_) ∧ some k_ ≠ (v201 : Value).ownBlock ∧ some k_ ≠ (v12 : Value).ownBlock) (.slice A1 y191.length c1) x1_2) ∧ Aside0 (Kd.R (Kd.int .i64) 3 w' w.heap.size (fun k_ => (w.heap.size ≤ k_) ∧ some k_ ≠ (v12 : Value).ownBlock) v201 x7_2) ∧ Aside0 (Kd.R (Kd.int .i64) 3 w' w.heap.size (fun k_ => (w.heap.size ≤ k_) ∧ some k_ ≠ (v201 : Value).ownBlock) v12 x12_2) ∧ Aside0 (Below w.heap.size w w'))
       case atStart => exact ⟨(y186), (y191), (t199), (([] : List Int)), (0), (by first | rfl | (simp; done) | (simp [*]; done)), H', ⟨Nat.le_refl _⟩, ⟨by (with_reducible repeat (first | apply Kd.V_alloc | apply Kd.V_drewN | apply Kd.V_drew)); exact Kd.V_mono HO_0.out (fun _ hk => ⟨hk.1, ⟨hk.2, (by simp [Value.ownBlock])⟩⟩)⟩, ⟨by (with_reducible repeat (first | apply Kd.V_alloc | apply Kd.V_drewN | apply Kd.V_drew)); exact Kd.V_mono HO_1.out (fun _ hk => ⟨hk.1, ⟨hk.2, (by simp [Value.ownBlock])⟩⟩)⟩, ⟨by (with_reducible repeat (first | apply Kd.R_alloc | apply Kd.R_drewN | apply Kd.R_drew)); exact Kd.R_mono HO_7.out (fun _ hk => ⟨hk, (by simp [Value.ownBlock])⟩)⟩, ⟨by first | exact Kd.R_nil _ _ _ _ _ | exact Kd.N_nil _ _ _ _ _ | exact Kd.V_nil _ _ _ _ _ | exact Kd.Q_nil _ _ _ _ _ | exact Kd.S_nil _ _ _ _ _⟩, ⟨by repeat (first | (with_reducible first | exact HB.out | apply below_alloc | apply pw_below_drewN | apply below_drew1) | exact HB.out)⟩⟩
       case round =>
        as_aux_lemma =>
        clear H'
        (try clear c1); (try clear q1); (try clear c2); (try clear p2); (try clear c5); (try clear c5b0); (try clear c5b1); (try clear c6); (try clear c6b0); (try clear c6b1); (try clear c7); (try clear c8); (try clear c8b0); (try clear c8b1); (try clear c9); (try clear c9b0); (try clear c9b1); (try clear c14); (try clear q14); (try clear c15); (try clear q15); (try clear c20); (try clear c20b0); (try clear c20b1); (try clear p2); (try clear q1); (try clear q14); (try clear q15)
        obtain ⟨x0_2, x1_2, x7_2, x12_2, x57_2, rfl, HA, HK2, HO_0, HO_1, HO_7, HO_12, HB⟩ := hrel
        have hl0_2 := (Kd.V_reads' HO_0.out).1
        rw [hl0_2] at HO_0
        (try simp only [hl0_2])
        (try simp only [hl0_2] at HO_1)
        (try simp only [hl0_2] at HO_7)
        (try simp only [hl0_2] at HO_12)
        have hl1_2 := (Kd.V_reads' HO_1.out).1
        rw [hl1_2] at HO_1
        (try simp only [hl1_2])
        (try simp only [hl1_2] at HO_0)
        (try simp only [hl1_2] at HO_7)
        (try simp only [hl1_2] at HO_12)
        cases gk with
        | zero => exact absurd HA.out (by simp [bakelaw3_SampMixes.l0])
        | succ k2 =>
         have H := HA.out
         clear HA
         simp only [bakelaw3_SampMixes.l0] at H
         by_cases c23 : x57_2 < ji22
         ·
          rw [if_pos c23] at H
          have c23b0 : decide (x57_2 < ji22) = true := decide_eq_true c23
          clear c23
          by_cases c24 : x12_2.length < 17592186044416
          ·
           rw [if_pos c24] at H
           have LMc24 := Aside0.mk c24
           clear c24
           obtain ⟨y205, hy205⟩ : ∃ y_ : List Int, y_ = (x12_2 ++ [0]) := ⟨_, rfl⟩
           replace H : (if x9_11 = 0 then ((bakelaw3_SampMixes_1_137.f x0_2 x57_2).bind fun t208 => ((bakelaw3_SampMixes_1_137.f x1_2 x57_2).bind fun t209 => (if 0 ≤ x57_2 then (if x57_2 < (y205.length : Int) then (bakelaw3_SampMixes.l0 k2 x0_2 x1_2 a2 x7_2 t200 x9_11 t203 (y205.set (x57_2 : Int).toNat (wrap64 ((wrap64 (2 * t208)) + t209))) ji22 (wrap64 (x57_2 + 1))) else (none)) else (none)))) else (bakelaw3_SampMixes.l0 k2 x0_2 x1_2 a2 x7_2 t200 x9_11 t203 y205 ji22 (wrap64 (x57_2 + 1)))) = some r := by first | (rw [hy205]; with_reducible exact H) | (have H2_ := (Option.bind_some _ _).symm.trans H; rw [hy205]; with_reducible exact H2_) | (have H2_ := (Option.bind_some _ _).symm.trans H; with_reducible exact H2_) | with_reducible exact H | (rw [hy205]; exact H) | exact H
           have Ny205 := Aside0.mk hy205
           clear hy205
           by_cases c25 : x9_11 = 0
           ·
            rw [if_pos c25] at H
            have c25b0 : (x9_11 == 0) = true := beq_iff_eq.mpr c25
            have c25b1 : (x9_11 != 0) = false := bne_eq_false_iff_eq.mpr c25
            clear c25
            replace H := Option.bind_eq_some_iff.mp H
            obtain ⟨t208, A260, H⟩ := H
            replace H : ((bakelaw3_SampMixes_1_137.f x1_2 x57_2).bind fun t209 => (if 0 ≤ x57_2 then (if x57_2 < (y205.length : Int) then (bakelaw3_SampMixes.l0 k2 x0_2 x1_2 a2 x7_2 t200 x9_11 t203 (y205.set (x57_2 : Int).toNat (wrap64 ((wrap64 (2 * t208)) + t209))) ji22 (wrap64 (x57_2 + 1))) else (none)) else (none))) = some r := H
            have A26 := Aside0.mk A260
            clear A260
            replace H := Option.bind_eq_some_iff.mp H
            obtain ⟨t209, A270, H⟩ := H
            replace H : (if 0 ≤ x57_2 then (if x57_2 < (y205.length : Int) then (bakelaw3_SampMixes.l0 k2 x0_2 x1_2 a2 x7_2 t200 x9_11 t203 (y205.set (x57_2 : Int).toNat (wrap64 ((wrap64 (2 * t208)) + t209))) ji22 (wrap64 (x57_2 + 1))) else (none)) else (none)) = some r := H
            have A27 := Aside0.mk A270
            clear A270
            by_cases c28 : 0 ≤ x57_2
            ·
             rw [if_pos c28] at H
             have c28b0 : decide (0 ≤ x57_2) = true := decide_eq_true c28
             clear c28
             by_cases c29 : x57_2 < (y205.length : Int)
             ·
              rw [if_pos c29] at H
              have c29b0 : decide (x57_2 < (y205.length : Int)) = true := decide_eq_true c29
              clear c29
              obtain ⟨y210, hy210⟩ : ∃ y_ : List Int, y_ = (y205.set (x57_2 : Int).toNat (wrap64 ((wrap64 (2 * t208)) + t209))) := ⟨_, rfl⟩
              replace H : (bakelaw3_SampMixes.l0 k2 x0_2 x1_2 a2 x7_2 t200 x9_11 t203 y210 ji22 (wrap64 (x57_2 + 1))) = some r := by first | (rw [hy210]; with_reducible exact H) | (have H2_ := (Option.bind_some _ _).symm.trans H; rw [hy210]; with_reducible exact H2_) | (have H2_ := (Option.bind_some _ _).symm.trans H; with_reducible exact H2_) | with_reducible exact H | (rw [hy210]; exact H) | exact H
              have Ny210 := Aside0.mk hy210
              clear hy210
              have H' := Aside0.mk H
              clear H
              go_wp2_with (first | ((with_reducible refine gate_builtin (b := .append) (xs := #[.tmp 60, .tmp 61]) rfl ?_); (try (refine gate_guard (by rfl) ?_; dsimp only)); at_builtin; refine Kd.R_append (Kd.int .i64) (w0 := w) w.heap.size rfl (.tmp 60) (.tmp 61) 22 3 (.int .i64 0) 8 rfl Try.underlying22 info3 rfl (by decide) (by omega) u12 x12_2 0 [.int .i64 0] (fun k_ => (w.heap.size ≤ k_) ∧ some k_ ≠ (v201 : Value).ownBlock) (fun _ => False) rfl rfl ?aP (fun _ hk => hk.elim) ?aF ?aO ?aB ?aS ?aL ?_; (case aP => exact rfl); (case aB => exact (by repeat (first | (with_reducible first | exact HB.out | apply below_alloc | apply pw_below_drewN | apply below_drew1) | exact HB.out))); (case aF => exact (fun k_ hk => ⟨(Nat.le_trans (below_size (by repeat (first | (with_reducible first | exact HB.out | apply below_alloc | apply pw_below_drewN | apply below_drew1) | exact HB.out))) hk), Kd.fresh' (Kd.R_lt (by (with_reducible repeat (first | apply Kd.R_alloc | apply Kd.R_drewN | apply Kd.R_drew)); exact HO_7.out)) k_ hk⟩)); (case aO => exact (by (with_reducible repeat (first | apply Kd.R_alloc | apply Kd.R_drewN | apply Kd.R_drew)); exact HO_12.out)); (case aS => exact (below_size (by repeat (first | (with_reducible first | exact HB.out | apply below_alloc | apply pw_below_drewN | apply below_drew1) | exact HB.out)))); (case aL => have := LMc24.out; omega); intro v206 w31 ho hb hg hat; rw [← Ny205.out] at ho; have n0_ := Aside0.mk (Kd.V_afterv (ok := (fun k_ => ((P0_ k_ ∨ P1_ k_) ∨ w.heap.size ≤ k_) ∧ some k_ ≠ (v201 : Value).ownBlock)) (by (with_reducible repeat (first | apply Kd.V_alloc | apply Kd.V_drewN | apply Kd.V_drew)); exact Kd.V_mono HO_0.out (fun _ hk => ⟨⟨hk.1, hk.2.1⟩, hk.2.2⟩)) hg hat); have n1_ := Aside0.mk (Kd.V_afterv (ok := (fun k_ => ((P0_ k_ ∨ P1_ k_) ∨ w.heap.size ≤ k_) ∧ some k_ ≠ (v201 : Value).ownBlock)) (by (with_reducible repeat (first | apply Kd.V_alloc | apply Kd.V_drewN | apply Kd.V_drew)); exact Kd.V_mono HO_1.out (fun _ hk => ⟨⟨hk.1, hk.2.1⟩, hk.2.2⟩)) hg hat); have n2_ := Aside0.mk (Kd.R_after (ok := (fun k_ => (w.heap.size ≤ k_))) (by (with_reducible repeat (first | apply Kd.R_alloc | apply Kd.R_drewN | apply Kd.R_drew)); exact HO_7.out) hg hat); have n3_ := Aside0.mk (hb); have n4_ := Aside0.mk (ho); clear HO_0; clear HO_1; clear HO_7; clear HB; clear HO_12; have HO_0 := n0_; have HO_1 := n1_; have HO_7 := n2_; have HB := n3_; have HO207 := n4_; clear n0_ n1_ n2_ n3_ n4_; clear ho hb hg hat) | (go_at_call 75; (with_reducible refine (bakelaw3_SampMixes_1_137.calls _ _ x0_2 x57_2 t208 _ ?side1 ?side2 A26.out).mono ?_); (case side1 => repeat (first | exact (Kd.V_reads' HO_0.out).2.2 | (with_reducible refine Kd.C_alloc ?_ _) | (with_reducible refine Kd.C_drewN ?_ _) | (with_reducible refine Kd.C_drew ?_))); (case side2 => exact (Kd.V_reads' HO_0.out).2.1); rintro e w' ⟨rfl, ⟨nd, rfl⟩⟩; (try (rw [drewN_self w31]; generalize hq_ : World.drewN w31 _ = w31; have n0_ : Aside0 (Kd.R (Kd.int .i64) 3 w31 w.heap.size (fun k_ => (w.heap.size ≤ k_) ∧ some k_ ≠ (v201 : Value).ownBlock) v206 y205) := ⟨by rw [← hq_]; exact (by (with_reducible repeat (first | apply Kd.R_alloc | apply Kd.R_drewN | apply Kd.R_drew)); exact HO207.out)⟩; have n1_ : Aside0 (Kd.V (Kd.int .i64) 3 w31 w.heap.size (fun k_ => ((P0_ k_ ∨ P1_ k_) ∨ w.heap.size ≤ k_) ∧ some k_ ≠ (v206 : Value).ownBlock ∧ some k_ ≠ (v201 : Value).ownBlock) (.slice A0 x0_2.length c0) x0_2) := ⟨by rw [← hq_]; exact (by (with_reducible repeat (first | apply Kd.V_alloc | apply Kd.V_drewN | apply Kd.V_drew)); exact Kd.V_mono HO_0.out (fun _ hk => ⟨hk.1.1, ⟨hk.2, hk.1.2⟩⟩))⟩; have n2_ : Aside0 (Kd.V (Kd.int .i64) 3 w31 w.heap.size (fun k_ => ((P0_ k_ ∨ P1_ k_) ∨ w.heap.size ≤ k_) ∧ some k_ ≠ (v206 : Value).ownBlock ∧ some k_ ≠ (v201 : Value).ownBlock) (.slice A1 x1_2.length c1) x1_2) := ⟨by rw [← hq_]; exact (by (with_reducible repeat (first | apply Kd.V_alloc | apply Kd.V_drewN | apply Kd.V_drew)); exact Kd.V_mono HO_1.out (fun _ hk => ⟨hk.1.1, ⟨hk.2, hk.1.2⟩⟩))⟩; have n3_ : Aside0 (Kd.R (Kd.int .i64) 3 w31 w.heap.size (fun k_ => (w.heap.size ≤ k_) ∧ some k_ ≠ (v206 : Value).ownBlock) v201 x7_2) := ⟨by rw [← hq_]; exact (by (with_reducible repeat (first | apply Kd.R_alloc | apply Kd.R_drewN | apply Kd.R_drew)); exact HO_7.out)⟩; have n4_ : Aside0 (Below w.heap.size w w31) := ⟨by rw [← hq_]; exact (by repeat (first | (with_reducible first | exact HB.out | apply below_alloc | apply pw_below_drewN | apply below_drew1) | exact HB.out))⟩; clear HO207 HO_0 HO_1 HO_7 HB hq_; have HO207 := n0_; have HO_0 := n1_; have HO_1 := n2_; have HO_7 := n3_; have HB := n4_; clear n0_ n1_ n2_ n3_ n4_))) | (go_at_call 75; (with_reducible refine (bakelaw3_SampMixes_1_137.calls _ _ x1_2 x57_2 t209 _ ?side1 ?side2 A27.out).mono ?_); (case side1 => repeat (first | exact (Kd.V_reads' HO_1.out).2.2 | (with_reducible refine Kd.C_alloc ?_ _) | (with_reducible refine Kd.C_drewN ?_ _) | (with_reducible refine Kd.C_drew ?_))); (case side2 => exact (Kd.V_reads' HO_1.out).2.1); rintro e w' ⟨rfl, ⟨nd, rfl⟩⟩; (try (rw [drewN_self w31]; generalize hq_ : World.drewN w31 _ = w31; have n0_ : Aside0 (Kd.R (Kd.int .i64) 3 w31 w.heap.size (fun k_ => (w.heap.size ≤ k_) ∧ some k_ ≠ (v201 : Value).ownBlock) v206 y205) := ⟨by rw [← hq_]; exact (by (with_reducible repeat (first | apply Kd.R_alloc | apply Kd.R_drewN | apply Kd.R_drew)); exact HO207.out)⟩; have n1_ : Aside0 (Kd.V (Kd.int .i64) 3 w31 w.heap.size (fun k_ => ((P0_ k_ ∨ P1_ k_) ∨ w.heap.size ≤ k_) ∧ some k_ ≠ (v206 : Value).ownBlock ∧ some k_ ≠ (v201 : Value).ownBlock) (.slice A0 x0_2.length c0) x0_2) := ⟨by rw [← hq_]; exact (by (with_reducible repeat (first | apply Kd.V_alloc | apply Kd.V_drewN | apply Kd.V_drew)); exact HO_0.out)⟩; have n2_ : Aside0 (Kd.V (Kd.int .i64) 3 w31 w.heap.size (fun k_ => ((P0_ k_ ∨ P1_ k_) ∨ w.heap.size ≤ k_) ∧ some k_ ≠ (v206 : Value).ownBlock ∧ some k_ ≠ (v201 : Value).ownBlock) (.slice A1 x1_2.length c1) x1_2) := ⟨by rw [← hq_]; exact (by (with_reducible repeat (first | apply Kd.V_alloc | apply Kd.V_drewN | apply Kd.V_drew)); exact HO_1.out)⟩; have n3_ : Aside0 (Kd.R (Kd.int .i64) 3 w31 w.heap.size (fun k_ => (w.heap.size ≤ k_) ∧ some k_ ≠ (v206 : Value).ownBlock) v201 x7_2) := ⟨by rw [← hq_]; exact (by (with_reducible repeat (first | apply Kd.R_alloc | apply Kd.R_drewN | apply Kd.R_drew)); exact HO_7.out)⟩; have n4_ : Aside0 (Below w.heap.size w w31) := ⟨by rw [← hq_]; exact (by repeat (first | (with_reducible first | exact HB.out | apply below_alloc | apply pw_below_drewN | apply below_drew1) | exact HB.out))⟩; clear HO207 HO_0 HO_1 HO_7 HB hq_; have HO207 := n0_; have HO_0 := n1_; have HO_1 := n2_; have HO_7 := n3_; have HB := n4_; clear n0_ n1_ n2_ n3_ n4_)); have p30 : 0 ≤ (x57_2 : Int) := of_decide_eq_true (by first | (with_reducible assumption) | assumption); have q30 : (x57_2 : Int) < ((y205.length : Int) : Int) := of_decide_eq_true (by first | (with_reducible assumption) | assumption); obtain ⟨go30, co30, eo30, gb30, gl30, cl30, HG30⟩ := Kd.R_form HO207.out (by omega); (first | cases eo30 | (injection eo30 with ea_ en_ ec_; (first | subst ea_ | (injection ea_ with ea_; subst ea_)); subst ec_; clear en_)); have GB30 := Aside0.mk gb30; have GG30 := Aside0.mk HG30; clear gb30 gl30 HG30; obtain ⟨hx30_0, hf30_0⟩ := Kd.R_celln 0 HO207.out (x57_2 : Int) p30 q30; replace p30 := eq_true p30; replace q30 := eq_true q30; obtain ⟨hy32_, hz32_⟩ := Kd.R_celln 0 HO207.out (x57_2 : Int) (of_decide_eq_true (by first | (with_reducible assumption) | assumption)) (of_decide_eq_true (by first | (with_reducible assumption) | assumption)); have HP32 := Kd.R_putg HO207.out (x57_2 : Int) (wrap64 ((wrap64 (2 * t208)) + t209))) | ((with_reducible refine gate_store (t := 3) (p := 77) rfl ?_); refine store_event (t := 3) (p := 77) (v := ?vo_w33) (w1 := (w31.setCell ⟨go30, (x57_2 : Int).toNat, none⟩ (.int .i64 (wrap64 ((wrap64 (2 * t208)) + t209))))) ?hg ?ho ?hn ?hr ?_; (case ho => rfl); (case hg => rfl); (case hn => rfl); (case hr => first | (go_simp; done) | (go_simp; rfl)); intro w33 hw; have hg : w31.grownBy w33 (some go30) := (by rw [hw]; exact HP32.2); have hp_ : Kd.R (Kd.int .i64) 3 w33 w.heap.size (fun k_ => (w.heap.size ≤ k_) ∧ some k_ ≠ (v201 : Value).ownBlock) (.slice (some ⟨go30, 0, none⟩) y205.length co30) y210 := (by rw [hw, Ny210.out]; exact HP32.1); clear HP32; have n0_ := Aside0.mk (Kd.V_afterv (v := (.slice (some ⟨go30, 0, none⟩) y205.length co30)) (v1 := (.slice (some ⟨go30, 0, none⟩) y205.length co30)) (ok := (fun k_ => ((P0_ k_ ∨ P1_ k_) ∨ w.heap.size ≤ k_) ∧ some k_ ≠ (v201 : Value).ownBlock)) (by (with_reducible repeat (first | apply Kd.V_alloc | apply Kd.V_drewN | apply Kd.V_drew)); exact Kd.V_mono HO_0.out (fun _ hk => ⟨⟨hk.1, hk.2.2⟩, hk.2.1⟩)) hg (.inl rfl)); have n1_ := Aside0.mk (Kd.V_afterv (v := (.slice (some ⟨go30, 0, none⟩) y205.length co30)) (v1 := (.slice (some ⟨go30, 0, none⟩) y205.length co30)) (ok := (fun k_ => ((P0_ k_ ∨ P1_ k_) ∨ w.heap.size ≤ k_) ∧ some k_ ≠ (v201 : Value).ownBlock)) (by (with_reducible repeat (first | apply Kd.V_alloc | apply Kd.V_drewN | apply Kd.V_drew)); exact Kd.V_mono HO_1.out (fun _ hk => ⟨⟨hk.1, hk.2.2⟩, hk.2.1⟩)) hg (.inl rfl)); have n2_ := Aside0.mk (Kd.R_after (v := (.slice (some ⟨go30, 0, none⟩) y205.length co30)) (v1 := (.slice (some ⟨go30, 0, none⟩) y205.length co30)) (ok := (fun k_ => (w.heap.size ≤ k_))) (by (with_reducible repeat (first | apply Kd.R_alloc | apply Kd.R_drewN | apply Kd.R_drew)); exact HO_7.out) hg (.inl rfl)); have n3_ := Aside0.mk (hp_); have n4_ := Aside0.mk ((by rw [hw]; exact below_set (HB.out) GB30.out : Below w.heap.size w w33)); clear HO_0; clear HO_1; clear HO_7; clear HO207; clear HB; have HO_0 := n0_; have HO_1 := n1_; have HO_7 := n2_; have HO207 := n3_; have HB := n4_; clear n0_ n1_ n2_ n3_ n4_; clear hg hw hp_))
              (try simp only [← hl0_2, ← hl1_2])
              go_roundg k2
              case measure => have := HJ11.out; have := HK2.out; omega
              case rel => exact ⟨(x0_2), (x1_2), (x7_2), (y210), (wrap64 (x57_2 + 1)), (by first | rfl | (simp; done) | (simp [*]; done)), H', ⟨by have := HJ11.out; have := HK2.out; omega⟩, ⟨by (try simp only [hl0_2]); (try simp only [hl1_2]); (with_reducible repeat (first | apply Kd.V_alloc | apply Kd.V_drewN | apply Kd.V_drew)); exact Kd.V_mono HO_0.out (fun _ hk => ⟨hk.1.1, ⟨hk.1.2, hk.2⟩⟩)⟩, ⟨by (try simp only [hl0_2]); (try simp only [hl1_2]); (with_reducible repeat (first | apply Kd.V_alloc | apply Kd.V_drewN | apply Kd.V_drew)); exact Kd.V_mono HO_1.out (fun _ hk => ⟨hk.1.1, ⟨hk.1.2, hk.2⟩⟩)⟩, ⟨by (try simp only [hl0_2]); (try simp only [hl1_2]); (with_reducible repeat (first | apply Kd.R_alloc | apply Kd.R_drewN | apply Kd.R_drew)); exact HO_7.out⟩, ⟨by (try simp only [hl0_2]); (try simp only [hl1_2]); (with_reducible repeat (first | apply Kd.R_alloc | apply Kd.R_drewN | apply Kd.R_drew)); exact HO207.out⟩, ⟨by repeat (first | (with_reducible first | exact HB.out | apply below_alloc | apply pw_below_drewN | apply below_drew1) | exact HB.out)⟩⟩
             ·
              rw [if_neg c29] at H
              exact absurd H (by simp)
            ·
             rw [if_neg c28] at H
             exact absurd H (by simp)
           ·
            rw [if_neg c25] at H
            have c25b0 : (x9_11 == 0) = false := beq_eq_false_iff_ne.mpr c25
            have c25b1 : (x9_11 != 0) = true := bne_iff_ne.mpr c25
            have H' := Aside0.mk H
            clear H
            go_wp2_with (first | ((with_reducible refine gate_builtin (b := .append) (xs := #[.tmp 60, .tmp 61]) rfl ?_); (try (refine gate_guard (by rfl) ?_; dsimp only)); at_builtin; refine Kd.R_append (Kd.int .i64) (w0 := w) w.heap.size rfl (.tmp 60) (.tmp 61) 22 3 (.int .i64 0) 8 rfl Try.underlying22 info3 rfl (by decide) (by omega) u12 x12_2 0 [.int .i64 0] (fun k_ => (w.heap.size ≤ k_) ∧ some k_ ≠ (v201 : Value).ownBlock) (fun _ => False) rfl rfl ?aP (fun _ hk => hk.elim) ?aF ?aO ?aB ?aS ?aL ?_; (case aP => exact rfl); (case aB => exact (by repeat (first | (with_reducible first | exact HB.out | apply below_alloc | apply pw_below_drewN | apply below_drew1) | exact HB.out))); (case aF => exact (fun k_ hk => ⟨(Nat.le_trans (below_size (by repeat (first | (with_reducible first | exact HB.out | apply below_alloc | apply pw_below_drewN | apply below_drew1) | exact HB.out))) hk), Kd.fresh' (Kd.R_lt (by (with_reducible repeat (first | apply Kd.R_alloc | apply Kd.R_drewN | apply Kd.R_drew)); exact HO_7.out)) k_ hk⟩)); (case aO => exact (by (with_reducible repeat (first | apply Kd.R_alloc | apply Kd.R_drewN | apply Kd.R_drew)); exact HO_12.out)); (case aS => exact (below_size (by repeat (first | (with_reducible first | exact HB.out | apply below_alloc | apply pw_below_drewN | apply below_drew1) | exact HB.out)))); (case aL => have := LMc24.out; omega); intro v206 w34 ho hb hg hat; rw [← Ny205.out] at ho; have n0_ := Aside0.mk (Kd.V_afterv (ok := (fun k_ => ((P0_ k_ ∨ P1_ k_) ∨ w.heap.size ≤ k_) ∧ some k_ ≠ (v201 : Value).ownBlock)) (by (with_reducible repeat (first | apply Kd.V_alloc | apply Kd.V_drewN | apply Kd.V_drew)); exact Kd.V_mono HO_0.out (fun _ hk => ⟨⟨hk.1, hk.2.1⟩, hk.2.2⟩)) hg hat); have n1_ := Aside0.mk (Kd.V_afterv (ok := (fun k_ => ((P0_ k_ ∨ P1_ k_) ∨ w.heap.size ≤ k_) ∧ some k_ ≠ (v201 : Value).ownBlock)) (by (with_reducible repeat (first | apply Kd.V_alloc | apply Kd.V_drewN | apply Kd.V_drew)); exact Kd.V_mono HO_1.out (fun _ hk => ⟨⟨hk.1, hk.2.1⟩, hk.2.2⟩)) hg hat); have n2_ := Aside0.mk (Kd.R_after (ok := (fun k_ => (w.heap.size ≤ k_))) (by (with_reducible repeat (first | apply Kd.R_alloc | apply Kd.R_drewN | apply Kd.R_drew)); exact HO_7.out) hg hat); have n3_ := Aside0.mk (hb); have n4_ := Aside0.mk (ho); clear HO_0; clear HO_1; clear HO_7; clear HB; clear HO_12; have HO_0 := n0_; have HO_1 := n1_; have HO_7 := n2_; have HB := n3_; have HO207 := n4_; clear n0_ n1_ n2_ n3_ n4_; clear ho hb hg hat))
            (try simp only [← hl0_2, ← hl1_2])
            go_roundg k2
            case measure => have := HJ11.out; have := HK2.out; omega
            case rel => exact ⟨(x0_2), (x1_2), (x7_2), (y205), (wrap64 (x57_2 + 1)), (by first | rfl | (simp; done) | (simp [*]; done)), H', ⟨by have := HJ11.out; have := HK2.out; omega⟩, ⟨by (try simp only [hl0_2]); (try simp only [hl1_2]); (with_reducible repeat (first | apply Kd.V_alloc | apply Kd.V_drewN | apply Kd.V_drew)); exact Kd.V_mono HO_0.out (fun _ hk => ⟨hk.1.1, ⟨hk.1.2, hk.2⟩⟩)⟩, ⟨by (try simp only [hl0_2]); (try simp only [hl1_2]); (with_reducible repeat (first | apply Kd.V_alloc | apply Kd.V_drewN | apply Kd.V_drew)); exact Kd.V_mono HO_1.out (fun _ hk => ⟨hk.1.1, ⟨hk.1.2, hk.2⟩⟩)⟩, ⟨by (try simp only [hl0_2]); (try simp only [hl1_2]); (with_reducible repeat (first | apply Kd.R_alloc | apply Kd.R_drewN | apply Kd.R_drew)); exact HO_7.out⟩, ⟨by (try simp only [hl0_2]); (try simp only [hl1_2]); (with_reducible repeat (first | apply Kd.R_alloc | apply Kd.R_drewN | apply Kd.R_drew)); exact HO207.out⟩, ⟨by repeat (first | (with_reducible first | exact HB.out | apply below_alloc | apply pw_below_drewN | apply below_drew1) | exact HB.out)⟩⟩
          ·
           rw [if_neg c24] at H
           exact absurd H (by simp)
         ·
          rw [if_neg c23] at H
          have c23b0 : decide (x57_2 < ji22) = false := decide_eq_false c23
          clear c23
          have HC35 := Aside0.mk H
          clear H
          go_upto_region 16 with (fail)
          go_cut [84] (fun v84 wc => ∃ (kq : Nat) (x84_34 : Bool), v84 = .bool x84_34 ∧ Aside0 (bakelaw3_SampMixes.j2 kq x0_2 a2 x7_2 t200 x9_11 t203 x12_2 x84_34 = some r) ∧ Aside0 (kq ≤ k2) ∧ Aside0 (Kd.V (Kd.int .i64) 3 wc w.heap.size (fun k_ => ((P0_ k_ ∨ P1_ k_) ∨ w.heap.size ≤ k_) ∧ some k_ ≠ (v201 : Value).ownBlock ∧ some k_ ≠ (u12 : Value).ownBlock) (.slice A0 x0_2.length c0) x0_2) ∧ Aside0 (Kd.R (Kd.int .i64) 3 wc w.heap.size (fun k_ => (w.heap.size ≤ k_) ∧ some k_ ≠ (u12 : Value).ownBlock) v201 x7_2) ∧ Aside0 (Kd.R (Kd.int .i64) 3 wc w.heap.size (fun k_ => (w.heap.size ≤ k_) ∧ some k_ ≠ (v201 : Value).ownBlock) u12 x12_2) ∧ Aside0 (Below w.heap.size w wc))
          case first =>
           as_aux_lemma =>
           have H := HC35.out
           clear HC35
           by_cases c36 : x9_11 = 0
           ·
            rw [if_pos c36] at H
            have c36b0 : (x9_11 == 0) = true := beq_iff_eq.mpr c36
            have c36b1 : (x9_11 != 0) = false := bne_eq_false_iff_eq.mpr c36
            clear c36
            (first | rw [c36b0] | (simp only [i64_w, i32_w]; rw [c36b0]) | skip)
            replace H := Option.bind_eq_some_iff.mp H
            obtain ⟨t211, A370, H⟩ := H
            replace H : (bakelaw3_SampMixes.j2 k2 x0_2 a2 x7_2 t200 x9_11 t203 x12_2 t211) = some r := H
            have A37 := Aside0.mk A370
            clear A370
            have H' := Aside0.mk H
            clear H
            obtain ⟨Ao38, co38, eo38⟩ := Kd.R_slice HO_12.out
            subst eo38
            go_wp2_with (first | (go_at_call 58; (with_reducible refine (slices_ContainsFunc_int_int_138.calls k2 _ _ x12_2  t211 _ ?side1 ?side2 A37.out).mono ?_); (case side1 => repeat (first | exact (Kd.R_reads' HO_12.out).2.2 | (with_reducible refine Kd.C_alloc ?_ _) | (with_reducible refine Kd.C_drewN ?_ _) | (with_reducible refine Kd.C_drew ?_))); (case side2 => exact (Kd.R_reads' HO_12.out).2.1); rintro e w' ⟨rfl, ⟨nd, rfl⟩⟩))
            go_meet
            case rel => exact ⟨_, (t211), (by first | rfl | (simp; done) | (simp [*]; done)), H', ⟨by have := HJ11.out; have := HK2.out; first | omega | exact Nat.le_refl _⟩, ⟨by (try simp only [hl0_2]); (try simp only [hl1_2]); (with_reducible repeat (first | apply Kd.V_alloc | apply Kd.V_drewN | apply Kd.V_drew)); exact HO_0.out⟩, ⟨by (try simp only [hl0_2]); (try simp only [hl1_2]); (with_reducible repeat (first | apply Kd.R_alloc | apply Kd.R_drewN | apply Kd.R_drew)); exact HO_7.out⟩, ⟨by (try simp only [hl0_2]); (try simp only [hl1_2]); (with_reducible repeat (first | apply Kd.R_alloc | apply Kd.R_drewN | apply Kd.R_drew)); exact HO_12.out⟩, ⟨by repeat (first | (with_reducible first | exact HB.out | apply below_alloc | apply pw_below_drewN | apply below_drew1) | exact HB.out)⟩⟩
           ·
            rw [if_neg c36] at H
            have c36b0 : (x9_11 == 0) = false := beq_eq_false_iff_ne.mpr c36
            have c36b1 : (x9_11 != 0) = true := bne_iff_ne.mpr c36
            (first | rw [c36b0] | (simp only [i64_w, i32_w]; rw [c36b0]) | skip)
            have H' := Aside0.mk H
            clear H
            go_wp2
            go_meet
            case rel => exact ⟨_, (false), (by first | rfl | (simp; done) | (simp [*]; done)), H', ⟨by have := HJ11.out; have := HK2.out; first | omega | exact Nat.le_refl _⟩, ⟨by (try simp only [hl0_2]); (try simp only [hl1_2]); (with_reducible repeat (first | apply Kd.V_alloc | apply Kd.V_drewN | apply Kd.V_drew)); exact HO_0.out⟩, ⟨by (try simp only [hl0_2]); (try simp only [hl1_2]); (with_reducible repeat (first | apply Kd.R_alloc | apply Kd.R_drewN | apply Kd.R_drew)); exact HO_7.out⟩, ⟨by (try simp only [hl0_2]); (try simp only [hl1_2]); (with_reducible repeat (first | apply Kd.R_alloc | apply Kd.R_drewN | apply Kd.R_drew)); exact HO_12.out⟩, ⟨by repeat (first | (with_reducible first | exact HB.out | apply below_alloc | apply pw_below_drewN | apply below_drew1) | exact HB.out)⟩⟩
          case rest =>
           clear HC35
           (try clear c1); (try clear q1); (try clear c2); (try clear p2); (try clear c3); (try clear p3); (try clear q3); (try clear hx3); (try clear hf3); (try clear c5); (try clear c5b0); (try clear c5b1); (try clear c6); (try clear c6b0); (try clear c6b1); (try clear p6); (try clear c7); (try clear c8); (try clear c8b0); (try clear c8b1); (try clear c9); (try clear c9b0); (try clear c9b1); (try clear c14); (try clear q14); (try clear c15); (try clear q15); (try clear c20); (try clear c20b0); (try clear c20b1); (try clear c23); (try clear c23b0); (try clear c24); (try clear c25); (try clear c25b0); (try clear c25b1); (try clear c28); (try clear c28b0); (try clear c29); (try clear c29b0); (try clear p30); (try clear q30); (try clear hx30); (try clear hf30); (try clear c36); (try clear c36b0); (try clear c36b1); (try clear hx30_0); (try clear p2); (try clear p30); (try clear q1); (try clear q14); (try clear q15); (try clear q30)
           obtain ⟨kq, x84_34, rfl, HA, HJ34, HO_0, HO_7, HO_12, HB⟩ := hcut
           cases kq with
           | zero => exact absurd HA.out (by simp [bakelaw3_SampMixes.j2])
           | succ kj34 =>
            have H := HA.out
            clear HA
            simp only [bakelaw3_SampMixes.j2] at H
            have HC39 := Aside0.mk H
            clear H
            go_upto_if 84 with (fail)
            go_cut [9] (fun v9 wc => ∃ (kq : Nat) (x9_38 : Int), v9 = .int .i64 x9_38 ∧ Aside0 (bakelaw3_SampMixes.j3 kq x0_2 a2 x7_2 t200 x9_38 t203 x12_2 = some r) ∧ Aside0 (kq ≤ kj34) ∧ Aside0 (Kd.V (Kd.int .i64) 3 wc w.heap.size (fun k_ => ((P0_ k_ ∨ P1_ k_) ∨ w.heap.size ≤ k_) ∧ some k_ ≠ (v201 : Value).ownBlock ∧ some k_ ≠ (u12 : Value).ownBlock) (.slice A0 x0_2.length c0) x0_2) ∧ Aside0 (Kd.R (Kd.int .i64) 3 wc w.heap.size (fun k_ => (w.heap.size ≤ k_) ∧ some k_ ≠ (u12 : Value).ownBlock) v201 x7_2) ∧ Aside0 (Kd.R (Kd.int .i64) 3 wc w.heap.size (fun k_ => (w.heap.size ≤ k_) ∧ some k_ ≠ (v201 : Value).ownBlock) u12 x12_2) ∧ Aside0 (Below w.heap.size w wc))
            case first =>
             as_aux_lemma =>
             have H := HC39.out
             clear HC39
             by_cases c40 : x84_34 = true
             ·
              subst c40
              have H1 : (bakelaw3_SampMixes.j3 kj34 x0_2 a2 x7_2 t200 21 t203 x12_2) = some r := by rw [if_pos rfl] at H; exact H
              clear H
              have H := H1
              clear H1
              have H' := Aside0.mk H
              clear H
              go_wp2
              go_meet
              case rel => exact ⟨_, (21), (by first | rfl | (simp; done) | (simp [*]; done)), H', ⟨by have := HJ11.out; have := HK2.out; have := HJ34.out; first | omega | exact Nat.le_refl _⟩, ⟨by (try simp only [hl0_2]); (try simp only [hl1_2]); (with_reducible repeat (first | apply Kd.V_alloc | apply Kd.V_drewN | apply Kd.V_drew)); exact HO_0.out⟩, ⟨by (try simp only [hl0_2]); (try simp only [hl1_2]); (with_reducible repeat (first | apply Kd.R_alloc | apply Kd.R_drewN | apply Kd.R_drew)); exact HO_7.out⟩, ⟨by (try simp only [hl0_2]); (try simp only [hl1_2]); (with_reducible repeat (first | apply Kd.R_alloc | apply Kd.R_drewN | apply Kd.R_drew)); exact HO_12.out⟩, ⟨by repeat (first | (with_reducible first | exact HB.out | apply below_alloc | apply pw_below_drewN | apply below_drew1) | exact HB.out)⟩⟩
             ·
              replace c40 := Bool.eq_false_iff.mpr c40
              subst c40
              have H1 : (bakelaw3_SampMixes.j3 kj34 x0_2 a2 x7_2 t200 x9_11 t203 x12_2) = some r := by rw [if_neg (show ¬ (false = true) by decide)] at H; exact H
              clear H
              have H := H1
              clear H1
              have H' := Aside0.mk H
              clear H
              go_wp2
              go_meet
              case rel => exact ⟨_, (x9_11), (by first | rfl | (simp; done) | (simp [*]; done)), H', ⟨by have := HJ11.out; have := HK2.out; have := HJ34.out; first | omega | exact Nat.le_refl _⟩, ⟨by (try simp only [hl0_2]); (try simp only [hl1_2]); (with_reducible repeat (first | apply Kd.V_alloc | apply Kd.V_drewN | apply Kd.V_drew)); exact HO_0.out⟩, ⟨by (try simp only [hl0_2]); (try simp only [hl1_2]); (with_reducible repeat (first | apply Kd.R_alloc | apply Kd.R_drewN | apply Kd.R_drew)); exact HO_7.out⟩, ⟨by (try simp only [hl0_2]); (try simp only [hl1_2]); (with_reducible repeat (first | apply Kd.R_alloc | apply Kd.R_drewN | apply Kd.R_drew)); exact HO_12.out⟩, ⟨by repeat (first | (with_reducible first | exact HB.out | apply below_alloc | apply pw_below_drewN | apply below_drew1) | exact HB.out)⟩⟩
            case rest =>
             clear HC39
             (try clear c1); (try clear q1); (try clear c2); (try clear p2); (try clear c3); (try clear p3); (try clear q3); (try clear hx3); (try clear hf3); (try clear c4); (try clear c5); (try clear c5b0); (try clear c5b1); (try clear c6); (try clear c6b0); (try clear c6b1); (try clear p6); (try clear c7); (try clear c8); (try clear c8b0); (try clear c8b1); (try clear c9); (try clear c9b0); (try clear c9b1); (try clear c14); (try clear q14); (try clear c15); (try clear q15); (try clear c20); (try clear c20b0); (try clear c20b1); (try clear c23); (try clear c23b0); (try clear c24); (try clear c25); (try clear c25b0); (try clear c25b1); (try clear c28); (try clear c28b0); (try clear c29); (try clear c29b0); (try clear p30); (try clear q30); (try clear hx30); (try clear hf30); (try clear c36); (try clear c36b0); (try clear c36b1); (try clear c40); (try clear hx30_0); (try clear p2); (try clear p3); (try clear p30); (try clear p6); (try clear q1); (try clear q14); (try clear q15); (try clear q3); (try clear q30)
             obtain ⟨kq, x9_38, rfl, HA, HJ38, HO_0, HO_7, HO_12, HB⟩ := hcut
             cases kq with
             | zero => exact absurd HA.out (by simp [bakelaw3_SampMixes.j3])
             | succ kj38 =>
              have H := HA.out
              clear HA
              simp only [bakelaw3_SampMixes.j3] at H
              have HC41 := Aside0.mk H
              clear H
              go_upto_if 86 with (fail)
              go_cut [12] (fun v12 wc => ∃ (kq : Nat) (x12_40 : List Int), Aside0 (bakelaw3_SampMixes.j4 kq x0_2 a2 x7_2 t200 x9_38 t203 x12_40 = some r) ∧ Aside0 (kq ≤ kj38) ∧ Aside0 (Kd.V (Kd.int .i64) 3 wc w.heap.size (fun k_ => ((P0_ k_ ∨ P1_ k_) ∨ w.heap.size ≤ k_) ∧ some k_ ≠ (v201 : Value).ownBlock ∧ some k_ ≠ (v12 : Value).ownBlock) (.slice A0 x0_2.length c0) x0_2) ∧ Aside0 (Kd.R (Kd.int .i64) 3 wc w.heap.size (fun k_ => (w.heap.size ≤ k_) ∧ some k_ ≠ (v12 : Value).ownBlock) v201 x7_2) ∧ Aside0 (Kd.R (Kd.int .i64) 3 wc w.heap.size (fun k_ => (w.heap.size ≤ k_) ∧ some k_ ≠ (v201 : Value).ownBlock) v12 x12_40) ∧ Aside0 (Below w.heap.size w wc))
              case first =>
               as_aux_lemma =>
               have H := HC41.out
               clear HC41
               by_cases c42 : x9_38 = 0
               ·
                rw [if_pos c42] at H
                have c42b0 : (x9_38 == 0) = true := beq_iff_eq.mpr c42
                have c42b1 : (x9_38 != 0) = false := bne_eq_false_iff_eq.mpr c42
                clear c42
                (first | rw [c42b0] | (simp only [i64_w, i32_w]; rw [c42b0]) | skip)
                have H' := Aside0.mk H
                clear H
                go_wp2
                go_meet
                case rel => exact ⟨_, (x12_2), H', ⟨by have := HJ11.out; have := HK2.out; have := HJ34.out; have := HJ38.out; first | omega | exact Nat.le_refl _⟩, ⟨by (try simp only [hl0_2]); (try simp only [hl1_2]); (with_reducible repeat (first | apply Kd.V_alloc | apply Kd.V_drewN | apply Kd.V_drew)); exact HO_0.out⟩, ⟨by (try simp only [hl0_2]); (try simp only [hl1_2]); (with_reducible repeat (first | apply Kd.R_alloc | apply Kd.R_drewN | apply Kd.R_drew)); exact HO_7.out⟩, ⟨by (try simp only [hl0_2]); (try simp only [hl1_2]); (with_reducible repeat (first | apply Kd.R_alloc | apply Kd.R_drewN | apply Kd.R_drew)); exact HO_12.out⟩, ⟨by repeat (first | (with_reducible first | exact HB.out | apply below_alloc | apply pw_below_drewN | apply below_drew1) | exact HB.out)⟩⟩
               ·
                rw [if_neg c42] at H
                have c42b0 : (x9_38 == 0) = false := beq_eq_false_iff_ne.mpr c42
                have c42b1 : (x9_38 != 0) = true := bne_iff_ne.mpr c42
                (first | rw [c42b0] | (simp only [i64_w, i32_w]; rw [c42b0]) | skip)
                have H' := Aside0.mk H
                clear H
                go_wp2
                go_meet
                case rel => exact ⟨_, (([] : List Int)), H', ⟨by have := HJ11.out; have := HK2.out; have := HJ34.out; have := HJ38.out; first | omega | exact Nat.le_refl _⟩, ⟨by (try simp only [hl0_2]); (try simp only [hl1_2]); (with_reducible repeat (first | apply Kd.V_alloc | apply Kd.V_drewN | apply Kd.V_drew)); exact Kd.V_mono HO_0.out (fun _ hk => ⟨hk.1, ⟨hk.2.1, (by simp [Value.ownBlock])⟩⟩)⟩, ⟨by (try simp only [hl0_2]); (try simp only [hl1_2]); (with_reducible repeat (first | apply Kd.R_alloc | apply Kd.R_drewN | apply Kd.R_drew)); exact Kd.R_mono HO_7.out (fun _ hk => ⟨hk.1, (by simp [Value.ownBlock])⟩)⟩, ⟨by (try simp only [hl0_2]); (try simp only [hl1_2]); first | exact Kd.R_nil _ _ _ _ _ | exact Kd.N_nil _ _ _ _ _ | exact Kd.V_nil _ _ _ _ _ | exact Kd.Q_nil _ _ _ _ _ | exact Kd.S_nil _ _ _ _ _⟩, ⟨by repeat (first | (with_reducible first | exact HB.out | apply below_alloc | apply pw_below_drewN | apply below_drew1) | exact HB.out)⟩⟩
              case rest =>
               clear HC41
               (try clear c1); (try clear q1); (try clear c2); (try clear p2); (try clear c3); (try clear p3); (try clear q3); (try clear hx3); (try clear hf3); (try clear c4); (try clear c5); (try clear c5b0); (try clear c5b1); (try clear c6); (try clear c6b0); (try clear c6b1); (try clear p6); (try clear c7); (try clear c8); (try clear c8b0); (try clear c8b1); (try clear c9); (try clear c9b0); (try clear c9b1); (try clear c14); (try clear q14); (try clear c15); (try clear q15); (try clear c20); (try clear c20b0); (try clear c20b1); (try clear c23); (try clear c23b0); (try clear c24); (try clear c25); (try clear c25b0); (try clear c25b1); (try clear c28); (try clear c28b0); (try clear c29); (try clear c29b0); (try clear p30); (try clear q30); (try clear hx30); (try clear hf30); (try clear c36); (try clear c36b0); (try clear c36b1); (try clear c40); (try clear c42); (try clear c42b0); (try clear c42b1); (try clear hx30_0); (try clear p2); (try clear p3); (try clear p30); (try clear p6); (try clear q1); (try clear q14); (try clear q15); (try clear q3); (try clear q30)
               obtain ⟨kq, x12_40, HA, HJ40, HO_0, HO_7, HO_12, HB⟩ := hcut
               cases kq with
               | zero => exact absurd HA.out (by simp [bakelaw3_SampMixes.j4])
               | succ kj40 =>
                have H := HA.out
                clear HA
                simp only [bakelaw3_SampMixes.j4] at H
                have HC43 := Aside0.mk H
                clear H
                go_upto_region 20 with (fail)
                go_cut [99] (fun v99 wc => ∃ (kq : Nat) (x99_42 : Bool), v99 = .bool x99_42 ∧ Aside0 (bakelaw3_SampMixes.j5 kq x0_2 a2 t203 x99_42 = some r) ∧ Aside0 (kq ≤ kj40) ∧ Aside0 (Kd.V (Kd.int .i64) 3 wc w.heap.size (fun k_ => ((P0_ k_ ∨ P1_ k_) ∨ w.heap.size ≤ k_)) (.slice A0 x0_2.length c0) x0_2) ∧ Aside0 (Below w.heap.size w wc))
                case first =>
                 as_aux_lemma =>
                 have H := HC43.out
                 clear HC43
                 replace H := Option.bind_eq_some_iff.mp H
                 obtain ⟨t212, A440, H⟩ := H
                 replace H : (if t212 = true then (if t200 = x9_38 then ((slices_Equal_int_int.f kj40 x7_2 x12_40).bind fun t213 => (bakelaw3_SampMixes.j5 kj40 x0_2 a2 t203 (!t213))) else (bakelaw3_SampMixes.j5 kj40 x0_2 a2 t203 true)) else (bakelaw3_SampMixes.j5 kj40 x0_2 a2 t203 true)) = some r := H
                 have A44 := Aside0.mk A440
                 clear A440
                 by_cases c45 : t212 = true
                 ·
                  subst c45
                  have H1 : (if t200 = x9_38 then ((slices_Equal_int_int.f kj40 x7_2 x12_40).bind fun t213 => (bakelaw3_SampMixes.j5 kj40 x0_2 a2 t203 (!t213))) else (bakelaw3_SampMixes.j5 kj40 x0_2 a2 t203 true)) = some r := by rw [if_pos rfl] at H; exact H
                  clear H
                  have H := H1
                  clear H1
                  by_cases c46 : t200 = x9_38
                  ·
                   rw [if_pos c46] at H
                   have c46b0 : (t200 == x9_38) = true := beq_iff_eq.mpr c46
                   have c46b1 : (t200 != x9_38) = false := bne_eq_false_iff_eq.mpr c46
                   clear c46
                   (first | rw [c46b0] | (simp only [i64_w, i32_w]; rw [c46b0]) | skip)
                   replace H := Option.bind_eq_some_iff.mp H
                   obtain ⟨t213, A470, H⟩ := H
                   replace H : (bakelaw3_SampMixes.j5 kj40 x0_2 a2 t203 (!t213)) = some r := H
                   have A47 := Aside0.mk A470
                   clear A470
                   have H' := Aside0.mk H
                   clear H
                   go_wp2_with (first | ((with_reducible refine gate_callee (f := 17) rfl ?_); refine goesL_ (some 87) rfl rfl Try.func17 (by kernel_rfl) rfl #[] rfl (by (try simp only [List.map_toArray, List.map_cons, List.map_nil]); first | done | rfl | (simp only [List.length_drop, List.length_take]; rfl)) ?_; (with_reducible refine (bakelaw3_heard.calls kj40  true _ A44.out).mono ?_); rintro e w48 ⟨rfl, hb⟩; refine ⟨_, rfl, ?_⟩; have n0_ := Aside0.mk (Kd.V_below (by (with_reducible repeat (first | apply Kd.V_alloc | apply Kd.V_drewN | apply Kd.V_drew)); exact HO_0.out) hb); have n1_ := Aside0.mk (Kd.R_below (by (with_reducible repeat (first | apply Kd.R_alloc | apply Kd.R_drewN | apply Kd.R_drew)); exact HO_7.out) hb); have n2_ := Aside0.mk (Kd.R_below (by (with_reducible repeat (first | apply Kd.R_alloc | apply Kd.R_drewN | apply Kd.R_drew)); exact HO_12.out) hb); have n3_ := Aside0.mk (below_step (by repeat (first | (with_reducible first | exact HB.out | apply below_alloc | apply pw_below_drewN | apply below_drew1) | exact HB.out)) hb); clear HO_0; clear HO_7; clear HO_12; clear HB; have HO_0 := n0_; have HO_7 := n1_; have HO_12 := n2_; have HB := n3_; clear n0_ n1_ n2_ n3_; (try clear hb); (try clear hb2); (try clear hk); (try clear hi); obtain ⟨Ao49, co49, eo49⟩ := Kd.R_slice HO_7.out; subst eo49; obtain ⟨Ao50, co50, eo50⟩ := Kd.R_slice HO_12.out; subst eo50) | (go_at_call 22; (with_reducible refine (slices_Equal_int_int.calls kj40 _ _ x7_2 _ _ x12_40 t213 _ ?side1 ?side2 ?side3 ?side4 A47.out).mono ?_); (case side1 => repeat (first | exact (Kd.R_reads' HO_7.out).2.2 | (with_reducible refine Kd.C_alloc ?_ _) | (with_reducible refine Kd.C_drewN ?_ _) | (with_reducible refine Kd.C_drew ?_))); (case side2 => exact (Kd.R_reads' HO_7.out).2.1); (case side3 => repeat (first | exact (Kd.R_reads' HO_12.out).2.2 | (with_reducible refine Kd.C_alloc ?_ _) | (with_reducible refine Kd.C_drewN ?_ _) | (with_reducible refine Kd.C_drew ?_))); (case side4 => exact (Kd.R_reads' HO_12.out).2.1); rintro e w' ⟨rfl, ⟨nd, rfl⟩⟩))
                   go_meet
                   case rel => exact ⟨_, (!t213), (by first | rfl | (simp; done) | (simp [*]; done)), H', ⟨by have := HJ11.out; have := HK2.out; have := HJ34.out; have := HJ38.out; have := HJ40.out; first | omega | exact Nat.le_refl _⟩, ⟨by (try simp only [hl0_2]); (try simp only [hl1_2]); (with_reducible repeat (first | apply Kd.V_alloc | apply Kd.V_drewN | apply Kd.V_drew)); exact Kd.V_mono HO_0.out (fun _ hk => hk.1)⟩, ⟨by repeat (first | (with_reducible first | exact HB.out | apply below_alloc | apply pw_below_drewN | apply below_drew1) | exact HB.out)⟩⟩
                  ·
                   rw [if_neg c46] at H
                   have c46b0 : (t200 == x9_38) = false := beq_eq_false_iff_ne.mpr c46
                   have c46b1 : (t200 != x9_38) = true := bne_iff_ne.mpr c46
                   (first | rw [c46b0] | (simp only [i64_w, i32_w]; rw [c46b0]) | skip)
                   have H' := Aside0.mk H
                   clear H
                   go_wp2_with (first | ((with_reducible refine gate_callee (f := 17) rfl ?_); refine goesL_ (some 87) rfl rfl Try.func17 (by kernel_rfl) rfl #[] rfl (by (try simp only [List.map_toArray, List.map_cons, List.map_nil]); first | done | rfl | (simp only [List.length_drop, List.length_take]; rfl)) ?_; (with_reducible refine (bakelaw3_heard.calls kj40  true _ A44.out).mono ?_); rintro e w51 ⟨rfl, hb⟩; refine ⟨_, rfl, ?_⟩; have n0_ := Aside0.mk (Kd.V_below (by (with_reducible repeat (first | apply Kd.V_alloc | apply Kd.V_drewN | apply Kd.V_drew)); exact HO_0.out) hb); have n1_ := Aside0.mk (Kd.R_below (by (with_reducible repeat (first | apply Kd.R_alloc | apply Kd.R_drewN | apply Kd.R_drew)); exact HO_7.out) hb); have n2_ := Aside0.mk (Kd.R_below (by (with_reducible repeat (first | apply Kd.R_alloc | apply Kd.R_drewN | apply Kd.R_drew)); exact HO_12.out) hb); have n3_ := Aside0.mk (below_step (by repeat (first | (with_reducible first | exact HB.out | apply below_alloc | apply pw_below_drewN | apply below_drew1) | exact HB.out)) hb); clear HO_0; clear HO_7; clear HO_12; clear HB; have HO_0 := n0_; have HO_7 := n1_; have HO_12 := n2_; have HB := n3_; clear n0_ n1_ n2_ n3_; (try clear hb); (try clear hb2); (try clear hk); (try clear hi)))
                   go_meet
                   case rel => exact ⟨_, (true), (by first | rfl | (simp; done) | (simp [*]; done)), H', ⟨by have := HJ11.out; have := HK2.out; have := HJ34.out; have := HJ38.out; have := HJ40.out; first | omega | exact Nat.le_refl _⟩, ⟨by (try simp only [hl0_2]); (try simp only [hl1_2]); (with_reducible repeat (first | apply Kd.V_alloc | apply Kd.V_drewN | apply Kd.V_drew)); exact Kd.V_mono HO_0.out (fun _ hk => hk.1)⟩, ⟨by repeat (first | (with_reducible first | exact HB.out | apply below_alloc | apply pw_below_drewN | apply below_drew1) | exact HB.out)⟩⟩
                 ·
                  replace c45 := Bool.eq_false_iff.mpr c45
                  subst c45
                  have H1 : (bakelaw3_SampMixes.j5 kj40 x0_2 a2 t203 true) = some r := by rw [if_neg (show ¬ (false = true) by decide)] at H; exact H
                  clear H
                  have H := H1
                  clear H1
                  have H' := Aside0.mk H
                  clear H
                  go_wp2_with (first | ((with_reducible refine gate_callee (f := 17) rfl ?_); refine goesL_ (some 87) rfl rfl Try.func17 (by kernel_rfl) rfl #[] rfl (by (try simp only [List.map_toArray, List.map_cons, List.map_nil]); first | done | rfl | (simp only [List.length_drop, List.length_take]; rfl)) ?_; (with_reducible refine (bakelaw3_heard.calls kj40  false _ A44.out).mono ?_); rintro e w52 ⟨rfl, hb⟩; refine ⟨_, rfl, ?_⟩; have n0_ := Aside0.mk (Kd.V_below (by (with_reducible repeat (first | apply Kd.V_alloc | apply Kd.V_drewN | apply Kd.V_drew)); exact HO_0.out) hb); have n1_ := Aside0.mk (Kd.R_below (by (with_reducible repeat (first | apply Kd.R_alloc | apply Kd.R_drewN | apply Kd.R_drew)); exact HO_7.out) hb); have n2_ := Aside0.mk (Kd.R_below (by (with_reducible repeat (first | apply Kd.R_alloc | apply Kd.R_drewN | apply Kd.R_drew)); exact HO_12.out) hb); have n3_ := Aside0.mk (below_step (by repeat (first | (with_reducible first | exact HB.out | apply below_alloc | apply pw_below_drewN | apply below_drew1) | exact HB.out)) hb); clear HO_0; clear HO_7; clear HO_12; clear HB; have HO_0 := n0_; have HO_7 := n1_; have HO_12 := n2_; have HB := n3_; clear n0_ n1_ n2_ n3_; (try clear hb); (try clear hb2); (try clear hk); (try clear hi)))
                  go_meet
                  case rel => exact ⟨_, (true), (by first | rfl | (simp; done) | (simp [*]; done)), H', ⟨by have := HJ11.out; have := HK2.out; have := HJ34.out; have := HJ38.out; have := HJ40.out; first | omega | exact Nat.le_refl _⟩, ⟨by (try simp only [hl0_2]); (try simp only [hl1_2]); (with_reducible repeat (first | apply Kd.V_alloc | apply Kd.V_drewN | apply Kd.V_drew)); exact Kd.V_mono HO_0.out (fun _ hk => hk.1)⟩, ⟨by repeat (first | (with_reducible first | exact HB.out | apply below_alloc | apply pw_below_drewN | apply below_drew1) | exact HB.out)⟩⟩
                case rest =>
                 clear HC43
                 (try clear c1); (try clear q1); (try clear c2); (try clear p2); (try clear c3); (try clear p3); (try clear q3); (try clear hx3); (try clear hf3); (try clear c4); (try clear c5); (try clear c5b0); (try clear c5b1); (try clear c6); (try clear c6b0); (try clear c6b1); (try clear p6); (try clear c7); (try clear c8); (try clear c8b0); (try clear c8b1); (try clear c9); (try clear c9b0); (try clear c9b1); (try clear c14); (try clear q14); (try clear c15); (try clear q15); (try clear c17); (try clear c20); (try clear c20b0); (try clear c20b1); (try clear c23); (try clear c23b0); (try clear c24); (try clear c25); (try clear c25b0); (try clear c25b1); (try clear c28); (try clear c28b0); (try clear c29); (try clear c29b0); (try clear p30); (try clear q30); (try clear hx30); (try clear hf30); (try clear c36); (try clear c36b0); (try clear c36b1); (try clear c40); (try clear c42); (try clear c42b0); (try clear c42b1); (try clear c45); (try clear c46); (try clear c46b0); (try clear c46b1); (try clear hx30_0); (try clear p2); (try clear p3); (try clear p30); (try clear p6); (try clear q1); (try clear q14); (try clear q15); (try clear q3); (try clear q30)
                 obtain ⟨kq, x99_42, rfl, HA, HJ42, HO_0, HB⟩ := hcut
                 cases kq with
                 | zero => exact absurd HA.out (by simp [bakelaw3_SampMixes.j5])
                 | succ kj42 =>
                  have H := HA.out
                  clear HA
                  simp only [bakelaw3_SampMixes.j5] at H
                  by_cases c53 : x99_42 = true
                  ·
                   subst c53
                   have H1 : (some false) = some r := by rw [if_pos rfl] at H; exact H
                   clear H
                   have H := H1
                   clear H1
                   obtain rfl := Option.some.inj H
                   go_wp2
                   go_ret
                   exact ⟨by first | rfl | (simp [errW_none, errW_some] <;> rfl) | (simp only [← hji4, ← hji7, ← hji22]; first | rfl | (simp [errW_none, errW_some] <;> rfl)) | (simp [*, errW_none, errW_some] <;> rfl), by repeat (first | (with_reducible first | exact HB.out | apply below_alloc | apply pw_below_drewN | apply below_drew1) | exact HB.out)⟩
                  ·
                   replace c53 := Bool.eq_false_iff.mpr c53
                   subst c53
                   have H1 : ((samp_Smooth.f kj42 x0_2 a2).bind fun bt214 => (if t203 = 0 then (if a2 < 1 then (bakelaw3_SampMixes.j6 kj42 x0_2 a2 bt214.2 t203 t203 bt214.1 true) else (bakelaw3_SampMixes.j6 kj42 x0_2 a2 bt214.2 t203 t203 bt214.1 (decide (a2 > 1000)))) else (bakelaw3_SampMixes.j6 kj42 x0_2 a2 bt214.2 t203 t203 bt214.1 false))) = some r := by rw [if_neg (show ¬ (false = true) by decide)] at H; exact H
                   clear H
                   have H := H1
                   clear H1
                   replace H := Option.bind_eq_some_iff.mp H
                   obtain ⟨⟨t214, t215⟩, A540, H⟩ := H
                   replace H : (if t203 = 0 then (if a2 < 1 then (bakelaw3_SampMixes.j6 kj42 x0_2 a2 t215 t203 t203 t214 true) else (bakelaw3_SampMixes.j6 kj42 x0_2 a2 t215 t203 t203 t214 (decide (a2 > 1000)))) else (bakelaw3_SampMixes.j6 kj42 x0_2 a2 t215 t203 t203 t214 false)) = some r := H
                   have A54 := Aside0.mk A540
                   clear A540
                   have HC55 := Aside0.mk H
                   clear H
                   go_upto_region 24 with (first | ((with_reducible refine gate_callee (f := 77) rfl ?_); refine goesL_ (some 103) rfl rfl Try.func77 (by kernel_rfl) rfl #[.slice A0 x0_2.length c0, .int .i64 a2] rfl (by (try simp only [List.map_toArray, List.map_cons, List.map_nil]); first | done | rfl | (simp only [List.length_drop, List.length_take]; rfl)) ?_; (with_reducible refine (samp_Smooth.calls kj42 _ _ x0_2 a2 t214 t215 _ ?side1 ?side2 A54.out).mono ?_); (case side1 => repeat (first | exact (Kd.V_reads' HO_0.out).2.2 | (with_reducible refine Kd.C_alloc ?_ _) | (with_reducible refine Kd.C_drewN ?_ _) | (with_reducible refine Kd.C_drew ?_))); (case side2 => exact (Kd.V_reads' HO_0.out).2.1); rintro e w56 ⟨v216, rfl, ho0, hb⟩; refine ⟨_, rfl, ?_⟩; have n0_ := Aside0.mk (Kd.V_elder' (by (with_reducible repeat (first | apply Kd.V_alloc | apply Kd.V_drewN | apply Kd.V_drew)); exact HO_0.out) (Kd.R_base ho0) hb); have n1_ := Aside0.mk (Kd.R_lower (Kd.R_newM (M := fun k_ => (w.heap.size ≤ k_)) ho0 (below_size (by repeat (first | (with_reducible first | exact HB.out | apply below_alloc | apply pw_below_drewN | apply below_drew1) | exact HB.out))) (fun k_ h_ => h_)) (below_size (by repeat (first | (with_reducible first | exact HB.out | apply below_alloc | apply pw_below_drewN | apply below_drew1) | exact HB.out)))); have n2_ := Aside0.mk (below_step (by repeat (first | (with_reducible first | exact HB.out | apply below_alloc | apply pw_below_drewN | apply below_drew1) | exact HB.out)) hb); clear HO_0; clear HB; have HO_0 := n0_; have HO217 := n1_; have HB := n2_; clear n0_ n1_ n2_; (try clear hb); (try clear hb2); (try clear hk); (try clear hi); (try clear ho0)))
                   (try simp only [Act.put, List.setIfInBounds_toArray, List.set_cons_zero, List.set_cons_succ])
                   go_cut [116] (fun v116 wc => ∃ (kq : Nat) (x116_54 : Bool), v116 = .bool x116_54 ∧ Aside0 (bakelaw3_SampMixes.j6 kq x0_2 a2 t215 t203 t203 t214 x116_54 = some r) ∧ Aside0 (kq ≤ kj42) ∧ Aside0 (Kd.V (Kd.int .i64) 3 wc w.heap.size (fun k_ => ((P0_ k_ ∨ P1_ k_) ∨ w.heap.size ≤ k_) ∧ some k_ ≠ (v216 : Value).ownBlock) (.slice A0 x0_2.length c0) x0_2) ∧ Aside0 (Kd.R (Kd.int .i64) 3 wc w.heap.size (fun k_ => (w.heap.size ≤ k_)) v216 t214) ∧ Aside0 (Below w.heap.size w wc))
                   case first =>
                    as_aux_lemma =>
                    have H := HC55.out
                    clear HC55
                    by_cases c57 : t203 = 0
                    ·
                     rw [if_pos c57] at H
                     have c57b0 : (t203 == 0) = true := beq_iff_eq.mpr c57
                     have c57b1 : (t203 != 0) = false := bne_eq_false_iff_eq.mpr c57
                     clear c57
                     (first | rw [c57b0] | (simp only [i64_w, i32_w]; rw [c57b0]) | skip)
                     by_cases c58 : a2 < 1
                     ·
                      rw [if_pos c58] at H
                      have c58b0 : decide (a2 < 1) = true := decide_eq_true c58
                      clear c58
                      have H' := Aside0.mk H
                      clear H
                      go_wp2
                      go_meet
                      case rel => exact ⟨_, (true), (by first | rfl | (simp; done) | (simp [*]; done)), H', ⟨by have := HJ11.out; have := HK2.out; have := HJ34.out; have := HJ38.out; have := HJ40.out; have := HJ42.out; first | omega | exact Nat.le_refl _⟩, ⟨by (try simp only [hl0_2]); (try simp only [hl1_2]); (with_reducible repeat (first | apply Kd.V_alloc | apply Kd.V_drewN | apply Kd.V_drew)); exact HO_0.out⟩, ⟨by (try simp only [hl0_2]); (try simp only [hl1_2]); (with_reducible repeat (first | apply Kd.R_alloc | apply Kd.R_drewN | apply Kd.R_drew)); exact Kd.R_mono HO217.out (fun _ hk => hk.1)⟩, ⟨by repeat (first | (with_reducible first | exact HB.out | apply below_alloc | apply pw_below_drewN | apply below_drew1) | exact HB.out)⟩⟩
                     ·
                      rw [if_neg c58] at H
                      have c58b0 : decide (a2 < 1) = false := decide_eq_false c58
                      clear c58
                      have H' := Aside0.mk H
                      clear H
                      go_wp2
                      go_meet
                      case rel => exact ⟨_, (decide (a2 > 1000)), (by first | rfl | (simp; done) | (simp [*]; done)), H', ⟨by have := HJ11.out; have := HK2.out; have := HJ34.out; have := HJ38.out; have := HJ40.out; have := HJ42.out; first | omega | exact Nat.le_refl _⟩, ⟨by (try simp only [hl0_2]); (try simp only [hl1_2]); (with_reducible repeat (first | apply Kd.V_alloc | apply Kd.V_drewN | apply Kd.V_drew)); exact HO_0.out⟩, ⟨by (try simp only [hl0_2]); (try simp only [hl1_2]); (with_reducible repeat (first | apply Kd.R_alloc | apply Kd.R_drewN | apply Kd.R_drew)); exact Kd.R_mono HO217.out (fun _ hk => hk.1)⟩, ⟨by repeat (first | (with_reducible first | exact HB.out | apply below_alloc | apply pw_below_drewN | apply below_drew1) | exact HB.out)⟩⟩
                    ·
                     rw [if_neg c57] at H
                     have c57b0 : (t203 == 0) = false := beq_eq_false_iff_ne.mpr c57
                     have c57b1 : (t203 != 0) = true := bne_iff_ne.mpr c57
                     (first | rw [c57b0] | (simp only [i64_w, i32_w]; rw [c57b0]) | skip)
                     have H' := Aside0.mk H
                     clear H
                     go_wp2
                     go_meet
                     case rel => exact ⟨_, (false), (by first | rfl | (simp; done) | (simp [*]; done)), H', ⟨by have := HJ11.out; have := HK2.out; have := HJ34.out; have := HJ38.out; have := HJ40.out; have := HJ42.out; first | omega | exact Nat.le_refl _⟩, ⟨by (try simp only [hl0_2]); (try simp only [hl1_2]); (with_reducible repeat (first | apply Kd.V_alloc | apply Kd.V_drewN | apply Kd.V_drew)); exact HO_0.out⟩, ⟨by (try simp only [hl0_2]); (try simp only [hl1_2]); (with_reducible repeat (first | apply Kd.R_alloc | apply Kd.R_drewN | apply Kd.R_drew)); exact Kd.R_mono HO217.out (fun _ hk => hk.1)⟩, ⟨by repeat (first | (with_reducible first | exact HB.out | apply below_alloc | apply pw_below_drewN | apply below_drew1) | exact HB.out)⟩⟩
                   case rest =>
                    clear HC55
                    (try clear c1); (try clear q1); (try clear c2); (try clear p2); (try clear c3); (try clear p3); (try clear q3); (try clear hx3); (try clear hf3); (try clear c4); (try clear c5); (try clear c5b0); (try clear c5b1); (try clear c6); (try clear c6b0); (try clear c6b1); (try clear p6); (try clear c7); (try clear c8); (try clear c8b0); (try clear c8b1); (try clear c9); (try clear c9b0); (try clear c9b1); (try clear c14); (try clear q14); (try clear c15); (try clear q15); (try clear c17); (try clear c20); (try clear c20b0); (try clear c20b1); (try clear c23); (try clear c23b0); (try clear c24); (try clear c25); (try clear c25b0); (try clear c25b1); (try clear c28); (try clear c28b0); (try clear c29); (try clear c29b0); (try clear p30); (try clear q30); (try clear hx30); (try clear hf30); (try clear c36); (try clear c36b0); (try clear c36b1); (try clear c40); (try clear c42); (try clear c42b0); (try clear c42b1); (try clear c45); (try clear c46); (try clear c46b0); (try clear c46b1); (try clear c53); (try clear c57); (try clear c57b0); (try clear c57b1); (try clear c58); (try clear c58b0); (try clear hx30_0); (try clear p2); (try clear p3); (try clear p30); (try clear p6); (try clear q1); (try clear q14); (try clear q15); (try clear q3); (try clear q30)
                    obtain ⟨kq, x116_54, rfl, HA, HJ54, HO_0, HO_14, HB⟩ := hcut
                    cases kq with
                    | zero => exact absurd HA.out (by simp [bakelaw3_SampMixes.j6])
                    | succ kj54 =>
                     have H := HA.out
                     clear HA
                     simp only [bakelaw3_SampMixes.j6] at H
                     have HC59 := Aside0.mk H
                     clear H
                     go_upto_if 116 with (fail)
                     go_cut [9] (fun v9 wc => ∃ (kq : Nat) (x9_58 : Int), v9 = .int .i64 x9_58 ∧ Aside0 (bakelaw3_SampMixes.j7 kq x0_2 a2 t215 x9_58 t203 t214 = some r) ∧ Aside0 (kq ≤ kj54) ∧ Aside0 (Kd.V (Kd.int .i64) 3 wc w.heap.size (fun k_ => ((P0_ k_ ∨ P1_ k_) ∨ w.heap.size ≤ k_) ∧ some k_ ≠ (v216 : Value).ownBlock) (.slice A0 x0_2.length c0) x0_2) ∧ Aside0 (Kd.R (Kd.int .i64) 3 wc w.heap.size (fun k_ => (w.heap.size ≤ k_)) v216 t214) ∧ Aside0 (Below w.heap.size w wc))
                     case first =>
                      as_aux_lemma =>
                      have H := HC59.out
                      clear HC59
                      by_cases c60 : x116_54 = true
                      ·
                       subst c60
                       have H1 : (bakelaw3_SampMixes.j7 kj54 x0_2 a2 t215 1 t203 t214) = some r := by rw [if_pos rfl] at H; exact H
                       clear H
                       have H := H1
                       clear H1
                       have H' := Aside0.mk H
                       clear H
                       go_wp2
                       go_meet
                       case rel => exact ⟨_, (1), (by first | rfl | (simp; done) | (simp [*]; done)), H', ⟨by have := HJ11.out; have := HK2.out; have := HJ34.out; have := HJ38.out; have := HJ40.out; have := HJ42.out; have := HJ54.out; first | omega | exact Nat.le_refl _⟩, ⟨by (try simp only [hl0_2]); (try simp only [hl1_2]); (with_reducible repeat (first | apply Kd.V_alloc | apply Kd.V_drewN | apply Kd.V_drew)); exact HO_0.out⟩, ⟨by (try simp only [hl0_2]); (try simp only [hl1_2]); (with_reducible repeat (first | apply Kd.R_alloc | apply Kd.R_drewN | apply Kd.R_drew)); exact HO_14.out⟩, ⟨by repeat (first | (with_reducible first | exact HB.out | apply below_alloc | apply pw_below_drewN | apply below_drew1) | exact HB.out)⟩⟩
                      ·
                       replace c60 := Bool.eq_false_iff.mpr c60
                       subst c60
                       have H1 : (bakelaw3_SampMixes.j7 kj54 x0_2 a2 t215 t203 t203 t214) = some r := by rw [if_neg (show ¬ (false = true) by decide)] at H; exact H
                       clear H
                       have H := H1
                       clear H1
                       have H' := Aside0.mk H
                       clear H
                       go_wp2
                       go_meet
                       case rel => exact ⟨_, (t203), (by first | rfl | (simp; done) | (simp [*]; done)), H', ⟨by have := HJ11.out; have := HK2.out; have := HJ34.out; have := HJ38.out; have := HJ40.out; have := HJ42.out; have := HJ54.out; first | omega | exact Nat.le_refl _⟩, ⟨by (try simp only [hl0_2]); (try simp only [hl1_2]); (with_reducible repeat (first | apply Kd.V_alloc | apply Kd.V_drewN | apply Kd.V_drew)); exact HO_0.out⟩, ⟨by (try simp only [hl0_2]); (try simp only [hl1_2]); (with_reducible repeat (first | apply Kd.R_alloc | apply Kd.R_drewN | apply Kd.R_drew)); exact HO_14.out⟩, ⟨by repeat (first | (with_reducible first | exact HB.out | apply below_alloc | apply pw_below_drewN | apply below_drew1) | exact HB.out)⟩⟩
                     case rest =>
                      clear HC59
                      (try clear c1); (try clear q1); (try clear c2); (try clear p2); (try clear c3); (try clear p3); (try clear q3); (try clear hx3); (try clear hf3); (try clear c4); (try clear c5); (try clear c5b0); (try clear c5b1); (try clear c6); (try clear c6b0); (try clear c6b1); (try clear p6); (try clear c7); (try clear c8); (try clear c8b0); (try clear c8b1); (try clear c9); (try clear c9b0); (try clear c9b1); (try clear c14); (try clear q14); (try clear c15); (try clear q15); (try clear c17); (try clear c20); (try clear c20b0); (try clear c20b1); (try clear c23); (try clear c23b0); (try clear c24); (try clear c25); (try clear c25b0); (try clear c25b1); (try clear c28); (try clear c28b0); (try clear c29); (try clear c29b0); (try clear p30); (try clear q30); (try clear hx30); (try clear hf30); (try clear c36); (try clear c36b0); (try clear c36b1); (try clear c40); (try clear c42); (try clear c42b0); (try clear c42b1); (try clear c45); (try clear c46); (try clear c46b0); (try clear c46b1); (try clear c53); (try clear c57); (try clear c57b0); (try clear c57b1); (try clear c58); (try clear c58b0); (try clear c60); (try clear hx30_0); (try clear p2); (try clear p3); (try clear p30); (try clear p6); (try clear q1); (try clear q14); (try clear q15); (try clear q3); (try clear q30)
                      obtain ⟨kq, x9_58, rfl, HA, HJ58, HO_0, HO_14, HB⟩ := hcut
                      cases kq with
                      | zero => exact absurd HA.out (by simp [bakelaw3_SampMixes.j7])
                      | succ kj58 =>
                       have H := HA.out
                       clear HA
                       simp only [bakelaw3_SampMixes.j7] at H
                       have HC61 := Aside0.mk H
                       clear H
                       go_upto_block 2 with (fail)
                       go_cut [15] (fun v15 wc => ∃ (kq : Nat) (x15_60 : List Int), Aside0 (bakelaw3_SampMixes.j10 kq x0_2 t215 x9_58 t203 t214 x15_60 = some r) ∧ Aside0 (kq ≤ kj58) ∧ Aside0 (Kd.V (Kd.int .i64) 3 wc w.heap.size (fun k_ => ((P0_ k_ ∨ P1_ k_) ∨ w.heap.size ≤ k_) ∧ some k_ ≠ (v216 : Value).ownBlock ∧ some k_ ≠ (v15 : Value).ownBlock) (.slice A0 x0_2.length c0) x0_2) ∧ Aside0 (Kd.R (Kd.int .i64) 3 wc w.heap.size (fun k_ => (w.heap.size ≤ k_) ∧ some k_ ≠ (v15 : Value).ownBlock) v216 t214) ∧ Aside0 (Kd.R (Kd.int .i64) 3 wc w.heap.size (fun k_ => (w.heap.size ≤ k_) ∧ some k_ ≠ (v216 : Value).ownBlock) v15 x15_60) ∧ Aside0 (Below w.heap.size w wc))
                       case first =>
                        as_aux_lemma =>
                        have H := HC61.out
                        clear HC61
                        have H' := Aside0.mk H
                        clear H
                        go_wp2
                        go_loopg [15, 119] kj58 (fun kq v15 v119 w' => ∃ (x15_9 : List Int) (x119_9 : Int), v119 = .int .i64 x119_9 ∧ Aside0 (bakelaw3_SampMixes.l1 kq x0_2 a2 t215 x9_58 t203 t214 x15_9 (x0_2.length : Int) x119_9 = some r) ∧ Aside0 (kq ≤ kj58) ∧ Aside0 (Kd.V (Kd.int .i64) 3 w' w.heap.size (fun k_ => ((P0_ k_ ∨ P1_ k_) ∨ w.heap.size ≤ k_) ∧ some k_ ≠ (v216 : Value).ownBlock ∧ some k_ ≠ (v15 : Value).ownBlock) (.slice A0 x0_2.length c0) x0_2) ∧ Aside0 (Kd.R (Kd.int .i64) 3 w' w.heap.size (fun k_ => (w.heap.size ≤ k_) ∧ some k_ ≠ (v15 : Value).ownBlock) v216 t214) ∧ Aside0 (Kd.R (Kd.int .i64) 3 w' w.heap.size (fun k_ => (w.heap.size ≤ k_) ∧ some k_ ≠ (v216 : Value).ownBlock) v15 x15_9) ∧ Aside0 (Below w.heap.size w w'))
                        case atStart => exact ⟨(([] : List Int)), (0), (by first | rfl | (simp; done) | (simp [*]; done)), H', ⟨Nat.le_refl _⟩, ⟨by (try simp only [hl0_2]); (try simp only [hl1_2]); (with_reducible repeat (first | apply Kd.V_alloc | apply Kd.V_drewN | apply Kd.V_drew)); exact Kd.V_mono HO_0.out (fun _ hk => ⟨hk.1, ⟨hk.2, (by simp [Value.ownBlock])⟩⟩)⟩, ⟨by (try simp only [hl0_2]); (try simp only [hl1_2]); (with_reducible repeat (first | apply Kd.R_alloc | apply Kd.R_drewN | apply Kd.R_drew)); exact Kd.R_mono HO_14.out (fun _ hk => ⟨hk, (by simp [Value.ownBlock])⟩)⟩, ⟨by (try simp only [hl0_2]); (try simp only [hl1_2]); first | exact Kd.R_nil _ _ _ _ _ | exact Kd.N_nil _ _ _ _ _ | exact Kd.V_nil _ _ _ _ _ | exact Kd.Q_nil _ _ _ _ _ | exact Kd.S_nil _ _ _ _ _⟩, ⟨by repeat (first | (with_reducible first | exact HB.out | apply below_alloc | apply pw_below_drewN | apply below_drew1) | exact HB.out)⟩⟩
                        case round =>
                         clear H'
                         (try clear c1); (try clear q1); (try clear c2); (try clear p2); (try clear c3); (try clear p3); (try clear q3); (try clear hx3); (try clear hf3); (try clear c4); (try clear c5); (try clear c5b0); (try clear c5b1); (try clear c6); (try clear c6b0); (try clear c6b1); (try clear p6); (try clear c7); (try clear c8); (try clear c8b0); (try clear c8b1); (try clear c9); (try clear c9b0); (try clear c9b1); (try clear c14); (try clear q14); (try clear c15); (try clear q15); (try clear c17); (try clear c20); (try clear c20b0); (try clear c20b1); (try clear c23); (try clear c23b0); (try clear c24); (try clear c25); (try clear c25b0); (try clear c25b1); (try clear c28); (try clear c28b0); (try clear c29); (try clear c29b0); (try clear p30); (try clear q30); (try clear hx30); (try clear hf30); (try clear c36); (try clear c36b0); (try clear c36b1); (try clear c40); (try clear c42); (try clear c42b0); (try clear c42b1); (try clear c45); (try clear c46); (try clear c46b0); (try clear c46b1); (try clear c53); (try clear c57); (try clear c57b0); (try clear c57b1); (try clear c58); (try clear c58b0); (try clear c60); (try clear hx30_0); (try clear p2); (try clear p3); (try clear p30); (try clear p6); (try clear q1); (try clear q14); (try clear q15); (try clear q3); (try clear q30)
                         obtain ⟨x15_9, x119_9, rfl, HA, HK9, HO_0, HO_14, HO_15, HB⟩ := hrel
                         cases gk with
                         | zero => exact absurd HA.out (by simp [bakelaw3_SampMixes.l1])
                         | succ k9 =>
                          have H := HA.out
                          clear HA
                          simp only [bakelaw3_SampMixes.l1] at H
                          by_cases c62 : x119_9 < (x0_2.length : Int)
                          ·
                           rw [if_pos c62] at H
                           have c62b0 : decide (x119_9 < (x0_2.length : Int)) = true := decide_eq_true c62
                           clear c62
                           (first | rw [c62b0] | (simp only [i64_w, i32_w]; rw [c62b0]) | skip)
                           by_cases c63 : x9_58 = 0
                           ·
                            rw [if_pos c63] at H
                            have c63b0 : (x9_58 == 0) = true := beq_iff_eq.mpr c63
                            have c63b1 : (x9_58 != 0) = false := bne_eq_false_iff_eq.mpr c63
                            clear c63
                            obtain ⟨ji64, hji64⟩ : ∃ j_ : Int, (mx 0 (wrap64 ((wrap64 (x119_9 + 1)) - a2))) = j_ := ⟨_, rfl⟩
                            replace H : (if 0 ≤ (ji64) then (if (ji64) ≤ (wrap64 (x119_9 + 1)) then (if (wrap64 (x119_9 + 1)) ≤ (x0_2.length : Int) then ((some ((x0_2.take ((wrap64 (x119_9 + 1)) : Int).toNat).drop ((ji64) : Int).toNat : List Int)).bind fun y218 => (bakelaw3_SampMixes.l2 k9 x0_2 a2 t215 x9_58 t203 t214 x15_9 x119_9 0 ji64 (x0_2.length : Int) x119_9 y218 (y218.length : Int) 0)) else (none)) else (none)) else (none)) = some r := by first | (rw [hji64] at H; exact H) | (simp only [hji64] at H ⊢; exact H)
                            have hji64_ : (if 0 < (wrap64 ((wrap64 (x119_9 + 1)) - a2)) then (wrap64 ((wrap64 (x119_9 + 1)) - a2)) else 0) = ji64 := hji64
                            by_cases c65 : 0 ≤ (ji64)
                            ·
                             rw [if_pos c65] at H
                             have c65b0 := eq_true c65
                             have c65b1 : decide (0 ≤ (ji64)) = true := decide_eq_true c65
                             clear c65
                             by_cases c66 : (ji64) ≤ (wrap64 (x119_9 + 1))
                             ·
                              rw [if_pos c66] at H
                              have c66b0 := eq_true c66
                              have c66b1 : decide ((ji64) ≤ (wrap64 (x119_9 + 1))) = true := decide_eq_true c66
                              by_cases c67 : (wrap64 (x119_9 + 1)) ≤ (x0_2.length : Int)
                              ·
                               rw [if_pos c67] at H
                               have c67b0 := eq_true c67
                               have c67b1 : decide ((wrap64 (x119_9 + 1)) ≤ (x0_2.length : Int)) = true := decide_eq_true c67
                               obtain ⟨y218, hy218⟩ : ∃ y_ : List Int, y_ = ((x0_2.take ((wrap64 (x119_9 + 1)) : Int).toNat).drop ((ji64) : Int).toNat) := ⟨_, rfl⟩
                               replace H : (bakelaw3_SampMixes.l2 k9 x0_2 a2 t215 x9_58 t203 t214 x15_9 x119_9 0 ji64 (x0_2.length : Int) x119_9 y218 (y218.length : Int) 0) = some r := by first | (rw [hy218]; with_reducible exact H) | (have H2_ := (Option.bind_some _ _).symm.trans H; rw [hy218]; with_reducible exact H2_) | (have H2_ := (Option.bind_some _ _).symm.trans H; with_reducible exact H2_) | with_reducible exact H | (rw [hy218]; exact H) | exact H
                               have Ny218 := Aside0.mk hy218
                               clear hy218
                               have H' := Aside0.mk H
                               clear H
                               have q68 : ((wrap64 (x119_9 + 1)) : Int) ≤ ((x0_2.length : Int) : Int) := of_decide_eq_true (by first | (with_reducible assumption) | assumption)
                               obtain ⟨i068, hi068, _, hsz68, _⟩ := info_parts info3
                               have hroom68 : x0_2.length ≤ c0 := (Kd.V_reads' HO_0.out).2.1
                               have hC68 : Kd.F (Kd.int .i64) _ _ A0 x0_2.length x0_2 := (Kd.V_at (base := w.heap.size) HO_0.out).2.2
                               have ql68 : ((ji64) : Int) ≤ ((wrap64 (x119_9 + 1)) : Int) := of_decide_eq_true (by first | (with_reducible assumption) | assumption)
                               have q068 : (0 : Int) ≤ ((ji64) : Int) := of_decide_eq_true (by first | (with_reducible assumption) | assumption)
                               have hcut68 := cut_mid (P := Try.prog) 22 3 .i64 .i64 Try.underlying22 hi068 1 hsz68 A0 x0_2.length c0 (ji64) (wrap64 (x119_9 + 1)) q068 ql68 q68 hroom68
                               have hr68 := Kd.F_mid (lo := ((ji64) : Int).toNat) (hi := ((wrap64 (x119_9 + 1)) : Int).toNat) (c := c0) hC68 (by omega) (by omega) hroom68
                               obtain ⟨A68, hA68⟩ : ∃ A1, A1 = (if c0 = ((ji64) : Int).toNat then A0 else (A0 : Option Addr).map (·.add (((ji64) : Int).toNat * 1))) := ⟨_, rfl⟩
                               obtain ⟨c68, hc68⟩ : ∃ c1, c1 = c0 - ((ji64) : Int).toNat := ⟨_, rfl⟩
                               have hy68 : y218.length = ((wrap64 (x119_9 + 1)) : Int).toNat - ((ji64) : Int).toNat := (by rw [Ny218.out, List.length_drop, List.length_take] <;> omega)
                               rw [show ((x0_2).take ((wrap64 (x119_9 + 1)) : Int).toNat).drop ((ji64) : Int).toNat = y218 from Ny218.out.symm] at hr68
                               replace hr68 : Kd.F (Kd.int .i64) _ _ A68 y218.length y218 := (by rw [hA68]; exact hr68)
                               rw [← hy68, ← hA68, ← hc68] at hcut68
                               have HO222 := Aside0.mk (show Kd.V (Kd.int .i64) 3 _ w.heap.size _ (.slice A68 y218.length c68) y218 from Kd.V_mk (by rw [hy68, hc68]; exact Nat.sub_le_sub_right (Nat.le_trans (by omega) hroom68) _) hr68)
                               have HC222 := Aside0.mk (show y218.length ≤ c68 from by rw [hy68, hc68]; exact Nat.sub_le_sub_right (Nat.le_trans (by omega) hroom68) _)
                               clear hr68 hC68 hroom68 hi068 hsz68 hc68
                               have KY68 := Aside0.mk hy68
                               have KA68 := Aside0.mk hA68
                               clear hy68 hA68
                               replace q68 := eq_true q68
                               go_wp2
                               go_loopg [17, 135] k9 (fun kq v17 v135 w' => ∃ (x17_10 : Int) (x135_10 : Int), v17 = .int .i64 x17_10 ∧ v135 = .int .i64 x135_10 ∧ Aside0 (bakelaw3_SampMixes.l2 kq x0_2 a2 t215 x9_58 t203 t214 x15_9 x119_9 x17_10 ji64 (x0_2.length : Int) x119_9 y218 (y218.length : Int) x135_10 = some r) ∧ Aside0 (kq ≤ k9) ∧ Aside0 (Kd.V (Kd.int .i64) 3 w' w.heap.size (fun k_ => ((P0_ k_ ∨ P1_ k_) ∨ w.heap.size ≤ k_) ∧ some k_ ≠ (v216 : Value).ownBlock ∧ some k_ ≠ (u15 : Value).ownBlock) (.slice A0 x0_2.length c0) x0_2) ∧ Aside0 (Kd.R (Kd.int .i64) 3 w' w.heap.size (fun k_ => (w.heap.size ≤ k_) ∧ some k_ ≠ (u15 : Value).ownBlock) v216 t214) ∧ Aside0 (Kd.R (Kd.int .i64) 3 w' w.heap.size (fun k_ => (w.heap.size ≤ k_) ∧ some k_ ≠ (v216 : Value).ownBlock) u15 x15_9) ∧ Aside0 (Kd.V (Kd.int .i64) 3 w' w.heap.size (fun k_ => ((P0_ k_ ∨ P1_ k_) ∨ w.heap.size ≤ k_) ∧ some k_ ≠ (v216 : Value).ownBlock ∧ some k_ ≠ (u15 : Value).ownBlock) (.slice A68 y218.length c68) y218) ∧ Aside0 (Below w.heap.size w w'))
                               case atStart => exact ⟨(0), (0), (by first | rfl | (simp; done) | (simp [*]; done)), (by first | rfl | (simp; done) | (simp [*]; done)), H', ⟨Nat.le_refl _⟩, ⟨by (try simp only [hl0_2]); (try simp only [hl1_2]); (with_reducible repeat (first | apply Kd.V_alloc | apply Kd.V_drewN | apply Kd.V_drew)); exact HO_0.out⟩, ⟨by (try simp only [hl0_2]); (try simp only [hl1_2]); (with_reducible repeat (first | apply Kd.R_alloc | apply Kd.R_drewN | apply Kd.R_drew)); exact HO_14.out⟩, ⟨by (try simp only [hl0_2]); (try simp only [hl1_2]); (with_reducible repeat (first | apply Kd.R_alloc | apply Kd.R_drewN | apply Kd.R_drew)); exact HO_15.out⟩, ⟨by (try simp only [hl0_2]); (try simp only [hl1_2]); (with_reducible repeat (first | apply Kd.V_alloc | apply Kd.V_drewN | apply Kd.V_drew)); exact HO222.out⟩, ⟨by repeat (first | (with_reducible first | exact HB.out | apply below_alloc | apply pw_below_drewN | apply below_drew1) | exact HB.out)⟩⟩
                               case round =>
                                as_aux_lemma =>
                                clear H'
                                (try clear c1); (try clear q1); (try clear c2); (try clear p2); (try clear c3); (try clear p3); (try clear q3); (try clear hx3); (try clear hf3); (try clear c4); (try clear c5); (try clear c5b0); (try clear c5b1); (try clear c6); (try clear c6b0); (try clear c6b1); (try clear p6); (try clear q6); (try clear c7); (try clear c8); (try clear c8b0); (try clear c8b1); (try clear c9); (try clear c9b0); (try clear c9b1); (try clear c14); (try clear q14); (try clear c15); (try clear q15); (try clear c17); (try clear c20); (try clear c20b0); (try clear c20b1); (try clear c23); (try clear c23b0); (try clear c24); (try clear c25); (try clear c25b0); (try clear c25b1); (try clear c28); (try clear c28b0); (try clear c29); (try clear c29b0); (try clear p30); (try clear q30); (try clear hx30); (try clear hf30); (try clear c36); (try clear c36b0); (try clear c36b1); (try clear c40); (try clear c42); (try clear c42b0); (try clear c42b1); (try clear c45); (try clear c46); (try clear c46b0); (try clear c46b1); (try clear c53); (try clear c57); (try clear c57b0); (try clear c57b1); (try clear c58); (try clear c58b0); (try clear c60); (try clear c62); (try clear c62b0); (try clear c63); (try clear c63b0); (try clear c63b1); (try clear p64); (try clear c65); (try clear c65b0); (try clear c65b1); (try clear c66); (try clear c66b0); (try clear c66b1); (try clear c67); (try clear c67b0); (try clear c67b1); (try clear c68); (try clear q68); (try clear hx30_0); (try clear p2); (try clear p3); (try clear p30); (try clear p6); (try clear q068); (try clear q1); (try clear q14); (try clear q15); (try clear q3); (try clear q30); (try clear q68)
                                obtain ⟨x17_10, x135_10, rfl, rfl, HA, HK10, HO_0, HO_14, HO_15, HO_133, HB⟩ := hrel
                                cases gk with
                                | zero => exact absurd HA.out (by simp [bakelaw3_SampMixes.l2])
                                | succ k10 =>
                                 have H := HA.out
                                 clear HA
                                 simp only [bakelaw3_SampMixes.l2] at H
                                 by_cases c69 : x135_10 < (y218.length : Int)
                                 ·
                                  rw [if_pos c69] at H
                                  have c69b0 : decide (x135_10 < (y218.length : Int)) = true := decide_eq_true c69
                                  clear c69
                                  by_cases c70 : 0 ≤ x135_10
                                  ·
                                   rw [if_pos c70] at H
                                   have c70b0 : decide (0 ≤ x135_10) = true := decide_eq_true c70
                                   clear c70
                                   by_cases c71 : x135_10 < (y218.length : Int)
                                   ·
                                    rw [if_pos c71] at H
                                    have c71b0 : decide (x135_10 < (y218.length : Int)) = true := decide_eq_true c71
                                    clear c71
                                    have H' := Aside0.mk H
                                    clear H
                                    have p223 : 0 ≤ (x135_10 : Int) := of_decide_eq_true (by first | (with_reducible assumption) | assumption)
                                    have q223 : x135_10 < (y218.length : Int) := of_decide_eq_true (by first | (with_reducible assumption) | assumption)
                                    obtain ⟨ad223, e223, hx223_0⟩ := Kd.at_int (Kd.V_reads' HO_133.out).2.2 x135_10 p223 q223
                                    cases e223
                                    replace p223 := eq_true p223
                                    replace q223 := eq_true q223
                                    go_wp2
                                    go_roundg k10
                                    case measure => have := HJ11.out; have := HK2.out; have := HJ34.out; have := HJ38.out; have := HJ40.out; have := HJ42.out; have := HJ54.out; have := HJ58.out; have := HK9.out; have := HK10.out; omega
                                    case rel => exact ⟨(wrap64 (x17_10 + (rd y218 x135_10))), (wrap64 (x135_10 + 1)), (by first | rfl | (simp; done) | (simp [*]; done)), (by first | rfl | (simp; done) | (simp [*]; done)), H', ⟨by have := HJ11.out; have := HK2.out; have := HJ34.out; have := HJ38.out; have := HJ40.out; have := HJ42.out; have := HJ54.out; have := HJ58.out; have := HK9.out; have := HK10.out; omega⟩, ⟨by (try simp only [hl0_2]); (try simp only [hl1_2]); (with_reducible repeat (first | apply Kd.V_alloc | apply Kd.V_drewN | apply Kd.V_drew)); exact HO_0.out⟩, ⟨by (try simp only [hl0_2]); (try simp only [hl1_2]); (with_reducible repeat (first | apply Kd.R_alloc | apply Kd.R_drewN | apply Kd.R_drew)); exact HO_14.out⟩, ⟨by (try simp only [hl0_2]); (try simp only [hl1_2]); (with_reducible repeat (first | apply Kd.R_alloc | apply Kd.R_drewN | apply Kd.R_drew)); exact HO_15.out⟩, ⟨by (try simp only [hl0_2]); (try simp only [hl1_2]); (with_reducible repeat (first | apply Kd.V_alloc | apply Kd.V_drewN | apply Kd.V_drew)); exact HO_133.out⟩, ⟨by repeat (first | (with_reducible first | exact HB.out | apply below_alloc | apply pw_below_drewN | apply below_drew1) | exact HB.out)⟩⟩
                                   ·
                                    rw [if_neg c71] at H
                                    exact absurd H (by simp)
                                  ·
                                   rw [if_neg c70] at H
                                   exact absurd H (by simp)
                                 ·
                                  rw [if_neg c69] at H
                                  have c69b0 : decide (x135_10 < (y218.length : Int)) = false := decide_eq_false c69
                                  clear c69
                                  by_cases c72 : (wrap64 ((wrap64 (x119_9 + 1)) - ji64)) = 0
                                  ·
                                   rw [if_pos c72] at H
                                   exact absurd H (by simp)
                                  ·
                                   rw [if_neg c72] at H
                                   have c72b0 : ((wrap64 ((wrap64 (x119_9 + 1)) - ji64)) == 0) = false := beq_eq_false_iff_ne.mpr c72
                                   have c72b1 : ((wrap64 ((wrap64 (x119_9 + 1)) - ji64)) != 0) = true := bne_iff_ne.mpr c72
                                   by_cases c73 : x15_9.length < 17592186044416
                                   ·
                                    rw [if_pos c73] at H
                                    have LMc73 := Aside0.mk c73
                                    clear c73
                                    obtain ⟨y224, hy224⟩ : ∃ y_ : List Int, y_ = (x15_9 ++ [wrap64 (Int.tdiv x17_10 (wrap64 ((wrap64 (x119_9 + 1)) - ji64)))]) := ⟨_, rfl⟩
                                    replace H : (bakelaw3_SampMixes.l1 k10 x0_2 a2 t215 x9_58 t203 t214 y224 (x0_2.length : Int) (wrap64 (x119_9 + 1))) = some r := by first | (rw [hy224]; with_reducible exact H) | (have H2_ := (Option.bind_some _ _).symm.trans H; rw [hy224]; with_reducible exact H2_) | (have H2_ := (Option.bind_some _ _).symm.trans H; with_reducible exact H2_) | with_reducible exact H | (rw [hy224]; exact H) | exact H
                                    have Ny224 := Aside0.mk hy224
                                    clear hy224
                                    have H' := Aside0.mk H
                                    clear H
                                    go_wp2_with (first | ((with_reducible refine gate_builtin (b := .append) (xs := #[.tmp 143, .tmp 150]) rfl ?_); (try (refine gate_guard (by rfl) ?_; dsimp only)); at_builtin; refine Kd.R_append (Kd.int .i64) (w0 := w) w.heap.size rfl (.tmp 143) (.tmp 150) 22 3 (.int .i64 0) 8 rfl Try.underlying22 info3 rfl (by decide) (by omega) u15 x15_9 (wrap64 (Int.tdiv x17_10 (wrap64 ((wrap64 (x119_9 + 1)) - ji64)))) [.int .i64 (wrap64 (Int.tdiv x17_10 (wrap64 ((wrap64 (x119_9 + 1)) - ji64))))] (fun k_ => (w.heap.size ≤ k_) ∧ some k_ ≠ (v216 : Value).ownBlock) (fun _ => False) rfl rfl ?aP (fun _ hk => hk.elim) ?aF ?aO ?aB ?aS ?aL ?_; (case aP => exact rfl); (case aB => exact (by repeat (first | (with_reducible first | exact HB.out | apply below_alloc | apply pw_below_drewN | apply below_drew1) | exact HB.out))); (case aF => exact (fun k_ hk => ⟨(Nat.le_trans (below_size (by repeat (first | (with_reducible first | exact HB.out | apply below_alloc | apply pw_below_drewN | apply below_drew1) | exact HB.out))) hk), Kd.fresh' (Kd.R_lt (by (with_reducible repeat (first | apply Kd.R_alloc | apply Kd.R_drewN | apply Kd.R_drew)); exact HO_14.out)) k_ hk⟩)); (case aO => exact (by (with_reducible repeat (first | apply Kd.R_alloc | apply Kd.R_drewN | apply Kd.R_drew)); exact HO_15.out)); (case aS => exact (below_size (by repeat (first | (with_reducible first | exact HB.out | apply below_alloc | apply pw_below_drewN | apply below_drew1) | exact HB.out)))); (case aL => have := LMc73.out; omega); intro v225 w74 ho hb hg hat; rw [← Ny224.out] at ho; have n0_ := Aside0.mk (Kd.V_afterv (ok := (fun k_ => ((P0_ k_ ∨ P1_ k_) ∨ w.heap.size ≤ k_) ∧ some k_ ≠ (v216 : Value).ownBlock)) (by (with_reducible repeat (first | apply Kd.V_alloc | apply Kd.V_drewN | apply Kd.V_drew)); exact Kd.V_mono HO_0.out (fun _ hk => ⟨⟨hk.1, hk.2.1⟩, hk.2.2⟩)) hg hat); have n1_ := Aside0.mk (Kd.R_after (ok := (fun k_ => (w.heap.size ≤ k_))) (by (with_reducible repeat (first | apply Kd.R_alloc | apply Kd.R_drewN | apply Kd.R_drew)); exact HO_14.out) hg hat); have n2_ := Aside0.mk (Kd.V_afterv (ok := (fun k_ => ((P0_ k_ ∨ P1_ k_) ∨ w.heap.size ≤ k_) ∧ some k_ ≠ (v216 : Value).ownBlock)) (by (with_reducible repeat (first | apply Kd.V_alloc | apply Kd.V_drewN | apply Kd.V_drew)); exact Kd.V_mono HO_133.out (fun _ hk => ⟨⟨hk.1, hk.2.1⟩, hk.2.2⟩)) hg hat); have n3_ := Aside0.mk (hb); have n4_ := Aside0.mk (ho); clear HO_0; clear HO_14; clear HO_133; clear HB; clear HO_15; have HO_0 := n0_; have HO_14 := n1_; have HO_133 := n2_; have HB := n3_; have HO226 := n4_; clear n0_ n1_ n2_ n3_ n4_; clear ho hb hg hat))
                                    go_roundg k10
                                    case measure => have := HJ11.out; have := HK2.out; have := HJ34.out; have := HJ38.out; have := HJ40.out; have := HJ42.out; have := HJ54.out; have := HJ58.out; have := HK9.out; have := HK10.out; omega
                                    case rel => exact ⟨(y224), (wrap64 (x119_9 + 1)), (by first | rfl | (simp; done) | (simp [*]; done)), H', ⟨by have := HJ11.out; have := HK2.out; have := HJ34.out; have := HJ38.out; have := HJ40.out; have := HJ42.out; have := HJ54.out; have := HJ58.out; have := HK9.out; have := HK10.out; omega⟩, ⟨by (try simp only [hl0_2]); (try simp only [hl1_2]); (with_reducible repeat (first | apply Kd.V_alloc | apply Kd.V_drewN | apply Kd.V_drew)); exact Kd.V_mono HO_0.out (fun _ hk => ⟨hk.1.1, ⟨hk.1.2, hk.2⟩⟩)⟩, ⟨by (try simp only [hl0_2]); (try simp only [hl1_2]); (with_reducible repeat (first | apply Kd.R_alloc | apply Kd.R_drewN | apply Kd.R_drew)); exact HO_14.out⟩, ⟨by (try simp only [hl0_2]); (try simp only [hl1_2]); (with_reducible repeat (first | apply Kd.R_alloc | apply Kd.R_drewN | apply Kd.R_drew)); exact HO226.out⟩, ⟨by repeat (first | (with_reducible first | exact HB.out | apply below_alloc | apply pw_below_drewN | apply below_drew1) | exact HB.out)⟩⟩
                                   ·
                                    rw [if_neg c73] at H
                                    exact absurd H (by simp)
                              ·
                               rw [if_neg c67] at H
                               exact absurd H (by simp)
                             ·
                              rw [if_neg c66] at H
                              exact absurd H (by simp)
                            ·
                             rw [if_neg c65] at H
                             exact absurd H (by simp)
                           ·
                            rw [if_neg c63] at H
                            have c63b0 : (x9_58 == 0) = false := beq_eq_false_iff_ne.mpr c63
                            have c63b1 : (x9_58 != 0) = true := bne_iff_ne.mpr c63
                            have H' := Aside0.mk H
                            clear H
                            go_wp2
                            go_meet
                            case rel => exact ⟨_, (x15_9), H', ⟨by have := HJ11.out; have := HK2.out; have := HJ34.out; have := HJ38.out; have := HJ40.out; have := HJ42.out; have := HJ54.out; have := HJ58.out; have := HK9.out; first | omega | exact Nat.le_refl _⟩, ⟨by (try simp only [hl0_2]); (try simp only [hl1_2]); (with_reducible repeat (first | apply Kd.V_alloc | apply Kd.V_drewN | apply Kd.V_drew)); exact HO_0.out⟩, ⟨by (try simp only [hl0_2]); (try simp only [hl1_2]); (with_reducible repeat (first | apply Kd.R_alloc | apply Kd.R_drewN | apply Kd.R_drew)); exact HO_14.out⟩, ⟨by (try simp only [hl0_2]); (try simp only [hl1_2]); (with_reducible repeat (first | apply Kd.R_alloc | apply Kd.R_drewN | apply Kd.R_drew)); exact HO_15.out⟩, ⟨by repeat (first | (with_reducible first | exact HB.out | apply below_alloc | apply pw_below_drewN | apply below_drew1) | exact HB.out)⟩⟩
                          ·
                           rw [if_neg c62] at H
                           have c62b0 : decide (x119_9 < (x0_2.length : Int)) = false := decide_eq_false c62
                           clear c62
                           (first | rw [c62b0] | (simp only [i64_w, i32_w]; rw [c62b0]) | skip)
                           have H' := Aside0.mk H
                           clear H
                           go_wp2
                           go_meet
                           case rel => exact ⟨_, (x15_9), H', ⟨by have := HJ11.out; have := HK2.out; have := HJ34.out; have := HJ38.out; have := HJ40.out; have := HJ42.out; have := HJ54.out; have := HJ58.out; have := HK9.out; first | omega | exact Nat.le_refl _⟩, ⟨by (try simp only [hl0_2]); (try simp only [hl1_2]); (with_reducible repeat (first | apply Kd.V_alloc | apply Kd.V_drewN | apply Kd.V_drew)); exact HO_0.out⟩, ⟨by (try simp only [hl0_2]); (try simp only [hl1_2]); (with_reducible repeat (first | apply Kd.R_alloc | apply Kd.R_drewN | apply Kd.R_drew)); exact HO_14.out⟩, ⟨by (try simp only [hl0_2]); (try simp only [hl1_2]); (with_reducible repeat (first | apply Kd.R_alloc | apply Kd.R_drewN | apply Kd.R_drew)); exact HO_15.out⟩, ⟨by repeat (first | (with_reducible first | exact HB.out | apply below_alloc | apply pw_below_drewN | apply below_drew1) | exact HB.out)⟩⟩
                       case rest =>
                        clear HC61
                        (try clear c1); (try clear q1); (try clear c2); (try clear p2); (try clear q2); (try clear hx2); (try clear c3); (try clear p3); (try clear q3); (try clear hx3); (try clear hf3); (try clear c4); (try clear c5); (try clear c5b0); (try clear c5b1); (try clear c6); (try clear c6b0); (try clear c6b1); (try clear p6); (try clear q6); (try clear c7); (try clear c8); (try clear c8b0); (try clear c8b1); (try clear c9); (try clear c9b0); (try clear c9b1); (try clear c14); (try clear q14); (try clear c15); (try clear q15); (try clear c17); (try clear c20); (try clear c20b0); (try clear c20b1); (try clear p22); (try clear q22); (try clear hx22); (try clear c23); (try clear c23b0); (try clear c24); (try clear c25); (try clear c25b0); (try clear c25b1); (try clear c28); (try clear c28b0); (try clear c29); (try clear c29b0); (try clear p30); (try clear q30); (try clear hx30); (try clear hf30); (try clear c36); (try clear c36b0); (try clear c36b1); (try clear c40); (try clear c42); (try clear c42b0); (try clear c42b1); (try clear c45); (try clear c46); (try clear c46b0); (try clear c46b1); (try clear c53); (try clear c57); (try clear c57b0); (try clear c57b1); (try clear c58); (try clear c58b0); (try clear c60); (try clear c62); (try clear c62b0); (try clear c63); (try clear c63b0); (try clear c63b1); (try clear p64); (try clear c65); (try clear c65b0); (try clear c65b1); (try clear c66); (try clear c66b0); (try clear c66b1); (try clear c67); (try clear c67b0); (try clear c67b1); (try clear c68); (try clear q68); (try clear c69); (try clear c69b0); (try clear c70); (try clear c70b0); (try clear c71); (try clear c71b0); (try clear c72); (try clear c72b0); (try clear c72b1); (try clear c73); (try clear hx223_0); (try clear hx30_0); (try clear p2); (try clear p223); (try clear p3); (try clear p30); (try clear p6); (try clear p64); (try clear q068); (try clear q1); (try clear q14); (try clear q15); (try clear q223); (try clear q3); (try clear q30); (try clear q6); (try clear q68)
                        obtain ⟨kq, x15_60, HA, HJ60, HO_0, HO_14, HO_15, HB⟩ := hcut
                        cases kq with
                        | zero => exact absurd HA.out (by simp [bakelaw3_SampMixes.j10])
                        | succ kj60 =>
                         have H := HA.out
                         clear HA
                         simp only [bakelaw3_SampMixes.j10] at H
                         replace H := Option.bind_eq_some_iff.mp H
                         obtain ⟨⟨t227, t228⟩, A750, H⟩ := H
                         replace H : ((samp_Range.f kj60 x0_2).bind fun bt229 => (if t215 = x9_58 then ((slices_Equal_int_int.f kj60 t214 x15_60).bind fun t232 => (if t232 = true then (if t228 = t203 then (bakelaw3_SampMixes.j11 kj60 x0_2 t203 t227 bt229.1 bt229.2.1 (bt229.2.2 != t203)) else (bakelaw3_SampMixes.j11 kj60 x0_2 t203 t227 bt229.1 bt229.2.1 true)) else (bakelaw3_SampMixes.j11 kj60 x0_2 t203 t227 bt229.1 bt229.2.1 true))) else (bakelaw3_SampMixes.j11 kj60 x0_2 t203 t227 bt229.1 bt229.2.1 true))) = some r := H
                         have A75 := Aside0.mk A750
                         clear A750
                         replace H := Option.bind_eq_some_iff.mp H
                         obtain ⟨⟨t229, t230, t231⟩, A760, H⟩ := H
                         replace H : (if t215 = x9_58 then ((slices_Equal_int_int.f kj60 t214 x15_60).bind fun t232 => (if t232 = true then (if t228 = t203 then (bakelaw3_SampMixes.j11 kj60 x0_2 t203 t227 t229 t230 (t231 != t203)) else (bakelaw3_SampMixes.j11 kj60 x0_2 t203 t227 t229 t230 true)) else (bakelaw3_SampMixes.j11 kj60 x0_2 t203 t227 t229 t230 true))) else (bakelaw3_SampMixes.j11 kj60 x0_2 t203 t227 t229 t230 true)) = some r := H
                         have A76 := Aside0.mk A760
                         clear A760
                         have HC77 := Aside0.mk H
                         clear H
                         go_upto_region 41 with (first | ((with_reducible refine gate_callee (f := 78) rfl ?_); refine goesL_ (some 155) rfl rfl Try.func78 (by kernel_rfl) rfl #[.slice A0 x0_2.length c0] rfl (by (try simp only [List.map_toArray, List.map_cons, List.map_nil]); first | done | rfl | (simp only [List.length_drop, List.length_take]; rfl)) ?_; (with_reducible refine (samp_Period.calls kj60 _ _ x0_2 t227 t228 _ ?side1 ?side2 A75.out).mono ?_); (case side1 => repeat (first | exact (Kd.V_reads' HO_0.out).2.2 | (with_reducible refine Kd.C_alloc ?_ _) | (with_reducible refine Kd.C_drewN ?_ _) | (with_reducible refine Kd.C_drew ?_))); (case side2 => exact (Kd.V_reads' HO_0.out).2.1); rintro e w78 ⟨rfl, hb⟩; refine ⟨_, rfl, ?_⟩; have n0_ := Aside0.mk (Kd.V_below (by (with_reducible repeat (first | apply Kd.V_alloc | apply Kd.V_drewN | apply Kd.V_drew)); exact HO_0.out) hb); have n1_ := Aside0.mk (Kd.R_below (by (with_reducible repeat (first | apply Kd.R_alloc | apply Kd.R_drewN | apply Kd.R_drew)); exact HO_14.out) hb); have n2_ := Aside0.mk (Kd.R_below (by (with_reducible repeat (first | apply Kd.R_alloc | apply Kd.R_drewN | apply Kd.R_drew)); exact HO_15.out) hb); have n3_ := Aside0.mk (below_step (by repeat (first | (with_reducible first | exact HB.out | apply below_alloc | apply pw_below_drewN | apply below_drew1) | exact HB.out)) hb); clear HO_0; clear HO_14; clear HO_15; clear HB; have HO_0 := n0_; have HO_14 := n1_; have HO_15 := n2_; have HB := n3_; clear n0_ n1_ n2_ n3_; (try clear hb); (try clear hb2); (try clear hk); (try clear hi)) | ((with_reducible refine gate_callee (f := 79) rfl ?_); refine goesL_ (some 160) rfl rfl Try.func79 (by kernel_rfl) rfl #[.slice A0 x0_2.length c0] rfl (by (try simp only [List.map_toArray, List.map_cons, List.map_nil]); first | done | rfl | (simp only [List.length_drop, List.length_take]; rfl)) ?_; (with_reducible refine (samp_Range.calls kj60 _ _ x0_2 t229 t230 t231 _ ?side1 ?side2 A76.out).mono ?_); (case side1 => repeat (first | exact (Kd.V_reads' HO_0.out).2.2 | (with_reducible refine Kd.C_alloc ?_ _) | (with_reducible refine Kd.C_drewN ?_ _) | (with_reducible refine Kd.C_drew ?_))); (case side2 => exact (Kd.V_reads' HO_0.out).2.1); rintro e w79 ⟨rfl, hb⟩; refine ⟨_, rfl, ?_⟩; have n0_ := Aside0.mk (Kd.V_below (by (with_reducible repeat (first | apply Kd.V_alloc | apply Kd.V_drewN | apply Kd.V_drew)); exact HO_0.out) hb); have n1_ := Aside0.mk (Kd.R_below (by (with_reducible repeat (first | apply Kd.R_alloc | apply Kd.R_drewN | apply Kd.R_drew)); exact HO_14.out) hb); have n2_ := Aside0.mk (Kd.R_below (by (with_reducible repeat (first | apply Kd.R_alloc | apply Kd.R_drewN | apply Kd.R_drew)); exact HO_15.out) hb); have n3_ := Aside0.mk (below_step (by repeat (first | (with_reducible first | exact HB.out | apply below_alloc | apply pw_below_drewN | apply below_drew1) | exact HB.out)) hb); clear HO_0; clear HO_14; clear HO_15; clear HB; have HO_0 := n0_; have HO_14 := n1_; have HO_15 := n2_; have HB := n3_; clear n0_ n1_ n2_ n3_; (try clear hb); (try clear hb2); (try clear hk); (try clear hi)))
                         (try simp only [Act.put, List.setIfInBounds_toArray, List.set_cons_zero, List.set_cons_succ])
                         go_cut [182] (fun v182 wc => ∃ (kq : Nat) (x182_76 : Bool), v182 = .bool x182_76 ∧ Aside0 (bakelaw3_SampMixes.j11 kq x0_2 t203 t227 t229 t230 x182_76 = some r) ∧ Aside0 (kq ≤ kj60) ∧ Aside0 (Kd.V (Kd.int .i64) 3 wc w.heap.size (fun k_ => ((P0_ k_ ∨ P1_ k_) ∨ w.heap.size ≤ k_)) (.slice A0 x0_2.length c0) x0_2) ∧ Aside0 (Below w.heap.size w wc))
                         case first =>
                          as_aux_lemma =>
                          have H := HC77.out
                          clear HC77
                          by_cases c80 : t215 = x9_58
                          ·
                           rw [if_pos c80] at H
                           have c80b0 : (t215 == x9_58) = true := beq_iff_eq.mpr c80
                           have c80b1 : (t215 != x9_58) = false := bne_eq_false_iff_eq.mpr c80
                           clear c80
                           (first | rw [c80b0] | (simp only [i64_w, i32_w]; rw [c80b0]) | skip)
                           replace H := Option.bind_eq_some_iff.mp H
                           obtain ⟨t232, A810, H⟩ := H
                           replace H : (if t232 = true then (if t228 = t203 then (bakelaw3_SampMixes.j11 kj60 x0_2 t203 t227 t229 t230 (t231 != t203)) else (bakelaw3_SampMixes.j11 kj60 x0_2 t203 t227 t229 t230 true)) else (bakelaw3_SampMixes.j11 kj60 x0_2 t203 t227 t229 t230 true)) = some r := H
                           have A81 := Aside0.mk A810
                           clear A810
                           by_cases c82 : t232 = true
                           ·
                            subst c82
                            have H1 : (if t228 = t203 then (bakelaw3_SampMixes.j11 kj60 x0_2 t203 t227 t229 t230 (t231 != t203)) else (bakelaw3_SampMixes.j11 kj60 x0_2 t203 t227 t229 t230 true)) = some r := by rw [if_pos rfl] at H; exact H
                            clear H
                            have H := H1
                            clear H1
                            by_cases c83 : t228 = t203
                            ·
                             rw [if_pos c83] at H
                             have c83b0 : (t228 == t203) = true := beq_iff_eq.mpr c83
                             have c83b1 : (t228 != t203) = false := bne_eq_false_iff_eq.mpr c83
                             clear c83
                             have H' := Aside0.mk H
                             clear H
                             obtain ⟨Ao84, co84, eo84⟩ := Kd.R_slice HO_14.out
                             subst eo84
                             obtain ⟨Ao85, co85, eo85⟩ := Kd.R_slice HO_15.out
                             subst eo85
                             go_wp2_with (first | (go_at_call 22; (with_reducible refine (slices_Equal_int_int.calls kj60 _ _ t214 _ _ x15_60 true _ ?side1 ?side2 ?side3 ?side4 A81.out).mono ?_); (case side1 => repeat (first | exact (Kd.R_reads' HO_14.out).2.2 | (with_reducible refine Kd.C_alloc ?_ _) | (with_reducible refine Kd.C_drewN ?_ _) | (with_reducible refine Kd.C_drew ?_))); (case side2 => exact (Kd.R_reads' HO_14.out).2.1); (case side3 => repeat (first | exact (Kd.R_reads' HO_15.out).2.2 | (with_reducible refine Kd.C_alloc ?_ _) | (with_reducible refine Kd.C_drewN ?_ _) | (with_reducible refine Kd.C_drew ?_))); (case side4 => exact (Kd.R_reads' HO_15.out).2.1); rintro e w' ⟨rfl, ⟨nd, rfl⟩⟩))
                             go_meet
                             case rel => exact ⟨_, ((t231 != t203)), (by first | rfl | (simp; done) | (simp [*]; done)), H', ⟨by have := HJ11.out; have := HK2.out; have := HJ34.out; have := HJ38.out; have := HJ40.out; have := HJ42.out; have := HJ54.out; have := HJ58.out; have := HJ60.out; first | omega | exact Nat.le_refl _⟩, ⟨by (try simp only [hl0_2]); (try simp only [hl1_2]); (with_reducible repeat (first | apply Kd.V_alloc | apply Kd.V_drewN | apply Kd.V_drew)); exact Kd.V_mono HO_0.out (fun _ hk => hk.1)⟩, ⟨by repeat (first | (with_reducible first | exact HB.out | apply below_alloc | apply pw_below_drewN | apply below_drew1) | exact HB.out)⟩⟩
                            ·
                             rw [if_neg c83] at H
                             have c83b0 : (t228 == t203) = false := beq_eq_false_iff_ne.mpr c83
                             have c83b1 : (t228 != t203) = true := bne_iff_ne.mpr c83
                             have H' := Aside0.mk H
                             clear H
                             obtain ⟨Ao86, co86, eo86⟩ := Kd.R_slice HO_14.out
                             subst eo86
                             obtain ⟨Ao87, co87, eo87⟩ := Kd.R_slice HO_15.out
                             subst eo87
                             go_wp2_with (first | (go_at_call 22; (with_reducible refine (slices_Equal_int_int.calls kj60 _ _ t214 _ _ x15_60 true _ ?side1 ?side2 ?side3 ?side4 A81.out).mono ?_); (case side1 => repeat (first | exact (Kd.R_reads' HO_14.out).2.2 | (with_reducible refine Kd.C_alloc ?_ _) | (with_reducible refine Kd.C_drewN ?_ _) | (with_reducible refine Kd.C_drew ?_))); (case side2 => exact (Kd.R_reads' HO_14.out).2.1); (case side3 => repeat (first | exact (Kd.R_reads' HO_15.out).2.2 | (with_reducible refine Kd.C_alloc ?_ _) | (with_reducible refine Kd.C_drewN ?_ _) | (with_reducible refine Kd.C_drew ?_))); (case side4 => exact (Kd.R_reads' HO_15.out).2.1); rintro e w' ⟨rfl, ⟨nd, rfl⟩⟩))
                             go_meet
                             case rel => exact ⟨_, (true), (by first | rfl | (simp; done) | (simp [*]; done)), H', ⟨by have := HJ11.out; have := HK2.out; have := HJ34.out; have := HJ38.out; have := HJ40.out; have := HJ42.out; have := HJ54.out; have := HJ58.out; have := HJ60.out; first | omega | exact Nat.le_refl _⟩, ⟨by (try simp only [hl0_2]); (try simp only [hl1_2]); (with_reducible repeat (first | apply Kd.V_alloc | apply Kd.V_drewN | apply Kd.V_drew)); exact Kd.V_mono HO_0.out (fun _ hk => hk.1)⟩, ⟨by repeat (first | (with_reducible first | exact HB.out | apply below_alloc | apply pw_below_drewN | apply below_drew1) | exact HB.out)⟩⟩
                           ·
                            replace c82 := Bool.eq_false_iff.mpr c82
                            subst c82
                            have H1 : (bakelaw3_SampMixes.j11 kj60 x0_2 t203 t227 t229 t230 true) = some r := by rw [if_neg (show ¬ (false = true) by decide)] at H; exact H
                            clear H
                            have H := H1
                            clear H1
                            have H' := Aside0.mk H
                            clear H
                            obtain ⟨Ao88, co88, eo88⟩ := Kd.R_slice HO_14.out
                            subst eo88
                            obtain ⟨Ao89, co89, eo89⟩ := Kd.R_slice HO_15.out
                            subst eo89
                            go_wp2_with (first | (go_at_call 22; (with_reducible refine (slices_Equal_int_int.calls kj60 _ _ t214 _ _ x15_60 false _ ?side1 ?side2 ?side3 ?side4 A81.out).mono ?_); (case side1 => repeat (first | exact (Kd.R_reads' HO_14.out).2.2 | (with_reducible refine Kd.C_alloc ?_ _) | (with_reducible refine Kd.C_drewN ?_ _) | (with_reducible refine Kd.C_drew ?_))); (case side2 => exact (Kd.R_reads' HO_14.out).2.1); (case side3 => repeat (first | exact (Kd.R_reads' HO_15.out).2.2 | (with_reducible refine Kd.C_alloc ?_ _) | (with_reducible refine Kd.C_drewN ?_ _) | (with_reducible refine Kd.C_drew ?_))); (case side4 => exact (Kd.R_reads' HO_15.out).2.1); rintro e w' ⟨rfl, ⟨nd, rfl⟩⟩))
                            go_meet
                            case rel => exact ⟨_, (true), (by first | rfl | (simp; done) | (simp [*]; done)), H', ⟨by have := HJ11.out; have := HK2.out; have := HJ34.out; have := HJ38.out; have := HJ40.out; have := HJ42.out; have := HJ54.out; have := HJ58.out; have := HJ60.out; first | omega | exact Nat.le_refl _⟩, ⟨by (try simp only [hl0_2]); (try simp only [hl1_2]); (with_reducible repeat (first | apply Kd.V_alloc | apply Kd.V_drewN | apply Kd.V_drew)); exact Kd.V_mono HO_0.out (fun _ hk => hk.1)⟩, ⟨by repeat (first | (with_reducible first | exact HB.out | apply below_alloc | apply pw_below_drewN | apply below_drew1) | exact HB.out)⟩⟩
                          ·
                           rw [if_neg c80] at H
                           have c80b0 : (t215 == x9_58) = false := beq_eq_false_iff_ne.mpr c80
                           have c80b1 : (t215 != x9_58) = true := bne_iff_ne.mpr c80
                           (first | rw [c80b0] | (simp only [i64_w, i32_w]; rw [c80b0]) | skip)
                           have H' := Aside0.mk H
                           clear H
                           go_wp2
                           go_meet
                           case rel => exact ⟨_, (true), (by first | rfl | (simp; done) | (simp [*]; done)), H', ⟨by have := HJ11.out; have := HK2.out; have := HJ34.out; have := HJ38.out; have := HJ40.out; have := HJ42.out; have := HJ54.out; have := HJ58.out; have := HJ60.out; first | omega | exact Nat.le_refl _⟩, ⟨by (try simp only [hl0_2]); (try simp only [hl1_2]); (with_reducible repeat (first | apply Kd.V_alloc | apply Kd.V_drewN | apply Kd.V_drew)); exact Kd.V_mono HO_0.out (fun _ hk => hk.1)⟩, ⟨by repeat (first | (with_reducible first | exact HB.out | apply below_alloc | apply pw_below_drewN | apply below_drew1) | exact HB.out)⟩⟩
                         case rest =>
                          clear HC77
                          (try clear c1); (try clear q1); (try clear c2); (try clear p2); (try clear q2); (try clear hx2); (try clear c3); (try clear p3); (try clear q3); (try clear hx3); (try clear hf3); (try clear c4); (try clear c5); (try clear c5b0); (try clear c5b1); (try clear c6); (try clear c6b0); (try clear c6b1); (try clear p6); (try clear q6); (try clear c7); (try clear c8); (try clear c8b0); (try clear c8b1); (try clear c9); (try clear c9b0); (try clear c9b1); (try clear c14); (try clear q14); (try clear c15); (try clear q15); (try clear c17); (try clear c20); (try clear c20b0); (try clear c20b1); (try clear p22); (try clear q22); (try clear hx22); (try clear c23); (try clear c23b0); (try clear c24); (try clear c25); (try clear c25b0); (try clear c25b1); (try clear c28); (try clear c28b0); (try clear c29); (try clear c29b0); (try clear p30); (try clear q30); (try clear hx30); (try clear hf30); (try clear c36); (try clear c36b0); (try clear c36b1); (try clear c40); (try clear c42); (try clear c42b0); (try clear c42b1); (try clear c45); (try clear c46); (try clear c46b0); (try clear c46b1); (try clear c53); (try clear c57); (try clear c57b0); (try clear c57b1); (try clear c58); (try clear c58b0); (try clear c60); (try clear c62); (try clear c62b0); (try clear c63); (try clear c63b0); (try clear c63b1); (try clear p64); (try clear c65); (try clear c65b0); (try clear c65b1); (try clear c66); (try clear c66b0); (try clear c66b1); (try clear c67); (try clear c67b0); (try clear c67b1); (try clear c68); (try clear q68); (try clear c69); (try clear c69b0); (try clear c70); (try clear c70b0); (try clear c71); (try clear c71b0); (try clear c72); (try clear c72b0); (try clear c72b1); (try clear c73); (try clear c78); (try clear c79); (try clear c80); (try clear c80b0); (try clear c80b1); (try clear c82); (try clear c83); (try clear c83b0); (try clear c83b1); (try clear hx223_0); (try clear hx30_0); (try clear p2); (try clear p22); (try clear p223); (try clear p3); (try clear p30); (try clear p6); (try clear p64); (try clear q068); (try clear q1); (try clear q14); (try clear q15); (try clear q2); (try clear q22); (try clear q223); (try clear q3); (try clear q30); (try clear q6); (try clear q68)
                          obtain ⟨kq, x182_76, rfl, HA, HJ76, HO_0, HB⟩ := hcut
                          cases kq with
                          | zero => exact absurd HA.out (by simp [bakelaw3_SampMixes.j11])
                          | succ kj76 =>
                           have H := HA.out
                           clear HA
                           simp only [bakelaw3_SampMixes.j11] at H
                           by_cases c90 : x182_76 = true
                           ·
                            subst c90
                            have H1 : (some false) = some r := by rw [if_pos rfl] at H; exact H
                            clear H
                            have H := H1
                            clear H1
                            obtain rfl := Option.some.inj H
                            go_wp2
                            go_ret
                            exact ⟨by first | rfl | (simp [errW_none, errW_some] <;> rfl) | (simp only [← hji4, ← hji7, ← hji22]; first | rfl | (simp [errW_none, errW_some] <;> rfl)) | (simp [*, errW_none, errW_some] <;> rfl), by repeat (first | (with_reducible first | exact HB.out | apply below_alloc | apply pw_below_drewN | apply below_drew1) | exact HB.out)⟩
                           ·
                            replace c90 := Bool.eq_false_iff.mpr c90
                            subst c90
                            have H1 : (if t203 = 0 then (bakelaw3_SampMixes.j12 kj76 x0_2 t227 t229 t230 ((x0_2.length : Int) == 0)) else (bakelaw3_SampMixes.j12 kj76 x0_2 t227 t229 t230 true)) = some r := by rw [if_neg (show ¬ (false = true) by decide)] at H; exact H
                            clear H
                            have H := H1
                            clear H1
                            have HC91 := Aside0.mk H
                            clear H
                            go_upto_region 43 with (fail)
                            go_cut [189] (fun v189 wc => ∃ (kq : Nat) (x189_90 : Bool), v189 = .bool x189_90 ∧ Aside0 (bakelaw3_SampMixes.j12 kq x0_2 t227 t229 t230 x189_90 = some r) ∧ Aside0 (kq ≤ kj76) ∧ Aside0 (Kd.V (Kd.int .i64) 3 wc w.heap.size (fun k_ => ((P0_ k_ ∨ P1_ k_) ∨ w.heap.size ≤ k_)) (.slice A0 x0_2.length c0) x0_2) ∧ Aside0 (Below w.heap.size w wc))
                            case first =>
                             as_aux_lemma =>
                             have H := HC91.out
                             clear HC91
                             by_cases c92 : t203 = 0
                             ·
                              rw [if_pos c92] at H
                              have c92b0 : (t203 == 0) = true := beq_iff_eq.mpr c92
                              have c92b1 : (t203 != 0) = false := bne_eq_false_iff_eq.mpr c92
                              clear c92
                              (first | rw [c92b0] | (simp only [i64_w, i32_w]; rw [c92b0]) | skip)
                              have H' := Aside0.mk H
                              clear H
                              go_wp2
                              go_meet
                              case rel => exact ⟨_, (((x0_2.length : Int) == 0)), (by first | rfl | (simp; done) | (simp [*]; done)), H', ⟨by have := HJ11.out; have := HK2.out; have := HJ34.out; have := HJ38.out; have := HJ40.out; have := HJ42.out; have := HJ54.out; have := HJ58.out; have := HJ60.out; have := HJ76.out; first | omega | exact Nat.le_refl _⟩, ⟨by (try simp only [hl0_2]); (try simp only [hl1_2]); (with_reducible repeat (first | apply Kd.V_alloc | apply Kd.V_drewN | apply Kd.V_drew)); exact HO_0.out⟩, ⟨by repeat (first | (with_reducible first | exact HB.out | apply below_alloc | apply pw_below_drewN | apply below_drew1) | exact HB.out)⟩⟩
                             ·
                              rw [if_neg c92] at H
                              have c92b0 : (t203 == 0) = false := beq_eq_false_iff_ne.mpr c92
                              have c92b1 : (t203 != 0) = true := bne_iff_ne.mpr c92
                              (first | rw [c92b0] | (simp only [i64_w, i32_w]; rw [c92b0]) | skip)
                              have H' := Aside0.mk H
                              clear H
                              go_wp2
                              go_meet
                              case rel => exact ⟨_, (true), (by first | rfl | (simp; done) | (simp [*]; done)), H', ⟨by have := HJ11.out; have := HK2.out; have := HJ34.out; have := HJ38.out; have := HJ40.out; have := HJ42.out; have := HJ54.out; have := HJ58.out; have := HJ60.out; have := HJ76.out; first | omega | exact Nat.le_refl _⟩, ⟨by (try simp only [hl0_2]); (try simp only [hl1_2]); (with_reducible repeat (first | apply Kd.V_alloc | apply Kd.V_drewN | apply Kd.V_drew)); exact HO_0.out⟩, ⟨by repeat (first | (with_reducible first | exact HB.out | apply below_alloc | apply pw_below_drewN | apply below_drew1) | exact HB.out)⟩⟩
                            case rest =>
                             clear HC91
                             (try clear c1); (try clear q1); (try clear c2); (try clear p2); (try clear q2); (try clear hx2); (try clear c3); (try clear p3); (try clear q3); (try clear hx3); (try clear hf3); (try clear c4); (try clear c5); (try clear c5b0); (try clear c5b1); (try clear c6); (try clear c6b0); (try clear c6b1); (try clear p6); (try clear q6); (try clear c7); (try clear c8); (try clear c8b0); (try clear c8b1); (try clear c9); (try clear c9b0); (try clear c9b1); (try clear c14); (try clear q14); (try clear c15); (try clear q15); (try clear c17); (try clear c20); (try clear c20b0); (try clear c20b1); (try clear p22); (try clear q22); (try clear hx22); (try clear c23); (try clear c23b0); (try clear c24); (try clear c25); (try clear c25b0); (try clear c25b1); (try clear c28); (try clear c28b0); (try clear c29); (try clear c29b0); (try clear p30); (try clear q30); (try clear hx30); (try clear hf30); (try clear c36); (try clear c36b0); (try clear c36b1); (try clear c40); (try clear c42); (try clear c42b0); (try clear c42b1); (try clear c45); (try clear c46); (try clear c46b0); (try clear c46b1); (try clear c53); (try clear c57); (try clear c57b0); (try clear c57b1); (try clear c58); (try clear c58b0); (try clear c60); (try clear c62); (try clear c62b0); (try clear c63); (try clear c63b0); (try clear c63b1); (try clear p64); (try clear c65); (try clear c65b0); (try clear c65b1); (try clear c66); (try clear c66b0); (try clear c66b1); (try clear c67); (try clear c67b0); (try clear c67b1); (try clear c68); (try clear q68); (try clear c69); (try clear c69b0); (try clear c70); (try clear c70b0); (try clear c71); (try clear c71b0); (try clear c72); (try clear c72b0); (try clear c72b1); (try clear c73); (try clear c78); (try clear c79); (try clear c80); (try clear c80b0); (try clear c80b1); (try clear c82); (try clear c83); (try clear c83b0); (try clear c83b1); (try clear c90); (try clear c92); (try clear c92b0); (try clear c92b1); (try clear hx223_0); (try clear hx30_0); (try clear p2); (try clear p22); (try clear p223); (try clear p3); (try clear p30); (try clear p6); (try clear p64); (try clear q068); (try clear q1); (try clear q14); (try clear q15); (try clear q2); (try clear q22); (try clear q223); (try clear q3); (try clear q30); (try clear q6); (try clear q68)
                             obtain ⟨kq, x189_90, rfl, HA, HJ90, HO_0, HB⟩ := hcut
                             cases kq with
                             | zero => exact absurd HA.out (by simp [bakelaw3_SampMixes.j12])
                             | succ kj90 =>
                              have H := HA.out
                              clear HA
                              simp only [bakelaw3_SampMixes.j12] at H
                              by_cases c93 : x189_90 = true
                              ·
                               subst c93
                               have H1 : (if t227 = 0 then (if t229 = 0 then (some (t230 == 0)) else (some false)) else (some false)) = some r := by rw [if_pos rfl] at H; exact H
                               clear H
                               have H := H1
                               clear H1
                               by_cases c94 : t227 = 0
                               ·
                                rw [if_pos c94] at H
                                have c94b0 : (t227 == 0) = true := beq_iff_eq.mpr c94
                                have c94b1 : (t227 != 0) = false := bne_eq_false_iff_eq.mpr c94
                                clear c94
                                by_cases c95 : t229 = 0
                                ·
                                 rw [if_pos c95] at H
                                 have c95b0 : (t229 == 0) = true := beq_iff_eq.mpr c95
                                 have c95b1 : (t229 != 0) = false := bne_eq_false_iff_eq.mpr c95
                                 clear c95
                                 obtain rfl := Option.some.inj H
                                 go_wp2
                                 go_ret
                                 exact ⟨by first | rfl | (simp [errW_none, errW_some] <;> rfl) | (simp only [← hji4, ← hji7, ← hji22]; first | rfl | (simp [errW_none, errW_some] <;> rfl)) | (simp [*, errW_none, errW_some] <;> rfl), by repeat (first | (with_reducible first | exact HB.out | apply below_alloc | apply pw_below_drewN | apply below_drew1) | exact HB.out)⟩
                                ·
                                 rw [if_neg c95] at H
                                 have c95b0 : (t229 == 0) = false := beq_eq_false_iff_ne.mpr c95
                                 have c95b1 : (t229 != 0) = true := bne_iff_ne.mpr c95
                                 obtain rfl := Option.some.inj H
                                 go_wp2
                                 go_ret
                                 exact ⟨by first | rfl | (simp [errW_none, errW_some] <;> rfl) | (simp only [← hji4, ← hji7, ← hji22]; first | rfl | (simp [errW_none, errW_some] <;> rfl)) | (simp [*, errW_none, errW_some] <;> rfl), by repeat (first | (with_reducible first | exact HB.out | apply below_alloc | apply pw_below_drewN | apply below_drew1) | exact HB.out)⟩
                               ·
                                rw [if_neg c94] at H
                                have c94b0 : (t227 == 0) = false := beq_eq_false_iff_ne.mpr c94
                                have c94b1 : (t227 != 0) = true := bne_iff_ne.mpr c94
                                obtain rfl := Option.some.inj H
                                go_wp2
                                go_ret
                                exact ⟨by first | rfl | (simp [errW_none, errW_some] <;> rfl) | (simp only [← hji4, ← hji7, ← hji22]; first | rfl | (simp [errW_none, errW_some] <;> rfl)) | (simp [*, errW_none, errW_some] <;> rfl), by repeat (first | (with_reducible first | exact HB.out | apply below_alloc | apply pw_below_drewN | apply below_drew1) | exact HB.out)⟩
                              ·
                               replace c93 := Bool.eq_false_iff.mpr c93
                               subst c93
                               have H1 : (bakelaw3_SampMixes.l3 kj90 x0_2 t227 t229 t230 1) = some r := by rw [if_neg (show ¬ (false = true) by decide)] at H; exact H
                               clear H
                               have H := H1
                               clear H1
                               have H' := Aside0.mk H
                               clear H
                               go_wp2
                               go_loopg [26] kj90 (fun kq v26 w' => ∃ (x26_12 : Int), v26 = .int .i64 x26_12 ∧ Aside0 (bakelaw3_SampMixes.l3 kq x0_2 t227 t229 t230 x26_12 = some r) ∧ Aside0 (kq ≤ kj90) ∧ Aside0 (Kd.V (Kd.int .i64) 3 w' w.heap.size (fun k_ => ((P0_ k_ ∨ P1_ k_) ∨ w.heap.size ≤ k_)) (.slice A0 x0_2.length c0) x0_2) ∧ Aside0 (Below w.heap.size w w'))
                               case atStart => exact ⟨(1), (by first | rfl | (simp; done) | (simp [*]; done)), H', ⟨Nat.le_refl _⟩, ⟨by (try simp only [hl0_2]); (try simp only [hl1_2]); (with_reducible repeat (first | apply Kd.V_alloc | apply Kd.V_drewN | apply Kd.V_drew)); exact HO_0.out⟩, ⟨by repeat (first | (with_reducible first | exact HB.out | apply below_alloc | apply pw_below_drewN | apply below_drew1) | exact HB.out)⟩⟩
                               case round =>
                                as_aux_lemma =>
                                clear H'
                                (try clear c1); (try clear q1); (try clear c2); (try clear p2); (try clear q2); (try clear hx2); (try clear c3); (try clear p3); (try clear q3); (try clear hx3); (try clear hf3); (try clear c4); (try clear c5); (try clear c5b0); (try clear c5b1); (try clear c6); (try clear c6b0); (try clear c6b1); (try clear p6); (try clear q6); (try clear c7); (try clear c8); (try clear c8b0); (try clear c8b1); (try clear c9); (try clear c9b0); (try clear c9b1); (try clear c14); (try clear q14); (try clear c15); (try clear q15); (try clear c17); (try clear c20); (try clear c20b0); (try clear c20b1); (try clear p22); (try clear q22); (try clear hx22); (try clear c23); (try clear c23b0); (try clear c24); (try clear c25); (try clear c25b0); (try clear c25b1); (try clear c28); (try clear c28b0); (try clear c29); (try clear c29b0); (try clear p30); (try clear q30); (try clear hx30); (try clear hf30); (try clear c36); (try clear c36b0); (try clear c36b1); (try clear c40); (try clear c42); (try clear c42b0); (try clear c42b1); (try clear c45); (try clear c46); (try clear c46b0); (try clear c46b1); (try clear c53); (try clear c57); (try clear c57b0); (try clear c57b1); (try clear c58); (try clear c58b0); (try clear c60); (try clear c62); (try clear c62b0); (try clear c63); (try clear c63b0); (try clear c63b1); (try clear p64); (try clear c65); (try clear c65b0); (try clear c65b1); (try clear c66); (try clear c66b0); (try clear c66b1); (try clear c67); (try clear c67b0); (try clear c67b1); (try clear c68); (try clear q68); (try clear c69); (try clear c69b0); (try clear c70); (try clear c70b0); (try clear c71); (try clear c71b0); (try clear c72); (try clear c72b0); (try clear c72b1); (try clear c73); (try clear c78); (try clear c79); (try clear c80); (try clear c80b0); (try clear c80b1); (try clear c82); (try clear c83); (try clear c83b0); (try clear c83b1); (try clear c90); (try clear c92); (try clear c92b0); (try clear c92b1); (try clear c93); (try clear c94); (try clear c94b0); (try clear c94b1); (try clear c95); (try clear c95b0); (try clear c95b1); (try clear hx223_0); (try clear hx30_0); (try clear p2); (try clear p22); (try clear p223); (try clear p3); (try clear p30); (try clear p6); (try clear p64); (try clear q068); (try clear q1); (try clear q14); (try clear q15); (try clear q2); (try clear q22); (try clear q223); (try clear q3); (try clear q30); (try clear q6); (try clear q68)
                                obtain ⟨x26_12, rfl, HA, HK12, HO_0, HB⟩ := hrel
                                cases gk with
                                | zero => exact absurd HA.out (by simp [bakelaw3_SampMixes.l3])
                                | succ k12 =>
                                 have H := HA.out
                                 clear HA
                                 simp only [bakelaw3_SampMixes.l3] at H
                                 by_cases c96 : 0 ≤ x26_12
                                 ·
                                  rw [if_pos c96] at H
                                  have c96b0 := eq_true c96
                                  have c96b1 : decide (0 ≤ x26_12) = true := decide_eq_true c96
                                  clear c96
                                  by_cases c97 : x26_12 ≤ (x0_2.length : Int)
                                  ·
                                   rw [if_pos c97] at H
                                   have c97b0 := eq_true c97
                                   have c97b1 : decide (x26_12 ≤ (x0_2.length : Int)) = true := decide_eq_true c97
                                   clear c97
                                   obtain ⟨y233, hy233⟩ : ∃ y_ : List Int, y_ = (x0_2.drop (x26_12 : Int).toNat) := ⟨_, rfl⟩
                                   replace H : (if 0 ≤ (wrap64 ((x0_2.length : Int) - x26_12)) then (if (wrap64 ((x0_2.length : Int) - x26_12)) ≤ (x0_2.length : Int) then ((slices_Equal_int_int.f k12 y233 (x0_2.take ((wrap64 ((x0_2.length : Int) - x26_12)) : Int).toNat)).bind fun t243 => (if t243 = true then (if t227 = x26_12 then ((slices_Min_int_int.f k12 x0_2).bind fun t244 => (if t229 = t244 then ((slices_Max_int_int.f k12 x0_2).bind fun t245 => (some (t230 == t245))) else (some false))) else (some false)) else (bakelaw3_SampMixes.l3 k12 x0_2 t227 t229 t230 (wrap64 (x26_12 + 1))))) else (none)) else (none)) = some r := by first | (rw [hy233]; with_reducible exact H) | (have H2_ := (Option.bind_some _ _).symm.trans H; rw [hy233]; with_reducible exact H2_) | (have H2_ := (Option.bind_some _ _).symm.trans H; with_reducible exact H2_) | with_reducible exact H | (rw [hy233]; exact H) | exact H
                                   have Ny233 := Aside0.mk hy233
                                   clear hy233
                                   obtain ⟨ji98, hji98⟩ : ∃ j_ : Int, (wrap64 ((x0_2.length : Int) - x26_12)) = j_ := ⟨_, rfl⟩
                                   replace H : (if 0 ≤ (ji98) then (if (ji98) ≤ (x0_2.length : Int) then ((slices_Equal_int_int.f k12 y233 (x0_2.take ((ji98) : Int).toNat)).bind fun t243 => (if t243 = true then (if t227 = x26_12 then ((slices_Min_int_int.f k12 x0_2).bind fun t244 => (if t229 = t244 then ((slices_Max_int_int.f k12 x0_2).bind fun t245 => (some (t230 == t245))) else (some false))) else (some false)) else (bakelaw3_SampMixes.l3 k12 x0_2 t227 t229 t230 (wrap64 (x26_12 + 1))))) else (none)) else (none)) = some r := by first | (rw [hji98] at H; exact H) | (simp only [hji98] at H ⊢; exact H)
                                   have hji98w : (IntKind.i64.wrap ((x0_2.length : Int) - x26_12)) = ji98 := (i64_w _).trans hji98
                                   by_cases c99 : 0 ≤ (ji98)
                                   ·
                                    rw [if_pos c99] at H
                                    have c99b0 := eq_true c99
                                    have c99b1 : decide (0 ≤ (ji98)) = true := decide_eq_true c99
                                    clear c99
                                    by_cases c100 : (ji98) ≤ (x0_2.length : Int)
                                    ·
                                     rw [if_pos c100] at H
                                     have c100b0 := eq_true c100
                                     have c100b1 : decide ((ji98) ≤ (x0_2.length : Int)) = true := decide_eq_true c100
                                     clear c100
                                     obtain ⟨y238, hy238⟩ : ∃ y_ : List Int, y_ = (x0_2.take ((ji98) : Int).toNat) := ⟨_, rfl⟩
                                     replace H : ((slices_Equal_int_int.f k12 y233 y238).bind fun t243 => (if t243 = true then (if t227 = x26_12 then ((slices_Min_int_int.f k12 x0_2).bind fun t244 => (if t229 = t244 then ((slices_Max_int_int.f k12 x0_2).bind fun t245 => (some (t230 == t245))) else (some false))) else (some false)) else (bakelaw3_SampMixes.l3 k12 x0_2 t227 t229 t230 (wrap64 (x26_12 + 1))))) = some r := by first | (rw [hy238]; with_reducible exact H) | (have H2_ := (Option.bind_some _ _).symm.trans H; rw [hy238]; with_reducible exact H2_) | (have H2_ := (Option.bind_some _ _).symm.trans H; with_reducible exact H2_) | with_reducible exact H | (rw [hy238]; exact H) | exact H
                                     have Ny238 := Aside0.mk hy238
                                     clear hy238
                                     replace H := Option.bind_eq_some_iff.mp H
                                     obtain ⟨t243, A1010, H⟩ := H
                                     replace H : (if t243 = true then (if t227 = x26_12 then ((slices_Min_int_int.f k12 x0_2).bind fun t244 => (if t229 = t244 then ((slices_Max_int_int.f k12 x0_2).bind fun t245 => (some (t230 == t245))) else (some false))) else (some false)) else (bakelaw3_SampMixes.l3 k12 x0_2 t227 t229 t230 (wrap64 (x26_12 + 1)))) = some r := H
                                     have A101 := Aside0.mk A1010
                                     clear A1010
                                     by_cases c102 : t243 = true
                                     ·
                                      subst c102
                                      have H1 : (if t227 = x26_12 then ((slices_Min_int_int.f k12 x0_2).bind fun t244 => (if t229 = t244 then ((slices_Max_int_int.f k12 x0_2).bind fun t245 => (some (t230 == t245))) else (some false))) else (some false)) = some r := by rw [if_pos rfl] at H; exact H
                                      clear H
                                      have H := H1
                                      clear H1
                                      by_cases c103 : t227 = x26_12
                                      ·
                                       rw [if_pos c103] at H
                                       have c103b0 : (t227 == x26_12) = true := beq_iff_eq.mpr c103
                                       have c103b1 : (t227 != x26_12) = false := bne_eq_false_iff_eq.mpr c103
                                       clear c103
                                       replace H := Option.bind_eq_some_iff.mp H
                                       obtain ⟨t244, A1040, H⟩ := H
                                       replace H : (if t229 = t244 then ((slices_Max_int_int.f k12 x0_2).bind fun t245 => (some (t230 == t245))) else (some false)) = some r := H
                                       have A104 := Aside0.mk A1040
                                       clear A1040
                                       by_cases c105 : t229 = t244
                                       ·
                                        rw [if_pos c105] at H
                                        have c105b0 : (t229 == t244) = true := beq_iff_eq.mpr c105
                                        have c105b1 : (t229 != t244) = false := bne_eq_false_iff_eq.mpr c105
                                        clear c105
                                        replace H := Option.bind_eq_some_iff.mp H
                                        obtain ⟨t245, A1060, H⟩ := H
                                        replace H : (some (t230 == t245)) = some r := H
                                        have A106 := Aside0.mk A1060
                                        clear A1060
                                        obtain rfl := Option.some.inj H
                                        try go_wp2
                                        have n0_ := Aside0.mk (Kd.V_drew HO_0.out)
                                        have n1_ := Aside0.mk (below_drew1 HB.out)
                                        clear HO_0
                                        clear HB
                                        have HO_0 := n0_
                                        have HB := n1_
                                        clear n0_ n1_
                                        have q108 : (x26_12 : Int) ≤ ((x0_2.length : Int) : Int) := of_decide_eq_true (by first | (with_reducible assumption) | assumption)
                                        obtain ⟨i0108, hi0108, _, hsz108, _⟩ := info_parts info3
                                        have hroom108 : x0_2.length ≤ c0 := (Kd.V_reads' HO_0.out).2.1
                                        have hC108 : Kd.F (Kd.int .i64) _ _ A0 x0_2.length x0_2 := (Kd.V_at (base := w.heap.size) HO_0.out).2.2
                                        have q0108 : (0 : Int) ≤ (x26_12 : Int) := of_decide_eq_true (by first | (with_reducible assumption) | assumption)
                                        have hcut108 := cut_from (P := Try.prog) 22 3 .i64 Try.underlying22 hi0108 1 hsz108 A0 x0_2.length c0 x26_12 q0108 q108
                                        have hr108 := Kd.F_cut (m := (x26_12 : Int).toNat) (c := c0) hC108 (by omega) hroom108
                                        obtain ⟨A108, hA108⟩ : ∃ A1, A1 = (if c0 = (x26_12 : Int).toNat then A0 else (A0 : Option Addr).map (·.add ((x26_12 : Int).toNat * 1))) := ⟨_, rfl⟩
                                        obtain ⟨c108, hc108⟩ : ∃ c1, c1 = c0 - (x26_12 : Int).toNat := ⟨_, rfl⟩
                                        have hy108 : y233.length = x0_2.length - (x26_12 : Int).toNat := (by rw [Ny233.out, List.length_drop] <;> omega)
                                        rw [show (x0_2).drop (x26_12 : Int).toNat = y233 from Ny233.out.symm] at hr108
                                        replace hr108 : Kd.F (Kd.int .i64) _ _ A108 y233.length y233 := (by rw [hA108]; exact hr108)
                                        rw [← hy108, ← hA108, ← hc108] at hcut108
                                        have HO237 := Aside0.mk (show Kd.V (Kd.int .i64) 3 _ w.heap.size _ (.slice A108 y233.length c108) y233 from Kd.V_mk (by rw [hy108, hc108]; exact Nat.sub_le_sub_right hroom108 _) hr108)
                                        have HC237 := Aside0.mk (show y233.length ≤ c108 from by rw [hy108, hc108]; exact Nat.sub_le_sub_right hroom108 _)
                                        clear hr108 hC108 hroom108 hi0108 hsz108 hc108
                                        have KY108 := Aside0.mk hy108
                                        have KA108 := Aside0.mk hA108
                                        clear hy108 hA108
                                        replace q108 := eq_true q108
                                        have q109 : ((ji98) : Int) ≤ ((x0_2.length : Int) : Int) := of_decide_eq_true (by first | (with_reducible assumption) | assumption)
                                        obtain ⟨i0109, hi0109, _, hsz109, _⟩ := info_parts info3
                                        have hroom109 : x0_2.length ≤ c0 := (Kd.V_reads' HO_0.out).2.1
                                        have hC109 : Kd.F (Kd.int .i64) _ _ A0 x0_2.length x0_2 := (Kd.V_at (base := w.heap.size) HO_0.out).2.2
                                        have hcut109 := cut_to (P := Try.prog) 22 3 .i64 Try.underlying22 hi0109 A0 x0_2.length c0 (ji98) (of_decide_eq_true (by first | (with_reducible assumption) | assumption)) q109 hroom109
                                        have hr109 := Kd.F_take (m := ((ji98) : Int).toNat) hC109 (by omega)
                                        have hy109 : y238.length = ((ji98) : Int).toNat := (by rw [Ny238.out, List.length_take]; omega)
                                        rw [← Ny238.out] at hr109
                                        rw [← hy109] at hcut109
                                        have HO242 := Aside0.mk (show Kd.V (Kd.int .i64) 3 _ w.heap.size _ (.slice A0 y238.length c0) y238 from Kd.V_mk (by omega) hr109)
                                        have HC242 := Aside0.mk (show y238.length ≤ c0 from by omega)
                                        clear hr109 hC109 hroom109 hi0109 hsz109
                                        have KY109 := Aside0.mk hy109
                                        clear hy109
                                        replace q109 := eq_true q109
                                        refine start_ (n := 11) (S := fun w' => True) (ds := []) #[false, false, false, false, false, false, false, false, false, false, false] (by kernel_rfl) rfl rfl trivial (fun hHeld => ?_); refine with_tabW bakelaw3_SampMixes.tab46 bakelaw3_SampMixes.bits46 (fun HT_ HW_ => ?_)
                                        generalize wr.drew = w107 at HO_0 HB HO237 HO242 hHeld ⊢
                                        refine pure_ (i := 0) (N := some 200) (v := ?_) (a' := ?_) #[true, false, false, false, false, false, false, false, false, false, false] rfl rfl (any_of HT_.out (by kernel_rfl)) (fun _ _ _ h => h) (Or.inl ⟨by rfl, ?_⟩) ?_ ?_
                                        rotate_left
                                        ·
                                         intro w'
                                         go_simp
                                         with_reducible rfl
                                        rotate_left
                                        ·
                                         simp only [Act.put, List.setIfInBounds_toArray, List.set_cons_zero, List.set_cons_succ, i64_w, i32_w]
                                         rfl
                                        refine pure_ (i := 1) (N := some 201) (v := ?_) (a' := ?_) #[true, true, false, false, false, false, false, false, false, false, false] rfl rfl (any_of HT_.out (by kernel_rfl)) (fun _ _ _ h => h) (Or.inl ⟨by rfl, ?_⟩) ?_ ?_
                                        rotate_left
                                        ·
                                         intro w'
                                         go_simp
                                         with_reducible rfl
                                        rotate_left
                                        ·
                                         simp only [Act.put, List.setIfInBounds_toArray, List.set_cons_zero, List.set_cons_succ, i64_w, i32_w]
                                         rfl
                                        refine pure_ (i := 2) (N := some 202) (v := ?_) (a' := ?_) #[true, true, true, false, false, false, false, false, false, false, false] rfl rfl (any_of HT_.out (by kernel_rfl)) (fun _ _ _ h => h) (Or.inl ⟨by rfl, ?_⟩) ?_ ?_
                                        rotate_left
                                        ·
                                         intro w'
                                         go_simp
                                         with_reducible rfl
                                        rotate_left
                                        ·
                                         simp only [Act.put, List.setIfInBounds_toArray, List.set_cons_zero, List.set_cons_succ, i64_w, i32_w]
                                         rfl
                                        refine pure_ (i := 3) (N := some 203) (v := ?_) (a' := ?_) #[true, true, true, true, false, false, false, false, false, false, false] rfl rfl (any_of HT_.out (by kernel_rfl)) (fun _ _ _ h => h) (Or.inl ⟨by rfl, ?_⟩) ?_ ?_
                                        rotate_left
                                        ·
                                         intro w'
                                         go_simp
                                         with_reducible rfl
                                        rotate_left
                                        ·
                                         simp only [Act.put, List.setIfInBounds_toArray, List.set_cons_zero, List.set_cons_succ, i64_w, i32_w]
                                         rfl
                                        refine pure_ (i := 4) (N := some 204) (v := ?_) (a' := ?_) #[true, true, true, true, true, false, false, false, false, false, false] rfl rfl (any_of HT_.out (by kernel_rfl)) (fun _ _ _ h => h) (Or.inl ⟨by rfl, ?_⟩) ?_ ?_
                                        rotate_left
                                        ·
                                         intro w'
                                         go_simp
                                         with_reducible rfl
                                        rotate_left
                                        ·
                                         simp only [Act.put, List.setIfInBounds_toArray, List.set_cons_zero, List.set_cons_succ, i64_w, i32_w]
                                         rfl
                                        refine pure_ (i := 5) (N := some 205) (v := ?_) (a' := ?_) #[true, true, true, true, true, true, false, false, false, false, false] rfl rfl (any_of HT_.out (by kernel_rfl)) (fun _ _ _ h => h) (Or.inl ⟨by rfl, ?_⟩) ?_ ?_
                                        rotate_left
                                        ·
                                         intro w'
                                         go_simp
                                         with_reducible rfl
                                        rotate_left
                                        ·
                                         simp only [Act.put, List.setIfInBounds_toArray, List.set_cons_zero, List.set_cons_succ, i64_w, i32_w]
                                         rfl
                                        refine pure_ (i := 6) (N := some 206) (v := ?_) (a' := ?_) #[true, true, true, true, true, true, true, false, false, false, false] rfl rfl (any_of HT_.out (by kernel_rfl)) (fun _ _ _ h => h) (Or.inl ⟨by rfl, ?_⟩) ?_ ?_
                                        rotate_left
                                        ·
                                         intro w'
                                         go_simp
                                         with_reducible rfl
                                        rotate_left
                                        ·
                                         simp only [Act.put, List.setIfInBounds_toArray, List.set_cons_zero, List.set_cons_succ, i64_w, i32_w]
                                         rfl
                                        refine pure_ (i := 7) (N := some 207) (v := ?_) (a' := ?_) #[true, true, true, true, true, true, true, true, false, false, false] rfl rfl (any_of HT_.out (by kernel_rfl)) (fun _ _ _ h => h) (Or.inl ⟨by rfl, ?_⟩) ?_ ?_
                                        rotate_left
                                        ·
                                         intro w'
                                         go_simp
                                         with_reducible rfl
                                        rotate_left
                                        ·
                                         simp only [Act.put, List.setIfInBounds_toArray, List.set_cons_zero, List.set_cons_succ, i64_w, i32_w]
                                         rfl
                                        refine pure_ (i := 8) (N := some 208) (v := ?_) (a' := ?_) #[true, true, true, true, true, true, true, true, true, false, false] rfl rfl (any_of HT_.out (by kernel_rfl)) (fun _ _ _ h => h) (Or.inl ⟨by rfl, ?_⟩) ?_ ?_
                                        rotate_left
                                        ·
                                         intro w'
                                         go_simp
                                         with_reducible rfl
                                        rotate_left
                                        ·
                                         simp only [Act.put, List.setIfInBounds_toArray, List.set_cons_zero, List.set_cons_succ, i64_w, i32_w]
                                         rfl
                                        refine one_ (i := 9) (N := some 209) #[true, true, true, true, true, true, true, true, true, true, false] rfl rfl (one_of HT_.out (by kernel_rfl)) (by decide) (fun K hK => ?_)
                                        refine goes_ Try.func22 (by kernel_rfl) rfl #[.slice A108 y233.length c108, .slice A0 y238.length c0] (by rfl) rfl rfl (by (try simp only [List.map_toArray, List.map_cons, List.map_nil]); first | done | rfl | (simp only [List.length_drop, List.length_take]; rfl)) ?_
                                        with_reducible refine (slices_Equal_int_int.calls k12 _ _ y233 _ _ y238 true _ ?side1 ?side2 ?side3 ?side4 A101.out).mono ?_
                                        (case side1 => repeat (first | exact (Kd.V_reads' HO237.out).2.2 | (with_reducible refine Kd.C_alloc ?_ _) | (with_reducible refine Kd.C_drewN ?_ _) | (with_reducible refine Kd.C_drew ?_)))
                                        (case side2 => exact (Kd.V_reads' HO237.out).2.1)
                                        (case side3 => repeat (first | exact (Kd.V_reads' HO242.out).2.2 | (with_reducible refine Kd.C_alloc ?_ _) | (with_reducible refine Kd.C_drewN ?_ _) | (with_reducible refine Kd.C_drew ?_)))
                                        (case side4 => exact (Kd.V_reads' HO242.out).2.1)
                                        rintro e w' ⟨rfl, ⟨nd, rfl⟩⟩
                                        refine ⟨_, rfl, ?_⟩
                                        refine hK.out _ _ trivial (fun hHeld => ?_)
                                        clear hK K
                                        refine norm_ (a' := ?_) ?_ ?_
                                        rotate_left
                                        ·
                                         show Act.put _ (some 209) _ = _
                                         simp only [Act.put, List.setIfInBounds_toArray, List.set_cons_zero, List.set_cons_succ, i64_w, i32_w]
                                         rfl
                                        refine pure_ (i := 10) (N := some 210) (v := ?_) (a' := ?_) #[true, true, true, true, true, true, true, true, true, true, true] rfl rfl (any_of HT_.out (by kernel_rfl)) (fun _ _ _ h => h) (Or.inl ⟨by rfl, ?_⟩) ?_ ?_
                                        rotate_left
                                        ·
                                         intro w'
                                         go_simp
                                         with_reducible rfl
                                        rotate_left
                                        ·
                                         simp only [Act.put, List.setIfInBounds_toArray, List.set_cons_zero, List.set_cons_succ, i64_w, i32_w]
                                         rfl
                                        refine done_ (done_of HT_.out (by kernel_rfl)) ?_
                                        try go_wp2_with (first | (go_at_call 80; (with_reducible refine (slices_Min_int_int.calls k12 _ _ x0_2 t244 _ ?side1 ?side2 A104.out).mono ?_); (case side1 => repeat (first | exact (Kd.V_reads' HO_0.out).2.2 | (with_reducible refine Kd.C_alloc ?_ _) | (with_reducible refine Kd.C_drewN ?_ _) | (with_reducible refine Kd.C_drew ?_))); (case side2 => exact (Kd.V_reads' HO_0.out).2.1); rintro e w110 ⟨rfl, hb⟩; have n0_ := Aside0.mk (Kd.V_below (by (with_reducible repeat (first | apply Kd.V_alloc | apply Kd.V_drewN | apply Kd.V_drew)); exact HO_0.out) hb); have n1_ := Aside0.mk (Kd.V_below (by (with_reducible repeat (first | apply Kd.V_alloc | apply Kd.V_drewN | apply Kd.V_drew)); exact HO237.out) hb); have n2_ := Aside0.mk (Kd.V_below (by (with_reducible repeat (first | apply Kd.V_alloc | apply Kd.V_drewN | apply Kd.V_drew)); exact HO242.out) hb); have n3_ := Aside0.mk (below_step (by repeat (first | (with_reducible first | exact HB.out | apply below_alloc | apply pw_below_drewN | apply below_drew1) | exact HB.out)) hb); clear HO_0; clear HO237; clear HO242; clear HB; have HO_0 := n0_; have HO237 := n1_; have HO242 := n2_; have HB := n3_; clear n0_ n1_ n2_ n3_; (try clear hb); (try clear hb2); (try clear hk); (try clear hi)) | (go_at_call 81; (with_reducible refine (slices_Max_int_int.calls k12 _ _ x0_2 t245 _ ?side1 ?side2 A106.out).mono ?_); (case side1 => repeat (first | exact (Kd.V_reads' HO_0.out).2.2 | (with_reducible refine Kd.C_alloc ?_ _) | (with_reducible refine Kd.C_drewN ?_ _) | (with_reducible refine Kd.C_drew ?_))); (case side2 => exact (Kd.V_reads' HO_0.out).2.1); rintro e w111 ⟨rfl, hb⟩; have n0_ := Aside0.mk (Kd.V_below (by (with_reducible repeat (first | apply Kd.V_alloc | apply Kd.V_drewN | apply Kd.V_drew)); exact HO_0.out) hb); have n1_ := Aside0.mk (Kd.V_below (by (with_reducible repeat (first | apply Kd.V_alloc | apply Kd.V_drewN | apply Kd.V_drew)); exact HO237.out) hb); have n2_ := Aside0.mk (Kd.V_below (by (with_reducible repeat (first | apply Kd.V_alloc | apply Kd.V_drewN | apply Kd.V_drew)); exact HO242.out) hb); have n3_ := Aside0.mk (below_step (by repeat (first | (with_reducible first | exact HB.out | apply below_alloc | apply pw_below_drewN | apply below_drew1) | exact HB.out)) hb); clear HO_0; clear HO237; clear HO242; clear HB; have HO_0 := n0_; have HO237 := n1_; have HO242 := n2_; have HB := n3_; clear n0_ n1_ n2_ n3_; (try clear hb); (try clear hb2); (try clear hk); (try clear hi)))
                                        go_ret
                                        exact ⟨by first | rfl | (simp [errW_none, errW_some] <;> rfl) | (simp only [← hji4, ← hji7, ← hji22, ← hji98]; first | rfl | (simp [errW_none, errW_some] <;> rfl)) | (simp [*, errW_none, errW_some] <;> rfl), by repeat (first | (with_reducible first | exact HB.out | apply below_alloc | apply pw_below_drewN | apply below_drew1) | exact HB.out)⟩
                                       ·
                                        rw [if_neg c105] at H
                                        have c105b0 : (t229 == t244) = false := beq_eq_false_iff_ne.mpr c105
                                        have c105b1 : (t229 != t244) = true := bne_iff_ne.mpr c105
                                        obtain rfl := Option.some.inj H
                                        try go_wp2
                                        have n0_ := Aside0.mk (Kd.V_drew HO_0.out)
                                        have n1_ := Aside0.mk (below_drew1 HB.out)
                                        clear HO_0
                                        clear HB
                                        have HO_0 := n0_
                                        have HB := n1_
                                        clear n0_ n1_
                                        have q113 : (x26_12 : Int) ≤ ((x0_2.length : Int) : Int) := of_decide_eq_true (by first | (with_reducible assumption) | assumption)
                                        obtain ⟨i0113, hi0113, _, hsz113, _⟩ := info_parts info3
                                        have hroom113 : x0_2.length ≤ c0 := (Kd.V_reads' HO_0.out).2.1
                                        have hC113 : Kd.F (Kd.int .i64) _ _ A0 x0_2.length x0_2 := (Kd.V_at (base := w.heap.size) HO_0.out).2.2
                                        have q0113 : (0 : Int) ≤ (x26_12 : Int) := of_decide_eq_true (by first | (with_reducible assumption) | assumption)
                                        have hcut113 := cut_from (P := Try.prog) 22 3 .i64 Try.underlying22 hi0113 1 hsz113 A0 x0_2.length c0 x26_12 q0113 q113
                                        have hr113 := Kd.F_cut (m := (x26_12 : Int).toNat) (c := c0) hC113 (by omega) hroom113
                                        obtain ⟨A113, hA113⟩ : ∃ A1, A1 = (if c0 = (x26_12 : Int).toNat then A0 else (A0 : Option Addr).map (·.add ((x26_12 : Int).toNat * 1))) := ⟨_, rfl⟩
                                        obtain ⟨c113, hc113⟩ : ∃ c1, c1 = c0 - (x26_12 : Int).toNat := ⟨_, rfl⟩
                                        have hy113 : y233.length = x0_2.length - (x26_12 : Int).toNat := (by rw [Ny233.out, List.length_drop] <;> omega)
                                        rw [show (x0_2).drop (x26_12 : Int).toNat = y233 from Ny233.out.symm] at hr113
                                        replace hr113 : Kd.F (Kd.int .i64) _ _ A113 y233.length y233 := (by rw [hA113]; exact hr113)
                                        rw [← hy113, ← hA113, ← hc113] at hcut113
                                        have HO237 := Aside0.mk (show Kd.V (Kd.int .i64) 3 _ w.heap.size _ (.slice A113 y233.length c113) y233 from Kd.V_mk (by rw [hy113, hc113]; exact Nat.sub_le_sub_right hroom113 _) hr113)
                                        have HC237 := Aside0.mk (show y233.length ≤ c113 from by rw [hy113, hc113]; exact Nat.sub_le_sub_right hroom113 _)
                                        clear hr113 hC113 hroom113 hi0113 hsz113 hc113
                                        have KY113 := Aside0.mk hy113
                                        have KA113 := Aside0.mk hA113
                                        clear hy113 hA113
                                        replace q113 := eq_true q113
                                        have q114 : ((ji98) : Int) ≤ ((x0_2.length : Int) : Int) := of_decide_eq_true (by first | (with_reducible assumption) | assumption)
                                        obtain ⟨i0114, hi0114, _, hsz114, _⟩ := info_parts info3
                                        have hroom114 : x0_2.length ≤ c0 := (Kd.V_reads' HO_0.out).2.1
                                        have hC114 : Kd.F (Kd.int .i64) _ _ A0 x0_2.length x0_2 := (Kd.V_at (base := w.heap.size) HO_0.out).2.2
                                        have hcut114 := cut_to (P := Try.prog) 22 3 .i64 Try.underlying22 hi0114 A0 x0_2.length c0 (ji98) (of_decide_eq_true (by first | (with_reducible assumption) | assumption)) q114 hroom114
                                        have hr114 := Kd.F_take (m := ((ji98) : Int).toNat) hC114 (by omega)
                                        have hy114 : y238.length = ((ji98) : Int).toNat := (by rw [Ny238.out, List.length_take]; omega)
                                        rw [← Ny238.out] at hr114
                                        rw [← hy114] at hcut114
                                        have HO242 := Aside0.mk (show Kd.V (Kd.int .i64) 3 _ w.heap.size _ (.slice A0 y238.length c0) y238 from Kd.V_mk (by omega) hr114)
                                        have HC242 := Aside0.mk (show y238.length ≤ c0 from by omega)
                                        clear hr114 hC114 hroom114 hi0114 hsz114
                                        have KY114 := Aside0.mk hy114
                                        clear hy114
                                        replace q114 := eq_true q114
                                        refine start_ (n := 11) (S := fun w' => True) (ds := []) #[false, false, false, false, false, false, false, false, false, false, false] (by kernel_rfl) rfl rfl trivial (fun hHeld => ?_); refine with_tabW bakelaw3_SampMixes.tab46 bakelaw3_SampMixes.bits46 (fun HT_ HW_ => ?_)
                                        generalize wr.drew = w112 at HO_0 HB HO237 HO242 hHeld ⊢
                                        refine pure_ (i := 0) (N := some 200) (v := ?_) (a' := ?_) #[true, false, false, false, false, false, false, false, false, false, false] rfl rfl (any_of HT_.out (by kernel_rfl)) (fun _ _ _ h => h) (Or.inl ⟨by rfl, ?_⟩) ?_ ?_
                                        rotate_left
                                        ·
                                         intro w'
                                         go_simp
                                         with_reducible rfl
                                        rotate_left
                                        ·
                                         simp only [Act.put, List.setIfInBounds_toArray, List.set_cons_zero, List.set_cons_succ, i64_w, i32_w]
                                         rfl
                                        refine pure_ (i := 1) (N := some 201) (v := ?_) (a' := ?_) #[true, true, false, false, false, false, false, false, false, false, false] rfl rfl (any_of HT_.out (by kernel_rfl)) (fun _ _ _ h => h) (Or.inl ⟨by rfl, ?_⟩) ?_ ?_
                                        rotate_left
                                        ·
                                         intro w'
                                         go_simp
                                         with_reducible rfl
                                        rotate_left
                                        ·
                                         simp only [Act.put, List.setIfInBounds_toArray, List.set_cons_zero, List.set_cons_succ, i64_w, i32_w]
                                         rfl
                                        refine pure_ (i := 2) (N := some 202) (v := ?_) (a' := ?_) #[true, true, true, false, false, false, false, false, false, false, false] rfl rfl (any_of HT_.out (by kernel_rfl)) (fun _ _ _ h => h) (Or.inl ⟨by rfl, ?_⟩) ?_ ?_
                                        rotate_left
                                        ·
                                         intro w'
                                         go_simp
                                         with_reducible rfl
                                        rotate_left
                                        ·
                                         simp only [Act.put, List.setIfInBounds_toArray, List.set_cons_zero, List.set_cons_succ, i64_w, i32_w]
                                         rfl
                                        refine pure_ (i := 3) (N := some 203) (v := ?_) (a' := ?_) #[true, true, true, true, false, false, false, false, false, false, false] rfl rfl (any_of HT_.out (by kernel_rfl)) (fun _ _ _ h => h) (Or.inl ⟨by rfl, ?_⟩) ?_ ?_
                                        rotate_left
                                        ·
                                         intro w'
                                         go_simp
                                         with_reducible rfl
                                        rotate_left
                                        ·
                                         simp only [Act.put, List.setIfInBounds_toArray, List.set_cons_zero, List.set_cons_succ, i64_w, i32_w]
                                         rfl
                                        refine pure_ (i := 4) (N := some 204) (v := ?_) (a' := ?_) #[true, true, true, true, true, false, false, false, false, false, false] rfl rfl (any_of HT_.out (by kernel_rfl)) (fun _ _ _ h => h) (Or.inl ⟨by rfl, ?_⟩) ?_ ?_
                                        rotate_left
                                        ·
                                         intro w'
                                         go_simp
                                         with_reducible rfl
                                        rotate_left
                                        ·
                                         simp only [Act.put, List.setIfInBounds_toArray, List.set_cons_zero, List.set_cons_succ, i64_w, i32_w]
                                         rfl
                                        refine pure_ (i := 5) (N := some 205) (v := ?_) (a' := ?_) #[true, true, true, true, true, true, false, false, false, false, false] rfl rfl (any_of HT_.out (by kernel_rfl)) (fun _ _ _ h => h) (Or.inl ⟨by rfl, ?_⟩) ?_ ?_
                                        rotate_left
                                        ·
                                         intro w'
                                         go_simp
                                         with_reducible rfl
                                        rotate_left
                                        ·
                                         simp only [Act.put, List.setIfInBounds_toArray, List.set_cons_zero, List.set_cons_succ, i64_w, i32_w]
                                         rfl
                                        refine pure_ (i := 6) (N := some 206) (v := ?_) (a' := ?_) #[true, true, true, true, true, true, true, false, false, false, false] rfl rfl (any_of HT_.out (by kernel_rfl)) (fun _ _ _ h => h) (Or.inl ⟨by rfl, ?_⟩) ?_ ?_
                                        rotate_left
                                        ·
                                         intro w'
                                         go_simp
                                         with_reducible rfl
                                        rotate_left
                                        ·
                                         simp only [Act.put, List.setIfInBounds_toArray, List.set_cons_zero, List.set_cons_succ, i64_w, i32_w]
                                         rfl
                                        refine pure_ (i := 7) (N := some 207) (v := ?_) (a' := ?_) #[true, true, true, true, true, true, true, true, false, false, false] rfl rfl (any_of HT_.out (by kernel_rfl)) (fun _ _ _ h => h) (Or.inl ⟨by rfl, ?_⟩) ?_ ?_
                                        rotate_left
                                        ·
                                         intro w'
                                         go_simp
                                         with_reducible rfl
                                        rotate_left
                                        ·
                                         simp only [Act.put, List.setIfInBounds_toArray, List.set_cons_zero, List.set_cons_succ, i64_w, i32_w]
                                         rfl
                                        refine pure_ (i := 8) (N := some 208) (v := ?_) (a' := ?_) #[true, true, true, true, true, true, true, true, true, false, false] rfl rfl (any_of HT_.out (by kernel_rfl)) (fun _ _ _ h => h) (Or.inl ⟨by rfl, ?_⟩) ?_ ?_
                                        rotate_left
                                        ·
                                         intro w'
                                         go_simp
                                         with_reducible rfl
                                        rotate_left
                                        ·
                                         simp only [Act.put, List.setIfInBounds_toArray, List.set_cons_zero, List.set_cons_succ, i64_w, i32_w]
                                         rfl
                                        refine one_ (i := 9) (N := some 209) #[true, true, true, true, true, true, true, true, true, true, false] rfl rfl (one_of HT_.out (by kernel_rfl)) (by decide) (fun K hK => ?_)
                                        refine goes_ Try.func22 (by kernel_rfl) rfl #[.slice A113 y233.length c113, .slice A0 y238.length c0] (by rfl) rfl rfl (by (try simp only [List.map_toArray, List.map_cons, List.map_nil]); first | done | rfl | (simp only [List.length_drop, List.length_take]; rfl)) ?_
                                        with_reducible refine (slices_Equal_int_int.calls k12 _ _ y233 _ _ y238 true _ ?side1 ?side2 ?side3 ?side4 A101.out).mono ?_
                                        (case side1 => repeat (first | exact (Kd.V_reads' HO237.out).2.2 | (with_reducible refine Kd.C_alloc ?_ _) | (with_reducible refine Kd.C_drewN ?_ _) | (with_reducible refine Kd.C_drew ?_)))
                                        (case side2 => exact (Kd.V_reads' HO237.out).2.1)
                                        (case side3 => repeat (first | exact (Kd.V_reads' HO242.out).2.2 | (with_reducible refine Kd.C_alloc ?_ _) | (with_reducible refine Kd.C_drewN ?_ _) | (with_reducible refine Kd.C_drew ?_)))
                                        (case side4 => exact (Kd.V_reads' HO242.out).2.1)
                                        rintro e w' ⟨rfl, ⟨nd, rfl⟩⟩
                                        refine ⟨_, rfl, ?_⟩
                                        refine hK.out _ _ trivial (fun hHeld => ?_)
                                        clear hK K
                                        refine norm_ (a' := ?_) ?_ ?_
                                        rotate_left
                                        ·
                                         show Act.put _ (some 209) _ = _
                                         simp only [Act.put, List.setIfInBounds_toArray, List.set_cons_zero, List.set_cons_succ, i64_w, i32_w]
                                         rfl
                                        refine pure_ (i := 10) (N := some 210) (v := ?_) (a' := ?_) #[true, true, true, true, true, true, true, true, true, true, true] rfl rfl (any_of HT_.out (by kernel_rfl)) (fun _ _ _ h => h) (Or.inl ⟨by rfl, ?_⟩) ?_ ?_
                                        rotate_left
                                        ·
                                         intro w'
                                         go_simp
                                         with_reducible rfl
                                        rotate_left
                                        ·
                                         simp only [Act.put, List.setIfInBounds_toArray, List.set_cons_zero, List.set_cons_succ, i64_w, i32_w]
                                         rfl
                                        refine done_ (done_of HT_.out (by kernel_rfl)) ?_
                                        try go_wp2_with (first | (go_at_call 80; (with_reducible refine (slices_Min_int_int.calls k12 _ _ x0_2 t244 _ ?side1 ?side2 A104.out).mono ?_); (case side1 => repeat (first | exact (Kd.V_reads' HO_0.out).2.2 | (with_reducible refine Kd.C_alloc ?_ _) | (with_reducible refine Kd.C_drewN ?_ _) | (with_reducible refine Kd.C_drew ?_))); (case side2 => exact (Kd.V_reads' HO_0.out).2.1); rintro e w115 ⟨rfl, hb⟩; have n0_ := Aside0.mk (Kd.V_below (by (with_reducible repeat (first | apply Kd.V_alloc | apply Kd.V_drewN | apply Kd.V_drew)); exact HO_0.out) hb); have n1_ := Aside0.mk (Kd.V_below (by (with_reducible repeat (first | apply Kd.V_alloc | apply Kd.V_drewN | apply Kd.V_drew)); exact HO237.out) hb); have n2_ := Aside0.mk (Kd.V_below (by (with_reducible repeat (first | apply Kd.V_alloc | apply Kd.V_drewN | apply Kd.V_drew)); exact HO242.out) hb); have n3_ := Aside0.mk (below_step (by repeat (first | (with_reducible first | exact HB.out | apply below_alloc | apply pw_below_drewN | apply below_drew1) | exact HB.out)) hb); clear HO_0; clear HO237; clear HO242; clear HB; have HO_0 := n0_; have HO237 := n1_; have HO242 := n2_; have HB := n3_; clear n0_ n1_ n2_ n3_; (try clear hb); (try clear hb2); (try clear hk); (try clear hi)))
                                        go_ret
                                        exact ⟨by first | rfl | (simp [errW_none, errW_some] <;> rfl) | (simp only [← hji4, ← hji7, ← hji22, ← hji98]; first | rfl | (simp [errW_none, errW_some] <;> rfl)) | (simp [*, errW_none, errW_some] <;> rfl), by repeat (first | (with_reducible first | exact HB.out | apply below_alloc | apply pw_below_drewN | apply below_drew1) | exact HB.out)⟩
                                      ·
                                       rw [if_neg c103] at H
                                       have c103b0 : (t227 == x26_12) = false := beq_eq_false_iff_ne.mpr c103
                                       have c103b1 : (t227 != x26_12) = true := bne_iff_ne.mpr c103
                                       obtain rfl := Option.some.inj H
                                       try go_wp2
                                       have n0_ := Aside0.mk (Kd.V_drew HO_0.out)
                                       have n1_ := Aside0.mk (below_drew1 HB.out)
                                       clear HO_0
                                       clear HB
                                       have HO_0 := n0_
                                       have HB := n1_
                                       clear n0_ n1_
                                       have q117 : (x26_12 : Int) ≤ ((x0_2.length : Int) : Int) := of_decide_eq_true (by first | (with_reducible assumption) | assumption)
                                       obtain ⟨i0117, hi0117, _, hsz117, _⟩ := info_parts info3
                                       have hroom117 : x0_2.length ≤ c0 := (Kd.V_reads' HO_0.out).2.1
                                       have hC117 : Kd.F (Kd.int .i64) _ _ A0 x0_2.length x0_2 := (Kd.V_at (base := w.heap.size) HO_0.out).2.2
                                       have q0117 : (0 : Int) ≤ (x26_12 : Int) := of_decide_eq_true (by first | (with_reducible assumption) | assumption)
                                       have hcut117 := cut_from (P := Try.prog) 22 3 .i64 Try.underlying22 hi0117 1 hsz117 A0 x0_2.length c0 x26_12 q0117 q117
                                       have hr117 := Kd.F_cut (m := (x26_12 : Int).toNat) (c := c0) hC117 (by omega) hroom117
                                       obtain ⟨A117, hA117⟩ : ∃ A1, A1 = (if c0 = (x26_12 : Int).toNat then A0 else (A0 : Option Addr).map (·.add ((x26_12 : Int).toNat * 1))) := ⟨_, rfl⟩
                                       obtain ⟨c117, hc117⟩ : ∃ c1, c1 = c0 - (x26_12 : Int).toNat := ⟨_, rfl⟩
                                       have hy117 : y233.length = x0_2.length - (x26_12 : Int).toNat := (by rw [Ny233.out, List.length_drop] <;> omega)
                                       rw [show (x0_2).drop (x26_12 : Int).toNat = y233 from Ny233.out.symm] at hr117
                                       replace hr117 : Kd.F (Kd.int .i64) _ _ A117 y233.length y233 := (by rw [hA117]; exact hr117)
                                       rw [← hy117, ← hA117, ← hc117] at hcut117
                                       have HO237 := Aside0.mk (show Kd.V (Kd.int .i64) 3 _ w.heap.size _ (.slice A117 y233.length c117) y233 from Kd.V_mk (by rw [hy117, hc117]; exact Nat.sub_le_sub_right hroom117 _) hr117)
                                       have HC237 := Aside0.mk (show y233.length ≤ c117 from by rw [hy117, hc117]; exact Nat.sub_le_sub_right hroom117 _)
                                       clear hr117 hC117 hroom117 hi0117 hsz117 hc117
                                       have KY117 := Aside0.mk hy117
                                       have KA117 := Aside0.mk hA117
                                       clear hy117 hA117
                                       replace q117 := eq_true q117
                                       have q118 : ((ji98) : Int) ≤ ((x0_2.length : Int) : Int) := of_decide_eq_true (by first | (with_reducible assumption) | assumption)
                                       obtain ⟨i0118, hi0118, _, hsz118, _⟩ := info_parts info3
                                       have hroom118 : x0_2.length ≤ c0 := (Kd.V_reads' HO_0.out).2.1
                                       have hC118 : Kd.F (Kd.int .i64) _ _ A0 x0_2.length x0_2 := (Kd.V_at (base := w.heap.size) HO_0.out).2.2
                                       have hcut118 := cut_to (P := Try.prog) 22 3 .i64 Try.underlying22 hi0118 A0 x0_2.length c0 (ji98) (of_decide_eq_true (by first | (with_reducible assumption) | assumption)) q118 hroom118
                                       have hr118 := Kd.F_take (m := ((ji98) : Int).toNat) hC118 (by omega)
                                       have hy118 : y238.length = ((ji98) : Int).toNat := (by rw [Ny238.out, List.length_take]; omega)
                                       rw [← Ny238.out] at hr118
                                       rw [← hy118] at hcut118
                                       have HO242 := Aside0.mk (show Kd.V (Kd.int .i64) 3 _ w.heap.size _ (.slice A0 y238.length c0) y238 from Kd.V_mk (by omega) hr118)
                                       have HC242 := Aside0.mk (show y238.length ≤ c0 from by omega)
                                       clear hr118 hC118 hroom118 hi0118 hsz118
                                       have KY118 := Aside0.mk hy118
                                       clear hy118
                                       replace q118 := eq_true q118
                                       refine start_ (n := 11) (S := fun w' => True) (ds := []) #[false, false, false, false, false, false, false, false, false, false, false] (by kernel_rfl) rfl rfl trivial (fun hHeld => ?_); refine with_tabW bakelaw3_SampMixes.tab46 bakelaw3_SampMixes.bits46 (fun HT_ HW_ => ?_)
                                       generalize wr.drew = w116 at HO_0 HB HO237 HO242 hHeld ⊢
                                       refine pure_ (i := 0) (N := some 200) (v := ?_) (a' := ?_) #[true, false, false, false, false, false, false, false, false, false, false] rfl rfl (any_of HT_.out (by kernel_rfl)) (fun _ _ _ h => h) (Or.inl ⟨by rfl, ?_⟩) ?_ ?_
                                       rotate_left
                                       ·
                                        intro w'
                                        go_simp
                                        with_reducible rfl
                                       rotate_left
                                       ·
                                        simp only [Act.put, List.setIfInBounds_toArray, List.set_cons_zero, List.set_cons_succ, i64_w, i32_w]
                                        rfl
                                       refine pure_ (i := 1) (N := some 201) (v := ?_) (a' := ?_) #[true, true, false, false, false, false, false, false, false, false, false] rfl rfl (any_of HT_.out (by kernel_rfl)) (fun _ _ _ h => h) (Or.inl ⟨by rfl, ?_⟩) ?_ ?_
                                       rotate_left
                                       ·
                                        intro w'
                                        go_simp
                                        with_reducible rfl
                                       rotate_left
                                       ·
                                        simp only [Act.put, List.setIfInBounds_toArray, List.set_cons_zero, List.set_cons_succ, i64_w, i32_w]
                                        rfl
                                       refine pure_ (i := 2) (N := some 202) (v := ?_) (a' := ?_) #[true, true, true, false, false, false, false, false, false, false, false] rfl rfl (any_of HT_.out (by kernel_rfl)) (fun _ _ _ h => h) (Or.inl ⟨by rfl, ?_⟩) ?_ ?_
                                       rotate_left
                                       ·
                                        intro w'
                                        go_simp
                                        with_reducible rfl
                                       rotate_left
                                       ·
                                        simp only [Act.put, List.setIfInBounds_toArray, List.set_cons_zero, List.set_cons_succ, i64_w, i32_w]
                                        rfl
                                       refine pure_ (i := 3) (N := some 203) (v := ?_) (a' := ?_) #[true, true, true, true, false, false, false, false, false, false, false] rfl rfl (any_of HT_.out (by kernel_rfl)) (fun _ _ _ h => h) (Or.inl ⟨by rfl, ?_⟩) ?_ ?_
                                       rotate_left
                                       ·
                                        intro w'
                                        go_simp
                                        with_reducible rfl
                                       rotate_left
                                       ·
                                        simp only [Act.put, List.setIfInBounds_toArray, List.set_cons_zero, List.set_cons_succ, i64_w, i32_w]
                                        rfl
                                       refine pure_ (i := 4) (N := some 204) (v := ?_) (a' := ?_) #[true, true, true, true, true, false, false, false, false, false, false] rfl rfl (any_of HT_.out (by kernel_rfl)) (fun _ _ _ h => h) (Or.inl ⟨by rfl, ?_⟩) ?_ ?_
                                       rotate_left
                                       ·
                                        intro w'
                                        go_simp
                                        with_reducible rfl
                                       rotate_left
                                       ·
                                        simp only [Act.put, List.setIfInBounds_toArray, List.set_cons_zero, List.set_cons_succ, i64_w, i32_w]
                                        rfl
                                       refine pure_ (i := 5) (N := some 205) (v := ?_) (a' := ?_) #[true, true, true, true, true, true, false, false, false, false, false] rfl rfl (any_of HT_.out (by kernel_rfl)) (fun _ _ _ h => h) (Or.inl ⟨by rfl, ?_⟩) ?_ ?_
                                       rotate_left
                                       ·
                                        intro w'
                                        go_simp
                                        with_reducible rfl
                                       rotate_left
                                       ·
                                        simp only [Act.put, List.setIfInBounds_toArray, List.set_cons_zero, List.set_cons_succ, i64_w, i32_w]
                                        rfl
                                       refine pure_ (i := 6) (N := some 206) (v := ?_) (a' := ?_) #[true, true, true, true, true, true, true, false, false, false, false] rfl rfl (any_of HT_.out (by kernel_rfl)) (fun _ _ _ h => h) (Or.inl ⟨by rfl, ?_⟩) ?_ ?_
                                       rotate_left
                                       ·
                                        intro w'
                                        go_simp
                                        with_reducible rfl
                                       rotate_left
                                       ·
                                        simp only [Act.put, List.setIfInBounds_toArray, List.set_cons_zero, List.set_cons_succ, i64_w, i32_w]
                                        rfl
                                       refine pure_ (i := 7) (N := some 207) (v := ?_) (a' := ?_) #[true, true, true, true, true, true, true, true, false, false, false] rfl rfl (any_of HT_.out (by kernel_rfl)) (fun _ _ _ h => h) (Or.inl ⟨by rfl, ?_⟩) ?_ ?_
                                       rotate_left
                                       ·
                                        intro w'
                                        go_simp
                                        with_reducible rfl
                                       rotate_left
                                       ·
                                        simp only [Act.put, List.setIfInBounds_toArray, List.set_cons_zero, List.set_cons_succ, i64_w, i32_w]
                                        rfl
                                       refine pure_ (i := 8) (N := some 208) (v := ?_) (a' := ?_) #[true, true, true, true, true, true, true, true, true, false, false] rfl rfl (any_of HT_.out (by kernel_rfl)) (fun _ _ _ h => h) (Or.inl ⟨by rfl, ?_⟩) ?_ ?_
                                       rotate_left
                                       ·
                                        intro w'
                                        go_simp
                                        with_reducible rfl
                                       rotate_left
                                       ·
                                        simp only [Act.put, List.setIfInBounds_toArray, List.set_cons_zero, List.set_cons_succ, i64_w, i32_w]
                                        rfl
                                       refine one_ (i := 9) (N := some 209) #[true, true, true, true, true, true, true, true, true, true, false] rfl rfl (one_of HT_.out (by kernel_rfl)) (by decide) (fun K hK => ?_)
                                       refine goes_ Try.func22 (by kernel_rfl) rfl #[.slice A117 y233.length c117, .slice A0 y238.length c0] (by rfl) rfl rfl (by (try simp only [List.map_toArray, List.map_cons, List.map_nil]); first | done | rfl | (simp only [List.length_drop, List.length_take]; rfl)) ?_
                                       with_reducible refine (slices_Equal_int_int.calls k12 _ _ y233 _ _ y238 true _ ?side1 ?side2 ?side3 ?side4 A101.out).mono ?_
                                       (case side1 => repeat (first | exact (Kd.V_reads' HO237.out).2.2 | (with_reducible refine Kd.C_alloc ?_ _) | (with_reducible refine Kd.C_drewN ?_ _) | (with_reducible refine Kd.C_drew ?_)))
                                       (case side2 => exact (Kd.V_reads' HO237.out).2.1)
                                       (case side3 => repeat (first | exact (Kd.V_reads' HO242.out).2.2 | (with_reducible refine Kd.C_alloc ?_ _) | (with_reducible refine Kd.C_drewN ?_ _) | (with_reducible refine Kd.C_drew ?_)))
                                       (case side4 => exact (Kd.V_reads' HO242.out).2.1)
                                       rintro e w' ⟨rfl, ⟨nd, rfl⟩⟩
                                       refine ⟨_, rfl, ?_⟩
                                       refine hK.out _ _ trivial (fun hHeld => ?_)
                                       clear hK K
                                       refine norm_ (a' := ?_) ?_ ?_
                                       rotate_left
                                       ·
                                        show Act.put _ (some 209) _ = _
                                        simp only [Act.put, List.setIfInBounds_toArray, List.set_cons_zero, List.set_cons_succ, i64_w, i32_w]
                                        rfl
                                       refine pure_ (i := 10) (N := some 210) (v := ?_) (a' := ?_) #[true, true, true, true, true, true, true, true, true, true, true] rfl rfl (any_of HT_.out (by kernel_rfl)) (fun _ _ _ h => h) (Or.inl ⟨by rfl, ?_⟩) ?_ ?_
                                       rotate_left
                                       ·
                                        intro w'
                                        go_simp
                                        with_reducible rfl
                                       rotate_left
                                       ·
                                        simp only [Act.put, List.setIfInBounds_toArray, List.set_cons_zero, List.set_cons_succ, i64_w, i32_w]
                                        rfl
                                       refine done_ (done_of HT_.out (by kernel_rfl)) ?_
                                       try go_wp2
                                       go_ret
                                       exact ⟨by first | rfl | (simp [errW_none, errW_some] <;> rfl) | (simp only [← hji4, ← hji7, ← hji22, ← hji98]; first | rfl | (simp [errW_none, errW_some] <;> rfl)) | (simp [*, errW_none, errW_some] <;> rfl), by repeat (first | (with_reducible first | exact HB.out | apply below_alloc | apply pw_below_drewN | apply below_drew1) | exact HB.out)⟩
                                     ·
                                      replace c102 := Bool.eq_false_iff.mpr c102
                                      subst c102
                                      have H1 : (bakelaw3_SampMixes.l3 k12 x0_2 t227 t229 t230 (wrap64 (x26_12 + 1))) = some r := by rw [if_neg (show ¬ (false = true) by decide)] at H; exact H
                                      clear H
                                      have H := H1
                                      clear H1
                                      have H' := Aside0.mk H
                                      clear H
                                      try go_wp2
                                      have n0_ := Aside0.mk (Kd.V_drew HO_0.out)
                                      have n1_ := Aside0.mk (below_drew1 HB.out)
                                      clear HO_0
                                      clear HB
                                      have HO_0 := n0_
                                      have HB := n1_
                                      clear n0_ n1_
                                      have q120 : (x26_12 : Int) ≤ ((x0_2.length : Int) : Int) := of_decide_eq_true (by first | (with_reducible assumption) | assumption)
                                      obtain ⟨i0120, hi0120, _, hsz120, _⟩ := info_parts info3
                                      have hroom120 : x0_2.length ≤ c0 := (Kd.V_reads' HO_0.out).2.1
                                      have hC120 : Kd.F (Kd.int .i64) _ _ A0 x0_2.length x0_2 := (Kd.V_at (base := w.heap.size) HO_0.out).2.2
                                      have q0120 : (0 : Int) ≤ (x26_12 : Int) := of_decide_eq_true (by first | (with_reducible assumption) | assumption)
                                      have hcut120 := cut_from (P := Try.prog) 22 3 .i64 Try.underlying22 hi0120 1 hsz120 A0 x0_2.length c0 x26_12 q0120 q120
                                      have hr120 := Kd.F_cut (m := (x26_12 : Int).toNat) (c := c0) hC120 (by omega) hroom120
                                      obtain ⟨A120, hA120⟩ : ∃ A1, A1 = (if c0 = (x26_12 : Int).toNat then A0 else (A0 : Option Addr).map (·.add ((x26_12 : Int).toNat * 1))) := ⟨_, rfl⟩
                                      obtain ⟨c120, hc120⟩ : ∃ c1, c1 = c0 - (x26_12 : Int).toNat := ⟨_, rfl⟩
                                      have hy120 : y233.length = x0_2.length - (x26_12 : Int).toNat := (by rw [Ny233.out, List.length_drop] <;> omega)
                                      rw [show (x0_2).drop (x26_12 : Int).toNat = y233 from Ny233.out.symm] at hr120
                                      replace hr120 : Kd.F (Kd.int .i64) _ _ A120 y233.length y233 := (by rw [hA120]; exact hr120)
                                      rw [← hy120, ← hA120, ← hc120] at hcut120
                                      have HO237 := Aside0.mk (show Kd.V (Kd.int .i64) 3 _ w.heap.size _ (.slice A120 y233.length c120) y233 from Kd.V_mk (by rw [hy120, hc120]; exact Nat.sub_le_sub_right hroom120 _) hr120)
                                      have HC237 := Aside0.mk (show y233.length ≤ c120 from by rw [hy120, hc120]; exact Nat.sub_le_sub_right hroom120 _)
                                      clear hr120 hC120 hroom120 hi0120 hsz120 hc120
                                      have KY120 := Aside0.mk hy120
                                      have KA120 := Aside0.mk hA120
                                      clear hy120 hA120
                                      replace q120 := eq_true q120
                                      have q121 : ((ji98) : Int) ≤ ((x0_2.length : Int) : Int) := of_decide_eq_true (by first | (with_reducible assumption) | assumption)
                                      obtain ⟨i0121, hi0121, _, hsz121, _⟩ := info_parts info3
                                      have hroom121 : x0_2.length ≤ c0 := (Kd.V_reads' HO_0.out).2.1
                                      have hC121 : Kd.F (Kd.int .i64) _ _ A0 x0_2.length x0_2 := (Kd.V_at (base := w.heap.size) HO_0.out).2.2
                                      have hcut121 := cut_to (P := Try.prog) 22 3 .i64 Try.underlying22 hi0121 A0 x0_2.length c0 (ji98) (of_decide_eq_true (by first | (with_reducible assumption) | assumption)) q121 hroom121
                                      have hr121 := Kd.F_take (m := ((ji98) : Int).toNat) hC121 (by omega)
                                      have hy121 : y238.length = ((ji98) : Int).toNat := (by rw [Ny238.out, List.length_take]; omega)
                                      rw [← Ny238.out] at hr121
                                      rw [← hy121] at hcut121
                                      have HO242 := Aside0.mk (show Kd.V (Kd.int .i64) 3 _ w.heap.size _ (.slice A0 y238.length c0) y238 from Kd.V_mk (by omega) hr121)
                                      have HC242 := Aside0.mk (show y238.length ≤ c0 from by omega)
                                      clear hr121 hC121 hroom121 hi0121 hsz121
                                      have KY121 := Aside0.mk hy121
                                      clear hy121
                                      replace q121 := eq_true q121
                                      refine start_ (n := 11) (S := fun w' => True) (ds := []) #[false, false, false, false, false, false, false, false, false, false, false] (by kernel_rfl) rfl rfl trivial (fun hHeld => ?_); refine with_tabW bakelaw3_SampMixes.tab46 bakelaw3_SampMixes.bits46 (fun HT_ HW_ => ?_)
                                      generalize wr.drew = w119 at HO_0 HB HO237 HO242 hHeld ⊢
                                      refine pure_ (i := 0) (N := some 200) (v := ?_) (a' := ?_) #[true, false, false, false, false, false, false, false, false, false, false] rfl rfl (any_of HT_.out (by kernel_rfl)) (fun _ _ _ h => h) (Or.inl ⟨by rfl, ?_⟩) ?_ ?_
                                      rotate_left
                                      ·
                                       intro w'
                                       go_simp
                                       with_reducible rfl
                                      rotate_left
                                      ·
                                       simp only [Act.put, List.setIfInBounds_toArray, List.set_cons_zero, List.set_cons_succ, i64_w, i32_w]
                                       rfl
                                      refine pure_ (i := 1) (N := some 201) (v := ?_) (a' := ?_) #[true, true, false, false, false, false, false, false, false, false, false] rfl rfl (any_of HT_.out (by kernel_rfl)) (fun _ _ _ h => h) (Or.inl ⟨by rfl, ?_⟩) ?_ ?_
                                      rotate_left
                                      ·
                                       intro w'
                                       go_simp
                                       with_reducible rfl
                                      rotate_left
                                      ·
                                       simp only [Act.put, List.setIfInBounds_toArray, List.set_cons_zero, List.set_cons_succ, i64_w, i32_w]
                                       rfl
                                      refine pure_ (i := 2) (N := some 202) (v := ?_) (a' := ?_) #[true, true, true, false, false, false, false, false, false, false, false] rfl rfl (any_of HT_.out (by kernel_rfl)) (fun _ _ _ h => h) (Or.inl ⟨by rfl, ?_⟩) ?_ ?_
                                      rotate_left
                                      ·
                                       intro w'
                                       go_simp
                                       with_reducible rfl
                                      rotate_left
                                      ·
                                       simp only [Act.put, List.setIfInBounds_toArray, List.set_cons_zero, List.set_cons_succ, i64_w, i32_w]
                                       rfl
                                      refine pure_ (i := 3) (N := some 203) (v := ?_) (a' := ?_) #[true, true, true, true, false, false, false, false, false, false, false] rfl rfl (any_of HT_.out (by kernel_rfl)) (fun _ _ _ h => h) (Or.inl ⟨by rfl, ?_⟩) ?_ ?_
                                      rotate_left
                                      ·
                                       intro w'
                                       go_simp
                                       with_reducible rfl
                                      rotate_left
                                      ·
                                       simp only [Act.put, List.setIfInBounds_toArray, List.set_cons_zero, List.set_cons_succ, i64_w, i32_w]
                                       rfl
                                      refine pure_ (i := 4) (N := some 204) (v := ?_) (a' := ?_) #[true, true, true, true, true, false, false, false, false, false, false] rfl rfl (any_of HT_.out (by kernel_rfl)) (fun _ _ _ h => h) (Or.inl ⟨by rfl, ?_⟩) ?_ ?_
                                      rotate_left
                                      ·
                                       intro w'
                                       go_simp
                                       with_reducible rfl
                                      rotate_left
                                      ·
                                       simp only [Act.put, List.setIfInBounds_toArray, List.set_cons_zero, List.set_cons_succ, i64_w, i32_w]
                                       rfl
                                      refine pure_ (i := 5) (N := some 205) (v := ?_) (a' := ?_) #[true, true, true, true, true, true, false, false, false, false, false] rfl rfl (any_of HT_.out (by kernel_rfl)) (fun _ _ _ h => h) (Or.inl ⟨by rfl, ?_⟩) ?_ ?_
                                      rotate_left
                                      ·
                                       intro w'
                                       go_simp
                                       with_reducible rfl
                                      rotate_left
                                      ·
                                       simp only [Act.put, List.setIfInBounds_toArray, List.set_cons_zero, List.set_cons_succ, i64_w, i32_w]
                                       rfl
                                      refine pure_ (i := 6) (N := some 206) (v := ?_) (a' := ?_) #[true, true, true, true, true, true, true, false, false, false, false] rfl rfl (any_of HT_.out (by kernel_rfl)) (fun _ _ _ h => h) (Or.inl ⟨by rfl, ?_⟩) ?_ ?_
                                      rotate_left
                                      ·
                                       intro w'
                                       go_simp
                                       with_reducible rfl
                                      rotate_left
                                      ·
                                       simp only [Act.put, List.setIfInBounds_toArray, List.set_cons_zero, List.set_cons_succ, i64_w, i32_w]
                                       rfl
                                      refine pure_ (i := 7) (N := some 207) (v := ?_) (a' := ?_) #[true, true, true, true, true, true, true, true, false, false, false] rfl rfl (any_of HT_.out (by kernel_rfl)) (fun _ _ _ h => h) (Or.inl ⟨by rfl, ?_⟩) ?_ ?_
                                      rotate_left
                                      ·
                                       intro w'
                                       go_simp
                                       with_reducible rfl
                                      rotate_left
                                      ·
                                       simp only [Act.put, List.setIfInBounds_toArray, List.set_cons_zero, List.set_cons_succ, i64_w, i32_w]
                                       rfl
                                      refine pure_ (i := 8) (N := some 208) (v := ?_) (a' := ?_) #[true, true, true, true, true, true, true, true, true, false, false] rfl rfl (any_of HT_.out (by kernel_rfl)) (fun _ _ _ h => h) (Or.inl ⟨by rfl, ?_⟩) ?_ ?_
                                      rotate_left
                                      ·
                                       intro w'
                                       go_simp
                                       with_reducible rfl
                                      rotate_left
                                      ·
                                       simp only [Act.put, List.setIfInBounds_toArray, List.set_cons_zero, List.set_cons_succ, i64_w, i32_w]
                                       rfl
                                      refine one_ (i := 9) (N := some 209) #[true, true, true, true, true, true, true, true, true, true, false] rfl rfl (one_of HT_.out (by kernel_rfl)) (by decide) (fun K hK => ?_)
                                      refine goes_ Try.func22 (by kernel_rfl) rfl #[.slice A120 y233.length c120, .slice A0 y238.length c0] (by rfl) rfl rfl (by (try simp only [List.map_toArray, List.map_cons, List.map_nil]); first | done | rfl | (simp only [List.length_drop, List.length_take]; rfl)) ?_
                                      with_reducible refine (slices_Equal_int_int.calls k12 _ _ y233 _ _ y238 false _ ?side1 ?side2 ?side3 ?side4 A101.out).mono ?_
                                      (case side1 => repeat (first | exact (Kd.V_reads' HO237.out).2.2 | (with_reducible refine Kd.C_alloc ?_ _) | (with_reducible refine Kd.C_drewN ?_ _) | (with_reducible refine Kd.C_drew ?_)))
                                      (case side2 => exact (Kd.V_reads' HO237.out).2.1)
                                      (case side3 => repeat (first | exact (Kd.V_reads' HO242.out).2.2 | (with_reducible refine Kd.C_alloc ?_ _) | (with_reducible refine Kd.C_drewN ?_ _) | (with_reducible refine Kd.C_drew ?_)))
                                      (case side4 => exact (Kd.V_reads' HO242.out).2.1)
                                      rintro e w' ⟨rfl, ⟨nd, rfl⟩⟩
                                      refine ⟨_, rfl, ?_⟩
                                      refine hK.out _ _ trivial (fun hHeld => ?_)
                                      clear hK K
                                      refine norm_ (a' := ?_) ?_ ?_
                                      rotate_left
                                      ·
                                       show Act.put _ (some 209) _ = _
                                       simp only [Act.put, List.setIfInBounds_toArray, List.set_cons_zero, List.set_cons_succ, i64_w, i32_w]
                                       rfl
                                      refine pure_ (i := 10) (N := some 210) (v := ?_) (a' := ?_) #[true, true, true, true, true, true, true, true, true, true, true] rfl rfl (any_of HT_.out (by kernel_rfl)) (fun _ _ _ h => h) (Or.inl ⟨by rfl, ?_⟩) ?_ ?_
                                      rotate_left
                                      ·
                                       intro w'
                                       go_simp
                                       with_reducible rfl
                                      rotate_left
                                      ·
                                       simp only [Act.put, List.setIfInBounds_toArray, List.set_cons_zero, List.set_cons_succ, i64_w, i32_w]
                                       rfl
                                      refine done_ (done_of HT_.out (by kernel_rfl)) ?_
                                      try go_wp2
                                      go_roundg k12
                                      case measure => have := HJ11.out; have := HK2.out; have := HJ34.out; have := HJ38.out; have := HJ40.out; have := HJ42.out; have := HJ54.out; have := HJ58.out; have := HJ60.out; have := HJ76.out; have := HJ90.out; have := HK12.out; omega
                                      case rel => exact ⟨(wrap64 (x26_12 + 1)), (by first | rfl | (simp; done) | (simp [*]; done)), H', ⟨by have := HJ11.out; have := HK2.out; have := HJ34.out; have := HJ38.out; have := HJ40.out; have := HJ42.out; have := HJ54.out; have := HJ58.out; have := HJ60.out; have := HJ76.out; have := HJ90.out; have := HK12.out; omega⟩, ⟨by (try simp only [hl0_2]); (try simp only [hl1_2]); (with_reducible repeat (first | apply Kd.V_alloc | apply Kd.V_drewN | apply Kd.V_drew)); exact HO_0.out⟩, ⟨by repeat (first | (with_reducible first | exact HB.out | apply below_alloc | apply pw_below_drewN | apply below_drew1) | exact HB.out)⟩⟩
                                    ·
                                     rw [if_neg c100] at H
                                     exact absurd H (by simp)
                                   ·
                                    rw [if_neg c99] at H
                                    exact absurd H (by simp)
                                  ·
                                   rw [if_neg c97] at H
                                   exact absurd H (by simp)
                                 ·
                                  rw [if_neg c96] at H
                                  exact absurd H (by simp)
    ·
     rw [if_neg c9] at H
     exact absurd H (by simp)
   ·
    rw [if_neg c8] at H
    exact absurd H (by simp)
  ·
   rw [if_neg c6] at H
   exact absurd H (by simp)
 ·
  rw [if_neg c5] at H
  exact absurd H (by simp)

end Go.Proofs.Ytimkpdbghbhkkaa.QM
