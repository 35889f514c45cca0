-- Printed by a program of this session (wip/tools): Lean functions for Go functions, and their contracts.
import Derived.Test.YtimkpdbghbhkkaaQSx0
import Derived.Test.YtimkpdbghbhkkaaQSx1
import Derived.Test.YtimkpdbghbhkkaaQSx2
import Derived.Test.YtimkpdbghbhkkaaQSx6
import Derived.Test.YtimkpdbghbhkkaaQSx7
import Derived.Test.YtimkpdbghbhkkaaQSx10
import Derived.Test.YtimkpdbghbhkkaaQSx11
namespace Go.Proofs.Ytimkpdbghbhkkaa.QS
open Go.RowKit Go.Proofs.YtimkpdbghbhkkaaW.PrintWords Go.Proofs.YtimkpdbghbhkkaaW.PrintLast Go.Proofs.YtimkpdbghbhkkaaW.PrintMore
attribute [local go_sem] max2_int min2_int max_two min_two max_three min_three max_four min_four   -- for this text's walks alone
set_option linter.unusedVariables false
set_option linter.unusedSimpArgs false

/-! ### bakelaw3_SampOfs: function 4 -/
mutual
def bakelaw3_SampOfs.j0 : Nat → List (S33) → ByteArray → Int → Int → List Int → Bool → Option (Bool)
  | 0, _, _, _, _, _, _ => none
  | k + 1, x0, x1, x2, x3, x4, x24 => if x24 = true then (bakelaw3_SampOfs.j1 k x0 x1 x2 300 x4) else (bakelaw3_SampOfs.j1 k x0 x1 x2 x3 x4)
def bakelaw3_SampOfs.j1 : Nat → List (S33) → ByteArray → Int → Int → List Int → Option (Bool)
  | 0, _, _, _, _, _ => none
  | k + 1, x0, x1, x2, x3, x4 => (samp_Of.f k x0 x1 x2 x3).bind fun bt144 => (if x3 < 0 then (bakelaw3_SampOfs.j2 k x0 x1 x2 x3 x4 bt144.1 bt144.2 0 (-1) true) else (bakelaw3_SampOfs.j2 k x0 x1 x2 x3 x4 bt144.1 bt144.2 0 (-1) (decide (x3 > 100000))))
def bakelaw3_SampOfs.j3 : Nat → List (S33) → ByteArray → Int → Int → List Int → List Int → Int → Int → Int → Option (Bool)
  | 0, _, _, _, _, _, _, _, _, _ => none
  | k + 1, x0, x1, x2, x3, x4, x11, x12, x13, x14 => bakelaw3_SampOfs.l0 k x0 x1 x2 x3 x4 x11 x12 x13 x14 x0 (x0.length : Int) 0
def bakelaw3_SampOfs.l0 : Nat → List (S33) → ByteArray → Int → Int → List Int → List Int → Int → Int → Int → List (S33) → Int → Int → Option (Bool)
  | 0, _, _, _, _, _, _, _, _, _, _, _, _ => none
  | k + 1, x0, x1, x2, x3, x4, x11, x12, x13, x14, x47, x48, x49 => if x49 < x48 then (if 0 ≤ x49 then (if x49 < (x47.length : Int) then (if ((rd_T33 x47 x49).f1).toList = x1.toList then (bakelaw3_SampOfs.j5 k x0 x1 x2 x3 x4 x11 x12 x13 x14 x47 x48 x49 (x13 != 0) ((rd_T33 x47 x49).f0) ((rd_T33 x47 x49).f1) ((rd_T33 x47 x49).f2)) else (bakelaw3_SampOfs.j5 k x0 x1 x2 x3 x4 x11 x12 x13 x14 x47 x48 x49 true ((rd_T33 x47 x49).f0) ((rd_T33 x47 x49).f1) ((rd_T33 x47 x49).f2))) else (none)) else (none)) else (bakelaw3_SampOfs.l1 k x0 x1 x2 x3 x4 x11 x12 x13 ([] : List Int) 0)
def bakelaw3_SampOfs.j5 : Nat → List (S33) → ByteArray → Int → Int → List Int → List Int → Int → Int → Int → List (S33) → Int → Int → Bool → Int → ByteArray → Int → Option (Bool)
  | 0, _, _, _, _, _, _, _, _, _, _, _, _, _, _, _, _ => none
  | k + 1, x0, x1, x2, x3, x4, x11, x12, x13, x14, x47, x48, x49, x60, x150000, x150001, x150002 => if x60 = true then (bakelaw3_SampOfs.l0 k x0 x1 x2 x3 x4 x11 x12 x13 x14 x47 x48 (wrap64 (x49 + 1))) else (if x150000 < 0 then (bakelaw3_SampOfs.j6 k x0 x1 x2 x3 x4 x11 x12 x13 x14 x47 x48 x49 true x150000 x150001 x150002) else (if x150002 < 0 then (bakelaw3_SampOfs.j6 k x0 x1 x2 x3 x4 x11 x12 x13 x14 x47 x48 x49 true x150000 x150001 x150002) else (bakelaw3_SampOfs.j6 k x0 x1 x2 x3 x4 x11 x12 x13 x14 x47 x48 x49 (decide (x150002 > 1048576)) x150000 x150001 x150002)))
def bakelaw3_SampOfs.j6 : Nat → List (S33) → ByteArray → Int → Int → List Int → List Int → Int → Int → Int → List (S33) → Int → Int → Bool → Int → ByteArray → Int → Option (Bool)
  | 0, _, _, _, _, _, _, _, _, _, _, _, _, _, _, _, _ => none
  | k + 1, x0, x1, x2, x3, x4, x11, x12, x13, x14, x47, x48, x49, x61, x150000, x150001, x150002 => if x61 = true then (bakelaw3_SampOfs.l0 k x0 x1 x2 x3 x4 x11 x12 1 x150000 x47 x48 (wrap64 (x49 + 1))) else (if x150000 ≤ x14 then (bakelaw3_SampOfs.l0 k x0 x1 x2 x3 x4 x11 x12 9 x150000 x47 x48 (wrap64 (x49 + 1))) else (bakelaw3_SampOfs.l0 k x0 x1 x2 x3 x4 x11 x12 x13 x150000 x47 x48 (wrap64 (x49 + 1))))
def bakelaw3_SampOfs.j8 : Nat → List Int → List Int → Int → Int → List Int → Option (Bool)
  | 0, _, _, _, _, _ => none
  | k + 1, x4, x11, x12, x13, x17 => (bakelaw3_heard.f k).bind fun t154 => (if t154 = true then ((samp_Check.f k x4).bind fun t155 => ((bakelaw3_levelFault.f k x4).bind fun t156 => (if t155 = t156 then (if x12 = x13 then ((slices_Equal_int_int.f k x11 x17).bind fun t157 => (some t157)) else (some false)) else (some false)))) else (some false))
def bakelaw3_SampOfs.l1 : Nat → List (S33) → ByteArray → Int → Int → List Int → List Int → Int → Int → List Int → Int → Option (Bool)
  | 0, _, _, _, _, _, _, _, _, _, _ => none
  | k + 1, x0, x1, x2, x3, x4, x11, x12, x13, x17, x18 => if x13 = 0 then (if x18 < x3 then ((bakeref3_Level.f k x0 x1 x2 x18).bind fun t150 => (if x17.length < 17592186044416 then (bakelaw3_SampOfs.l1 k x0 x1 x2 x3 x4 x11 x12 x13 (x17 ++ [t150]) (wrap64 (x18 + 1))) else (none))) else (bakelaw3_SampOfs.j8 k x4 x11 x12 x13 x17)) else (bakelaw3_SampOfs.j8 k x4 x11 x12 x13 x17)
def bakelaw3_SampOfs.j2 : Nat → List (S33) → ByteArray → Int → Int → List Int → List Int → Int → Int → Int → Bool → Option (Bool)
  | 0, _, _, _, _, _, _, _, _, _, _ => none
  | k + 1, x0, x1, x2, x3, x4, x11, x12, x13, x14, x33 => if x33 = true then (bakelaw3_SampOfs.j3 k x0 x1 x2 x3 x4 x11 x12 2 x14) else (if x2 < 0 then (bakelaw3_SampOfs.j3 k x0 x1 x2 x3 x4 x11 x12 1 x14) else (if x2 > 1048576 then (bakelaw3_SampOfs.j3 k x0 x1 x2 x3 x4 x11 x12 1 x14) else (bakelaw3_SampOfs.j3 k x0 x1 x2 x3 x4 x11 x12 x13 x14)))
end
def bakelaw3_SampOfs.f (k : Nat) (l0 : List (S33)) (a1 : ByteArray) (a2 : Int) (a3 : Int) (l4 : List Int) : Option (Bool) := if a3 > 300 then (bakelaw3_SampOfs.j0 k l0 a1 a2 a3 l4 (decide (a3 ≤ 100000))) else (bakelaw3_SampOfs.j0 k l0 a1 a2 a3 l4 false)
theorem bakelaw3_SampOfs.mono_l : ∀ k, (∀ y0 y1 y2 y3 y4 y5, LeO (bakelaw3_SampOfs.j0 k y0 y1 y2 y3 y4 y5) (bakelaw3_SampOfs.j0 (k + 1) y0 y1 y2 y3 y4 y5)) ∧ (∀ y0 y1 y2 y3 y4, LeO (bakelaw3_SampOfs.j1 k y0 y1 y2 y3 y4) (bakelaw3_SampOfs.j1 (k + 1) y0 y1 y2 y3 y4)) ∧ (∀ y0 y1 y2 y3 y4 y5 y6 y7 y8, LeO (bakelaw3_SampOfs.j3 k y0 y1 y2 y3 y4 y5 y6 y7 y8) (bakelaw3_SampOfs.j3 (k + 1) y0 y1 y2 y3 y4 y5 y6 y7 y8)) ∧ (∀ y0 y1 y2 y3 y4 y5 y6 y7 y8 y9 y10 y11, LeO (bakelaw3_SampOfs.l0 k y0 y1 y2 y3 y4 y5 y6 y7 y8 y9 y10 y11) (bakelaw3_SampOfs.l0 (k + 1) y0 y1 y2 y3 y4 y5 y6 y7 y8 y9 y10 y11)) ∧ (∀ y0 y1 y2 y3 y4 y5 y6 y7 y8 y9 y10 y11 y12 y13 y14 y15, LeO (bakelaw3_SampOfs.j5 k y0 y1 y2 y3 y4 y5 y6 y7 y8 y9 y10 y11 y12 y13 y14 y15) (bakelaw3_SampOfs.j5 (k + 1) y0 y1 y2 y3 y4 y5 y6 y7 y8 y9 y10 y11 y12 y13 y14 y15)) ∧ (∀ y0 y1 y2 y3 y4 y5 y6 y7 y8 y9 y10 y11 y12 y13 y14 y15, LeO (bakelaw3_SampOfs.j6 k y0 y1 y2 y3 y4 y5 y6 y7 y8 y9 y10 y11 y12 y13 y14 y15) (bakelaw3_SampOfs.j6 (k + 1) y0 y1 y2 y3 y4 y5 y6 y7 y8 y9 y10 y11 y12 y13 y14 y15)) ∧ (∀ y0 y1 y2 y3 y4, LeO (bakelaw3_SampOfs.j8 k y0 y1 y2 y3 y4) (bakelaw3_SampOfs.j8 (k + 1) y0 y1 y2 y3 y4)) ∧ (∀ y0 y1 y2 y3 y4 y5 y6 y7 y8 y9, LeO (bakelaw3_SampOfs.l1 k y0 y1 y2 y3 y4 y5 y6 y7 y8 y9) (bakelaw3_SampOfs.l1 (k + 1) y0 y1 y2 y3 y4 y5 y6 y7 y8 y9)) ∧ (∀ y0 y1 y2 y3 y4 y5 y6 y7 y8 y9, LeO (bakelaw3_SampOfs.j2 k y0 y1 y2 y3 y4 y5 y6 y7 y8 y9) (bakelaw3_SampOfs.j2 (k + 1) y0 y1 y2 y3 y4 y5 y6 y7 y8 y9))
  | 0 => ⟨fun _ _ _ _ _ _ r h => by simp [bakelaw3_SampOfs.j0] at h, fun _ _ _ _ _ r h => by simp [bakelaw3_SampOfs.j1] at h, fun _ _ _ _ _ _ _ _ _ r h => by simp [bakelaw3_SampOfs.j3] at h, fun _ _ _ _ _ _ _ _ _ _ _ _ r h => by simp [bakelaw3_SampOfs.l0] at h, fun _ _ _ _ _ _ _ _ _ _ _ _ _ _ _ _ r h => by simp [bakelaw3_SampOfs.j5] at h, fun _ _ _ _ _ _ _ _ _ _ _ _ _ _ _ _ r h => by simp [bakelaw3_SampOfs.j6] at h, fun _ _ _ _ _ r h => by simp [bakelaw3_SampOfs.j8] at h, fun _ _ _ _ _ _ _ _ _ _ r h => by simp [bakelaw3_SampOfs.l1] at h, fun _ _ _ _ _ _ _ _ _ _ r h => by simp [bakelaw3_SampOfs.j2] at h⟩
  | k + 1 => by
    obtain ⟨ih0, ih1, ih2, ih3, ih4, ih5, ih6, ih7, ih8⟩ := bakelaw3_SampOfs.mono_l k
    refine ⟨?_, ?_, ?_, ?_, ?_, ?_, ?_, ?_, ?_⟩
    · intro y0 y1 y2 y3 y4 y5
      unfold bakelaw3_SampOfs.j0
      repeat' first
      | (with_reducible exact ih0 _ _ _ _ _ _)
      | (with_reducible exact ih1 _ _ _ _ _)
      | (with_reducible exact ih2 _ _ _ _ _ _ _ _ _)
      | (with_reducible exact ih3 _ _ _ _ _ _ _ _ _ _ _ _)
      | (with_reducible exact ih4 _ _ _ _ _ _ _ _ _ _ _ _ _ _ _ _)
      | (with_reducible exact ih5 _ _ _ _ _ _ _ _ _ _ _ _ _ _ _ _)
      | (with_reducible exact ih6 _ _ _ _ _)
      | (with_reducible exact ih7 _ _ _ _ _ _ _ _ _ _)
      | (with_reducible exact ih8 _ _ _ _ _ _ _ _ _ _)
      | (with_reducible exact bakelaw3_heard.mono _)
      | (with_reducible exact bakelaw3_levelFault.mono _ _)
      | (with_reducible exact bakeref3_Level.mono _ _ _ _ _)
      | (with_reducible exact samp_Check.mono _ _)
      | (with_reducible exact samp_Of.mono _ _ _ _ _)
      | (with_reducible exact slices_Equal_int_int.mono _ _ _)
      | (with_reducible exact LeO.refl _)
      | (with_reducible exact LeO.none _)
      | (with_reducible refine LeO.ite ?_ ?_)
      | (with_reducible refine LeO.bind ?_ (fun _ => ?_))
      | exact ih0 _ _ _ _ _ _
      | exact ih1 _ _ _ _ _
      | exact ih2 _ _ _ _ _ _ _ _ _
      | exact ih3 _ _ _ _ _ _ _ _ _ _ _ _
      | exact ih4 _ _ _ _ _ _ _ _ _ _ _ _ _ _ _ _
      | exact ih5 _ _ _ _ _ _ _ _ _ _ _ _ _ _ _ _
      | exact ih6 _ _ _ _ _
      | exact ih7 _ _ _ _ _ _ _ _ _ _
      | exact ih8 _ _ _ _ _ _ _ _ _ _
      | exact bakelaw3_heard.mono _
      | exact bakelaw3_levelFault.mono _ _
      | exact bakeref3_Level.mono _ _ _ _ _
      | exact samp_Check.mono _ _
      | exact samp_Of.mono _ _ _ _ _
      | exact slices_Equal_int_int.mono _ _ _
      | exact LeO.none _
      | refine LeO.ite ?_ ?_
      | refine LeO.bind ?_ (fun _ => ?_)
    · intro y0 y1 y2 y3 y4
      unfold bakelaw3_SampOfs.j1
      repeat' first
      | (with_reducible exact ih0 _ _ _ _ _ _)
      | (with_reducible exact ih1 _ _ _ _ _)
      | (with_reducible exact ih2 _ _ _ _ _ _ _ _ _)
      | (with_reducible exact ih3 _ _ _ _ _ _ _ _ _ _ _ _)
      | (with_reducible exact ih4 _ _ _ _ _ _ _ _ _ _ _ _ _ _ _ _)
      | (with_reducible exact ih5 _ _ _ _ _ _ _ _ _ _ _ _ _ _ _ _)
      | (with_reducible exact ih6 _ _ _ _ _)
      | (with_reducible exact ih7 _ _ _ _ _ _ _ _ _ _)
      | (with_reducible exact ih8 _ _ _ _ _ _ _ _ _ _)
      | (with_reducible exact bakelaw3_heard.mono _)
      | (with_reducible exact bakelaw3_levelFault.mono _ _)
      | (with_reducible exact bakeref3_Level.mono _ _ _ _ _)
      | (with_reducible exact samp_Check.mono _ _)
      | (with_reducible exact samp_Of.mono _ _ _ _ _)
      | (with_reducible exact slices_Equal_int_int.mono _ _ _)
      | (with_reducible exact LeO.refl _)
      | (with_reducible exact LeO.none _)
      | (with_reducible refine LeO.ite ?_ ?_)
      | (with_reducible refine LeO.bind ?_ (fun _ => ?_))
      | exact ih0 _ _ _ _ _ _
      | exact ih1 _ _ _ _ _
      | exact ih2 _ _ _ _ _ _ _ _ _
      | exact ih3 _ _ _ _ _ _ _ _ _ _ _ _
      | exact ih4 _ _ _ _ _ _ _ _ _ _ _ _ _ _ _ _
      | exact ih5 _ _ _ _ _ _ _ _ _ _ _ _ _ _ _ _
      | exact ih6 _ _ _ _ _
      | exact ih7 _ _ _ _ _ _ _ _ _ _
      | exact ih8 _ _ _ _ _ _ _ _ _ _
      | exact bakelaw3_heard.mono _
      | exact bakelaw3_levelFault.mono _ _
      | exact bakeref3_Level.mono _ _ _ _ _
      | exact samp_Check.mono _ _
      | exact samp_Of.mono _ _ _ _ _
      | exact slices_Equal_int_int.mono _ _ _
      | exact LeO.none _
      | refine LeO.ite ?_ ?_
      | refine LeO.bind ?_ (fun _ => ?_)
    · intro y0 y1 y2 y3 y4 y5 y6 y7 y8
      unfold bakelaw3_SampOfs.j3
      repeat' first
      | (with_reducible exact ih0 _ _ _ _ _ _)
      | (with_reducible exact ih1 _ _ _ _ _)
      | (with_reducible exact ih2 _ _ _ _ _ _ _ _ _)
      | (with_reducible exact ih3 _ _ _ _ _ _ _ _ _ _ _ _)
      | (with_reducible exact ih4 _ _ _ _ _ _ _ _ _ _ _ _ _ _ _ _)
      | (with_reducible exact ih5 _ _ _ _ _ _ _ _ _ _ _ _ _ _ _ _)
      | (with_reducible exact ih6 _ _ _ _ _)
      | (with_reducible exact ih7 _ _ _ _ _ _ _ _ _ _)
      | (with_reducible exact ih8 _ _ _ _ _ _ _ _ _ _)
      | (with_reducible exact bakelaw3_heard.mono _)
      | (with_reducible exact bakelaw3_levelFault.mono _ _)
      | (with_reducible exact bakeref3_Level.mono _ _ _ _ _)
      | (with_reducible exact samp_Check.mono _ _)
      | (with_reducible exact samp_Of.mono _ _ _ _ _)
      | (with_reducible exact slices_Equal_int_int.mono _ _ _)
      | (with_reducible exact LeO.refl _)
      | (with_reducible exact LeO.none _)
      | (with_reducible refine LeO.ite ?_ ?_)
      | (with_reducible refine LeO.bind ?_ (fun _ => ?_))
      | exact ih0 _ _ _ _ _ _
      | exact ih1 _ _ _ _ _
      | exact ih2 _ _ _ _ _ _ _ _ _
      | exact ih3 _ _ _ _ _ _ _ _ _ _ _ _
      | exact ih4 _ _ _ _ _ _ _ _ _ _ _ _ _ _ _ _
      | exact ih5 _ _ _ _ _ _ _ _ _ _ _ _ _ _ _ _
      | exact ih6 _ _ _ _ _
      | exact ih7 _ _ _ _ _ _ _ _ _ _
      | exact ih8 _ _ _ _ _ _ _ _ _ _
      | exact bakelaw3_heard.mono _
      | exact bakelaw3_levelFault.mono _ _
      | exact bakeref3_Level.mono _ _ _ _ _
      | exact samp_Check.mono _ _
      | exact samp_Of.mono _ _ _ _ _
      | exact slices_Equal_int_int.mono _ _ _
      | exact LeO.none _
      | refine LeO.ite ?_ ?_
      | refine LeO.bind ?_ (fun _ => ?_)
    · intro y0 y1 y2 y3 y4 y5 y6 y7 y8 y9 y10 y11
      unfold bakelaw3_SampOfs.l0
      repeat' first
      | (with_reducible exact ih0 _ _ _ _ _ _)
      | (with_reducible exact ih1 _ _ _ _ _)
      | (with_reducible exact ih2 _ _ _ _ _ _ _ _ _)
      | (with_reducible exact ih3 _ _ _ _ _ _ _ _ _ _ _ _)
      | (with_reducible exact ih4 _ _ _ _ _ _ _ _ _ _ _ _ _ _ _ _)
      | (with_reducible exact ih5 _ _ _ _ _ _ _ _ _ _ _ _ _ _ _ _)
      | (with_reducible exact ih6 _ _ _ _ _)
      | (with_reducible exact ih7 _ _ _ _ _ _ _ _ _ _)
      | (with_reducible exact ih8 _ _ _ _ _ _ _ _ _ _)
      | (with_reducible exact bakelaw3_heard.mono _)
      | (with_reducible exact bakelaw3_levelFault.mono _ _)
      | (with_reducible exact bakeref3_Level.mono _ _ _ _ _)
      | (with_reducible exact samp_Check.mono _ _)
      | (with_reducible exact samp_Of.mono _ _ _ _ _)
      | (with_reducible exact slices_Equal_int_int.mono _ _ _)
      | (with_reducible exact LeO.refl _)
      | (with_reducible exact LeO.none _)
      | (with_reducible refine LeO.ite ?_ ?_)
      | (with_reducible refine LeO.bind ?_ (fun _ => ?_))
      | exact ih0 _ _ _ _ _ _
      | exact ih1 _ _ _ _ _
      | exact ih2 _ _ _ _ _ _ _ _ _
      | exact ih3 _ _ _ _ _ _ _ _ _ _ _ _
      | exact ih4 _ _ _ _ _ _ _ _ _ _ _ _ _ _ _ _
      | exact ih5 _ _ _ _ _ _ _ _ _ _ _ _ _ _ _ _
      | exact ih6 _ _ _ _ _
      | exact ih7 _ _ _ _ _ _ _ _ _ _
      | exact ih8 _ _ _ _ _ _ _ _ _ _
      | exact bakelaw3_heard.mono _
      | exact bakelaw3_levelFault.mono _ _
      | exact bakeref3_Level.mono _ _ _ _ _
      | exact samp_Check.mono _ _
      | exact samp_Of.mono _ _ _ _ _
      | exact slices_Equal_int_int.mono _ _ _
      | exact LeO.none _
      | refine LeO.ite ?_ ?_
      | refine LeO.bind ?_ (fun _ => ?_)
    · intro y0 y1 y2 y3 y4 y5 y6 y7 y8 y9 y10 y11 y12 y13 y14 y15
      unfold bakelaw3_SampOfs.j5
      repeat' first
      | (with_reducible exact ih0 _ _ _ _ _ _)
      | (with_reducible exact ih1 _ _ _ _ _)
      | (with_reducible exact ih2 _ _ _ _ _ _ _ _ _)
      | (with_reducible exact ih3 _ _ _ _ _ _ _ _ _ _ _ _)
      | (with_reducible exact ih4 _ _ _ _ _ _ _ _ _ _ _ _ _ _ _ _)
      | (with_reducible exact ih5 _ _ _ _ _ _ _ _ _ _ _ _ _ _ _ _)
      | (with_reducible exact ih6 _ _ _ _ _)
      | (with_reducible exact ih7 _ _ _ _ _ _ _ _ _ _)
      | (with_reducible exact ih8 _ _ _ _ _ _ _ _ _ _)
      | (with_reducible exact bakelaw3_heard.mono _)
      | (with_reducible exact bakelaw3_levelFault.mono _ _)
      | (with_reducible exact bakeref3_Level.mono _ _ _ _ _)
      | (with_reducible exact samp_Check.mono _ _)
      | (with_reducible exact samp_Of.mono _ _ _ _ _)
      | (with_reducible exact slices_Equal_int_int.mono _ _ _)
      | (with_reducible exact LeO.refl _)
      | (with_reducible exact LeO.none _)
      | (with_reducible refine LeO.ite ?_ ?_)
      | (with_reducible refine LeO.bind ?_ (fun _ => ?_))
      | exact ih0 _ _ _ _ _ _
      | exact ih1 _ _ _ _ _
      | exact ih2 _ _ _ _ _ _ _ _ _
      | exact ih3 _ _ _ _ _ _ _ _ _ _ _ _
      | exact ih4 _ _ _ _ _ _ _ _ _ _ _ _ _ _ _ _
      | exact ih5 _ _ _ _ _ _ _ _ _ _ _ _ _ _ _ _
      | exact ih6 _ _ _ _ _
      | exact ih7 _ _ _ _ _ _ _ _ _ _
      | exact ih8 _ _ _ _ _ _ _ _ _ _
      | exact bakelaw3_heard.mono _
      | exact bakelaw3_levelFault.mono _ _
      | exact bakeref3_Level.mono _ _ _ _ _
      | exact samp_Check.mono _ _
      | exact samp_Of.mono _ _ _ _ _
      | exact slices_Equal_int_int.mono _ _ _
      | exact LeO.none _
      | refine LeO.ite ?_ ?_
      | refine LeO.bind ?_ (fun _ => ?_)
    · intro y0 y1 y2 y3 y4 y5 y6 y7 y8 y9 y10 y11 y12 y13 y14 y15
      unfold bakelaw3_SampOfs.j6
      repeat' first
      | (with_reducible exact ih0 _ _ _ _ _ _)
      | (with_reducible exact ih1 _ _ _ _ _)
      | (with_reducible exact ih2 _ _ _ _ _ _ _ _ _)
      | (with_reducible exact ih3 _ _ _ _ _ _ _ _ _ _ _ _)
      | (with_reducible exact ih4 _ _ _ _ _ _ _ _ _ _ _ _ _ _ _ _)
      | (with_reducible exact ih5 _ _ _ _ _ _ _ _ _ _ _ _ _ _ _ _)
      | (with_reducible exact ih6 _ _ _ _ _)
      | (with_reducible exact ih7 _ _ _ _ _ _ _ _ _ _)
      | (with_reducible exact ih8 _ _ _ _ _ _ _ _ _ _)
      | (with_reducible exact bakelaw3_heard.mono _)
      | (with_reducible exact bakelaw3_levelFault.mono _ _)
      | (with_reducible exact bakeref3_Level.mono _ _ _ _ _)
      | (with_reducible exact samp_Check.mono _ _)
      | (with_reducible exact samp_Of.mono _ _ _ _ _)
      | (with_reducible exact slices_Equal_int_int.mono _ _ _)
      | (with_reducible exact LeO.refl _)
      | (with_reducible exact LeO.none _)
      | (with_reducible refine LeO.ite ?_ ?_)
      | (with_reducible refine LeO.bind ?_ (fun _ => ?_))
      | exact ih0 _ _ _ _ _ _
      | exact ih1 _ _ _ _ _
      | exact ih2 _ _ _ _ _ _ _ _ _
      | exact ih3 _ _ _ _ _ _ _ _ _ _ _ _
      | exact ih4 _ _ _ _ _ _ _ _ _ _ _ _ _ _ _ _
      | exact ih5 _ _ _ _ _ _ _ _ _ _ _ _ _ _ _ _
      | exact ih6 _ _ _ _ _
      | exact ih7 _ _ _ _ _ _ _ _ _ _
      | exact ih8 _ _ _ _ _ _ _ _ _ _
      | exact bakelaw3_heard.mono _
      | exact bakelaw3_levelFault.mono _ _
      | exact bakeref3_Level.mono _ _ _ _ _
      | exact samp_Check.mono _ _
      | exact samp_Of.mono _ _ _ _ _
      | exact slices_Equal_int_int.mono _ _ _
      | exact LeO.none _
      | refine LeO.ite ?_ ?_
      | refine LeO.bind ?_ (fun _ => ?_)
    · intro y0 y1 y2 y3 y4
      unfold bakelaw3_SampOfs.j8
      repeat' first
      | (with_reducible exact ih0 _ _ _ _ _ _)
      | (with_reducible exact ih1 _ _ _ _ _)
      | (with_reducible exact ih2 _ _ _ _ _ _ _ _ _)
      | (with_reducible exact ih3 _ _ _ _ _ _ _ _ _ _ _ _)
      | (with_reducible exact ih4 _ _ _ _ _ _ _ _ _ _ _ _ _ _ _ _)
      | (with_reducible exact ih5 _ _ _ _ _ _ _ _ _ _ _ _ _ _ _ _)
      | (with_reducible exact ih6 _ _ _ _ _)
      | (with_reducible exact ih7 _ _ _ _ _ _ _ _ _ _)
      | (with_reducible exact ih8 _ _ _ _ _ _ _ _ _ _)
      | (with_reducible exact bakelaw3_heard.mono _)
      | (with_reducible exact bakelaw3_levelFault.mono _ _)
      | (with_reducible exact bakeref3_Level.mono _ _ _ _ _)
      | (with_reducible exact samp_Check.mono _ _)
      | (with_reducible exact samp_Of.mono _ _ _ _ _)
      | (with_reducible exact slices_Equal_int_int.mono _ _ _)
      | (with_reducible exact LeO.refl _)
      | (with_reducible exact LeO.none _)
      | (with_reducible refine LeO.ite ?_ ?_)
      | (with_reducible refine LeO.bind ?_ (fun _ => ?_))
      | exact ih0 _ _ _ _ _ _
      | exact ih1 _ _ _ _ _
      | exact ih2 _ _ _ _ _ _ _ _ _
      | exact ih3 _ _ _ _ _ _ _ _ _ _ _ _
      | exact ih4 _ _ _ _ _ _ _ _ _ _ _ _ _ _ _ _
      | exact ih5 _ _ _ _ _ _ _ _ _ _ _ _ _ _ _ _
      | exact ih6 _ _ _ _ _
      | exact ih7 _ _ _ _ _ _ _ _ _ _
      | exact ih8 _ _ _ _ _ _ _ _ _ _
      | exact bakelaw3_heard.mono _
      | exact bakelaw3_levelFault.mono _ _
      | exact bakeref3_Level.mono _ _ _ _ _
      | exact samp_Check.mono _ _
      | exact samp_Of.mono _ _ _ _ _
      | exact slices_Equal_int_int.mono _ _ _
      | exact LeO.none _
      | refine LeO.ite ?_ ?_
      | refine LeO.bind ?_ (fun _ => ?_)
    · intro y0 y1 y2 y3 y4 y5 y6 y7 y8 y9
      unfold bakelaw3_SampOfs.l1
      repeat' first
      | (with_reducible exact ih0 _ _ _ _ _ _)
      | (with_reducible exact ih1 _ _ _ _ _)
      | (with_reducible exact ih2 _ _ _ _ _ _ _ _ _)
      | (with_reducible exact ih3 _ _ _ _ _ _ _ _ _ _ _ _)
      | (with_reducible exact ih4 _ _ _ _ _ _ _ _ _ _ _ _ _ _ _ _)
      | (with_reducible exact ih5 _ _ _ _ _ _ _ _ _ _ _ _ _ _ _ _)
      | (with_reducible exact ih6 _ _ _ _ _)
      | (with_reducible exact ih7 _ _ _ _ _ _ _ _ _ _)
      | (with_reducible exact ih8 _ _ _ _ _ _ _ _ _ _)
      | (with_reducible exact bakelaw3_heard.mono _)
      | (with_reducible exact bakelaw3_levelFault.mono _ _)
      | (with_reducible exact bakeref3_Level.mono _ _ _ _ _)
      | (with_reducible exact samp_Check.mono _ _)
      | (with_reducible exact samp_Of.mono _ _ _ _ _)
      | (with_reducible exact slices_Equal_int_int.mono _ _ _)
      | (with_reducible exact LeO.refl _)
      | (with_reducible exact LeO.none _)
      | (with_reducible refine LeO.ite ?_ ?_)
      | (with_reducible refine LeO.bind ?_ (fun _ => ?_))
      | exact ih0 _ _ _ _ _ _
      | exact ih1 _ _ _ _ _
      | exact ih2 _ _ _ _ _ _ _ _ _
      | exact ih3 _ _ _ _ _ _ _ _ _ _ _ _
      | exact ih4 _ _ _ _ _ _ _ _ _ _ _ _ _ _ _ _
      | exact ih5 _ _ _ _ _ _ _ _ _ _ _ _ _ _ _ _
      | exact ih6 _ _ _ _ _
      | exact ih7 _ _ _ _ _ _ _ _ _ _
      | exact ih8 _ _ _ _ _ _ _ _ _ _
      | exact bakelaw3_heard.mono _
      | exact bakelaw3_levelFault.mono _ _
      | exact bakeref3_Level.mono _ _ _ _ _
      | exact samp_Check.mono _ _
      | exact samp_Of.mono _ _ _ _ _
      | exact slices_Equal_int_int.mono _ _ _
      | exact LeO.none _
      | refine LeO.ite ?_ ?_
      | refine LeO.bind ?_ (fun _ => ?_)
    · intro y0 y1 y2 y3 y4 y5 y6 y7 y8 y9
      unfold bakelaw3_SampOfs.j2
      repeat' first
      | (with_reducible exact ih0 _ _ _ _ _ _)
      | (with_reducible exact ih1 _ _ _ _ _)
      | (with_reducible exact ih2 _ _ _ _ _ _ _ _ _)
      | (with_reducible exact ih3 _ _ _ _ _ _ _ _ _ _ _ _)
      | (with_reducible exact ih4 _ _ _ _ _ _ _ _ _ _ _ _ _ _ _ _)
      | (with_reducible exact ih5 _ _ _ _ _ _ _ _ _ _ _ _ _ _ _ _)
      | (with_reducible exact ih6 _ _ _ _ _)
      | (with_reducible exact ih7 _ _ _ _ _ _ _ _ _ _)
      | (with_reducible exact ih8 _ _ _ _ _ _ _ _ _ _)
      | (with_reducible exact bakelaw3_heard.mono _)
      | (with_reducible exact bakelaw3_levelFault.mono _ _)
      | (with_reducible exact bakeref3_Level.mono _ _ _ _ _)
      | (with_reducible exact samp_Check.mono _ _)
      | (with_reducible exact samp_Of.mono _ _ _ _ _)
      | (with_reducible exact slices_Equal_int_int.mono _ _ _)
      | (with_reducible exact LeO.refl _)
      | (with_reducible exact LeO.none _)
      | (with_reducible refine LeO.ite ?_ ?_)
      | (with_reducible refine LeO.bind ?_ (fun _ => ?_))
      | exact ih0 _ _ _ _ _ _
      | exact ih1 _ _ _ _ _
      | exact ih2 _ _ _ _ _ _ _ _ _
      | exact ih3 _ _ _ _ _ _ _ _ _ _ _ _
      | exact ih4 _ _ _ _ _ _ _ _ _ _ _ _ _ _ _ _
      | exact ih5 _ _ _ _ _ _ _ _ _ _ _ _ _ _ _ _
      | exact ih6 _ _ _ _ _
      | exact ih7 _ _ _ _ _ _ _ _ _ _
      | exact ih8 _ _ _ _ _ _ _ _ _ _
      | exact bakelaw3_heard.mono _
      | exact bakelaw3_levelFault.mono _ _
      | exact bakeref3_Level.mono _ _ _ _ _
      | exact samp_Check.mono _ _
      | exact samp_Of.mono _ _ _ _ _
      | exact slices_Equal_int_int.mono _ _ _
      | exact LeO.none _
      | refine LeO.ite ?_ ?_
      | refine LeO.bind ?_ (fun _ => ?_)
theorem bakelaw3_SampOfs.mono : ∀ a0 a1 a2 a3 a4 k, LeO (bakelaw3_SampOfs.f k a0 a1 a2 a3 a4) (bakelaw3_SampOfs.f (k + 1) a0 a1 a2 a3 a4) := by
  intro a0 a1 a2 a3 a4 k
  obtain ⟨ih0, ih1, ih2, ih3, ih4, ih5, ih6, ih7, ih8⟩ := bakelaw3_SampOfs.mono_l k
  unfold bakelaw3_SampOfs.f
  repeat' first
      | (with_reducible exact ih0 _ _ _ _ _ _)
      | (with_reducible exact ih1 _ _ _ _ _)
      | (with_reducible exact ih2 _ _ _ _ _ _ _ _ _)
      | (with_reducible exact ih3 _ _ _ _ _ _ _ _ _ _ _ _)
      | (with_reducible exact ih4 _ _ _ _ _ _ _ _ _ _ _ _ _ _ _ _)
      | (with_reducible exact ih5 _ _ _ _ _ _ _ _ _ _ _ _ _ _ _ _)
      | (with_reducible exact ih6 _ _ _ _ _)
      | (with_reducible exact ih7 _ _ _ _ _ _ _ _ _ _)
      | (with_reducible exact ih8 _ _ _ _ _ _ _ _ _ _)
      | (with_reducible exact bakelaw3_heard.mono _)
      | (with_reducible exact bakelaw3_levelFault.mono _ _)
      | (with_reducible exact bakeref3_Level.mono _ _ _ _ _)
      | (with_reducible exact samp_Check.mono _ _)
      | (with_reducible exact samp_Of.mono _ _ _ _ _)
      | (with_reducible exact slices_Equal_int_int.mono _ _ _)
      | (with_reducible exact LeO.refl _)
      | (with_reducible exact LeO.none _)
      | (with_reducible refine LeO.ite ?_ ?_)
      | (with_reducible refine LeO.bind ?_ (fun _ => ?_))
      | exact ih0 _ _ _ _ _ _
      | exact ih1 _ _ _ _ _
      | exact ih2 _ _ _ _ _ _ _ _ _
      | exact ih3 _ _ _ _ _ _ _ _ _ _ _ _
      | exact ih4 _ _ _ _ _ _ _ _ _ _ _ _ _ _ _ _
      | exact ih5 _ _ _ _ _ _ _ _ _ _ _ _ _ _ _ _
      | exact ih6 _ _ _ _ _
      | exact ih7 _ _ _ _ _ _ _ _ _ _
      | exact ih8 _ _ _ _ _ _ _ _ _ _
      | exact bakelaw3_heard.mono _
      | exact bakelaw3_levelFault.mono _ _
      | exact bakeref3_Level.mono _ _ _ _ _
      | exact samp_Check.mono _ _
      | exact samp_Of.mono _ _ _ _ _
      | exact slices_Equal_int_int.mono _ _ _
      | exact LeO.none _
      | refine LeO.ite ?_ ?_
      | refine LeO.bind ?_ (fun _ => ?_)
set_option maxHeartbeats 8000000 in
set_option maxRecDepth 100000 in
theorem bakelaw3_SampOfs.calls (k : Nat) (A0 : Option Addr) (c0 : Nat) (l0 : List (S33)) (a1 : ByteArray) (a2 : Int) (a3 : Int) (A4 : Option Addr) (c4 : Nat) (l4 : List Int) (r : Bool) (w : World) (hr0 : Kd.C k33 w A0 l0.length l0) (hc0 : l0.length ≤ c0) (hr4 : Kd.C (Kd.int .i64) w A4 l4.length l4) (hc4 : l4.length ≤ c4) (h : bakelaw3_SampOfs.f k l0 a1 a2 a3 l4 = some r) :
    Calls Try.prog 4 #[.slice A0 l0.length c0, .string a1, .int .i64 a2, .int .i64 a3, .slice A4 l4.length c4] w fun e w' => e = .returned (.bool r) ∧ Below w.heap.size w w' := by
  have hu33 := Try.underlying33
  have HR0 := Aside0.mk hr0
  have HC0 := Aside0.mk hc0
  clear hr0 hc0
  have HR4 := Aside0.mk hr4
  have HC4 := Aside0.mk hc4
  clear hr4 hc4
  have HB := Aside0.mk (Below.refl w.heap.size w)
  have H : (if a3 > 300 then (bakelaw3_SampOfs.j0 k l0 a1 a2 a3 l4 (decide (a3 ≤ 100000))) else (bakelaw3_SampOfs.j0 k l0 a1 a2 a3 l4 false)) = some r := h
  clear h
  have HC6 := Aside0.mk H
  clear H
  go_enter Try.func4, Try.ntmps4
  go_upto_region 1 with (fail)
  go_cut [24] (fun v24 wc => ∃ (kq : Nat) (x24_5 : Bool), v24 = .bool x24_5 ∧ Aside0 (bakelaw3_SampOfs.j0 kq l0 a1 a2 a3 l4 x24_5 = some r) ∧ Aside0 (kq ≤ k) ∧ Aside0 (Below w.heap.size w wc))
  case first =>
    have H := HC6.out
    clear HC6
    by_cases c7 : a3 > 300
    · rw [if_pos c7] at H
      have c7b0 : decide (300 < a3) = true := decide_eq_true c7
      clear c7
      (first | rw [c7b0] | (simp only [i64_w, i32_w]; rw [c7b0]) | skip)
      have H' := Aside0.mk H
      clear H
      go_wp2
      go_meet
      case rel => exact ⟨_, (decide (a3 ≤ 100000)), (by first | rfl | (simp; done) | (simp [*]; done)), H', ⟨by first | omega | exact Nat.le_refl _⟩, ⟨by repeat (first | (with_reducible first | exact HB.out | apply below_alloc | apply pw_below_drewN | apply below_drew1) | exact HB.out)⟩⟩
    · rw [if_neg c7] at H
      have c7b0 : decide (300 < a3) = false := decide_eq_false c7
      clear c7
      (first | rw [c7b0] | (simp only [i64_w, i32_w]; rw [c7b0]) | skip)
      have H' := Aside0.mk H
      clear H
      go_wp2
      go_meet
      case rel => exact ⟨_, (false), (by first | rfl | (simp; done) | (simp [*]; done)), H', ⟨by first | omega | exact Nat.le_refl _⟩, ⟨by repeat (first | (with_reducible first | exact HB.out | apply below_alloc | apply pw_below_drewN | apply below_drew1) | exact HB.out)⟩⟩
  case rest =>
    clear HC6
    try clear p2
    try clear c4
    try clear c7
    try clear c7b0
    obtain ⟨kq, x24_5, rfl, HA, HJ5, HB⟩ := hcut
    cases kq with
    | zero => exact absurd HA.out (by simp [bakelaw3_SampOfs.j0])
    | succ kj5 =>
      have H := HA.out
      clear HA
      simp only [bakelaw3_SampOfs.j0] at H
      have HC8 := Aside0.mk H
      clear H
      go_upto_if 24 with (fail)
      go_cut [3] (fun v3 wc => ∃ (kq : Nat) (x3_7 : Int), v3 = .int .i64 x3_7 ∧ Aside0 (bakelaw3_SampOfs.j1 kq l0 a1 a2 x3_7 l4 = some r) ∧ Aside0 (kq ≤ kj5) ∧ Aside0 (Below w.heap.size w wc))
      case first =>
        have H := HC8.out
        clear HC8
        by_cases c9 : x24_5 = true
        · subst c9
          have H1 : (bakelaw3_SampOfs.j1 kj5 l0 a1 a2 300 l4) = some r := by rw [if_pos rfl] at H; exact H
          clear H
          have H := H1
          clear H1
          have H' := Aside0.mk H
          clear H
          go_wp2
          go_meet
          case rel => exact ⟨_, (300), (by first | rfl | (simp; done) | (simp [*]; done)), H', ⟨by have := HJ5.out; first | omega | exact Nat.le_refl _⟩, ⟨by repeat (first | (with_reducible first | exact HB.out | apply below_alloc | apply pw_below_drewN | apply below_drew1) | exact HB.out)⟩⟩
        · replace c9 := Bool.eq_false_iff.mpr c9
          subst c9
          have H1 : (bakelaw3_SampOfs.j1 kj5 l0 a1 a2 a3 l4) = some r := by rw [if_neg (show ¬ (false = true) by decide)] at H; exact H
          clear H
          have H := H1
          clear H1
          have H' := Aside0.mk H
          clear H
          go_wp2
          go_meet
          case rel => exact ⟨_, (a3), (by first | rfl | (simp; done) | (simp [*]; done)), H', ⟨by have := HJ5.out; first | omega | exact Nat.le_refl _⟩, ⟨by repeat (first | (with_reducible first | exact HB.out | apply below_alloc | apply pw_below_drewN | apply below_drew1) | exact HB.out)⟩⟩
      case rest =>
        clear HC8
        try clear p2
        try clear c4
        try clear c7
        try clear c7b0
        try clear c9
        try clear p2
        obtain ⟨kq, x3_7, rfl, HA, HJ7, HB⟩ := hcut
        cases kq with
        | zero => exact absurd HA.out (by simp [bakelaw3_SampOfs.j1])
        | succ kj7 =>
          have H := HA.out
          clear HA
          simp only [bakelaw3_SampOfs.j1] at H
          replace H := Option.bind_eq_some_iff.mp H
          obtain ⟨⟨t144, t145⟩, A100, H⟩ := H
          replace H : (if x3_7 < 0 then (bakelaw3_SampOfs.j2 kj7 l0 a1 a2 x3_7 l4 t144 t145 0 (-1) true) else (bakelaw3_SampOfs.j2 kj7 l0 a1 a2 x3_7 l4 t144 t145 0 (-1) (decide (x3_7 > 100000)))) = some r := H
          have A10 := Aside0.mk A100
          clear A100
          have HC11 := Aside0.mk H
          clear H
          go_upto_block 0 with (first | ((with_reducible refine gate_callee (f := 19) rfl ?_); refine goesL_ (some 30) rfl rfl Try.func19 (by kernel_rfl) rfl #[.slice A0 l0.length c0, .string a1, .int .i64 a2, .int .i64 x3_7] rfl (by (try simp only [List.map_toArray, List.map_cons, List.map_nil]); first | done | rfl | (simp only [List.length_drop, List.length_take]; rfl)) ?_; (with_reducible refine (samp_Of.calls kj7 _ _ l0 a1 a2 x3_7 t144 t145 _ ?side1 ?side2 A10.out).mono ?_); (case side1 => repeat (first | exact (Kd.C_below HR0.out HB.out) | (with_reducible refine Kd.C_alloc ?_ _) | (with_reducible refine Kd.C_drewN ?_ _) | (with_reducible refine Kd.C_drew ?_))); (case side2 => exact HC0.out); rintro e w12 ⟨v146, rfl, ho0, hb⟩; refine ⟨_, rfl, ?_⟩; have n0_ := Aside0.mk (Kd.R_lower ho0 (below_size (by repeat (first | (with_reducible first | exact HB.out | apply below_alloc | apply pw_below_drewN | apply below_drew1) | exact HB.out)))); have n1_ := Aside0.mk (below_step (by repeat (first | (with_reducible first | exact HB.out | apply below_alloc | apply pw_below_drewN | apply below_drew1) | exact HB.out)) hb); clear HB; have HO147 := n0_; have HB := n1_; clear n0_ n1_; (try clear hb); (try clear hb2); (try clear hk); (try clear hi); (try clear ho0)))
          (try simp only [Act.put, List.setIfInBounds_toArray, List.set_cons_zero, List.set_cons_succ])
          go_cut [13] (fun v13 wc => ∃ (kq : Nat) (x13_10 : Int), v13 = .int .i64 x13_10 ∧ Aside0 (bakelaw3_SampOfs.j3 kq l0 a1 a2 x3_7 l4 t144 t145 x13_10 (-1) = some r) ∧ Aside0 (kq ≤ kj7) ∧ Aside0 (Kd.R (Kd.int .i64) 3 wc w.heap.size (fun _ => True) v146 t144) ∧ Aside0 (Below w.heap.size w wc))
          case first =>
            have H := HC11.out
            clear HC11
            have HC13 := Aside0.mk H
            clear H
            go_upto_region 5 with (fail)
            go_cut [33] (fun v33 wc => ∃ (kq : Nat) (x33_12 : Bool), v33 = .bool x33_12 ∧ Aside0 (bakelaw3_SampOfs.j2 kq l0 a1 a2 x3_7 l4 t144 t145 0 (-1) x33_12 = some r) ∧ Aside0 (kq ≤ kj7) ∧ Aside0 (Kd.R (Kd.int .i64) 3 wc w.heap.size (fun _ => True) v146 t144) ∧ Aside0 (Below w.heap.size w wc))
            case first =>
              have H := HC13.out
              clear HC13
              by_cases c14 : x3_7 < 0
              · rw [if_pos c14] at H
                have c14b0 : decide (x3_7 < 0) = true := decide_eq_true c14
                clear c14
                (first | rw [c14b0] | (simp only [i64_w, i32_w]; rw [c14b0]) | skip)
                have H' := Aside0.mk H
                clear H
                go_wp2
                go_meet
                case rel => exact ⟨_, (true), (by first | rfl | (simp; done) | (simp [*]; done)), H', ⟨by have := HJ5.out; have := HJ7.out; first | omega | exact Nat.le_refl _⟩, ⟨by (with_reducible repeat (first | apply Kd.R_alloc | apply Kd.R_drewN | apply Kd.R_drew)); exact HO147.out⟩, ⟨by repeat (first | (with_reducible first | exact HB.out | apply below_alloc | apply pw_below_drewN | apply below_drew1) | exact HB.out)⟩⟩
              · rw [if_neg c14] at H
                have c14b0 : decide (x3_7 < 0) = false := decide_eq_false c14
                clear c14
                (first | rw [c14b0] | (simp only [i64_w, i32_w]; rw [c14b0]) | skip)
                have H' := Aside0.mk H
                clear H
                go_wp2
                go_meet
                case rel => exact ⟨_, (decide (x3_7 > 100000)), (by first | rfl | (simp; done) | (simp [*]; done)), H', ⟨by have := HJ5.out; have := HJ7.out; first | omega | exact Nat.le_refl _⟩, ⟨by (with_reducible repeat (first | apply Kd.R_alloc | apply Kd.R_drewN | apply Kd.R_drew)); exact HO147.out⟩, ⟨by repeat (first | (with_reducible first | exact HB.out | apply below_alloc | apply pw_below_drewN | apply below_drew1) | exact HB.out)⟩⟩
            case rest =>
              clear HC13
              try clear c1
              try clear p2
              try clear c4
              try clear c7
              try clear c7b0
              try clear c9
              try clear c14
              try clear c14b0
              try clear p2
              obtain ⟨kq, x33_12, rfl, HA, HJ12, HO_11, HB⟩ := hcut
              cases kq with
              | zero => exact absurd HA.out (by simp [bakelaw3_SampOfs.j2])
              | succ kj12 =>
                have H := HA.out
                clear HA
                simp only [bakelaw3_SampOfs.j2] at H
                by_cases c15 : x33_12 = true
                · subst c15
                  have H1 : (bakelaw3_SampOfs.j3 kj12 l0 a1 a2 x3_7 l4 t144 t145 2 (-1)) = some r := by rw [if_pos rfl] at H; exact H
                  clear H
                  have H := H1
                  clear H1
                  have H' := Aside0.mk H
                  clear H
                  go_wp2
                  go_meet
                  case rel => exact ⟨_, (2), (by first | rfl | (simp; done) | (simp [*]; done)), H', ⟨by have := HJ5.out; have := HJ7.out; have := HJ12.out; first | omega | exact Nat.le_refl _⟩, ⟨by (with_reducible repeat (first | apply Kd.R_alloc | apply Kd.R_drewN | apply Kd.R_drew)); exact HO_11.out⟩, ⟨by repeat (first | (with_reducible first | exact HB.out | apply below_alloc | apply pw_below_drewN | apply below_drew1) | exact HB.out)⟩⟩
                · replace c15 := Bool.eq_false_iff.mpr c15
                  subst c15
                  have H1 : (if a2 < 0 then (bakelaw3_SampOfs.j3 kj12 l0 a1 a2 x3_7 l4 t144 t145 1 (-1)) else (if a2 > 1048576 then (bakelaw3_SampOfs.j3 kj12 l0 a1 a2 x3_7 l4 t144 t145 1 (-1)) else (bakelaw3_SampOfs.j3 kj12 l0 a1 a2 x3_7 l4 t144 t145 0 (-1)))) = some r := by rw [if_neg (show ¬ (false = true) by decide)] at H; exact H
                  clear H
                  have H := H1
                  clear H1
                  by_cases c16 : a2 < 0
                  · rw [if_pos c16] at H
                    have c16b0 : decide (a2 < 0) = true := decide_eq_true c16
                    clear c16
                    have H' := Aside0.mk H
                    clear H
                    go_wp2
                    go_meet
                    case rel => exact ⟨_, (1), (by first | rfl | (simp; done) | (simp [*]; done)), H', ⟨by have := HJ5.out; have := HJ7.out; have := HJ12.out; first | omega | exact Nat.le_refl _⟩, ⟨by (with_reducible repeat (first | apply Kd.R_alloc | apply Kd.R_drewN | apply Kd.R_drew)); exact HO_11.out⟩, ⟨by repeat (first | (with_reducible first | exact HB.out | apply below_alloc | apply pw_below_drewN | apply below_drew1) | exact HB.out)⟩⟩
                  · rw [if_neg c16] at H
                    have c16b0 : decide (a2 < 0) = false := decide_eq_false c16
                    clear c16
                    by_cases c17 : a2 > 1048576
                    · rw [if_pos c17] at H
                      have c17b0 : decide (1048576 < a2) = true := decide_eq_true c17
                      clear c17
                      have H' := Aside0.mk H
                      clear H
                      go_wp2
                      go_meet
                      case rel => exact ⟨_, (1), (by first | rfl | (simp; done) | (simp [*]; done)), H', ⟨by have := HJ5.out; have := HJ7.out; have := HJ12.out; first | omega | exact Nat.le_refl _⟩, ⟨by (with_reducible repeat (first | apply Kd.R_alloc | apply Kd.R_drewN | apply Kd.R_drew)); exact HO_11.out⟩, ⟨by repeat (first | (with_reducible first | exact HB.out | apply below_alloc | apply pw_below_drewN | apply below_drew1) | exact HB.out)⟩⟩
                    · rw [if_neg c17] at H
                      have c17b0 : decide (1048576 < a2) = false := decide_eq_false c17
                      clear c17
                      have H' := Aside0.mk H
                      clear H
                      go_wp2
                      go_meet
                      case rel => exact ⟨_, (0), (by first | rfl | (simp; done) | (simp [*]; done)), H', ⟨by have := HJ5.out; have := HJ7.out; have := HJ12.out; first | omega | exact Nat.le_refl _⟩, ⟨by (with_reducible repeat (first | apply Kd.R_alloc | apply Kd.R_drewN | apply Kd.R_drew)); exact HO_11.out⟩, ⟨by repeat (first | (with_reducible first | exact HB.out | apply below_alloc | apply pw_below_drewN | apply below_drew1) | exact HB.out)⟩⟩
          case rest =>
            clear HC11
            try clear c1
            try clear p2
            try clear c4
            try clear c7
            try clear c7b0
            try clear c9
            try clear c14
            try clear c14b0
            try clear c15
            try clear c16
            try clear c16b0
            try clear c17
            try clear c17b0
            try clear p2
            obtain ⟨kq, x13_10, rfl, HA, HJ10, HO_11, HB⟩ := hcut
            cases kq with
            | zero => exact absurd HA.out (by simp [bakelaw3_SampOfs.j3])
            | succ kj10 =>
              have H := HA.out
              clear HA
              simp only [bakelaw3_SampOfs.j3] at H
              have H' := Aside0.mk H
              clear H
              go_wp2
              go_loopg [13, 14, 49] kj10 (fun kq v13 v14 v49 w' => ∃ (x13_4 : Int) (x14_4 : Int) (x49_4 : Int), v13 = .int .i64 x13_4 ∧ v14 = .int .i64 x14_4 ∧ v49 = .int .i64 x49_4 ∧ Aside0 (bakelaw3_SampOfs.l0 kq l0 a1 a2 x3_7 l4 t144 t145 x13_4 x14_4 l0 (l0.length : Int) x49_4 = some r) ∧ Aside0 (kq ≤ kj10) ∧ Aside0 (Kd.R (Kd.int .i64) 3 w' w.heap.size (fun _ => True) v146 t144) ∧ Aside0 (Below w.heap.size w w'))
              case atStart => exact ⟨(x13_10), ((-1)), (0), (by first | rfl | (simp; done) | (simp [*]; done)), (by first | rfl | (simp; done) | (simp [*]; done)), (by first | rfl | (simp; done) | (simp [*]; done)), H', ⟨Nat.le_refl _⟩, ⟨by (with_reducible repeat (first | apply Kd.R_alloc | apply Kd.R_drewN | apply Kd.R_drew)); exact HO_11.out⟩, ⟨by repeat (first | (with_reducible first | exact HB.out | apply below_alloc | apply pw_below_drewN | apply below_drew1) | exact HB.out)⟩⟩
              case round =>
                clear H'
                try clear c1
                try clear p2
                try clear c4
                try clear c7
                try clear c7b0
                try clear c9
                try clear c14
                try clear c14b0
                try clear c15
                try clear c16
                try clear c16b0
                try clear c17
                try clear c17b0
                try clear p2
                obtain ⟨x13_4, x14_4, x49_4, rfl, rfl, rfl, HA, HK4, HO_11, HB⟩ := hrel
                cases gk with
                | zero => exact absurd HA.out (by simp [bakelaw3_SampOfs.l0])
                | succ k4 =>
                  have H := HA.out
                  clear HA
                  simp only [bakelaw3_SampOfs.l0] at H
                  by_cases c18 : x49_4 < (l0.length : Int)
                  · rw [if_pos c18] at H
                    have c18b0 : decide (x49_4 < (l0.length : Int)) = true := decide_eq_true c18
                    clear c18
                    by_cases c19 : 0 ≤ x49_4
                    · rw [if_pos c19] at H
                      have c19b0 : decide (0 ≤ x49_4) = true := decide_eq_true c19
                      clear c19
                      by_cases c20 : x49_4 < (l0.length : Int)
                      · rw [if_pos c20] at H
                        have c20b0 : decide (x49_4 < (l0.length : Int)) = true := decide_eq_true c20
                        clear c20
                        have HC21 := Aside0.mk H
                        clear H
                        have p148 : 0 ≤ (x49_4 : Int) := of_decide_eq_true (by first | (with_reducible assumption) | assumption)
                        have q148 : x49_4 < (l0.length : Int) := of_decide_eq_true (by first | (with_reducible assumption) | assumption)
                        obtain ⟨ad148, e148, hx148_0, hx148_1, hx148_2⟩ := at_T33 HR0.out x49_4 p148 q148
                        cases e148
                        replace hx148_0 := (HB.out.cell (World.block_lt_of_cell? w _ hx148_0)).trans hx148_0
                        replace hx148_1 := (HB.out.cell (World.block_lt_of_cell? w _ hx148_1)).trans hx148_1
                        replace hx148_2 := (HB.out.cell (World.block_lt_of_cell? w _ hx148_2)).trans hx148_2
                        replace p148 := eq_true p148
                        replace q148 := eq_true q148
                        go_upto_region 12 with (first | ((with_reducible refine gate_dst (N := 16) rfl ?_); refine box_event ?hg (N := 16) ?hd (cs := #[.int .i64 0, .string (⟨#[]⟩ : ByteArray), .int .i64 0]) (t := 33) ?hr ?_; (case hd => rfl); (case hg => rfl); (case hr => first | (go_simp; done) | (go_simp; rfl)); intro gb149 hg w22 hbox hb; have n0_ := Aside0.mk (Kd.R_below (by (with_reducible repeat (first | apply Kd.R_alloc | apply Kd.R_drewN | apply Kd.R_drew)); exact HO_11.out) hb); have n1_ := Aside0.mk (below_step (by repeat (first | (with_reducible first | exact HB.out | apply below_alloc | apply pw_below_drewN | apply below_drew1) | exact HB.out)) hb); have n2_ := Aside0.mk (hbox); have n3_ := Aside0.mk ((by rw [hg]; exact (below_size (by repeat (first | (with_reducible first | exact HB.out | apply below_alloc | apply pw_below_drewN | apply below_drew1) | exact HB.out))) : w.heap.size ≤ gb149)); have n4_ := Aside0.mk ((by rw [hg]; exact (below_size (by repeat (first | (with_reducible first | exact HB.out | apply below_alloc | apply pw_below_drewN | apply below_drew1) | exact HB.out))) : w.heap.size ≤ gb149)); clear HO_11; clear HB; have HO_11 := n0_; have HB := n1_; have BK149 := n2_; have GW149 := n3_; have GE149 := n4_; clear n0_ n1_ n2_ n3_ n4_; clear hb hbox hg; have hcz23_0 : w22.cell? ⟨gb149, 0, none⟩ = some (.int .i64 0) := (blk_cell BK149.out 0).trans rfl; have hcz23_1 : w22.cell? ⟨gb149, 1, none⟩ = some (.string (⟨#[]⟩ : ByteArray)) := (blk_cell BK149.out 1).trans rfl; have hcz23_2 : w22.cell? ⟨gb149, 2, none⟩ = some (.int .i64 0) := (blk_cell BK149.out 2).trans rfl; have hfz23_0 := blk_frozen BK149.out 0; have hfz23_1 := blk_frozen BK149.out 1; have hfz23_2 := blk_frozen BK149.out 2))
                        (try simp only [Act.put, List.setIfInBounds_toArray, List.set_cons_zero, List.set_cons_succ])
                        go_cut [60] (fun v60 wc => ∃ (kq : Nat) (x60_20 : Bool), v60 = .bool x60_20 ∧ Aside0 (bakelaw3_SampOfs.j5 kq l0 a1 a2 x3_7 l4 t144 t145 x13_4 x14_4 l0 (l0.length : Int) x49_4 x60_20 ((rd_T33 l0 x49_4).f0) ((rd_T33 l0 x49_4).f1) ((rd_T33 l0 x49_4).f2) = some r) ∧ Aside0 (kq ≤ k4) ∧ Aside0 (Kd.R (Kd.int .i64) 3 wc w.heap.size (fun _ => True) v146 t144) ∧ Aside0 (wc.heap[gb149]? = some (.cells #[.int .i64 ((rd_T33 l0 x49_4).f0), .string ((rd_T33 l0 x49_4).f1), .int .i64 ((rd_T33 l0 x49_4).f2)] 33 (0, 0))) ∧ Aside0 (Below w.heap.size w wc))
                        case first =>
                          have H := HC21.out
                          clear HC21
                          by_cases c24 : ((rd_T33 l0 x49_4).f1).toList = a1.toList
                          · rw [if_pos c24] at H
                            have c24b0 : (((rd_T33 l0 x49_4).f1).toList == a1.toList) = true := beq_iff_eq.mpr c24
                            have c24b1 : (((rd_T33 l0 x49_4).f1).toList != a1.toList) = false := bne_eq_false_iff_eq.mpr c24
                            clear c24
                            (first | rw [c24b0] | (simp only [i64_w, i32_w]; rw [c24b0]) | skip)
                            have H' := Aside0.mk H
                            clear H
                            have hcz25_0 : w22.cell? ⟨gb149, 0, none⟩ = some (.int .i64 0) := (blk_cell BK149.out 0).trans rfl
                            have hcz25_1 : w22.cell? ⟨gb149, 1, none⟩ = some (.string (⟨#[]⟩ : ByteArray)) := (blk_cell BK149.out 1).trans rfl
                            have hcz25_2 : w22.cell? ⟨gb149, 2, none⟩ = some (.int .i64 0) := (blk_cell BK149.out 2).trans rfl
                            have hfz25_0 := blk_frozen BK149.out 0
                            have hfz25_1 := blk_frozen BK149.out 1
                            have hfz25_2 := blk_frozen BK149.out 2
                            go_wp2
                            go_meet
                            case rel => exact ⟨_, ((x13_4 != 0)), (by first | rfl | (simp; done) | (simp [*]; done)), H', ⟨by have := HJ5.out; have := HJ7.out; have := HJ10.out; have := HK4.out; first | omega | exact Nat.le_refl _⟩, ⟨by (with_reducible repeat (first | apply Kd.R_alloc | apply Kd.R_drewN | apply Kd.R_drew)); exact Kd.R_mono (Kd.R_far (p := ⟨gb149, 2, none⟩) (Kd.R_far (p := ⟨gb149, 1, none⟩) (Kd.R_far (p := ⟨gb149, 0, none⟩) (Kd.R_types HO_11.out BK149.out (by decide)) (fun _ hk => hk.2) (.int .i64 ((rd_T33 l0 x49_4).f0))) (fun _ hk => hk.2) (.string ((rd_T33 l0 x49_4).f1))) (fun _ hk => hk.2) (.int .i64 ((rd_T33 l0 x49_4).f2))) (fun _ hk => trivial)⟩, ⟨by (with_reducible repeat (first | refine blk_drewN ?_ _ | refine blk_drew ?_ | refine blk_alloc ?_ _)); refine blk_put (cs := #[.int .i64 ((rd_T33 l0 x49_4).f0), .string ((rd_T33 l0 x49_4).f1), .int .i64 0]) ?_ 2 _ rfl; (with_reducible repeat (first | refine blk_drewN ?_ _ | refine blk_drew ?_ | refine blk_alloc ?_ _)); refine blk_put (cs := #[.int .i64 ((rd_T33 l0 x49_4).f0), .string (⟨#[]⟩ : ByteArray), .int .i64 0]) ?_ 1 _ rfl; (with_reducible repeat (first | refine blk_drewN ?_ _ | refine blk_drew ?_ | refine blk_alloc ?_ _)); refine blk_put (cs := #[.int .i64 0, .string (⟨#[]⟩ : ByteArray), .int .i64 0]) ?_ 0 _ rfl; (with_reducible repeat (first | refine blk_drewN ?_ _ | refine blk_drew ?_ | refine blk_alloc ?_ _)); exact BK149.out⟩, ⟨by repeat (first | (with_reducible first | exact HB.out | apply below_alloc | apply pw_below_drewN | apply below_drew1 | refine below_set ?_ GE149.out) | exact HB.out)⟩⟩
                          · rw [if_neg c24] at H
                            have c24b0 : (((rd_T33 l0 x49_4).f1).toList == a1.toList) = false := beq_eq_false_iff_ne.mpr c24
                            have c24b1 : (((rd_T33 l0 x49_4).f1).toList != a1.toList) = true := bne_iff_ne.mpr c24
                            (first | rw [c24b0] | (simp only [i64_w, i32_w]; rw [c24b0]) | skip)
                            have H' := Aside0.mk H
                            clear H
                            have hcz26_0 : w22.cell? ⟨gb149, 0, none⟩ = some (.int .i64 0) := (blk_cell BK149.out 0).trans rfl
                            have hcz26_1 : w22.cell? ⟨gb149, 1, none⟩ = some (.string (⟨#[]⟩ : ByteArray)) := (blk_cell BK149.out 1).trans rfl
                            have hcz26_2 : w22.cell? ⟨gb149, 2, none⟩ = some (.int .i64 0) := (blk_cell BK149.out 2).trans rfl
                            have hfz26_0 := blk_frozen BK149.out 0
                            have hfz26_1 := blk_frozen BK149.out 1
                            have hfz26_2 := blk_frozen BK149.out 2
                            go_wp2
                            go_meet
                            case rel => exact ⟨_, (true), (by first | rfl | (simp; done) | (simp [*]; done)), H', ⟨by have := HJ5.out; have := HJ7.out; have := HJ10.out; have := HK4.out; first | omega | exact Nat.le_refl _⟩, ⟨by (with_reducible repeat (first | apply Kd.R_alloc | apply Kd.R_drewN | apply Kd.R_drew)); exact Kd.R_mono (Kd.R_far (p := ⟨gb149, 2, none⟩) (Kd.R_far (p := ⟨gb149, 1, none⟩) (Kd.R_far (p := ⟨gb149, 0, none⟩) (Kd.R_types HO_11.out BK149.out (by decide)) (fun _ hk => hk.2) (.int .i64 ((rd_T33 l0 x49_4).f0))) (fun _ hk => hk.2) (.string ((rd_T33 l0 x49_4).f1))) (fun _ hk => hk.2) (.int .i64 ((rd_T33 l0 x49_4).f2))) (fun _ hk => trivial)⟩, ⟨by (with_reducible repeat (first | refine blk_drewN ?_ _ | refine blk_drew ?_ | refine blk_alloc ?_ _)); refine blk_put (cs := #[.int .i64 ((rd_T33 l0 x49_4).f0), .string ((rd_T33 l0 x49_4).f1), .int .i64 0]) ?_ 2 _ rfl; (with_reducible repeat (first | refine blk_drewN ?_ _ | refine blk_drew ?_ | refine blk_alloc ?_ _)); refine blk_put (cs := #[.int .i64 ((rd_T33 l0 x49_4).f0), .string (⟨#[]⟩ : ByteArray), .int .i64 0]) ?_ 1 _ rfl; (with_reducible repeat (first | refine blk_drewN ?_ _ | refine blk_drew ?_ | refine blk_alloc ?_ _)); refine blk_put (cs := #[.int .i64 0, .string (⟨#[]⟩ : ByteArray), .int .i64 0]) ?_ 0 _ rfl; (with_reducible repeat (first | refine blk_drewN ?_ _ | refine blk_drew ?_ | refine blk_alloc ?_ _)); exact BK149.out⟩, ⟨by repeat (first | (with_reducible first | exact HB.out | apply below_alloc | apply pw_below_drewN | apply below_drew1 | refine below_set ?_ GE149.out) | exact HB.out)⟩⟩
                        case rest =>
                          clear HC21
                          try clear c1
                          try clear p1
                          try clear q1
                          try clear hx1
                          try clear c2
                          try clear p2
                          try clear c4
                          try clear c7
                          try clear c7b0
                          try clear c9
                          try clear c14
                          try clear c14b0
                          try clear p14
                          try clear q14
                          try clear hx14
                          try clear c15
                          try clear c16
                          try clear c16b0
                          try clear c17
                          try clear c17b0
                          try clear c18
                          try clear c18b0
                          try clear c19
                          try clear c19b0
                          try clear c20
                          try clear c20b0
                          try clear c24
                          try clear c24b0
                          try clear c24b1
                          try clear hcz23_0
                          try clear hcz23_1
                          try clear hcz23_2
                          try clear hcz25_0
                          try clear hcz25_1
                          try clear hcz25_2
                          try clear hcz26_0
                          try clear hcz26_1
                          try clear hcz26_2
                          try clear hfz23_0
                          try clear hfz23_1
                          try clear hfz23_2
                          try clear hfz25_0
                          try clear hfz25_1
                          try clear hfz25_2
                          try clear hfz26_0
                          try clear hfz26_1
                          try clear hfz26_2
                          try clear hx148_0
                          try clear hx148_1
                          try clear hx148_2
                          try clear p148
                          try clear p2
                          try clear q148
                          obtain ⟨kq, x60_20, rfl, HA, HJ20, HO_11, BK149, HB⟩ := hcut
                          cases kq with
                          | zero => exact absurd HA.out (by simp [bakelaw3_SampOfs.j5])
                          | succ kj20 =>
                            have H := HA.out
                            clear HA
                            simp only [bakelaw3_SampOfs.j5] at H
                            by_cases c27 : x60_20 = true
                            · subst c27
                              have H1 : (bakelaw3_SampOfs.l0 kj20 l0 a1 a2 x3_7 l4 t144 t145 x13_4 x14_4 l0 (l0.length : Int) (wrap64 (x49_4 + 1))) = some r := by rw [if_pos rfl] at H; exact H
                              clear H
                              have H := H1
                              clear H1
                              have H' := Aside0.mk H
                              clear H
                              go_wp2
                              go_roundg kj20
                              case measure => have := HJ5.out; have := HJ7.out; have := HJ10.out; have := HK4.out; have := HJ20.out; omega
                              case rel => exact ⟨(x13_4), (x14_4), (wrap64 (x49_4 + 1)), (by first | rfl | (simp; done) | (simp [*]; done)), (by first | rfl | (simp; done) | (simp [*]; done)), (by first | rfl | (simp; done) | (simp [*]; done)), H', ⟨by have := HJ5.out; have := HJ7.out; have := HJ10.out; have := HK4.out; have := HJ20.out; omega⟩, ⟨by (with_reducible repeat (first | apply Kd.R_alloc | apply Kd.R_drewN | apply Kd.R_drew)); exact HO_11.out⟩, ⟨by repeat (first | (with_reducible first | exact HB.out | apply below_alloc | apply pw_below_drewN | apply below_drew1 | refine below_set ?_ GE149.out) | exact HB.out)⟩⟩
                            · replace c27 := Bool.eq_false_iff.mpr c27
                              subst c27
                              have H1 : (if ((rd_T33 l0 x49_4).f0) < 0 then (bakelaw3_SampOfs.j6 kj20 l0 a1 a2 x3_7 l4 t144 t145 x13_4 x14_4 l0 (l0.length : Int) x49_4 true ((rd_T33 l0 x49_4).f0) ((rd_T33 l0 x49_4).f1) ((rd_T33 l0 x49_4).f2)) else (if ((rd_T33 l0 x49_4).f2) < 0 then (bakelaw3_SampOfs.j6 kj20 l0 a1 a2 x3_7 l4 t144 t145 x13_4 x14_4 l0 (l0.length : Int) x49_4 true ((rd_T33 l0 x49_4).f0) ((rd_T33 l0 x49_4).f1) ((rd_T33 l0 x49_4).f2)) else (bakelaw3_SampOfs.j6 kj20 l0 a1 a2 x3_7 l4 t144 t145 x13_4 x14_4 l0 (l0.length : Int) x49_4 (decide (((rd_T33 l0 x49_4).f2) > 1048576)) ((rd_T33 l0 x49_4).f0) ((rd_T33 l0 x49_4).f1) ((rd_T33 l0 x49_4).f2)))) = some r := by rw [if_neg (show ¬ (false = true) by decide)] at H; exact H
                              clear H
                              have H := H1
                              clear H1
                              have HC28 := Aside0.mk H
                              clear H
                              go_upto_region 13 with (fail)
                              go_cut [61] (fun v61 wc => ∃ (kq : Nat) (x61_27 : Bool), v61 = .bool x61_27 ∧ Aside0 (bakelaw3_SampOfs.j6 kq l0 a1 a2 x3_7 l4 t144 t145 x13_4 x14_4 l0 (l0.length : Int) x49_4 x61_27 ((rd_T33 l0 x49_4).f0) ((rd_T33 l0 x49_4).f1) ((rd_T33 l0 x49_4).f2) = some r) ∧ Aside0 (kq ≤ kj20) ∧ Aside0 (Kd.R (Kd.int .i64) 3 wc w.heap.size (fun _ => True) v146 t144) ∧ Aside0 (wc.heap[gb149]? = some (.cells #[.int .i64 ((rd_T33 l0 x49_4).f0), .string ((rd_T33 l0 x49_4).f1), .int .i64 ((rd_T33 l0 x49_4).f2)] 33 (0, 0))) ∧ Aside0 (Below w.heap.size w wc))
                              case first =>
                                have H := HC28.out
                                clear HC28
                                by_cases c29 : ((rd_T33 l0 x49_4).f0) < 0
                                · rw [if_pos c29] at H
                                  have c29b0 : decide (((rd_T33 l0 x49_4).f0) < 0) = true := decide_eq_true c29
                                  clear c29
                                  (first | rw [c29b0] | (simp only [i64_w, i32_w]; rw [c29b0]) | skip)
                                  have H' := Aside0.mk H
                                  clear H
                                  have hcz30_0 : wc.cell? ⟨gb149, 0, none⟩ = some (.int .i64 ((rd_T33 l0 x49_4).f0)) := (blk_cell BK149.out 0).trans rfl
                                  have hcz30_1 : wc.cell? ⟨gb149, 1, none⟩ = some (.string ((rd_T33 l0 x49_4).f1)) := (blk_cell BK149.out 1).trans rfl
                                  have hcz30_2 : wc.cell? ⟨gb149, 2, none⟩ = some (.int .i64 ((rd_T33 l0 x49_4).f2)) := (blk_cell BK149.out 2).trans rfl
                                  have hfz30_0 := blk_frozen BK149.out 0
                                  have hfz30_1 := blk_frozen BK149.out 1
                                  have hfz30_2 := blk_frozen BK149.out 2
                                  go_wp2
                                  go_meet
                                  case rel => exact ⟨_, (true), (by first | rfl | (simp; done) | (simp [*]; done)), H', ⟨by have := HJ5.out; have := HJ7.out; have := HJ10.out; have := HK4.out; have := HJ20.out; first | omega | exact Nat.le_refl _⟩, ⟨by (with_reducible repeat (first | apply Kd.R_alloc | apply Kd.R_drewN | apply Kd.R_drew)); exact HO_11.out⟩, ⟨by (with_reducible repeat (first | refine blk_drewN ?_ _ | refine blk_drew ?_ | refine blk_alloc ?_ _)); exact BK149.out⟩, ⟨by repeat (first | (with_reducible first | exact HB.out | apply below_alloc | apply pw_below_drewN | apply below_drew1 | refine below_set ?_ GE149.out) | exact HB.out)⟩⟩
                                · rw [if_neg c29] at H
                                  have c29b0 : decide (((rd_T33 l0 x49_4).f0) < 0) = false := decide_eq_false c29
                                  clear c29
                                  (first | rw [c29b0] | (simp only [i64_w, i32_w]; rw [c29b0]) | skip)
                                  by_cases c31 : ((rd_T33 l0 x49_4).f2) < 0
                                  · rw [if_pos c31] at H
                                    have c31b0 : decide (((rd_T33 l0 x49_4).f2) < 0) = true := decide_eq_true c31
                                    clear c31
                                    have H' := Aside0.mk H
                                    clear H
                                    have hcz32_0 : wc.cell? ⟨gb149, 0, none⟩ = some (.int .i64 ((rd_T33 l0 x49_4).f0)) := (blk_cell BK149.out 0).trans rfl
                                    have hcz32_1 : wc.cell? ⟨gb149, 1, none⟩ = some (.string ((rd_T33 l0 x49_4).f1)) := (blk_cell BK149.out 1).trans rfl
                                    have hcz32_2 : wc.cell? ⟨gb149, 2, none⟩ = some (.int .i64 ((rd_T33 l0 x49_4).f2)) := (blk_cell BK149.out 2).trans rfl
                                    have hfz32_0 := blk_frozen BK149.out 0
                                    have hfz32_1 := blk_frozen BK149.out 1
                                    have hfz32_2 := blk_frozen BK149.out 2
                                    go_wp2
                                    go_meet
                                    case rel => exact ⟨_, (true), (by first | rfl | (simp; done) | (simp [*]; done)), H', ⟨by have := HJ5.out; have := HJ7.out; have := HJ10.out; have := HK4.out; have := HJ20.out; first | omega | exact Nat.le_refl _⟩, ⟨by (with_reducible repeat (first | apply Kd.R_alloc | apply Kd.R_drewN | apply Kd.R_drew)); exact HO_11.out⟩, ⟨by (with_reducible repeat (first | refine blk_drewN ?_ _ | refine blk_drew ?_ | refine blk_alloc ?_ _)); exact BK149.out⟩, ⟨by repeat (first | (with_reducible first | exact HB.out | apply below_alloc | apply pw_below_drewN | apply below_drew1 | refine below_set ?_ GE149.out) | exact HB.out)⟩⟩
                                  · rw [if_neg c31] at H
                                    have c31b0 : decide (((rd_T33 l0 x49_4).f2) < 0) = false := decide_eq_false c31
                                    clear c31
                                    have H' := Aside0.mk H
                                    clear H
                                    have hcz33_0 : wc.cell? ⟨gb149, 0, none⟩ = some (.int .i64 ((rd_T33 l0 x49_4).f0)) := (blk_cell BK149.out 0).trans rfl
                                    have hcz33_1 : wc.cell? ⟨gb149, 1, none⟩ = some (.string ((rd_T33 l0 x49_4).f1)) := (blk_cell BK149.out 1).trans rfl
                                    have hcz33_2 : wc.cell? ⟨gb149, 2, none⟩ = some (.int .i64 ((rd_T33 l0 x49_4).f2)) := (blk_cell BK149.out 2).trans rfl
                                    have hfz33_0 := blk_frozen BK149.out 0
                                    have hfz33_1 := blk_frozen BK149.out 1
                                    have hfz33_2 := blk_frozen BK149.out 2
                                    go_wp2
                                    go_meet
                                    case rel => exact ⟨_, (decide (((rd_T33 l0 x49_4).f2) > 1048576)), (by first | rfl | (simp; done) | (simp [*]; done)), H', ⟨by have := HJ5.out; have := HJ7.out; have := HJ10.out; have := HK4.out; have := HJ20.out; first | omega | exact Nat.le_refl _⟩, ⟨by (with_reducible repeat (first | apply Kd.R_alloc | apply Kd.R_drewN | apply Kd.R_drew)); exact HO_11.out⟩, ⟨by (with_reducible repeat (first | refine blk_drewN ?_ _ | refine blk_drew ?_ | refine blk_alloc ?_ _)); exact BK149.out⟩, ⟨by repeat (first | (with_reducible first | exact HB.out | apply below_alloc | apply pw_below_drewN | apply below_drew1 | refine below_set ?_ GE149.out) | exact HB.out)⟩⟩
                              case rest =>
                                clear HC28
                                try clear c1
                                try clear p1
                                try clear q1
                                try clear hx1
                                try clear c2
                                try clear p2
                                try clear c3
                                try clear c4
                                try clear p6
                                try clear c7
                                try clear c7b0
                                try clear c9
                                try clear c14
                                try clear c14b0
                                try clear p14
                                try clear q14
                                try clear hx14
                                try clear c15
                                try clear c16
                                try clear c16b0
                                try clear c17
                                try clear c17b0
                                try clear c18
                                try clear c18b0
                                try clear c19
                                try clear c19b0
                                try clear c20
                                try clear c20b0
                                try clear c24
                                try clear c24b0
                                try clear c24b1
                                try clear c27
                                try clear c29
                                try clear c29b0
                                try clear c31
                                try clear c31b0
                                try clear hcz23_0
                                try clear hcz23_1
                                try clear hcz23_2
                                try clear hcz25_0
                                try clear hcz25_1
                                try clear hcz25_2
                                try clear hcz26_0
                                try clear hcz26_1
                                try clear hcz26_2
                                try clear hcz30_0
                                try clear hcz30_1
                                try clear hcz30_2
                                try clear hcz32_0
                                try clear hcz32_1
                                try clear hcz32_2
                                try clear hcz33_0
                                try clear hcz33_1
                                try clear hcz33_2
                                try clear hfz23_0
                                try clear hfz23_1
                                try clear hfz23_2
                                try clear hfz25_0
                                try clear hfz25_1
                                try clear hfz25_2
                                try clear hfz26_0
                                try clear hfz26_1
                                try clear hfz26_2
                                try clear hfz30_0
                                try clear hfz30_1
                                try clear hfz30_2
                                try clear hfz32_0
                                try clear hfz32_1
                                try clear hfz32_2
                                try clear hfz33_0
                                try clear hfz33_1
                                try clear hfz33_2
                                try clear hx148_0
                                try clear hx148_1
                                try clear hx148_2
                                try clear p1
                                try clear p14
                                try clear p148
                                try clear p2
                                try clear q1
                                try clear q14
                                try clear q148
                                obtain ⟨kq, x61_27, rfl, HA, HJ27, HO_11, BK149, HB⟩ := hcut
                                cases kq with
                                | zero => exact absurd HA.out (by simp [bakelaw3_SampOfs.j6])
                                | succ kj27 =>
                                  have H := HA.out
                                  clear HA
                                  simp only [bakelaw3_SampOfs.j6] at H
                                  by_cases c34 : x61_27 = true
                                  · subst c34
                                    have H1 : (bakelaw3_SampOfs.l0 kj27 l0 a1 a2 x3_7 l4 t144 t145 1 ((rd_T33 l0 x49_4).f0) l0 (l0.length : Int) (wrap64 (x49_4 + 1))) = some r := by rw [if_pos rfl] at H; exact H
                                    clear H
                                    have H := H1
                                    clear H1
                                    have H' := Aside0.mk H
                                    clear H
                                    have hcz35_0 : wc.cell? ⟨gb149, 0, none⟩ = some (.int .i64 ((rd_T33 l0 x49_4).f0)) := (blk_cell BK149.out 0).trans rfl
                                    have hcz35_1 : wc.cell? ⟨gb149, 1, none⟩ = some (.string ((rd_T33 l0 x49_4).f1)) := (blk_cell BK149.out 1).trans rfl
                                    have hcz35_2 : wc.cell? ⟨gb149, 2, none⟩ = some (.int .i64 ((rd_T33 l0 x49_4).f2)) := (blk_cell BK149.out 2).trans rfl
                                    have hfz35_0 := blk_frozen BK149.out 0
                                    have hfz35_1 := blk_frozen BK149.out 1
                                    have hfz35_2 := blk_frozen BK149.out 2
                                    go_wp2
                                    go_roundg kj27
                                    case measure => have := HJ5.out; have := HJ7.out; have := HJ10.out; have := HK4.out; have := HJ20.out; have := HJ27.out; omega
                                    case rel => exact ⟨(1), (((rd_T33 l0 x49_4).f0)), (wrap64 (x49_4 + 1)), (by first | rfl | (simp; done) | (simp [*]; done)), (by first | rfl | (simp; done) | (simp [*]; done)), (by first | rfl | (simp; done) | (simp [*]; done)), H', ⟨by have := HJ5.out; have := HJ7.out; have := HJ10.out; have := HK4.out; have := HJ20.out; have := HJ27.out; omega⟩, ⟨by (with_reducible repeat (first | apply Kd.R_alloc | apply Kd.R_drewN | apply Kd.R_drew)); exact HO_11.out⟩, ⟨by repeat (first | (with_reducible first | exact HB.out | apply below_alloc | apply pw_below_drewN | apply below_drew1 | refine below_set ?_ GE149.out) | exact HB.out)⟩⟩
                                  · replace c34 := Bool.eq_false_iff.mpr c34
                                    subst c34
                                    have H1 : (if ((rd_T33 l0 x49_4).f0) ≤ x14_4 then (bakelaw3_SampOfs.l0 kj27 l0 a1 a2 x3_7 l4 t144 t145 9 ((rd_T33 l0 x49_4).f0) l0 (l0.length : Int) (wrap64 (x49_4 + 1))) else (bakelaw3_SampOfs.l0 kj27 l0 a1 a2 x3_7 l4 t144 t145 x13_4 ((rd_T33 l0 x49_4).f0) l0 (l0.length : Int) (wrap64 (x49_4 + 1)))) = some r := by rw [if_neg (show ¬ (false = true) by decide)] at H; exact H
                                    clear H
                                    have H := H1
                                    clear H1
                                    by_cases c36 : ((rd_T33 l0 x49_4).f0) ≤ x14_4
                                    · rw [if_pos c36] at H
                                      have c36b0 : decide (((rd_T33 l0 x49_4).f0) ≤ x14_4) = true := decide_eq_true c36
                                      clear c36
                                      have H' := Aside0.mk H
                                      clear H
                                      have hcz37_0 : wc.cell? ⟨gb149, 0, none⟩ = some (.int .i64 ((rd_T33 l0 x49_4).f0)) := (blk_cell BK149.out 0).trans rfl
                                      have hcz37_1 : wc.cell? ⟨gb149, 1, none⟩ = some (.string ((rd_T33 l0 x49_4).f1)) := (blk_cell BK149.out 1).trans rfl
                                      have hcz37_2 : wc.cell? ⟨gb149, 2, none⟩ = some (.int .i64 ((rd_T33 l0 x49_4).f2)) := (blk_cell BK149.out 2).trans rfl
                                      have hfz37_0 := blk_frozen BK149.out 0
                                      have hfz37_1 := blk_frozen BK149.out 1
                                      have hfz37_2 := blk_frozen BK149.out 2
                                      go_wp2
                                      go_roundg kj27
                                      case measure => have := HJ5.out; have := HJ7.out; have := HJ10.out; have := HK4.out; have := HJ20.out; have := HJ27.out; omega
                                      case rel => exact ⟨(9), (((rd_T33 l0 x49_4).f0)), (wrap64 (x49_4 + 1)), (by first | rfl | (simp; done) | (simp [*]; done)), (by first | rfl | (simp; done) | (simp [*]; done)), (by first | rfl | (simp; done) | (simp [*]; done)), H', ⟨by have := HJ5.out; have := HJ7.out; have := HJ10.out; have := HK4.out; have := HJ20.out; have := HJ27.out; omega⟩, ⟨by (with_reducible repeat (first | apply Kd.R_alloc | apply Kd.R_drewN | apply Kd.R_drew)); exact HO_11.out⟩, ⟨by repeat (first | (with_reducible first | exact HB.out | apply below_alloc | apply pw_below_drewN | apply below_drew1 | refine below_set ?_ GE149.out) | exact HB.out)⟩⟩
                                    · rw [if_neg c36] at H
                                      have c36b0 : decide (((rd_T33 l0 x49_4).f0) ≤ x14_4) = false := decide_eq_false c36
                                      clear c36
                                      have H' := Aside0.mk H
                                      clear H
                                      have hcz38_0 : wc.cell? ⟨gb149, 0, none⟩ = some (.int .i64 ((rd_T33 l0 x49_4).f0)) := (blk_cell BK149.out 0).trans rfl
                                      have hcz38_1 : wc.cell? ⟨gb149, 1, none⟩ = some (.string ((rd_T33 l0 x49_4).f1)) := (blk_cell BK149.out 1).trans rfl
                                      have hcz38_2 : wc.cell? ⟨gb149, 2, none⟩ = some (.int .i64 ((rd_T33 l0 x49_4).f2)) := (blk_cell BK149.out 2).trans rfl
                                      have hfz38_0 := blk_frozen BK149.out 0
                                      have hfz38_1 := blk_frozen BK149.out 1
                                      have hfz38_2 := blk_frozen BK149.out 2
                                      go_wp2
                                      go_roundg kj27
                                      case measure => have := HJ5.out; have := HJ7.out; have := HJ10.out; have := HK4.out; have := HJ20.out; have := HJ27.out; omega
                                      case rel => exact ⟨(x13_4), (((rd_T33 l0 x49_4).f0)), (wrap64 (x49_4 + 1)), (by first | rfl | (simp; done) | (simp [*]; done)), (by first | rfl | (simp; done) | (simp [*]; done)), (by first | rfl | (simp; done) | (simp [*]; done)), H', ⟨by have := HJ5.out; have := HJ7.out; have := HJ10.out; have := HK4.out; have := HJ20.out; have := HJ27.out; omega⟩, ⟨by (with_reducible repeat (first | apply Kd.R_alloc | apply Kd.R_drewN | apply Kd.R_drew)); exact HO_11.out⟩, ⟨by repeat (first | (with_reducible first | exact HB.out | apply below_alloc | apply pw_below_drewN | apply below_drew1 | refine below_set ?_ GE149.out) | exact HB.out)⟩⟩
                      · rw [if_neg c20] at H
                        exact absurd H (by simp)
                    · rw [if_neg c19] at H
                      exact absurd H (by simp)
                  · rw [if_neg c18] at H
                    have c18b0 : decide (x49_4 < (l0.length : Int)) = false := decide_eq_false c18
                    clear c18
                    have HC39 := Aside0.mk H
                    clear H
                    go_upto_block 4 with (fail)
                    go_cut [17] (fun v17 wc => ∃ (kq : Nat) (x17_38 : List Int), Aside0 (bakelaw3_SampOfs.j8 kq l4 t144 t145 x13_4 x17_38 = some r) ∧ Aside0 (kq ≤ k4) ∧ Aside0 (Kd.R (Kd.int .i64) 3 wc w.heap.size (fun k_ => some k_ ≠ (v17 : Value).ownBlock) v146 t144) ∧ Aside0 (Kd.R (Kd.int .i64) 3 wc w.heap.size (fun k_ => some k_ ≠ (v146 : Value).ownBlock) v17 x17_38) ∧ Aside0 (Below w.heap.size w wc))
                    case first =>
                      have H := HC39.out
                      clear HC39
                      have H' := Aside0.mk H
                      clear H
                      go_wp2
                      go_loopg [17, 18] k4 (fun kq v17 v18 w' => ∃ (x17_5 : List Int) (x18_5 : Int), v18 = .int .i64 x18_5 ∧ Aside0 (bakelaw3_SampOfs.l1 kq l0 a1 a2 x3_7 l4 t144 t145 x13_4 x17_5 x18_5 = some r) ∧ Aside0 (kq ≤ k4) ∧ Aside0 (Kd.R (Kd.int .i64) 3 w' w.heap.size (fun k_ => some k_ ≠ (v17 : Value).ownBlock) v146 t144) ∧ Aside0 (Kd.R (Kd.int .i64) 3 w' w.heap.size (fun k_ => some k_ ≠ (v146 : Value).ownBlock) v17 x17_5) ∧ Aside0 (Below w.heap.size w w'))
                      case atStart => exact ⟨(([] : List Int)), (0), (by first | rfl | (simp; done) | (simp [*]; done)), H', ⟨Nat.le_refl _⟩, ⟨by (with_reducible repeat (first | apply Kd.R_alloc | apply Kd.R_drewN | apply Kd.R_drew)); exact Kd.R_mono HO_11.out (fun _ hk => (by simp [Value.ownBlock]))⟩, ⟨by first | exact Kd.R_nil _ _ _ _ _ | exact Kd.N_nil _ _ _ _ _ | exact Kd.V_nil _ _ _ _ _ | exact Kd.Q_nil _ _ _ _ _ | exact Kd.S_nil _ _ _ _ _⟩, ⟨by repeat (first | (with_reducible first | exact HB.out | apply below_alloc | apply pw_below_drewN | apply below_drew1) | exact HB.out)⟩⟩
                      case round =>
                        clear H'
                        try clear c1
                        try clear p1
                        try clear q1
                        try clear hx1
                        try clear c2
                        try clear p2
                        try clear c3
                        try clear c4
                        try clear p6
                        try clear c7
                        try clear c7b0
                        try clear c9
                        try clear c14
                        try clear c14b0
                        try clear p14
                        try clear q14
                        try clear hx14
                        try clear c15
                        try clear c16
                        try clear c16b0
                        try clear c17
                        try clear c17b0
                        try clear c18
                        try clear c18b0
                        try clear c19
                        try clear c19b0
                        try clear c20
                        try clear c20b0
                        try clear c24
                        try clear c24b0
                        try clear c24b1
                        try clear c27
                        try clear c29
                        try clear c29b0
                        try clear c31
                        try clear c31b0
                        try clear c34
                        try clear c36
                        try clear c36b0
                        try clear hcz23_0
                        try clear hcz23_1
                        try clear hcz23_2
                        try clear hcz25_0
                        try clear hcz25_1
                        try clear hcz25_2
                        try clear hcz26_0
                        try clear hcz26_1
                        try clear hcz26_2
                        try clear hcz30_0
                        try clear hcz30_1
                        try clear hcz30_2
                        try clear hcz32_0
                        try clear hcz32_1
                        try clear hcz32_2
                        try clear hcz33_0
                        try clear hcz33_1
                        try clear hcz33_2
                        try clear hcz35_0
                        try clear hcz35_1
                        try clear hcz35_2
                        try clear hcz37_0
                        try clear hcz37_1
                        try clear hcz37_2
                        try clear hcz38_0
                        try clear hcz38_1
                        try clear hcz38_2
                        try clear hfz23_0
                        try clear hfz23_1
                        try clear hfz23_2
                        try clear hfz25_0
                        try clear hfz25_1
                        try clear hfz25_2
                        try clear hfz26_0
                        try clear hfz26_1
                        try clear hfz26_2
                        try clear hfz30_0
                        try clear hfz30_1
                        try clear hfz30_2
                        try clear hfz32_0
                        try clear hfz32_1
                        try clear hfz32_2
                        try clear hfz33_0
                        try clear hfz33_1
                        try clear hfz33_2
                        try clear hfz35_0
                        try clear hfz35_1
                        try clear hfz35_2
                        try clear hfz37_0
                        try clear hfz37_1
                        try clear hfz37_2
                        try clear hfz38_0
                        try clear hfz38_1
                        try clear hfz38_2
                        try clear hx148_0
                        try clear hx148_1
                        try clear hx148_2
                        try clear p1
                        try clear p14
                        try clear p148
                        try clear p2
                        try clear p6
                        try clear q1
                        try clear q14
                        try clear q148
                        obtain ⟨x17_5, x18_5, rfl, HA, HK5, HO_11, HO_17, HB⟩ := hrel
                        cases gk with
                        | zero => exact absurd HA.out (by simp [bakelaw3_SampOfs.l1])
                        | succ k5 =>
                          have H := HA.out
                          clear HA
                          simp only [bakelaw3_SampOfs.l1] at H
                          by_cases c40 : x13_4 = 0
                          · rw [if_pos c40] at H
                            have c40b0 : (x13_4 == 0) = true := beq_iff_eq.mpr c40
                            have c40b1 : (x13_4 != 0) = false := bne_eq_false_iff_eq.mpr c40
                            clear c40
                            (first | rw [c40b0] | (simp only [i64_w, i32_w]; rw [c40b0]) | skip)
                            by_cases c41 : x18_5 < x3_7
                            · rw [if_pos c41] at H
                              have c41b0 : decide (x18_5 < x3_7) = true := decide_eq_true c41
                              clear c41
                              replace H := Option.bind_eq_some_iff.mp H
                              obtain ⟨t150, A420, H⟩ := H
                              replace H : (if x17_5.length < 17592186044416 then (bakelaw3_SampOfs.l1 k5 l0 a1 a2 x3_7 l4 t144 t145 x13_4 (x17_5 ++ [t150]) (wrap64 (x18_5 + 1))) else (none)) = some r := H
                              have A42 := Aside0.mk A420
                              clear A420
                              by_cases c43 : x17_5.length < 17592186044416
                              · rw [if_pos c43] at H
                                have LMc43 := Aside0.mk c43
                                clear c43
                                obtain ⟨y151, hy151⟩ : ∃ y_ : List Int, y_ = (x17_5 ++ [t150]) := ⟨_, rfl⟩
                                replace H : (bakelaw3_SampOfs.l1 k5 l0 a1 a2 x3_7 l4 t144 t145 x13_4 y151 (wrap64 (x18_5 + 1))) = some r := by first | (rw [hy151]; with_reducible exact H) | (have H2_ := (Option.bind_some _ _).symm.trans H; rw [hy151]; with_reducible exact H2_) | (have H2_ := (Option.bind_some _ _).symm.trans H; with_reducible exact H2_) | with_reducible exact H | (rw [hy151]; exact H) | exact H
                                have Ny151 := Aside0.mk hy151
                                clear hy151
                                have H' := Aside0.mk H
                                clear H
                                go_wp2_with (first | ((with_reducible refine gate_callee (f := 20) rfl ?_); refine goesL_ (some 97) rfl rfl Try.func20 (by kernel_rfl) rfl #[.slice A0 l0.length c0, .string a1, .int .i64 a2, .int .i64 x18_5] rfl (by (try simp only [List.map_toArray, List.map_cons, List.map_nil]); first | done | rfl | (simp only [List.length_drop, List.length_take]; rfl)) ?_; (with_reducible refine (bakeref3_Level.calls k5 _ _ l0 a1 a2 x18_5 t150 _ ?side1 ?side2 A42.out).mono ?_); (case side1 => repeat (first | exact (Kd.C_below HR0.out HB.out) | (with_reducible refine Kd.C_alloc ?_ _) | (with_reducible refine Kd.C_drewN ?_ _) | (with_reducible refine Kd.C_drew ?_))); (case side2 => exact HC0.out); rintro e w44 ⟨rfl, hb⟩; refine ⟨_, rfl, ?_⟩; have n0_ := Aside0.mk (Kd.R_below (by (with_reducible repeat (first | apply Kd.R_alloc | apply Kd.R_drewN | apply Kd.R_drew)); exact HO_11.out) hb); have n1_ := Aside0.mk (Kd.R_below (by (with_reducible repeat (first | apply Kd.R_alloc | apply Kd.R_drewN | apply Kd.R_drew)); exact HO_17.out) hb); have n2_ := Aside0.mk (below_step (by repeat (first | (with_reducible first | exact HB.out | apply below_alloc | apply pw_below_drewN | apply below_drew1) | exact HB.out)) hb); clear HO_11; clear HO_17; clear HB; have HO_11 := n0_; have HO_17 := n1_; have HB := n2_; clear n0_ n1_ n2_; (try clear hb); (try clear hb2); (try clear hk); (try clear hi)) | ((with_reducible refine gate_builtin (b := .append) (xs := #[.tmp 92, .tmp 98]) rfl ?_); at_builtin; refine Kd.R_append (Kd.int .i64) (w0 := w) w.heap.size rfl (.tmp 92) (.tmp 98) 22 3 (.int .i64 0) 8 rfl Try.underlying22 info3 rfl (by decide) (by omega) u17 x17_5 t150 [.int .i64 t150] (fun k_ => some k_ ≠ (v146 : Value).ownBlock) (fun _ => False) rfl rfl ?aP (fun _ hk => hk.elim) ?aF ?aO ?aB ?aS ?aL ?_; (case aP => exact rfl); (case aB => exact (by repeat (first | (with_reducible first | exact HB.out | apply below_alloc | apply pw_below_drewN | apply below_drew1) | exact HB.out))); (case aF => exact (fun k_ hk => Kd.fresh' (Kd.R_lt (by (with_reducible repeat (first | apply Kd.R_alloc | apply Kd.R_drewN | apply Kd.R_drew)); exact HO_11.out)) k_ hk)); (case aO => exact (by (with_reducible repeat (first | apply Kd.R_alloc | apply Kd.R_drewN | apply Kd.R_drew)); exact HO_17.out)); (case aS => exact (below_size (by repeat (first | (with_reducible first | exact HB.out | apply below_alloc | apply pw_below_drewN | apply below_drew1) | exact HB.out)))); (case aL => have := LMc43.out; omega); intro v152 w45 ho hb hg hat; rw [← Ny151.out] at ho; have n0_ := Aside0.mk (Kd.R_after (ok := (fun _ => True)) (by (with_reducible repeat (first | apply Kd.R_alloc | apply Kd.R_drewN | apply Kd.R_drew)); exact Kd.R_mono HO_11.out (fun _ hk => by first | exact ⟨trivial, hk⟩ | exact hk | exact hk.1 | exact hk.2 | exact hk.1.1 | exact hk.1.2 | exact ⟨hk.1.1, hk.1.2⟩)) hg hat); have n1_ := Aside0.mk (hb); have n2_ := Aside0.mk (ho); clear HO_11; clear HB; clear HO_17; have HO_11 := n0_; have HB := n1_; have HO153 := n2_; clear n0_ n1_ n2_; clear ho hb hg hat))
                                go_roundg k5
                                case measure => have := HJ5.out; have := HJ7.out; have := HJ10.out; have := HK4.out; have := HK5.out; omega
                                case rel => exact ⟨(y151), (wrap64 (x18_5 + 1)), (by first | rfl | (simp; done) | (simp [*]; done)), H', ⟨by have := HJ5.out; have := HJ7.out; have := HJ10.out; have := HK4.out; have := HK5.out; omega⟩, ⟨by (with_reducible repeat (first | apply Kd.R_alloc | apply Kd.R_drewN | apply Kd.R_drew)); exact Kd.R_mono HO_11.out (fun _ hk => hk.2)⟩, ⟨by (with_reducible repeat (first | apply Kd.R_alloc | apply Kd.R_drewN | apply Kd.R_drew)); exact HO153.out⟩, ⟨by repeat (first | (with_reducible first | exact HB.out | apply below_alloc | apply pw_below_drewN | apply below_drew1) | exact HB.out)⟩⟩
                              · rw [if_neg c43] at H
                                exact absurd H (by simp)
                            · rw [if_neg c41] at H
                              have c41b0 : decide (x18_5 < x3_7) = false := decide_eq_false c41
                              clear c41
                              have H' := Aside0.mk H
                              clear H
                              go_wp2
                              go_meet
                              case rel => exact ⟨_, (x17_5), H', ⟨by have := HJ5.out; have := HJ7.out; have := HJ10.out; have := HK4.out; have := HK5.out; first | omega | exact Nat.le_refl _⟩, ⟨by (with_reducible repeat (first | apply Kd.R_alloc | apply Kd.R_drewN | apply Kd.R_drew)); exact HO_11.out⟩, ⟨by (with_reducible repeat (first | apply Kd.R_alloc | apply Kd.R_drewN | apply Kd.R_drew)); exact HO_17.out⟩, ⟨by repeat (first | (with_reducible first | exact HB.out | apply below_alloc | apply pw_below_drewN | apply below_drew1) | exact HB.out)⟩⟩
                          · rw [if_neg c40] at H
                            have c40b0 : (x13_4 == 0) = false := beq_eq_false_iff_ne.mpr c40
                            have c40b1 : (x13_4 != 0) = true := bne_iff_ne.mpr c40
                            (first | rw [c40b0] | (simp only [i64_w, i32_w]; rw [c40b0]) | skip)
                            have H' := Aside0.mk H
                            clear H
                            go_wp2
                            go_meet
                            case rel => exact ⟨_, (x17_5), H', ⟨by have := HJ5.out; have := HJ7.out; have := HJ10.out; have := HK4.out; have := HK5.out; first | omega | exact Nat.le_refl _⟩, ⟨by (with_reducible repeat (first | apply Kd.R_alloc | apply Kd.R_drewN | apply Kd.R_drew)); exact HO_11.out⟩, ⟨by (with_reducible repeat (first | apply Kd.R_alloc | apply Kd.R_drewN | apply Kd.R_drew)); exact HO_17.out⟩, ⟨by repeat (first | (with_reducible first | exact HB.out | apply below_alloc | apply pw_below_drewN | apply below_drew1) | exact HB.out)⟩⟩
                    case rest =>
                      clear HC39
                      try clear c1
                      try clear p1
                      try clear q1
                      try clear hx1
                      try clear c2
                      try clear p2
                      try clear c3
                      try clear c4
                      try clear p6
                      try clear c7
                      try clear c7b0
                      try clear c9
                      try clear c14
                      try clear c14b0
                      try clear p14
                      try clear q14
                      try clear hx14
                      try clear c15
                      try clear c16
                      try clear c16b0
                      try clear c17
                      try clear c17b0
                      try clear c18
                      try clear c18b0
                      try clear c19
                      try clear c19b0
                      try clear c20
                      try clear c20b0
                      try clear c24
                      try clear c24b0
                      try clear c24b1
                      try clear c27
                      try clear c29
                      try clear c29b0
                      try clear c31
                      try clear c31b0
                      try clear c34
                      try clear c36
                      try clear c36b0
                      try clear c40
                      try clear c40b0
                      try clear c40b1
                      try clear c41
                      try clear c41b0
                      try clear c43
                      try clear hcz23_0
                      try clear hcz23_1
                      try clear hcz23_2
                      try clear hcz25_0
                      try clear hcz25_1
                      try clear hcz25_2
                      try clear hcz26_0
                      try clear hcz26_1
                      try clear hcz26_2
                      try clear hcz30_0
                      try clear hcz30_1
                      try clear hcz30_2
                      try clear hcz32_0
                      try clear hcz32_1
                      try clear hcz32_2
                      try clear hcz33_0
                      try clear hcz33_1
                      try clear hcz33_2
                      try clear hcz35_0
                      try clear hcz35_1
                      try clear hcz35_2
                      try clear hcz37_0
                      try clear hcz37_1
                      try clear hcz37_2
                      try clear hcz38_0
                      try clear hcz38_1
                      try clear hcz38_2
                      try clear hfz23_0
                      try clear hfz23_1
                      try clear hfz23_2
                      try clear hfz25_0
                      try clear hfz25_1
                      try clear hfz25_2
                      try clear hfz26_0
                      try clear hfz26_1
                      try clear hfz26_2
                      try clear hfz30_0
                      try clear hfz30_1
                      try clear hfz30_2
                      try clear hfz32_0
                      try clear hfz32_1
                      try clear hfz32_2
                      try clear hfz33_0
                      try clear hfz33_1
                      try clear hfz33_2
                      try clear hfz35_0
                      try clear hfz35_1
                      try clear hfz35_2
                      try clear hfz37_0
                      try clear hfz37_1
                      try clear hfz37_2
                      try clear hfz38_0
                      try clear hfz38_1
                      try clear hfz38_2
                      try clear hx148_0
                      try clear hx148_1
                      try clear hx148_2
                      try clear p1
                      try clear p14
                      try clear p148
                      try clear p2
                      try clear p6
                      try clear q1
                      try clear q14
                      try clear q148
                      obtain ⟨kq, x17_38, HA, HJ38, HO_11, HO_17, HB⟩ := hcut
                      cases kq with
                      | zero => exact absurd HA.out (by simp [bakelaw3_SampOfs.j8])
                      | succ kj38 =>
                        have H := HA.out
                        clear HA
                        simp only [bakelaw3_SampOfs.j8] at H
                        replace H := Option.bind_eq_some_iff.mp H
                        obtain ⟨t154, A460, H⟩ := H
                        replace H : (if t154 = true then ((samp_Check.f kj38 l4).bind fun t155 => ((bakelaw3_levelFault.f kj38 l4).bind fun t156 => (if t155 = t156 then (if t145 = x13_4 then ((slices_Equal_int_int.f kj38 t144 x17_38).bind fun t157 => (some t157)) else (some false)) else (some false)))) else (some false)) = some r := H
                        have A46 := Aside0.mk A460
                        clear A460
                        by_cases c47 : t154 = true
                        · subst c47
                          have H1 : ((samp_Check.f kj38 l4).bind fun t155 => ((bakelaw3_levelFault.f kj38 l4).bind fun t156 => (if t155 = t156 then (if t145 = x13_4 then ((slices_Equal_int_int.f kj38 t144 x17_38).bind fun t157 => (some t157)) else (some false)) else (some false)))) = some r := by rw [if_pos rfl] at H; exact H
                          clear H
                          have H := H1
                          clear H1
                          replace H := Option.bind_eq_some_iff.mp H
                          obtain ⟨t155, A480, H⟩ := H
                          replace H : ((bakelaw3_levelFault.f kj38 l4).bind fun t156 => (if t155 = t156 then (if t145 = x13_4 then ((slices_Equal_int_int.f kj38 t144 x17_38).bind fun t157 => (some t157)) else (some false)) else (some false))) = some r := H
                          have A48 := Aside0.mk A480
                          clear A480
                          replace H := Option.bind_eq_some_iff.mp H
                          obtain ⟨t156, A490, H⟩ := H
                          replace H : (if t155 = t156 then (if t145 = x13_4 then ((slices_Equal_int_int.f kj38 t144 x17_38).bind fun t157 => (some t157)) else (some false)) else (some false)) = some r := H
                          have A49 := Aside0.mk A490
                          clear A490
                          by_cases c50 : t155 = t156
                          · rw [if_pos c50] at H
                            have c50b0 : (t155 == t156) = true := beq_iff_eq.mpr c50
                            have c50b1 : (t155 != t156) = false := bne_eq_false_iff_eq.mpr c50
                            clear c50
                            by_cases c51 : t145 = x13_4
                            · rw [if_pos c51] at H
                              have c51b0 : (t145 == x13_4) = true := beq_iff_eq.mpr c51
                              have c51b1 : (t145 != x13_4) = false := bne_eq_false_iff_eq.mpr c51
                              clear c51
                              replace H := Option.bind_eq_some_iff.mp H
                              obtain ⟨t157, A520, H⟩ := H
                              replace H : (some t157) = some r := H
                              have A52 := Aside0.mk A520
                              clear A520
                              obtain rfl := Option.some.inj H
                              go_wp2_with (first | ((with_reducible refine gate_callee (f := 17) rfl ?_); refine goesL_ (some 100) rfl rfl Try.func17 (by kernel_rfl) rfl #[] rfl (by (try simp only [List.map_toArray, List.map_cons, List.map_nil]); first | done | rfl | (simp only [List.length_drop, List.length_take]; rfl)) ?_; (with_reducible refine (bakelaw3_heard.calls kj38  true _ A46.out).mono ?_); rintro e w53 ⟨rfl, hb⟩; refine ⟨_, rfl, ?_⟩; have n0_ := Aside0.mk (Kd.R_below (by (with_reducible repeat (first | apply Kd.R_alloc | apply Kd.R_drewN | apply Kd.R_drew)); exact HO_11.out) hb); have n1_ := Aside0.mk (Kd.R_below (by (with_reducible repeat (first | apply Kd.R_alloc | apply Kd.R_drewN | apply Kd.R_drew)); exact HO_17.out) hb); have n2_ := Aside0.mk (below_step (by repeat (first | (with_reducible first | exact HB.out | apply below_alloc | apply pw_below_drewN | apply below_drew1) | exact HB.out)) hb); clear HO_11; clear HO_17; clear HB; have HO_11 := n0_; have HO_17 := n1_; have HB := n2_; clear n0_ n1_ n2_; (try clear hb); (try clear hb2); (try clear hk); (try clear hi)) | (go_at_call 21; (with_reducible refine (samp_Check.calls kj38 _ _ l4 t155 _ ?side1 ?side2 A48.out).mono ?_); (case side1 => repeat (first | exact (Kd.C_below HR4.out HB.out) | (with_reducible refine Kd.C_alloc ?_ _) | (with_reducible refine Kd.C_drewN ?_ _) | (with_reducible refine Kd.C_drew ?_))); (case side2 => exact HC4.out); rintro e w' ⟨rfl, ⟨nd, rfl⟩⟩) | (go_at_call 15; (with_reducible refine (bakelaw3_levelFault.calls kj38 _ _ l4 t156 _ ?side1 ?side2 A49.out).mono ?_); (case side1 => repeat (first | exact (Kd.C_below HR4.out (by repeat (first | (with_reducible first | exact HB.out | apply below_alloc | apply pw_below_drewN | apply below_drew1) | exact HB.out))) | (with_reducible refine Kd.C_alloc ?_ _) | (with_reducible refine Kd.C_drewN ?_ _) | (with_reducible refine Kd.C_drew ?_))); (case side2 => exact HC4.out); rintro e w' ⟨rfl, ⟨nd, rfl⟩⟩; obtain ⟨Ao54, co54, eo54⟩ := Kd.R_slice HO_11.out; subst eo54; obtain ⟨Ao55, co55, eo55⟩ := Kd.R_slice HO_17.out; subst eo55) | (go_at_call 22; (with_reducible refine (slices_Equal_int_int.calls kj38 _ _ t144 _ _ x17_38 t157 _ ?side1 ?side2 ?side3 ?side4 A52.out).mono ?_); (case side1 => repeat (first | exact (Kd.R_reads' HO_11.out).2.2 | (with_reducible refine Kd.C_alloc ?_ _) | (with_reducible refine Kd.C_drewN ?_ _) | (with_reducible refine Kd.C_drew ?_))); (case side2 => exact (Kd.R_reads' HO_11.out).2.1); (case side3 => repeat (first | exact (Kd.R_reads' HO_17.out).2.2 | (with_reducible refine Kd.C_alloc ?_ _) | (with_reducible refine Kd.C_drewN ?_ _) | (with_reducible refine Kd.C_drew ?_))); (case side4 => exact (Kd.R_reads' HO_17.out).2.1); rintro e w' ⟨rfl, ⟨nd, rfl⟩⟩))
                              go_ret
                              exact ⟨by first | rfl | (simp [errW_none, errW_some] <;> rfl) | (simp [*, errW_none, errW_some] <;> rfl), by repeat (first | (with_reducible first | exact HB.out | apply below_alloc | apply pw_below_drewN | apply below_drew1) | exact HB.out)⟩
                            · rw [if_neg c51] at H
                              have c51b0 : (t145 == x13_4) = false := beq_eq_false_iff_ne.mpr c51
                              have c51b1 : (t145 != x13_4) = true := bne_iff_ne.mpr c51
                              obtain rfl := Option.some.inj H
                              go_wp2_with (first | ((with_reducible refine gate_callee (f := 17) rfl ?_); refine goesL_ (some 100) rfl rfl Try.func17 (by kernel_rfl) rfl #[] rfl (by (try simp only [List.map_toArray, List.map_cons, List.map_nil]); first | done | rfl | (simp only [List.length_drop, List.length_take]; rfl)) ?_; (with_reducible refine (bakelaw3_heard.calls kj38  true _ A46.out).mono ?_); rintro e w56 ⟨rfl, hb⟩; refine ⟨_, rfl, ?_⟩; have n0_ := Aside0.mk (Kd.R_below (by (with_reducible repeat (first | apply Kd.R_alloc | apply Kd.R_drewN | apply Kd.R_drew)); exact HO_11.out) hb); have n1_ := Aside0.mk (Kd.R_below (by (with_reducible repeat (first | apply Kd.R_alloc | apply Kd.R_drewN | apply Kd.R_drew)); exact HO_17.out) hb); have n2_ := Aside0.mk (below_step (by repeat (first | (with_reducible first | exact HB.out | apply below_alloc | apply pw_below_drewN | apply below_drew1) | exact HB.out)) hb); clear HO_11; clear HO_17; clear HB; have HO_11 := n0_; have HO_17 := n1_; have HB := n2_; clear n0_ n1_ n2_; (try clear hb); (try clear hb2); (try clear hk); (try clear hi)) | (go_at_call 21; (with_reducible refine (samp_Check.calls kj38 _ _ l4 t155 _ ?side1 ?side2 A48.out).mono ?_); (case side1 => repeat (first | exact (Kd.C_below HR4.out HB.out) | (with_reducible refine Kd.C_alloc ?_ _) | (with_reducible refine Kd.C_drewN ?_ _) | (with_reducible refine Kd.C_drew ?_))); (case side2 => exact HC4.out); rintro e w' ⟨rfl, ⟨nd, rfl⟩⟩) | (go_at_call 15; (with_reducible refine (bakelaw3_levelFault.calls kj38 _ _ l4 t156 _ ?side1 ?side2 A49.out).mono ?_); (case side1 => repeat (first | exact (Kd.C_below HR4.out (by repeat (first | (with_reducible first | exact HB.out | apply below_alloc | apply pw_below_drewN | apply below_drew1) | exact HB.out))) | (with_reducible refine Kd.C_alloc ?_ _) | (with_reducible refine Kd.C_drewN ?_ _) | (with_reducible refine Kd.C_drew ?_))); (case side2 => exact HC4.out); rintro e w' ⟨rfl, ⟨nd, rfl⟩⟩))
                              go_ret
                              exact ⟨by first | rfl | (simp [errW_none, errW_some] <;> rfl) | (simp [*, errW_none, errW_some] <;> rfl), by repeat (first | (with_reducible first | exact HB.out | apply below_alloc | apply pw_below_drewN | apply below_drew1) | exact HB.out)⟩
                          · rw [if_neg c50] at H
                            have c50b0 : (t155 == t156) = false := beq_eq_false_iff_ne.mpr c50
                            have c50b1 : (t155 != t156) = true := bne_iff_ne.mpr c50
                            obtain rfl := Option.some.inj H
                            go_wp2_with (first | ((with_reducible refine gate_callee (f := 17) rfl ?_); refine goesL_ (some 100) rfl rfl Try.func17 (by kernel_rfl) rfl #[] rfl (by (try simp only [List.map_toArray, List.map_cons, List.map_nil]); first | done | rfl | (simp only [List.length_drop, List.length_take]; rfl)) ?_; (with_reducible refine (bakelaw3_heard.calls kj38  true _ A46.out).mono ?_); rintro e w57 ⟨rfl, hb⟩; refine ⟨_, rfl, ?_⟩; have n0_ := Aside0.mk (Kd.R_below (by (with_reducible repeat (first | apply Kd.R_alloc | apply Kd.R_drewN | apply Kd.R_drew)); exact HO_11.out) hb); have n1_ := Aside0.mk (Kd.R_below (by (with_reducible repeat (first | apply Kd.R_alloc | apply Kd.R_drewN | apply Kd.R_drew)); exact HO_17.out) hb); have n2_ := Aside0.mk (below_step (by repeat (first | (with_reducible first | exact HB.out | apply below_alloc | apply pw_below_drewN | apply below_drew1) | exact HB.out)) hb); clear HO_11; clear HO_17; clear HB; have HO_11 := n0_; have HO_17 := n1_; have HB := n2_; clear n0_ n1_ n2_; (try clear hb); (try clear hb2); (try clear hk); (try clear hi)) | (go_at_call 21; (with_reducible refine (samp_Check.calls kj38 _ _ l4 t155 _ ?side1 ?side2 A48.out).mono ?_); (case side1 => repeat (first | exact (Kd.C_below HR4.out HB.out) | (with_reducible refine Kd.C_alloc ?_ _) | (with_reducible refine Kd.C_drewN ?_ _) | (with_reducible refine Kd.C_drew ?_))); (case side2 => exact HC4.out); rintro e w' ⟨rfl, ⟨nd, rfl⟩⟩) | (go_at_call 15; (with_reducible refine (bakelaw3_levelFault.calls kj38 _ _ l4 t156 _ ?side1 ?side2 A49.out).mono ?_); (case side1 => repeat (first | exact (Kd.C_below HR4.out (by repeat (first | (with_reducible first | exact HB.out | apply below_alloc | apply pw_below_drewN | apply below_drew1) | exact HB.out))) | (with_reducible refine Kd.C_alloc ?_ _) | (with_reducible refine Kd.C_drewN ?_ _) | (with_reducible refine Kd.C_drew ?_))); (case side2 => exact HC4.out); rintro e w' ⟨rfl, ⟨nd, rfl⟩⟩))
                            go_ret
                            exact ⟨by first | rfl | (simp [errW_none, errW_some] <;> rfl) | (simp [*, errW_none, errW_some] <;> rfl), by repeat (first | (with_reducible first | exact HB.out | apply below_alloc | apply pw_below_drewN | apply below_drew1) | exact HB.out)⟩
                        · replace c47 := Bool.eq_false_iff.mpr c47
                          subst c47
                          have H1 : (some false) = some r := by rw [if_neg (show ¬ (false = true) by decide)] at H; exact H
                          clear H
                          have H := H1
                          clear H1
                          obtain rfl := Option.some.inj H
                          go_wp2_with (first | ((with_reducible refine gate_callee (f := 17) rfl ?_); refine goesL_ (some 100) rfl rfl Try.func17 (by kernel_rfl) rfl #[] rfl (by (try simp only [List.map_toArray, List.map_cons, List.map_nil]); first | done | rfl | (simp only [List.length_drop, List.length_take]; rfl)) ?_; (with_reducible refine (bakelaw3_heard.calls kj38  false _ A46.out).mono ?_); rintro e w58 ⟨rfl, hb⟩; refine ⟨_, rfl, ?_⟩; have n0_ := Aside0.mk (Kd.R_below (by (with_reducible repeat (first | apply Kd.R_alloc | apply Kd.R_drewN | apply Kd.R_drew)); exact HO_11.out) hb); have n1_ := Aside0.mk (Kd.R_below (by (with_reducible repeat (first | apply Kd.R_alloc | apply Kd.R_drewN | apply Kd.R_drew)); exact HO_17.out) hb); have n2_ := Aside0.mk (below_step (by repeat (first | (with_reducible first | exact HB.out | apply below_alloc | apply pw_below_drewN | apply below_drew1) | exact HB.out)) hb); clear HO_11; clear HO_17; clear HB; have HO_11 := n0_; have HO_17 := n1_; have HB := n2_; clear n0_ n1_ n2_; (try clear hb); (try clear hb2); (try clear hk); (try clear hi)))
                          go_ret
                          exact ⟨by first | rfl | (simp [errW_none, errW_some] <;> rfl) | (simp [*, errW_none, errW_some] <;> rfl), by repeat (first | (with_reducible first | exact HB.out | apply below_alloc | apply pw_below_drewN | apply below_drew1) | exact HB.out)⟩

end Go.Proofs.Ytimkpdbghbhkkaa.QS
