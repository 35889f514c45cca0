-- Printed by a program of this session (wip/tools): Lean functions for Go functions, and their contracts.
import Derived.Test.YtimkpdbghbhkkaaQKx0
import Derived.Test.YtimkpdbghbhkkaaQKx3
import Derived.Test.YtimkpdbghbhkkaaQKx4
import Derived.Test.YtimkpdbghbhkkaaQKx7
import Derived.Test.YtimkpdbghbhkkaaQKx8
import Derived.Test.YtimkpdbghbhkkaaQKx10
import Derived.Test.YtimkpdbghbhkkaaQKx11
namespace Go.Proofs.Ytimkpdbghbhkkaa.QK
open Go.RowKit Go.Proofs.YtimkpdbghbhkkaaW.PrintWords Go.Proofs.YtimkpdbghbhkkaaW.PrintLast Go.Proofs.YtimkpdbghbhkkaaW.PrintMore
attribute [local go_sem] max2_int min2_int max_two min_two max_three min_three max_four min_four   -- for this text's walks alone
set_option linter.unusedVariables false
set_option linter.unusedSimpArgs false

/-! ### bakelaw3_KeysJoys: function 5 -/
mutual
def bakelaw3_KeysJoys.l0 : Nat → ByteArray → List (S40) → List (S49) → List Int → List Int → Bool → List (S40) → Int → Int → Option (Bool)
  | 0, _, _, _, _, _, _, _, _, _ => none
  | k + 1, x0, x1, x2, x7, x8, x9, x23, x24, x25 => if x25 < x24 then (if 0 ≤ x25 then (if x25 < (x23.length : Int) then ((some (([(((rd_T40 x23 x25).f1) == (-1)), (((rd_T40 x23 x25).f1) == 1), (((rd_T40 x23 x25).f2) == (-1)), (((rd_T40 x23 x25).f2) == 1), (rd_T40 x23 x25).f3] : List Bool) : List Bool)).bind fun y190 => (bakelaw3_KeysJoys.l1 k x0 x1 x2 x7 x8 x9 0 x23 x24 x25 y190 (y190.length : Int) 0 ((rd_T40 x23 x25).f0) ((rd_T40 x23 x25).f1) ((rd_T40 x23 x25).f2) ((rd_T40 x23 x25).f3))) else (none)) else (none)) else ((bakeref3_TimesFault.f k x7).bind fun t200 => (if t200 = 0 then (bakelaw3_KeysJoys.j2 k x0 x1 x2 x7 x8 t200 (!x9)) else (bakelaw3_KeysJoys.j2 k x0 x1 x2 x7 x8 t200 false)))
def bakelaw3_KeysJoys.l1 : Nat → ByteArray → List (S40) → List (S49) → List Int → List Int → Bool → Int → List (S40) → Int → Int → List Bool → Int → Int → Int → Int → Int → Bool → Option (Bool)
  | 0, _, _, _, _, _, _, _, _, _, _, _, _, _, _, _, _, _ => none
  | k + 1, x0, x1, x2, x7, x8, x9, x12, x23, x24, x25, x43, x44, x45, x190000, x190001, x190002, x190003 => if x45 < x44 then (if 0 ≤ x45 then (if x45 < (x43.length : Int) then (if rdOf false x43 x45 = true then (bakelaw3_KeysJoys.l1 k x0 x1 x2 x7 x8 x9 (wrap64 (x12 + (shl .i64 1 x45))) x23 x24 x25 x43 x44 (wrap64 (x45 + 1)) x190000 x190001 x190002 x190003) else (bakelaw3_KeysJoys.l1 k x0 x1 x2 x7 x8 x9 x12 x23 x24 x25 x43 x44 (wrap64 (x45 + 1)) x190000 x190001 x190002 x190003)) else (none)) else (none)) else (if x7.length < 17592186044416 then ((some (x7 ++ [x190000] : List Int)).bind fun y194 => (if x8.length < 17592186044416 then ((some (x8 ++ [x12] : List Int)).bind fun y197 => (if x9 = true then (if x190001 ≥ (-1) then (if x190001 ≤ 1 then (if x190002 ≥ (-1) then (bakelaw3_KeysJoys.l0 k x0 x1 x2 y194 y197 (decide (x190002 ≤ 1)) x23 x24 (wrap64 (x25 + 1))) else (bakelaw3_KeysJoys.l0 k x0 x1 x2 y194 y197 false x23 x24 (wrap64 (x25 + 1)))) else (bakelaw3_KeysJoys.l0 k x0 x1 x2 y194 y197 false x23 x24 (wrap64 (x25 + 1)))) else (bakelaw3_KeysJoys.l0 k x0 x1 x2 y194 y197 false x23 x24 (wrap64 (x25 + 1)))) else (bakelaw3_KeysJoys.l0 k x0 x1 x2 y194 y197 false x23 x24 (wrap64 (x25 + 1))))) else (none))) else (none))
def bakelaw3_KeysJoys.j2 : Nat → ByteArray → List (S40) → List (S49) → List Int → List Int → Int → Bool → Option (Bool)
  | 0, _, _, _, _, _, _, _ => none
  | k + 1, x0, x1, x2, x7, x8, x15, x94 => if x94 = true then (bakelaw3_KeysJoys.j3 k x0 x1 x2 x7 x8 1) else (bakelaw3_KeysJoys.j3 k x0 x1 x2 x7 x8 x15)
def bakelaw3_KeysJoys.j3 : Nat → ByteArray → List (S40) → List (S49) → List Int → List Int → Int → Option (Bool)
  | 0, _, _, _, _, _, _ => none
  | k + 1, x0, x1, x2, x7, x8, x15 => if x15 = 0 then ((bakeref3_Lined.f k x0 x7 x8).bind fun t201 => (bakelaw3_KeysJoys.j4 k x0 x1 x2 x15 t201)) else (bakelaw3_KeysJoys.j4 k x0 x1 x2 x15 ([] : List (S47)))
def bakelaw3_KeysJoys.j4 : Nat → ByteArray → List (S40) → List (S49) → Int → List (S47) → Option (Bool)
  | 0, _, _, _, _, _ => none
  | k + 1, x0, x1, x2, x15, x16 => (keys_Joy.f k x0 x1).bind fun bt204 => ((bakelaw3_typed.f k).bind fun t208 => (if t208 = true then (if bt204.2 = x15 then ((api_Input.f k bt204.1 x16).bind fun t209 => (bakelaw3_KeysJoys.j5 k x0 x2 (!t209))) else (bakelaw3_KeysJoys.j5 k x0 x2 true)) else (bakelaw3_KeysJoys.j5 k x0 x2 true)))
def bakelaw3_KeysJoys.j5 : Nat → ByteArray → List (S49) → Bool → Option (Bool)
  | 0, _, _, _ => none
  | k + 1, x0, x2, x119 => if x119 = true then (some false) else (if (x2.length : Int) > 500 then (bakelaw3_KeysJoys.j6 k x0 x2 2 ([] : List (S47))) else (bakelaw3_KeysJoys.j6 k x0 x2 0 ([] : List (S47))))
def bakelaw3_KeysJoys.j6 : Nat → ByteArray → List (S49) → Int → List (S47) → Option (Bool)
  | 0, _, _, _, _ => none
  | k + 1, x0, x2, x15, x16 => bakelaw3_KeysJoys.l2 k x0 x2 x15 x16 (-1) x2 (x2.length : Int) 0
def bakelaw3_KeysJoys.l2 : Nat → ByteArray → List (S49) → Int → List (S47) → Int → List (S49) → Int → Int → Option (Bool)
  | 0, _, _, _, _, _, _, _, _ => none
  | k + 1, x0, x2, x15, x16, x19, x123, x124, x125 => if x125 < x124 then (if 0 ≤ x125 then (if x125 < (x123.length : Int) then (if x15 = 0 then (if ((rd_T49 x123 x125).f1) < 0 then (bakelaw3_KeysJoys.j8 k x0 x2 x15 x16 x19 x123 x124 x125 true ((rd_T49 x123 x125).f0) ((rd_T49 x123 x125).f1) ((rd_T49 x123 x125).f2)) else (if ((rd_T49 x123 x125).f1) > 47 then (bakelaw3_KeysJoys.j8 k x0 x2 x15 x16 x19 x123 x124 x125 true ((rd_T49 x123 x125).f0) ((rd_T49 x123 x125).f1) ((rd_T49 x123 x125).f2)) else (if ((rd_T49 x123 x125).f2) < 0 then (bakelaw3_KeysJoys.j8 k x0 x2 x15 x16 x19 x123 x124 x125 true ((rd_T49 x123 x125).f0) ((rd_T49 x123 x125).f1) ((rd_T49 x123 x125).f2)) else (if ((rd_T49 x123 x125).f2) > 31 then (bakelaw3_KeysJoys.j8 k x0 x2 x15 x16 x19 x123 x124 x125 true ((rd_T49 x123 x125).f0) ((rd_T49 x123 x125).f1) ((rd_T49 x123 x125).f2)) else (if ((rd_T49 x123 x125).f0) < 0 then (bakelaw3_KeysJoys.j8 k x0 x2 x15 x16 x19 x123 x124 x125 true ((rd_T49 x123 x125).f0) ((rd_T49 x123 x125).f1) ((rd_T49 x123 x125).f2)) else (bakelaw3_KeysJoys.j8 k x0 x2 x15 x16 x19 x123 x124 x125 (decide (((rd_T49 x123 x125).f0) > 39)) ((rd_T49 x123 x125).f0) ((rd_T49 x123 x125).f1) ((rd_T49 x123 x125).f2))))))) else ((some (([(⟨wrap64 (((rd_T49 x123 x125).f1) + (wrap64 (64 * (wrap64 (((rd_T49 x123 x125).f2) + (40 * (mx 0 (mn ((rd_T49 x123 x125).f0) 39)))))))), x0, 128⟩ : S47), (⟨wrap64 ((wrap64 (((rd_T49 x123 x125).f1) + (wrap64 (64 * (wrap64 (((rd_T49 x123 x125).f2) + (40 * (mx 0 (mn ((rd_T49 x123 x125).f0) 39))))))))) + 1), x0, 0⟩ : S47)] : List (S47)) : List (S47))).bind fun y230 => (if x16.length + y230.length < 4398046511104 then (bakelaw3_KeysJoys.l2 k x0 x2 x15 (x16 ++ y230) ((rd_T49 x123 x125).f0) x123 x124 (wrap64 (x125 + 1))) else (none)))) else (none)) else (none)) else (if x15 = 0 then ((keys_Pens.f k x0 x2).bind fun bt236 => (if bt236.2 = x15 then ((api_Input.f k bt236.1 x16).bind fun t240 => (some t240)) else (some false))) else ((keys_Pens.f k x0 x2).bind fun bt241 => (if bt241.2 = x15 then ((api_Input.f k bt241.1 ([] : List (S47))).bind fun t245 => (some t245)) else (some false))))
def bakelaw3_KeysJoys.j8 : Nat → ByteArray → List (S49) → Int → List (S47) → Int → List (S49) → Int → Int → Bool → Int → Int → Int → Option (Bool)
  | 0, _, _, _, _, _, _, _, _, _, _, _, _ => none
  | k + 1, x0, x2, x15, x16, x19, x123, x124, x125, x132, x212000, x212001, x212002 => if x132 = true then ((some (([(⟨wrap64 (x212001 + (wrap64 (64 * (wrap64 (x212002 + (40 * (mx 0 (mn x212000 39)))))))), x0, 128⟩ : S47), (⟨wrap64 ((wrap64 (x212001 + (wrap64 (64 * (wrap64 (x212002 + (40 * (mx 0 (mn x212000 39))))))))) + 1), x0, 0⟩ : S47)] : List (S47)) : List (S47))).bind fun y212 => (if x16.length + y212.length < 4398046511104 then (bakelaw3_KeysJoys.l2 k x0 x2 1 (x16 ++ y212) x212000 x123 x124 (wrap64 (x125 + 1))) else (none))) else (if x212000 ≤ x19 then ((some (([(⟨wrap64 (x212001 + (wrap64 (64 * (wrap64 (x212002 + (40 * (mx 0 (mn x212000 39)))))))), x0, 128⟩ : S47), (⟨wrap64 ((wrap64 (x212001 + (wrap64 (64 * (wrap64 (x212002 + (40 * (mx 0 (mn x212000 39))))))))) + 1), x0, 0⟩ : S47)] : List (S47)) : List (S47))).bind fun y218 => (if x16.length + y218.length < 4398046511104 then (bakelaw3_KeysJoys.l2 k x0 x2 9 (x16 ++ y218) x212000 x123 x124 (wrap64 (x125 + 1))) else (none))) else ((some (([(⟨wrap64 (x212001 + (wrap64 (64 * (wrap64 (x212002 + (40 * (mx 0 (mn x212000 39)))))))), x0, 128⟩ : S47), (⟨wrap64 ((wrap64 (x212001 + (wrap64 (64 * (wrap64 (x212002 + (40 * (mx 0 (mn x212000 39))))))))) + 1), x0, 0⟩ : S47)] : List (S47)) : List (S47))).bind fun y224 => (if x16.length + y224.length < 4398046511104 then (bakelaw3_KeysJoys.l2 k x0 x2 x15 (x16 ++ y224) x212000 x123 x124 (wrap64 (x125 + 1))) else (none))))
end
def bakelaw3_KeysJoys.f (k : Nat) (a0 : ByteArray) (l1 : List (S40)) (l2 : List (S49)) : Option (Bool) := bakelaw3_KeysJoys.l0 k a0 l1 l2 ([] : List Int) ([] : List Int) true l1 (l1.length : Int) 0
theorem bakelaw3_KeysJoys.mono_l : ∀ k, (∀ y0 y1 y2 y3 y4 y5 y6 y7 y8, LeO (bakelaw3_KeysJoys.l0 k y0 y1 y2 y3 y4 y5 y6 y7 y8) (bakelaw3_KeysJoys.l0 (k + 1) y0 y1 y2 y3 y4 y5 y6 y7 y8)) ∧ (∀ y0 y1 y2 y3 y4 y5 y6 y7 y8 y9 y10 y11 y12 y13 y14 y15 y16, LeO (bakelaw3_KeysJoys.l1 k y0 y1 y2 y3 y4 y5 y6 y7 y8 y9 y10 y11 y12 y13 y14 y15 y16) (bakelaw3_KeysJoys.l1 (k + 1) y0 y1 y2 y3 y4 y5 y6 y7 y8 y9 y10 y11 y12 y13 y14 y15 y16)) ∧ (∀ y0 y1 y2 y3 y4 y5 y6, LeO (bakelaw3_KeysJoys.j2 k y0 y1 y2 y3 y4 y5 y6) (bakelaw3_KeysJoys.j2 (k + 1) y0 y1 y2 y3 y4 y5 y6)) ∧ (∀ y0 y1 y2 y3 y4 y5, LeO (bakelaw3_KeysJoys.j3 k y0 y1 y2 y3 y4 y5) (bakelaw3_KeysJoys.j3 (k + 1) y0 y1 y2 y3 y4 y5)) ∧ (∀ y0 y1 y2 y3 y4, LeO (bakelaw3_KeysJoys.j4 k y0 y1 y2 y3 y4) (bakelaw3_KeysJoys.j4 (k + 1) y0 y1 y2 y3 y4)) ∧ (∀ y0 y1 y2, LeO (bakelaw3_KeysJoys.j5 k y0 y1 y2) (bakelaw3_KeysJoys.j5 (k + 1) y0 y1 y2)) ∧ (∀ y0 y1 y2 y3, LeO (bakelaw3_KeysJoys.j6 k y0 y1 y2 y3) (bakelaw3_KeysJoys.j6 (k + 1) y0 y1 y2 y3)) ∧ (∀ y0 y1 y2 y3 y4 y5 y6 y7, LeO (bakelaw3_KeysJoys.l2 k y0 y1 y2 y3 y4 y5 y6 y7) (bakelaw3_KeysJoys.l2 (k + 1) y0 y1 y2 y3 y4 y5 y6 y7)) ∧ (∀ y0 y1 y2 y3 y4 y5 y6 y7 y8 y9 y10 y11, LeO (bakelaw3_KeysJoys.j8 k y0 y1 y2 y3 y4 y5 y6 y7 y8 y9 y10 y11) (bakelaw3_KeysJoys.j8 (k + 1) y0 y1 y2 y3 y4 y5 y6 y7 y8 y9 y10 y11))
  | 0 => ⟨fun _ _ _ _ _ _ _ _ _ r h => by simp [bakelaw3_KeysJoys.l0] at h, fun _ _ _ _ _ _ _ _ _ _ _ _ _ _ _ _ _ r h => by simp [bakelaw3_KeysJoys.l1] at h, fun _ _ _ _ _ _ _ r h => by simp [bakelaw3_KeysJoys.j2] at h, fun _ _ _ _ _ _ r h => by simp [bakelaw3_KeysJoys.j3] at h, fun _ _ _ _ _ r h => by simp [bakelaw3_KeysJoys.j4] at h, fun _ _ _ r h => by simp [bakelaw3_KeysJoys.j5] at h, fun _ _ _ _ r h => by simp [bakelaw3_KeysJoys.j6] at h, fun _ _ _ _ _ _ _ _ r h => by simp [bakelaw3_KeysJoys.l2] at h, fun _ _ _ _ _ _ _ _ _ _ _ _ r h => by simp [bakelaw3_KeysJoys.j8] at h⟩
  | k + 1 => by
    obtain ⟨ih0, ih1, ih2, ih3, ih4, ih5, ih6, ih7, ih8⟩ := bakelaw3_KeysJoys.mono_l k
    refine ⟨?_, ?_, ?_, ?_, ?_, ?_, ?_, ?_, ?_⟩
    · intro y0 y1 y2 y3 y4 y5 y6 y7 y8
      unfold bakelaw3_KeysJoys.l0
      repeat' first
      | (with_reducible exact ih0 _ _ _ _ _ _ _ _ _)
      | (with_reducible exact ih1 _ _ _ _ _ _ _ _ _ _ _ _ _ _ _ _ _)
      | (with_reducible exact ih2 _ _ _ _ _ _ _)
      | (with_reducible exact ih3 _ _ _ _ _ _)
      | (with_reducible exact ih4 _ _ _ _ _)
      | (with_reducible exact ih5 _ _ _)
      | (with_reducible exact ih6 _ _ _ _)
      | (with_reducible exact ih7 _ _ _ _ _ _ _ _)
      | (with_reducible exact ih8 _ _ _ _ _ _ _ _ _ _ _ _)
      | (with_reducible exact api_Input.mono _ _ _)
      | (with_reducible exact bakelaw3_typed.mono _)
      | (with_reducible exact bakeref3_Lined.mono _ _ _ _)
      | (with_reducible exact bakeref3_TimesFault.mono _ _)
      | (with_reducible exact keys_Joy.mono _ _ _)
      | (with_reducible exact keys_Pens.mono _ _ _)
      | (with_reducible exact LeO.refl _)
      | (with_reducible exact LeO.none _)
      | (with_reducible refine LeO.ite ?_ ?_)
      | (with_reducible refine LeO.bind ?_ (fun _ => ?_))
      | exact ih0 _ _ _ _ _ _ _ _ _
      | exact ih1 _ _ _ _ _ _ _ _ _ _ _ _ _ _ _ _ _
      | exact ih2 _ _ _ _ _ _ _
      | exact ih3 _ _ _ _ _ _
      | exact ih4 _ _ _ _ _
      | exact ih5 _ _ _
      | exact ih6 _ _ _ _
      | exact ih7 _ _ _ _ _ _ _ _
      | exact ih8 _ _ _ _ _ _ _ _ _ _ _ _
      | exact api_Input.mono _ _ _
      | exact bakelaw3_typed.mono _
      | exact bakeref3_Lined.mono _ _ _ _
      | exact bakeref3_TimesFault.mono _ _
      | exact keys_Joy.mono _ _ _
      | exact keys_Pens.mono _ _ _
      | exact LeO.none _
      | refine LeO.ite ?_ ?_
      | refine LeO.bind ?_ (fun _ => ?_)
    · intro y0 y1 y2 y3 y4 y5 y6 y7 y8 y9 y10 y11 y12 y13 y14 y15 y16
      unfold bakelaw3_KeysJoys.l1
      repeat' first
      | (with_reducible exact ih0 _ _ _ _ _ _ _ _ _)
      | (with_reducible exact ih1 _ _ _ _ _ _ _ _ _ _ _ _ _ _ _ _ _)
      | (with_reducible exact ih2 _ _ _ _ _ _ _)
      | (with_reducible exact ih3 _ _ _ _ _ _)
      | (with_reducible exact ih4 _ _ _ _ _)
      | (with_reducible exact ih5 _ _ _)
      | (with_reducible exact ih6 _ _ _ _)
      | (with_reducible exact ih7 _ _ _ _ _ _ _ _)
      | (with_reducible exact ih8 _ _ _ _ _ _ _ _ _ _ _ _)
      | (with_reducible exact api_Input.mono _ _ _)
      | (with_reducible exact bakelaw3_typed.mono _)
      | (with_reducible exact bakeref3_Lined.mono _ _ _ _)
      | (with_reducible exact bakeref3_TimesFault.mono _ _)
      | (with_reducible exact keys_Joy.mono _ _ _)
      | (with_reducible exact keys_Pens.mono _ _ _)
      | (with_reducible exact LeO.refl _)
      | (with_reducible exact LeO.none _)
      | (with_reducible refine LeO.ite ?_ ?_)
      | (with_reducible refine LeO.bind ?_ (fun _ => ?_))
      | exact ih0 _ _ _ _ _ _ _ _ _
      | exact ih1 _ _ _ _ _ _ _ _ _ _ _ _ _ _ _ _ _
      | exact ih2 _ _ _ _ _ _ _
      | exact ih3 _ _ _ _ _ _
      | exact ih4 _ _ _ _ _
      | exact ih5 _ _ _
      | exact ih6 _ _ _ _
      | exact ih7 _ _ _ _ _ _ _ _
      | exact ih8 _ _ _ _ _ _ _ _ _ _ _ _
      | exact api_Input.mono _ _ _
      | exact bakelaw3_typed.mono _
      | exact bakeref3_Lined.mono _ _ _ _
      | exact bakeref3_TimesFault.mono _ _
      | exact keys_Joy.mono _ _ _
      | exact keys_Pens.mono _ _ _
      | exact LeO.none _
      | refine LeO.ite ?_ ?_
      | refine LeO.bind ?_ (fun _ => ?_)
    · intro y0 y1 y2 y3 y4 y5 y6
      unfold bakelaw3_KeysJoys.j2
      repeat' first
      | (with_reducible exact ih0 _ _ _ _ _ _ _ _ _)
      | (with_reducible exact ih1 _ _ _ _ _ _ _ _ _ _ _ _ _ _ _ _ _)
      | (with_reducible exact ih2 _ _ _ _ _ _ _)
      | (with_reducible exact ih3 _ _ _ _ _ _)
      | (with_reducible exact ih4 _ _ _ _ _)
      | (with_reducible exact ih5 _ _ _)
      | (with_reducible exact ih6 _ _ _ _)
      | (with_reducible exact ih7 _ _ _ _ _ _ _ _)
      | (with_reducible exact ih8 _ _ _ _ _ _ _ _ _ _ _ _)
      | (with_reducible exact api_Input.mono _ _ _)
      | (with_reducible exact bakelaw3_typed.mono _)
      | (with_reducible exact bakeref3_Lined.mono _ _ _ _)
      | (with_reducible exact bakeref3_TimesFault.mono _ _)
      | (with_reducible exact keys_Joy.mono _ _ _)
      | (with_reducible exact keys_Pens.mono _ _ _)
      | (with_reducible exact LeO.refl _)
      | (with_reducible exact LeO.none _)
      | (with_reducible refine LeO.ite ?_ ?_)
      | (with_reducible refine LeO.bind ?_ (fun _ => ?_))
      | exact ih0 _ _ _ _ _ _ _ _ _
      | exact ih1 _ _ _ _ _ _ _ _ _ _ _ _ _ _ _ _ _
      | exact ih2 _ _ _ _ _ _ _
      | exact ih3 _ _ _ _ _ _
      | exact ih4 _ _ _ _ _
      | exact ih5 _ _ _
      | exact ih6 _ _ _ _
      | exact ih7 _ _ _ _ _ _ _ _
      | exact ih8 _ _ _ _ _ _ _ _ _ _ _ _
      | exact api_Input.mono _ _ _
      | exact bakelaw3_typed.mono _
      | exact bakeref3_Lined.mono _ _ _ _
      | exact bakeref3_TimesFault.mono _ _
      | exact keys_Joy.mono _ _ _
      | exact keys_Pens.mono _ _ _
      | exact LeO.none _
      | refine LeO.ite ?_ ?_
      | refine LeO.bind ?_ (fun _ => ?_)
    · intro y0 y1 y2 y3 y4 y5
      unfold bakelaw3_KeysJoys.j3
      repeat' first
      | (with_reducible exact ih0 _ _ _ _ _ _ _ _ _)
      | (with_reducible exact ih1 _ _ _ _ _ _ _ _ _ _ _ _ _ _ _ _ _)
      | (with_reducible exact ih2 _ _ _ _ _ _ _)
      | (with_reducible exact ih3 _ _ _ _ _ _)
      | (with_reducible exact ih4 _ _ _ _ _)
      | (with_reducible exact ih5 _ _ _)
      | (with_reducible exact ih6 _ _ _ _)
      | (with_reducible exact ih7 _ _ _ _ _ _ _ _)
      | (with_reducible exact ih8 _ _ _ _ _ _ _ _ _ _ _ _)
      | (with_reducible exact api_Input.mono _ _ _)
      | (with_reducible exact bakelaw3_typed.mono _)
      | (with_reducible exact bakeref3_Lined.mono _ _ _ _)
      | (with_reducible exact bakeref3_TimesFault.mono _ _)
      | (with_reducible exact keys_Joy.mono _ _ _)
      | (with_reducible exact keys_Pens.mono _ _ _)
      | (with_reducible exact LeO.refl _)
      | (with_reducible exact LeO.none _)
      | (with_reducible refine LeO.ite ?_ ?_)
      | (with_reducible refine LeO.bind ?_ (fun _ => ?_))
      | exact ih0 _ _ _ _ _ _ _ _ _
      | exact ih1 _ _ _ _ _ _ _ _ _ _ _ _ _ _ _ _ _
      | exact ih2 _ _ _ _ _ _ _
      | exact ih3 _ _ _ _ _ _
      | exact ih4 _ _ _ _ _
      | exact ih5 _ _ _
      | exact ih6 _ _ _ _
      | exact ih7 _ _ _ _ _ _ _ _
      | exact ih8 _ _ _ _ _ _ _ _ _ _ _ _
      | exact api_Input.mono _ _ _
      | exact bakelaw3_typed.mono _
      | exact bakeref3_Lined.mono _ _ _ _
      | exact bakeref3_TimesFault.mono _ _
      | exact keys_Joy.mono _ _ _
      | exact keys_Pens.mono _ _ _
      | exact LeO.none _
      | refine LeO.ite ?_ ?_
      | refine LeO.bind ?_ (fun _ => ?_)
    · intro y0 y1 y2 y3 y4
      unfold bakelaw3_KeysJoys.j4
      repeat' first
      | (with_reducible exact ih0 _ _ _ _ _ _ _ _ _)
      | (with_reducible exact ih1 _ _ _ _ _ _ _ _ _ _ _ _ _ _ _ _ _)
      | (with_reducible exact ih2 _ _ _ _ _ _ _)
      | (with_reducible exact ih3 _ _ _ _ _ _)
      | (with_reducible exact ih4 _ _ _ _ _)
      | (with_reducible exact ih5 _ _ _)
      | (with_reducible exact ih6 _ _ _ _)
      | (with_reducible exact ih7 _ _ _ _ _ _ _ _)
      | (with_reducible exact ih8 _ _ _ _ _ _ _ _ _ _ _ _)
      | (with_reducible exact api_Input.mono _ _ _)
      | (with_reducible exact bakelaw3_typed.mono _)
      | (with_reducible exact bakeref3_Lined.mono _ _ _ _)
      | (with_reducible exact bakeref3_TimesFault.mono _ _)
      | (with_reducible exact keys_Joy.mono _ _ _)
      | (with_reducible exact keys_Pens.mono _ _ _)
      | (with_reducible exact LeO.refl _)
      | (with_reducible exact LeO.none _)
      | (with_reducible refine LeO.ite ?_ ?_)
      | (with_reducible refine LeO.bind ?_ (fun _ => ?_))
      | exact ih0 _ _ _ _ _ _ _ _ _
      | exact ih1 _ _ _ _ _ _ _ _ _ _ _ _ _ _ _ _ _
      | exact ih2 _ _ _ _ _ _ _
      | exact ih3 _ _ _ _ _ _
      | exact ih4 _ _ _ _ _
      | exact ih5 _ _ _
      | exact ih6 _ _ _ _
      | exact ih7 _ _ _ _ _ _ _ _
      | exact ih8 _ _ _ _ _ _ _ _ _ _ _ _
      | exact api_Input.mono _ _ _
      | exact bakelaw3_typed.mono _
      | exact bakeref3_Lined.mono _ _ _ _
      | exact bakeref3_TimesFault.mono _ _
      | exact keys_Joy.mono _ _ _
      | exact keys_Pens.mono _ _ _
      | exact LeO.none _
      | refine LeO.ite ?_ ?_
      | refine LeO.bind ?_ (fun _ => ?_)
    · intro y0 y1 y2
      unfold bakelaw3_KeysJoys.j5
      repeat' first
      | (with_reducible exact ih0 _ _ _ _ _ _ _ _ _)
      | (with_reducible exact ih1 _ _ _ _ _ _ _ _ _ _ _ _ _ _ _ _ _)
      | (with_reducible exact ih2 _ _ _ _ _ _ _)
      | (with_reducible exact ih3 _ _ _ _ _ _)
      | (with_reducible exact ih4 _ _ _ _ _)
      | (with_reducible exact ih5 _ _ _)
      | (with_reducible exact ih6 _ _ _ _)
      | (with_reducible exact ih7 _ _ _ _ _ _ _ _)
      | (with_reducible exact ih8 _ _ _ _ _ _ _ _ _ _ _ _)
      | (with_reducible exact api_Input.mono _ _ _)
      | (with_reducible exact bakelaw3_typed.mono _)
      | (with_reducible exact bakeref3_Lined.mono _ _ _ _)
      | (with_reducible exact bakeref3_TimesFault.mono _ _)
      | (with_reducible exact keys_Joy.mono _ _ _)
      | (with_reducible exact keys_Pens.mono _ _ _)
      | (with_reducible exact LeO.refl _)
      | (with_reducible exact LeO.none _)
      | (with_reducible refine LeO.ite ?_ ?_)
      | (with_reducible refine LeO.bind ?_ (fun _ => ?_))
      | exact ih0 _ _ _ _ _ _ _ _ _
      | exact ih1 _ _ _ _ _ _ _ _ _ _ _ _ _ _ _ _ _
      | exact ih2 _ _ _ _ _ _ _
      | exact ih3 _ _ _ _ _ _
      | exact ih4 _ _ _ _ _
      | exact ih5 _ _ _
      | exact ih6 _ _ _ _
      | exact ih7 _ _ _ _ _ _ _ _
      | exact ih8 _ _ _ _ _ _ _ _ _ _ _ _
      | exact api_Input.mono _ _ _
      | exact bakelaw3_typed.mono _
      | exact bakeref3_Lined.mono _ _ _ _
      | exact bakeref3_TimesFault.mono _ _
      | exact keys_Joy.mono _ _ _
      | exact keys_Pens.mono _ _ _
      | exact LeO.none _
      | refine LeO.ite ?_ ?_
      | refine LeO.bind ?_ (fun _ => ?_)
    · intro y0 y1 y2 y3
      unfold bakelaw3_KeysJoys.j6
      repeat' first
      | (with_reducible exact ih0 _ _ _ _ _ _ _ _ _)
      | (with_reducible exact ih1 _ _ _ _ _ _ _ _ _ _ _ _ _ _ _ _ _)
      | (with_reducible exact ih2 _ _ _ _ _ _ _)
      | (with_reducible exact ih3 _ _ _ _ _ _)
      | (with_reducible exact ih4 _ _ _ _ _)
      | (with_reducible exact ih5 _ _ _)
      | (with_reducible exact ih6 _ _ _ _)
      | (with_reducible exact ih7 _ _ _ _ _ _ _ _)
      | (with_reducible exact ih8 _ _ _ _ _ _ _ _ _ _ _ _)
      | (with_reducible exact api_Input.mono _ _ _)
      | (with_reducible exact bakelaw3_typed.mono _)
      | (with_reducible exact bakeref3_Lined.mono _ _ _ _)
      | (with_reducible exact bakeref3_TimesFault.mono _ _)
      | (with_reducible exact keys_Joy.mono _ _ _)
      | (with_reducible exact keys_Pens.mono _ _ _)
      | (with_reducible exact LeO.refl _)
      | (with_reducible exact LeO.none _)
      | (with_reducible refine LeO.ite ?_ ?_)
      | (with_reducible refine LeO.bind ?_ (fun _ => ?_))
      | exact ih0 _ _ _ _ _ _ _ _ _
      | exact ih1 _ _ _ _ _ _ _ _ _ _ _ _ _ _ _ _ _
      | exact ih2 _ _ _ _ _ _ _
      | exact ih3 _ _ _ _ _ _
      | exact ih4 _ _ _ _ _
      | exact ih5 _ _ _
      | exact ih6 _ _ _ _
      | exact ih7 _ _ _ _ _ _ _ _
      | exact ih8 _ _ _ _ _ _ _ _ _ _ _ _
      | exact api_Input.mono _ _ _
      | exact bakelaw3_typed.mono _
      | exact bakeref3_Lined.mono _ _ _ _
      | exact bakeref3_TimesFault.mono _ _
      | exact keys_Joy.mono _ _ _
      | exact keys_Pens.mono _ _ _
      | exact LeO.none _
      | refine LeO.ite ?_ ?_
      | refine LeO.bind ?_ (fun _ => ?_)
    · intro y0 y1 y2 y3 y4 y5 y6 y7
      unfold bakelaw3_KeysJoys.l2
      repeat' first
      | (with_reducible exact ih0 _ _ _ _ _ _ _ _ _)
      | (with_reducible exact ih1 _ _ _ _ _ _ _ _ _ _ _ _ _ _ _ _ _)
      | (with_reducible exact ih2 _ _ _ _ _ _ _)
      | (with_reducible exact ih3 _ _ _ _ _ _)
      | (with_reducible exact ih4 _ _ _ _ _)
      | (with_reducible exact ih5 _ _ _)
      | (with_reducible exact ih6 _ _ _ _)
      | (with_reducible exact ih7 _ _ _ _ _ _ _ _)
      | (with_reducible exact ih8 _ _ _ _ _ _ _ _ _ _ _ _)
      | (with_reducible exact api_Input.mono _ _ _)
      | (with_reducible exact bakelaw3_typed.mono _)
      | (with_reducible exact bakeref3_Lined.mono _ _ _ _)
      | (with_reducible exact bakeref3_TimesFault.mono _ _)
      | (with_reducible exact keys_Joy.mono _ _ _)
      | (with_reducible exact keys_Pens.mono _ _ _)
      | (with_reducible exact LeO.refl _)
      | (with_reducible exact LeO.none _)
      | (with_reducible refine LeO.ite ?_ ?_)
      | (with_reducible refine LeO.bind ?_ (fun _ => ?_))
      | exact ih0 _ _ _ _ _ _ _ _ _
      | exact ih1 _ _ _ _ _ _ _ _ _ _ _ _ _ _ _ _ _
      | exact ih2 _ _ _ _ _ _ _
      | exact ih3 _ _ _ _ _ _
      | exact ih4 _ _ _ _ _
      | exact ih5 _ _ _
      | exact ih6 _ _ _ _
      | exact ih7 _ _ _ _ _ _ _ _
      | exact ih8 _ _ _ _ _ _ _ _ _ _ _ _
      | exact api_Input.mono _ _ _
      | exact bakelaw3_typed.mono _
      | exact bakeref3_Lined.mono _ _ _ _
      | exact bakeref3_TimesFault.mono _ _
      | exact keys_Joy.mono _ _ _
      | exact keys_Pens.mono _ _ _
      | exact LeO.none _
      | refine LeO.ite ?_ ?_
      | refine LeO.bind ?_ (fun _ => ?_)
    · intro y0 y1 y2 y3 y4 y5 y6 y7 y8 y9 y10 y11
      unfold bakelaw3_KeysJoys.j8
      repeat' first
      | (with_reducible exact ih0 _ _ _ _ _ _ _ _ _)
      | (with_reducible exact ih1 _ _ _ _ _ _ _ _ _ _ _ _ _ _ _ _ _)
      | (with_reducible exact ih2 _ _ _ _ _ _ _)
      | (with_reducible exact ih3 _ _ _ _ _ _)
      | (with_reducible exact ih4 _ _ _ _ _)
      | (with_reducible exact ih5 _ _ _)
      | (with_reducible exact ih6 _ _ _ _)
      | (with_reducible exact ih7 _ _ _ _ _ _ _ _)
      | (with_reducible exact ih8 _ _ _ _ _ _ _ _ _ _ _ _)
      | (with_reducible exact api_Input.mono _ _ _)
      | (with_reducible exact bakelaw3_typed.mono _)
      | (with_reducible exact bakeref3_Lined.mono _ _ _ _)
      | (with_reducible exact bakeref3_TimesFault.mono _ _)
      | (with_reducible exact keys_Joy.mono _ _ _)
      | (with_reducible exact keys_Pens.mono _ _ _)
      | (with_reducible exact LeO.refl _)
      | (with_reducible exact LeO.none _)
      | (with_reducible refine LeO.ite ?_ ?_)
      | (with_reducible refine LeO.bind ?_ (fun _ => ?_))
      | exact ih0 _ _ _ _ _ _ _ _ _
      | exact ih1 _ _ _ _ _ _ _ _ _ _ _ _ _ _ _ _ _
      | exact ih2 _ _ _ _ _ _ _
      | exact ih3 _ _ _ _ _ _
      | exact ih4 _ _ _ _ _
      | exact ih5 _ _ _
      | exact ih6 _ _ _ _
      | exact ih7 _ _ _ _ _ _ _ _
      | exact ih8 _ _ _ _ _ _ _ _ _ _ _ _
      | exact api_Input.mono _ _ _
      | exact bakelaw3_typed.mono _
      | exact bakeref3_Lined.mono _ _ _ _
      | exact bakeref3_TimesFault.mono _ _
      | exact keys_Joy.mono _ _ _
      | exact keys_Pens.mono _ _ _
      | exact LeO.none _
      | refine LeO.ite ?_ ?_
      | refine LeO.bind ?_ (fun _ => ?_)
theorem bakelaw3_KeysJoys.mono : ∀ a0 a1 a2 k, LeO (bakelaw3_KeysJoys.f k a0 a1 a2) (bakelaw3_KeysJoys.f (k + 1) a0 a1 a2) := by
  intro a0 a1 a2 k
  obtain ⟨ih0, ih1, ih2, ih3, ih4, ih5, ih6, ih7, ih8⟩ := bakelaw3_KeysJoys.mono_l k
  unfold bakelaw3_KeysJoys.f
  repeat' first
      | (with_reducible exact ih0 _ _ _ _ _ _ _ _ _)
      | (with_reducible exact ih1 _ _ _ _ _ _ _ _ _ _ _ _ _ _ _ _ _)
      | (with_reducible exact ih2 _ _ _ _ _ _ _)
      | (with_reducible exact ih3 _ _ _ _ _ _)
      | (with_reducible exact ih4 _ _ _ _ _)
      | (with_reducible exact ih5 _ _ _)
      | (with_reducible exact ih6 _ _ _ _)
      | (with_reducible exact ih7 _ _ _ _ _ _ _ _)
      | (with_reducible exact ih8 _ _ _ _ _ _ _ _ _ _ _ _)
      | (with_reducible exact api_Input.mono _ _ _)
      | (with_reducible exact bakelaw3_typed.mono _)
      | (with_reducible exact bakeref3_Lined.mono _ _ _ _)
      | (with_reducible exact bakeref3_TimesFault.mono _ _)
      | (with_reducible exact keys_Joy.mono _ _ _)
      | (with_reducible exact keys_Pens.mono _ _ _)
      | (with_reducible exact LeO.refl _)
      | (with_reducible exact LeO.none _)
      | (with_reducible refine LeO.ite ?_ ?_)
      | (with_reducible refine LeO.bind ?_ (fun _ => ?_))
      | exact ih0 _ _ _ _ _ _ _ _ _
      | exact ih1 _ _ _ _ _ _ _ _ _ _ _ _ _ _ _ _ _
      | exact ih2 _ _ _ _ _ _ _
      | exact ih3 _ _ _ _ _ _
      | exact ih4 _ _ _ _ _
      | exact ih5 _ _ _
      | exact ih6 _ _ _ _
      | exact ih7 _ _ _ _ _ _ _ _
      | exact ih8 _ _ _ _ _ _ _ _ _ _ _ _
      | exact api_Input.mono _ _ _
      | exact bakelaw3_typed.mono _
      | exact bakeref3_Lined.mono _ _ _ _
      | exact bakeref3_TimesFault.mono _ _
      | exact keys_Joy.mono _ _ _
      | exact keys_Pens.mono _ _ _
      | exact LeO.none _
      | refine LeO.ite ?_ ?_
      | refine LeO.bind ?_ (fun _ => ?_)
set_option maxHeartbeats 8000000 in
set_option maxRecDepth 100000 in
theorem bakelaw3_KeysJoys.calls (k : Nat) (a0 : ByteArray) (A1 : Option Addr) (c1 : Nat) (l1 : List (S40)) (A2 : Option Addr) (c2 : Nat) (l2 : List (S49)) (r : Bool) (w : World) (hr1 : Kd.C k40 w A1 l1.length l1) (hc1 : l1.length ≤ c1) (hr2 : Kd.C k49 w A2 l2.length l2) (hc2 : l2.length ≤ c2) (h : bakelaw3_KeysJoys.f k a0 l1 l2 = some r) :
    Calls Try.prog 5 #[.string a0, .slice A1 l1.length c1, .slice A2 l2.length c2] w fun e w' => e = .returned (.bool r) ∧ Below w.heap.size w w' := by
  have hu40 := Try.underlying40
  have hu49 := Try.underlying49
  have hu47 := Try.underlying47
  have HR1 := Aside0.mk hr1
  have HC1 := Aside0.mk hc1
  clear hr1 hc1
  have HR2 := Aside0.mk hr2
  have HC2 := Aside0.mk hc2
  clear hr2 hc2
  have HB := Aside0.mk (Below.refl w.heap.size w)
  have H : (bakelaw3_KeysJoys.l0 k a0 l1 l2 ([] : List Int) ([] : List Int) true l1 (l1.length : Int) 0) = some r := h
  clear h
  have H' := Aside0.mk H
  clear H
  go_enter Try.func5, Try.ntmps5
  go_wp2
  go_loopg [7, 8, 9, 25] k (fun kq v7 v8 v9 v25 w' => ∃ (x7_1 : List Int) (x8_1 : List Int) (x9_1 : Bool) (x25_1 : Int), v9 = .bool x9_1 ∧ v25 = .int .i64 x25_1 ∧ Aside0 (bakelaw3_KeysJoys.l0 kq a0 l1 l2 x7_1 x8_1 x9_1 l1 (l1.length : Int) x25_1 = some r) ∧ Aside0 (kq ≤ k) ∧ Aside0 (Kd.R (Kd.int .i64) 3 w' w.heap.size (fun k_ => some k_ ≠ (v8 : Value).ownBlock) v7 x7_1) ∧ Aside0 (Kd.R (Kd.int .i64) 3 w' w.heap.size (fun k_ => some k_ ≠ (v7 : Value).ownBlock) v8 x8_1) ∧ Aside0 (Below w.heap.size w w'))
  case atStart => exact ⟨(([] : List Int)), (([] : List Int)), (true), (0), (by first | rfl | (simp; done) | (simp [*]; done)), (by first | rfl | (simp; done) | (simp [*]; done)), H', ⟨Nat.le_refl _⟩, ⟨by first | exact Kd.R_nil _ _ _ _ _ | exact Kd.N_nil _ _ _ _ _ | exact Kd.V_nil _ _ _ _ _ | exact Kd.Q_nil _ _ _ _ _ | exact Kd.S_nil _ _ _ _ _⟩, ⟨by first | exact Kd.R_nil _ _ _ _ _ | exact Kd.N_nil _ _ _ _ _ | exact Kd.V_nil _ _ _ _ _ | exact Kd.Q_nil _ _ _ _ _ | exact Kd.S_nil _ _ _ _ _⟩, ⟨by repeat (first | (with_reducible first | exact HB.out | apply below_alloc | apply pw_below_drewN | apply below_drew1) | exact HB.out)⟩⟩
  case round =>
    clear H'
    try clear c1
    try clear c2
    try clear p2
    obtain ⟨x7_1, x8_1, x9_1, x25_1, rfl, rfl, HA, HK1, HO_7, HO_8, HB⟩ := hrel
    cases gk with
    | zero => exact absurd HA.out (by simp [bakelaw3_KeysJoys.l0])
    | succ k1 =>
      have H := HA.out
      clear HA
      simp only [bakelaw3_KeysJoys.l0] at H
      by_cases c4 : x25_1 < (l1.length : Int)
      · rw [if_pos c4] at H
        have c4b0 : decide (x25_1 < (l1.length : Int)) = true := decide_eq_true c4
        clear c4
        by_cases c5 : 0 ≤ x25_1
        · rw [if_pos c5] at H
          have c5b0 : decide (0 ≤ x25_1) = true := decide_eq_true c5
          clear c5
          by_cases c6 : x25_1 < (l1.length : Int)
          · rw [if_pos c6] at H
            have c6b0 : decide (x25_1 < (l1.length : Int)) = true := decide_eq_true c6
            clear c6
            obtain ⟨y190, hy190⟩ : ∃ y_ : List Bool, y_ = (([(((rd_T40 l1 x25_1).f1) == (-1)), (((rd_T40 l1 x25_1).f1) == 1), (((rd_T40 l1 x25_1).f2) == (-1)), (((rd_T40 l1 x25_1).f2) == 1), (rd_T40 l1 x25_1).f3] : List Bool)) := ⟨_, rfl⟩
            replace H : (bakelaw3_KeysJoys.l1 k1 a0 l1 l2 x7_1 x8_1 x9_1 0 l1 (l1.length : Int) x25_1 y190 (y190.length : Int) 0 ((rd_T40 l1 x25_1).f0) ((rd_T40 l1 x25_1).f1) ((rd_T40 l1 x25_1).f2) ((rd_T40 l1 x25_1).f3)) = some r := by first | (rw [hy190]; with_reducible exact H) | (have H2_ := (Option.bind_some _ _).symm.trans H; rw [hy190]; with_reducible exact H2_) | (have H2_ := (Option.bind_some _ _).symm.trans H; with_reducible exact H2_) | with_reducible exact H | (rw [hy190]; exact H) | exact H
            have Ny190 := Aside0.mk hy190
            clear hy190
            have H' := Aside0.mk H
            clear H
            have p188 : 0 ≤ (x25_1 : Int) := of_decide_eq_true (by first | (with_reducible assumption) | assumption)
            have q188 : x25_1 < (l1.length : Int) := of_decide_eq_true (by first | (with_reducible assumption) | assumption)
            obtain ⟨ad188, e188, hx188_0, hx188_1, hx188_2, hx188_3⟩ := at_T40 HR1.out x25_1 p188 q188
            cases e188
            replace hx188_0 := (HB.out.cell (World.block_lt_of_cell? w _ hx188_0)).trans hx188_0
            replace hx188_1 := (HB.out.cell (World.block_lt_of_cell? w _ hx188_1)).trans hx188_1
            replace hx188_2 := (HB.out.cell (World.block_lt_of_cell? w _ hx188_2)).trans hx188_2
            replace hx188_3 := (HB.out.cell (World.block_lt_of_cell? w _ hx188_3)).trans hx188_3
            replace p188 := eq_true p188
            replace q188 := eq_true q188
            go_wp2_with (first | ((with_reducible refine gate_dst (N := 11) rfl ?_); refine box_event ?hg (N := 11) ?hd (cs := #[.int .i64 0, .int .i64 0, .int .i64 0, .bool false]) (t := 40) ?hr ?_; (case hd => rfl); (case hg => rfl); (case hr => first | (go_simp; done) | (go_simp; rfl)); intro gb189 hg w7 hbox hb; have n0_ := Aside0.mk (Kd.R_below (by (with_reducible repeat (first | apply Kd.R_alloc | apply Kd.R_drewN | apply Kd.R_drew)); exact HO_7.out) hb); have n1_ := Aside0.mk (Kd.R_below (by (with_reducible repeat (first | apply Kd.R_alloc | apply Kd.R_drewN | apply Kd.R_drew)); exact HO_8.out) hb); have n2_ := Aside0.mk (below_step (by repeat (first | (with_reducible first | exact HB.out | apply below_alloc | apply pw_below_drewN | apply below_drew1) | exact HB.out)) hb); have n3_ := Aside0.mk (hbox); have n4_ := Aside0.mk ((by rw [hg]; exact (below_size (by repeat (first | (with_reducible first | exact HB.out | apply below_alloc | apply pw_below_drewN | apply below_drew1) | exact HB.out))) : w.heap.size ≤ gb189)); have n5_ := Aside0.mk ((by rw [hg]; exact (below_size (by repeat (first | (with_reducible first | exact HB.out | apply below_alloc | apply pw_below_drewN | apply below_drew1) | exact HB.out))) : w.heap.size ≤ gb189)); clear HO_7; clear HO_8; clear HB; have HO_7 := n0_; have HO_8 := n1_; have HB := n2_; have BK189 := n3_; have GW189 := n4_; have GE189 := n5_; clear n0_ n1_ n2_ n3_ n4_ n5_; clear hb hbox hg; have hcz8_0 : w7.cell? ⟨gb189, 0, none⟩ = some (.int .i64 0) := (blk_cell BK189.out 0).trans rfl; have hcz8_1 : w7.cell? ⟨gb189, 1, none⟩ = some (.int .i64 0) := (blk_cell BK189.out 1).trans rfl; have hcz8_2 : w7.cell? ⟨gb189, 2, none⟩ = some (.int .i64 0) := (blk_cell BK189.out 2).trans rfl; have hcz8_3 : w7.cell? ⟨gb189, 3, none⟩ = some (.bool false) := (blk_cell BK189.out 3).trans rfl; have hfz8_0 := blk_frozen BK189.out 0; have hfz8_1 := blk_frozen BK189.out 1; have hfz8_2 := blk_frozen BK189.out 2; have hfz8_3 := blk_frozen BK189.out 3) | ((with_reducible refine gate_dst (N := 43) rfl ?_); refine Kd.R_lit Kd.bool _ 4 ?hg (N := 43) ?hd (xs := ([(((rd_T40 l1 x25_1).f1) == (-1)), (((rd_T40 l1 x25_1).f1) == 1), (((rd_T40 l1 x25_1).f2) == (-1)), (((rd_T40 l1 x25_1).f2) == 1), (rd_T40 l1 x25_1).f3] : List Bool)) (inner := [.bool (((rd_T40 l1 x25_1).f1) == (-1)), .bool (((rd_T40 l1 x25_1).f1) == 1), .bool (((rd_T40 l1 x25_1).f2) == (-1)), .bool (((rd_T40 l1 x25_1).f2) == 1), .bool ((rd_T40 l1 x25_1).f3)]) (ok := fun _ => True) (okp := fun _ => True) ?hr ?hp (fun _ hk => hk) trivial (Below.refl _ _) (Nat.le_refl _) (by simp) ?_; (case hd => rfl); (case hg => rfl); (case hr => first | (go_simp; done) | (go_simp; rfl)); (case hp => exact (Reps.one (show Kd.M Kd.bool _ _ _ (((rd_T40 l1 x25_1).f1) == (-1)) [.bool (((rd_T40 l1 x25_1).f1) == (-1))] from rfl) (Reps.one (show Kd.M Kd.bool _ _ _ (((rd_T40 l1 x25_1).f1) == 1) [.bool (((rd_T40 l1 x25_1).f1) == 1)] from rfl) (Reps.one (show Kd.M Kd.bool _ _ _ (((rd_T40 l1 x25_1).f2) == (-1)) [.bool (((rd_T40 l1 x25_1).f2) == (-1))] from rfl) (Reps.one (show Kd.M Kd.bool _ _ _ (((rd_T40 l1 x25_1).f2) == 1) [.bool (((rd_T40 l1 x25_1).f2) == 1)] from rfl) (Reps.one (show Kd.M Kd.bool _ _ _ ((rd_T40 l1 x25_1).f3) [.bool ((rd_T40 l1 x25_1).f3)] from rfl) (Reps.none _ _))))))); intro v191 w9 ho10 hb hg_ hnew_; clear hg_ hnew_; (first | rw [← Ny190.out] at ho10 | (simp only [Int.reduceToNat] at ho10; rw [← Ny190.out] at ho10)); have n0_ := Aside0.mk (Kd.R_below (by (with_reducible repeat (first | apply Kd.R_alloc | apply Kd.R_drewN | apply Kd.R_drew)); exact (Kd.R_mono (Kd.R_far (p := ⟨gb189, 3, none⟩) (Kd.R_far (p := ⟨gb189, 2, none⟩) (Kd.R_far (p := ⟨gb189, 1, none⟩) (Kd.R_far (p := ⟨gb189, 0, none⟩) (Kd.R_types HO_7.out BK189.out (by decide)) (fun _ hk => hk.2) (.int .i64 ((rd_T40 l1 x25_1).f0))) (fun _ hk => hk.2) (.int .i64 ((rd_T40 l1 x25_1).f1))) (fun _ hk => hk.2) (.int .i64 ((rd_T40 l1 x25_1).f2))) (fun _ hk => hk.2) (.bool ((rd_T40 l1 x25_1).f3))) (fun _ h_ => h_.1))) hb); have n1_ := Aside0.mk (Kd.R_below (by (with_reducible repeat (first | apply Kd.R_alloc | apply Kd.R_drewN | apply Kd.R_drew)); exact (Kd.R_mono (Kd.R_far (p := ⟨gb189, 3, none⟩) (Kd.R_far (p := ⟨gb189, 2, none⟩) (Kd.R_far (p := ⟨gb189, 1, none⟩) (Kd.R_far (p := ⟨gb189, 0, none⟩) (Kd.R_types HO_8.out BK189.out (by decide)) (fun _ hk => hk.2) (.int .i64 ((rd_T40 l1 x25_1).f0))) (fun _ hk => hk.2) (.int .i64 ((rd_T40 l1 x25_1).f1))) (fun _ hk => hk.2) (.int .i64 ((rd_T40 l1 x25_1).f2))) (fun _ hk => hk.2) (.bool ((rd_T40 l1 x25_1).f3))) (fun _ h_ => h_.1))) hb); have n2_ := Aside0.mk (Kd.R_lower ho10 (below_size (by repeat (first | (with_reducible first | exact HB.out | apply below_alloc | apply pw_below_drewN | apply below_drew1 | refine below_set ?_ GE189.out) | exact HB.out)))); have n3_ := Aside0.mk (blk_below (g := gb189) (o := .cells #[.int .i64 ((rd_T40 l1 x25_1).f0), .int .i64 ((rd_T40 l1 x25_1).f1), .int .i64 ((rd_T40 l1 x25_1).f2), .bool ((rd_T40 l1 x25_1).f3)] 40 (0, 0)) (by (with_reducible repeat (first | refine blk_drewN ?_ _ | refine blk_drew ?_ | refine blk_alloc ?_ _)); refine blk_put (cs := #[.int .i64 ((rd_T40 l1 x25_1).f0), .int .i64 ((rd_T40 l1 x25_1).f1), .int .i64 ((rd_T40 l1 x25_1).f2), .bool false]) ?_ 3 _ rfl; (with_reducible repeat (first | refine blk_drewN ?_ _ | refine blk_drew ?_ | refine blk_alloc ?_ _)); refine blk_put (cs := #[.int .i64 ((rd_T40 l1 x25_1).f0), .int .i64 ((rd_T40 l1 x25_1).f1), .int .i64 0, .bool false]) ?_ 2 _ rfl; (with_reducible repeat (first | refine blk_drewN ?_ _ | refine blk_drew ?_ | refine blk_alloc ?_ _)); refine blk_put (cs := #[.int .i64 ((rd_T40 l1 x25_1).f0), .int .i64 0, .int .i64 0, .bool false]) ?_ 1 _ rfl; (with_reducible repeat (first | refine blk_drewN ?_ _ | refine blk_drew ?_ | refine blk_alloc ?_ _)); refine blk_put (cs := #[.int .i64 0, .int .i64 0, .int .i64 0, .bool false]) ?_ 0 _ rfl; (with_reducible repeat (first | refine blk_drewN ?_ _ | refine blk_drew ?_ | refine blk_alloc ?_ _)); exact BK189.out) hb); have n4_ := Aside0.mk (below_step (by repeat (first | (with_reducible first | exact HB.out | apply below_alloc | apply pw_below_drewN | apply below_drew1 | refine below_set ?_ GE189.out) | exact HB.out)) hb); clear HO_7; clear HO_8; clear BK189; clear HB; have HO_7 := n0_; have HO_8 := n1_; have HO192 := n2_; have BK189 := n3_; have HB := n4_; clear n0_ n1_ n2_ n3_ n4_; clear hb ho10; obtain ⟨Ao11, co11, eo11⟩ := Kd.R_slice HO192.out; subst eo11))
            go_loopg [12, 45] k1 (fun kq v12 v45 w' => ∃ (x12_2 : Int) (x45_2 : Int), v12 = .int .i64 x12_2 ∧ v45 = .int .i64 x45_2 ∧ Aside0 (bakelaw3_KeysJoys.l1 kq a0 l1 l2 x7_1 x8_1 x9_1 x12_2 l1 (l1.length : Int) x25_1 y190 (y190.length : Int) x45_2 ((rd_T40 l1 x25_1).f0) ((rd_T40 l1 x25_1).f1) ((rd_T40 l1 x25_1).f2) ((rd_T40 l1 x25_1).f3) = some r) ∧ Aside0 (kq ≤ k1) ∧ Aside0 (Kd.R (Kd.int .i64) 3 w' w.heap.size (fun k_ => some k_ ≠ (u8 : Value).ownBlock) u7 x7_1) ∧ Aside0 (Kd.R (Kd.int .i64) 3 w' w.heap.size (fun k_ => some k_ ≠ (u7 : Value).ownBlock) u8 x8_1) ∧ Aside0 (Kd.R Kd.bool 4 w' w.heap.size (fun _ => True) (.slice Ao11 y190.length co11) y190) ∧ Aside0 (w'.heap[gb189]? = some (.cells #[.int .i64 ((rd_T40 l1 x25_1).f0), .int .i64 ((rd_T40 l1 x25_1).f1), .int .i64 ((rd_T40 l1 x25_1).f2), .bool ((rd_T40 l1 x25_1).f3)] 40 (0, 0))) ∧ Aside0 (Below w.heap.size w w'))
            case atStart => exact ⟨(0), (0), (by first | rfl | (simp; done) | (simp [*]; done)), (by first | rfl | (simp; done) | (simp [*]; done)), H', ⟨Nat.le_refl _⟩, ⟨by (with_reducible repeat (first | apply Kd.R_alloc | apply Kd.R_drewN | apply Kd.R_drew)); exact HO_7.out⟩, ⟨by (with_reducible repeat (first | apply Kd.R_alloc | apply Kd.R_drewN | apply Kd.R_drew)); exact HO_8.out⟩, ⟨by (with_reducible repeat (first | apply Kd.R_alloc | apply Kd.R_drewN | apply Kd.R_drew)); exact HO192.out⟩, ⟨by (with_reducible repeat (first | refine blk_drewN ?_ _ | refine blk_drew ?_ | refine blk_alloc ?_ _)); exact BK189.out⟩, ⟨by repeat (first | (with_reducible first | exact HB.out | apply below_alloc | apply pw_below_drewN | apply below_drew1 | refine below_set ?_ GE189.out) | exact HB.out)⟩⟩
            case round =>
              as_aux_lemma =>
              clear H'
              try clear c1
              try clear p1
              try clear q1
              try clear hx1
              try clear c2
              try clear p2
              try clear c4
              try clear c4b0
              try clear c5
              try clear c5b0
              try clear c6
              try clear c6b0
              try clear hcz8_0
              try clear hcz8_1
              try clear hcz8_2
              try clear hcz8_3
              try clear hfz8_0
              try clear hfz8_1
              try clear hfz8_2
              try clear hfz8_3
              try clear hx188_0
              try clear hx188_1
              try clear hx188_2
              try clear hx188_3
              try clear p188
              try clear p2
              try clear q188
              obtain ⟨x12_2, x45_2, rfl, rfl, HA, HK2, HO_7, HO_8, HO_43, BK189, HB⟩ := hrel
              cases gk with
              | zero => exact absurd HA.out (by simp [bakelaw3_KeysJoys.l1])
              | succ k2 =>
                have H := HA.out
                clear HA
                simp only [bakelaw3_KeysJoys.l1] at H
                by_cases c12 : x45_2 < (y190.length : Int)
                · rw [if_pos c12] at H
                  have c12b0 : decide (x45_2 < (y190.length : Int)) = true := decide_eq_true c12
                  clear c12
                  by_cases c13 : 0 ≤ x45_2
                  · rw [if_pos c13] at H
                    have c13b0 : decide (0 ≤ x45_2) = true := decide_eq_true c13
                    clear c13
                    by_cases c14 : x45_2 < (y190.length : Int)
                    · rw [if_pos c14] at H
                      have c14b0 : decide (x45_2 < (y190.length : Int)) = true := decide_eq_true c14
                      clear c14
                      obtain ⟨bq15, hbq15⟩ : ∃ b_ : Bool, b_ = (rdOf false y190 x45_2) := ⟨_, rfl⟩
                      replace H : (if bq15 = true then (bakelaw3_KeysJoys.l1 k2 a0 l1 l2 x7_1 x8_1 x9_1 (wrap64 (x12_2 + (shl .i64 1 x45_2))) l1 (l1.length : Int) x25_1 y190 (y190.length : Int) (wrap64 (x45_2 + 1)) ((rd_T40 l1 x25_1).f0) ((rd_T40 l1 x25_1).f1) ((rd_T40 l1 x25_1).f2) ((rd_T40 l1 x25_1).f3)) else (bakelaw3_KeysJoys.l1 k2 a0 l1 l2 x7_1 x8_1 x9_1 x12_2 l1 (l1.length : Int) x25_1 y190 (y190.length : Int) (wrap64 (x45_2 + 1)) ((rd_T40 l1 x25_1).f0) ((rd_T40 l1 x25_1).f1) ((rd_T40 l1 x25_1).f2) ((rd_T40 l1 x25_1).f3))) = some r := by rw [← hbq15] at H; exact H
                      have Nbq15 := Aside0.mk hbq15
                      clear hbq15
                      by_cases c16 : bq15 = true
                      · subst c16
                        have H1 : (bakelaw3_KeysJoys.l1 k2 a0 l1 l2 x7_1 x8_1 x9_1 (wrap64 (x12_2 + (shl .i64 1 x45_2))) l1 (l1.length : Int) x25_1 y190 (y190.length : Int) (wrap64 (x45_2 + 1)) ((rd_T40 l1 x25_1).f0) ((rd_T40 l1 x25_1).f1) ((rd_T40 l1 x25_1).f2) ((rd_T40 l1 x25_1).f3)) = some r := by rw [if_pos rfl] at H; exact H
                        clear H
                        have H := H1
                        clear H1
                        have c17b0 := eq_true (of_decide_eq_true (by first | (with_reducible assumption) | assumption) : 0 ≤ x45_2)
                        obtain ⟨ji18, hji18⟩ : ∃ j_ : Int, (shl .i64 1 x45_2) = j_ := ⟨_, rfl⟩
                        replace H : (bakelaw3_KeysJoys.l1 k2 a0 l1 l2 x7_1 x8_1 x9_1 (wrap64 (x12_2 + (ji18))) l1 (l1.length : Int) x25_1 y190 (y190.length : Int) (wrap64 (x45_2 + 1)) ((rd_T40 l1 x25_1).f0) ((rd_T40 l1 x25_1).f1) ((rd_T40 l1 x25_1).f2) ((rd_T40 l1 x25_1).f3)) = some r := by first | (rw [hji18] at H; exact H) | (simp only [hji18] at H ⊢; exact H)
                        have hji18_ : (IntKind.i64.wrap (1 * 2 ^ min x45_2.toNat 64)) = ji18 := hji18
                        have hji18z : x45_2 ≤ 64 → (IntKind.i64.wrap (1 * 2 ^ x45_2.toNat)) = ji18 := shl_small hji18
                        have hji18u : (IntKind.i64.wrap (2 ^ min x45_2.toNat 64)) = ji18 := by have h_ := hji18_; rw [Int.one_mul] at h_; exact h_
                        have hji18v : x45_2 ≤ 64 → (IntKind.i64.wrap (2 ^ x45_2.toNat)) = ji18 := fun hle_ => by have h_ := hji18z hle_; rw [Int.one_mul] at h_; exact h_
                        have hji18y : (wrap64 (1 * 2 ^ min x45_2.toNat 64)) = ji18 := (i64_w _).symm.trans hji18_
                        have hji18x : x45_2 ≤ 64 → (wrap64 (1 * 2 ^ x45_2.toNat)) = ji18 := fun h_ => (i64_w _).symm.trans (hji18z h_)
                        have H' := Aside0.mk H
                        clear H
                        have p193 : 0 ≤ (x45_2 : Int) := of_decide_eq_true (by first | (with_reducible assumption) | assumption)
                        have q193 : x45_2 < (y190.length : Int) := of_decide_eq_true (by first | (with_reducible assumption) | assumption)
                        obtain ⟨ad193, e193, hx193_0⟩ := Kd.at_bool (Kd.R_reads' HO_43.out).2.2 x45_2 p193 q193
                        (try rw [← Nbq15.out] at hx193_0)
                        cases e193
                        replace p193 := eq_true p193
                        replace q193 := eq_true q193
                        go_wp2
                        go_roundg k2
                        case measure => have := HK1.out; have := HK2.out; omega
                        case rel => exact ⟨(wrap64 (x12_2 + (ji18))), (wrap64 (x45_2 + 1)), (by first | rfl | (simp; done) | (simp only [← hji18] <;> (first | rfl | simp)) | (simp [*]; done)), (by first | rfl | (simp; done) | (simp [*]; done)), H', ⟨by have := HK1.out; have := HK2.out; omega⟩, ⟨by (with_reducible repeat (first | apply Kd.R_alloc | apply Kd.R_drewN | apply Kd.R_drew)); exact HO_7.out⟩, ⟨by (with_reducible repeat (first | apply Kd.R_alloc | apply Kd.R_drewN | apply Kd.R_drew)); exact HO_8.out⟩, ⟨by (with_reducible repeat (first | apply Kd.R_alloc | apply Kd.R_drewN | apply Kd.R_drew)); exact HO_43.out⟩, ⟨by (with_reducible repeat (first | refine blk_drewN ?_ _ | refine blk_drew ?_ | refine blk_alloc ?_ _)); exact BK189.out⟩, ⟨by repeat (first | (with_reducible first | exact HB.out | apply below_alloc | apply pw_below_drewN | apply below_drew1 | refine below_set ?_ GE189.out) | exact HB.out)⟩⟩
                      · replace c16 := Bool.eq_false_iff.mpr c16
                        subst c16
                        have H1 : (bakelaw3_KeysJoys.l1 k2 a0 l1 l2 x7_1 x8_1 x9_1 x12_2 l1 (l1.length : Int) x25_1 y190 (y190.length : Int) (wrap64 (x45_2 + 1)) ((rd_T40 l1 x25_1).f0) ((rd_T40 l1 x25_1).f1) ((rd_T40 l1 x25_1).f2) ((rd_T40 l1 x25_1).f3)) = some r := by rw [if_neg (show ¬ (false = true) by decide)] at H; exact H
                        clear H
                        have H := H1
                        clear H1
                        have H' := Aside0.mk H
                        clear H
                        have p193 : 0 ≤ (x45_2 : Int) := of_decide_eq_true (by first | (with_reducible assumption) | assumption)
                        have q193 : x45_2 < (y190.length : Int) := of_decide_eq_true (by first | (with_reducible assumption) | assumption)
                        obtain ⟨ad193, e193, hx193_0⟩ := Kd.at_bool (Kd.R_reads' HO_43.out).2.2 x45_2 p193 q193
                        (try rw [← Nbq15.out] at hx193_0)
                        cases e193
                        replace p193 := eq_true p193
                        replace q193 := eq_true q193
                        go_wp2
                        go_roundg k2
                        case measure => have := HK1.out; have := HK2.out; omega
                        case rel => exact ⟨(x12_2), (wrap64 (x45_2 + 1)), (by first | rfl | (simp; done) | (simp [*]; done)), (by first | rfl | (simp; done) | (simp [*]; done)), H', ⟨by have := HK1.out; have := HK2.out; omega⟩, ⟨by (with_reducible repeat (first | apply Kd.R_alloc | apply Kd.R_drewN | apply Kd.R_drew)); exact HO_7.out⟩, ⟨by (with_reducible repeat (first | apply Kd.R_alloc | apply Kd.R_drewN | apply Kd.R_drew)); exact HO_8.out⟩, ⟨by (with_reducible repeat (first | apply Kd.R_alloc | apply Kd.R_drewN | apply Kd.R_drew)); exact HO_43.out⟩, ⟨by (with_reducible repeat (first | refine blk_drewN ?_ _ | refine blk_drew ?_ | refine blk_alloc ?_ _)); exact BK189.out⟩, ⟨by repeat (first | (with_reducible first | exact HB.out | apply below_alloc | apply pw_below_drewN | apply below_drew1 | refine below_set ?_ GE189.out) | exact HB.out)⟩⟩
                    · rw [if_neg c14] at H
                      exact absurd H (by simp)
                  · rw [if_neg c13] at H
                    exact absurd H (by simp)
                · rw [if_neg c12] at H
                  have c12b0 : decide (x45_2 < (y190.length : Int)) = false := decide_eq_false c12
                  clear c12
                  by_cases c19 : x7_1.length < 17592186044416
                  · rw [if_pos c19] at H
                    have LMc19 := Aside0.mk c19
                    clear c19
                    obtain ⟨y194, hy194⟩ : ∃ y_ : List Int, y_ = (x7_1 ++ [((rd_T40 l1 x25_1).f0)]) := ⟨_, rfl⟩
                    replace H : (if x8_1.length < 17592186044416 then ((some (x8_1 ++ [x12_2] : List Int)).bind fun y197 => (if x9_1 = true then (if ((rd_T40 l1 x25_1).f1) ≥ (-1) then (if ((rd_T40 l1 x25_1).f1) ≤ 1 then (if ((rd_T40 l1 x25_1).f2) ≥ (-1) then (bakelaw3_KeysJoys.l0 k2 a0 l1 l2 y194 y197 (decide (((rd_T40 l1 x25_1).f2) ≤ 1)) l1 (l1.length : Int) (wrap64 (x25_1 + 1))) else (bakelaw3_KeysJoys.l0 k2 a0 l1 l2 y194 y197 false l1 (l1.length : Int) (wrap64 (x25_1 + 1)))) else (bakelaw3_KeysJoys.l0 k2 a0 l1 l2 y194 y197 false l1 (l1.length : Int) (wrap64 (x25_1 + 1)))) else (bakelaw3_KeysJoys.l0 k2 a0 l1 l2 y194 y197 false l1 (l1.length : Int) (wrap64 (x25_1 + 1)))) else (bakelaw3_KeysJoys.l0 k2 a0 l1 l2 y194 y197 false l1 (l1.length : Int) (wrap64 (x25_1 + 1))))) else (none)) = some r := by first | (rw [hy194]; with_reducible exact H) | (have H2_ := (Option.bind_some _ _).symm.trans H; rw [hy194]; with_reducible exact H2_) | (have H2_ := (Option.bind_some _ _).symm.trans H; with_reducible exact H2_) | with_reducible exact H | (rw [hy194]; exact H) | exact H
                    have Ny194 := Aside0.mk hy194
                    clear hy194
                    by_cases c20 : x8_1.length < 17592186044416
                    · rw [if_pos c20] at H
                      have LMc20 := Aside0.mk c20
                      clear c20
                      obtain ⟨y197, hy197⟩ : ∃ y_ : List Int, y_ = (x8_1 ++ [x12_2]) := ⟨_, rfl⟩
                      replace H : (if x9_1 = true then (if ((rd_T40 l1 x25_1).f1) ≥ (-1) then (if ((rd_T40 l1 x25_1).f1) ≤ 1 then (if ((rd_T40 l1 x25_1).f2) ≥ (-1) then (bakelaw3_KeysJoys.l0 k2 a0 l1 l2 y194 y197 (decide (((rd_T40 l1 x25_1).f2) ≤ 1)) l1 (l1.length : Int) (wrap64 (x25_1 + 1))) else (bakelaw3_KeysJoys.l0 k2 a0 l1 l2 y194 y197 false l1 (l1.length : Int) (wrap64 (x25_1 + 1)))) else (bakelaw3_KeysJoys.l0 k2 a0 l1 l2 y194 y197 false l1 (l1.length : Int) (wrap64 (x25_1 + 1)))) else (bakelaw3_KeysJoys.l0 k2 a0 l1 l2 y194 y197 false l1 (l1.length : Int) (wrap64 (x25_1 + 1)))) else (bakelaw3_KeysJoys.l0 k2 a0 l1 l2 y194 y197 false l1 (l1.length : Int) (wrap64 (x25_1 + 1)))) = some r := by first | (rw [hy197]; with_reducible exact H) | (have H2_ := (Option.bind_some _ _).symm.trans H; rw [hy197]; with_reducible exact H2_) | (have H2_ := (Option.bind_some _ _).symm.trans H; with_reducible exact H2_) | with_reducible exact H | (rw [hy197]; exact H) | exact H
                      have Ny197 := Aside0.mk hy197
                      clear hy197
                      by_cases c21 : x9_1 = true
                      · subst c21
                        have H1 : (if ((rd_T40 l1 x25_1).f1) ≥ (-1) then (if ((rd_T40 l1 x25_1).f1) ≤ 1 then (if ((rd_T40 l1 x25_1).f2) ≥ (-1) then (bakelaw3_KeysJoys.l0 k2 a0 l1 l2 y194 y197 (decide (((rd_T40 l1 x25_1).f2) ≤ 1)) l1 (l1.length : Int) (wrap64 (x25_1 + 1))) else (bakelaw3_KeysJoys.l0 k2 a0 l1 l2 y194 y197 false l1 (l1.length : Int) (wrap64 (x25_1 + 1)))) else (bakelaw3_KeysJoys.l0 k2 a0 l1 l2 y194 y197 false l1 (l1.length : Int) (wrap64 (x25_1 + 1)))) else (bakelaw3_KeysJoys.l0 k2 a0 l1 l2 y194 y197 false l1 (l1.length : Int) (wrap64 (x25_1 + 1)))) = some r := by rw [if_pos rfl] at H; exact H
                        clear H
                        have H := H1
                        clear H1
                        by_cases c22 : ((rd_T40 l1 x25_1).f1) ≥ (-1)
                        · rw [if_pos c22] at H
                          have c22b0 : decide ((-1) ≤ ((rd_T40 l1 x25_1).f1)) = true := decide_eq_true c22
                          clear c22
                          by_cases c23 : ((rd_T40 l1 x25_1).f1) ≤ 1
                          · rw [if_pos c23] at H
                            have c23b0 : decide (((rd_T40 l1 x25_1).f1) ≤ 1) = true := decide_eq_true c23
                            clear c23
                            by_cases c24 : ((rd_T40 l1 x25_1).f2) ≥ (-1)
                            · rw [if_pos c24] at H
                              have c24b0 : decide ((-1) ≤ ((rd_T40 l1 x25_1).f2)) = true := decide_eq_true c24
                              clear c24
                              have H' := Aside0.mk H
                              clear H
                              have hcz25_0 : wr.cell? ⟨gb189, 0, none⟩ = some (.int .i64 ((rd_T40 l1 x25_1).f0)) := (blk_cell BK189.out 0).trans rfl
                              have hcz25_1 : wr.cell? ⟨gb189, 1, none⟩ = some (.int .i64 ((rd_T40 l1 x25_1).f1)) := (blk_cell BK189.out 1).trans rfl
                              have hcz25_2 : wr.cell? ⟨gb189, 2, none⟩ = some (.int .i64 ((rd_T40 l1 x25_1).f2)) := (blk_cell BK189.out 2).trans rfl
                              have hcz25_3 : wr.cell? ⟨gb189, 3, none⟩ = some (.bool ((rd_T40 l1 x25_1).f3)) := (blk_cell BK189.out 3).trans rfl
                              have hfz25_0 := blk_frozen BK189.out 0
                              have hfz25_1 := blk_frozen BK189.out 1
                              have hfz25_2 := blk_frozen BK189.out 2
                              have hfz25_3 := blk_frozen BK189.out 3
                              go_wp2_with (first | ((with_reducible refine gate_builtin (b := .append) (xs := #[.tmp 56, .tmp 59]) rfl ?_); at_builtin; refine Kd.R_append (Kd.int .i64) (w0 := w) w.heap.size rfl (.tmp 56) (.tmp 59) 22 3 (.int .i64 0) 8 rfl Try.underlying22 info3 rfl (by decide) (by omega) u7 x7_1 ((rd_T40 l1 x25_1).f0) [.int .i64 ((rd_T40 l1 x25_1).f0)] (fun k_ => some k_ ≠ (u8 : Value).ownBlock) (fun _ => False) rfl rfl ?aP (fun _ hk => hk.elim) ?aF ?aO ?aB ?aS ?aL ?_; (case aP => exact rfl); (case aB => exact (by repeat (first | (with_reducible first | exact HB.out | apply below_alloc | apply pw_below_drewN | apply below_drew1 | refine below_set ?_ GE189.out) | exact HB.out))); (case aF => exact (fun k_ hk => Kd.fresh' (Kd.R_lt (by (with_reducible repeat (first | apply Kd.R_alloc | apply Kd.R_drewN | apply Kd.R_drew)); exact HO_8.out)) k_ hk)); (case aO => exact (by (with_reducible repeat (first | apply Kd.R_alloc | apply Kd.R_drewN | apply Kd.R_drew)); exact HO_7.out)); (case aS => exact (below_size (by repeat (first | (with_reducible first | exact HB.out | apply below_alloc | apply pw_below_drewN | apply below_drew1 | refine below_set ?_ GE189.out) | exact HB.out)))); (case aL => have := LMc19.out; omega); intro v195 w26 ho hb hg hat; rw [← Ny194.out] at ho; have n0_ := Aside0.mk (Kd.R_after (ok := (fun _ => True)) (by (with_reducible repeat (first | apply Kd.R_alloc | apply Kd.R_drewN | apply Kd.R_drew)); exact Kd.R_mono HO_8.out (fun _ hk => by first | exact ⟨trivial, hk⟩ | exact hk | exact hk.1 | exact hk.2 | exact hk.1.1 | exact hk.1.2 | exact ⟨hk.1.1, hk.1.2⟩)) hg hat); have n1_ := Aside0.mk (Kd.R_over' (by (with_reducible repeat (first | apply Kd.R_alloc | apply Kd.R_drewN | apply Kd.R_drew)); exact HO_43.out) (Kd.R_typed (by (with_reducible repeat (first | apply Kd.R_alloc | apply Kd.R_drewN | apply Kd.R_drew)); exact HO_7.out)) (by decide) hg); have n2_ := Aside0.mk (blk_grown (g := gb189) (o := .cells #[.int .i64 ((rd_T40 l1 x25_1).f0), .int .i64 ((rd_T40 l1 x25_1).f1), .int .i64 ((rd_T40 l1 x25_1).f2), .bool ((rd_T40 l1 x25_1).f3)] 40 (0, 0)) (by (with_reducible repeat (first | refine blk_drewN ?_ _ | refine blk_drew ?_ | refine blk_alloc ?_ _)); exact BK189.out) hg (Kd.R_ne HO_7.out BK189.out (by decide))); have n3_ := Aside0.mk (hb); have n4_ := Aside0.mk (ho); clear HO_8; clear HO_43; clear BK189; clear HB; clear HO_7; have HO_8 := n0_; have HO_43 := n1_; have BK189 := n2_; have HB := n3_; have HO196 := n4_; clear n0_ n1_ n2_ n3_ n4_; clear ho hb hg hat) | ((with_reducible refine gate_builtin (b := .append) (xs := #[.tmp 61, .tmp 63]) rfl ?_); at_builtin; refine Kd.R_append (Kd.int .i64) (w0 := w) w.heap.size rfl (.tmp 61) (.tmp 63) 22 3 (.int .i64 0) 8 rfl Try.underlying22 info3 rfl (by decide) (by omega) u8 x8_1 x12_2 [.int .i64 x12_2] (fun k_ => some k_ ≠ (v195 : Value).ownBlock) (fun _ => False) rfl rfl ?aP (fun _ hk => hk.elim) ?aF ?aO ?aB ?aS ?aL ?_; (case aP => exact rfl); (case aB => exact (by repeat (first | (with_reducible first | exact HB.out | apply below_alloc | apply pw_below_drewN | apply below_drew1 | refine below_set ?_ GE189.out) | exact HB.out))); (case aF => exact (fun k_ hk => Kd.fresh' (Kd.R_lt (by (with_reducible repeat (first | apply Kd.R_alloc | apply Kd.R_drewN | apply Kd.R_drew)); exact HO196.out)) k_ hk)); (case aO => exact (by (with_reducible repeat (first | apply Kd.R_alloc | apply Kd.R_drewN | apply Kd.R_drew)); exact Kd.R_mono HO_8.out (fun _ hk => hk.2))); (case aS => exact (below_size (by repeat (first | (with_reducible first | exact HB.out | apply below_alloc | apply pw_below_drewN | apply below_drew1 | refine below_set ?_ GE189.out) | exact HB.out)))); (case aL => have := LMc20.out; omega); intro v198 w27 ho hb hg hat; rw [← Ny197.out] at ho; have n0_ := Aside0.mk (Kd.R_over' (by (with_reducible repeat (first | apply Kd.R_alloc | apply Kd.R_drewN | apply Kd.R_drew)); exact HO_43.out) (Kd.R_typed (by (with_reducible repeat (first | apply Kd.R_alloc | apply Kd.R_drewN | apply Kd.R_drew)); exact HO_8.out)) (by decide) hg); have n1_ := Aside0.mk (blk_grown (g := gb189) (o := .cells #[.int .i64 ((rd_T40 l1 x25_1).f0), .int .i64 ((rd_T40 l1 x25_1).f1), .int .i64 ((rd_T40 l1 x25_1).f2), .bool ((rd_T40 l1 x25_1).f3)] 40 (0, 0)) (by (with_reducible repeat (first | refine blk_drewN ?_ _ | refine blk_drew ?_ | refine blk_alloc ?_ _)); exact BK189.out) hg (Kd.R_ne HO_8.out BK189.out (by decide))); have n2_ := Aside0.mk (Kd.R_after (ok := (fun _ => True)) (by (with_reducible repeat (first | apply Kd.R_alloc | apply Kd.R_drewN | apply Kd.R_drew)); exact Kd.R_mono HO196.out (fun _ hk => by first | exact ⟨trivial, hk⟩ | exact hk | exact hk.1 | exact hk.2 | exact hk.1.1 | exact hk.1.2 | exact ⟨hk.1.1, hk.1.2⟩)) hg hat); have n3_ := Aside0.mk (hb); have n4_ := Aside0.mk (ho); clear HO_43; clear BK189; clear HO196; clear HB; clear HO_8; have HO_43 := n0_; have BK189 := n1_; have HO196 := n2_; have HB := n3_; have HO199 := n4_; clear n0_ n1_ n2_ n3_ n4_; clear ho hb hg hat; have hcz28_0 : w27.cell? ⟨gb189, 0, none⟩ = some (.int .i64 ((rd_T40 l1 x25_1).f0)) := (blk_cell BK189.out 0).trans rfl; have hcz28_1 : w27.cell? ⟨gb189, 1, none⟩ = some (.int .i64 ((rd_T40 l1 x25_1).f1)) := (blk_cell BK189.out 1).trans rfl; have hcz28_2 : w27.cell? ⟨gb189, 2, none⟩ = some (.int .i64 ((rd_T40 l1 x25_1).f2)) := (blk_cell BK189.out 2).trans rfl; have hcz28_3 : w27.cell? ⟨gb189, 3, none⟩ = some (.bool ((rd_T40 l1 x25_1).f3)) := (blk_cell BK189.out 3).trans rfl; have hfz28_0 := blk_frozen BK189.out 0; have hfz28_1 := blk_frozen BK189.out 1; have hfz28_2 := blk_frozen BK189.out 2; have hfz28_3 := blk_frozen BK189.out 3))
                              go_roundg k2
                              case measure => have := HK1.out; have := HK2.out; omega
                              case rel => exact ⟨(y194), (y197), (decide (((rd_T40 l1 x25_1).f2) ≤ 1)), (wrap64 (x25_1 + 1)), (by first | rfl | (simp; done) | (simp [*]; done)), (by first | rfl | (simp; done) | (simp [*]; done)), H', ⟨by have := HK1.out; have := HK2.out; omega⟩, ⟨by (with_reducible repeat (first | apply Kd.R_alloc | apply Kd.R_drewN | apply Kd.R_drew)); exact Kd.R_mono HO196.out (fun _ hk => hk.2)⟩, ⟨by (with_reducible repeat (first | apply Kd.R_alloc | apply Kd.R_drewN | apply Kd.R_drew)); exact HO199.out⟩, ⟨by repeat (first | (with_reducible first | exact HB.out | apply below_alloc | apply pw_below_drewN | apply below_drew1 | refine below_set ?_ GE189.out) | exact HB.out)⟩⟩
                            · rw [if_neg c24] at H
                              have c24b0 : decide ((-1) ≤ ((rd_T40 l1 x25_1).f2)) = false := decide_eq_false c24
                              clear c24
                              have H' := Aside0.mk H
                              clear H
                              have hcz29_0 : wr.cell? ⟨gb189, 0, none⟩ = some (.int .i64 ((rd_T40 l1 x25_1).f0)) := (blk_cell BK189.out 0).trans rfl
                              have hcz29_1 : wr.cell? ⟨gb189, 1, none⟩ = some (.int .i64 ((rd_T40 l1 x25_1).f1)) := (blk_cell BK189.out 1).trans rfl
                              have hcz29_2 : wr.cell? ⟨gb189, 2, none⟩ = some (.int .i64 ((rd_T40 l1 x25_1).f2)) := (blk_cell BK189.out 2).trans rfl
                              have hcz29_3 : wr.cell? ⟨gb189, 3, none⟩ = some (.bool ((rd_T40 l1 x25_1).f3)) := (blk_cell BK189.out 3).trans rfl
                              have hfz29_0 := blk_frozen BK189.out 0
                              have hfz29_1 := blk_frozen BK189.out 1
                              have hfz29_2 := blk_frozen BK189.out 2
                              have hfz29_3 := blk_frozen BK189.out 3
                              go_wp2_with (first | ((with_reducible refine gate_builtin (b := .append) (xs := #[.tmp 56, .tmp 59]) rfl ?_); at_builtin; refine Kd.R_append (Kd.int .i64) (w0 := w) w.heap.size rfl (.tmp 56) (.tmp 59) 22 3 (.int .i64 0) 8 rfl Try.underlying22 info3 rfl (by decide) (by omega) u7 x7_1 ((rd_T40 l1 x25_1).f0) [.int .i64 ((rd_T40 l1 x25_1).f0)] (fun k_ => some k_ ≠ (u8 : Value).ownBlock) (fun _ => False) rfl rfl ?aP (fun _ hk => hk.elim) ?aF ?aO ?aB ?aS ?aL ?_; (case aP => exact rfl); (case aB => exact (by repeat (first | (with_reducible first | exact HB.out | apply below_alloc | apply pw_below_drewN | apply below_drew1 | refine below_set ?_ GE189.out) | exact HB.out))); (case aF => exact (fun k_ hk => Kd.fresh' (Kd.R_lt (by (with_reducible repeat (first | apply Kd.R_alloc | apply Kd.R_drewN | apply Kd.R_drew)); exact HO_8.out)) k_ hk)); (case aO => exact (by (with_reducible repeat (first | apply Kd.R_alloc | apply Kd.R_drewN | apply Kd.R_drew)); exact HO_7.out)); (case aS => exact (below_size (by repeat (first | (with_reducible first | exact HB.out | apply below_alloc | apply pw_below_drewN | apply below_drew1 | refine below_set ?_ GE189.out) | exact HB.out)))); (case aL => have := LMc19.out; omega); intro v195 w30 ho hb hg hat; rw [← Ny194.out] at ho; have n0_ := Aside0.mk (Kd.R_after (ok := (fun _ => True)) (by (with_reducible repeat (first | apply Kd.R_alloc | apply Kd.R_drewN | apply Kd.R_drew)); exact Kd.R_mono HO_8.out (fun _ hk => by first | exact ⟨trivial, hk⟩ | exact hk | exact hk.1 | exact hk.2 | exact hk.1.1 | exact hk.1.2 | exact ⟨hk.1.1, hk.1.2⟩)) hg hat); have n1_ := Aside0.mk (Kd.R_over' (by (with_reducible repeat (first | apply Kd.R_alloc | apply Kd.R_drewN | apply Kd.R_drew)); exact HO_43.out) (Kd.R_typed (by (with_reducible repeat (first | apply Kd.R_alloc | apply Kd.R_drewN | apply Kd.R_drew)); exact HO_7.out)) (by decide) hg); have n2_ := Aside0.mk (blk_grown (g := gb189) (o := .cells #[.int .i64 ((rd_T40 l1 x25_1).f0), .int .i64 ((rd_T40 l1 x25_1).f1), .int .i64 ((rd_T40 l1 x25_1).f2), .bool ((rd_T40 l1 x25_1).f3)] 40 (0, 0)) (by (with_reducible repeat (first | refine blk_drewN ?_ _ | refine blk_drew ?_ | refine blk_alloc ?_ _)); exact BK189.out) hg (Kd.R_ne HO_7.out BK189.out (by decide))); have n3_ := Aside0.mk (hb); have n4_ := Aside0.mk (ho); clear HO_8; clear HO_43; clear BK189; clear HB; clear HO_7; have HO_8 := n0_; have HO_43 := n1_; have BK189 := n2_; have HB := n3_; have HO196 := n4_; clear n0_ n1_ n2_ n3_ n4_; clear ho hb hg hat) | ((with_reducible refine gate_builtin (b := .append) (xs := #[.tmp 61, .tmp 63]) rfl ?_); at_builtin; refine Kd.R_append (Kd.int .i64) (w0 := w) w.heap.size rfl (.tmp 61) (.tmp 63) 22 3 (.int .i64 0) 8 rfl Try.underlying22 info3 rfl (by decide) (by omega) u8 x8_1 x12_2 [.int .i64 x12_2] (fun k_ => some k_ ≠ (v195 : Value).ownBlock) (fun _ => False) rfl rfl ?aP (fun _ hk => hk.elim) ?aF ?aO ?aB ?aS ?aL ?_; (case aP => exact rfl); (case aB => exact (by repeat (first | (with_reducible first | exact HB.out | apply below_alloc | apply pw_below_drewN | apply below_drew1 | refine below_set ?_ GE189.out) | exact HB.out))); (case aF => exact (fun k_ hk => Kd.fresh' (Kd.R_lt (by (with_reducible repeat (first | apply Kd.R_alloc | apply Kd.R_drewN | apply Kd.R_drew)); exact HO196.out)) k_ hk)); (case aO => exact (by (with_reducible repeat (first | apply Kd.R_alloc | apply Kd.R_drewN | apply Kd.R_drew)); exact Kd.R_mono HO_8.out (fun _ hk => hk.2))); (case aS => exact (below_size (by repeat (first | (with_reducible first | exact HB.out | apply below_alloc | apply pw_below_drewN | apply below_drew1 | refine below_set ?_ GE189.out) | exact HB.out)))); (case aL => have := LMc20.out; omega); intro v198 w31 ho hb hg hat; rw [← Ny197.out] at ho; have n0_ := Aside0.mk (Kd.R_over' (by (with_reducible repeat (first | apply Kd.R_alloc | apply Kd.R_drewN | apply Kd.R_drew)); exact HO_43.out) (Kd.R_typed (by (with_reducible repeat (first | apply Kd.R_alloc | apply Kd.R_drewN | apply Kd.R_drew)); exact HO_8.out)) (by decide) hg); have n1_ := Aside0.mk (blk_grown (g := gb189) (o := .cells #[.int .i64 ((rd_T40 l1 x25_1).f0), .int .i64 ((rd_T40 l1 x25_1).f1), .int .i64 ((rd_T40 l1 x25_1).f2), .bool ((rd_T40 l1 x25_1).f3)] 40 (0, 0)) (by (with_reducible repeat (first | refine blk_drewN ?_ _ | refine blk_drew ?_ | refine blk_alloc ?_ _)); exact BK189.out) hg (Kd.R_ne HO_8.out BK189.out (by decide))); have n2_ := Aside0.mk (Kd.R_after (ok := (fun _ => True)) (by (with_reducible repeat (first | apply Kd.R_alloc | apply Kd.R_drewN | apply Kd.R_drew)); exact Kd.R_mono HO196.out (fun _ hk => by first | exact ⟨trivial, hk⟩ | exact hk | exact hk.1 | exact hk.2 | exact hk.1.1 | exact hk.1.2 | exact ⟨hk.1.1, hk.1.2⟩)) hg hat); have n3_ := Aside0.mk (hb); have n4_ := Aside0.mk (ho); clear HO_43; clear BK189; clear HO196; clear HB; clear HO_8; have HO_43 := n0_; have BK189 := n1_; have HO196 := n2_; have HB := n3_; have HO199 := n4_; clear n0_ n1_ n2_ n3_ n4_; clear ho hb hg hat; have hcz32_0 : w31.cell? ⟨gb189, 0, none⟩ = some (.int .i64 ((rd_T40 l1 x25_1).f0)) := (blk_cell BK189.out 0).trans rfl; have hcz32_1 : w31.cell? ⟨gb189, 1, none⟩ = some (.int .i64 ((rd_T40 l1 x25_1).f1)) := (blk_cell BK189.out 1).trans rfl; have hcz32_2 : w31.cell? ⟨gb189, 2, none⟩ = some (.int .i64 ((rd_T40 l1 x25_1).f2)) := (blk_cell BK189.out 2).trans rfl; have hcz32_3 : w31.cell? ⟨gb189, 3, none⟩ = some (.bool ((rd_T40 l1 x25_1).f3)) := (blk_cell BK189.out 3).trans rfl; have hfz32_0 := blk_frozen BK189.out 0; have hfz32_1 := blk_frozen BK189.out 1; have hfz32_2 := blk_frozen BK189.out 2; have hfz32_3 := blk_frozen BK189.out 3))
                              go_roundg k2
                              case measure => have := HK1.out; have := HK2.out; omega
                              case rel => exact ⟨(y194), (y197), (false), (wrap64 (x25_1 + 1)), (by first | rfl | (simp; done) | (simp [*]; done)), (by first | rfl | (simp; done) | (simp [*]; done)), H', ⟨by have := HK1.out; have := HK2.out; omega⟩, ⟨by (with_reducible repeat (first | apply Kd.R_alloc | apply Kd.R_drewN | apply Kd.R_drew)); exact Kd.R_mono HO196.out (fun _ hk => hk.2)⟩, ⟨by (with_reducible repeat (first | apply Kd.R_alloc | apply Kd.R_drewN | apply Kd.R_drew)); exact HO199.out⟩, ⟨by repeat (first | (with_reducible first | exact HB.out | apply below_alloc | apply pw_below_drewN | apply below_drew1 | refine below_set ?_ GE189.out) | exact HB.out)⟩⟩
                          · rw [if_neg c23] at H
                            have c23b0 : decide (((rd_T40 l1 x25_1).f1) ≤ 1) = false := decide_eq_false c23
                            clear c23
                            have H' := Aside0.mk H
                            clear H
                            have hcz33_0 : wr.cell? ⟨gb189, 0, none⟩ = some (.int .i64 ((rd_T40 l1 x25_1).f0)) := (blk_cell BK189.out 0).trans rfl
                            have hcz33_1 : wr.cell? ⟨gb189, 1, none⟩ = some (.int .i64 ((rd_T40 l1 x25_1).f1)) := (blk_cell BK189.out 1).trans rfl
                            have hcz33_2 : wr.cell? ⟨gb189, 2, none⟩ = some (.int .i64 ((rd_T40 l1 x25_1).f2)) := (blk_cell BK189.out 2).trans rfl
                            have hcz33_3 : wr.cell? ⟨gb189, 3, none⟩ = some (.bool ((rd_T40 l1 x25_1).f3)) := (blk_cell BK189.out 3).trans rfl
                            have hfz33_0 := blk_frozen BK189.out 0
                            have hfz33_1 := blk_frozen BK189.out 1
                            have hfz33_2 := blk_frozen BK189.out 2
                            have hfz33_3 := blk_frozen BK189.out 3
                            go_wp2_with (first | ((with_reducible refine gate_builtin (b := .append) (xs := #[.tmp 56, .tmp 59]) rfl ?_); at_builtin; refine Kd.R_append (Kd.int .i64) (w0 := w) w.heap.size rfl (.tmp 56) (.tmp 59) 22 3 (.int .i64 0) 8 rfl Try.underlying22 info3 rfl (by decide) (by omega) u7 x7_1 ((rd_T40 l1 x25_1).f0) [.int .i64 ((rd_T40 l1 x25_1).f0)] (fun k_ => some k_ ≠ (u8 : Value).ownBlock) (fun _ => False) rfl rfl ?aP (fun _ hk => hk.elim) ?aF ?aO ?aB ?aS ?aL ?_; (case aP => exact rfl); (case aB => exact (by repeat (first | (with_reducible first | exact HB.out | apply below_alloc | apply pw_below_drewN | apply below_drew1 | refine below_set ?_ GE189.out) | exact HB.out))); (case aF => exact (fun k_ hk => Kd.fresh' (Kd.R_lt (by (with_reducible repeat (first | apply Kd.R_alloc | apply Kd.R_drewN | apply Kd.R_drew)); exact HO_8.out)) k_ hk)); (case aO => exact (by (with_reducible repeat (first | apply Kd.R_alloc | apply Kd.R_drewN | apply Kd.R_drew)); exact HO_7.out)); (case aS => exact (below_size (by repeat (first | (with_reducible first | exact HB.out | apply below_alloc | apply pw_below_drewN | apply below_drew1 | refine below_set ?_ GE189.out) | exact HB.out)))); (case aL => have := LMc19.out; omega); intro v195 w34 ho hb hg hat; rw [← Ny194.out] at ho; have n0_ := Aside0.mk (Kd.R_after (ok := (fun _ => True)) (by (with_reducible repeat (first | apply Kd.R_alloc | apply Kd.R_drewN | apply Kd.R_drew)); exact Kd.R_mono HO_8.out (fun _ hk => by first | exact ⟨trivial, hk⟩ | exact hk | exact hk.1 | exact hk.2 | exact hk.1.1 | exact hk.1.2 | exact ⟨hk.1.1, hk.1.2⟩)) hg hat); have n1_ := Aside0.mk (Kd.R_over' (by (with_reducible repeat (first | apply Kd.R_alloc | apply Kd.R_drewN | apply Kd.R_drew)); exact HO_43.out) (Kd.R_typed (by (with_reducible repeat (first | apply Kd.R_alloc | apply Kd.R_drewN | apply Kd.R_drew)); exact HO_7.out)) (by decide) hg); have n2_ := Aside0.mk (blk_grown (g := gb189) (o := .cells #[.int .i64 ((rd_T40 l1 x25_1).f0), .int .i64 ((rd_T40 l1 x25_1).f1), .int .i64 ((rd_T40 l1 x25_1).f2), .bool ((rd_T40 l1 x25_1).f3)] 40 (0, 0)) (by (with_reducible repeat (first | refine blk_drewN ?_ _ | refine blk_drew ?_ | refine blk_alloc ?_ _)); exact BK189.out) hg (Kd.R_ne HO_7.out BK189.out (by decide))); have n3_ := Aside0.mk (hb); have n4_ := Aside0.mk (ho); clear HO_8; clear HO_43; clear BK189; clear HB; clear HO_7; have HO_8 := n0_; have HO_43 := n1_; have BK189 := n2_; have HB := n3_; have HO196 := n4_; clear n0_ n1_ n2_ n3_ n4_; clear ho hb hg hat) | ((with_reducible refine gate_builtin (b := .append) (xs := #[.tmp 61, .tmp 63]) rfl ?_); at_builtin; refine Kd.R_append (Kd.int .i64) (w0 := w) w.heap.size rfl (.tmp 61) (.tmp 63) 22 3 (.int .i64 0) 8 rfl Try.underlying22 info3 rfl (by decide) (by omega) u8 x8_1 x12_2 [.int .i64 x12_2] (fun k_ => some k_ ≠ (v195 : Value).ownBlock) (fun _ => False) rfl rfl ?aP (fun _ hk => hk.elim) ?aF ?aO ?aB ?aS ?aL ?_; (case aP => exact rfl); (case aB => exact (by repeat (first | (with_reducible first | exact HB.out | apply below_alloc | apply pw_below_drewN | apply below_drew1 | refine below_set ?_ GE189.out) | exact HB.out))); (case aF => exact (fun k_ hk => Kd.fresh' (Kd.R_lt (by (with_reducible repeat (first | apply Kd.R_alloc | apply Kd.R_drewN | apply Kd.R_drew)); exact HO196.out)) k_ hk)); (case aO => exact (by (with_reducible repeat (first | apply Kd.R_alloc | apply Kd.R_drewN | apply Kd.R_drew)); exact Kd.R_mono HO_8.out (fun _ hk => hk.2))); (case aS => exact (below_size (by repeat (first | (with_reducible first | exact HB.out | apply below_alloc | apply pw_below_drewN | apply below_drew1 | refine below_set ?_ GE189.out) | exact HB.out)))); (case aL => have := LMc20.out; omega); intro v198 w35 ho hb hg hat; rw [← Ny197.out] at ho; have n0_ := Aside0.mk (Kd.R_over' (by (with_reducible repeat (first | apply Kd.R_alloc | apply Kd.R_drewN | apply Kd.R_drew)); exact HO_43.out) (Kd.R_typed (by (with_reducible repeat (first | apply Kd.R_alloc | apply Kd.R_drewN | apply Kd.R_drew)); exact HO_8.out)) (by decide) hg); have n1_ := Aside0.mk (blk_grown (g := gb189) (o := .cells #[.int .i64 ((rd_T40 l1 x25_1).f0), .int .i64 ((rd_T40 l1 x25_1).f1), .int .i64 ((rd_T40 l1 x25_1).f2), .bool ((rd_T40 l1 x25_1).f3)] 40 (0, 0)) (by (with_reducible repeat (first | refine blk_drewN ?_ _ | refine blk_drew ?_ | refine blk_alloc ?_ _)); exact BK189.out) hg (Kd.R_ne HO_8.out BK189.out (by decide))); have n2_ := Aside0.mk (Kd.R_after (ok := (fun _ => True)) (by (with_reducible repeat (first | apply Kd.R_alloc | apply Kd.R_drewN | apply Kd.R_drew)); exact Kd.R_mono HO196.out (fun _ hk => by first | exact ⟨trivial, hk⟩ | exact hk | exact hk.1 | exact hk.2 | exact hk.1.1 | exact hk.1.2 | exact ⟨hk.1.1, hk.1.2⟩)) hg hat); have n3_ := Aside0.mk (hb); have n4_ := Aside0.mk (ho); clear HO_43; clear BK189; clear HO196; clear HB; clear HO_8; have HO_43 := n0_; have BK189 := n1_; have HO196 := n2_; have HB := n3_; have HO199 := n4_; clear n0_ n1_ n2_ n3_ n4_; clear ho hb hg hat; have hcz36_0 : w35.cell? ⟨gb189, 0, none⟩ = some (.int .i64 ((rd_T40 l1 x25_1).f0)) := (blk_cell BK189.out 0).trans rfl; have hcz36_1 : w35.cell? ⟨gb189, 1, none⟩ = some (.int .i64 ((rd_T40 l1 x25_1).f1)) := (blk_cell BK189.out 1).trans rfl; have hcz36_2 : w35.cell? ⟨gb189, 2, none⟩ = some (.int .i64 ((rd_T40 l1 x25_1).f2)) := (blk_cell BK189.out 2).trans rfl; have hcz36_3 : w35.cell? ⟨gb189, 3, none⟩ = some (.bool ((rd_T40 l1 x25_1).f3)) := (blk_cell BK189.out 3).trans rfl; have hfz36_0 := blk_frozen BK189.out 0; have hfz36_1 := blk_frozen BK189.out 1; have hfz36_2 := blk_frozen BK189.out 2; have hfz36_3 := blk_frozen BK189.out 3))
                            go_roundg k2
                            case measure => have := HK1.out; have := HK2.out; omega
                            case rel => exact ⟨(y194), (y197), (false), (wrap64 (x25_1 + 1)), (by first | rfl | (simp; done) | (simp [*]; done)), (by first | rfl | (simp; done) | (simp [*]; done)), H', ⟨by have := HK1.out; have := HK2.out; omega⟩, ⟨by (with_reducible repeat (first | apply Kd.R_alloc | apply Kd.R_drewN | apply Kd.R_drew)); exact Kd.R_mono HO196.out (fun _ hk => hk.2)⟩, ⟨by (with_reducible repeat (first | apply Kd.R_alloc | apply Kd.R_drewN | apply Kd.R_drew)); exact HO199.out⟩, ⟨by repeat (first | (with_reducible first | exact HB.out | apply below_alloc | apply pw_below_drewN | apply below_drew1 | refine below_set ?_ GE189.out) | exact HB.out)⟩⟩
                        · rw [if_neg c22] at H
                          have c22b0 : decide ((-1) ≤ ((rd_T40 l1 x25_1).f1)) = false := decide_eq_false c22
                          clear c22
                          have H' := Aside0.mk H
                          clear H
                          have hcz37_0 : wr.cell? ⟨gb189, 0, none⟩ = some (.int .i64 ((rd_T40 l1 x25_1).f0)) := (blk_cell BK189.out 0).trans rfl
                          have hcz37_1 : wr.cell? ⟨gb189, 1, none⟩ = some (.int .i64 ((rd_T40 l1 x25_1).f1)) := (blk_cell BK189.out 1).trans rfl
                          have hcz37_2 : wr.cell? ⟨gb189, 2, none⟩ = some (.int .i64 ((rd_T40 l1 x25_1).f2)) := (blk_cell BK189.out 2).trans rfl
                          have hcz37_3 : wr.cell? ⟨gb189, 3, none⟩ = some (.bool ((rd_T40 l1 x25_1).f3)) := (blk_cell BK189.out 3).trans rfl
                          have hfz37_0 := blk_frozen BK189.out 0
                          have hfz37_1 := blk_frozen BK189.out 1
                          have hfz37_2 := blk_frozen BK189.out 2
                          have hfz37_3 := blk_frozen BK189.out 3
                          go_wp2_with (first | ((with_reducible refine gate_builtin (b := .append) (xs := #[.tmp 56, .tmp 59]) rfl ?_); at_builtin; refine Kd.R_append (Kd.int .i64) (w0 := w) w.heap.size rfl (.tmp 56) (.tmp 59) 22 3 (.int .i64 0) 8 rfl Try.underlying22 info3 rfl (by decide) (by omega) u7 x7_1 ((rd_T40 l1 x25_1).f0) [.int .i64 ((rd_T40 l1 x25_1).f0)] (fun k_ => some k_ ≠ (u8 : Value).ownBlock) (fun _ => False) rfl rfl ?aP (fun _ hk => hk.elim) ?aF ?aO ?aB ?aS ?aL ?_; (case aP => exact rfl); (case aB => exact (by repeat (first | (with_reducible first | exact HB.out | apply below_alloc | apply pw_below_drewN | apply below_drew1 | refine below_set ?_ GE189.out) | exact HB.out))); (case aF => exact (fun k_ hk => Kd.fresh' (Kd.R_lt (by (with_reducible repeat (first | apply Kd.R_alloc | apply Kd.R_drewN | apply Kd.R_drew)); exact HO_8.out)) k_ hk)); (case aO => exact (by (with_reducible repeat (first | apply Kd.R_alloc | apply Kd.R_drewN | apply Kd.R_drew)); exact HO_7.out)); (case aS => exact (below_size (by repeat (first | (with_reducible first | exact HB.out | apply below_alloc | apply pw_below_drewN | apply below_drew1 | refine below_set ?_ GE189.out) | exact HB.out)))); (case aL => have := LMc19.out; omega); intro v195 w38 ho hb hg hat; rw [← Ny194.out] at ho; have n0_ := Aside0.mk (Kd.R_after (ok := (fun _ => True)) (by (with_reducible repeat (first | apply Kd.R_alloc | apply Kd.R_drewN | apply Kd.R_drew)); exact Kd.R_mono HO_8.out (fun _ hk => by first | exact ⟨trivial, hk⟩ | exact hk | exact hk.1 | exact hk.2 | exact hk.1.1 | exact hk.1.2 | exact ⟨hk.1.1, hk.1.2⟩)) hg hat); have n1_ := Aside0.mk (Kd.R_over' (by (with_reducible repeat (first | apply Kd.R_alloc | apply Kd.R_drewN | apply Kd.R_drew)); exact HO_43.out) (Kd.R_typed (by (with_reducible repeat (first | apply Kd.R_alloc | apply Kd.R_drewN | apply Kd.R_drew)); exact HO_7.out)) (by decide) hg); have n2_ := Aside0.mk (blk_grown (g := gb189) (o := .cells #[.int .i64 ((rd_T40 l1 x25_1).f0), .int .i64 ((rd_T40 l1 x25_1).f1), .int .i64 ((rd_T40 l1 x25_1).f2), .bool ((rd_T40 l1 x25_1).f3)] 40 (0, 0)) (by (with_reducible repeat (first | refine blk_drewN ?_ _ | refine blk_drew ?_ | refine blk_alloc ?_ _)); exact BK189.out) hg (Kd.R_ne HO_7.out BK189.out (by decide))); have n3_ := Aside0.mk (hb); have n4_ := Aside0.mk (ho); clear HO_8; clear HO_43; clear BK189; clear HB; clear HO_7; have HO_8 := n0_; have HO_43 := n1_; have BK189 := n2_; have HB := n3_; have HO196 := n4_; clear n0_ n1_ n2_ n3_ n4_; clear ho hb hg hat) | ((with_reducible refine gate_builtin (b := .append) (xs := #[.tmp 61, .tmp 63]) rfl ?_); at_builtin; refine Kd.R_append (Kd.int .i64) (w0 := w) w.heap.size rfl (.tmp 61) (.tmp 63) 22 3 (.int .i64 0) 8 rfl Try.underlying22 info3 rfl (by decide) (by omega) u8 x8_1 x12_2 [.int .i64 x12_2] (fun k_ => some k_ ≠ (v195 : Value).ownBlock) (fun _ => False) rfl rfl ?aP (fun _ hk => hk.elim) ?aF ?aO ?aB ?aS ?aL ?_; (case aP => exact rfl); (case aB => exact (by repeat (first | (with_reducible first | exact HB.out | apply below_alloc | apply pw_below_drewN | apply below_drew1 | refine below_set ?_ GE189.out) | exact HB.out))); (case aF => exact (fun k_ hk => Kd.fresh' (Kd.R_lt (by (with_reducible repeat (first | apply Kd.R_alloc | apply Kd.R_drewN | apply Kd.R_drew)); exact HO196.out)) k_ hk)); (case aO => exact (by (with_reducible repeat (first | apply Kd.R_alloc | apply Kd.R_drewN | apply Kd.R_drew)); exact Kd.R_mono HO_8.out (fun _ hk => hk.2))); (case aS => exact (below_size (by repeat (first | (with_reducible first | exact HB.out | apply below_alloc | apply pw_below_drewN | apply below_drew1 | refine below_set ?_ GE189.out) | exact HB.out)))); (case aL => have := LMc20.out; omega); intro v198 w39 ho hb hg hat; rw [← Ny197.out] at ho; have n0_ := Aside0.mk (Kd.R_over' (by (with_reducible repeat (first | apply Kd.R_alloc | apply Kd.R_drewN | apply Kd.R_drew)); exact HO_43.out) (Kd.R_typed (by (with_reducible repeat (first | apply Kd.R_alloc | apply Kd.R_drewN | apply Kd.R_drew)); exact HO_8.out)) (by decide) hg); have n1_ := Aside0.mk (blk_grown (g := gb189) (o := .cells #[.int .i64 ((rd_T40 l1 x25_1).f0), .int .i64 ((rd_T40 l1 x25_1).f1), .int .i64 ((rd_T40 l1 x25_1).f2), .bool ((rd_T40 l1 x25_1).f3)] 40 (0, 0)) (by (with_reducible repeat (first | refine blk_drewN ?_ _ | refine blk_drew ?_ | refine blk_alloc ?_ _)); exact BK189.out) hg (Kd.R_ne HO_8.out BK189.out (by decide))); have n2_ := Aside0.mk (Kd.R_after (ok := (fun _ => True)) (by (with_reducible repeat (first | apply Kd.R_alloc | apply Kd.R_drewN | apply Kd.R_drew)); exact Kd.R_mono HO196.out (fun _ hk => by first | exact ⟨trivial, hk⟩ | exact hk | exact hk.1 | exact hk.2 | exact hk.1.1 | exact hk.1.2 | exact ⟨hk.1.1, hk.1.2⟩)) hg hat); have n3_ := Aside0.mk (hb); have n4_ := Aside0.mk (ho); clear HO_43; clear BK189; clear HO196; clear HB; clear HO_8; have HO_43 := n0_; have BK189 := n1_; have HO196 := n2_; have HB := n3_; have HO199 := n4_; clear n0_ n1_ n2_ n3_ n4_; clear ho hb hg hat; have hcz40_0 : w39.cell? ⟨gb189, 0, none⟩ = some (.int .i64 ((rd_T40 l1 x25_1).f0)) := (blk_cell BK189.out 0).trans rfl; have hcz40_1 : w39.cell? ⟨gb189, 1, none⟩ = some (.int .i64 ((rd_T40 l1 x25_1).f1)) := (blk_cell BK189.out 1).trans rfl; have hcz40_2 : w39.cell? ⟨gb189, 2, none⟩ = some (.int .i64 ((rd_T40 l1 x25_1).f2)) := (blk_cell BK189.out 2).trans rfl; have hcz40_3 : w39.cell? ⟨gb189, 3, none⟩ = some (.bool ((rd_T40 l1 x25_1).f3)) := (blk_cell BK189.out 3).trans rfl; have hfz40_0 := blk_frozen BK189.out 0; have hfz40_1 := blk_frozen BK189.out 1; have hfz40_2 := blk_frozen BK189.out 2; have hfz40_3 := blk_frozen BK189.out 3))
                          go_roundg k2
                          case measure => have := HK1.out; have := HK2.out; omega
                          case rel => exact ⟨(y194), (y197), (false), (wrap64 (x25_1 + 1)), (by first | rfl | (simp; done) | (simp [*]; done)), (by first | rfl | (simp; done) | (simp [*]; done)), H', ⟨by have := HK1.out; have := HK2.out; omega⟩, ⟨by (with_reducible repeat (first | apply Kd.R_alloc | apply Kd.R_drewN | apply Kd.R_drew)); exact Kd.R_mono HO196.out (fun _ hk => hk.2)⟩, ⟨by (with_reducible repeat (first | apply Kd.R_alloc | apply Kd.R_drewN | apply Kd.R_drew)); exact HO199.out⟩, ⟨by repeat (first | (with_reducible first | exact HB.out | apply below_alloc | apply pw_below_drewN | apply below_drew1 | refine below_set ?_ GE189.out) | exact HB.out)⟩⟩
                      · replace c21 := Bool.eq_false_iff.mpr c21
                        subst c21
                        have H1 : (bakelaw3_KeysJoys.l0 k2 a0 l1 l2 y194 y197 false l1 (l1.length : Int) (wrap64 (x25_1 + 1))) = some r := by rw [if_neg (show ¬ (false = true) by decide)] at H; exact H
                        clear H
                        have H := H1
                        clear H1
                        have H' := Aside0.mk H
                        clear H
                        have hcz41_0 : wr.cell? ⟨gb189, 0, none⟩ = some (.int .i64 ((rd_T40 l1 x25_1).f0)) := (blk_cell BK189.out 0).trans rfl
                        have hcz41_1 : wr.cell? ⟨gb189, 1, none⟩ = some (.int .i64 ((rd_T40 l1 x25_1).f1)) := (blk_cell BK189.out 1).trans rfl
                        have hcz41_2 : wr.cell? ⟨gb189, 2, none⟩ = some (.int .i64 ((rd_T40 l1 x25_1).f2)) := (blk_cell BK189.out 2).trans rfl
                        have hcz41_3 : wr.cell? ⟨gb189, 3, none⟩ = some (.bool ((rd_T40 l1 x25_1).f3)) := (blk_cell BK189.out 3).trans rfl
                        have hfz41_0 := blk_frozen BK189.out 0
                        have hfz41_1 := blk_frozen BK189.out 1
                        have hfz41_2 := blk_frozen BK189.out 2
                        have hfz41_3 := blk_frozen BK189.out 3
                        go_wp2_with (first | ((with_reducible refine gate_builtin (b := .append) (xs := #[.tmp 56, .tmp 59]) rfl ?_); at_builtin; refine Kd.R_append (Kd.int .i64) (w0 := w) w.heap.size rfl (.tmp 56) (.tmp 59) 22 3 (.int .i64 0) 8 rfl Try.underlying22 info3 rfl (by decide) (by omega) u7 x7_1 ((rd_T40 l1 x25_1).f0) [.int .i64 ((rd_T40 l1 x25_1).f0)] (fun k_ => some k_ ≠ (u8 : Value).ownBlock) (fun _ => False) rfl rfl ?aP (fun _ hk => hk.elim) ?aF ?aO ?aB ?aS ?aL ?_; (case aP => exact rfl); (case aB => exact (by repeat (first | (with_reducible first | exact HB.out | apply below_alloc | apply pw_below_drewN | apply below_drew1 | refine below_set ?_ GE189.out) | exact HB.out))); (case aF => exact (fun k_ hk => Kd.fresh' (Kd.R_lt (by (with_reducible repeat (first | apply Kd.R_alloc | apply Kd.R_drewN | apply Kd.R_drew)); exact HO_8.out)) k_ hk)); (case aO => exact (by (with_reducible repeat (first | apply Kd.R_alloc | apply Kd.R_drewN | apply Kd.R_drew)); exact HO_7.out)); (case aS => exact (below_size (by repeat (first | (with_reducible first | exact HB.out | apply below_alloc | apply pw_below_drewN | apply below_drew1 | refine below_set ?_ GE189.out) | exact HB.out)))); (case aL => have := LMc19.out; omega); intro v195 w42 ho hb hg hat; rw [← Ny194.out] at ho; have n0_ := Aside0.mk (Kd.R_after (ok := (fun _ => True)) (by (with_reducible repeat (first | apply Kd.R_alloc | apply Kd.R_drewN | apply Kd.R_drew)); exact Kd.R_mono HO_8.out (fun _ hk => by first | exact ⟨trivial, hk⟩ | exact hk | exact hk.1 | exact hk.2 | exact hk.1.1 | exact hk.1.2 | exact ⟨hk.1.1, hk.1.2⟩)) hg hat); have n1_ := Aside0.mk (Kd.R_over' (by (with_reducible repeat (first | apply Kd.R_alloc | apply Kd.R_drewN | apply Kd.R_drew)); exact HO_43.out) (Kd.R_typed (by (with_reducible repeat (first | apply Kd.R_alloc | apply Kd.R_drewN | apply Kd.R_drew)); exact HO_7.out)) (by decide) hg); have n2_ := Aside0.mk (blk_grown (g := gb189) (o := .cells #[.int .i64 ((rd_T40 l1 x25_1).f0), .int .i64 ((rd_T40 l1 x25_1).f1), .int .i64 ((rd_T40 l1 x25_1).f2), .bool ((rd_T40 l1 x25_1).f3)] 40 (0, 0)) (by (with_reducible repeat (first | refine blk_drewN ?_ _ | refine blk_drew ?_ | refine blk_alloc ?_ _)); exact BK189.out) hg (Kd.R_ne HO_7.out BK189.out (by decide))); have n3_ := Aside0.mk (hb); have n4_ := Aside0.mk (ho); clear HO_8; clear HO_43; clear BK189; clear HB; clear HO_7; have HO_8 := n0_; have HO_43 := n1_; have BK189 := n2_; have HB := n3_; have HO196 := n4_; clear n0_ n1_ n2_ n3_ n4_; clear ho hb hg hat) | ((with_reducible refine gate_builtin (b := .append) (xs := #[.tmp 61, .tmp 63]) rfl ?_); at_builtin; refine Kd.R_append (Kd.int .i64) (w0 := w) w.heap.size rfl (.tmp 61) (.tmp 63) 22 3 (.int .i64 0) 8 rfl Try.underlying22 info3 rfl (by decide) (by omega) u8 x8_1 x12_2 [.int .i64 x12_2] (fun k_ => some k_ ≠ (v195 : Value).ownBlock) (fun _ => False) rfl rfl ?aP (fun _ hk => hk.elim) ?aF ?aO ?aB ?aS ?aL ?_; (case aP => exact rfl); (case aB => exact (by repeat (first | (with_reducible first | exact HB.out | apply below_alloc | apply pw_below_drewN | apply below_drew1 | refine below_set ?_ GE189.out) | exact HB.out))); (case aF => exact (fun k_ hk => Kd.fresh' (Kd.R_lt (by (with_reducible repeat (first | apply Kd.R_alloc | apply Kd.R_drewN | apply Kd.R_drew)); exact HO196.out)) k_ hk)); (case aO => exact (by (with_reducible repeat (first | apply Kd.R_alloc | apply Kd.R_drewN | apply Kd.R_drew)); exact Kd.R_mono HO_8.out (fun _ hk => hk.2))); (case aS => exact (below_size (by repeat (first | (with_reducible first | exact HB.out | apply below_alloc | apply pw_below_drewN | apply below_drew1 | refine below_set ?_ GE189.out) | exact HB.out)))); (case aL => have := LMc20.out; omega); intro v198 w43 ho hb hg hat; rw [← Ny197.out] at ho; have n0_ := Aside0.mk (Kd.R_over' (by (with_reducible repeat (first | apply Kd.R_alloc | apply Kd.R_drewN | apply Kd.R_drew)); exact HO_43.out) (Kd.R_typed (by (with_reducible repeat (first | apply Kd.R_alloc | apply Kd.R_drewN | apply Kd.R_drew)); exact HO_8.out)) (by decide) hg); have n1_ := Aside0.mk (blk_grown (g := gb189) (o := .cells #[.int .i64 ((rd_T40 l1 x25_1).f0), .int .i64 ((rd_T40 l1 x25_1).f1), .int .i64 ((rd_T40 l1 x25_1).f2), .bool ((rd_T40 l1 x25_1).f3)] 40 (0, 0)) (by (with_reducible repeat (first | refine blk_drewN ?_ _ | refine blk_drew ?_ | refine blk_alloc ?_ _)); exact BK189.out) hg (Kd.R_ne HO_8.out BK189.out (by decide))); have n2_ := Aside0.mk (Kd.R_after (ok := (fun _ => True)) (by (with_reducible repeat (first | apply Kd.R_alloc | apply Kd.R_drewN | apply Kd.R_drew)); exact Kd.R_mono HO196.out (fun _ hk => by first | exact ⟨trivial, hk⟩ | exact hk | exact hk.1 | exact hk.2 | exact hk.1.1 | exact hk.1.2 | exact ⟨hk.1.1, hk.1.2⟩)) hg hat); have n3_ := Aside0.mk (hb); have n4_ := Aside0.mk (ho); clear HO_43; clear BK189; clear HO196; clear HB; clear HO_8; have HO_43 := n0_; have BK189 := n1_; have HO196 := n2_; have HB := n3_; have HO199 := n4_; clear n0_ n1_ n2_ n3_ n4_; clear ho hb hg hat))
                        go_roundg k2
                        case measure => have := HK1.out; have := HK2.out; omega
                        case rel => exact ⟨(y194), (y197), (false), (wrap64 (x25_1 + 1)), (by first | rfl | (simp; done) | (simp [*]; done)), (by first | rfl | (simp; done) | (simp [*]; done)), H', ⟨by have := HK1.out; have := HK2.out; omega⟩, ⟨by (with_reducible repeat (first | apply Kd.R_alloc | apply Kd.R_drewN | apply Kd.R_drew)); exact Kd.R_mono HO196.out (fun _ hk => hk.2)⟩, ⟨by (with_reducible repeat (first | apply Kd.R_alloc | apply Kd.R_drewN | apply Kd.R_drew)); exact HO199.out⟩, ⟨by repeat (first | (with_reducible first | exact HB.out | apply below_alloc | apply pw_below_drewN | apply below_drew1 | refine below_set ?_ GE189.out) | exact HB.out)⟩⟩
                    · rw [if_neg c20] at H
                      exact absurd H (by simp)
                  · rw [if_neg c19] at H
                    exact absurd H (by simp)
          · rw [if_neg c6] at H
            exact absurd H (by simp)
        · rw [if_neg c5] at H
          exact absurd H (by simp)
      · rw [if_neg c4] at H
        have c4b0 : decide (x25_1 < (l1.length : Int)) = false := decide_eq_false c4
        clear c4
        replace H := Option.bind_eq_some_iff.mp H
        obtain ⟨t200, A440, H⟩ := H
        replace H : (if t200 = 0 then (bakelaw3_KeysJoys.j2 k1 a0 l1 l2 x7_1 x8_1 t200 (!x9_1)) else (bakelaw3_KeysJoys.j2 k1 a0 l1 l2 x7_1 x8_1 t200 false)) = some r := H
        have A44 := Aside0.mk A440
        clear A440
        have HC45 := Aside0.mk H
        clear H
        obtain ⟨Ao46, co46, eo46⟩ := Kd.R_slice HO_7.out
        subst eo46
        go_upto_region 17 with (first | ((with_reducible refine gate_callee (f := 23) rfl ?_); refine goesL_ (some 88) rfl rfl Try.func23 (by kernel_rfl) rfl #[.slice Ao46 x7_1.length co46] rfl (by (try simp only [List.map_toArray, List.map_cons, List.map_nil]); first | done | rfl | (simp only [List.length_drop, List.length_take]; rfl)) ?_; (with_reducible refine (bakeref3_TimesFault.calls k1 _ _ x7_1 t200 _ ?side1 ?side2 A44.out).mono ?_); (case side1 => repeat (first | exact (Kd.R_reads' HO_7.out).2.2 | (with_reducible refine Kd.C_alloc ?_ _) | (with_reducible refine Kd.C_drewN ?_ _) | (with_reducible refine Kd.C_drew ?_))); (case side2 => exact (Kd.R_reads' HO_7.out).2.1); rintro e w' ⟨rfl, ⟨nd, rfl⟩⟩; refine ⟨_, rfl, ?_⟩))
        (try simp only [Act.put, List.setIfInBounds_toArray, List.set_cons_zero, List.set_cons_succ])
        go_cut [94] (fun v94 wc => ∃ (kq : Nat) (x94_44 : Bool), v94 = .bool x94_44 ∧ Aside0 (bakelaw3_KeysJoys.j2 kq a0 l1 l2 x7_1 x8_1 t200 x94_44 = some r) ∧ Aside0 (kq ≤ k1) ∧ Aside0 (Kd.R (Kd.int .i64) 3 wc w.heap.size (fun k_ => some k_ ≠ (u8 : Value).ownBlock) (.slice Ao46 x7_1.length co46) x7_1) ∧ Aside0 (Kd.R (Kd.int .i64) 3 wc w.heap.size (fun k_ => some k_ ≠ ((.slice Ao46 x7_1.length co46) : Value).ownBlock) u8 x8_1) ∧ Aside0 (Below w.heap.size w wc))
        case first =>
          as_aux_lemma =>
          have H := HC45.out
          clear HC45
          by_cases c47 : t200 = 0
          · rw [if_pos c47] at H
            have c47b0 : (t200 == 0) = true := beq_iff_eq.mpr c47
            have c47b1 : (t200 != 0) = false := bne_eq_false_iff_eq.mpr c47
            clear c47
            (first | rw [c47b0] | (simp only [i64_w, i32_w]; rw [c47b0]) | skip)
            have H' := Aside0.mk H
            clear H
            go_wp2
            go_meet
            case rel => exact ⟨_, (!x9_1), (by first | rfl | (simp; done) | (simp [*]; done)), H', ⟨by have := HK1.out; first | omega | exact Nat.le_refl _⟩, ⟨by (with_reducible repeat (first | apply Kd.R_alloc | apply Kd.R_drewN | apply Kd.R_drew)); exact HO_7.out⟩, ⟨by (with_reducible repeat (first | apply Kd.R_alloc | apply Kd.R_drewN | apply Kd.R_drew)); exact HO_8.out⟩, ⟨by repeat (first | (with_reducible first | exact HB.out | apply below_alloc | apply pw_below_drewN | apply below_drew1) | exact HB.out)⟩⟩
          · rw [if_neg c47] at H
            have c47b0 : (t200 == 0) = false := beq_eq_false_iff_ne.mpr c47
            have c47b1 : (t200 != 0) = true := bne_iff_ne.mpr c47
            (first | rw [c47b0] | (simp only [i64_w, i32_w]; rw [c47b0]) | skip)
            have H' := Aside0.mk H
            clear H
            go_wp2
            go_meet
            case rel => exact ⟨_, (false), (by first | rfl | (simp; done) | (simp [*]; done)), H', ⟨by have := HK1.out; first | omega | exact Nat.le_refl _⟩, ⟨by (with_reducible repeat (first | apply Kd.R_alloc | apply Kd.R_drewN | apply Kd.R_drew)); exact HO_7.out⟩, ⟨by (with_reducible repeat (first | apply Kd.R_alloc | apply Kd.R_drewN | apply Kd.R_drew)); exact HO_8.out⟩, ⟨by repeat (first | (with_reducible first | exact HB.out | apply below_alloc | apply pw_below_drewN | apply below_drew1) | exact HB.out)⟩⟩
        case rest =>
          clear HC45
          try clear c1
          try clear p1
          try clear q1
          try clear hx1
          try clear c2
          try clear p2
          try clear c4
          try clear c4b0
          try clear c5
          try clear c5b0
          try clear c6
          try clear c6b0
          try clear p6
          try clear c12
          try clear c12b0
          try clear c13
          try clear c13b0
          try clear c14
          try clear c14b0
          try clear q15
          try clear c16
          try clear c17
          try clear c17b0
          try clear p18
          try clear q18
          try clear hx18
          try clear c19
          try clear p19
          try clear q19
          try clear hx19
          try clear c20
          try clear c21
          try clear c22
          try clear c22b0
          try clear c23
          try clear c23b0
          try clear c24
          try clear c24b0
          try clear c47
          try clear c47b0
          try clear c47b1
          try clear hcz25_0
          try clear hcz25_1
          try clear hcz25_2
          try clear hcz25_3
          try clear hcz28_0
          try clear hcz28_1
          try clear hcz28_2
          try clear hcz28_3
          try clear hcz29_0
          try clear hcz29_1
          try clear hcz29_2
          try clear hcz29_3
          try clear hcz32_0
          try clear hcz32_1
          try clear hcz32_2
          try clear hcz32_3
          try clear hcz33_0
          try clear hcz33_1
          try clear hcz33_2
          try clear hcz33_3
          try clear hcz36_0
          try clear hcz36_1
          try clear hcz36_2
          try clear hcz36_3
          try clear hcz37_0
          try clear hcz37_1
          try clear hcz37_2
          try clear hcz37_3
          try clear hcz40_0
          try clear hcz40_1
          try clear hcz40_2
          try clear hcz40_3
          try clear hcz41_0
          try clear hcz41_1
          try clear hcz41_2
          try clear hcz41_3
          try clear hcz8_0
          try clear hcz8_1
          try clear hcz8_2
          try clear hcz8_3
          try clear hfz25_0
          try clear hfz25_1
          try clear hfz25_2
          try clear hfz25_3
          try clear hfz28_0
          try clear hfz28_1
          try clear hfz28_2
          try clear hfz28_3
          try clear hfz29_0
          try clear hfz29_1
          try clear hfz29_2
          try clear hfz29_3
          try clear hfz32_0
          try clear hfz32_1
          try clear hfz32_2
          try clear hfz32_3
          try clear hfz33_0
          try clear hfz33_1
          try clear hfz33_2
          try clear hfz33_3
          try clear hfz36_0
          try clear hfz36_1
          try clear hfz36_2
          try clear hfz36_3
          try clear hfz37_0
          try clear hfz37_1
          try clear hfz37_2
          try clear hfz37_3
          try clear hfz40_0
          try clear hfz40_1
          try clear hfz40_2
          try clear hfz40_3
          try clear hfz41_0
          try clear hfz41_1
          try clear hfz41_2
          try clear hfz41_3
          try clear hfz8_0
          try clear hfz8_1
          try clear hfz8_2
          try clear hfz8_3
          try clear hx188_0
          try clear hx188_1
          try clear hx188_2
          try clear hx188_3
          try clear hx193_0
          try clear p1
          try clear p188
          try clear p193
          try clear p2
          try clear q1
          try clear q188
          try clear q193
          obtain ⟨kq, x94_44, rfl, HA, HJ44, HO_7, HO_8, HB⟩ := hcut
          cases kq with
          | zero => exact absurd HA.out (by simp [bakelaw3_KeysJoys.j2])
          | succ kj44 =>
            have H := HA.out
            clear HA
            simp only [bakelaw3_KeysJoys.j2] at H
            have HC48 := Aside0.mk H
            clear H
            go_upto_if 94 with (fail)
            go_cut [15] (fun v15 wc => ∃ (kq : Nat) (x15_47 : Int), v15 = .int .i64 x15_47 ∧ Aside0 (bakelaw3_KeysJoys.j3 kq a0 l1 l2 x7_1 x8_1 x15_47 = some r) ∧ Aside0 (kq ≤ kj44) ∧ Aside0 (Kd.R (Kd.int .i64) 3 wc w.heap.size (fun k_ => some k_ ≠ (u8 : Value).ownBlock) (.slice Ao46 x7_1.length co46) x7_1) ∧ Aside0 (Kd.R (Kd.int .i64) 3 wc w.heap.size (fun k_ => some k_ ≠ ((.slice Ao46 x7_1.length co46) : Value).ownBlock) u8 x8_1) ∧ Aside0 (Below w.heap.size w wc))
            case first =>
              as_aux_lemma =>
              have H := HC48.out
              clear HC48
              by_cases c49 : x94_44 = true
              · subst c49
                have H1 : (bakelaw3_KeysJoys.j3 kj44 a0 l1 l2 x7_1 x8_1 1) = some r := by rw [if_pos rfl] at H; exact H
                clear H
                have H := H1
                clear H1
                have H' := Aside0.mk H
                clear H
                go_wp2
                go_meet
                case rel => exact ⟨_, (1), (by first | rfl | (simp; done) | (simp [*]; done)), H', ⟨by have := HK1.out; have := HJ44.out; first | omega | exact Nat.le_refl _⟩, ⟨by (with_reducible repeat (first | apply Kd.R_alloc | apply Kd.R_drewN | apply Kd.R_drew)); exact HO_7.out⟩, ⟨by (with_reducible repeat (first | apply Kd.R_alloc | apply Kd.R_drewN | apply Kd.R_drew)); exact HO_8.out⟩, ⟨by repeat (first | (with_reducible first | exact HB.out | apply below_alloc | apply pw_below_drewN | apply below_drew1) | exact HB.out)⟩⟩
              · replace c49 := Bool.eq_false_iff.mpr c49
                subst c49
                have H1 : (bakelaw3_KeysJoys.j3 kj44 a0 l1 l2 x7_1 x8_1 t200) = some r := by rw [if_neg (show ¬ (false = true) by decide)] at H; exact H
                clear H
                have H := H1
                clear H1
                have H' := Aside0.mk H
                clear H
                go_wp2
                go_meet
                case rel => exact ⟨_, (t200), (by first | rfl | (simp; done) | (simp [*]; done)), H', ⟨by have := HK1.out; have := HJ44.out; first | omega | exact Nat.le_refl _⟩, ⟨by (with_reducible repeat (first | apply Kd.R_alloc | apply Kd.R_drewN | apply Kd.R_drew)); exact HO_7.out⟩, ⟨by (with_reducible repeat (first | apply Kd.R_alloc | apply Kd.R_drewN | apply Kd.R_drew)); exact HO_8.out⟩, ⟨by repeat (first | (with_reducible first | exact HB.out | apply below_alloc | apply pw_below_drewN | apply below_drew1) | exact HB.out)⟩⟩
            case rest =>
              clear HC48
              try clear c1
              try clear p1
              try clear q1
              try clear hx1
              try clear c2
              try clear p2
              try clear c4
              try clear c4b0
              try clear c5
              try clear c5b0
              try clear c6
              try clear c6b0
              try clear p6
              try clear c12
              try clear c12b0
              try clear c13
              try clear c13b0
              try clear c14
              try clear c14b0
              try clear q15
              try clear c16
              try clear c17
              try clear c17b0
              try clear p18
              try clear q18
              try clear hx18
              try clear c19
              try clear p19
              try clear q19
              try clear hx19
              try clear c20
              try clear c21
              try clear c22
              try clear c22b0
              try clear c23
              try clear c23b0
              try clear c24
              try clear c24b0
              try clear c47
              try clear c47b0
              try clear c47b1
              try clear c49
              try clear hcz25_0
              try clear hcz25_1
              try clear hcz25_2
              try clear hcz25_3
              try clear hcz28_0
              try clear hcz28_1
              try clear hcz28_2
              try clear hcz28_3
              try clear hcz29_0
              try clear hcz29_1
              try clear hcz29_2
              try clear hcz29_3
              try clear hcz32_0
              try clear hcz32_1
              try clear hcz32_2
              try clear hcz32_3
              try clear hcz33_0
              try clear hcz33_1
              try clear hcz33_2
              try clear hcz33_3
              try clear hcz36_0
              try clear hcz36_1
              try clear hcz36_2
              try clear hcz36_3
              try clear hcz37_0
              try clear hcz37_1
              try clear hcz37_2
              try clear hcz37_3
              try clear hcz40_0
              try clear hcz40_1
              try clear hcz40_2
              try clear hcz40_3
              try clear hcz41_0
              try clear hcz41_1
              try clear hcz41_2
              try clear hcz41_3
              try clear hcz8_0
              try clear hcz8_1
              try clear hcz8_2
              try clear hcz8_3
              try clear hfz25_0
              try clear hfz25_1
              try clear hfz25_2
              try clear hfz25_3
              try clear hfz28_0
              try clear hfz28_1
              try clear hfz28_2
              try clear hfz28_3
              try clear hfz29_0
              try clear hfz29_1
              try clear hfz29_2
              try clear hfz29_3
              try clear hfz32_0
              try clear hfz32_1
              try clear hfz32_2
              try clear hfz32_3
              try clear hfz33_0
              try clear hfz33_1
              try clear hfz33_2
              try clear hfz33_3
              try clear hfz36_0
              try clear hfz36_1
              try clear hfz36_2
              try clear hfz36_3
              try clear hfz37_0
              try clear hfz37_1
              try clear hfz37_2
              try clear hfz37_3
              try clear hfz40_0
              try clear hfz40_1
              try clear hfz40_2
              try clear hfz40_3
              try clear hfz41_0
              try clear hfz41_1
              try clear hfz41_2
              try clear hfz41_3
              try clear hfz8_0
              try clear hfz8_1
              try clear hfz8_2
              try clear hfz8_3
              try clear hx188_0
              try clear hx188_1
              try clear hx188_2
              try clear hx188_3
              try clear hx193_0
              try clear p1
              try clear p18
              try clear p188
              try clear p19
              try clear p193
              try clear p2
              try clear p6
              try clear q1
              try clear q15
              try clear q18
              try clear q188
              try clear q19
              try clear q193
              obtain ⟨kq, x15_47, rfl, HA, HJ47, HO_7, HO_8, HB⟩ := hcut
              cases kq with
              | zero => exact absurd HA.out (by simp [bakelaw3_KeysJoys.j3])
              | succ kj47 =>
                have H := HA.out
                clear HA
                simp only [bakelaw3_KeysJoys.j3] at H
                have HC50 := Aside0.mk H
                clear H
                go_upto_if 96 with (fail)
                go_cut [16] (fun v16 wc => ∃ (kq : Nat) (x16_49 : List (S47)), Aside0 (bakelaw3_KeysJoys.j4 kq a0 l1 l2 x15_47 x16_49 = some r) ∧ Aside0 (kq ≤ kj47) ∧ Aside0 (Kd.R k47 47 wc w.heap.size (fun _ => True) v16 x16_49) ∧ Aside0 (Below w.heap.size w wc))
                case first =>
                  as_aux_lemma =>
                  have H := HC50.out
                  clear HC50
                  by_cases c51 : x15_47 = 0
                  · rw [if_pos c51] at H
                    have c51b0 : (x15_47 == 0) = true := beq_iff_eq.mpr c51
                    have c51b1 : (x15_47 != 0) = false := bne_eq_false_iff_eq.mpr c51
                    clear c51
                    (first | rw [c51b0] | (simp only [i64_w, i32_w]; rw [c51b0]) | skip)
                    replace H := Option.bind_eq_some_iff.mp H
                    obtain ⟨t201, A520, H⟩ := H
                    replace H : (bakelaw3_KeysJoys.j4 kj47 a0 l1 l2 x15_47 t201) = some r := H
                    have A52 := Aside0.mk A520
                    clear A520
                    have H' := Aside0.mk H
                    clear H
                    obtain ⟨Ao53, co53, eo53⟩ := Kd.R_slice HO_8.out
                    subst eo53
                    go_wp2_with (first | ((with_reducible refine gate_callee (f := 24) rfl ?_); refine goesL_ (some 100) rfl rfl Try.func24 (by kernel_rfl) rfl #[.string a0, .slice Ao46 x7_1.length co46, .slice Ao53 x8_1.length co53] rfl (by (try simp only [List.map_toArray, List.map_cons, List.map_nil]); first | done | rfl | (simp only [List.length_drop, List.length_take]; rfl)) ?_; (with_reducible refine (bakeref3_Lined.calls kj47 a0 _ _ x7_1 _ _ x8_1 t201 _ ?side1 ?side2 ?side3 ?side4 A52.out).mono ?_); (case side1 => repeat (first | exact (Kd.R_reads' HO_7.out).2.2 | (with_reducible refine Kd.C_alloc ?_ _) | (with_reducible refine Kd.C_drewN ?_ _) | (with_reducible refine Kd.C_drew ?_))); (case side2 => exact (Kd.R_reads' HO_7.out).2.1); (case side3 => repeat (first | exact (Kd.R_reads' HO_8.out).2.2 | (with_reducible refine Kd.C_alloc ?_ _) | (with_reducible refine Kd.C_drewN ?_ _) | (with_reducible refine Kd.C_drew ?_))); (case side4 => exact (Kd.R_reads' HO_8.out).2.1); rintro e w54 ⟨v202, rfl, ho0, hb⟩; refine ⟨_, rfl, ?_⟩; have n0_ := Aside0.mk (Kd.R_below (by (with_reducible repeat (first | apply Kd.R_alloc | apply Kd.R_drewN | apply Kd.R_drew)); exact HO_7.out) hb); have n1_ := Aside0.mk (Kd.R_below (by (with_reducible repeat (first | apply Kd.R_alloc | apply Kd.R_drewN | apply Kd.R_drew)); exact HO_8.out) hb); have n2_ := Aside0.mk (Kd.R_lower ho0 (below_size (by repeat (first | (with_reducible first | exact HB.out | apply below_alloc | apply pw_below_drewN | apply below_drew1) | exact HB.out)))); have n3_ := Aside0.mk (below_step (by repeat (first | (with_reducible first | exact HB.out | apply below_alloc | apply pw_below_drewN | apply below_drew1) | exact HB.out)) hb); clear HO_7; clear HO_8; clear HB; have HO_7 := n0_; have HO_8 := n1_; have HO203 := n2_; have HB := n3_; clear n0_ n1_ n2_ n3_; (try clear hb); (try clear hb2); (try clear hk); (try clear hi); (try clear ho0)))
                    go_meet
                    case rel => exact ⟨_, (t201), H', ⟨by have := HK1.out; have := HJ44.out; have := HJ47.out; first | omega | exact Nat.le_refl _⟩, ⟨by (with_reducible repeat (first | apply Kd.R_alloc | apply Kd.R_drewN | apply Kd.R_drew)); exact HO203.out⟩, ⟨by repeat (first | (with_reducible first | exact HB.out | apply below_alloc | apply pw_below_drewN | apply below_drew1) | exact HB.out)⟩⟩
                  · rw [if_neg c51] at H
                    have c51b0 : (x15_47 == 0) = false := beq_eq_false_iff_ne.mpr c51
                    have c51b1 : (x15_47 != 0) = true := bne_iff_ne.mpr c51
                    (first | rw [c51b0] | (simp only [i64_w, i32_w]; rw [c51b0]) | skip)
                    have H' := Aside0.mk H
                    clear H
                    go_wp2
                    go_meet
                    case rel => exact ⟨_, (([] : List (S47))), H', ⟨by have := HK1.out; have := HJ44.out; have := HJ47.out; first | omega | exact Nat.le_refl _⟩, ⟨by first | exact Kd.R_nil _ _ _ _ _ | exact Kd.N_nil _ _ _ _ _ | exact Kd.V_nil _ _ _ _ _ | exact Kd.Q_nil _ _ _ _ _ | exact Kd.S_nil _ _ _ _ _⟩, ⟨by repeat (first | (with_reducible first | exact HB.out | apply below_alloc | apply pw_below_drewN | apply below_drew1) | exact HB.out)⟩⟩
                case rest =>
                  clear HC50
                  try clear c1
                  try clear p1
                  try clear q1
                  try clear hx1
                  try clear c2
                  try clear p2
                  try clear c4
                  try clear c4b0
                  try clear c5
                  try clear c5b0
                  try clear c6
                  try clear c6b0
                  try clear p6
                  try clear c12
                  try clear c12b0
                  try clear c13
                  try clear c13b0
                  try clear c14
                  try clear c14b0
                  try clear q15
                  try clear c16
                  try clear c17
                  try clear c17b0
                  try clear p18
                  try clear q18
                  try clear hx18
                  try clear c19
                  try clear p19
                  try clear q19
                  try clear hx19
                  try clear c20
                  try clear c21
                  try clear c22
                  try clear c22b0
                  try clear c23
                  try clear c23b0
                  try clear c24
                  try clear c24b0
                  try clear c47
                  try clear c47b0
                  try clear c47b1
                  try clear c49
                  try clear c51
                  try clear c51b0
                  try clear c51b1
                  try clear hcz25_0
                  try clear hcz25_1
                  try clear hcz25_2
                  try clear hcz25_3
                  try clear hcz28_0
                  try clear hcz28_1
                  try clear hcz28_2
                  try clear hcz28_3
                  try clear hcz29_0
                  try clear hcz29_1
                  try clear hcz29_2
                  try clear hcz29_3
                  try clear hcz32_0
                  try clear hcz32_1
                  try clear hcz32_2
                  try clear hcz32_3
                  try clear hcz33_0
                  try clear hcz33_1
                  try clear hcz33_2
                  try clear hcz33_3
                  try clear hcz36_0
                  try clear hcz36_1
                  try clear hcz36_2
                  try clear hcz36_3
                  try clear hcz37_0
                  try clear hcz37_1
                  try clear hcz37_2
                  try clear hcz37_3
                  try clear hcz40_0
                  try clear hcz40_1
                  try clear hcz40_2
                  try clear hcz40_3
                  try clear hcz41_0
                  try clear hcz41_1
                  try clear hcz41_2
                  try clear hcz41_3
                  try clear hcz8_0
                  try clear hcz8_1
                  try clear hcz8_2
                  try clear hcz8_3
                  try clear hfz25_0
                  try clear hfz25_1
                  try clear hfz25_2
                  try clear hfz25_3
                  try clear hfz28_0
                  try clear hfz28_1
                  try clear hfz28_2
                  try clear hfz28_3
                  try clear hfz29_0
                  try clear hfz29_1
                  try clear hfz29_2
                  try clear hfz29_3
                  try clear hfz32_0
                  try clear hfz32_1
                  try clear hfz32_2
                  try clear hfz32_3
                  try clear hfz33_0
                  try clear hfz33_1
                  try clear hfz33_2
                  try clear hfz33_3
                  try clear hfz36_0
                  try clear hfz36_1
                  try clear hfz36_2
                  try clear hfz36_3
                  try clear hfz37_0
                  try clear hfz37_1
                  try clear hfz37_2
                  try clear hfz37_3
                  try clear hfz40_0
                  try clear hfz40_1
                  try clear hfz40_2
                  try clear hfz40_3
                  try clear hfz41_0
                  try clear hfz41_1
                  try clear hfz41_2
                  try clear hfz41_3
                  try clear hfz8_0
                  try clear hfz8_1
                  try clear hfz8_2
                  try clear hfz8_3
                  try clear hx188_0
                  try clear hx188_1
                  try clear hx188_2
                  try clear hx188_3
                  try clear hx193_0
                  try clear p1
                  try clear p18
                  try clear p188
                  try clear p19
                  try clear p193
                  try clear p2
                  try clear p6
                  try clear q1
                  try clear q15
                  try clear q18
                  try clear q188
                  try clear q19
                  try clear q193
                  obtain ⟨kq, x16_49, HA, HJ49, HO_16, HB⟩ := hcut
                  cases kq with
                  | zero => exact absurd HA.out (by simp [bakelaw3_KeysJoys.j4])
                  | succ kj49 =>
                    have H := HA.out
                    clear HA
                    simp only [bakelaw3_KeysJoys.j4] at H
                    replace H := Option.bind_eq_some_iff.mp H
                    obtain ⟨⟨t204, t205⟩, A550, H⟩ := H
                    replace H : ((bakelaw3_typed.f kj49).bind fun t208 => (if t208 = true then (if t205 = x15_47 then ((api_Input.f kj49 t204 x16_49).bind fun t209 => (bakelaw3_KeysJoys.j5 kj49 a0 l2 (!t209))) else (bakelaw3_KeysJoys.j5 kj49 a0 l2 true)) else (bakelaw3_KeysJoys.j5 kj49 a0 l2 true))) = some r := H
                    have A55 := Aside0.mk A550
                    clear A550
                    have HC56 := Aside0.mk H
                    clear H
                    go_upto_region 23 with (first | ((with_reducible refine gate_callee (f := 25) rfl ?_); refine goesL_ (some 104) rfl rfl Try.func25 (by kernel_rfl) rfl #[.string a0, .slice A1 l1.length c1] rfl (by (try simp only [List.map_toArray, List.map_cons, List.map_nil]); first | done | rfl | (simp only [List.length_drop, List.length_take]; rfl)) ?_; (with_reducible refine (keys_Joy.calls kj49 a0 _ _ l1 t204 t205 _ ?side1 ?side2 A55.out).mono ?_); (case side1 => repeat (first | exact (Kd.C_below HR1.out HB.out) | (with_reducible refine Kd.C_alloc ?_ _) | (with_reducible refine Kd.C_drewN ?_ _) | (with_reducible refine Kd.C_drew ?_))); (case side2 => exact HC1.out); rintro e w57 ⟨v206, rfl, ho0, hb⟩; refine ⟨_, rfl, ?_⟩; have n0_ := Aside0.mk (Kd.R_elder' (by (with_reducible repeat (first | apply Kd.R_alloc | apply Kd.R_drewN | apply Kd.R_drew)); exact HO_16.out) (Kd.R_base ho0) hb); have n1_ := Aside0.mk (Kd.R_lower (Kd.R_new' ho0 (Kd.R_lt (by (with_reducible repeat (first | apply Kd.R_alloc | apply Kd.R_drewN | apply Kd.R_drew)); exact HO_16.out))) (below_size (by repeat (first | (with_reducible first | exact HB.out | apply below_alloc | apply pw_below_drewN | apply below_drew1) | exact HB.out)))); have n2_ := Aside0.mk (below_step (by repeat (first | (with_reducible first | exact HB.out | apply below_alloc | apply pw_below_drewN | apply below_drew1) | exact HB.out)) hb); clear HO_16; clear HB; have HO_16 := n0_; have HO207 := n1_; have HB := n2_; clear n0_ n1_ n2_; (try clear hb); (try clear hb2); (try clear hk); (try clear hi); (try clear ho0)))
                    (try simp only [Act.put, List.setIfInBounds_toArray, List.set_cons_zero, List.set_cons_succ])
                    go_cut [119] (fun v119 wc => ∃ (kq : Nat) (x119_55 : Bool), v119 = .bool x119_55 ∧ Aside0 (bakelaw3_KeysJoys.j5 kq a0 l2 x119_55 = some r) ∧ Aside0 (kq ≤ kj49) ∧ Aside0 (Below w.heap.size w wc))
                    case first =>
                      as_aux_lemma =>
                      have H := HC56.out
                      clear HC56
                      replace H := Option.bind_eq_some_iff.mp H
                      obtain ⟨t208, A580, H⟩ := H
                      replace H : (if t208 = true then (if t205 = x15_47 then ((api_Input.f kj49 t204 x16_49).bind fun t209 => (bakelaw3_KeysJoys.j5 kj49 a0 l2 (!t209))) else (bakelaw3_KeysJoys.j5 kj49 a0 l2 true)) else (bakelaw3_KeysJoys.j5 kj49 a0 l2 true)) = some r := H
                      have A58 := Aside0.mk A580
                      clear A580
                      by_cases c59 : t208 = true
                      · subst c59
                        have H1 : (if t205 = x15_47 then ((api_Input.f kj49 t204 x16_49).bind fun t209 => (bakelaw3_KeysJoys.j5 kj49 a0 l2 (!t209))) else (bakelaw3_KeysJoys.j5 kj49 a0 l2 true)) = some r := by rw [if_pos rfl] at H; exact H
                        clear H
                        have H := H1
                        clear H1
                        by_cases c60 : t205 = x15_47
                        · rw [if_pos c60] at H
                          have c60b0 : (t205 == x15_47) = true := beq_iff_eq.mpr c60
                          have c60b1 : (t205 != x15_47) = false := bne_eq_false_iff_eq.mpr c60
                          clear c60
                          (first | rw [c60b0] | (simp only [i64_w, i32_w]; rw [c60b0]) | skip)
                          replace H := Option.bind_eq_some_iff.mp H
                          obtain ⟨t209, A610, H⟩ := H
                          replace H : (bakelaw3_KeysJoys.j5 kj49 a0 l2 (!t209)) = some r := H
                          have A61 := Aside0.mk A610
                          clear A610
                          have H' := Aside0.mk H
                          clear H
                          go_wp2_with (first | ((with_reducible refine gate_callee (f := 26) rfl ?_); refine goesL_ (some 107) rfl rfl Try.func26 (by kernel_rfl) rfl #[] rfl (by (try simp only [List.map_toArray, List.map_cons, List.map_nil]); first | done | rfl | (simp only [List.length_drop, List.length_take]; rfl)) ?_; (with_reducible refine (bakelaw3_typed.calls kj49  true _ A58.out).mono ?_); rintro e w62 ⟨rfl, hb⟩; refine ⟨_, rfl, ?_⟩; have n0_ := Aside0.mk (Kd.R_below (by (with_reducible repeat (first | apply Kd.R_alloc | apply Kd.R_drewN | apply Kd.R_drew)); exact HO_16.out) hb); have n1_ := Aside0.mk (Kd.R_below (by (with_reducible repeat (first | apply Kd.R_alloc | apply Kd.R_drewN | apply Kd.R_drew)); exact HO207.out) hb); have n2_ := Aside0.mk (below_step (by repeat (first | (with_reducible first | exact HB.out | apply below_alloc | apply pw_below_drewN | apply below_drew1) | exact HB.out)) hb); clear HO_16; clear HO207; clear HB; have HO_16 := n0_; have HO207 := n1_; have HB := n2_; clear n0_ n1_ n2_; (try clear hb); (try clear hb2); (try clear hk); (try clear hi); obtain ⟨Ao63, co63, eo63⟩ := Kd.R_slice HO207.out; subst eo63; obtain ⟨Ao64, co64, eo64⟩ := Kd.R_slice HO_16.out; subst eo64) | (go_at_call 27; (with_reducible refine (api_Input.calls kj49 _ _ t204 _ _ x16_49 t209 _ ?side1 ?side2 ?side3 ?side4 A61.out).mono ?_); (case side1 => repeat (first | exact (Kd.R_reads' HO207.out).2.2 | (with_reducible refine Kd.C_alloc ?_ _) | (with_reducible refine Kd.C_drewN ?_ _) | (with_reducible refine Kd.C_drew ?_))); (case side2 => exact (Kd.R_reads' HO207.out).2.1); (case side3 => repeat (first | exact (Kd.R_reads' HO_16.out).2.2 | (with_reducible refine Kd.C_alloc ?_ _) | (with_reducible refine Kd.C_drewN ?_ _) | (with_reducible refine Kd.C_drew ?_))); (case side4 => exact (Kd.R_reads' HO_16.out).2.1); rintro e w' ⟨rfl, ⟨nd, rfl⟩⟩))
                          go_meet
                          case rel => exact ⟨_, (!t209), (by first | rfl | (simp; done) | (simp [*]; done)), H', ⟨by have := HK1.out; have := HJ44.out; have := HJ47.out; have := HJ49.out; first | omega | exact Nat.le_refl _⟩, ⟨by repeat (first | (with_reducible first | exact HB.out | apply below_alloc | apply pw_below_drewN | apply below_drew1) | exact HB.out)⟩⟩
                        · rw [if_neg c60] at H
                          have c60b0 : (t205 == x15_47) = false := beq_eq_false_iff_ne.mpr c60
                          have c60b1 : (t205 != x15_47) = true := bne_iff_ne.mpr c60
                          (first | rw [c60b0] | (simp only [i64_w, i32_w]; rw [c60b0]) | skip)
                          have H' := Aside0.mk H
                          clear H
                          go_wp2_with (first | ((with_reducible refine gate_callee (f := 26) rfl ?_); refine goesL_ (some 107) rfl rfl Try.func26 (by kernel_rfl) rfl #[] rfl (by (try simp only [List.map_toArray, List.map_cons, List.map_nil]); first | done | rfl | (simp only [List.length_drop, List.length_take]; rfl)) ?_; (with_reducible refine (bakelaw3_typed.calls kj49  true _ A58.out).mono ?_); rintro e w65 ⟨rfl, hb⟩; refine ⟨_, rfl, ?_⟩; have n0_ := Aside0.mk (Kd.R_below (by (with_reducible repeat (first | apply Kd.R_alloc | apply Kd.R_drewN | apply Kd.R_drew)); exact HO_16.out) hb); have n1_ := Aside0.mk (Kd.R_below (by (with_reducible repeat (first | apply Kd.R_alloc | apply Kd.R_drewN | apply Kd.R_drew)); exact HO207.out) hb); have n2_ := Aside0.mk (below_step (by repeat (first | (with_reducible first | exact HB.out | apply below_alloc | apply pw_below_drewN | apply below_drew1) | exact HB.out)) hb); clear HO_16; clear HO207; clear HB; have HO_16 := n0_; have HO207 := n1_; have HB := n2_; clear n0_ n1_ n2_; (try clear hb); (try clear hb2); (try clear hk); (try clear hi)))
                          go_meet
                          case rel => exact ⟨_, (true), (by first | rfl | (simp; done) | (simp [*]; done)), H', ⟨by have := HK1.out; have := HJ44.out; have := HJ47.out; have := HJ49.out; first | omega | exact Nat.le_refl _⟩, ⟨by repeat (first | (with_reducible first | exact HB.out | apply below_alloc | apply pw_below_drewN | apply below_drew1) | exact HB.out)⟩⟩
                      · replace c59 := Bool.eq_false_iff.mpr c59
                        subst c59
                        have H1 : (bakelaw3_KeysJoys.j5 kj49 a0 l2 true) = some r := by rw [if_neg (show ¬ (false = true) by decide)] at H; exact H
                        clear H
                        have H := H1
                        clear H1
                        have H' := Aside0.mk H
                        clear H
                        go_wp2_with (first | ((with_reducible refine gate_callee (f := 26) rfl ?_); refine goesL_ (some 107) rfl rfl Try.func26 (by kernel_rfl) rfl #[] rfl (by (try simp only [List.map_toArray, List.map_cons, List.map_nil]); first | done | rfl | (simp only [List.length_drop, List.length_take]; rfl)) ?_; (with_reducible refine (bakelaw3_typed.calls kj49  false _ A58.out).mono ?_); rintro e w66 ⟨rfl, hb⟩; refine ⟨_, rfl, ?_⟩; have n0_ := Aside0.mk (Kd.R_below (by (with_reducible repeat (first | apply Kd.R_alloc | apply Kd.R_drewN | apply Kd.R_drew)); exact HO_16.out) hb); have n1_ := Aside0.mk (Kd.R_below (by (with_reducible repeat (first | apply Kd.R_alloc | apply Kd.R_drewN | apply Kd.R_drew)); exact HO207.out) hb); have n2_ := Aside0.mk (below_step (by repeat (first | (with_reducible first | exact HB.out | apply below_alloc | apply pw_below_drewN | apply below_drew1) | exact HB.out)) hb); clear HO_16; clear HO207; clear HB; have HO_16 := n0_; have HO207 := n1_; have HB := n2_; clear n0_ n1_ n2_; (try clear hb); (try clear hb2); (try clear hk); (try clear hi)))
                        go_meet
                        case rel => exact ⟨_, (true), (by first | rfl | (simp; done) | (simp [*]; done)), H', ⟨by have := HK1.out; have := HJ44.out; have := HJ47.out; have := HJ49.out; first | omega | exact Nat.le_refl _⟩, ⟨by repeat (first | (with_reducible first | exact HB.out | apply below_alloc | apply pw_below_drewN | apply below_drew1) | exact HB.out)⟩⟩
                    case rest =>
                      clear HC56
                      try clear c1
                      try clear p1
                      try clear q1
                      try clear hx1
                      try clear c2
                      try clear p2
                      try clear c4
                      try clear c4b0
                      try clear c5
                      try clear c5b0
                      try clear c6
                      try clear c6b0
                      try clear p6
                      try clear c12
                      try clear c12b0
                      try clear c13
                      try clear c13b0
                      try clear c14
                      try clear c14b0
                      try clear q15
                      try clear c16
                      try clear c17
                      try clear c17b0
                      try clear p18
                      try clear q18
                      try clear hx18
                      try clear c19
                      try clear p19
                      try clear q19
                      try clear hx19
                      try clear c20
                      try clear c21
                      try clear c22
                      try clear c22b0
                      try clear c23
                      try clear c23b0
                      try clear c24
                      try clear c24b0
                      try clear c25
                      try clear c26
                      try clear c47
                      try clear c47b0
                      try clear c47b1
                      try clear c49
                      try clear c51
                      try clear c51b0
                      try clear c51b1
                      try clear c59
                      try clear c60
                      try clear c60b0
                      try clear c60b1
                      try clear hcz25_0
                      try clear hcz25_1
                      try clear hcz25_2
                      try clear hcz25_3
                      try clear hcz28_0
                      try clear hcz28_1
                      try clear hcz28_2
                      try clear hcz28_3
                      try clear hcz29_0
                      try clear hcz29_1
                      try clear hcz29_2
                      try clear hcz29_3
                      try clear hcz32_0
                      try clear hcz32_1
                      try clear hcz32_2
                      try clear hcz32_3
                      try clear hcz33_0
                      try clear hcz33_1
                      try clear hcz33_2
                      try clear hcz33_3
                      try clear hcz36_0
                      try clear hcz36_1
                      try clear hcz36_2
                      try clear hcz36_3
                      try clear hcz37_0
                      try clear hcz37_1
                      try clear hcz37_2
                      try clear hcz37_3
                      try clear hcz40_0
                      try clear hcz40_1
                      try clear hcz40_2
                      try clear hcz40_3
                      try clear hcz41_0
                      try clear hcz41_1
                      try clear hcz41_2
                      try clear hcz41_3
                      try clear hcz8_0
                      try clear hcz8_1
                      try clear hcz8_2
                      try clear hcz8_3
                      try clear hfz25_0
                      try clear hfz25_1
                      try clear hfz25_2
                      try clear hfz25_3
                      try clear hfz28_0
                      try clear hfz28_1
                      try clear hfz28_2
                      try clear hfz28_3
                      try clear hfz29_0
                      try clear hfz29_1
                      try clear hfz29_2
                      try clear hfz29_3
                      try clear hfz32_0
                      try clear hfz32_1
                      try clear hfz32_2
                      try clear hfz32_3
                      try clear hfz33_0
                      try clear hfz33_1
                      try clear hfz33_2
                      try clear hfz33_3
                      try clear hfz36_0
                      try clear hfz36_1
                      try clear hfz36_2
                      try clear hfz36_3
                      try clear hfz37_0
                      try clear hfz37_1
                      try clear hfz37_2
                      try clear hfz37_3
                      try clear hfz40_0
                      try clear hfz40_1
                      try clear hfz40_2
                      try clear hfz40_3
                      try clear hfz41_0
                      try clear hfz41_1
                      try clear hfz41_2
                      try clear hfz41_3
                      try clear hfz8_0
                      try clear hfz8_1
                      try clear hfz8_2
                      try clear hfz8_3
                      try clear hx188_0
                      try clear hx188_1
                      try clear hx188_2
                      try clear hx188_3
                      try clear hx193_0
                      try clear p1
                      try clear p18
                      try clear p188
                      try clear p19
                      try clear p193
                      try clear p2
                      try clear p6
                      try clear q1
                      try clear q15
                      try clear q18
                      try clear q188
                      try clear q19
                      try clear q193
                      obtain ⟨kq, x119_55, rfl, HA, HJ55, HB⟩ := hcut
                      cases kq with
                      | zero => exact absurd HA.out (by simp [bakelaw3_KeysJoys.j5])
                      | succ kj55 =>
                        have H := HA.out
                        clear HA
                        simp only [bakelaw3_KeysJoys.j5] at H
                        by_cases c67 : x119_55 = true
                        · subst c67
                          have H1 : (some false) = some r := by rw [if_pos rfl] at H; exact H
                          clear H
                          have H := H1
                          clear H1
                          obtain rfl := Option.some.inj H
                          go_wp2
                          go_ret
                          exact ⟨by first | rfl | (simp [errW_none, errW_some] <;> rfl) | (simp [*, errW_none, errW_some] <;> rfl), by repeat (first | (with_reducible first | exact HB.out | apply below_alloc | apply pw_below_drewN | apply below_drew1) | exact HB.out)⟩
                        · replace c67 := Bool.eq_false_iff.mpr c67
                          subst c67
                          have H1 : (if (l2.length : Int) > 500 then (bakelaw3_KeysJoys.j6 kj55 a0 l2 2 ([] : List (S47))) else (bakelaw3_KeysJoys.j6 kj55 a0 l2 0 ([] : List (S47)))) = some r := by rw [if_neg (show ¬ (false = true) by decide)] at H; exact H
                          clear H
                          have H := H1
                          clear H1
                          have HC68 := Aside0.mk H
                          clear H
                          go_upto_if 122 with (fail)
                          go_cut [15] (fun v15 wc => ∃ (kq : Nat) (x15_67 : Int), v15 = .int .i64 x15_67 ∧ Aside0 (bakelaw3_KeysJoys.j6 kq a0 l2 x15_67 ([] : List (S47)) = some r) ∧ Aside0 (kq ≤ kj55) ∧ Aside0 (Kd.R k47 47 wc w.heap.size (fun _ => True) (.slice none 0 0) ([] : List (S47))) ∧ Aside0 (Below w.heap.size w wc))
                          case first =>
                            as_aux_lemma =>
                            have H := HC68.out
                            clear HC68
                            by_cases c69 : (l2.length : Int) > 500
                            · rw [if_pos c69] at H
                              have c69b0 : decide (500 < (l2.length : Int)) = true := decide_eq_true c69
                              have c69b1 : decide (500 < l2.length) = true := decide_eq_true (by omega)
                              clear c69
                              (first | rw [c69b0] | (simp only [i64_w, i32_w]; rw [c69b0]) | skip)
                              have H' := Aside0.mk H
                              clear H
                              go_wp2
                              go_meet
                              case rel => exact ⟨_, (2), (by first | rfl | (simp; done) | (simp [*]; done)), H', ⟨by have := HK1.out; have := HJ44.out; have := HJ47.out; have := HJ49.out; have := HJ55.out; first | omega | exact Nat.le_refl _⟩, ⟨by first | exact Kd.R_nil _ _ _ _ _ | exact Kd.N_nil _ _ _ _ _ | exact Kd.V_nil _ _ _ _ _ | exact Kd.Q_nil _ _ _ _ _ | exact Kd.S_nil _ _ _ _ _⟩, ⟨by repeat (first | (with_reducible first | exact HB.out | apply below_alloc | apply pw_below_drewN | apply below_drew1) | exact HB.out)⟩⟩
                            · rw [if_neg c69] at H
                              have c69b0 : decide (500 < (l2.length : Int)) = false := decide_eq_false c69
                              have c69b1 : decide (500 < l2.length) = false := decide_eq_false (by omega)
                              clear c69
                              (first | rw [c69b0] | (simp only [i64_w, i32_w]; rw [c69b0]) | skip)
                              have H' := Aside0.mk H
                              clear H
                              go_wp2
                              go_meet
                              case rel => exact ⟨_, (0), (by first | rfl | (simp; done) | (simp [*]; done)), H', ⟨by have := HK1.out; have := HJ44.out; have := HJ47.out; have := HJ49.out; have := HJ55.out; first | omega | exact Nat.le_refl _⟩, ⟨by first | exact Kd.R_nil _ _ _ _ _ | exact Kd.N_nil _ _ _ _ _ | exact Kd.V_nil _ _ _ _ _ | exact Kd.Q_nil _ _ _ _ _ | exact Kd.S_nil _ _ _ _ _⟩, ⟨by repeat (first | (with_reducible first | exact HB.out | apply below_alloc | apply pw_below_drewN | apply below_drew1) | exact HB.out)⟩⟩
                          case rest =>
                            clear HC68
                            try clear c1
                            try clear p1
                            try clear q1
                            try clear hx1
                            try clear c2
                            try clear p2
                            try clear c4
                            try clear c4b0
                            try clear c5
                            try clear c5b0
                            try clear c6
                            try clear c6b0
                            try clear p6
                            try clear c12
                            try clear c12b0
                            try clear c13
                            try clear c13b0
                            try clear c14
                            try clear c14b0
                            try clear q15
                            try clear c16
                            try clear c17
                            try clear c17b0
                            try clear p18
                            try clear q18
                            try clear hx18
                            try clear c19
                            try clear p19
                            try clear q19
                            try clear hx19
                            try clear c20
                            try clear c21
                            try clear c22
                            try clear c22b0
                            try clear c23
                            try clear c23b0
                            try clear c24
                            try clear c24b0
                            try clear c25
                            try clear c26
                            try clear c47
                            try clear c47b0
                            try clear c47b1
                            try clear c49
                            try clear c51
                            try clear c51b0
                            try clear c51b1
                            try clear c59
                            try clear c60
                            try clear c60b0
                            try clear c60b1
                            try clear c67
                            try clear c69
                            try clear c69b0
                            try clear c69b1
                            try clear hcz25_0
                            try clear hcz25_1
                            try clear hcz25_2
                            try clear hcz25_3
                            try clear hcz28_0
                            try clear hcz28_1
                            try clear hcz28_2
                            try clear hcz28_3
                            try clear hcz29_0
                            try clear hcz29_1
                            try clear hcz29_2
                            try clear hcz29_3
                            try clear hcz32_0
                            try clear hcz32_1
                            try clear hcz32_2
                            try clear hcz32_3
                            try clear hcz33_0
                            try clear hcz33_1
                            try clear hcz33_2
                            try clear hcz33_3
                            try clear hcz36_0
                            try clear hcz36_1
                            try clear hcz36_2
                            try clear hcz36_3
                            try clear hcz37_0
                            try clear hcz37_1
                            try clear hcz37_2
                            try clear hcz37_3
                            try clear hcz40_0
                            try clear hcz40_1
                            try clear hcz40_2
                            try clear hcz40_3
                            try clear hcz41_0
                            try clear hcz41_1
                            try clear hcz41_2
                            try clear hcz41_3
                            try clear hcz8_0
                            try clear hcz8_1
                            try clear hcz8_2
                            try clear hcz8_3
                            try clear hfz25_0
                            try clear hfz25_1
                            try clear hfz25_2
                            try clear hfz25_3
                            try clear hfz28_0
                            try clear hfz28_1
                            try clear hfz28_2
                            try clear hfz28_3
                            try clear hfz29_0
                            try clear hfz29_1
                            try clear hfz29_2
                            try clear hfz29_3
                            try clear hfz32_0
                            try clear hfz32_1
                            try clear hfz32_2
                            try clear hfz32_3
                            try clear hfz33_0
                            try clear hfz33_1
                            try clear hfz33_2
                            try clear hfz33_3
                            try clear hfz36_0
                            try clear hfz36_1
                            try clear hfz36_2
                            try clear hfz36_3
                            try clear hfz37_0
                            try clear hfz37_1
                            try clear hfz37_2
                            try clear hfz37_3
                            try clear hfz40_0
                            try clear hfz40_1
                            try clear hfz40_2
                            try clear hfz40_3
                            try clear hfz41_0
                            try clear hfz41_1
                            try clear hfz41_2
                            try clear hfz41_3
                            try clear hfz8_0
                            try clear hfz8_1
                            try clear hfz8_2
                            try clear hfz8_3
                            try clear hx188_0
                            try clear hx188_1
                            try clear hx188_2
                            try clear hx188_3
                            try clear hx193_0
                            try clear p1
                            try clear p18
                            try clear p188
                            try clear p19
                            try clear p193
                            try clear p2
                            try clear p6
                            try clear q1
                            try clear q15
                            try clear q18
                            try clear q188
                            try clear q19
                            try clear q193
                            obtain ⟨kq, x15_67, rfl, HA, HJ67, HO_16, HB⟩ := hcut
                            cases kq with
                            | zero => exact absurd HA.out (by simp [bakelaw3_KeysJoys.j6])
                            | succ kj67 =>
                              have H := HA.out
                              clear HA
                              simp only [bakelaw3_KeysJoys.j6] at H
                              have H' := Aside0.mk H
                              clear H
                              go_wp2
                              go_loopg [15, 16, 19, 125] kj67 (fun kq v15 v16 v19 v125 w' => ∃ (x15_7 : Int) (x16_7 : List (S47)) (x19_7 : Int) (x125_7 : Int), v15 = .int .i64 x15_7 ∧ v19 = .int .i64 x19_7 ∧ v125 = .int .i64 x125_7 ∧ Aside0 (bakelaw3_KeysJoys.l2 kq a0 l2 x15_7 x16_7 x19_7 l2 (l2.length : Int) x125_7 = some r) ∧ Aside0 (kq ≤ kj67) ∧ Aside0 (Kd.R k47 47 w' w.heap.size (fun _ => True) v16 x16_7) ∧ Aside0 (Below w.heap.size w w'))
                              case atStart => exact ⟨(x15_67), (([] : List (S47))), ((-1)), (0), (by first | rfl | (simp; done) | (simp [*]; done)), (by first | rfl | (simp; done) | (simp [*]; done)), (by first | rfl | (simp; done) | (simp [*]; done)), H', ⟨Nat.le_refl _⟩, ⟨by (with_reducible repeat (first | apply Kd.R_alloc | apply Kd.R_drewN | apply Kd.R_drew)); exact HO_16.out⟩, ⟨by repeat (first | (with_reducible first | exact HB.out | apply below_alloc | apply pw_below_drewN | apply below_drew1) | exact HB.out)⟩⟩
                              case round =>
                                clear H'
                                try clear c1
                                try clear p1
                                try clear q1
                                try clear hx1
                                try clear c2
                                try clear p2
                                try clear c4
                                try clear c4b0
                                try clear c5
                                try clear c5b0
                                try clear c6
                                try clear c6b0
                                try clear p6
                                try clear c12
                                try clear c12b0
                                try clear c13
                                try clear c13b0
                                try clear c14
                                try clear c14b0
                                try clear q15
                                try clear c16
                                try clear c17
                                try clear c17b0
                                try clear p18
                                try clear q18
                                try clear hx18
                                try clear c19
                                try clear p19
                                try clear q19
                                try clear hx19
                                try clear c20
                                try clear c21
                                try clear c22
                                try clear c22b0
                                try clear c23
                                try clear c23b0
                                try clear c24
                                try clear c24b0
                                try clear c25
                                try clear c26
                                try clear c47
                                try clear c47b0
                                try clear c47b1
                                try clear c49
                                try clear c51
                                try clear c51b0
                                try clear c51b1
                                try clear c59
                                try clear c60
                                try clear c60b0
                                try clear c60b1
                                try clear c67
                                try clear c69
                                try clear c69b0
                                try clear c69b1
                                try clear hcz25_0
                                try clear hcz25_1
                                try clear hcz25_2
                                try clear hcz25_3
                                try clear hcz28_0
                                try clear hcz28_1
                                try clear hcz28_2
                                try clear hcz28_3
                                try clear hcz29_0
                                try clear hcz29_1
                                try clear hcz29_2
                                try clear hcz29_3
                                try clear hcz32_0
                                try clear hcz32_1
                                try clear hcz32_2
                                try clear hcz32_3
                                try clear hcz33_0
                                try clear hcz33_1
                                try clear hcz33_2
                                try clear hcz33_3
                                try clear hcz36_0
                                try clear hcz36_1
                                try clear hcz36_2
                                try clear hcz36_3
                                try clear hcz37_0
                                try clear hcz37_1
                                try clear hcz37_2
                                try clear hcz37_3
                                try clear hcz40_0
                                try clear hcz40_1
                                try clear hcz40_2
                                try clear hcz40_3
                                try clear hcz41_0
                                try clear hcz41_1
                                try clear hcz41_2
                                try clear hcz41_3
                                try clear hcz8_0
                                try clear hcz8_1
                                try clear hcz8_2
                                try clear hcz8_3
                                try clear hfz25_0
                                try clear hfz25_1
                                try clear hfz25_2
                                try clear hfz25_3
                                try clear hfz28_0
                                try clear hfz28_1
                                try clear hfz28_2
                                try clear hfz28_3
                                try clear hfz29_0
                                try clear hfz29_1
                                try clear hfz29_2
                                try clear hfz29_3
                                try clear hfz32_0
                                try clear hfz32_1
                                try clear hfz32_2
                                try clear hfz32_3
                                try clear hfz33_0
                                try clear hfz33_1
                                try clear hfz33_2
                                try clear hfz33_3
                                try clear hfz36_0
                                try clear hfz36_1
                                try clear hfz36_2
                                try clear hfz36_3
                                try clear hfz37_0
                                try clear hfz37_1
                                try clear hfz37_2
                                try clear hfz37_3
                                try clear hfz40_0
                                try clear hfz40_1
                                try clear hfz40_2
                                try clear hfz40_3
                                try clear hfz41_0
                                try clear hfz41_1
                                try clear hfz41_2
                                try clear hfz41_3
                                try clear hfz8_0
                                try clear hfz8_1
                                try clear hfz8_2
                                try clear hfz8_3
                                try clear hx188_0
                                try clear hx188_1
                                try clear hx188_2
                                try clear hx188_3
                                try clear hx193_0
                                try clear p1
                                try clear p18
                                try clear p188
                                try clear p19
                                try clear p193
                                try clear p2
                                try clear p6
                                try clear q1
                                try clear q15
                                try clear q18
                                try clear q188
                                try clear q19
                                try clear q193
                                obtain ⟨x15_7, x16_7, x19_7, x125_7, rfl, rfl, rfl, HA, HK7, HO_16, HB⟩ := hrel
                                cases gk with
                                | zero => exact absurd HA.out (by simp [bakelaw3_KeysJoys.l2])
                                | succ k7 =>
                                  have H := HA.out
                                  clear HA
                                  simp only [bakelaw3_KeysJoys.l2] at H
                                  by_cases c70 : x125_7 < (l2.length : Int)
                                  · rw [if_pos c70] at H
                                    have c70b0 : decide (x125_7 < (l2.length : Int)) = true := decide_eq_true c70
                                    clear c70
                                    by_cases c71 : 0 ≤ x125_7
                                    · rw [if_pos c71] at H
                                      have c71b0 : decide (0 ≤ x125_7) = true := decide_eq_true c71
                                      clear c71
                                      by_cases c72 : x125_7 < (l2.length : Int)
                                      · rw [if_pos c72] at H
                                        have c72b0 : decide (x125_7 < (l2.length : Int)) = true := decide_eq_true c72
                                        clear c72
                                        by_cases c73 : x15_7 = 0
                                        · rw [if_pos c73] at H
                                          have c73b0 : (x15_7 == 0) = true := beq_iff_eq.mpr c73
                                          have c73b1 : (x15_7 != 0) = false := bne_eq_false_iff_eq.mpr c73
                                          clear c73
                                          have HC74 := Aside0.mk H
                                          clear H
                                          have p210 : 0 ≤ (x125_7 : Int) := of_decide_eq_true (by first | (with_reducible assumption) | assumption)
                                          have q210 : x125_7 < (l2.length : Int) := of_decide_eq_true (by first | (with_reducible assumption) | assumption)
                                          obtain ⟨ad210, e210, hx210_0, hx210_1, hx210_2⟩ := at_T49 HR2.out x125_7 p210 q210
                                          cases e210
                                          replace hx210_0 := (HB.out.cell (World.block_lt_of_cell? w _ hx210_0)).trans hx210_0
                                          replace hx210_1 := (HB.out.cell (World.block_lt_of_cell? w _ hx210_1)).trans hx210_1
                                          replace hx210_2 := (HB.out.cell (World.block_lt_of_cell? w _ hx210_2)).trans hx210_2
                                          replace p210 := eq_true p210
                                          replace q210 := eq_true q210
                                          go_upto_region 33 with (first | ((with_reducible refine gate_dst (N := 21) rfl ?_); refine box_event ?hg (N := 21) ?hd (cs := #[.int .i64 0, .int .i64 0, .int .i64 0]) (t := 49) ?hr ?_; (case hd => rfl); (case hg => rfl); (case hr => first | (go_simp; done) | (go_simp; rfl)); intro gb211 hg w75 hbox hb; have n0_ := Aside0.mk (Kd.R_below (by (with_reducible repeat (first | apply Kd.R_alloc | apply Kd.R_drewN | apply Kd.R_drew)); exact HO_16.out) hb); have n1_ := Aside0.mk (below_step (by repeat (first | (with_reducible first | exact HB.out | apply below_alloc | apply pw_below_drewN | apply below_drew1) | exact HB.out)) hb); have n2_ := Aside0.mk (hbox); have n3_ := Aside0.mk ((by rw [hg]; exact (below_size (by repeat (first | (with_reducible first | exact HB.out | apply below_alloc | apply pw_below_drewN | apply below_drew1) | exact HB.out))) : w.heap.size ≤ gb211)); have n4_ := Aside0.mk ((by rw [hg]; exact (below_size (by repeat (first | (with_reducible first | exact HB.out | apply below_alloc | apply pw_below_drewN | apply below_drew1) | exact HB.out))) : w.heap.size ≤ gb211)); clear HO_16; clear HB; have HO_16 := n0_; have HB := n1_; have BK211 := n2_; have GW211 := n3_; have GE211 := n4_; clear n0_ n1_ n2_ n3_ n4_; clear hb hbox hg; have hcz76_0 : w75.cell? ⟨gb211, 0, none⟩ = some (.int .i64 0) := (blk_cell BK211.out 0).trans rfl; have hcz76_1 : w75.cell? ⟨gb211, 1, none⟩ = some (.int .i64 0) := (blk_cell BK211.out 1).trans rfl; have hcz76_2 : w75.cell? ⟨gb211, 2, none⟩ = some (.int .i64 0) := (blk_cell BK211.out 2).trans rfl; have hfz76_0 := blk_frozen BK211.out 0; have hfz76_1 := blk_frozen BK211.out 1; have hfz76_2 := blk_frozen BK211.out 2))
                                          (try simp only [Act.put, List.setIfInBounds_toArray, List.set_cons_zero, List.set_cons_succ])
                                          go_cut [132] (fun v132 wc => ∃ (kq : Nat) (x132_73 : Bool), v132 = .bool x132_73 ∧ Aside0 (bakelaw3_KeysJoys.j8 kq a0 l2 x15_7 x16_7 x19_7 l2 (l2.length : Int) x125_7 x132_73 ((rd_T49 l2 x125_7).f0) ((rd_T49 l2 x125_7).f1) ((rd_T49 l2 x125_7).f2) = some r) ∧ Aside0 (kq ≤ k7) ∧ Aside0 (Kd.R k47 47 wc w.heap.size (fun _ => True) u16 x16_7) ∧ Aside0 (wc.heap[gb211]? = some (.cells #[.int .i64 ((rd_T49 l2 x125_7).f0), .int .i64 ((rd_T49 l2 x125_7).f1), .int .i64 ((rd_T49 l2 x125_7).f2)] 49 (0, 0))) ∧ Aside0 (Below w.heap.size w wc))
                                          case first =>
                                            as_aux_lemma =>
                                            have H := HC74.out
                                            clear HC74
                                            by_cases c77 : ((rd_T49 l2 x125_7).f1) < 0
                                            · rw [if_pos c77] at H
                                              have c77b0 : decide (((rd_T49 l2 x125_7).f1) < 0) = true := decide_eq_true c77
                                              clear c77
                                              (first | rw [c77b0] | (simp only [i64_w, i32_w]; rw [c77b0]) | skip)
                                              have H' := Aside0.mk H
                                              clear H
                                              have hcz78_0 : w75.cell? ⟨gb211, 0, none⟩ = some (.int .i64 0) := (blk_cell BK211.out 0).trans rfl
                                              have hcz78_1 : w75.cell? ⟨gb211, 1, none⟩ = some (.int .i64 0) := (blk_cell BK211.out 1).trans rfl
                                              have hcz78_2 : w75.cell? ⟨gb211, 2, none⟩ = some (.int .i64 0) := (blk_cell BK211.out 2).trans rfl
                                              have hfz78_0 := blk_frozen BK211.out 0
                                              have hfz78_1 := blk_frozen BK211.out 1
                                              have hfz78_2 := blk_frozen BK211.out 2
                                              go_wp2
                                              go_meet
                                              case rel => exact ⟨_, (true), (by first | rfl | (simp; done) | (simp [*]; done)), H', ⟨by have := HK1.out; have := HJ44.out; have := HJ47.out; have := HJ49.out; have := HJ55.out; have := HJ67.out; have := HK7.out; first | omega | exact Nat.le_refl _⟩, ⟨by (with_reducible repeat (first | apply Kd.R_alloc | apply Kd.R_drewN | apply Kd.R_drew)); exact Kd.R_mono (Kd.R_far (p := ⟨gb211, 2, none⟩) (Kd.R_far (p := ⟨gb211, 1, none⟩) (Kd.R_far (p := ⟨gb211, 0, none⟩) (Kd.R_types HO_16.out BK211.out (by decide)) (fun _ hk => hk.2) (.int .i64 ((rd_T49 l2 x125_7).f0))) (fun _ hk => hk.2) (.int .i64 ((rd_T49 l2 x125_7).f1))) (fun _ hk => hk.2) (.int .i64 ((rd_T49 l2 x125_7).f2))) (fun _ hk => trivial)⟩, ⟨by (with_reducible repeat (first | refine blk_drewN ?_ _ | refine blk_drew ?_ | refine blk_alloc ?_ _)); refine blk_put (cs := #[.int .i64 ((rd_T49 l2 x125_7).f0), .int .i64 ((rd_T49 l2 x125_7).f1), .int .i64 0]) ?_ 2 _ rfl; (with_reducible repeat (first | refine blk_drewN ?_ _ | refine blk_drew ?_ | refine blk_alloc ?_ _)); refine blk_put (cs := #[.int .i64 ((rd_T49 l2 x125_7).f0), .int .i64 0, .int .i64 0]) ?_ 1 _ rfl; (with_reducible repeat (first | refine blk_drewN ?_ _ | refine blk_drew ?_ | refine blk_alloc ?_ _)); refine blk_put (cs := #[.int .i64 0, .int .i64 0, .int .i64 0]) ?_ 0 _ rfl; (with_reducible repeat (first | refine blk_drewN ?_ _ | refine blk_drew ?_ | refine blk_alloc ?_ _)); exact BK211.out⟩, ⟨by repeat (first | (with_reducible first | exact HB.out | apply below_alloc | apply pw_below_drewN | apply below_drew1 | refine below_set ?_ GE211.out) | exact HB.out)⟩⟩
                                            · rw [if_neg c77] at H
                                              have c77b0 : decide (((rd_T49 l2 x125_7).f1) < 0) = false := decide_eq_false c77
                                              clear c77
                                              (first | rw [c77b0] | (simp only [i64_w, i32_w]; rw [c77b0]) | skip)
                                              by_cases c79 : ((rd_T49 l2 x125_7).f1) > 47
                                              · rw [if_pos c79] at H
                                                have c79b0 : decide (47 < ((rd_T49 l2 x125_7).f1)) = true := decide_eq_true c79
                                                clear c79
                                                have H' := Aside0.mk H
                                                clear H
                                                have hcz80_0 : w75.cell? ⟨gb211, 0, none⟩ = some (.int .i64 0) := (blk_cell BK211.out 0).trans rfl
                                                have hcz80_1 : w75.cell? ⟨gb211, 1, none⟩ = some (.int .i64 0) := (blk_cell BK211.out 1).trans rfl
                                                have hcz80_2 : w75.cell? ⟨gb211, 2, none⟩ = some (.int .i64 0) := (blk_cell BK211.out 2).trans rfl
                                                have hfz80_0 := blk_frozen BK211.out 0
                                                have hfz80_1 := blk_frozen BK211.out 1
                                                have hfz80_2 := blk_frozen BK211.out 2
                                                go_wp2
                                                go_meet
                                                case rel => exact ⟨_, (true), (by first | rfl | (simp; done) | (simp [*]; done)), H', ⟨by have := HK1.out; have := HJ44.out; have := HJ47.out; have := HJ49.out; have := HJ55.out; have := HJ67.out; have := HK7.out; first | omega | exact Nat.le_refl _⟩, ⟨by (with_reducible repeat (first | apply Kd.R_alloc | apply Kd.R_drewN | apply Kd.R_drew)); exact Kd.R_mono (Kd.R_far (p := ⟨gb211, 2, none⟩) (Kd.R_far (p := ⟨gb211, 1, none⟩) (Kd.R_far (p := ⟨gb211, 0, none⟩) (Kd.R_types HO_16.out BK211.out (by decide)) (fun _ hk => hk.2) (.int .i64 ((rd_T49 l2 x125_7).f0))) (fun _ hk => hk.2) (.int .i64 ((rd_T49 l2 x125_7).f1))) (fun _ hk => hk.2) (.int .i64 ((rd_T49 l2 x125_7).f2))) (fun _ hk => trivial)⟩, ⟨by (with_reducible repeat (first | refine blk_drewN ?_ _ | refine blk_drew ?_ | refine blk_alloc ?_ _)); refine blk_put (cs := #[.int .i64 ((rd_T49 l2 x125_7).f0), .int .i64 ((rd_T49 l2 x125_7).f1), .int .i64 0]) ?_ 2 _ rfl; (with_reducible repeat (first | refine blk_drewN ?_ _ | refine blk_drew ?_ | refine blk_alloc ?_ _)); refine blk_put (cs := #[.int .i64 ((rd_T49 l2 x125_7).f0), .int .i64 0, .int .i64 0]) ?_ 1 _ rfl; (with_reducible repeat (first | refine blk_drewN ?_ _ | refine blk_drew ?_ | refine blk_alloc ?_ _)); refine blk_put (cs := #[.int .i64 0, .int .i64 0, .int .i64 0]) ?_ 0 _ rfl; (with_reducible repeat (first | refine blk_drewN ?_ _ | refine blk_drew ?_ | refine blk_alloc ?_ _)); exact BK211.out⟩, ⟨by repeat (first | (with_reducible first | exact HB.out | apply below_alloc | apply pw_below_drewN | apply below_drew1 | refine below_set ?_ GE211.out) | exact HB.out)⟩⟩
                                              · rw [if_neg c79] at H
                                                have c79b0 : decide (47 < ((rd_T49 l2 x125_7).f1)) = false := decide_eq_false c79
                                                clear c79
                                                by_cases c81 : ((rd_T49 l2 x125_7).f2) < 0
                                                · rw [if_pos c81] at H
                                                  have c81b0 : decide (((rd_T49 l2 x125_7).f2) < 0) = true := decide_eq_true c81
                                                  clear c81
                                                  have H' := Aside0.mk H
                                                  clear H
                                                  have hcz82_0 : w75.cell? ⟨gb211, 0, none⟩ = some (.int .i64 0) := (blk_cell BK211.out 0).trans rfl
                                                  have hcz82_1 : w75.cell? ⟨gb211, 1, none⟩ = some (.int .i64 0) := (blk_cell BK211.out 1).trans rfl
                                                  have hcz82_2 : w75.cell? ⟨gb211, 2, none⟩ = some (.int .i64 0) := (blk_cell BK211.out 2).trans rfl
                                                  have hfz82_0 := blk_frozen BK211.out 0
                                                  have hfz82_1 := blk_frozen BK211.out 1
                                                  have hfz82_2 := blk_frozen BK211.out 2
                                                  go_wp2
                                                  go_meet
                                                  case rel => exact ⟨_, (true), (by first | rfl | (simp; done) | (simp [*]; done)), H', ⟨by have := HK1.out; have := HJ44.out; have := HJ47.out; have := HJ49.out; have := HJ55.out; have := HJ67.out; have := HK7.out; first | omega | exact Nat.le_refl _⟩, ⟨by (with_reducible repeat (first | apply Kd.R_alloc | apply Kd.R_drewN | apply Kd.R_drew)); exact Kd.R_mono (Kd.R_far (p := ⟨gb211, 2, none⟩) (Kd.R_far (p := ⟨gb211, 1, none⟩) (Kd.R_far (p := ⟨gb211, 0, none⟩) (Kd.R_types HO_16.out BK211.out (by decide)) (fun _ hk => hk.2) (.int .i64 ((rd_T49 l2 x125_7).f0))) (fun _ hk => hk.2) (.int .i64 ((rd_T49 l2 x125_7).f1))) (fun _ hk => hk.2) (.int .i64 ((rd_T49 l2 x125_7).f2))) (fun _ hk => trivial)⟩, ⟨by (with_reducible repeat (first | refine blk_drewN ?_ _ | refine blk_drew ?_ | refine blk_alloc ?_ _)); refine blk_put (cs := #[.int .i64 ((rd_T49 l2 x125_7).f0), .int .i64 ((rd_T49 l2 x125_7).f1), .int .i64 0]) ?_ 2 _ rfl; (with_reducible repeat (first | refine blk_drewN ?_ _ | refine blk_drew ?_ | refine blk_alloc ?_ _)); refine blk_put (cs := #[.int .i64 ((rd_T49 l2 x125_7).f0), .int .i64 0, .int .i64 0]) ?_ 1 _ rfl; (with_reducible repeat (first | refine blk_drewN ?_ _ | refine blk_drew ?_ | refine blk_alloc ?_ _)); refine blk_put (cs := #[.int .i64 0, .int .i64 0, .int .i64 0]) ?_ 0 _ rfl; (with_reducible repeat (first | refine blk_drewN ?_ _ | refine blk_drew ?_ | refine blk_alloc ?_ _)); exact BK211.out⟩, ⟨by repeat (first | (with_reducible first | exact HB.out | apply below_alloc | apply pw_below_drewN | apply below_drew1 | refine below_set ?_ GE211.out) | exact HB.out)⟩⟩
                                                · rw [if_neg c81] at H
                                                  have c81b0 : decide (((rd_T49 l2 x125_7).f2) < 0) = false := decide_eq_false c81
                                                  clear c81
                                                  by_cases c83 : ((rd_T49 l2 x125_7).f2) > 31
                                                  · rw [if_pos c83] at H
                                                    have c83b0 : decide (31 < ((rd_T49 l2 x125_7).f2)) = true := decide_eq_true c83
                                                    clear c83
                                                    have H' := Aside0.mk H
                                                    clear H
                                                    have hcz84_0 : w75.cell? ⟨gb211, 0, none⟩ = some (.int .i64 0) := (blk_cell BK211.out 0).trans rfl
                                                    have hcz84_1 : w75.cell? ⟨gb211, 1, none⟩ = some (.int .i64 0) := (blk_cell BK211.out 1).trans rfl
                                                    have hcz84_2 : w75.cell? ⟨gb211, 2, none⟩ = some (.int .i64 0) := (blk_cell BK211.out 2).trans rfl
                                                    have hfz84_0 := blk_frozen BK211.out 0
                                                    have hfz84_1 := blk_frozen BK211.out 1
                                                    have hfz84_2 := blk_frozen BK211.out 2
                                                    go_wp2
                                                    go_meet
                                                    case rel => exact ⟨_, (true), (by first | rfl | (simp; done) | (simp [*]; done)), H', ⟨by have := HK1.out; have := HJ44.out; have := HJ47.out; have := HJ49.out; have := HJ55.out; have := HJ67.out; have := HK7.out; first | omega | exact Nat.le_refl _⟩, ⟨by (with_reducible repeat (first | apply Kd.R_alloc | apply Kd.R_drewN | apply Kd.R_drew)); exact Kd.R_mono (Kd.R_far (p := ⟨gb211, 2, none⟩) (Kd.R_far (p := ⟨gb211, 1, none⟩) (Kd.R_far (p := ⟨gb211, 0, none⟩) (Kd.R_types HO_16.out BK211.out (by decide)) (fun _ hk => hk.2) (.int .i64 ((rd_T49 l2 x125_7).f0))) (fun _ hk => hk.2) (.int .i64 ((rd_T49 l2 x125_7).f1))) (fun _ hk => hk.2) (.int .i64 ((rd_T49 l2 x125_7).f2))) (fun _ hk => trivial)⟩, ⟨by (with_reducible repeat (first | refine blk_drewN ?_ _ | refine blk_drew ?_ | refine blk_alloc ?_ _)); refine blk_put (cs := #[.int .i64 ((rd_T49 l2 x125_7).f0), .int .i64 ((rd_T49 l2 x125_7).f1), .int .i64 0]) ?_ 2 _ rfl; (with_reducible repeat (first | refine blk_drewN ?_ _ | refine blk_drew ?_ | refine blk_alloc ?_ _)); refine blk_put (cs := #[.int .i64 ((rd_T49 l2 x125_7).f0), .int .i64 0, .int .i64 0]) ?_ 1 _ rfl; (with_reducible repeat (first | refine blk_drewN ?_ _ | refine blk_drew ?_ | refine blk_alloc ?_ _)); refine blk_put (cs := #[.int .i64 0, .int .i64 0, .int .i64 0]) ?_ 0 _ rfl; (with_reducible repeat (first | refine blk_drewN ?_ _ | refine blk_drew ?_ | refine blk_alloc ?_ _)); exact BK211.out⟩, ⟨by repeat (first | (with_reducible first | exact HB.out | apply below_alloc | apply pw_below_drewN | apply below_drew1 | refine below_set ?_ GE211.out) | exact HB.out)⟩⟩
                                                  · rw [if_neg c83] at H
                                                    have c83b0 : decide (31 < ((rd_T49 l2 x125_7).f2)) = false := decide_eq_false c83
                                                    clear c83
                                                    by_cases c85 : ((rd_T49 l2 x125_7).f0) < 0
                                                    · rw [if_pos c85] at H
                                                      have c85b0 : decide (((rd_T49 l2 x125_7).f0) < 0) = true := decide_eq_true c85
                                                      clear c85
                                                      have H' := Aside0.mk H
                                                      clear H
                                                      have hcz86_0 : w75.cell? ⟨gb211, 0, none⟩ = some (.int .i64 0) := (blk_cell BK211.out 0).trans rfl
                                                      have hcz86_1 : w75.cell? ⟨gb211, 1, none⟩ = some (.int .i64 0) := (blk_cell BK211.out 1).trans rfl
                                                      have hcz86_2 : w75.cell? ⟨gb211, 2, none⟩ = some (.int .i64 0) := (blk_cell BK211.out 2).trans rfl
                                                      have hfz86_0 := blk_frozen BK211.out 0
                                                      have hfz86_1 := blk_frozen BK211.out 1
                                                      have hfz86_2 := blk_frozen BK211.out 2
                                                      go_wp2
                                                      go_meet
                                                      case rel => exact ⟨_, (true), (by first | rfl | (simp; done) | (simp [*]; done)), H', ⟨by have := HK1.out; have := HJ44.out; have := HJ47.out; have := HJ49.out; have := HJ55.out; have := HJ67.out; have := HK7.out; first | omega | exact Nat.le_refl _⟩, ⟨by (with_reducible repeat (first | apply Kd.R_alloc | apply Kd.R_drewN | apply Kd.R_drew)); exact Kd.R_mono (Kd.R_far (p := ⟨gb211, 2, none⟩) (Kd.R_far (p := ⟨gb211, 1, none⟩) (Kd.R_far (p := ⟨gb211, 0, none⟩) (Kd.R_types HO_16.out BK211.out (by decide)) (fun _ hk => hk.2) (.int .i64 ((rd_T49 l2 x125_7).f0))) (fun _ hk => hk.2) (.int .i64 ((rd_T49 l2 x125_7).f1))) (fun _ hk => hk.2) (.int .i64 ((rd_T49 l2 x125_7).f2))) (fun _ hk => trivial)⟩, ⟨by (with_reducible repeat (first | refine blk_drewN ?_ _ | refine blk_drew ?_ | refine blk_alloc ?_ _)); refine blk_put (cs := #[.int .i64 ((rd_T49 l2 x125_7).f0), .int .i64 ((rd_T49 l2 x125_7).f1), .int .i64 0]) ?_ 2 _ rfl; (with_reducible repeat (first | refine blk_drewN ?_ _ | refine blk_drew ?_ | refine blk_alloc ?_ _)); refine blk_put (cs := #[.int .i64 ((rd_T49 l2 x125_7).f0), .int .i64 0, .int .i64 0]) ?_ 1 _ rfl; (with_reducible repeat (first | refine blk_drewN ?_ _ | refine blk_drew ?_ | refine blk_alloc ?_ _)); refine blk_put (cs := #[.int .i64 0, .int .i64 0, .int .i64 0]) ?_ 0 _ rfl; (with_reducible repeat (first | refine blk_drewN ?_ _ | refine blk_drew ?_ | refine blk_alloc ?_ _)); exact BK211.out⟩, ⟨by repeat (first | (with_reducible first | exact HB.out | apply below_alloc | apply pw_below_drewN | apply below_drew1 | refine below_set ?_ GE211.out) | exact HB.out)⟩⟩
                                                    · rw [if_neg c85] at H
                                                      have c85b0 : decide (((rd_T49 l2 x125_7).f0) < 0) = false := decide_eq_false c85
                                                      clear c85
                                                      have H' := Aside0.mk H
                                                      clear H
                                                      have hcz87_0 : w75.cell? ⟨gb211, 0, none⟩ = some (.int .i64 0) := (blk_cell BK211.out 0).trans rfl
                                                      have hcz87_1 : w75.cell? ⟨gb211, 1, none⟩ = some (.int .i64 0) := (blk_cell BK211.out 1).trans rfl
                                                      have hcz87_2 : w75.cell? ⟨gb211, 2, none⟩ = some (.int .i64 0) := (blk_cell BK211.out 2).trans rfl
                                                      have hfz87_0 := blk_frozen BK211.out 0
                                                      have hfz87_1 := blk_frozen BK211.out 1
                                                      have hfz87_2 := blk_frozen BK211.out 2
                                                      go_wp2
                                                      go_meet
                                                      case rel => exact ⟨_, (decide (((rd_T49 l2 x125_7).f0) > 39)), (by first | rfl | (simp; done) | (simp [*]; done)), H', ⟨by have := HK1.out; have := HJ44.out; have := HJ47.out; have := HJ49.out; have := HJ55.out; have := HJ67.out; have := HK7.out; first | omega | exact Nat.le_refl _⟩, ⟨by (with_reducible repeat (first | apply Kd.R_alloc | apply Kd.R_drewN | apply Kd.R_drew)); exact Kd.R_mono (Kd.R_far (p := ⟨gb211, 2, none⟩) (Kd.R_far (p := ⟨gb211, 1, none⟩) (Kd.R_far (p := ⟨gb211, 0, none⟩) (Kd.R_types HO_16.out BK211.out (by decide)) (fun _ hk => hk.2) (.int .i64 ((rd_T49 l2 x125_7).f0))) (fun _ hk => hk.2) (.int .i64 ((rd_T49 l2 x125_7).f1))) (fun _ hk => hk.2) (.int .i64 ((rd_T49 l2 x125_7).f2))) (fun _ hk => trivial)⟩, ⟨by (with_reducible repeat (first | refine blk_drewN ?_ _ | refine blk_drew ?_ | refine blk_alloc ?_ _)); refine blk_put (cs := #[.int .i64 ((rd_T49 l2 x125_7).f0), .int .i64 ((rd_T49 l2 x125_7).f1), .int .i64 0]) ?_ 2 _ rfl; (with_reducible repeat (first | refine blk_drewN ?_ _ | refine blk_drew ?_ | refine blk_alloc ?_ _)); refine blk_put (cs := #[.int .i64 ((rd_T49 l2 x125_7).f0), .int .i64 0, .int .i64 0]) ?_ 1 _ rfl; (with_reducible repeat (first | refine blk_drewN ?_ _ | refine blk_drew ?_ | refine blk_alloc ?_ _)); refine blk_put (cs := #[.int .i64 0, .int .i64 0, .int .i64 0]) ?_ 0 _ rfl; (with_reducible repeat (first | refine blk_drewN ?_ _ | refine blk_drew ?_ | refine blk_alloc ?_ _)); exact BK211.out⟩, ⟨by repeat (first | (with_reducible first | exact HB.out | apply below_alloc | apply pw_below_drewN | apply below_drew1 | refine below_set ?_ GE211.out) | exact HB.out)⟩⟩
                                          case rest =>
                                            clear HC74
                                            try clear c1
                                            try clear p1
                                            try clear q1
                                            try clear hx1
                                            try clear c2
                                            try clear p2
                                            try clear q2
                                            try clear hx2
                                            try clear c4
                                            try clear c4b0
                                            try clear c5
                                            try clear c5b0
                                            try clear c6
                                            try clear c6b0
                                            try clear p6
                                            try clear c7
                                            try clear c8
                                            try clear c12
                                            try clear c12b0
                                            try clear c13
                                            try clear c13b0
                                            try clear c14
                                            try clear c14b0
                                            try clear q15
                                            try clear c16
                                            try clear c17
                                            try clear c17b0
                                            try clear p18
                                            try clear q18
                                            try clear hx18
                                            try clear c19
                                            try clear p19
                                            try clear q19
                                            try clear hx19
                                            try clear c20
                                            try clear c21
                                            try clear p21
                                            try clear q21
                                            try clear hx21
                                            try clear c22
                                            try clear c22b0
                                            try clear c23
                                            try clear c23b0
                                            try clear c24
                                            try clear c24b0
                                            try clear c25
                                            try clear c26
                                            try clear c47
                                            try clear c47b0
                                            try clear c47b1
                                            try clear c49
                                            try clear c51
                                            try clear c51b0
                                            try clear c51b1
                                            try clear c59
                                            try clear c60
                                            try clear c60b0
                                            try clear c60b1
                                            try clear c67
                                            try clear c69
                                            try clear c69b0
                                            try clear c69b1
                                            try clear c70
                                            try clear c70b0
                                            try clear c71
                                            try clear c71b0
                                            try clear c72
                                            try clear c72b0
                                            try clear c73
                                            try clear c73b0
                                            try clear c73b1
                                            try clear c77
                                            try clear c77b0
                                            try clear c79
                                            try clear c79b0
                                            try clear c81
                                            try clear c81b0
                                            try clear c83
                                            try clear c83b0
                                            try clear c85
                                            try clear c85b0
                                            try clear hcz25_0
                                            try clear hcz25_1
                                            try clear hcz25_2
                                            try clear hcz25_3
                                            try clear hcz28_0
                                            try clear hcz28_1
                                            try clear hcz28_2
                                            try clear hcz28_3
                                            try clear hcz29_0
                                            try clear hcz29_1
                                            try clear hcz29_2
                                            try clear hcz29_3
                                            try clear hcz32_0
                                            try clear hcz32_1
                                            try clear hcz32_2
                                            try clear hcz32_3
                                            try clear hcz33_0
                                            try clear hcz33_1
                                            try clear hcz33_2
                                            try clear hcz33_3
                                            try clear hcz36_0
                                            try clear hcz36_1
                                            try clear hcz36_2
                                            try clear hcz36_3
                                            try clear hcz37_0
                                            try clear hcz37_1
                                            try clear hcz37_2
                                            try clear hcz37_3
                                            try clear hcz40_0
                                            try clear hcz40_1
                                            try clear hcz40_2
                                            try clear hcz40_3
                                            try clear hcz41_0
                                            try clear hcz41_1
                                            try clear hcz41_2
                                            try clear hcz41_3
                                            try clear hcz76_0
                                            try clear hcz76_1
                                            try clear hcz76_2
                                            try clear hcz78_0
                                            try clear hcz78_1
                                            try clear hcz78_2
                                            try clear hcz80_0
                                            try clear hcz80_1
                                            try clear hcz80_2
                                            try clear hcz82_0
                                            try clear hcz82_1
                                            try clear hcz82_2
                                            try clear hcz84_0
                                            try clear hcz84_1
                                            try clear hcz84_2
                                            try clear hcz86_0
                                            try clear hcz86_1
                                            try clear hcz86_2
                                            try clear hcz87_0
                                            try clear hcz87_1
                                            try clear hcz87_2
                                            try clear hcz8_0
                                            try clear hcz8_1
                                            try clear hcz8_2
                                            try clear hcz8_3
                                            try clear hfz25_0
                                            try clear hfz25_1
                                            try clear hfz25_2
                                            try clear hfz25_3
                                            try clear hfz28_0
                                            try clear hfz28_1
                                            try clear hfz28_2
                                            try clear hfz28_3
                                            try clear hfz29_0
                                            try clear hfz29_1
                                            try clear hfz29_2
                                            try clear hfz29_3
                                            try clear hfz32_0
                                            try clear hfz32_1
                                            try clear hfz32_2
                                            try clear hfz32_3
                                            try clear hfz33_0
                                            try clear hfz33_1
                                            try clear hfz33_2
                                            try clear hfz33_3
                                            try clear hfz36_0
                                            try clear hfz36_1
                                            try clear hfz36_2
                                            try clear hfz36_3
                                            try clear hfz37_0
                                            try clear hfz37_1
                                            try clear hfz37_2
                                            try clear hfz37_3
                                            try clear hfz40_0
                                            try clear hfz40_1
                                            try clear hfz40_2
                                            try clear hfz40_3
                                            try clear hfz41_0
                                            try clear hfz41_1
                                            try clear hfz41_2
                                            try clear hfz41_3
                                            try clear hfz76_0
                                            try clear hfz76_1
                                            try clear hfz76_2
                                            try clear hfz78_0
                                            try clear hfz78_1
                                            try clear hfz78_2
                                            try clear hfz80_0
                                            try clear hfz80_1
                                            try clear hfz80_2
                                            try clear hfz82_0
                                            try clear hfz82_1
                                            try clear hfz82_2
                                            try clear hfz84_0
                                            try clear hfz84_1
                                            try clear hfz84_2
                                            try clear hfz86_0
                                            try clear hfz86_1
                                            try clear hfz86_2
                                            try clear hfz87_0
                                            try clear hfz87_1
                                            try clear hfz87_2
                                            try clear hfz8_0
                                            try clear hfz8_1
                                            try clear hfz8_2
                                            try clear hfz8_3
                                            try clear hx188_0
                                            try clear hx188_1
                                            try clear hx188_2
                                            try clear hx188_3
                                            try clear hx193_0
                                            try clear hx210_0
                                            try clear hx210_1
                                            try clear hx210_2
                                            try clear p1
                                            try clear p18
                                            try clear p188
                                            try clear p19
                                            try clear p193
                                            try clear p2
                                            try clear p210
                                            try clear p6
                                            try clear q1
                                            try clear q15
                                            try clear q18
                                            try clear q188
                                            try clear q19
                                            try clear q193
                                            try clear q210
                                            obtain ⟨kq, x132_73, rfl, HA, HJ73, HO_16, BK211, HB⟩ := hcut
                                            cases kq with
                                            | zero => exact absurd HA.out (by simp [bakelaw3_KeysJoys.j8])
                                            | succ kj73 =>
                                              have H := HA.out
                                              clear HA
                                              simp only [bakelaw3_KeysJoys.j8] at H
                                              by_cases c88 : x132_73 = true
                                              · subst c88
                                                have H1 : ((some (([(⟨wrap64 (((rd_T49 l2 x125_7).f1) + (wrap64 (64 * (wrap64 (((rd_T49 l2 x125_7).f2) + (40 * (mx 0 (mn ((rd_T49 l2 x125_7).f0) 39)))))))), a0, 128⟩ : S47), (⟨wrap64 ((wrap64 (((rd_T49 l2 x125_7).f1) + (wrap64 (64 * (wrap64 (((rd_T49 l2 x125_7).f2) + (40 * (mx 0 (mn ((rd_T49 l2 x125_7).f0) 39))))))))) + 1), a0, 0⟩ : S47)] : List (S47)) : List (S47))).bind fun y212 => (if x16_7.length + y212.length < 4398046511104 then (bakelaw3_KeysJoys.l2 kj73 a0 l2 1 (x16_7 ++ y212) ((rd_T49 l2 x125_7).f0) l2 (l2.length : Int) (wrap64 (x125_7 + 1))) else (none))) = some r := by rw [if_pos rfl] at H; exact H
                                                clear H
                                                have H := H1
                                                clear H1
                                                obtain ⟨ji89, hji89⟩ : ∃ j_ : Int, (mn ((rd_T49 l2 x125_7).f0) 39) = j_ := ⟨_, rfl⟩
                                                replace H : ((some (([(⟨wrap64 (((rd_T49 l2 x125_7).f1) + (wrap64 (64 * (wrap64 (((rd_T49 l2 x125_7).f2) + (40 * (mx 0 (ji89)))))))), a0, 128⟩ : S47), (⟨wrap64 ((wrap64 (((rd_T49 l2 x125_7).f1) + (wrap64 (64 * (wrap64 (((rd_T49 l2 x125_7).f2) + (40 * (mx 0 (ji89))))))))) + 1), a0, 0⟩ : S47)] : List (S47)) : List (S47))).bind fun y212 => (if x16_7.length + y212.length < 4398046511104 then (bakelaw3_KeysJoys.l2 kj73 a0 l2 1 (x16_7 ++ y212) ((rd_T49 l2 x125_7).f0) l2 (l2.length : Int) (wrap64 (x125_7 + 1))) else (none))) = some r := by first | (rw [hji89] at H; exact H) | (simp only [hji89] at H ⊢; exact H)
                                                have hji89_ : (if 39 < ((rd_T49 l2 x125_7).f0) then 39 else ((rd_T49 l2 x125_7).f0)) = ji89 := hji89
                                                obtain ⟨ji90, hji90⟩ : ∃ j_ : Int, (mx 0 (ji89)) = j_ := ⟨_, rfl⟩
                                                replace H : ((some (([(⟨wrap64 (((rd_T49 l2 x125_7).f1) + (wrap64 (64 * (wrap64 (((rd_T49 l2 x125_7).f2) + (40 * (ji90))))))), a0, 128⟩ : S47), (⟨wrap64 ((wrap64 (((rd_T49 l2 x125_7).f1) + (wrap64 (64 * (wrap64 (((rd_T49 l2 x125_7).f2) + (40 * (ji90)))))))) + 1), a0, 0⟩ : S47)] : List (S47)) : List (S47))).bind fun y212 => (if x16_7.length + y212.length < 4398046511104 then (bakelaw3_KeysJoys.l2 kj73 a0 l2 1 (x16_7 ++ y212) ((rd_T49 l2 x125_7).f0) l2 (l2.length : Int) (wrap64 (x125_7 + 1))) else (none))) = some r := by first | (rw [hji90] at H; exact H) | (simp only [hji90] at H ⊢; exact H)
                                                have hji90_ : (if 0 < (ji89) then (ji89) else 0) = ji90 := hji90
                                                obtain ⟨y212, hy212⟩ : ∃ y_ : List (S47), y_ = (([(⟨wrap64 (((rd_T49 l2 x125_7).f1) + (wrap64 (64 * (wrap64 (((rd_T49 l2 x125_7).f2) + (40 * (ji90))))))), a0, 128⟩ : S47), (⟨wrap64 ((wrap64 (((rd_T49 l2 x125_7).f1) + (wrap64 (64 * (wrap64 (((rd_T49 l2 x125_7).f2) + (40 * (ji90)))))))) + 1), a0, 0⟩ : S47)] : List (S47))) := ⟨_, rfl⟩
                                                replace H : (if x16_7.length + y212.length < 4398046511104 then (bakelaw3_KeysJoys.l2 kj73 a0 l2 1 (x16_7 ++ y212) ((rd_T49 l2 x125_7).f0) l2 (l2.length : Int) (wrap64 (x125_7 + 1))) else (none)) = some r := by first | (rw [hy212]; with_reducible exact H) | (have H2_ := (Option.bind_some _ _).symm.trans H; rw [hy212]; with_reducible exact H2_) | (have H2_ := (Option.bind_some _ _).symm.trans H; with_reducible exact H2_) | with_reducible exact H | (rw [hy212]; exact H) | exact H
                                                have Ny212 := Aside0.mk hy212
                                                clear hy212
                                                by_cases c91 : x16_7.length + y212.length < 4398046511104
                                                · rw [if_pos c91] at H
                                                  have LMc91 := Aside0.mk c91
                                                  clear c91
                                                  obtain ⟨y215, hy215⟩ : ∃ y_ : List (S47), y_ = (x16_7 ++ y212) := ⟨_, rfl⟩
                                                  replace H : (bakelaw3_KeysJoys.l2 kj73 a0 l2 1 y215 ((rd_T49 l2 x125_7).f0) l2 (l2.length : Int) (wrap64 (x125_7 + 1))) = some r := by first | (rw [hy215]; with_reducible exact H) | (have H2_ := (Option.bind_some _ _).symm.trans H; rw [hy215]; with_reducible exact H2_) | (have H2_ := (Option.bind_some _ _).symm.trans H; with_reducible exact H2_) | with_reducible exact H | (rw [hy215]; exact H) | exact H
                                                  have Ny215 := Aside0.mk hy215
                                                  clear hy215
                                                  have H' := Aside0.mk H
                                                  clear H
                                                  have hcz92_0 : wc.cell? ⟨gb211, 0, none⟩ = some (.int .i64 ((rd_T49 l2 x125_7).f0)) := (blk_cell BK211.out 0).trans rfl
                                                  have hcz92_1 : wc.cell? ⟨gb211, 1, none⟩ = some (.int .i64 ((rd_T49 l2 x125_7).f1)) := (blk_cell BK211.out 1).trans rfl
                                                  have hcz92_2 : wc.cell? ⟨gb211, 2, none⟩ = some (.int .i64 ((rd_T49 l2 x125_7).f2)) := (blk_cell BK211.out 2).trans rfl
                                                  have hfz92_0 := blk_frozen BK211.out 0
                                                  have hfz92_1 := blk_frozen BK211.out 1
                                                  have hfz92_2 := blk_frozen BK211.out 2
                                                  go_wp2_with (first | ((with_reducible refine gate_dst (N := 188) rfl ?_); refine Kd.R_lit k47 _ 47 ?hg (N := 188) ?hd (xs := ([(⟨wrap64 (((rd_T49 l2 x125_7).f1) + (wrap64 (64 * (wrap64 (((rd_T49 l2 x125_7).f2) + (40 * (ji90))))))), a0, 128⟩ : S47), (⟨wrap64 ((wrap64 (((rd_T49 l2 x125_7).f1) + (wrap64 (64 * (wrap64 (((rd_T49 l2 x125_7).f2) + (40 * (ji90)))))))) + 1), a0, 0⟩ : S47)] : List (S47))) (inner := [.int .i64 (wrap64 (((rd_T49 l2 x125_7).f1) + (wrap64 (64 * (wrap64 (((rd_T49 l2 x125_7).f2) + (40 * (ji90)))))))), .string a0, .int .i64 128, .int .i64 (wrap64 ((wrap64 (((rd_T49 l2 x125_7).f1) + (wrap64 (64 * (wrap64 (((rd_T49 l2 x125_7).f2) + (40 * (ji90)))))))) + 1)), .string a0, .int .i64 0]) (ok := fun _ => True) (okp := fun _ => True) ?hr ?hp (fun _ hk => hk) trivial (Below.refl _ _) (Nat.le_refl _) (by simp) ?_; (case hd => rfl); (case hg => rfl); (case hr => first | (go_simp; done) | (go_simp; rfl)); (case hp => exact (Reps.c3 (show Kd.M k47 _ _ _ (⟨wrap64 (((rd_T49 l2 x125_7).f1) + (wrap64 (64 * (wrap64 (((rd_T49 l2 x125_7).f2) + (40 * (ji90))))))), a0, 128⟩ : S47) [.int .i64 (wrap64 (((rd_T49 l2 x125_7).f1) + (wrap64 (64 * (wrap64 (((rd_T49 l2 x125_7).f2) + (40 * (ji90)))))))), .string a0, .int .i64 128] from (k47_mkM _ _ _ (⟨wrap64 (((rd_T49 l2 x125_7).f1) + (wrap64 (64 * (wrap64 (((rd_T49 l2 x125_7).f2) + (40 * (ji90))))))), a0, 128⟩ : S47) )) (Reps.c3 (show Kd.M k47 _ _ _ (⟨wrap64 ((wrap64 (((rd_T49 l2 x125_7).f1) + (wrap64 (64 * (wrap64 (((rd_T49 l2 x125_7).f2) + (40 * (ji90)))))))) + 1), a0, 0⟩ : S47) [.int .i64 (wrap64 ((wrap64 (((rd_T49 l2 x125_7).f1) + (wrap64 (64 * (wrap64 (((rd_T49 l2 x125_7).f2) + (40 * (ji90)))))))) + 1)), .string a0, .int .i64 0] from (k47_mkM _ _ _ (⟨wrap64 ((wrap64 (((rd_T49 l2 x125_7).f1) + (wrap64 (64 * (wrap64 (((rd_T49 l2 x125_7).f2) + (40 * (ji90)))))))) + 1), a0, 0⟩ : S47) )) (Reps.none _ _)))); intro v213 w93 ho94 hb hg_ hnew_; clear hg_ hnew_; (first | rw [← Ny212.out] at ho94 | (simp only [Int.reduceToNat] at ho94; rw [← Ny212.out] at ho94)); have n0_ := Aside0.mk (Kd.R_elder' (by (with_reducible repeat (first | apply Kd.R_alloc | apply Kd.R_drewN | apply Kd.R_drew)); exact HO_16.out) (Kd.R_base ho94) hb); have n1_ := Aside0.mk (Kd.R_lower (Kd.R_new' ho94 (Kd.R_lt (by (with_reducible repeat (first | apply Kd.R_alloc | apply Kd.R_drewN | apply Kd.R_drew)); exact HO_16.out))) (below_size (by repeat (first | (with_reducible first | exact HB.out | apply below_alloc | apply pw_below_drewN | apply below_drew1 | refine below_set ?_ GE211.out) | exact HB.out)))); have n2_ := Aside0.mk (blk_below (g := gb211) (o := .cells #[.int .i64 ((rd_T49 l2 x125_7).f0), .int .i64 ((rd_T49 l2 x125_7).f1), .int .i64 ((rd_T49 l2 x125_7).f2)] 49 (0, 0)) (by (with_reducible repeat (first | refine blk_drewN ?_ _ | refine blk_drew ?_ | refine blk_alloc ?_ _)); exact BK211.out) hb); have n3_ := Aside0.mk (below_step (by repeat (first | (with_reducible first | exact HB.out | apply below_alloc | apply pw_below_drewN | apply below_drew1 | refine below_set ?_ GE211.out) | exact HB.out)) hb); clear HO_16; clear BK211; clear HB; have HO_16 := n0_; have HO214 := n1_; have BK211 := n2_; have HB := n3_; clear n0_ n1_ n2_ n3_; clear hb ho94; obtain ⟨Ao96, co96, eo96⟩ := Kd.R_slice HO214.out; subst eo96) | ((with_reducible refine gate_builtin (b := .append) (xs := #[.tmp 180, .tmp 188]) rfl ?_); at_builtin; refine Kd.R_append_rows k47 (w0 := w) w.heap.size rfl (.tmp 180) (.tmp 188) 42 47 (.agg #[(.int .i64 0), (.string ⟨#[]⟩), (.int .i64 0)]) 32 rfl Try.underlying42 info47 rfl (by decide) (by omega) u16 x16_7 y212 _ _ _ (fun k_ => some k_ ≠ (.slice Ao96 y212.length co96 : Value).ownBlock) (fun _ => False) rfl rfl ?aO ?aR (fun _ _ h => h) (fun _ h => h.elim) ?aF ?aB ?aS ?aL ?_; (case aR => repeat (first | exact (Kd.R_reads' HO214.out).2.2 | (with_reducible refine Kd.C_alloc ?_ _) | (with_reducible refine Kd.C_drewN ?_ _) | (with_reducible refine Kd.C_drew ?_))); (case aB => exact (by repeat (first | (with_reducible first | exact HB.out | apply below_alloc | apply pw_below_drewN | apply below_drew1 | refine below_set ?_ GE211.out) | exact HB.out))); (case aF => exact (fun k_ hk => Kd.fresh' (Kd.R_lt (by (with_reducible repeat (first | apply Kd.R_alloc | apply Kd.R_drewN | apply Kd.R_drew)); exact HO214.out)) k_ hk)); (case aO => exact (by (with_reducible repeat (first | apply Kd.R_alloc | apply Kd.R_drewN | apply Kd.R_drew)); exact Kd.R_mono HO_16.out (fun _ hk => hk.2))); (case aS => exact (below_size (by repeat (first | (with_reducible first | exact HB.out | apply below_alloc | apply pw_below_drewN | apply below_drew1 | refine below_set ?_ GE211.out) | exact HB.out)))); (case aL => have := LMc91.out; omega); intro v216 w95 ho hb hg hat; rw [← Ny215.out] at ho; have n0_ := Aside0.mk (blk_grown (g := gb211) (o := .cells #[.int .i64 ((rd_T49 l2 x125_7).f0), .int .i64 ((rd_T49 l2 x125_7).f1), .int .i64 ((rd_T49 l2 x125_7).f2)] 49 (0, 0)) (by (with_reducible repeat (first | refine blk_drewN ?_ _ | refine blk_drew ?_ | refine blk_alloc ?_ _)); exact BK211.out) hg (Kd.R_ne HO_16.out BK211.out (by decide))); have n1_ := Aside0.mk (Kd.R_after (ok := (fun _ => True)) (by (with_reducible repeat (first | apply Kd.R_alloc | apply Kd.R_drewN | apply Kd.R_drew)); exact HO214.out) hg hat); have n2_ := Aside0.mk (hb); have n3_ := Aside0.mk (ho); clear BK211; clear HO214; clear HB; clear HO_16; have BK211 := n0_; have HO214 := n1_; have HB := n2_; have HO217 := n3_; clear n0_ n1_ n2_ n3_; clear ho hb hg hat))
                                                  go_roundg kj73
                                                  case measure => have := HK1.out; have := HJ44.out; have := HJ47.out; have := HJ49.out; have := HJ55.out; have := HJ67.out; have := HK7.out; have := HJ73.out; omega
                                                  case rel => exact ⟨(1), (y215), (((rd_T49 l2 x125_7).f0)), (wrap64 (x125_7 + 1)), (by first | rfl | (simp; done) | (simp [*]; done)), (by first | rfl | (simp; done) | (simp [*]; done)), (by first | rfl | (simp; done) | (simp [*]; done)), H', ⟨by have := HK1.out; have := HJ44.out; have := HJ47.out; have := HJ49.out; have := HJ55.out; have := HJ67.out; have := HK7.out; have := HJ73.out; omega⟩, ⟨by (with_reducible repeat (first | apply Kd.R_alloc | apply Kd.R_drewN | apply Kd.R_drew)); exact Kd.R_mono HO217.out (fun _ hk => trivial)⟩, ⟨by repeat (first | (with_reducible first | exact HB.out | apply below_alloc | apply pw_below_drewN | apply below_drew1 | refine below_set ?_ GE211.out) | exact HB.out)⟩⟩
                                                · rw [if_neg c91] at H
                                                  exact absurd H (by simp)
                                              · replace c88 := Bool.eq_false_iff.mpr c88
                                                subst c88
                                                have H1 : (if ((rd_T49 l2 x125_7).f0) ≤ x19_7 then ((some (([(⟨wrap64 (((rd_T49 l2 x125_7).f1) + (wrap64 (64 * (wrap64 (((rd_T49 l2 x125_7).f2) + (40 * (mx 0 (mn ((rd_T49 l2 x125_7).f0) 39)))))))), a0, 128⟩ : S47), (⟨wrap64 ((wrap64 (((rd_T49 l2 x125_7).f1) + (wrap64 (64 * (wrap64 (((rd_T49 l2 x125_7).f2) + (40 * (mx 0 (mn ((rd_T49 l2 x125_7).f0) 39))))))))) + 1), a0, 0⟩ : S47)] : List (S47)) : List (S47))).bind fun y218 => (if x16_7.length + y218.length < 4398046511104 then (bakelaw3_KeysJoys.l2 kj73 a0 l2 9 (x16_7 ++ y218) ((rd_T49 l2 x125_7).f0) l2 (l2.length : Int) (wrap64 (x125_7 + 1))) else (none))) else ((some (([(⟨wrap64 (((rd_T49 l2 x125_7).f1) + (wrap64 (64 * (wrap64 (((rd_T49 l2 x125_7).f2) + (40 * (mx 0 (mn ((rd_T49 l2 x125_7).f0) 39)))))))), a0, 128⟩ : S47), (⟨wrap64 ((wrap64 (((rd_T49 l2 x125_7).f1) + (wrap64 (64 * (wrap64 (((rd_T49 l2 x125_7).f2) + (40 * (mx 0 (mn ((rd_T49 l2 x125_7).f0) 39))))))))) + 1), a0, 0⟩ : S47)] : List (S47)) : List (S47))).bind fun y224 => (if x16_7.length + y224.length < 4398046511104 then (bakelaw3_KeysJoys.l2 kj73 a0 l2 x15_7 (x16_7 ++ y224) ((rd_T49 l2 x125_7).f0) l2 (l2.length : Int) (wrap64 (x125_7 + 1))) else (none)))) = some r := by rw [if_neg (show ¬ (false = true) by decide)] at H; exact H
                                                clear H
                                                have H := H1
                                                clear H1
                                                by_cases c97 : ((rd_T49 l2 x125_7).f0) ≤ x19_7
                                                · rw [if_pos c97] at H
                                                  have c97b0 : decide (((rd_T49 l2 x125_7).f0) ≤ x19_7) = true := decide_eq_true c97
                                                  clear c97
                                                  obtain ⟨ji98, hji98⟩ : ∃ j_ : Int, (mn ((rd_T49 l2 x125_7).f0) 39) = j_ := ⟨_, rfl⟩
                                                  replace H : ((some (([(⟨wrap64 (((rd_T49 l2 x125_7).f1) + (wrap64 (64 * (wrap64 (((rd_T49 l2 x125_7).f2) + (40 * (mx 0 (ji98)))))))), a0, 128⟩ : S47), (⟨wrap64 ((wrap64 (((rd_T49 l2 x125_7).f1) + (wrap64 (64 * (wrap64 (((rd_T49 l2 x125_7).f2) + (40 * (mx 0 (ji98))))))))) + 1), a0, 0⟩ : S47)] : List (S47)) : List (S47))).bind fun y218 => (if x16_7.length + y218.length < 4398046511104 then (bakelaw3_KeysJoys.l2 kj73 a0 l2 9 (x16_7 ++ y218) ((rd_T49 l2 x125_7).f0) l2 (l2.length : Int) (wrap64 (x125_7 + 1))) else (none))) = some r := by first | (rw [hji98] at H; exact H) | (simp only [hji98] at H ⊢; exact H)
                                                  have hji98_ : (if 39 < ((rd_T49 l2 x125_7).f0) then 39 else ((rd_T49 l2 x125_7).f0)) = ji98 := hji98
                                                  obtain ⟨ji99, hji99⟩ : ∃ j_ : Int, (mx 0 (ji98)) = j_ := ⟨_, rfl⟩
                                                  replace H : ((some (([(⟨wrap64 (((rd_T49 l2 x125_7).f1) + (wrap64 (64 * (wrap64 (((rd_T49 l2 x125_7).f2) + (40 * (ji99))))))), a0, 128⟩ : S47), (⟨wrap64 ((wrap64 (((rd_T49 l2 x125_7).f1) + (wrap64 (64 * (wrap64 (((rd_T49 l2 x125_7).f2) + (40 * (ji99)))))))) + 1), a0, 0⟩ : S47)] : List (S47)) : List (S47))).bind fun y218 => (if x16_7.length + y218.length < 4398046511104 then (bakelaw3_KeysJoys.l2 kj73 a0 l2 9 (x16_7 ++ y218) ((rd_T49 l2 x125_7).f0) l2 (l2.length : Int) (wrap64 (x125_7 + 1))) else (none))) = some r := by first | (rw [hji99] at H; exact H) | (simp only [hji99] at H ⊢; exact H)
                                                  have hji99_ : (if 0 < (ji98) then (ji98) else 0) = ji99 := hji99
                                                  obtain ⟨y218, hy218⟩ : ∃ y_ : List (S47), y_ = (([(⟨wrap64 (((rd_T49 l2 x125_7).f1) + (wrap64 (64 * (wrap64 (((rd_T49 l2 x125_7).f2) + (40 * (ji99))))))), a0, 128⟩ : S47), (⟨wrap64 ((wrap64 (((rd_T49 l2 x125_7).f1) + (wrap64 (64 * (wrap64 (((rd_T49 l2 x125_7).f2) + (40 * (ji99)))))))) + 1), a0, 0⟩ : S47)] : List (S47))) := ⟨_, rfl⟩
                                                  replace H : (if x16_7.length + y218.length < 4398046511104 then (bakelaw3_KeysJoys.l2 kj73 a0 l2 9 (x16_7 ++ y218) ((rd_T49 l2 x125_7).f0) l2 (l2.length : Int) (wrap64 (x125_7 + 1))) else (none)) = some r := by first | (rw [hy218]; with_reducible exact H) | (have H2_ := (Option.bind_some _ _).symm.trans H; rw [hy218]; with_reducible exact H2_) | (have H2_ := (Option.bind_some _ _).symm.trans H; with_reducible exact H2_) | with_reducible exact H | (rw [hy218]; exact H) | exact H
                                                  have Ny218 := Aside0.mk hy218
                                                  clear hy218
                                                  by_cases c100 : x16_7.length + y218.length < 4398046511104
                                                  · rw [if_pos c100] at H
                                                    have LMc100 := Aside0.mk c100
                                                    clear c100
                                                    obtain ⟨y221, hy221⟩ : ∃ y_ : List (S47), y_ = (x16_7 ++ y218) := ⟨_, rfl⟩
                                                    replace H : (bakelaw3_KeysJoys.l2 kj73 a0 l2 9 y221 ((rd_T49 l2 x125_7).f0) l2 (l2.length : Int) (wrap64 (x125_7 + 1))) = some r := by first | (rw [hy221]; with_reducible exact H) | (have H2_ := (Option.bind_some _ _).symm.trans H; rw [hy221]; with_reducible exact H2_) | (have H2_ := (Option.bind_some _ _).symm.trans H; with_reducible exact H2_) | with_reducible exact H | (rw [hy221]; exact H) | exact H
                                                    have Ny221 := Aside0.mk hy221
                                                    clear hy221
                                                    have H' := Aside0.mk H
                                                    clear H
                                                    have hcz101_0 : wc.cell? ⟨gb211, 0, none⟩ = some (.int .i64 ((rd_T49 l2 x125_7).f0)) := (blk_cell BK211.out 0).trans rfl
                                                    have hcz101_1 : wc.cell? ⟨gb211, 1, none⟩ = some (.int .i64 ((rd_T49 l2 x125_7).f1)) := (blk_cell BK211.out 1).trans rfl
                                                    have hcz101_2 : wc.cell? ⟨gb211, 2, none⟩ = some (.int .i64 ((rd_T49 l2 x125_7).f2)) := (blk_cell BK211.out 2).trans rfl
                                                    have hfz101_0 := blk_frozen BK211.out 0
                                                    have hfz101_1 := blk_frozen BK211.out 1
                                                    have hfz101_2 := blk_frozen BK211.out 2
                                                    go_wp2_with (first | ((with_reducible refine gate_dst (N := 188) rfl ?_); refine Kd.R_lit k47 _ 47 ?hg (N := 188) ?hd (xs := ([(⟨wrap64 (((rd_T49 l2 x125_7).f1) + (wrap64 (64 * (wrap64 (((rd_T49 l2 x125_7).f2) + (40 * (ji99))))))), a0, 128⟩ : S47), (⟨wrap64 ((wrap64 (((rd_T49 l2 x125_7).f1) + (wrap64 (64 * (wrap64 (((rd_T49 l2 x125_7).f2) + (40 * (ji99)))))))) + 1), a0, 0⟩ : S47)] : List (S47))) (inner := [.int .i64 (wrap64 (((rd_T49 l2 x125_7).f1) + (wrap64 (64 * (wrap64 (((rd_T49 l2 x125_7).f2) + (40 * (ji99)))))))), .string a0, .int .i64 128, .int .i64 (wrap64 ((wrap64 (((rd_T49 l2 x125_7).f1) + (wrap64 (64 * (wrap64 (((rd_T49 l2 x125_7).f2) + (40 * (ji99)))))))) + 1)), .string a0, .int .i64 0]) (ok := fun _ => True) (okp := fun _ => True) ?hr ?hp (fun _ hk => hk) trivial (Below.refl _ _) (Nat.le_refl _) (by simp) ?_; (case hd => rfl); (case hg => rfl); (case hr => first | (go_simp; done) | (go_simp; rfl)); (case hp => exact (Reps.c3 (show Kd.M k47 _ _ _ (⟨wrap64 (((rd_T49 l2 x125_7).f1) + (wrap64 (64 * (wrap64 (((rd_T49 l2 x125_7).f2) + (40 * (ji99))))))), a0, 128⟩ : S47) [.int .i64 (wrap64 (((rd_T49 l2 x125_7).f1) + (wrap64 (64 * (wrap64 (((rd_T49 l2 x125_7).f2) + (40 * (ji99)))))))), .string a0, .int .i64 128] from (k47_mkM _ _ _ (⟨wrap64 (((rd_T49 l2 x125_7).f1) + (wrap64 (64 * (wrap64 (((rd_T49 l2 x125_7).f2) + (40 * (ji99))))))), a0, 128⟩ : S47) )) (Reps.c3 (show Kd.M k47 _ _ _ (⟨wrap64 ((wrap64 (((rd_T49 l2 x125_7).f1) + (wrap64 (64 * (wrap64 (((rd_T49 l2 x125_7).f2) + (40 * (ji99)))))))) + 1), a0, 0⟩ : S47) [.int .i64 (wrap64 ((wrap64 (((rd_T49 l2 x125_7).f1) + (wrap64 (64 * (wrap64 (((rd_T49 l2 x125_7).f2) + (40 * (ji99)))))))) + 1)), .string a0, .int .i64 0] from (k47_mkM _ _ _ (⟨wrap64 ((wrap64 (((rd_T49 l2 x125_7).f1) + (wrap64 (64 * (wrap64 (((rd_T49 l2 x125_7).f2) + (40 * (ji99)))))))) + 1), a0, 0⟩ : S47) )) (Reps.none _ _)))); intro v219 w102 ho103 hb hg_ hnew_; clear hg_ hnew_; (first | rw [← Ny218.out] at ho103 | (simp only [Int.reduceToNat] at ho103; rw [← Ny218.out] at ho103)); have n0_ := Aside0.mk (Kd.R_elder' (by (with_reducible repeat (first | apply Kd.R_alloc | apply Kd.R_drewN | apply Kd.R_drew)); exact HO_16.out) (Kd.R_base ho103) hb); have n1_ := Aside0.mk (Kd.R_lower (Kd.R_new' ho103 (Kd.R_lt (by (with_reducible repeat (first | apply Kd.R_alloc | apply Kd.R_drewN | apply Kd.R_drew)); exact HO_16.out))) (below_size (by repeat (first | (with_reducible first | exact HB.out | apply below_alloc | apply pw_below_drewN | apply below_drew1 | refine below_set ?_ GE211.out) | exact HB.out)))); have n2_ := Aside0.mk (blk_below (g := gb211) (o := .cells #[.int .i64 ((rd_T49 l2 x125_7).f0), .int .i64 ((rd_T49 l2 x125_7).f1), .int .i64 ((rd_T49 l2 x125_7).f2)] 49 (0, 0)) (by (with_reducible repeat (first | refine blk_drewN ?_ _ | refine blk_drew ?_ | refine blk_alloc ?_ _)); exact BK211.out) hb); have n3_ := Aside0.mk (below_step (by repeat (first | (with_reducible first | exact HB.out | apply below_alloc | apply pw_below_drewN | apply below_drew1 | refine below_set ?_ GE211.out) | exact HB.out)) hb); clear HO_16; clear BK211; clear HB; have HO_16 := n0_; have HO220 := n1_; have BK211 := n2_; have HB := n3_; clear n0_ n1_ n2_ n3_; clear hb ho103; obtain ⟨Ao105, co105, eo105⟩ := Kd.R_slice HO220.out; subst eo105) | ((with_reducible refine gate_builtin (b := .append) (xs := #[.tmp 180, .tmp 188]) rfl ?_); at_builtin; refine Kd.R_append_rows k47 (w0 := w) w.heap.size rfl (.tmp 180) (.tmp 188) 42 47 (.agg #[(.int .i64 0), (.string ⟨#[]⟩), (.int .i64 0)]) 32 rfl Try.underlying42 info47 rfl (by decide) (by omega) u16 x16_7 y218 _ _ _ (fun k_ => some k_ ≠ (.slice Ao105 y218.length co105 : Value).ownBlock) (fun _ => False) rfl rfl ?aO ?aR (fun _ _ h => h) (fun _ h => h.elim) ?aF ?aB ?aS ?aL ?_; (case aR => repeat (first | exact (Kd.R_reads' HO220.out).2.2 | (with_reducible refine Kd.C_alloc ?_ _) | (with_reducible refine Kd.C_drewN ?_ _) | (with_reducible refine Kd.C_drew ?_))); (case aB => exact (by repeat (first | (with_reducible first | exact HB.out | apply below_alloc | apply pw_below_drewN | apply below_drew1 | refine below_set ?_ GE211.out) | exact HB.out))); (case aF => exact (fun k_ hk => Kd.fresh' (Kd.R_lt (by (with_reducible repeat (first | apply Kd.R_alloc | apply Kd.R_drewN | apply Kd.R_drew)); exact HO220.out)) k_ hk)); (case aO => exact (by (with_reducible repeat (first | apply Kd.R_alloc | apply Kd.R_drewN | apply Kd.R_drew)); exact Kd.R_mono HO_16.out (fun _ hk => hk.2))); (case aS => exact (below_size (by repeat (first | (with_reducible first | exact HB.out | apply below_alloc | apply pw_below_drewN | apply below_drew1 | refine below_set ?_ GE211.out) | exact HB.out)))); (case aL => have := LMc100.out; omega); intro v222 w104 ho hb hg hat; rw [← Ny221.out] at ho; have n0_ := Aside0.mk (blk_grown (g := gb211) (o := .cells #[.int .i64 ((rd_T49 l2 x125_7).f0), .int .i64 ((rd_T49 l2 x125_7).f1), .int .i64 ((rd_T49 l2 x125_7).f2)] 49 (0, 0)) (by (with_reducible repeat (first | refine blk_drewN ?_ _ | refine blk_drew ?_ | refine blk_alloc ?_ _)); exact BK211.out) hg (Kd.R_ne HO_16.out BK211.out (by decide))); have n1_ := Aside0.mk (Kd.R_after (ok := (fun _ => True)) (by (with_reducible repeat (first | apply Kd.R_alloc | apply Kd.R_drewN | apply Kd.R_drew)); exact HO220.out) hg hat); have n2_ := Aside0.mk (hb); have n3_ := Aside0.mk (ho); clear BK211; clear HO220; clear HB; clear HO_16; have BK211 := n0_; have HO220 := n1_; have HB := n2_; have HO223 := n3_; clear n0_ n1_ n2_ n3_; clear ho hb hg hat))
                                                    go_roundg kj73
                                                    case measure => have := HK1.out; have := HJ44.out; have := HJ47.out; have := HJ49.out; have := HJ55.out; have := HJ67.out; have := HK7.out; have := HJ73.out; omega
                                                    case rel => exact ⟨(9), (y221), (((rd_T49 l2 x125_7).f0)), (wrap64 (x125_7 + 1)), (by first | rfl | (simp; done) | (simp [*]; done)), (by first | rfl | (simp; done) | (simp [*]; done)), (by first | rfl | (simp; done) | (simp [*]; done)), H', ⟨by have := HK1.out; have := HJ44.out; have := HJ47.out; have := HJ49.out; have := HJ55.out; have := HJ67.out; have := HK7.out; have := HJ73.out; omega⟩, ⟨by (with_reducible repeat (first | apply Kd.R_alloc | apply Kd.R_drewN | apply Kd.R_drew)); exact Kd.R_mono HO223.out (fun _ hk => trivial)⟩, ⟨by repeat (first | (with_reducible first | exact HB.out | apply below_alloc | apply pw_below_drewN | apply below_drew1 | refine below_set ?_ GE211.out) | exact HB.out)⟩⟩
                                                  · rw [if_neg c100] at H
                                                    exact absurd H (by simp)
                                                · rw [if_neg c97] at H
                                                  have c97b0 : decide (((rd_T49 l2 x125_7).f0) ≤ x19_7) = false := decide_eq_false c97
                                                  clear c97
                                                  obtain ⟨ji106, hji106⟩ : ∃ j_ : Int, (mn ((rd_T49 l2 x125_7).f0) 39) = j_ := ⟨_, rfl⟩
                                                  replace H : ((some (([(⟨wrap64 (((rd_T49 l2 x125_7).f1) + (wrap64 (64 * (wrap64 (((rd_T49 l2 x125_7).f2) + (40 * (mx 0 (ji106)))))))), a0, 128⟩ : S47), (⟨wrap64 ((wrap64 (((rd_T49 l2 x125_7).f1) + (wrap64 (64 * (wrap64 (((rd_T49 l2 x125_7).f2) + (40 * (mx 0 (ji106))))))))) + 1), a0, 0⟩ : S47)] : List (S47)) : List (S47))).bind fun y224 => (if x16_7.length + y224.length < 4398046511104 then (bakelaw3_KeysJoys.l2 kj73 a0 l2 x15_7 (x16_7 ++ y224) ((rd_T49 l2 x125_7).f0) l2 (l2.length : Int) (wrap64 (x125_7 + 1))) else (none))) = some r := by first | (rw [hji106] at H; exact H) | (simp only [hji106] at H ⊢; exact H)
                                                  have hji106_ : (if 39 < ((rd_T49 l2 x125_7).f0) then 39 else ((rd_T49 l2 x125_7).f0)) = ji106 := hji106
                                                  obtain ⟨ji107, hji107⟩ : ∃ j_ : Int, (mx 0 (ji106)) = j_ := ⟨_, rfl⟩
                                                  replace H : ((some (([(⟨wrap64 (((rd_T49 l2 x125_7).f1) + (wrap64 (64 * (wrap64 (((rd_T49 l2 x125_7).f2) + (40 * (ji107))))))), a0, 128⟩ : S47), (⟨wrap64 ((wrap64 (((rd_T49 l2 x125_7).f1) + (wrap64 (64 * (wrap64 (((rd_T49 l2 x125_7).f2) + (40 * (ji107)))))))) + 1), a0, 0⟩ : S47)] : List (S47)) : List (S47))).bind fun y224 => (if x16_7.length + y224.length < 4398046511104 then (bakelaw3_KeysJoys.l2 kj73 a0 l2 x15_7 (x16_7 ++ y224) ((rd_T49 l2 x125_7).f0) l2 (l2.length : Int) (wrap64 (x125_7 + 1))) else (none))) = some r := by first | (rw [hji107] at H; exact H) | (simp only [hji107] at H ⊢; exact H)
                                                  have hji107_ : (if 0 < (ji106) then (ji106) else 0) = ji107 := hji107
                                                  obtain ⟨y224, hy224⟩ : ∃ y_ : List (S47), y_ = (([(⟨wrap64 (((rd_T49 l2 x125_7).f1) + (wrap64 (64 * (wrap64 (((rd_T49 l2 x125_7).f2) + (40 * (ji107))))))), a0, 128⟩ : S47), (⟨wrap64 ((wrap64 (((rd_T49 l2 x125_7).f1) + (wrap64 (64 * (wrap64 (((rd_T49 l2 x125_7).f2) + (40 * (ji107)))))))) + 1), a0, 0⟩ : S47)] : List (S47))) := ⟨_, rfl⟩
                                                  replace H : (if x16_7.length + y224.length < 4398046511104 then (bakelaw3_KeysJoys.l2 kj73 a0 l2 x15_7 (x16_7 ++ y224) ((rd_T49 l2 x125_7).f0) l2 (l2.length : Int) (wrap64 (x125_7 + 1))) else (none)) = some r := by first | (rw [hy224]; with_reducible exact H) | (have H2_ := (Option.bind_some _ _).symm.trans H; rw [hy224]; with_reducible exact H2_) | (have H2_ := (Option.bind_some _ _).symm.trans H; with_reducible exact H2_) | with_reducible exact H | (rw [hy224]; exact H) | exact H
                                                  have Ny224 := Aside0.mk hy224
                                                  clear hy224
                                                  by_cases c108 : x16_7.length + y224.length < 4398046511104
                                                  · rw [if_pos c108] at H
                                                    have LMc108 := Aside0.mk c108
                                                    clear c108
                                                    obtain ⟨y227, hy227⟩ : ∃ y_ : List (S47), y_ = (x16_7 ++ y224) := ⟨_, rfl⟩
                                                    replace H : (bakelaw3_KeysJoys.l2 kj73 a0 l2 x15_7 y227 ((rd_T49 l2 x125_7).f0) l2 (l2.length : Int) (wrap64 (x125_7 + 1))) = some r := by first | (rw [hy227]; with_reducible exact H) | (have H2_ := (Option.bind_some _ _).symm.trans H; rw [hy227]; with_reducible exact H2_) | (have H2_ := (Option.bind_some _ _).symm.trans H; with_reducible exact H2_) | with_reducible exact H | (rw [hy227]; exact H) | exact H
                                                    have Ny227 := Aside0.mk hy227
                                                    clear hy227
                                                    have H' := Aside0.mk H
                                                    clear H
                                                    have hcz109_0 : wc.cell? ⟨gb211, 0, none⟩ = some (.int .i64 ((rd_T49 l2 x125_7).f0)) := (blk_cell BK211.out 0).trans rfl
                                                    have hcz109_1 : wc.cell? ⟨gb211, 1, none⟩ = some (.int .i64 ((rd_T49 l2 x125_7).f1)) := (blk_cell BK211.out 1).trans rfl
                                                    have hcz109_2 : wc.cell? ⟨gb211, 2, none⟩ = some (.int .i64 ((rd_T49 l2 x125_7).f2)) := (blk_cell BK211.out 2).trans rfl
                                                    have hfz109_0 := blk_frozen BK211.out 0
                                                    have hfz109_1 := blk_frozen BK211.out 1
                                                    have hfz109_2 := blk_frozen BK211.out 2
                                                    go_wp2_with (first | ((with_reducible refine gate_dst (N := 188) rfl ?_); refine Kd.R_lit k47 _ 47 ?hg (N := 188) ?hd (xs := ([(⟨wrap64 (((rd_T49 l2 x125_7).f1) + (wrap64 (64 * (wrap64 (((rd_T49 l2 x125_7).f2) + (40 * (ji107))))))), a0, 128⟩ : S47), (⟨wrap64 ((wrap64 (((rd_T49 l2 x125_7).f1) + (wrap64 (64 * (wrap64 (((rd_T49 l2 x125_7).f2) + (40 * (ji107)))))))) + 1), a0, 0⟩ : S47)] : List (S47))) (inner := [.int .i64 (wrap64 (((rd_T49 l2 x125_7).f1) + (wrap64 (64 * (wrap64 (((rd_T49 l2 x125_7).f2) + (40 * (ji107)))))))), .string a0, .int .i64 128, .int .i64 (wrap64 ((wrap64 (((rd_T49 l2 x125_7).f1) + (wrap64 (64 * (wrap64 (((rd_T49 l2 x125_7).f2) + (40 * (ji107)))))))) + 1)), .string a0, .int .i64 0]) (ok := fun _ => True) (okp := fun _ => True) ?hr ?hp (fun _ hk => hk) trivial (Below.refl _ _) (Nat.le_refl _) (by simp) ?_; (case hd => rfl); (case hg => rfl); (case hr => first | (go_simp; done) | (go_simp; rfl)); (case hp => exact (Reps.c3 (show Kd.M k47 _ _ _ (⟨wrap64 (((rd_T49 l2 x125_7).f1) + (wrap64 (64 * (wrap64 (((rd_T49 l2 x125_7).f2) + (40 * (ji107))))))), a0, 128⟩ : S47) [.int .i64 (wrap64 (((rd_T49 l2 x125_7).f1) + (wrap64 (64 * (wrap64 (((rd_T49 l2 x125_7).f2) + (40 * (ji107)))))))), .string a0, .int .i64 128] from (k47_mkM _ _ _ (⟨wrap64 (((rd_T49 l2 x125_7).f1) + (wrap64 (64 * (wrap64 (((rd_T49 l2 x125_7).f2) + (40 * (ji107))))))), a0, 128⟩ : S47) )) (Reps.c3 (show Kd.M k47 _ _ _ (⟨wrap64 ((wrap64 (((rd_T49 l2 x125_7).f1) + (wrap64 (64 * (wrap64 (((rd_T49 l2 x125_7).f2) + (40 * (ji107)))))))) + 1), a0, 0⟩ : S47) [.int .i64 (wrap64 ((wrap64 (((rd_T49 l2 x125_7).f1) + (wrap64 (64 * (wrap64 (((rd_T49 l2 x125_7).f2) + (40 * (ji107)))))))) + 1)), .string a0, .int .i64 0] from (k47_mkM _ _ _ (⟨wrap64 ((wrap64 (((rd_T49 l2 x125_7).f1) + (wrap64 (64 * (wrap64 (((rd_T49 l2 x125_7).f2) + (40 * (ji107)))))))) + 1), a0, 0⟩ : S47) )) (Reps.none _ _)))); intro v225 w110 ho111 hb hg_ hnew_; clear hg_ hnew_; (first | rw [← Ny224.out] at ho111 | (simp only [Int.reduceToNat] at ho111; rw [← Ny224.out] at ho111)); have n0_ := Aside0.mk (Kd.R_elder' (by (with_reducible repeat (first | apply Kd.R_alloc | apply Kd.R_drewN | apply Kd.R_drew)); exact HO_16.out) (Kd.R_base ho111) hb); have n1_ := Aside0.mk (Kd.R_lower (Kd.R_new' ho111 (Kd.R_lt (by (with_reducible repeat (first | apply Kd.R_alloc | apply Kd.R_drewN | apply Kd.R_drew)); exact HO_16.out))) (below_size (by repeat (first | (with_reducible first | exact HB.out | apply below_alloc | apply pw_below_drewN | apply below_drew1 | refine below_set ?_ GE211.out) | exact HB.out)))); have n2_ := Aside0.mk (blk_below (g := gb211) (o := .cells #[.int .i64 ((rd_T49 l2 x125_7).f0), .int .i64 ((rd_T49 l2 x125_7).f1), .int .i64 ((rd_T49 l2 x125_7).f2)] 49 (0, 0)) (by (with_reducible repeat (first | refine blk_drewN ?_ _ | refine blk_drew ?_ | refine blk_alloc ?_ _)); exact BK211.out) hb); have n3_ := Aside0.mk (below_step (by repeat (first | (with_reducible first | exact HB.out | apply below_alloc | apply pw_below_drewN | apply below_drew1 | refine below_set ?_ GE211.out) | exact HB.out)) hb); clear HO_16; clear BK211; clear HB; have HO_16 := n0_; have HO226 := n1_; have BK211 := n2_; have HB := n3_; clear n0_ n1_ n2_ n3_; clear hb ho111; obtain ⟨Ao113, co113, eo113⟩ := Kd.R_slice HO226.out; subst eo113) | ((with_reducible refine gate_builtin (b := .append) (xs := #[.tmp 180, .tmp 188]) rfl ?_); at_builtin; refine Kd.R_append_rows k47 (w0 := w) w.heap.size rfl (.tmp 180) (.tmp 188) 42 47 (.agg #[(.int .i64 0), (.string ⟨#[]⟩), (.int .i64 0)]) 32 rfl Try.underlying42 info47 rfl (by decide) (by omega) u16 x16_7 y224 _ _ _ (fun k_ => some k_ ≠ (.slice Ao113 y224.length co113 : Value).ownBlock) (fun _ => False) rfl rfl ?aO ?aR (fun _ _ h => h) (fun _ h => h.elim) ?aF ?aB ?aS ?aL ?_; (case aR => repeat (first | exact (Kd.R_reads' HO226.out).2.2 | (with_reducible refine Kd.C_alloc ?_ _) | (with_reducible refine Kd.C_drewN ?_ _) | (with_reducible refine Kd.C_drew ?_))); (case aB => exact (by repeat (first | (with_reducible first | exact HB.out | apply below_alloc | apply pw_below_drewN | apply below_drew1 | refine below_set ?_ GE211.out) | exact HB.out))); (case aF => exact (fun k_ hk => Kd.fresh' (Kd.R_lt (by (with_reducible repeat (first | apply Kd.R_alloc | apply Kd.R_drewN | apply Kd.R_drew)); exact HO226.out)) k_ hk)); (case aO => exact (by (with_reducible repeat (first | apply Kd.R_alloc | apply Kd.R_drewN | apply Kd.R_drew)); exact Kd.R_mono HO_16.out (fun _ hk => hk.2))); (case aS => exact (below_size (by repeat (first | (with_reducible first | exact HB.out | apply below_alloc | apply pw_below_drewN | apply below_drew1 | refine below_set ?_ GE211.out) | exact HB.out)))); (case aL => have := LMc108.out; omega); intro v228 w112 ho hb hg hat; rw [← Ny227.out] at ho; have n0_ := Aside0.mk (blk_grown (g := gb211) (o := .cells #[.int .i64 ((rd_T49 l2 x125_7).f0), .int .i64 ((rd_T49 l2 x125_7).f1), .int .i64 ((rd_T49 l2 x125_7).f2)] 49 (0, 0)) (by (with_reducible repeat (first | refine blk_drewN ?_ _ | refine blk_drew ?_ | refine blk_alloc ?_ _)); exact BK211.out) hg (Kd.R_ne HO_16.out BK211.out (by decide))); have n1_ := Aside0.mk (Kd.R_after (ok := (fun _ => True)) (by (with_reducible repeat (first | apply Kd.R_alloc | apply Kd.R_drewN | apply Kd.R_drew)); exact HO226.out) hg hat); have n2_ := Aside0.mk (hb); have n3_ := Aside0.mk (ho); clear BK211; clear HO226; clear HB; clear HO_16; have BK211 := n0_; have HO226 := n1_; have HB := n2_; have HO229 := n3_; clear n0_ n1_ n2_ n3_; clear ho hb hg hat))
                                                    go_roundg kj73
                                                    case measure => have := HK1.out; have := HJ44.out; have := HJ47.out; have := HJ49.out; have := HJ55.out; have := HJ67.out; have := HK7.out; have := HJ73.out; omega
                                                    case rel => exact ⟨(x15_7), (y227), (((rd_T49 l2 x125_7).f0)), (wrap64 (x125_7 + 1)), (by first | rfl | (simp; done) | (simp [*]; done)), (by first | rfl | (simp; done) | (simp [*]; done)), (by first | rfl | (simp; done) | (simp [*]; done)), H', ⟨by have := HK1.out; have := HJ44.out; have := HJ47.out; have := HJ49.out; have := HJ55.out; have := HJ67.out; have := HK7.out; have := HJ73.out; omega⟩, ⟨by (with_reducible repeat (first | apply Kd.R_alloc | apply Kd.R_drewN | apply Kd.R_drew)); exact Kd.R_mono HO229.out (fun _ hk => trivial)⟩, ⟨by repeat (first | (with_reducible first | exact HB.out | apply below_alloc | apply pw_below_drewN | apply below_drew1 | refine below_set ?_ GE211.out) | exact HB.out)⟩⟩
                                                  · rw [if_neg c108] at H
                                                    exact absurd H (by simp)
                                        · rw [if_neg c73] at H
                                          have c73b0 : (x15_7 == 0) = false := beq_eq_false_iff_ne.mpr c73
                                          have c73b1 : (x15_7 != 0) = true := bne_iff_ne.mpr c73
                                          obtain ⟨ji114, hji114⟩ : ∃ j_ : Int, (mn ((rd_T49 l2 x125_7).f0) 39) = j_ := ⟨_, rfl⟩
                                          replace H : ((some (([(⟨wrap64 (((rd_T49 l2 x125_7).f1) + (wrap64 (64 * (wrap64 (((rd_T49 l2 x125_7).f2) + (40 * (mx 0 (ji114)))))))), a0, 128⟩ : S47), (⟨wrap64 ((wrap64 (((rd_T49 l2 x125_7).f1) + (wrap64 (64 * (wrap64 (((rd_T49 l2 x125_7).f2) + (40 * (mx 0 (ji114))))))))) + 1), a0, 0⟩ : S47)] : List (S47)) : List (S47))).bind fun y230 => (if x16_7.length + y230.length < 4398046511104 then (bakelaw3_KeysJoys.l2 k7 a0 l2 x15_7 (x16_7 ++ y230) ((rd_T49 l2 x125_7).f0) l2 (l2.length : Int) (wrap64 (x125_7 + 1))) else (none))) = some r := by first | (rw [hji114] at H; exact H) | (simp only [hji114] at H ⊢; exact H)
                                          have hji114_ : (if 39 < ((rd_T49 l2 x125_7).f0) then 39 else ((rd_T49 l2 x125_7).f0)) = ji114 := hji114
                                          obtain ⟨ji115, hji115⟩ : ∃ j_ : Int, (mx 0 (ji114)) = j_ := ⟨_, rfl⟩
                                          replace H : ((some (([(⟨wrap64 (((rd_T49 l2 x125_7).f1) + (wrap64 (64 * (wrap64 (((rd_T49 l2 x125_7).f2) + (40 * (ji115))))))), a0, 128⟩ : S47), (⟨wrap64 ((wrap64 (((rd_T49 l2 x125_7).f1) + (wrap64 (64 * (wrap64 (((rd_T49 l2 x125_7).f2) + (40 * (ji115)))))))) + 1), a0, 0⟩ : S47)] : List (S47)) : List (S47))).bind fun y230 => (if x16_7.length + y230.length < 4398046511104 then (bakelaw3_KeysJoys.l2 k7 a0 l2 x15_7 (x16_7 ++ y230) ((rd_T49 l2 x125_7).f0) l2 (l2.length : Int) (wrap64 (x125_7 + 1))) else (none))) = some r := by first | (rw [hji115] at H; exact H) | (simp only [hji115] at H ⊢; exact H)
                                          have hji115_ : (if 0 < (ji114) then (ji114) else 0) = ji115 := hji115
                                          obtain ⟨y230, hy230⟩ : ∃ y_ : List (S47), y_ = (([(⟨wrap64 (((rd_T49 l2 x125_7).f1) + (wrap64 (64 * (wrap64 (((rd_T49 l2 x125_7).f2) + (40 * (ji115))))))), a0, 128⟩ : S47), (⟨wrap64 ((wrap64 (((rd_T49 l2 x125_7).f1) + (wrap64 (64 * (wrap64 (((rd_T49 l2 x125_7).f2) + (40 * (ji115)))))))) + 1), a0, 0⟩ : S47)] : List (S47))) := ⟨_, rfl⟩
                                          replace H : (if x16_7.length + y230.length < 4398046511104 then (bakelaw3_KeysJoys.l2 k7 a0 l2 x15_7 (x16_7 ++ y230) ((rd_T49 l2 x125_7).f0) l2 (l2.length : Int) (wrap64 (x125_7 + 1))) else (none)) = some r := by first | (rw [hy230]; with_reducible exact H) | (have H2_ := (Option.bind_some _ _).symm.trans H; rw [hy230]; with_reducible exact H2_) | (have H2_ := (Option.bind_some _ _).symm.trans H; with_reducible exact H2_) | with_reducible exact H | (rw [hy230]; exact H) | exact H
                                          have Ny230 := Aside0.mk hy230
                                          clear hy230
                                          by_cases c116 : x16_7.length + y230.length < 4398046511104
                                          · rw [if_pos c116] at H
                                            have LMc116 := Aside0.mk c116
                                            clear c116
                                            obtain ⟨y233, hy233⟩ : ∃ y_ : List (S47), y_ = (x16_7 ++ y230) := ⟨_, rfl⟩
                                            replace H : (bakelaw3_KeysJoys.l2 k7 a0 l2 x15_7 y233 ((rd_T49 l2 x125_7).f0) l2 (l2.length : Int) (wrap64 (x125_7 + 1))) = some r := by first | (rw [hy233]; with_reducible exact H) | (have H2_ := (Option.bind_some _ _).symm.trans H; rw [hy233]; with_reducible exact H2_) | (have H2_ := (Option.bind_some _ _).symm.trans H; with_reducible exact H2_) | with_reducible exact H | (rw [hy233]; exact H) | exact H
                                            have Ny233 := Aside0.mk hy233
                                            clear hy233
                                            have H' := Aside0.mk H
                                            clear H
                                            have p210 : 0 ≤ (x125_7 : Int) := of_decide_eq_true (by first | (with_reducible assumption) | assumption)
                                            have q210 : x125_7 < (l2.length : Int) := of_decide_eq_true (by first | (with_reducible assumption) | assumption)
                                            obtain ⟨ad210, e210, hx210_0, hx210_1, hx210_2⟩ := at_T49 HR2.out x125_7 p210 q210
                                            cases e210
                                            replace hx210_0 := (HB.out.cell (World.block_lt_of_cell? w _ hx210_0)).trans hx210_0
                                            replace hx210_1 := (HB.out.cell (World.block_lt_of_cell? w _ hx210_1)).trans hx210_1
                                            replace hx210_2 := (HB.out.cell (World.block_lt_of_cell? w _ hx210_2)).trans hx210_2
                                            replace p210 := eq_true p210
                                            replace q210 := eq_true q210
                                            go_wp2_with (first | ((with_reducible refine gate_dst (N := 21) rfl ?_); refine box_event ?hg (N := 21) ?hd (cs := #[.int .i64 0, .int .i64 0, .int .i64 0]) (t := 49) ?hr ?_; (case hd => rfl); (case hg => rfl); (case hr => first | (go_simp; done) | (go_simp; rfl)); intro gb211 hg w117 hbox hb; have n0_ := Aside0.mk (Kd.R_below (by (with_reducible repeat (first | apply Kd.R_alloc | apply Kd.R_drewN | apply Kd.R_drew)); exact HO_16.out) hb); have n1_ := Aside0.mk (below_step (by repeat (first | (with_reducible first | exact HB.out | apply below_alloc | apply pw_below_drewN | apply below_drew1) | exact HB.out)) hb); have n2_ := Aside0.mk (hbox); have n3_ := Aside0.mk ((by rw [hg]; exact (below_size (by repeat (first | (with_reducible first | exact HB.out | apply below_alloc | apply pw_below_drewN | apply below_drew1) | exact HB.out))) : w.heap.size ≤ gb211)); have n4_ := Aside0.mk ((by rw [hg]; exact (below_size (by repeat (first | (with_reducible first | exact HB.out | apply below_alloc | apply pw_below_drewN | apply below_drew1) | exact HB.out))) : w.heap.size ≤ gb211)); clear HO_16; clear HB; have HO_16 := n0_; have HB := n1_; have BK211 := n2_; have GW211 := n3_; have GE211 := n4_; clear n0_ n1_ n2_ n3_ n4_; clear hb hbox hg; have hcz118_0 : w117.cell? ⟨gb211, 0, none⟩ = some (.int .i64 0) := (blk_cell BK211.out 0).trans rfl; have hcz118_1 : w117.cell? ⟨gb211, 1, none⟩ = some (.int .i64 0) := (blk_cell BK211.out 1).trans rfl; have hcz118_2 : w117.cell? ⟨gb211, 2, none⟩ = some (.int .i64 0) := (blk_cell BK211.out 2).trans rfl; have hfz118_0 := blk_frozen BK211.out 0; have hfz118_1 := blk_frozen BK211.out 1; have hfz118_2 := blk_frozen BK211.out 2) | ((with_reducible refine gate_dst (N := 188) rfl ?_); refine Kd.R_lit k47 _ 47 ?hg (N := 188) ?hd (xs := ([(⟨wrap64 (((rd_T49 l2 x125_7).f1) + (wrap64 (64 * (wrap64 (((rd_T49 l2 x125_7).f2) + (40 * (ji115))))))), a0, 128⟩ : S47), (⟨wrap64 ((wrap64 (((rd_T49 l2 x125_7).f1) + (wrap64 (64 * (wrap64 (((rd_T49 l2 x125_7).f2) + (40 * (ji115)))))))) + 1), a0, 0⟩ : S47)] : List (S47))) (inner := [.int .i64 (wrap64 (((rd_T49 l2 x125_7).f1) + (wrap64 (64 * (wrap64 (((rd_T49 l2 x125_7).f2) + (40 * (ji115)))))))), .string a0, .int .i64 128, .int .i64 (wrap64 ((wrap64 (((rd_T49 l2 x125_7).f1) + (wrap64 (64 * (wrap64 (((rd_T49 l2 x125_7).f2) + (40 * (ji115)))))))) + 1)), .string a0, .int .i64 0]) (ok := fun _ => True) (okp := fun _ => True) ?hr ?hp (fun _ hk => hk) trivial (Below.refl _ _) (Nat.le_refl _) (by simp) ?_; (case hd => rfl); (case hg => rfl); (case hr => first | (go_simp; done) | (go_simp; rfl)); (case hp => exact (Reps.c3 (show Kd.M k47 _ _ _ (⟨wrap64 (((rd_T49 l2 x125_7).f1) + (wrap64 (64 * (wrap64 (((rd_T49 l2 x125_7).f2) + (40 * (ji115))))))), a0, 128⟩ : S47) [.int .i64 (wrap64 (((rd_T49 l2 x125_7).f1) + (wrap64 (64 * (wrap64 (((rd_T49 l2 x125_7).f2) + (40 * (ji115)))))))), .string a0, .int .i64 128] from (k47_mkM _ _ _ (⟨wrap64 (((rd_T49 l2 x125_7).f1) + (wrap64 (64 * (wrap64 (((rd_T49 l2 x125_7).f2) + (40 * (ji115))))))), a0, 128⟩ : S47) )) (Reps.c3 (show Kd.M k47 _ _ _ (⟨wrap64 ((wrap64 (((rd_T49 l2 x125_7).f1) + (wrap64 (64 * (wrap64 (((rd_T49 l2 x125_7).f2) + (40 * (ji115)))))))) + 1), a0, 0⟩ : S47) [.int .i64 (wrap64 ((wrap64 (((rd_T49 l2 x125_7).f1) + (wrap64 (64 * (wrap64 (((rd_T49 l2 x125_7).f2) + (40 * (ji115)))))))) + 1)), .string a0, .int .i64 0] from (k47_mkM _ _ _ (⟨wrap64 ((wrap64 (((rd_T49 l2 x125_7).f1) + (wrap64 (64 * (wrap64 (((rd_T49 l2 x125_7).f2) + (40 * (ji115)))))))) + 1), a0, 0⟩ : S47) )) (Reps.none _ _)))); intro v231 w119 ho120 hb hg_ hnew_; clear hg_ hnew_; (first | rw [← Ny230.out] at ho120 | (simp only [Int.reduceToNat] at ho120; rw [← Ny230.out] at ho120)); have n0_ := Aside0.mk (Kd.R_elder' (by (with_reducible repeat (first | apply Kd.R_alloc | apply Kd.R_drewN | apply Kd.R_drew)); exact (Kd.R_mono (Kd.R_far (p := ⟨gb211, 2, none⟩) (Kd.R_far (p := ⟨gb211, 1, none⟩) (Kd.R_far (p := ⟨gb211, 0, none⟩) (Kd.R_types HO_16.out BK211.out (by decide)) (fun _ hk => hk.2) (.int .i64 ((rd_T49 l2 x125_7).f0))) (fun _ hk => hk.2) (.int .i64 ((rd_T49 l2 x125_7).f1))) (fun _ hk => hk.2) (.int .i64 ((rd_T49 l2 x125_7).f2))) (fun _ h_ => h_.1))) (Kd.R_base ho120) hb); have n1_ := Aside0.mk (Kd.R_lower (Kd.R_new' ho120 (Kd.R_lt (by (with_reducible repeat (first | apply Kd.R_alloc | apply Kd.R_drewN | apply Kd.R_drew)); exact (Kd.R_mono (Kd.R_far (p := ⟨gb211, 2, none⟩) (Kd.R_far (p := ⟨gb211, 1, none⟩) (Kd.R_far (p := ⟨gb211, 0, none⟩) (Kd.R_types HO_16.out BK211.out (by decide)) (fun _ hk => hk.2) (.int .i64 ((rd_T49 l2 x125_7).f0))) (fun _ hk => hk.2) (.int .i64 ((rd_T49 l2 x125_7).f1))) (fun _ hk => hk.2) (.int .i64 ((rd_T49 l2 x125_7).f2))) (fun _ h_ => h_.1))))) (below_size (by repeat (first | (with_reducible first | exact HB.out | apply below_alloc | apply pw_below_drewN | apply below_drew1 | refine below_set ?_ GE211.out) | exact HB.out)))); have n2_ := Aside0.mk (blk_below (g := gb211) (o := .cells #[.int .i64 ((rd_T49 l2 x125_7).f0), .int .i64 ((rd_T49 l2 x125_7).f1), .int .i64 ((rd_T49 l2 x125_7).f2)] 49 (0, 0)) (by (with_reducible repeat (first | refine blk_drewN ?_ _ | refine blk_drew ?_ | refine blk_alloc ?_ _)); refine blk_put (cs := #[.int .i64 ((rd_T49 l2 x125_7).f0), .int .i64 ((rd_T49 l2 x125_7).f1), .int .i64 0]) ?_ 2 _ rfl; (with_reducible repeat (first | refine blk_drewN ?_ _ | refine blk_drew ?_ | refine blk_alloc ?_ _)); refine blk_put (cs := #[.int .i64 ((rd_T49 l2 x125_7).f0), .int .i64 0, .int .i64 0]) ?_ 1 _ rfl; (with_reducible repeat (first | refine blk_drewN ?_ _ | refine blk_drew ?_ | refine blk_alloc ?_ _)); refine blk_put (cs := #[.int .i64 0, .int .i64 0, .int .i64 0]) ?_ 0 _ rfl; (with_reducible repeat (first | refine blk_drewN ?_ _ | refine blk_drew ?_ | refine blk_alloc ?_ _)); exact BK211.out) hb); have n3_ := Aside0.mk (below_step (by repeat (first | (with_reducible first | exact HB.out | apply below_alloc | apply pw_below_drewN | apply below_drew1 | refine below_set ?_ GE211.out) | exact HB.out)) hb); clear HO_16; clear BK211; clear HB; have HO_16 := n0_; have HO232 := n1_; have BK211 := n2_; have HB := n3_; clear n0_ n1_ n2_ n3_; clear hb ho120; obtain ⟨Ao122, co122, eo122⟩ := Kd.R_slice HO232.out; subst eo122) | ((with_reducible refine gate_builtin (b := .append) (xs := #[.tmp 180, .tmp 188]) rfl ?_); at_builtin; refine Kd.R_append_rows k47 (w0 := w) w.heap.size rfl (.tmp 180) (.tmp 188) 42 47 (.agg #[(.int .i64 0), (.string ⟨#[]⟩), (.int .i64 0)]) 32 rfl Try.underlying42 info47 rfl (by decide) (by omega) u16 x16_7 y230 _ _ _ (fun k_ => some k_ ≠ (.slice Ao122 y230.length co122 : Value).ownBlock) (fun _ => False) rfl rfl ?aO ?aR (fun _ _ h => h) (fun _ h => h.elim) ?aF ?aB ?aS ?aL ?_; (case aR => repeat (first | exact (Kd.R_reads' HO232.out).2.2 | (with_reducible refine Kd.C_alloc ?_ _) | (with_reducible refine Kd.C_drewN ?_ _) | (with_reducible refine Kd.C_drew ?_))); (case aB => exact (by repeat (first | (with_reducible first | exact HB.out | apply below_alloc | apply pw_below_drewN | apply below_drew1 | refine below_set ?_ GE211.out) | exact HB.out))); (case aF => exact (fun k_ hk => Kd.fresh' (Kd.R_lt (by (with_reducible repeat (first | apply Kd.R_alloc | apply Kd.R_drewN | apply Kd.R_drew)); exact HO232.out)) k_ hk)); (case aO => exact (by (with_reducible repeat (first | apply Kd.R_alloc | apply Kd.R_drewN | apply Kd.R_drew)); exact Kd.R_mono HO_16.out (fun _ hk => hk.2))); (case aS => exact (below_size (by repeat (first | (with_reducible first | exact HB.out | apply below_alloc | apply pw_below_drewN | apply below_drew1 | refine below_set ?_ GE211.out) | exact HB.out)))); (case aL => have := LMc116.out; omega); intro v234 w121 ho hb hg hat; rw [← Ny233.out] at ho; have n0_ := Aside0.mk (blk_grown (g := gb211) (o := .cells #[.int .i64 ((rd_T49 l2 x125_7).f0), .int .i64 ((rd_T49 l2 x125_7).f1), .int .i64 ((rd_T49 l2 x125_7).f2)] 49 (0, 0)) (by (with_reducible repeat (first | refine blk_drewN ?_ _ | refine blk_drew ?_ | refine blk_alloc ?_ _)); exact BK211.out) hg (Kd.R_ne HO_16.out BK211.out (by decide))); have n1_ := Aside0.mk (Kd.R_after (ok := (fun _ => True)) (by (with_reducible repeat (first | apply Kd.R_alloc | apply Kd.R_drewN | apply Kd.R_drew)); exact HO232.out) hg hat); have n2_ := Aside0.mk (hb); have n3_ := Aside0.mk (ho); clear BK211; clear HO232; clear HB; clear HO_16; have BK211 := n0_; have HO232 := n1_; have HB := n2_; have HO235 := n3_; clear n0_ n1_ n2_ n3_; clear ho hb hg hat))
                                            go_roundg k7
                                            case measure => have := HK1.out; have := HJ44.out; have := HJ47.out; have := HJ49.out; have := HJ55.out; have := HJ67.out; have := HK7.out; omega
                                            case rel => exact ⟨(x15_7), (y233), ((rd_T49 l2 x125_7).f0), (wrap64 (x125_7 + 1)), (by first | rfl | (simp; done) | (simp [*]; done)), (by first | rfl | (simp; done) | (simp [*]; done)), (by first | rfl | (simp; done) | (simp [*]; done)), H', ⟨by have := HK1.out; have := HJ44.out; have := HJ47.out; have := HJ49.out; have := HJ55.out; have := HJ67.out; have := HK7.out; omega⟩, ⟨by (with_reducible repeat (first | apply Kd.R_alloc | apply Kd.R_drewN | apply Kd.R_drew)); exact Kd.R_mono HO235.out (fun _ hk => trivial)⟩, ⟨by repeat (first | (with_reducible first | exact HB.out | apply below_alloc | apply pw_below_drewN | apply below_drew1 | refine below_set ?_ GE211.out) | exact HB.out)⟩⟩
                                          · rw [if_neg c116] at H
                                            exact absurd H (by simp)
                                      · rw [if_neg c72] at H
                                        exact absurd H (by simp)
                                    · rw [if_neg c71] at H
                                      exact absurd H (by simp)
                                  · rw [if_neg c70] at H
                                    have c70b0 : decide (x125_7 < (l2.length : Int)) = false := decide_eq_false c70
                                    clear c70
                                    by_cases c123 : x15_7 = 0
                                    · rw [if_pos c123] at H
                                      have c123b0 : (x15_7 == 0) = true := beq_iff_eq.mpr c123
                                      have c123b1 : (x15_7 != 0) = false := bne_eq_false_iff_eq.mpr c123
                                      clear c123
                                      replace H := Option.bind_eq_some_iff.mp H
                                      obtain ⟨⟨t236, t237⟩, A1240, H⟩ := H
                                      replace H : (if t237 = x15_7 then ((api_Input.f k7 t236 x16_7).bind fun t240 => (some t240)) else (some false)) = some r := H
                                      have A124 := Aside0.mk A1240
                                      clear A1240
                                      by_cases c125 : t237 = x15_7
                                      · rw [if_pos c125] at H
                                        have c125b0 : (t237 == x15_7) = true := beq_iff_eq.mpr c125
                                        have c125b1 : (t237 != x15_7) = false := bne_eq_false_iff_eq.mpr c125
                                        clear c125
                                        replace H := Option.bind_eq_some_iff.mp H
                                        obtain ⟨t240, A1260, H⟩ := H
                                        replace H : (some t240) = some r := H
                                        have A126 := Aside0.mk A1260
                                        clear A1260
                                        obtain rfl := Option.some.inj H
                                        go_wp2_with (first | ((with_reducible refine gate_callee (f := 28) rfl ?_); refine goesL_ (some 196) rfl rfl Try.func28 (by kernel_rfl) rfl #[.string a0, .slice A2 l2.length c2] rfl (by (try simp only [List.map_toArray, List.map_cons, List.map_nil]); first | done | rfl | (simp only [List.length_drop, List.length_take]; rfl)) ?_; (with_reducible refine (keys_Pens.calls k7 a0 _ _ l2 t236 t237 _ ?side1 ?side2 A124.out).mono ?_); (case side1 => repeat (first | exact (Kd.C_below HR2.out HB.out) | (with_reducible refine Kd.C_alloc ?_ _) | (with_reducible refine Kd.C_drewN ?_ _) | (with_reducible refine Kd.C_drew ?_))); (case side2 => exact HC2.out); rintro e w127 ⟨v238, rfl, ho0, hb⟩; refine ⟨_, rfl, ?_⟩; have n0_ := Aside0.mk (Kd.R_elder' (by (with_reducible repeat (first | apply Kd.R_alloc | apply Kd.R_drewN | apply Kd.R_drew)); exact HO_16.out) (Kd.R_base ho0) hb); have n1_ := Aside0.mk (Kd.R_lower (Kd.R_new' ho0 (Kd.R_lt (by (with_reducible repeat (first | apply Kd.R_alloc | apply Kd.R_drewN | apply Kd.R_drew)); exact HO_16.out))) (below_size (by repeat (first | (with_reducible first | exact HB.out | apply below_alloc | apply pw_below_drewN | apply below_drew1) | exact HB.out)))); have n2_ := Aside0.mk (below_step (by repeat (first | (with_reducible first | exact HB.out | apply below_alloc | apply pw_below_drewN | apply below_drew1) | exact HB.out)) hb); clear HO_16; clear HB; have HO_16 := n0_; have HO239 := n1_; have HB := n2_; clear n0_ n1_ n2_; (try clear hb); (try clear hb2); (try clear hk); (try clear hi); (try clear ho0); obtain ⟨Ao128, co128, eo128⟩ := Kd.R_slice HO239.out; subst eo128; obtain ⟨Ao129, co129, eo129⟩ := Kd.R_slice HO_16.out; subst eo129) | (go_at_call 27; (with_reducible refine (api_Input.calls k7 _ _ t236 _ _ x16_7 t240 _ ?side1 ?side2 ?side3 ?side4 A126.out).mono ?_); (case side1 => repeat (first | exact (Kd.R_reads' HO239.out).2.2 | (with_reducible refine Kd.C_alloc ?_ _) | (with_reducible refine Kd.C_drewN ?_ _) | (with_reducible refine Kd.C_drew ?_))); (case side2 => exact (Kd.R_reads' HO239.out).2.1); (case side3 => repeat (first | exact (Kd.R_reads' HO_16.out).2.2 | (with_reducible refine Kd.C_alloc ?_ _) | (with_reducible refine Kd.C_drewN ?_ _) | (with_reducible refine Kd.C_drew ?_))); (case side4 => exact (Kd.R_reads' HO_16.out).2.1); rintro e w' ⟨rfl, ⟨nd, rfl⟩⟩))
                                        go_ret
                                        exact ⟨by first | rfl | (simp [errW_none, errW_some] <;> rfl) | (simp [*, errW_none, errW_some] <;> rfl), by repeat (first | (with_reducible first | exact HB.out | apply below_alloc | apply pw_below_drewN | apply below_drew1) | exact HB.out)⟩
                                      · rw [if_neg c125] at H
                                        have c125b0 : (t237 == x15_7) = false := beq_eq_false_iff_ne.mpr c125
                                        have c125b1 : (t237 != x15_7) = true := bne_iff_ne.mpr c125
                                        obtain rfl := Option.some.inj H
                                        go_wp2_with (first | ((with_reducible refine gate_callee (f := 28) rfl ?_); refine goesL_ (some 196) rfl rfl Try.func28 (by kernel_rfl) rfl #[.string a0, .slice A2 l2.length c2] rfl (by (try simp only [List.map_toArray, List.map_cons, List.map_nil]); first | done | rfl | (simp only [List.length_drop, List.length_take]; rfl)) ?_; (with_reducible refine (keys_Pens.calls k7 a0 _ _ l2 t236 t237 _ ?side1 ?side2 A124.out).mono ?_); (case side1 => repeat (first | exact (Kd.C_below HR2.out HB.out) | (with_reducible refine Kd.C_alloc ?_ _) | (with_reducible refine Kd.C_drewN ?_ _) | (with_reducible refine Kd.C_drew ?_))); (case side2 => exact HC2.out); rintro e w130 ⟨v238, rfl, ho0, hb⟩; refine ⟨_, rfl, ?_⟩; have n0_ := Aside0.mk (Kd.R_elder' (by (with_reducible repeat (first | apply Kd.R_alloc | apply Kd.R_drewN | apply Kd.R_drew)); exact HO_16.out) (Kd.R_base ho0) hb); have n1_ := Aside0.mk (Kd.R_lower (Kd.R_new' ho0 (Kd.R_lt (by (with_reducible repeat (first | apply Kd.R_alloc | apply Kd.R_drewN | apply Kd.R_drew)); exact HO_16.out))) (below_size (by repeat (first | (with_reducible first | exact HB.out | apply below_alloc | apply pw_below_drewN | apply below_drew1) | exact HB.out)))); have n2_ := Aside0.mk (below_step (by repeat (first | (with_reducible first | exact HB.out | apply below_alloc | apply pw_below_drewN | apply below_drew1) | exact HB.out)) hb); clear HO_16; clear HB; have HO_16 := n0_; have HO239 := n1_; have HB := n2_; clear n0_ n1_ n2_; (try clear hb); (try clear hb2); (try clear hk); (try clear hi); (try clear ho0)))
                                        go_ret
                                        exact ⟨by first | rfl | (simp [errW_none, errW_some] <;> rfl) | (simp [*, errW_none, errW_some] <;> rfl), by repeat (first | (with_reducible first | exact HB.out | apply below_alloc | apply pw_below_drewN | apply below_drew1) | exact HB.out)⟩
                                    · rw [if_neg c123] at H
                                      have c123b0 : (x15_7 == 0) = false := beq_eq_false_iff_ne.mpr c123
                                      have c123b1 : (x15_7 != 0) = true := bne_iff_ne.mpr c123
                                      replace H := Option.bind_eq_some_iff.mp H
                                      obtain ⟨⟨t241, t242⟩, A1310, H⟩ := H
                                      replace H : (if t242 = x15_7 then ((api_Input.f k7 t241 ([] : List (S47))).bind fun t245 => (some t245)) else (some false)) = some r := H
                                      have A131 := Aside0.mk A1310
                                      clear A1310
                                      by_cases c132 : t242 = x15_7
                                      · rw [if_pos c132] at H
                                        have c132b0 : (t242 == x15_7) = true := beq_iff_eq.mpr c132
                                        have c132b1 : (t242 != x15_7) = false := bne_eq_false_iff_eq.mpr c132
                                        clear c132
                                        replace H := Option.bind_eq_some_iff.mp H
                                        obtain ⟨t245, A1330, H⟩ := H
                                        replace H : (some t245) = some r := H
                                        have A133 := Aside0.mk A1330
                                        clear A1330
                                        obtain rfl := Option.some.inj H
                                        go_wp2_with (first | ((with_reducible refine gate_callee (f := 28) rfl ?_); refine goesL_ (some 196) rfl rfl Try.func28 (by kernel_rfl) rfl #[.string a0, .slice A2 l2.length c2] rfl (by (try simp only [List.map_toArray, List.map_cons, List.map_nil]); first | done | rfl | (simp only [List.length_drop, List.length_take]; rfl)) ?_; (with_reducible refine (keys_Pens.calls k7 a0 _ _ l2 t241 t242 _ ?side1 ?side2 A131.out).mono ?_); (case side1 => repeat (first | exact (Kd.C_below HR2.out HB.out) | (with_reducible refine Kd.C_alloc ?_ _) | (with_reducible refine Kd.C_drewN ?_ _) | (with_reducible refine Kd.C_drew ?_))); (case side2 => exact HC2.out); rintro e w134 ⟨v243, rfl, ho0, hb⟩; refine ⟨_, rfl, ?_⟩; have n0_ := Aside0.mk (Kd.R_elder' (by (with_reducible repeat (first | apply Kd.R_alloc | apply Kd.R_drewN | apply Kd.R_drew)); exact HO_16.out) (Kd.R_base ho0) hb); have n1_ := Aside0.mk (Kd.R_lower (Kd.R_new' ho0 (Kd.R_lt (by (with_reducible repeat (first | apply Kd.R_alloc | apply Kd.R_drewN | apply Kd.R_drew)); exact HO_16.out))) (below_size (by repeat (first | (with_reducible first | exact HB.out | apply below_alloc | apply pw_below_drewN | apply below_drew1) | exact HB.out)))); have n2_ := Aside0.mk (below_step (by repeat (first | (with_reducible first | exact HB.out | apply below_alloc | apply pw_below_drewN | apply below_drew1) | exact HB.out)) hb); clear HO_16; clear HB; have HO_16 := n0_; have HO244 := n1_; have HB := n2_; clear n0_ n1_ n2_; (try clear hb); (try clear hb2); (try clear hk); (try clear hi); (try clear ho0); obtain ⟨Ao135, co135, eo135⟩ := Kd.R_slice HO244.out; subst eo135) | (go_at_call 27; (refine (api_Input.calls k7 _ _ t241 _ _ ([] : List (S47)) t245 _ ?side1 ?side2 ?side3 ?side4 A133.out).mono ?_); (case side1 => repeat (first | exact (Kd.R_reads' HO244.out).2.2 | (with_reducible refine Kd.C_alloc ?_ _) | (with_reducible refine Kd.C_drewN ?_ _) | (with_reducible refine Kd.C_drew ?_))); (case side2 => exact (Kd.R_reads' HO244.out).2.1); (case side3 => exact Kd.C_nil _ _); (case side4 => exact Nat.le_refl _); rintro e w' ⟨rfl, ⟨nd, rfl⟩⟩))
                                        go_ret
                                        exact ⟨by first | rfl | (simp [errW_none, errW_some] <;> rfl) | (simp [*, errW_none, errW_some] <;> rfl), by repeat (first | (with_reducible first | exact HB.out | apply below_alloc | apply pw_below_drewN | apply below_drew1) | exact HB.out)⟩
                                      · rw [if_neg c132] at H
                                        have c132b0 : (t242 == x15_7) = false := beq_eq_false_iff_ne.mpr c132
                                        have c132b1 : (t242 != x15_7) = true := bne_iff_ne.mpr c132
                                        obtain rfl := Option.some.inj H
                                        go_wp2_with (first | ((with_reducible refine gate_callee (f := 28) rfl ?_); refine goesL_ (some 196) rfl rfl Try.func28 (by kernel_rfl) rfl #[.string a0, .slice A2 l2.length c2] rfl (by (try simp only [List.map_toArray, List.map_cons, List.map_nil]); first | done | rfl | (simp only [List.length_drop, List.length_take]; rfl)) ?_; (with_reducible refine (keys_Pens.calls k7 a0 _ _ l2 t241 t242 _ ?side1 ?side2 A131.out).mono ?_); (case side1 => repeat (first | exact (Kd.C_below HR2.out HB.out) | (with_reducible refine Kd.C_alloc ?_ _) | (with_reducible refine Kd.C_drewN ?_ _) | (with_reducible refine Kd.C_drew ?_))); (case side2 => exact HC2.out); rintro e w136 ⟨v243, rfl, ho0, hb⟩; refine ⟨_, rfl, ?_⟩; have n0_ := Aside0.mk (Kd.R_elder' (by (with_reducible repeat (first | apply Kd.R_alloc | apply Kd.R_drewN | apply Kd.R_drew)); exact HO_16.out) (Kd.R_base ho0) hb); have n1_ := Aside0.mk (Kd.R_lower (Kd.R_new' ho0 (Kd.R_lt (by (with_reducible repeat (first | apply Kd.R_alloc | apply Kd.R_drewN | apply Kd.R_drew)); exact HO_16.out))) (below_size (by repeat (first | (with_reducible first | exact HB.out | apply below_alloc | apply pw_below_drewN | apply below_drew1) | exact HB.out)))); have n2_ := Aside0.mk (below_step (by repeat (first | (with_reducible first | exact HB.out | apply below_alloc | apply pw_below_drewN | apply below_drew1) | exact HB.out)) hb); clear HO_16; clear HB; have HO_16 := n0_; have HO244 := n1_; have HB := n2_; clear n0_ n1_ n2_; (try clear hb); (try clear hb2); (try clear hk); (try clear hi); (try clear ho0)))
                                        go_ret
                                        exact ⟨by first | rfl | (simp [errW_none, errW_some] <;> rfl) | (simp [*, errW_none, errW_some] <;> rfl), by repeat (first | (with_reducible first | exact HB.out | apply below_alloc | apply pw_below_drewN | apply below_drew1) | exact HB.out)⟩

end Go.Proofs.Ytimkpdbghbhkkaa.QK
