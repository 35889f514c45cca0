-- Printed by a program of this session (wip/tools): Lean functions for Go functions, and their contracts.
import Derived.Test.YtimkpdbghbhkkaaQSx0
namespace Go.Proofs.Ytimkpdbghbhkkaa.QS
open Go.RowKit Go.Proofs.YtimkpdbghbhkkaaW.PrintWords Go.Proofs.YtimkpdbghbhkkaaW.PrintLast Go.Proofs.YtimkpdbghbhkkaaW.PrintMore
attribute [local go_sem] max2_int min2_int max_two min_two max_three min_three max_four min_four   -- for this text's walks alone
set_option linter.unusedVariables false
set_option linter.unusedSimpArgs false

/-! ### samp_Of: function 19 -/
mutual
def samp_Of.j0 : Nat → List (S33) → ByteArray → Int → Int → Bool → Option (List Int × Int)
  | 0, _, _, _, _, _ => none
  | k + 1, x0, x1, x2, x3, x20 => if x20 = true then (some (([] : List Int), 2)) else (if x2 < 0 then (samp_Of.j1 k x0 x1 x2 x3 true) else (samp_Of.j1 k x0 x1 x2 x3 (decide (x2 > 1048576))))
def samp_Of.j1 : Nat → List (S33) → ByteArray → Int → Int → Bool → Option (List Int × Int)
  | 0, _, _, _, _, _ => none
  | k + 1, x0, x1, x2, x3, x26 => if x26 = true then (some (([] : List Int), 1)) else (if 0 ≤ x3 then (if (x3 : Int).toNat ≤ 35184372088832 then (samp_Of.l0 k x1 x2 x3 (List.replicate (x3 : Int).toNat 0) 0 (-1) x0 (x0.length : Int) 0) else (none)) else (none))
def samp_Of.l0 : Nat → ByteArray → Int → Int → List Int → Int → Int → List (S33) → Int → Int → Option (List Int × Int)
  | 0, _, _, _, _, _, _, _, _, _ => none
  | k + 1, x1, x2, x3, x10, x11, x12, x29, x30, x31 => if x31 < x30 then (if 0 ≤ x31 then (if x31 < (x29.length : Int) then (if ((rd_T33 x29 x31).f1).toList = x1.toList then (if ((rd_T33 x29 x31).f0) < 0 then (samp_Of.j3 k x1 x2 x3 x10 x11 x12 x29 x30 x31 true ((rd_T33 x29 x31).f0) ((rd_T33 x29 x31).f1) ((rd_T33 x29 x31).f2)) else (if ((rd_T33 x29 x31).f2) < 0 then (samp_Of.j3 k x1 x2 x3 x10 x11 x12 x29 x30 x31 true ((rd_T33 x29 x31).f0) ((rd_T33 x29 x31).f1) ((rd_T33 x29 x31).f2)) else (samp_Of.j3 k x1 x2 x3 x10 x11 x12 x29 x30 x31 (decide (((rd_T33 x29 x31).f2) > 1048576)) ((rd_T33 x29 x31).f0) ((rd_T33 x29 x31).f1) ((rd_T33 x29 x31).f2)))) else (samp_Of.l0 k x1 x2 x3 x10 x11 x12 x29 x30 (wrap64 (x31 + 1)))) else (none)) else (none)) else (samp_Of.l2 k x2 x3 x10 x11)
def samp_Of.j3 : Nat → ByteArray → Int → Int → List Int → Int → Int → List (S33) → Int → Int → Bool → Int → ByteArray → Int → Option (List Int × Int)
  | 0, _, _, _, _, _, _, _, _, _, _, _, _, _ => none
  | k + 1, x1, x2, x3, x10, x11, x12, x29, x30, x31, x51, x140000, x140001, x140002 => if x51 = true then (some (([] : List Int), 1)) else (if x140000 ≤ x12 then (some (([] : List Int), 9)) else (samp_Of.l1 k x1 x2 x3 x10 x11 x140000 x29 x30 x31 x140000 x140001 x140002))
def samp_Of.l1 : Nat → ByteArray → Int → Int → List Int → Int → Int → List (S33) → Int → Int → Int → ByteArray → Int → Option (List Int × Int)
  | 0, _, _, _, _, _, _, _, _, _, _, _, _ => none
  | k + 1, x1, x2, x3, x10, x11, x12, x29, x30, x31, x140000, x140001, x140002 => if x11 < x3 then (if x11 < x140000 then (if 0 ≤ x11 then (if x11 < (x10.length : Int) then (samp_Of.l1 k x1 x2 x3 (x10.set (x11 : Int).toNat x2) (wrap64 (x11 + 1)) x12 x29 x30 x31 x140000 x140001 x140002) else (none)) else (none)) else (samp_Of.l0 k x1 x140002 x3 x10 x11 x12 x29 x30 (wrap64 (x31 + 1)))) else (samp_Of.l0 k x1 x140002 x3 x10 x11 x12 x29 x30 (wrap64 (x31 + 1)))
def samp_Of.l2 : Nat → Int → Int → List Int → Int → Option (List Int × Int)
  | 0, _, _, _, _ => none
  | k + 1, x2, x3, x10, x11 => if x11 < x3 then (if 0 ≤ x11 then (if x11 < (x10.length : Int) then (samp_Of.l2 k x2 x3 (x10.set (x11 : Int).toNat x2) (wrap64 (x11 + 1))) else (none)) else (none)) else (some (x10, 0))
end
def samp_Of.f (k : Nat) (l0 : List (S33)) (a1 : ByteArray) (a2 : Int) (a3 : Int) : Option (List Int × Int) := if a3 < 0 then (samp_Of.j0 k l0 a1 a2 a3 true) else (samp_Of.j0 k l0 a1 a2 a3 (decide (a3 > 100000)))
theorem samp_Of.mono_l : ∀ k, (∀ y0 y1 y2 y3 y4, LeO (samp_Of.j0 k y0 y1 y2 y3 y4) (samp_Of.j0 (k + 1) y0 y1 y2 y3 y4)) ∧ (∀ y0 y1 y2 y3 y4, LeO (samp_Of.j1 k y0 y1 y2 y3 y4) (samp_Of.j1 (k + 1) y0 y1 y2 y3 y4)) ∧ (∀ y0 y1 y2 y3 y4 y5 y6 y7 y8, LeO (samp_Of.l0 k y0 y1 y2 y3 y4 y5 y6 y7 y8) (samp_Of.l0 (k + 1) y0 y1 y2 y3 y4 y5 y6 y7 y8)) ∧ (∀ y0 y1 y2 y3 y4 y5 y6 y7 y8 y9 y10 y11 y12, LeO (samp_Of.j3 k y0 y1 y2 y3 y4 y5 y6 y7 y8 y9 y10 y11 y12) (samp_Of.j3 (k + 1) y0 y1 y2 y3 y4 y5 y6 y7 y8 y9 y10 y11 y12)) ∧ (∀ y0 y1 y2 y3 y4 y5 y6 y7 y8 y9 y10 y11, LeO (samp_Of.l1 k y0 y1 y2 y3 y4 y5 y6 y7 y8 y9 y10 y11) (samp_Of.l1 (k + 1) y0 y1 y2 y3 y4 y5 y6 y7 y8 y9 y10 y11)) ∧ (∀ y0 y1 y2 y3, LeO (samp_Of.l2 k y0 y1 y2 y3) (samp_Of.l2 (k + 1) y0 y1 y2 y3))
  | 0 => ⟨fun _ _ _ _ _ r h => by simp [samp_Of.j0] at h, fun _ _ _ _ _ r h => by simp [samp_Of.j1] at h, fun _ _ _ _ _ _ _ _ _ r h => by simp [samp_Of.l0] at h, fun _ _ _ _ _ _ _ _ _ _ _ _ _ r h => by simp [samp_Of.j3] at h, fun _ _ _ _ _ _ _ _ _ _ _ _ r h => by simp [samp_Of.l1] at h, fun _ _ _ _ r h => by simp [samp_Of.l2] at h⟩
  | k + 1 => by
    obtain ⟨ih0, ih1, ih2, ih3, ih4, ih5⟩ := samp_Of.mono_l k
    refine ⟨?_, ?_, ?_, ?_, ?_, ?_⟩
    · intro y0 y1 y2 y3 y4
      unfold samp_Of.j0
      repeat' first
      | (with_reducible exact ih0 _ _ _ _ _)
      | (with_reducible exact ih1 _ _ _ _ _)
      | (with_reducible exact ih2 _ _ _ _ _ _ _ _ _)
      | (with_reducible exact ih3 _ _ _ _ _ _ _ _ _ _ _ _ _)
      | (with_reducible exact ih4 _ _ _ _ _ _ _ _ _ _ _ _)
      | (with_reducible exact ih5 _ _ _ _)
      | (with_reducible exact LeO.refl _)
      | (with_reducible exact LeO.none _)
      | (with_reducible refine LeO.ite ?_ ?_)
      | (with_reducible refine LeO.bind ?_ (fun _ => ?_))
      | exact ih0 _ _ _ _ _
      | exact ih1 _ _ _ _ _
      | exact ih2 _ _ _ _ _ _ _ _ _
      | exact ih3 _ _ _ _ _ _ _ _ _ _ _ _ _
      | exact ih4 _ _ _ _ _ _ _ _ _ _ _ _
      | exact ih5 _ _ _ _
      | exact LeO.none _
      | refine LeO.ite ?_ ?_
      | refine LeO.bind ?_ (fun _ => ?_)
    · intro y0 y1 y2 y3 y4
      unfold samp_Of.j1
      repeat' first
      | (with_reducible exact ih0 _ _ _ _ _)
      | (with_reducible exact ih1 _ _ _ _ _)
      | (with_reducible exact ih2 _ _ _ _ _ _ _ _ _)
      | (with_reducible exact ih3 _ _ _ _ _ _ _ _ _ _ _ _ _)
      | (with_reducible exact ih4 _ _ _ _ _ _ _ _ _ _ _ _)
      | (with_reducible exact ih5 _ _ _ _)
      | (with_reducible exact LeO.refl _)
      | (with_reducible exact LeO.none _)
      | (with_reducible refine LeO.ite ?_ ?_)
      | (with_reducible refine LeO.bind ?_ (fun _ => ?_))
      | exact ih0 _ _ _ _ _
      | exact ih1 _ _ _ _ _
      | exact ih2 _ _ _ _ _ _ _ _ _
      | exact ih3 _ _ _ _ _ _ _ _ _ _ _ _ _
      | exact ih4 _ _ _ _ _ _ _ _ _ _ _ _
      | exact ih5 _ _ _ _
      | exact LeO.none _
      | refine LeO.ite ?_ ?_
      | refine LeO.bind ?_ (fun _ => ?_)
    · intro y0 y1 y2 y3 y4 y5 y6 y7 y8
      unfold samp_Of.l0
      repeat' first
      | (with_reducible exact ih0 _ _ _ _ _)
      | (with_reducible exact ih1 _ _ _ _ _)
      | (with_reducible exact ih2 _ _ _ _ _ _ _ _ _)
      | (with_reducible exact ih3 _ _ _ _ _ _ _ _ _ _ _ _ _)
      | (with_reducible exact ih4 _ _ _ _ _ _ _ _ _ _ _ _)
      | (with_reducible exact ih5 _ _ _ _)
      | (with_reducible exact LeO.refl _)
      | (with_reducible exact LeO.none _)
      | (with_reducible refine LeO.ite ?_ ?_)
      | (with_reducible refine LeO.bind ?_ (fun _ => ?_))
      | exact ih0 _ _ _ _ _
      | exact ih1 _ _ _ _ _
      | exact ih2 _ _ _ _ _ _ _ _ _
      | exact ih3 _ _ _ _ _ _ _ _ _ _ _ _ _
      | exact ih4 _ _ _ _ _ _ _ _ _ _ _ _
      | exact ih5 _ _ _ _
      | exact LeO.none _
      | refine LeO.ite ?_ ?_
      | refine LeO.bind ?_ (fun _ => ?_)
    · intro y0 y1 y2 y3 y4 y5 y6 y7 y8 y9 y10 y11 y12
      unfold samp_Of.j3
      repeat' first
      | (with_reducible exact ih0 _ _ _ _ _)
      | (with_reducible exact ih1 _ _ _ _ _)
      | (with_reducible exact ih2 _ _ _ _ _ _ _ _ _)
      | (with_reducible exact ih3 _ _ _ _ _ _ _ _ _ _ _ _ _)
      | (with_reducible exact ih4 _ _ _ _ _ _ _ _ _ _ _ _)
      | (with_reducible exact ih5 _ _ _ _)
      | (with_reducible exact LeO.refl _)
      | (with_reducible exact LeO.none _)
      | (with_reducible refine LeO.ite ?_ ?_)
      | (with_reducible refine LeO.bind ?_ (fun _ => ?_))
      | exact ih0 _ _ _ _ _
      | exact ih1 _ _ _ _ _
      | exact ih2 _ _ _ _ _ _ _ _ _
      | exact ih3 _ _ _ _ _ _ _ _ _ _ _ _ _
      | exact ih4 _ _ _ _ _ _ _ _ _ _ _ _
      | exact ih5 _ _ _ _
      | exact LeO.none _
      | refine LeO.ite ?_ ?_
      | refine LeO.bind ?_ (fun _ => ?_)
    · intro y0 y1 y2 y3 y4 y5 y6 y7 y8 y9 y10 y11
      unfold samp_Of.l1
      repeat' first
      | (with_reducible exact ih0 _ _ _ _ _)
      | (with_reducible exact ih1 _ _ _ _ _)
      | (with_reducible exact ih2 _ _ _ _ _ _ _ _ _)
      | (with_reducible exact ih3 _ _ _ _ _ _ _ _ _ _ _ _ _)
      | (with_reducible exact ih4 _ _ _ _ _ _ _ _ _ _ _ _)
      | (with_reducible exact ih5 _ _ _ _)
      | (with_reducible exact LeO.refl _)
      | (with_reducible exact LeO.none _)
      | (with_reducible refine LeO.ite ?_ ?_)
      | (with_reducible refine LeO.bind ?_ (fun _ => ?_))
      | exact ih0 _ _ _ _ _
      | exact ih1 _ _ _ _ _
      | exact ih2 _ _ _ _ _ _ _ _ _
      | exact ih3 _ _ _ _ _ _ _ _ _ _ _ _ _
      | exact ih4 _ _ _ _ _ _ _ _ _ _ _ _
      | exact ih5 _ _ _ _
      | exact LeO.none _
      | refine LeO.ite ?_ ?_
      | refine LeO.bind ?_ (fun _ => ?_)
    · intro y0 y1 y2 y3
      unfold samp_Of.l2
      repeat' first
      | (with_reducible exact ih0 _ _ _ _ _)
      | (with_reducible exact ih1 _ _ _ _ _)
      | (with_reducible exact ih2 _ _ _ _ _ _ _ _ _)
      | (with_reducible exact ih3 _ _ _ _ _ _ _ _ _ _ _ _ _)
      | (with_reducible exact ih4 _ _ _ _ _ _ _ _ _ _ _ _)
      | (with_reducible exact ih5 _ _ _ _)
      | (with_reducible exact LeO.refl _)
      | (with_reducible exact LeO.none _)
      | (with_reducible refine LeO.ite ?_ ?_)
      | (with_reducible refine LeO.bind ?_ (fun _ => ?_))
      | exact ih0 _ _ _ _ _
      | exact ih1 _ _ _ _ _
      | exact ih2 _ _ _ _ _ _ _ _ _
      | exact ih3 _ _ _ _ _ _ _ _ _ _ _ _ _
      | exact ih4 _ _ _ _ _ _ _ _ _ _ _ _
      | exact ih5 _ _ _ _
      | exact LeO.none _
      | refine LeO.ite ?_ ?_
      | refine LeO.bind ?_ (fun _ => ?_)
theorem samp_Of.mono : ∀ a0 a1 a2 a3 k, LeO (samp_Of.f k a0 a1 a2 a3) (samp_Of.f (k + 1) a0 a1 a2 a3) := by
  intro a0 a1 a2 a3 k
  obtain ⟨ih0, ih1, ih2, ih3, ih4, ih5⟩ := samp_Of.mono_l k
  unfold samp_Of.f
  repeat' first
      | (with_reducible exact ih0 _ _ _ _ _)
      | (with_reducible exact ih1 _ _ _ _ _)
      | (with_reducible exact ih2 _ _ _ _ _ _ _ _ _)
      | (with_reducible exact ih3 _ _ _ _ _ _ _ _ _ _ _ _ _)
      | (with_reducible exact ih4 _ _ _ _ _ _ _ _ _ _ _ _)
      | (with_reducible exact ih5 _ _ _ _)
      | (with_reducible exact LeO.refl _)
      | (with_reducible exact LeO.none _)
      | (with_reducible refine LeO.ite ?_ ?_)
      | (with_reducible refine LeO.bind ?_ (fun _ => ?_))
      | exact ih0 _ _ _ _ _
      | exact ih1 _ _ _ _ _
      | exact ih2 _ _ _ _ _ _ _ _ _
      | exact ih3 _ _ _ _ _ _ _ _ _ _ _ _ _
      | exact ih4 _ _ _ _ _ _ _ _ _ _ _ _
      | exact ih5 _ _ _ _
      | exact LeO.none _
      | refine LeO.ite ?_ ?_
      | refine LeO.bind ?_ (fun _ => ?_)
set_option maxHeartbeats 8000000 in
set_option maxRecDepth 100000 in
theorem samp_Of.calls (k : Nat) (A0 : Option Addr) (c0 : Nat) (l0 : List (S33)) (a1 : ByteArray) (a2 : Int) (a3 : Int) (r1 : List Int) (r2 : Int) (w : World) (hr0 : Kd.C k33 w A0 l0.length l0) (hc0 : l0.length ≤ c0) (h : samp_Of.f k l0 a1 a2 a3 = some (r1, r2)) :
    Calls Try.prog 19 #[.slice A0 l0.length c0, .string a1, .int .i64 a2, .int .i64 a3] w fun e w' => ∃ v0_ : Value, e = .returned (.tuple #[v0_, .int .i64 r2]) ∧ Kd.R (Kd.int .i64) 3 w' w.heap.size (fun _ => True) v0_ r1 ∧ Below w.heap.size w w' := by
  have hu33 := Try.underlying33
  have HR0 := Aside0.mk hr0
  have HC0 := Aside0.mk hc0
  clear hr0 hc0
  have HB := Aside0.mk (Below.refl w.heap.size w)
  have H : (if a3 < 0 then (samp_Of.j0 k l0 a1 a2 a3 true) else (samp_Of.j0 k l0 a1 a2 a3 (decide (a3 > 100000)))) = some (r1, r2) := h
  clear h
  have HC5 := Aside0.mk H
  clear H
  go_enter Try.func19, Try.ntmps19
  go_upto_region 1 with (fail)
  go_cut [20] (fun v20 wc => ∃ (kq : Nat) (x20_4 : Bool), v20 = .bool x20_4 ∧ Aside0 (samp_Of.j0 kq l0 a1 a2 a3 x20_4 = some (r1, r2)) ∧ Aside0 (kq ≤ k) ∧ Aside0 (Below w.heap.size w wc))
  case first =>
    have H := HC5.out
    clear HC5
    by_cases c6 : a3 < 0
    · rw [if_pos c6] at H
      have c6b0 : decide (a3 < 0) = true := decide_eq_true c6
      clear c6
      (first | rw [c6b0] | (simp only [i64_w, i32_w]; rw [c6b0]) | skip)
      have H' := Aside0.mk H
      clear H
      go_wp2
      go_meet
      case rel => exact ⟨_, (true), (by first | rfl | (simp; done) | (simp [*]; done)), H', ⟨by first | omega | exact Nat.le_refl _⟩, ⟨by repeat (first | (with_reducible first | exact HB.out | apply below_alloc | apply pw_below_drewN | apply below_drew1) | exact HB.out)⟩⟩
    · rw [if_neg c6] at H
      have c6b0 : decide (a3 < 0) = false := decide_eq_false c6
      clear c6
      (first | rw [c6b0] | (simp only [i64_w, i32_w]; rw [c6b0]) | skip)
      have H' := Aside0.mk H
      clear H
      go_wp2
      go_meet
      case rel => exact ⟨_, (decide (a3 > 100000)), (by first | rfl | (simp; done) | (simp [*]; done)), H', ⟨by first | omega | exact Nat.le_refl _⟩, ⟨by repeat (first | (with_reducible first | exact HB.out | apply below_alloc | apply pw_below_drewN | apply below_drew1) | exact HB.out)⟩⟩
  case rest =>
    clear HC5
    try clear c1
    try clear p2
    try clear c6
    try clear c6b0
    obtain ⟨kq, x20_4, rfl, HA, HJ4, HB⟩ := hcut
    cases kq with
    | zero => exact absurd HA.out (by simp [samp_Of.j0])
    | succ kj4 =>
      have H := HA.out
      clear HA
      simp only [samp_Of.j0] at H
      by_cases c7 : x20_4 = true
      · subst c7
        have H1 : (some (([] : List Int), 2)) = some (r1, r2) := by rw [if_pos rfl] at H; exact H
        clear H
        have H := H1
        clear H1
        simp only [Option.some.injEq, Prod.mk.injEq] at H
        obtain ⟨rfl, rfl⟩ := H
        go_wp2
        go_ret2
        exact ⟨_, by first | rfl | (simp [errW_none, errW_some] <;> rfl) | (simp [*, errW_none, errW_some] <;> rfl), by first | exact Kd.R_nil _ _ _ _ _ | exact Kd.N_nil _ _ _ _ _ | exact Kd.V_nil _ _ _ _ _ | exact Kd.Q_nil _ _ _ _ _ | exact Kd.S_nil _ _ _ _ _, by repeat (first | (with_reducible first | exact HB.out | apply below_alloc | apply pw_below_drewN | apply below_drew1) | exact HB.out)⟩
      · replace c7 := Bool.eq_false_iff.mpr c7
        subst c7
        have H1 : (if a2 < 0 then (samp_Of.j1 kj4 l0 a1 a2 a3 true) else (samp_Of.j1 kj4 l0 a1 a2 a3 (decide (a2 > 1048576)))) = some (r1, r2) := by rw [if_neg (show ¬ (false = true) by decide)] at H; exact H
        clear H
        have H := H1
        clear H1
        have HC8 := Aside0.mk H
        clear H
        go_upto_region 3 with (fail)
        go_cut [26] (fun v26 wc => ∃ (kq : Nat) (x26_7 : Bool), v26 = .bool x26_7 ∧ Aside0 (samp_Of.j1 kq l0 a1 a2 a3 x26_7 = some (r1, r2)) ∧ Aside0 (kq ≤ kj4) ∧ Aside0 (Below w.heap.size w wc))
        case first =>
          have H := HC8.out
          clear HC8
          by_cases c9 : a2 < 0
          · rw [if_pos c9] at H
            have c9b0 : decide (a2 < 0) = true := decide_eq_true c9
            clear c9
            (first | rw [c9b0] | (simp only [i64_w, i32_w]; rw [c9b0]) | skip)
            have H' := Aside0.mk H
            clear H
            go_wp2
            go_meet
            case rel => exact ⟨_, (true), (by first | rfl | (simp; done) | (simp [*]; done)), H', ⟨by have := HJ4.out; first | omega | exact Nat.le_refl _⟩, ⟨by repeat (first | (with_reducible first | exact HB.out | apply below_alloc | apply pw_below_drewN | apply below_drew1) | exact HB.out)⟩⟩
          · rw [if_neg c9] at H
            have c9b0 : decide (a2 < 0) = false := decide_eq_false c9
            clear c9
            (first | rw [c9b0] | (simp only [i64_w, i32_w]; rw [c9b0]) | skip)
            have H' := Aside0.mk H
            clear H
            go_wp2
            go_meet
            case rel => exact ⟨_, (decide (a2 > 1048576)), (by first | rfl | (simp; done) | (simp [*]; done)), H', ⟨by have := HJ4.out; first | omega | exact Nat.le_refl _⟩, ⟨by repeat (first | (with_reducible first | exact HB.out | apply below_alloc | apply pw_below_drewN | apply below_drew1) | exact HB.out)⟩⟩
        case rest =>
          clear HC8
          try clear c1
          try clear p2
          try clear c6
          try clear c6b0
          try clear c7
          try clear c9
          try clear c9b0
          try clear p2
          obtain ⟨kq, x26_7, rfl, HA, HJ7, HB⟩ := hcut
          cases kq with
          | zero => exact absurd HA.out (by simp [samp_Of.j1])
          | succ kj7 =>
            have H := HA.out
            clear HA
            simp only [samp_Of.j1] at H
            by_cases c10 : x26_7 = true
            · subst c10
              have H1 : (some (([] : List Int), 1)) = some (r1, r2) := by rw [if_pos rfl] at H; exact H
              clear H
              have H := H1
              clear H1
              simp only [Option.some.injEq, Prod.mk.injEq] at H
              obtain ⟨rfl, rfl⟩ := H
              go_wp2
              go_ret2
              exact ⟨_, by first | rfl | (simp [errW_none, errW_some] <;> rfl) | (simp [*, errW_none, errW_some] <;> rfl), by first | exact Kd.R_nil _ _ _ _ _ | exact Kd.N_nil _ _ _ _ _ | exact Kd.V_nil _ _ _ _ _ | exact Kd.Q_nil _ _ _ _ _ | exact Kd.S_nil _ _ _ _ _, by repeat (first | (with_reducible first | exact HB.out | apply below_alloc | apply pw_below_drewN | apply below_drew1) | exact HB.out)⟩
            · replace c10 := Bool.eq_false_iff.mpr c10
              subst c10
              have H1 : (if 0 ≤ a3 then (if (a3 : Int).toNat ≤ 35184372088832 then (samp_Of.l0 kj7 a1 a2 a3 (List.replicate (a3 : Int).toNat 0) 0 (-1) l0 (l0.length : Int) 0) else (none)) else (none)) = some (r1, r2) := by rw [if_neg (show ¬ (false = true) by decide)] at H; exact H
              clear H
              have H := H1
              clear H1
              by_cases c11 : 0 ≤ a3
              · rw [if_pos c11] at H
                have c11b0 := eq_true c11
                have c11b1 : decide (0 ≤ a3) = true := decide_eq_true c11
                clear c11
                by_cases c12 : (a3 : Int).toNat ≤ 35184372088832
                · rw [if_pos c12] at H
                  have c12b0 := eq_true c12
                  have c12b1 : decide ((a3 : Int).toNat ≤ 35184372088832) = true := decide_eq_true c12
                  clear c12
                  obtain ⟨y135, hy135⟩ : ∃ y_ : List Int, y_ = (List.replicate (a3 : Int).toNat 0) := ⟨_, rfl⟩
                  replace H : (samp_Of.l0 kj7 a1 a2 a3 y135 0 (-1) l0 (l0.length : Int) 0) = some (r1, r2) := by first | (rw [hy135]; with_reducible exact H) | (have H2_ := (Option.bind_some _ _).symm.trans H; rw [hy135]; with_reducible exact H2_) | (have H2_ := (Option.bind_some _ _).symm.trans H; with_reducible exact H2_) | with_reducible exact H | (rw [hy135]; exact H) | exact H
                  have Ny135 := Aside0.mk hy135
                  clear hy135
                  have H' := Aside0.mk H
                  clear H
                  go_wp2_with (first | ((with_reducible refine gate_dst (N := 28) rfl ?_); refine Kd.R_make (Kd.int .i64) _ 3 rfl (N := 28) rfl 22 _ _ rfl a3 rfl rfl Try.underlying22 (.int .i64 0) 8 info3 rfl (by decide) (by omega) 0 (ok := fun _ => True) (okp := fun _ => True) rfl (fun _ hk => hk) trivial (of_decide_eq_true (by first | (with_reducible assumption) | assumption)) (Nat.le_trans (Nat.mul_le_mul_right _ (of_decide_eq_true (by first | (with_reducible assumption) | assumption) : a3.toNat ≤ 35184372088832)) (by omega)) (Below.refl _ _) (Nat.le_refl _) ?_; intro v136 w13 ho14 hb hg_ hnew_; clear hg_ hnew_; (first | rw [← Ny135.out] at ho14 | (simp only [Int.reduceToNat] at ho14; rw [← Ny135.out] at ho14)); have n0_ := Aside0.mk (Kd.R_lower ho14 (below_size (by repeat (first | (with_reducible first | exact HB.out | apply below_alloc | apply pw_below_drewN | apply below_drew1) | exact HB.out)))); have n1_ := Aside0.mk (below_step (by repeat (first | (with_reducible first | exact HB.out | apply below_alloc | apply pw_below_drewN | apply below_drew1) | exact HB.out)) hb); clear HB; have HO137 := n0_; have HB := n1_; clear n0_ n1_; clear hb ho14))
                  go_loopg [2, 11, 12, 31] kj7 (fun kq v2 v11 v12 v31 w' => ∃ (x2_3 : Int) (x10_3 : List Int) (x11_3 : Int) (x12_3 : Int) (x31_3 : Int), v2 = .int .i64 x2_3 ∧ v11 = .int .i64 x11_3 ∧ v12 = .int .i64 x12_3 ∧ v31 = .int .i64 x31_3 ∧ Aside0 (samp_Of.l0 kq a1 x2_3 a3 x10_3 x11_3 x12_3 l0 (l0.length : Int) x31_3 = some (r1, r2)) ∧ Aside0 (kq ≤ kj7) ∧ Aside0 (Kd.R (Kd.int .i64) 3 w' w.heap.size (fun _ => True) v136 x10_3) ∧ Aside0 (Below w.heap.size w w'))
                  case atStart => exact ⟨(a2), (y135), (0), ((-1)), (0), (by first | rfl | (simp; done) | (simp [*]; done)), (by first | rfl | (simp; done) | (simp [*]; done)), (by first | rfl | (simp; done) | (simp [*]; done)), (by first | rfl | (simp; done) | (simp [*]; done)), H', ⟨Nat.le_refl _⟩, ⟨by (with_reducible repeat (first | apply Kd.R_alloc | apply Kd.R_drewN | apply Kd.R_drew)); exact HO137.out⟩, ⟨by repeat (first | (with_reducible first | exact HB.out | apply below_alloc | apply pw_below_drewN | apply below_drew1) | exact HB.out)⟩⟩
                  case round =>
                    clear H'
                    try clear c1
                    try clear p2
                    try clear c6
                    try clear c6b0
                    try clear c7
                    try clear c9
                    try clear c9b0
                    try clear c10
                    try clear c11
                    try clear c11b0
                    try clear c11b1
                    try clear c12
                    try clear c12b0
                    try clear c12b1
                    try clear p2
                    obtain ⟨x2_3, x10_3, x11_3, x12_3, x31_3, rfl, rfl, rfl, rfl, HA, HK3, HO_10, HB⟩ := hrel
                    cases gk with
                    | zero => exact absurd HA.out (by simp [samp_Of.l0])
                    | succ k3 =>
                      have H := HA.out
                      clear HA
                      simp only [samp_Of.l0] at H
                      by_cases c15 : x31_3 < (l0.length : Int)
                      · rw [if_pos c15] at H
                        have c15b0 : decide (x31_3 < (l0.length : Int)) = true := decide_eq_true c15
                        clear c15
                        by_cases c16 : 0 ≤ x31_3
                        · rw [if_pos c16] at H
                          have c16b0 : decide (0 ≤ x31_3) = true := decide_eq_true c16
                          clear c16
                          by_cases c17 : x31_3 < (l0.length : Int)
                          · rw [if_pos c17] at H
                            have c17b0 : decide (x31_3 < (l0.length : Int)) = true := decide_eq_true c17
                            clear c17
                            by_cases c18 : ((rd_T33 l0 x31_3).f1).toList = a1.toList
                            · rw [if_pos c18] at H
                              have c18b0 : (((rd_T33 l0 x31_3).f1).toList == a1.toList) = true := beq_iff_eq.mpr c18
                              have c18b1 : (((rd_T33 l0 x31_3).f1).toList != a1.toList) = false := bne_eq_false_iff_eq.mpr c18
                              clear c18
                              have HC19 := Aside0.mk H
                              clear H
                              have p138 : 0 ≤ (x31_3 : Int) := of_decide_eq_true (by first | (with_reducible assumption) | assumption)
                              have q138 : x31_3 < (l0.length : Int) := of_decide_eq_true (by first | (with_reducible assumption) | assumption)
                              obtain ⟨ad138, e138, hx138_0, hx138_1, hx138_2⟩ := at_T33 HR0.out x31_3 p138 q138
                              cases e138
                              replace hx138_0 := (HB.out.cell (World.block_lt_of_cell? w _ hx138_0)).trans hx138_0
                              replace hx138_1 := (HB.out.cell (World.block_lt_of_cell? w _ hx138_1)).trans hx138_1
                              replace hx138_2 := (HB.out.cell (World.block_lt_of_cell? w _ hx138_2)).trans hx138_2
                              replace p138 := eq_true p138
                              replace q138 := eq_true q138
                              go_upto_region 11 with (first | ((with_reducible refine gate_dst (N := 14) rfl ?_); refine box_event ?hg (N := 14) ?hd (cs := #[.int .i64 0, .string (⟨#[]⟩ : ByteArray), .int .i64 0]) (t := 33) ?hr ?_; (case hd => rfl); (case hg => rfl); (case hr => first | (go_simp; done) | (go_simp; rfl)); intro gb139 hg w20 hbox hb; have n0_ := Aside0.mk (Kd.R_below (by (with_reducible repeat (first | apply Kd.R_alloc | apply Kd.R_drewN | apply Kd.R_drew)); exact HO_10.out) hb); have n1_ := Aside0.mk (below_step (by repeat (first | (with_reducible first | exact HB.out | apply below_alloc | apply pw_below_drewN | apply below_drew1) | exact HB.out)) hb); have n2_ := Aside0.mk (hbox); have n3_ := Aside0.mk ((by rw [hg]; exact (below_size (by repeat (first | (with_reducible first | exact HB.out | apply below_alloc | apply pw_below_drewN | apply below_drew1) | exact HB.out))) : w.heap.size ≤ gb139)); have n4_ := Aside0.mk ((by rw [hg]; exact (below_size (by repeat (first | (with_reducible first | exact HB.out | apply below_alloc | apply pw_below_drewN | apply below_drew1) | exact HB.out))) : w.heap.size ≤ gb139)); clear HO_10; clear HB; have HO_10 := n0_; have HB := n1_; have BK139 := n2_; have GW139 := n3_; have GE139 := n4_; clear n0_ n1_ n2_ n3_ n4_; clear hb hbox hg; have hcz21_0 : w20.cell? ⟨gb139, 0, none⟩ = some (.int .i64 0) := (blk_cell BK139.out 0).trans rfl; have hcz21_1 : w20.cell? ⟨gb139, 1, none⟩ = some (.string (⟨#[]⟩ : ByteArray)) := (blk_cell BK139.out 1).trans rfl; have hcz21_2 : w20.cell? ⟨gb139, 2, none⟩ = some (.int .i64 0) := (blk_cell BK139.out 2).trans rfl; have hfz21_0 := blk_frozen BK139.out 0; have hfz21_1 := blk_frozen BK139.out 1; have hfz21_2 := blk_frozen BK139.out 2))
                              (try simp only [Act.put, List.setIfInBounds_toArray, List.set_cons_zero, List.set_cons_succ])
                              go_cut [51] (fun v51 wc => ∃ (kq : Nat) (x51_18 : Bool), v51 = .bool x51_18 ∧ Aside0 (samp_Of.j3 kq a1 x2_3 a3 x10_3 x11_3 x12_3 l0 (l0.length : Int) x31_3 x51_18 ((rd_T33 l0 x31_3).f0) ((rd_T33 l0 x31_3).f1) ((rd_T33 l0 x31_3).f2) = some (r1, r2)) ∧ Aside0 (kq ≤ k3) ∧ Aside0 (Kd.R (Kd.int .i64) 3 wc w.heap.size (fun _ => True) v136 x10_3) ∧ Aside0 (wc.heap[gb139]? = some (.cells #[.int .i64 ((rd_T33 l0 x31_3).f0), .string ((rd_T33 l0 x31_3).f1), .int .i64 ((rd_T33 l0 x31_3).f2)] 33 (0, 0))) ∧ Aside0 (Below w.heap.size w wc))
                              case first =>
                                have H := HC19.out
                                clear HC19
                                by_cases c22 : ((rd_T33 l0 x31_3).f0) < 0
                                · rw [if_pos c22] at H
                                  have c22b0 : decide (((rd_T33 l0 x31_3).f0) < 0) = true := decide_eq_true c22
                                  clear c22
                                  (first | rw [c22b0] | (simp only [i64_w, i32_w]; rw [c22b0]) | skip)
                                  have H' := Aside0.mk H
                                  clear H
                                  have hcz23_0 : w20.cell? ⟨gb139, 0, none⟩ = some (.int .i64 0) := (blk_cell BK139.out 0).trans rfl
                                  have hcz23_1 : w20.cell? ⟨gb139, 1, none⟩ = some (.string (⟨#[]⟩ : ByteArray)) := (blk_cell BK139.out 1).trans rfl
                                  have hcz23_2 : w20.cell? ⟨gb139, 2, none⟩ = some (.int .i64 0) := (blk_cell BK139.out 2).trans rfl
                                  have hfz23_0 := blk_frozen BK139.out 0
                                  have hfz23_1 := blk_frozen BK139.out 1
                                  have hfz23_2 := blk_frozen BK139.out 2
                                  go_wp2
                                  go_meet
                                  case rel => exact ⟨_, (true), (by first | rfl | (simp; done) | (simp [*]; done)), H', ⟨by have := HJ4.out; have := HJ7.out; have := HK3.out; first | omega | exact Nat.le_refl _⟩, ⟨by (with_reducible repeat (first | apply Kd.R_alloc | apply Kd.R_drewN | apply Kd.R_drew)); exact Kd.R_mono (Kd.R_far (p := ⟨gb139, 2, none⟩) (Kd.R_far (p := ⟨gb139, 1, none⟩) (Kd.R_far (p := ⟨gb139, 0, none⟩) (Kd.R_types HO_10.out BK139.out (by decide)) (fun _ hk => hk.2) (.int .i64 ((rd_T33 l0 x31_3).f0))) (fun _ hk => hk.2) (.string ((rd_T33 l0 x31_3).f1))) (fun _ hk => hk.2) (.int .i64 ((rd_T33 l0 x31_3).f2))) (fun _ hk => trivial)⟩, ⟨by (with_reducible repeat (first | refine blk_drewN ?_ _ | refine blk_drew ?_ | refine blk_alloc ?_ _)); refine blk_put (cs := #[.int .i64 ((rd_T33 l0 x31_3).f0), .string ((rd_T33 l0 x31_3).f1), .int .i64 0]) ?_ 2 _ rfl; (with_reducible repeat (first | refine blk_drewN ?_ _ | refine blk_drew ?_ | refine blk_alloc ?_ _)); refine blk_put (cs := #[.int .i64 ((rd_T33 l0 x31_3).f0), .string (⟨#[]⟩ : ByteArray), .int .i64 0]) ?_ 1 _ rfl; (with_reducible repeat (first | refine blk_drewN ?_ _ | refine blk_drew ?_ | refine blk_alloc ?_ _)); refine blk_put (cs := #[.int .i64 0, .string (⟨#[]⟩ : ByteArray), .int .i64 0]) ?_ 0 _ rfl; (with_reducible repeat (first | refine blk_drewN ?_ _ | refine blk_drew ?_ | refine blk_alloc ?_ _)); exact BK139.out⟩, ⟨by repeat (first | (with_reducible first | exact HB.out | apply below_alloc | apply pw_below_drewN | apply below_drew1 | refine below_set ?_ GE139.out) | exact HB.out)⟩⟩
                                · rw [if_neg c22] at H
                                  have c22b0 : decide (((rd_T33 l0 x31_3).f0) < 0) = false := decide_eq_false c22
                                  clear c22
                                  (first | rw [c22b0] | (simp only [i64_w, i32_w]; rw [c22b0]) | skip)
                                  by_cases c24 : ((rd_T33 l0 x31_3).f2) < 0
                                  · rw [if_pos c24] at H
                                    have c24b0 : decide (((rd_T33 l0 x31_3).f2) < 0) = true := decide_eq_true c24
                                    clear c24
                                    have H' := Aside0.mk H
                                    clear H
                                    have hcz25_0 : w20.cell? ⟨gb139, 0, none⟩ = some (.int .i64 0) := (blk_cell BK139.out 0).trans rfl
                                    have hcz25_1 : w20.cell? ⟨gb139, 1, none⟩ = some (.string (⟨#[]⟩ : ByteArray)) := (blk_cell BK139.out 1).trans rfl
                                    have hcz25_2 : w20.cell? ⟨gb139, 2, none⟩ = some (.int .i64 0) := (blk_cell BK139.out 2).trans rfl
                                    have hfz25_0 := blk_frozen BK139.out 0
                                    have hfz25_1 := blk_frozen BK139.out 1
                                    have hfz25_2 := blk_frozen BK139.out 2
                                    go_wp2
                                    go_meet
                                    case rel => exact ⟨_, (true), (by first | rfl | (simp; done) | (simp [*]; done)), H', ⟨by have := HJ4.out; have := HJ7.out; have := HK3.out; first | omega | exact Nat.le_refl _⟩, ⟨by (with_reducible repeat (first | apply Kd.R_alloc | apply Kd.R_drewN | apply Kd.R_drew)); exact Kd.R_mono (Kd.R_far (p := ⟨gb139, 2, none⟩) (Kd.R_far (p := ⟨gb139, 1, none⟩) (Kd.R_far (p := ⟨gb139, 0, none⟩) (Kd.R_types HO_10.out BK139.out (by decide)) (fun _ hk => hk.2) (.int .i64 ((rd_T33 l0 x31_3).f0))) (fun _ hk => hk.2) (.string ((rd_T33 l0 x31_3).f1))) (fun _ hk => hk.2) (.int .i64 ((rd_T33 l0 x31_3).f2))) (fun _ hk => trivial)⟩, ⟨by (with_reducible repeat (first | refine blk_drewN ?_ _ | refine blk_drew ?_ | refine blk_alloc ?_ _)); refine blk_put (cs := #[.int .i64 ((rd_T33 l0 x31_3).f0), .string ((rd_T33 l0 x31_3).f1), .int .i64 0]) ?_ 2 _ rfl; (with_reducible repeat (first | refine blk_drewN ?_ _ | refine blk_drew ?_ | refine blk_alloc ?_ _)); refine blk_put (cs := #[.int .i64 ((rd_T33 l0 x31_3).f0), .string (⟨#[]⟩ : ByteArray), .int .i64 0]) ?_ 1 _ rfl; (with_reducible repeat (first | refine blk_drewN ?_ _ | refine blk_drew ?_ | refine blk_alloc ?_ _)); refine blk_put (cs := #[.int .i64 0, .string (⟨#[]⟩ : ByteArray), .int .i64 0]) ?_ 0 _ rfl; (with_reducible repeat (first | refine blk_drewN ?_ _ | refine blk_drew ?_ | refine blk_alloc ?_ _)); exact BK139.out⟩, ⟨by repeat (first | (with_reducible first | exact HB.out | apply below_alloc | apply pw_below_drewN | apply below_drew1 | refine below_set ?_ GE139.out) | exact HB.out)⟩⟩
                                  · rw [if_neg c24] at H
                                    have c24b0 : decide (((rd_T33 l0 x31_3).f2) < 0) = false := decide_eq_false c24
                                    clear c24
                                    have H' := Aside0.mk H
                                    clear H
                                    have hcz26_0 : w20.cell? ⟨gb139, 0, none⟩ = some (.int .i64 0) := (blk_cell BK139.out 0).trans rfl
                                    have hcz26_1 : w20.cell? ⟨gb139, 1, none⟩ = some (.string (⟨#[]⟩ : ByteArray)) := (blk_cell BK139.out 1).trans rfl
                                    have hcz26_2 : w20.cell? ⟨gb139, 2, none⟩ = some (.int .i64 0) := (blk_cell BK139.out 2).trans rfl
                                    have hfz26_0 := blk_frozen BK139.out 0
                                    have hfz26_1 := blk_frozen BK139.out 1
                                    have hfz26_2 := blk_frozen BK139.out 2
                                    go_wp2
                                    go_meet
                                    case rel => exact ⟨_, (decide (((rd_T33 l0 x31_3).f2) > 1048576)), (by first | rfl | (simp; done) | (simp [*]; done)), H', ⟨by have := HJ4.out; have := HJ7.out; have := HK3.out; first | omega | exact Nat.le_refl _⟩, ⟨by (with_reducible repeat (first | apply Kd.R_alloc | apply Kd.R_drewN | apply Kd.R_drew)); exact Kd.R_mono (Kd.R_far (p := ⟨gb139, 2, none⟩) (Kd.R_far (p := ⟨gb139, 1, none⟩) (Kd.R_far (p := ⟨gb139, 0, none⟩) (Kd.R_types HO_10.out BK139.out (by decide)) (fun _ hk => hk.2) (.int .i64 ((rd_T33 l0 x31_3).f0))) (fun _ hk => hk.2) (.string ((rd_T33 l0 x31_3).f1))) (fun _ hk => hk.2) (.int .i64 ((rd_T33 l0 x31_3).f2))) (fun _ hk => trivial)⟩, ⟨by (with_reducible repeat (first | refine blk_drewN ?_ _ | refine blk_drew ?_ | refine blk_alloc ?_ _)); refine blk_put (cs := #[.int .i64 ((rd_T33 l0 x31_3).f0), .string ((rd_T33 l0 x31_3).f1), .int .i64 0]) ?_ 2 _ rfl; (with_reducible repeat (first | refine blk_drewN ?_ _ | refine blk_drew ?_ | refine blk_alloc ?_ _)); refine blk_put (cs := #[.int .i64 ((rd_T33 l0 x31_3).f0), .string (⟨#[]⟩ : ByteArray), .int .i64 0]) ?_ 1 _ rfl; (with_reducible repeat (first | refine blk_drewN ?_ _ | refine blk_drew ?_ | refine blk_alloc ?_ _)); refine blk_put (cs := #[.int .i64 0, .string (⟨#[]⟩ : ByteArray), .int .i64 0]) ?_ 0 _ rfl; (with_reducible repeat (first | refine blk_drewN ?_ _ | refine blk_drew ?_ | refine blk_alloc ?_ _)); exact BK139.out⟩, ⟨by repeat (first | (with_reducible first | exact HB.out | apply below_alloc | apply pw_below_drewN | apply below_drew1 | refine below_set ?_ GE139.out) | exact HB.out)⟩⟩
                              case rest =>
                                clear HC19
                                try clear c1
                                try clear p1
                                try clear q1
                                try clear hx1
                                try clear c2
                                try clear p2
                                try clear c6
                                try clear c6b0
                                try clear c7
                                try clear c9
                                try clear c9b0
                                try clear c10
                                try clear c11
                                try clear c11b0
                                try clear c11b1
                                try clear c12
                                try clear c12b0
                                try clear c12b1
                                try clear p13
                                try clear q13
                                try clear hx13
                                try clear c15
                                try clear c15b0
                                try clear c16
                                try clear c16b0
                                try clear c17
                                try clear c17b0
                                try clear c18
                                try clear c18b0
                                try clear c18b1
                                try clear c19
                                try clear c22
                                try clear c22b0
                                try clear c24
                                try clear c24b0
                                try clear hcz21_0
                                try clear hcz21_1
                                try clear hcz21_2
                                try clear hcz23_0
                                try clear hcz23_1
                                try clear hcz23_2
                                try clear hcz25_0
                                try clear hcz25_1
                                try clear hcz25_2
                                try clear hcz26_0
                                try clear hcz26_1
                                try clear hcz26_2
                                try clear hfz21_0
                                try clear hfz21_1
                                try clear hfz21_2
                                try clear hfz23_0
                                try clear hfz23_1
                                try clear hfz23_2
                                try clear hfz25_0
                                try clear hfz25_1
                                try clear hfz25_2
                                try clear hfz26_0
                                try clear hfz26_1
                                try clear hfz26_2
                                try clear hx138_0
                                try clear hx138_1
                                try clear hx138_2
                                try clear p138
                                try clear p2
                                try clear q138
                                obtain ⟨kq, x51_18, rfl, HA, HJ18, HO_10, BK139, HB⟩ := hcut
                                cases kq with
                                | zero => exact absurd HA.out (by simp [samp_Of.j3])
                                | succ kj18 =>
                                  have H := HA.out
                                  clear HA
                                  simp only [samp_Of.j3] at H
                                  by_cases c27 : x51_18 = true
                                  · subst c27
                                    have H1 : (some (([] : List Int), 1)) = some (r1, r2) := by rw [if_pos rfl] at H; exact H
                                    clear H
                                    have H := H1
                                    clear H1
                                    simp only [Option.some.injEq, Prod.mk.injEq] at H
                                    obtain ⟨rfl, rfl⟩ := H
                                    go_wp2
                                    go_ret2
                                    exact ⟨_, by first | rfl | (simp [errW_none, errW_some] <;> rfl) | (simp [*, errW_none, errW_some] <;> rfl), by first | exact Kd.R_nil _ _ _ _ _ | exact Kd.N_nil _ _ _ _ _ | exact Kd.V_nil _ _ _ _ _ | exact Kd.Q_nil _ _ _ _ _ | exact Kd.S_nil _ _ _ _ _, by repeat (first | (with_reducible first | exact HB.out | apply below_alloc | apply pw_below_drewN | apply below_drew1 | refine below_set ?_ GE139.out) | exact HB.out)⟩
                                  · replace c27 := Bool.eq_false_iff.mpr c27
                                    subst c27
                                    have H1 : (if ((rd_T33 l0 x31_3).f0) ≤ x12_3 then (some (([] : List Int), 9)) else (samp_Of.l1 kj18 a1 x2_3 a3 x10_3 x11_3 ((rd_T33 l0 x31_3).f0) l0 (l0.length : Int) x31_3 ((rd_T33 l0 x31_3).f0) ((rd_T33 l0 x31_3).f1) ((rd_T33 l0 x31_3).f2))) = some (r1, r2) := by rw [if_neg (show ¬ (false = true) by decide)] at H; exact H
                                    clear H
                                    have H := H1
                                    clear H1
                                    by_cases c28 : ((rd_T33 l0 x31_3).f0) ≤ x12_3
                                    · rw [if_pos c28] at H
                                      have c28b0 : decide (((rd_T33 l0 x31_3).f0) ≤ x12_3) = true := decide_eq_true c28
                                      clear c28
                                      simp only [Option.some.injEq, Prod.mk.injEq] at H
                                      obtain ⟨rfl, rfl⟩ := H
                                      have hcz29_0 : wc.cell? ⟨gb139, 0, none⟩ = some (.int .i64 ((rd_T33 l0 x31_3).f0)) := (blk_cell BK139.out 0).trans rfl
                                      have hcz29_1 : wc.cell? ⟨gb139, 1, none⟩ = some (.string ((rd_T33 l0 x31_3).f1)) := (blk_cell BK139.out 1).trans rfl
                                      have hcz29_2 : wc.cell? ⟨gb139, 2, none⟩ = some (.int .i64 ((rd_T33 l0 x31_3).f2)) := (blk_cell BK139.out 2).trans rfl
                                      have hfz29_0 := blk_frozen BK139.out 0
                                      have hfz29_1 := blk_frozen BK139.out 1
                                      have hfz29_2 := blk_frozen BK139.out 2
                                      go_wp2
                                      go_ret2
                                      exact ⟨_, by first | rfl | (simp [errW_none, errW_some] <;> rfl) | (simp [*, errW_none, errW_some] <;> rfl), by first | exact Kd.R_nil _ _ _ _ _ | exact Kd.N_nil _ _ _ _ _ | exact Kd.V_nil _ _ _ _ _ | exact Kd.Q_nil _ _ _ _ _ | exact Kd.S_nil _ _ _ _ _, by repeat (first | (with_reducible first | exact HB.out | apply below_alloc | apply pw_below_drewN | apply below_drew1 | refine below_set ?_ GE139.out) | exact HB.out)⟩
                                    · rw [if_neg c28] at H
                                      have c28b0 : decide (((rd_T33 l0 x31_3).f0) ≤ x12_3) = false := decide_eq_false c28
                                      clear c28
                                      have H' := Aside0.mk H
                                      clear H
                                      have hcz30_0 : wc.cell? ⟨gb139, 0, none⟩ = some (.int .i64 ((rd_T33 l0 x31_3).f0)) := (blk_cell BK139.out 0).trans rfl
                                      have hcz30_1 : wc.cell? ⟨gb139, 1, none⟩ = some (.string ((rd_T33 l0 x31_3).f1)) := (blk_cell BK139.out 1).trans rfl
                                      have hcz30_2 : wc.cell? ⟨gb139, 2, none⟩ = some (.int .i64 ((rd_T33 l0 x31_3).f2)) := (blk_cell BK139.out 2).trans rfl
                                      have hfz30_0 := blk_frozen BK139.out 0
                                      have hfz30_1 := blk_frozen BK139.out 1
                                      have hfz30_2 := blk_frozen BK139.out 2
                                      go_wp2
                                      go_loopg [11] kj18 (fun kq v11 w' => ∃ (x10_5 : List Int) (x11_5 : Int), v11 = .int .i64 x11_5 ∧ Aside0 (samp_Of.l1 kq a1 x2_3 a3 x10_5 x11_5 ((rd_T33 l0 x31_3).f0) l0 (l0.length : Int) x31_3 ((rd_T33 l0 x31_3).f0) ((rd_T33 l0 x31_3).f1) ((rd_T33 l0 x31_3).f2) = some (r1, r2)) ∧ Aside0 (kq ≤ kj18) ∧ Aside0 (Kd.R (Kd.int .i64) 3 w' w.heap.size (fun _ => True) v136 x10_5) ∧ Aside0 (w'.heap[gb139]? = some (.cells #[.int .i64 ((rd_T33 l0 x31_3).f0), .string ((rd_T33 l0 x31_3).f1), .int .i64 ((rd_T33 l0 x31_3).f2)] 33 (0, 0))) ∧ Aside0 (Below w.heap.size w w'))
                                      case atStart => exact ⟨(x10_3), (x11_3), (by first | rfl | (simp; done) | (simp [*]; done)), H', ⟨Nat.le_refl _⟩, ⟨by (with_reducible repeat (first | apply Kd.R_alloc | apply Kd.R_drewN | apply Kd.R_drew)); exact HO_10.out⟩, ⟨by (with_reducible repeat (first | refine blk_drewN ?_ _ | refine blk_drew ?_ | refine blk_alloc ?_ _)); exact BK139.out⟩, ⟨by repeat (first | (with_reducible first | exact HB.out | apply below_alloc | apply pw_below_drewN | apply below_drew1 | refine below_set ?_ GE139.out) | exact HB.out)⟩⟩
                                      case round =>
                                        clear H'
                                        try clear c1
                                        try clear p1
                                        try clear q1
                                        try clear hx1
                                        try clear c2
                                        try clear p2
                                        try clear c6
                                        try clear c6b0
                                        try clear c7
                                        try clear c9
                                        try clear c9b0
                                        try clear c10
                                        try clear c11
                                        try clear c11b0
                                        try clear c11b1
                                        try clear c12
                                        try clear c12b0
                                        try clear c12b1
                                        try clear p13
                                        try clear q13
                                        try clear hx13
                                        try clear c15
                                        try clear c15b0
                                        try clear c16
                                        try clear c16b0
                                        try clear c17
                                        try clear c17b0
                                        try clear c18
                                        try clear c18b0
                                        try clear c18b1
                                        try clear c19
                                        try clear c22
                                        try clear c22b0
                                        try clear c24
                                        try clear c24b0
                                        try clear c27
                                        try clear c28
                                        try clear c28b0
                                        try clear hcz21_0
                                        try clear hcz21_1
                                        try clear hcz21_2
                                        try clear hcz23_0
                                        try clear hcz23_1
                                        try clear hcz23_2
                                        try clear hcz25_0
                                        try clear hcz25_1
                                        try clear hcz25_2
                                        try clear hcz26_0
                                        try clear hcz26_1
                                        try clear hcz26_2
                                        try clear hcz29_0
                                        try clear hcz29_1
                                        try clear hcz29_2
                                        try clear hcz30_0
                                        try clear hcz30_1
                                        try clear hcz30_2
                                        try clear hfz21_0
                                        try clear hfz21_1
                                        try clear hfz21_2
                                        try clear hfz23_0
                                        try clear hfz23_1
                                        try clear hfz23_2
                                        try clear hfz25_0
                                        try clear hfz25_1
                                        try clear hfz25_2
                                        try clear hfz26_0
                                        try clear hfz26_1
                                        try clear hfz26_2
                                        try clear hfz29_0
                                        try clear hfz29_1
                                        try clear hfz29_2
                                        try clear hfz30_0
                                        try clear hfz30_1
                                        try clear hfz30_2
                                        try clear hx138_0
                                        try clear hx138_1
                                        try clear hx138_2
                                        try clear p1
                                        try clear p13
                                        try clear p138
                                        try clear p2
                                        try clear q1
                                        try clear q13
                                        try clear q138
                                        obtain ⟨x10_5, x11_5, rfl, HA, HK5, HO_10, BK139, HB⟩ := hrel
                                        cases gk with
                                        | zero => exact absurd HA.out (by simp [samp_Of.l1])
                                        | succ k5 =>
                                          have H := HA.out
                                          clear HA
                                          simp only [samp_Of.l1] at H
                                          by_cases c31 : x11_5 < a3
                                          · rw [if_pos c31] at H
                                            have c31b0 : decide (x11_5 < a3) = true := decide_eq_true c31
                                            clear c31
                                            by_cases c32 : x11_5 < ((rd_T33 l0 x31_3).f0)
                                            · rw [if_pos c32] at H
                                              have c32b0 : decide (x11_5 < ((rd_T33 l0 x31_3).f0)) = true := decide_eq_true c32
                                              clear c32
                                              by_cases c33 : 0 ≤ x11_5
                                              · rw [if_pos c33] at H
                                                have c33b0 : decide (0 ≤ x11_5) = true := decide_eq_true c33
                                                clear c33
                                                by_cases c34 : x11_5 < (x10_5.length : Int)
                                                · rw [if_pos c34] at H
                                                  have c34b0 : decide (x11_5 < (x10_5.length : Int)) = true := decide_eq_true c34
                                                  clear c34
                                                  obtain ⟨y140, hy140⟩ : ∃ y_ : List Int, y_ = (x10_5.set (x11_5 : Int).toNat x2_3) := ⟨_, rfl⟩
                                                  replace H : (samp_Of.l1 k5 a1 x2_3 a3 y140 (wrap64 (x11_5 + 1)) ((rd_T33 l0 x31_3).f0) l0 (l0.length : Int) x31_3 ((rd_T33 l0 x31_3).f0) ((rd_T33 l0 x31_3).f1) ((rd_T33 l0 x31_3).f2)) = some (r1, r2) := by first | (rw [hy140]; with_reducible exact H) | (have H2_ := (Option.bind_some _ _).symm.trans H; rw [hy140]; with_reducible exact H2_) | (have H2_ := (Option.bind_some _ _).symm.trans H; with_reducible exact H2_) | with_reducible exact H | (rw [hy140]; exact H) | exact H
                                                  have Ny140 := Aside0.mk hy140
                                                  clear hy140
                                                  have H' := Aside0.mk H
                                                  clear H
                                                  have hcz36_0 : wr.cell? ⟨gb139, 0, none⟩ = some (.int .i64 ((rd_T33 l0 x31_3).f0)) := (blk_cell BK139.out 0).trans rfl
                                                  have hcz36_1 : wr.cell? ⟨gb139, 1, none⟩ = some (.string ((rd_T33 l0 x31_3).f1)) := (blk_cell BK139.out 1).trans rfl
                                                  have hcz36_2 : wr.cell? ⟨gb139, 2, none⟩ = some (.int .i64 ((rd_T33 l0 x31_3).f2)) := (blk_cell BK139.out 2).trans rfl
                                                  have hfz36_0 := blk_frozen BK139.out 0
                                                  have hfz36_1 := blk_frozen BK139.out 1
                                                  have hfz36_2 := blk_frozen BK139.out 2
                                                  have p35 : 0 ≤ (x11_5 : Int) := of_decide_eq_true (by first | (with_reducible assumption) | assumption)
                                                  have q35 : (x11_5 : Int) < ((x10_5.length : Int) : Int) := of_decide_eq_true (by first | (with_reducible assumption) | assumption)
                                                  obtain ⟨go35, co35, eo35, gb35, gl35, cl35, HG35⟩ := Kd.R_form HO_10.out (by omega)
                                                  (first | cases eo35 | (injection eo35 with ea_ en_ ec_; (first | subst ea_ | (injection ea_ with ea_; subst ea_)); subst ec_; clear en_))
                                                  have GB35 := Aside0.mk gb35
                                                  have GG35 := Aside0.mk HG35
                                                  clear gb35 gl35 HG35
                                                  obtain ⟨hx35_0, hf35_0⟩ := Kd.R_celln 0 HO_10.out (x11_5 : Int) p35 q35
                                                  replace p35 := eq_true p35
                                                  replace q35 := eq_true q35
                                                  have HP37 := Kd.R_putg HO_10.out (x11_5 : Int) x2_3
                                                  go_wp2_with (first | ((with_reducible refine gate_store (t := 3) (p := 72) rfl ?_); refine store_event (t := 3) (p := 72) (v := ?vo_w38) (w1 := (wr.setCell ⟨go35, (x11_5 : Int).toNat, none⟩ (.int .i64 x2_3))) ?hg ?ho ?hn ?hr ?_; (case ho => rfl); (case hg => rfl); (case hn => rfl); (case hr => first | (go_simp; done) | (go_simp; rfl)); intro w38 hw; have hg : wr.grownBy w38 (some go35) := (by rw [hw]; exact HP37.2); have hp_ : Kd.R (Kd.int .i64) 3 w38 w.heap.size (fun _ => True) (.slice (some ⟨go35, 0, none⟩) x10_5.length co35) y140 := (by rw [hw, Ny140.out]; exact HP37.1); clear HP37; have n0_ := Aside0.mk (hp_); have n1_ := Aside0.mk (blk_grown (g := gb139) (o := .cells #[.int .i64 ((rd_T33 l0 x31_3).f0), .string ((rd_T33 l0 x31_3).f1), .int .i64 ((rd_T33 l0 x31_3).f2)] 33 (0, 0)) (by (with_reducible repeat (first | refine blk_drewN ?_ _ | refine blk_drew ?_ | refine blk_alloc ?_ _)); exact BK139.out) hg (Kd.R_ne HO_10.out BK139.out (by decide))); have n2_ := Aside0.mk ((by rw [hw]; exact below_set (HB.out) GB35.out : Below w.heap.size w w38)); clear HO_10; clear BK139; clear HB; have HO_10 := n0_; have BK139 := n1_; have HB := n2_; clear n0_ n1_ n2_; clear hg hw hp_))
                                                  go_roundg k5
                                                  case measure => have := HJ4.out; have := HJ7.out; have := HK3.out; have := HJ18.out; have := HK5.out; omega
                                                  case rel => exact ⟨(y140), (wrap64 (x11_5 + 1)), (by first | rfl | (simp; done) | (simp [*]; done)), H', ⟨by have := HJ4.out; have := HJ7.out; have := HK3.out; have := HJ18.out; have := HK5.out; omega⟩, ⟨by (with_reducible repeat (first | apply Kd.R_alloc | apply Kd.R_drewN | apply Kd.R_drew)); exact HO_10.out⟩, ⟨by (with_reducible repeat (first | refine blk_drewN ?_ _ | refine blk_drew ?_ | refine blk_alloc ?_ _)); exact BK139.out⟩, ⟨by repeat (first | (with_reducible first | exact HB.out | apply below_alloc | apply pw_below_drewN | apply below_drew1 | refine below_set ?_ GE139.out) | exact HB.out)⟩⟩
                                                · rw [if_neg c34] at H
                                                  exact absurd H (by simp)
                                              · rw [if_neg c33] at H
                                                exact absurd H (by simp)
                                            · rw [if_neg c32] at H
                                              have c32b0 : decide (x11_5 < ((rd_T33 l0 x31_3).f0)) = false := decide_eq_false c32
                                              clear c32
                                              have H' := Aside0.mk H
                                              clear H
                                              have hcz39_0 : wr.cell? ⟨gb139, 0, none⟩ = some (.int .i64 ((rd_T33 l0 x31_3).f0)) := (blk_cell BK139.out 0).trans rfl
                                              have hcz39_1 : wr.cell? ⟨gb139, 1, none⟩ = some (.string ((rd_T33 l0 x31_3).f1)) := (blk_cell BK139.out 1).trans rfl
                                              have hcz39_2 : wr.cell? ⟨gb139, 2, none⟩ = some (.int .i64 ((rd_T33 l0 x31_3).f2)) := (blk_cell BK139.out 2).trans rfl
                                              have hfz39_0 := blk_frozen BK139.out 0
                                              have hfz39_1 := blk_frozen BK139.out 1
                                              have hfz39_2 := blk_frozen BK139.out 2
                                              go_wp2
                                              go_roundg k5
                                              case measure => have := HJ4.out; have := HJ7.out; have := HK3.out; have := HJ18.out; have := HK5.out; omega
                                              case rel => exact ⟨(((rd_T33 l0 x31_3).f2)), (x10_5), (x11_5), (((rd_T33 l0 x31_3).f0)), (wrap64 (x31_3 + 1)), (by first | rfl | (simp; done) | (simp [*]; done)), (by first | rfl | (simp; done) | (simp [*]; done)), (by first | rfl | (simp; done) | (simp [*]; done)), (by first | rfl | (simp; done) | (simp [*]; done)), H', ⟨by have := HJ4.out; have := HJ7.out; have := HK3.out; have := HJ18.out; have := HK5.out; omega⟩, ⟨by (with_reducible repeat (first | apply Kd.R_alloc | apply Kd.R_drewN | apply Kd.R_drew)); exact HO_10.out⟩, ⟨by repeat (first | (with_reducible first | exact HB.out | apply below_alloc | apply pw_below_drewN | apply below_drew1 | refine below_set ?_ GE139.out) | exact HB.out)⟩⟩
                                          · rw [if_neg c31] at H
                                            have c31b0 : decide (x11_5 < a3) = false := decide_eq_false c31
                                            clear c31
                                            have H' := Aside0.mk H
                                            clear H
                                            have hcz40_0 : wr.cell? ⟨gb139, 0, none⟩ = some (.int .i64 ((rd_T33 l0 x31_3).f0)) := (blk_cell BK139.out 0).trans rfl
                                            have hcz40_1 : wr.cell? ⟨gb139, 1, none⟩ = some (.string ((rd_T33 l0 x31_3).f1)) := (blk_cell BK139.out 1).trans rfl
                                            have hcz40_2 : wr.cell? ⟨gb139, 2, none⟩ = some (.int .i64 ((rd_T33 l0 x31_3).f2)) := (blk_cell BK139.out 2).trans rfl
                                            have hfz40_0 := blk_frozen BK139.out 0
                                            have hfz40_1 := blk_frozen BK139.out 1
                                            have hfz40_2 := blk_frozen BK139.out 2
                                            go_wp2
                                            go_roundg k5
                                            case measure => have := HJ4.out; have := HJ7.out; have := HK3.out; have := HJ18.out; have := HK5.out; omega
                                            case rel => exact ⟨(((rd_T33 l0 x31_3).f2)), (x10_5), (x11_5), (((rd_T33 l0 x31_3).f0)), (wrap64 (x31_3 + 1)), (by first | rfl | (simp; done) | (simp [*]; done)), (by first | rfl | (simp; done) | (simp [*]; done)), (by first | rfl | (simp; done) | (simp [*]; done)), (by first | rfl | (simp; done) | (simp [*]; done)), H', ⟨by have := HJ4.out; have := HJ7.out; have := HK3.out; have := HJ18.out; have := HK5.out; omega⟩, ⟨by (with_reducible repeat (first | apply Kd.R_alloc | apply Kd.R_drewN | apply Kd.R_drew)); exact HO_10.out⟩, ⟨by repeat (first | (with_reducible first | exact HB.out | apply below_alloc | apply pw_below_drewN | apply below_drew1 | refine below_set ?_ GE139.out) | exact HB.out)⟩⟩
                            · rw [if_neg c18] at H
                              have c18b0 : (((rd_T33 l0 x31_3).f1).toList == a1.toList) = false := beq_eq_false_iff_ne.mpr c18
                              have c18b1 : (((rd_T33 l0 x31_3).f1).toList != a1.toList) = true := bne_iff_ne.mpr c18
                              have H' := Aside0.mk H
                              clear H
                              have p138 : 0 ≤ (x31_3 : Int) := of_decide_eq_true (by first | (with_reducible assumption) | assumption)
                              have q138 : x31_3 < (l0.length : Int) := of_decide_eq_true (by first | (with_reducible assumption) | assumption)
                              obtain ⟨ad138, e138, hx138_0, hx138_1, hx138_2⟩ := at_T33 HR0.out x31_3 p138 q138
                              cases e138
                              replace hx138_0 := (HB.out.cell (World.block_lt_of_cell? w _ hx138_0)).trans hx138_0
                              replace hx138_1 := (HB.out.cell (World.block_lt_of_cell? w _ hx138_1)).trans hx138_1
                              replace hx138_2 := (HB.out.cell (World.block_lt_of_cell? w _ hx138_2)).trans hx138_2
                              replace p138 := eq_true p138
                              replace q138 := eq_true q138
                              go_wp2_with (first | ((with_reducible refine gate_dst (N := 14) rfl ?_); refine box_event ?hg (N := 14) ?hd (cs := #[.int .i64 0, .string (⟨#[]⟩ : ByteArray), .int .i64 0]) (t := 33) ?hr ?_; (case hd => rfl); (case hg => rfl); (case hr => first | (go_simp; done) | (go_simp; rfl)); intro gb139 hg w41 hbox hb; have n0_ := Aside0.mk (Kd.R_below (by (with_reducible repeat (first | apply Kd.R_alloc | apply Kd.R_drewN | apply Kd.R_drew)); exact HO_10.out) hb); have n1_ := Aside0.mk (below_step (by repeat (first | (with_reducible first | exact HB.out | apply below_alloc | apply pw_below_drewN | apply below_drew1) | exact HB.out)) hb); have n2_ := Aside0.mk (hbox); have n3_ := Aside0.mk ((by rw [hg]; exact (below_size (by repeat (first | (with_reducible first | exact HB.out | apply below_alloc | apply pw_below_drewN | apply below_drew1) | exact HB.out))) : w.heap.size ≤ gb139)); have n4_ := Aside0.mk ((by rw [hg]; exact (below_size (by repeat (first | (with_reducible first | exact HB.out | apply below_alloc | apply pw_below_drewN | apply below_drew1) | exact HB.out))) : w.heap.size ≤ gb139)); clear HO_10; clear HB; have HO_10 := n0_; have HB := n1_; have BK139 := n2_; have GW139 := n3_; have GE139 := n4_; clear n0_ n1_ n2_ n3_ n4_; clear hb hbox hg; have hcz42_0 : w41.cell? ⟨gb139, 0, none⟩ = some (.int .i64 0) := (blk_cell BK139.out 0).trans rfl; have hcz42_1 : w41.cell? ⟨gb139, 1, none⟩ = some (.string (⟨#[]⟩ : ByteArray)) := (blk_cell BK139.out 1).trans rfl; have hcz42_2 : w41.cell? ⟨gb139, 2, none⟩ = some (.int .i64 0) := (blk_cell BK139.out 2).trans rfl; have hfz42_0 := blk_frozen BK139.out 0; have hfz42_1 := blk_frozen BK139.out 1; have hfz42_2 := blk_frozen BK139.out 2))
                              go_roundg k3
                              case measure => have := HJ4.out; have := HJ7.out; have := HK3.out; omega
                              case rel => exact ⟨(x2_3), (x10_3), (x11_3), (x12_3), (wrap64 (x31_3 + 1)), (by first | rfl | (simp; done) | (simp [*]; done)), (by first | rfl | (simp; done) | (simp [*]; done)), (by first | rfl | (simp; done) | (simp [*]; done)), (by first | rfl | (simp; done) | (simp [*]; done)), H', ⟨by have := HJ4.out; have := HJ7.out; have := HK3.out; omega⟩, ⟨by (with_reducible repeat (first | apply Kd.R_alloc | apply Kd.R_drewN | apply Kd.R_drew)); exact Kd.R_mono (Kd.R_far (p := ⟨gb139, 2, none⟩) (Kd.R_far (p := ⟨gb139, 1, none⟩) (Kd.R_far (p := ⟨gb139, 0, none⟩) (Kd.R_types HO_10.out BK139.out (by decide)) (fun _ hk => hk.2) (.int .i64 ((rd_T33 l0 x31_3).f0))) (fun _ hk => hk.2) (.string ((rd_T33 l0 x31_3).f1))) (fun _ hk => hk.2) (.int .i64 ((rd_T33 l0 x31_3).f2))) (fun _ hk => trivial)⟩, ⟨by repeat (first | (with_reducible first | exact HB.out | apply below_alloc | apply pw_below_drewN | apply below_drew1 | refine below_set ?_ GE139.out) | exact HB.out)⟩⟩
                          · rw [if_neg c17] at H
                            exact absurd H (by simp)
                        · rw [if_neg c16] at H
                          exact absurd H (by simp)
                      · rw [if_neg c15] at H
                        have c15b0 : decide (x31_3 < (l0.length : Int)) = false := decide_eq_false c15
                        clear c15
                        have H' := Aside0.mk H
                        clear H
                        go_wp2
                        go_loopg [11] k3 (fun kq v11 w' => ∃ (x10_4 : List Int) (x11_4 : Int), v11 = .int .i64 x11_4 ∧ Aside0 (samp_Of.l2 kq x2_3 a3 x10_4 x11_4 = some (r1, r2)) ∧ Aside0 (kq ≤ k3) ∧ Aside0 (Kd.R (Kd.int .i64) 3 w' w.heap.size (fun _ => True) v136 x10_4) ∧ Aside0 (Below w.heap.size w w'))
                        case atStart => exact ⟨(x10_3), (x11_3), (by first | rfl | (simp; done) | (simp [*]; done)), H', ⟨Nat.le_refl _⟩, ⟨by (with_reducible repeat (first | apply Kd.R_alloc | apply Kd.R_drewN | apply Kd.R_drew)); exact HO_10.out⟩, ⟨by repeat (first | (with_reducible first | exact HB.out | apply below_alloc | apply pw_below_drewN | apply below_drew1) | exact HB.out)⟩⟩
                        case round =>
                          clear H'
                          try clear c1
                          try clear p1
                          try clear q1
                          try clear hx1
                          try clear c2
                          try clear p2
                          try clear c3
                          try clear p3
                          try clear q3
                          try clear hx3
                          try clear c6
                          try clear c6b0
                          try clear p6
                          try clear c7
                          try clear c9
                          try clear c9b0
                          try clear c10
                          try clear c11
                          try clear c11b0
                          try clear c11b1
                          try clear c12
                          try clear c12b0
                          try clear c12b1
                          try clear p13
                          try clear q13
                          try clear hx13
                          try clear c15
                          try clear c15b0
                          try clear c16
                          try clear c16b0
                          try clear c17
                          try clear c17b0
                          try clear c18
                          try clear c18b0
                          try clear c18b1
                          try clear c19
                          try clear c22
                          try clear c22b0
                          try clear c24
                          try clear c24b0
                          try clear c27
                          try clear c28
                          try clear c28b0
                          try clear c31
                          try clear c31b0
                          try clear c32
                          try clear c32b0
                          try clear c33
                          try clear c33b0
                          try clear c34
                          try clear c34b0
                          try clear p35
                          try clear q35
                          try clear hx35
                          try clear hf35
                          try clear hcz21_0
                          try clear hcz21_1
                          try clear hcz21_2
                          try clear hcz23_0
                          try clear hcz23_1
                          try clear hcz23_2
                          try clear hcz25_0
                          try clear hcz25_1
                          try clear hcz25_2
                          try clear hcz26_0
                          try clear hcz26_1
                          try clear hcz26_2
                          try clear hcz29_0
                          try clear hcz29_1
                          try clear hcz29_2
                          try clear hcz30_0
                          try clear hcz30_1
                          try clear hcz30_2
                          try clear hcz36_0
                          try clear hcz36_1
                          try clear hcz36_2
                          try clear hcz39_0
                          try clear hcz39_1
                          try clear hcz39_2
                          try clear hcz40_0
                          try clear hcz40_1
                          try clear hcz40_2
                          try clear hcz42_0
                          try clear hcz42_1
                          try clear hcz42_2
                          try clear hfz21_0
                          try clear hfz21_1
                          try clear hfz21_2
                          try clear hfz23_0
                          try clear hfz23_1
                          try clear hfz23_2
                          try clear hfz25_0
                          try clear hfz25_1
                          try clear hfz25_2
                          try clear hfz26_0
                          try clear hfz26_1
                          try clear hfz26_2
                          try clear hfz29_0
                          try clear hfz29_1
                          try clear hfz29_2
                          try clear hfz30_0
                          try clear hfz30_1
                          try clear hfz30_2
                          try clear hfz36_0
                          try clear hfz36_1
                          try clear hfz36_2
                          try clear hfz39_0
                          try clear hfz39_1
                          try clear hfz39_2
                          try clear hfz40_0
                          try clear hfz40_1
                          try clear hfz40_2
                          try clear hfz42_0
                          try clear hfz42_1
                          try clear hfz42_2
                          try clear hx138_0
                          try clear hx138_1
                          try clear hx138_2
                          try clear hx35_0
                          try clear p1
                          try clear p13
                          try clear p138
                          try clear p2
                          try clear p35
                          try clear q1
                          try clear q13
                          try clear q138
                          try clear q35
                          obtain ⟨x10_4, x11_4, rfl, HA, HK4, HO_10, HB⟩ := hrel
                          cases gk with
                          | zero => exact absurd HA.out (by simp [samp_Of.l2])
                          | succ k4 =>
                            have H := HA.out
                            clear HA
                            simp only [samp_Of.l2] at H
                            by_cases c43 : x11_4 < a3
                            · rw [if_pos c43] at H
                              have c43b0 : decide (x11_4 < a3) = true := decide_eq_true c43
                              clear c43
                              by_cases c44 : 0 ≤ x11_4
                              · rw [if_pos c44] at H
                                have c44b0 : decide (0 ≤ x11_4) = true := decide_eq_true c44
                                clear c44
                                by_cases c45 : x11_4 < (x10_4.length : Int)
                                · rw [if_pos c45] at H
                                  have c45b0 : decide (x11_4 < (x10_4.length : Int)) = true := decide_eq_true c45
                                  clear c45
                                  obtain ⟨y141, hy141⟩ : ∃ y_ : List Int, y_ = (x10_4.set (x11_4 : Int).toNat x2_3) := ⟨_, rfl⟩
                                  replace H : (samp_Of.l2 k4 x2_3 a3 y141 (wrap64 (x11_4 + 1))) = some (r1, r2) := by first | (rw [hy141]; with_reducible exact H) | (have H2_ := (Option.bind_some _ _).symm.trans H; rw [hy141]; with_reducible exact H2_) | (have H2_ := (Option.bind_some _ _).symm.trans H; with_reducible exact H2_) | with_reducible exact H | (rw [hy141]; exact H) | exact H
                                  have Ny141 := Aside0.mk hy141
                                  clear hy141
                                  have H' := Aside0.mk H
                                  clear H
                                  have p46 : 0 ≤ (x11_4 : Int) := of_decide_eq_true (by first | (with_reducible assumption) | assumption)
                                  have q46 : (x11_4 : Int) < ((x10_4.length : Int) : Int) := of_decide_eq_true (by first | (with_reducible assumption) | assumption)
                                  obtain ⟨go46, co46, eo46, gb46, gl46, cl46, HG46⟩ := Kd.R_form HO_10.out (by omega)
                                  (first | cases eo46 | (injection eo46 with ea_ en_ ec_; (first | subst ea_ | (injection ea_ with ea_; subst ea_)); subst ec_; clear en_))
                                  have GB46 := Aside0.mk gb46
                                  have GG46 := Aside0.mk HG46
                                  clear gb46 gl46 HG46
                                  obtain ⟨hx46_0, hf46_0⟩ := Kd.R_celln 0 HO_10.out (x11_4 : Int) p46 q46
                                  replace p46 := eq_true p46
                                  replace q46 := eq_true q46
                                  have HP47 := Kd.R_putg HO_10.out (x11_4 : Int) x2_3
                                  go_wp2_with (first | ((with_reducible refine gate_store (t := 3) (p := 84) rfl ?_); refine store_event (t := 3) (p := 84) (v := ?vo_w48) (w1 := (wr.setCell ⟨go46, (x11_4 : Int).toNat, none⟩ (.int .i64 x2_3))) ?hg ?ho ?hn ?hr ?_; (case ho => rfl); (case hg => rfl); (case hn => rfl); (case hr => first | (go_simp; done) | (go_simp; rfl)); intro w48 hw; have hg : wr.grownBy w48 (some go46) := (by rw [hw]; exact HP47.2); have hp_ : Kd.R (Kd.int .i64) 3 w48 w.heap.size (fun _ => True) (.slice (some ⟨go46, 0, none⟩) x10_4.length co46) y141 := (by rw [hw, Ny141.out]; exact HP47.1); clear HP47; have n0_ := Aside0.mk (hp_); have n1_ := Aside0.mk ((by rw [hw]; exact below_set (HB.out) GB46.out : Below w.heap.size w w48)); clear HO_10; clear HB; have HO_10 := n0_; have HB := n1_; clear n0_ n1_; clear hg hw hp_))
                                  go_roundg k4
                                  case measure => have := HJ4.out; have := HJ7.out; have := HK3.out; have := HK4.out; omega
                                  case rel => exact ⟨(y141), (wrap64 (x11_4 + 1)), (by first | rfl | (simp; done) | (simp [*]; done)), H', ⟨by have := HJ4.out; have := HJ7.out; have := HK3.out; have := HK4.out; omega⟩, ⟨by (with_reducible repeat (first | apply Kd.R_alloc | apply Kd.R_drewN | apply Kd.R_drew)); exact HO_10.out⟩, ⟨by repeat (first | (with_reducible first | exact HB.out | apply below_alloc | apply pw_below_drewN | apply below_drew1) | exact HB.out)⟩⟩
                                · rw [if_neg c45] at H
                                  exact absurd H (by simp)
                              · rw [if_neg c44] at H
                                exact absurd H (by simp)
                            · rw [if_neg c43] at H
                              have c43b0 : decide (x11_4 < a3) = false := decide_eq_false c43
                              clear c43
                              simp only [Option.some.injEq, Prod.mk.injEq] at H
                              obtain ⟨rfl, rfl⟩ := H
                              go_wp2
                              go_ret2
                              exact ⟨_, by first | rfl | (simp [errW_none, errW_some] <;> rfl) | (simp [*, errW_none, errW_some] <;> rfl), by (with_reducible repeat (first | apply Kd.R_alloc | apply Kd.R_drewN | apply Kd.R_drew)); exact HO_10.out, by repeat (first | (with_reducible first | exact HB.out | apply below_alloc | apply pw_below_drewN | apply below_drew1) | exact HB.out)⟩
                · rw [if_neg c12] at H
                  exact absurd H (by simp)
              · rw [if_neg c11] at H
                exact absurd H (by simp)

end Go.Proofs.Ytimkpdbghbhkkaa.QS
