-- Printed by a program of this session (wip/tools): Lean functions for Go functions, and their contracts.
import Derived.Test.YtimkpdbghbhkkaaQMx0
namespace Go.Proofs.Ytimkpdbghbhkkaa.QM
open Go.RowKit Go.Proofs.YtimkpdbghbhkkaaW.PrintWords Go.Proofs.YtimkpdbghbhkkaaW.PrintLast Go.Proofs.YtimkpdbghbhkkaaW.PrintMore
attribute [local go_sem] max2_int min2_int max_two min_two max_three min_three max_four min_four   -- for this text's walks alone
set_option linter.unusedVariables false
set_option linter.unusedSimpArgs false

/-! ### samp_Resample_1_136: function 136 -/
def samp_Resample_1_136.f (a0 : Int) (a1_0 : Int) (a2_0 : Int) (l3_0 : List Int) (l4_0 : List Int) : Option (Int) := if a2_0 = 0 then (none) else (if (Int.tmod (wrap64 (a0 * a1_0)) a2_0) = 0 then (if 0 ≤ (wrap64 (Int.tdiv (wrap64 (a0 * a1_0)) a2_0)) then (if (wrap64 (Int.tdiv (wrap64 (a0 * a1_0)) a2_0)) < (l3_0.length : Int) then (some (rd l3_0 (wrap64 (Int.tdiv (wrap64 (a0 * a1_0)) a2_0)))) else (none)) else (none)) else (if 0 ≤ (wrap64 (Int.tdiv (wrap64 (a0 * a1_0)) a2_0)) then (if (wrap64 (Int.tdiv (wrap64 (a0 * a1_0)) a2_0)) < (l3_0.length : Int) then (if (wrap64 (Int.tdiv (wrap64 (a0 * a1_0)) a2_0)) < (l4_0.length : Int) then (some (wrap64 ((rd l3_0 (wrap64 (Int.tdiv (wrap64 (a0 * a1_0)) a2_0))) + (wrap64 (Int.tdiv (wrap64 ((Int.tmod (wrap64 (a0 * a1_0)) a2_0) * (rd l4_0 (wrap64 (Int.tdiv (wrap64 (a0 * a1_0)) a2_0))))) a2_0))))) else (none)) else (none)) else (none)))
set_option maxHeartbeats 8000000 in
set_option maxRecDepth 100000 in
theorem samp_Resample_1_136.calls (a0 : Int) (g1_ : Nat) (a1_0 : Int) (g2_ : Nat) (a2_0 : Int) (g3_ : Nat) (A3_0 : Option Addr) (c3_0 : Nat) (l3_0 : List Int) (g4_ : Nat) (A4_0 : Option Addr) (c4_0 : Nat) (l4_0 : List Int) (r : Int) (w : World) (hb1 : w.heap[g1_]? = some (.cells #[.int .i64 a1_0] 3 (0, 0))) (hb2 : w.heap[g2_]? = some (.cells #[.int .i64 a2_0] 3 (0, 0))) (hr3_0 : Kd.C (Kd.int .i64) w A3_0 l3_0.length l3_0) (hc3_0 : l3_0.length ≤ c3_0) (hb3 : w.heap[g3_]? = some (.cells #[.slice A3_0 l3_0.length c3_0] 22 (0, 0))) (hr4_0 : Kd.C (Kd.int .i64) w A4_0 l4_0.length l4_0) (hc4_0 : l4_0.length ≤ c4_0) (hb4 : w.heap[g4_]? = some (.cells #[.slice A4_0 l4_0.length c4_0] 22 (0, 0))) (h : samp_Resample_1_136.f a0 a1_0 a2_0 l3_0 l4_0 = some r) :
    Calls Try.prog 84 #[.int .i64 a0, .pointer (some ⟨g1_, 0, none⟩), .pointer (some ⟨g2_, 0, none⟩), .pointer (some ⟨g3_, 0, none⟩), .pointer (some ⟨g4_, 0, none⟩)] w fun e w' => e = .returned (.int .i64 r) ∧ Drawn0 w w' := by
  have HR3_0 := Aside0.mk hr3_0
  have HC3_0 := Aside0.mk hc3_0
  clear hr3_0 hc3_0
  have HR4_0 := Aside0.mk hr4_0
  have HC4_0 := Aside0.mk hc4_0
  clear hr4_0 hc4_0
  have hcp1_0 : w.cell? ⟨g1_, 0, none⟩ = some (.int .i64 a1_0) := (blk_cell hb1 0).trans rfl
  have HBC1 := Aside0.mk hb1
  clear hb1
  have hcp2_0 : w.cell? ⟨g2_, 0, none⟩ = some (.int .i64 a2_0) := (blk_cell hb2 0).trans rfl
  have HBC2 := Aside0.mk hb2
  clear hb2
  have hcp3_0 : w.cell? ⟨g3_, 0, none⟩ = some (.slice A3_0 l3_0.length c3_0) := (blk_cell hb3 0).trans rfl
  have HBC3 := Aside0.mk hb3
  clear hb3
  have hcp4_0 : w.cell? ⟨g4_, 0, none⟩ = some (.slice A4_0 l4_0.length c4_0) := (blk_cell hb4 0).trans rfl
  have HBC4 := Aside0.mk hb4
  clear hb4
  have H : (if a2_0 = 0 then (none) else (if (Int.tmod (wrap64 (a0 * a1_0)) a2_0) = 0 then (if 0 ≤ (wrap64 (Int.tdiv (wrap64 (a0 * a1_0)) a2_0)) then (if (wrap64 (Int.tdiv (wrap64 (a0 * a1_0)) a2_0)) < (l3_0.length : Int) then (some (rd l3_0 (wrap64 (Int.tdiv (wrap64 (a0 * a1_0)) a2_0)))) else (none)) else (none)) else (if 0 ≤ (wrap64 (Int.tdiv (wrap64 (a0 * a1_0)) a2_0)) then (if (wrap64 (Int.tdiv (wrap64 (a0 * a1_0)) a2_0)) < (l3_0.length : Int) then (if (wrap64 (Int.tdiv (wrap64 (a0 * a1_0)) a2_0)) < (l4_0.length : Int) then (some (wrap64 ((rd l3_0 (wrap64 (Int.tdiv (wrap64 (a0 * a1_0)) a2_0))) + (wrap64 (Int.tdiv (wrap64 ((Int.tmod (wrap64 (a0 * a1_0)) a2_0) * (rd l4_0 (wrap64 (Int.tdiv (wrap64 (a0 * a1_0)) a2_0))))) a2_0))))) else (none)) else (none)) else (none)))) = some r := h
  clear h
  by_cases c6 : a2_0 = 0
  · rw [if_pos c6] at H
    exact absurd H (by simp)
  · rw [if_neg c6] at H
    have c6b0 : (a2_0 == 0) = false := beq_eq_false_iff_ne.mpr c6
    have c6b1 : (a2_0 != 0) = true := bne_iff_ne.mpr c6
    by_cases c7 : (Int.tmod (wrap64 (a0 * a1_0)) a2_0) = 0
    · rw [if_pos c7] at H
      have c7b0 : ((Int.tmod (wrap64 (a0 * a1_0)) a2_0) == 0) = true := beq_iff_eq.mpr c7
      have c7b1 : ((Int.tmod (wrap64 (a0 * a1_0)) a2_0) != 0) = false := bne_eq_false_iff_eq.mpr c7
      clear c7
      obtain ⟨ji8, hji8⟩ : ∃ j_ : Int, (wrap64 (Int.tdiv (wrap64 (a0 * a1_0)) a2_0)) = j_ := ⟨_, rfl⟩
      replace H : (if 0 ≤ (ji8) then (if (ji8) < (l3_0.length : Int) then (some (rd l3_0 (ji8))) else (none)) else (none)) = some r := by first | (rw [hji8] at H; exact H) | (simp only [hji8] at H ⊢; exact H)
      have hji8w : (IntKind.i64.wrap (Int.tdiv (wrap64 (a0 * a1_0)) a2_0)) = ji8 := (i64_w _).trans hji8
      by_cases c9 : 0 ≤ (ji8)
      · rw [if_pos c9] at H
        have c9b0 : decide (0 ≤ (ji8)) = true := decide_eq_true c9
        clear c9
        by_cases c10 : (ji8) < (l3_0.length : Int)
        · rw [if_pos c10] at H
          have c10b0 : decide ((ji8) < (l3_0.length : Int)) = true := decide_eq_true c10
          clear c10
          obtain rfl := Option.some.inj H
          have p111 : 0 ≤ ((ji8) : Int) := of_decide_eq_true (by first | (with_reducible assumption) | assumption)
          have q111 : (ji8) < (l3_0.length : Int) := of_decide_eq_true (by first | (with_reducible assumption) | assumption)
          obtain ⟨ad111, e111, hx111_0⟩ := Kd.at_int HR3_0.out (ji8) p111 q111
          cases e111
          replace p111 := eq_true p111
          replace q111 := eq_true q111
          go_enter Try.func84, Try.ntmps84
          go_wp2
          repeat (go_quiet (fail); try go_wp2)
          go_ret
          exact ⟨by first | rfl | (simp; done) | (simp only [← hji8] <;> (first | rfl | simp)) | (simp [*]; done), by repeat (first | exact Drawn0.refl _ | apply Drawn0.step)⟩
        · rw [if_neg c10] at H
          exact absurd H (by simp)
      · rw [if_neg c9] at H
        exact absurd H (by simp)
    · rw [if_neg c7] at H
      have c7b0 : ((Int.tmod (wrap64 (a0 * a1_0)) a2_0) == 0) = false := beq_eq_false_iff_ne.mpr c7
      have c7b1 : ((Int.tmod (wrap64 (a0 * a1_0)) a2_0) != 0) = true := bne_iff_ne.mpr c7
      obtain ⟨ji11, hji11⟩ : ∃ j_ : Int, (wrap64 (Int.tdiv (wrap64 (a0 * a1_0)) a2_0)) = j_ := ⟨_, rfl⟩
      replace H : (if 0 ≤ (ji11) then (if (ji11) < (l3_0.length : Int) then (if (ji11) < (l4_0.length : Int) then (some (wrap64 ((rd l3_0 (ji11)) + (wrap64 (Int.tdiv (wrap64 ((Int.tmod (wrap64 (a0 * a1_0)) a2_0) * (rd l4_0 (ji11)))) a2_0))))) else (none)) else (none)) else (none)) = some r := by first | (rw [hji11] at H; exact H) | (simp only [hji11] at H ⊢; exact H)
      have hji11w : (IntKind.i64.wrap (Int.tdiv (wrap64 (a0 * a1_0)) a2_0)) = ji11 := (i64_w _).trans hji11
      by_cases c12 : 0 ≤ (ji11)
      · rw [if_pos c12] at H
        have c12b0 : decide (0 ≤ (ji11)) = true := decide_eq_true c12
        clear c12
        by_cases c13 : (ji11) < (l3_0.length : Int)
        · rw [if_pos c13] at H
          have c13b0 : decide ((ji11) < (l3_0.length : Int)) = true := decide_eq_true c13
          clear c13
          by_cases c14 : (ji11) < (l4_0.length : Int)
          · rw [if_pos c14] at H
            have c14b0 : decide ((ji11) < (l4_0.length : Int)) = true := decide_eq_true c14
            clear c14
            obtain rfl := Option.some.inj H
            have p112 : 0 ≤ ((ji11) : Int) := of_decide_eq_true (by first | (with_reducible assumption) | assumption)
            have q112 : (ji11) < (l3_0.length : Int) := of_decide_eq_true (by first | (with_reducible assumption) | assumption)
            obtain ⟨ad112, e112, hx112_0⟩ := Kd.at_int HR3_0.out (ji11) p112 q112
            cases e112
            replace p112 := eq_true p112
            replace q112 := eq_true q112
            have p113 : 0 ≤ ((ji11) : Int) := of_decide_eq_true (by first | (with_reducible assumption) | assumption)
            have q113 : (ji11) < (l4_0.length : Int) := of_decide_eq_true (by first | (with_reducible assumption) | assumption)
            obtain ⟨ad113, e113, hx113_0⟩ := Kd.at_int HR4_0.out (ji11) p113 q113
            cases e113
            replace p113 := eq_true p113
            replace q113 := eq_true q113
            go_enter Try.func84, Try.ntmps84
            go_wp2
            repeat (go_quiet (fail); try go_wp2)
            go_ret
            exact ⟨by first | rfl | (simp; done) | (simp only [← hji11] <;> (first | rfl | simp)) | (simp [*]; done), by repeat (first | exact Drawn0.refl _ | apply Drawn0.step)⟩
          · rw [if_neg c14] at H
            exact absurd H (by simp)
        · rw [if_neg c13] at H
          exact absurd H (by simp)
      · rw [if_neg c12] at H
        exact absurd H (by simp)

end Go.Proofs.Ytimkpdbghbhkkaa.QM
