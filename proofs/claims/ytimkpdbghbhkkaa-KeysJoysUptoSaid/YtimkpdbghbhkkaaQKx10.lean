-- Printed by a program of this session (wip/tools): Lean functions for Go functions, and their contracts.
import Derived.Test.YtimkpdbghbhkkaaQKx0
import Derived.Test.YtimkpdbghbhkkaaQKx8
import Derived.Test.YtimkpdbghbhkkaaQKx9
namespace Go.Proofs.Ytimkpdbghbhkkaa.QK
open Go.RowKit Go.Proofs.YtimkpdbghbhkkaaW.PrintWords Go.Proofs.YtimkpdbghbhkkaaW.PrintLast Go.Proofs.YtimkpdbghbhkkaaW.PrintMore
attribute [local go_sem] max2_int min2_int max_two min_two max_three min_three max_four min_four   -- for this text's walks alone
set_option linter.unusedVariables false
set_option linter.unusedSimpArgs false

/-! ### bakelaw3_typed: function 26 -/
def bakelaw3_typed.f (k : Nat)  : Option (Bool) := (keys_Board.f k (⟨#[112]⟩ : ByteArray) (([(⟨5, 1, true⟩ : S55), (⟨9, 1, false⟩ : S55)] : List (S55)))).bind fun bt165 => (if bt165.2 = 0 then ((api_Input.f k bt165.1 (([(⟨5, (⟨#[112]⟩ : ByteArray), 2⟩ : S47), (⟨9, (⟨#[112]⟩ : ByteArray), 0⟩ : S47)] : List (S47)))).bind fun t172 => (some t172)) else (some false))
theorem bakelaw3_typed.mono : ∀ k, LeO (bakelaw3_typed.f k ) (bakelaw3_typed.f (k + 1) ) := by
  intro  k
  unfold bakelaw3_typed.f
  repeat' first
      | (with_reducible exact api_Input.mono _ _ _)
      | (with_reducible exact keys_Board.mono _ _ _)
      | (with_reducible exact LeO.refl _)
      | (with_reducible exact LeO.none _)
      | (with_reducible refine LeO.ite ?_ ?_)
      | (with_reducible refine LeO.bind ?_ (fun _ => ?_))
      | exact api_Input.mono _ _ _
      | exact keys_Board.mono _ _ _
      | exact LeO.none _
      | refine LeO.ite ?_ ?_
      | refine LeO.bind ?_ (fun _ => ?_)
set_option maxHeartbeats 8000000 in
set_option maxRecDepth 100000 in
theorem bakelaw3_typed.calls (k : Nat)  (r : Bool) (w : World) (h : bakelaw3_typed.f k  = some r) :
    Calls Try.prog 26 #[] w fun e w' => e = .returned (.bool r) ∧ Below w.heap.size w w' := by
  have hu55 := Try.underlying55
  have hu47 := Try.underlying47
  have HB := Aside0.mk (Below.refl w.heap.size w)
  have H : ((keys_Board.f k (⟨#[112]⟩ : ByteArray) (([(⟨5, 1, true⟩ : S55), (⟨9, 1, false⟩ : S55)] : List (S55)))).bind fun bt165 => (if bt165.2 = 0 then ((api_Input.f k bt165.1 (([(⟨5, (⟨#[112]⟩ : ByteArray), 2⟩ : S47), (⟨9, (⟨#[112]⟩ : ByteArray), 0⟩ : S47)] : List (S47)))).bind fun t172 => (some t172)) else (some false))) = some r := h
  clear h
  obtain ⟨y162, hy162⟩ : ∃ y_ : List (S55), y_ = (([(⟨5, 1, true⟩ : S55), (⟨9, 1, false⟩ : S55)] : List (S55))) := ⟨_, rfl⟩
  replace H : ((keys_Board.f k (⟨#[112]⟩ : ByteArray) y162).bind fun bt165 => (if bt165.2 = 0 then ((api_Input.f k bt165.1 (([(⟨5, (⟨#[112]⟩ : ByteArray), 2⟩ : S47), (⟨9, (⟨#[112]⟩ : ByteArray), 0⟩ : S47)] : List (S47)))).bind fun t172 => (some t172)) else (some false))) = some r := by first | (rw [hy162]; with_reducible exact H) | (have H2_ := (Option.bind_some _ _).symm.trans H; rw [hy162]; with_reducible exact H2_) | (have H2_ := (Option.bind_some _ _).symm.trans H; with_reducible exact H2_) | with_reducible exact H | (rw [hy162]; exact H) | exact H
  have Ny162 := Aside0.mk hy162
  clear hy162
  replace H := Option.bind_eq_some_iff.mp H
  obtain ⟨⟨t165, t166⟩, A10, H⟩ := H
  replace H : (if t166 = 0 then ((api_Input.f k t165 (([(⟨5, (⟨#[112]⟩ : ByteArray), 2⟩ : S47), (⟨9, (⟨#[112]⟩ : ByteArray), 0⟩ : S47)] : List (S47)))).bind fun t172 => (some t172)) else (some false)) = some r := H
  have A1 := Aside0.mk A10
  clear A10
  by_cases c2 : t166 = 0
  · rw [if_pos c2] at H
    have c2b0 : (t166 == 0) = true := beq_iff_eq.mpr c2
    have c2b1 : (t166 != 0) = false := bne_eq_false_iff_eq.mpr c2
    clear c2
    obtain ⟨y169, hy169⟩ : ∃ y_ : List (S47), y_ = (([(⟨5, (⟨#[112]⟩ : ByteArray), 2⟩ : S47), (⟨9, (⟨#[112]⟩ : ByteArray), 0⟩ : S47)] : List (S47))) := ⟨_, rfl⟩
    replace H : ((api_Input.f k t165 y169).bind fun t172 => (some t172)) = some r := by first | (rw [hy169]; with_reducible exact H) | (have H2_ := (Option.bind_some _ _).symm.trans H; rw [hy169]; with_reducible exact H2_) | (have H2_ := (Option.bind_some _ _).symm.trans H; with_reducible exact H2_) | with_reducible exact H | (rw [hy169]; exact H) | exact H
    have Ny169 := Aside0.mk hy169
    clear hy169
    replace H := Option.bind_eq_some_iff.mp H
    obtain ⟨t172, A30, H⟩ := H
    replace H : (some t172) = some r := H
    have A3 := Aside0.mk A30
    clear A30
    obtain rfl := Option.some.inj H
    go_enter Try.func26, Try.ntmps26
    go_wp2_with (first | ((with_reducible refine gate_dst (N := 6) rfl ?_); (try (refine gate_guard (by rfl) ?_; dsimp only)); refine Kd.R_lit k55 _ 55 ?hg (N := 6) ?hd (xs := ([(⟨5, 1, true⟩ : S55), (⟨9, 1, false⟩ : S55)] : List (S55))) (inner := [.int .i64 5, .int .i64 1, .bool true, .int .i64 9, .int .i64 1, .bool false]) (ok := fun _ => True) (okp := fun _ => True) ?hr ?hp (fun _ hk => hk) trivial (Below.refl _ _) (Nat.le_refl _) (by simp) ?_; (case hd => rfl); (case hg => rfl); (case hr => first | (go_simp; done) | (go_simp; rfl)); (case hp => exact (Reps.c3 (show Kd.M k55 _ _ _ (⟨5, 1, true⟩ : S55) [.int .i64 5, .int .i64 1, .bool true] from (k55_mkM _ _ _ (⟨5, 1, true⟩ : S55) )) (Reps.c3 (show Kd.M k55 _ _ _ (⟨9, 1, false⟩ : S55) [.int .i64 9, .int .i64 1, .bool false] from (k55_mkM _ _ _ (⟨9, 1, false⟩ : S55) )) (Reps.none _ _)))); intro v163 w4 ho5 hb hg_ hnew_; clear hg_ hnew_; (first | rw [← Ny162.out] at ho5 | (simp only [Int.reduceToNat] at ho5; rw [← Ny162.out] at ho5)); have n0_ := Aside0.mk (Kd.R_lower ho5 (below_size (by repeat (first | (with_reducible first | exact HB.out | apply below_alloc | apply pw_below_drewN | apply below_drew1) | exact HB.out)))); have n1_ := Aside0.mk (below_step (by repeat (first | (with_reducible first | exact HB.out | apply below_alloc | apply pw_below_drewN | apply below_drew1) | exact HB.out)) hb); clear HB; have HO164 := n0_; have HB := n1_; clear n0_ n1_; clear hb ho5; obtain ⟨Ao6, co6, eo6⟩ := Kd.R_slice HO164.out; subst eo6) | ((with_reducible refine gate_callee (f := 31) rfl ?_); refine goesL_ (some 7) rfl rfl Try.func31 (by kernel_rfl) rfl #[.string (⟨#[112]⟩ : ByteArray), .slice Ao6 y162.length co6] rfl (by (try simp only [List.map_toArray, List.map_cons, List.map_nil]); first | done | rfl | (simp only [List.length_drop, List.length_take]; rfl)) ?_; (with_reducible refine (keys_Board.calls k (⟨#[112]⟩ : ByteArray) _ _ y162 t165 t166 _ ?side1 ?side2 A1.out).mono ?_); (case side1 => repeat (first | exact (Kd.R_reads' HO164.out).2.2 | (with_reducible refine Kd.C_alloc ?_ _) | (with_reducible refine Kd.C_drewN ?_ _) | (with_reducible refine Kd.C_drew ?_))); (case side2 => exact (Kd.R_reads' HO164.out).2.1); rintro e w7 ⟨v167, rfl, ho0, hb⟩; refine ⟨_, rfl, ?_⟩; have n0_ := Aside0.mk (Kd.R_below (by (with_reducible repeat (first | apply Kd.R_alloc | apply Kd.R_drewN | apply Kd.R_drew)); exact HO164.out) hb); have n1_ := Aside0.mk (Kd.R_lower ho0 (below_size (by repeat (first | (with_reducible first | exact HB.out | apply below_alloc | apply pw_below_drewN | apply below_drew1) | exact HB.out)))); have n2_ := Aside0.mk (below_step (by repeat (first | (with_reducible first | exact HB.out | apply below_alloc | apply pw_below_drewN | apply below_drew1) | exact HB.out)) hb); clear HO164; clear HB; have HO164 := n0_; have HO168 := n1_; have HB := n2_; clear n0_ n1_ n2_; (try clear hb); (try clear hb2); (try clear hk); (try clear hi); (try clear ho0)) | ((with_reducible refine gate_dst (N := 16) rfl ?_); (try (refine gate_guard (by rfl) ?_; dsimp only)); refine Kd.R_lit k47 _ 47 ?hg (N := 16) ?hd (xs := ([(⟨5, (⟨#[112]⟩ : ByteArray), 2⟩ : S47), (⟨9, (⟨#[112]⟩ : ByteArray), 0⟩ : S47)] : List (S47))) (inner := [.int .i64 5, .string (⟨#[112]⟩ : ByteArray), .int .i64 2, .int .i64 9, .string (⟨#[112]⟩ : ByteArray), .int .i64 0]) (ok := fun _ => True) (okp := fun _ => True) ?hr ?hp (fun _ hk => hk) trivial (Below.refl _ _) (Nat.le_refl _) (by simp) ?_; (case hd => rfl); (case hg => rfl); (case hr => first | (go_simp; done) | (go_simp; rfl)); (case hp => exact (Reps.c3 (show Kd.M k47 _ _ _ (⟨5, (⟨#[112]⟩ : ByteArray), 2⟩ : S47) [.int .i64 5, .string (⟨#[112]⟩ : ByteArray), .int .i64 2] from (k47_mkM _ _ _ (⟨5, (⟨#[112]⟩ : ByteArray), 2⟩ : S47) )) (Reps.c3 (show Kd.M k47 _ _ _ (⟨9, (⟨#[112]⟩ : ByteArray), 0⟩ : S47) [.int .i64 9, .string (⟨#[112]⟩ : ByteArray), .int .i64 0] from (k47_mkM _ _ _ (⟨9, (⟨#[112]⟩ : ByteArray), 0⟩ : S47) )) (Reps.none _ _)))); intro v170 w8 ho9 hb hg_ hnew_; clear hg_ hnew_; (first | rw [← Ny169.out] at ho9 | (simp only [Int.reduceToNat] at ho9; rw [← Ny169.out] at ho9)); have n0_ := Aside0.mk (Kd.R_below (by (with_reducible repeat (first | apply Kd.R_alloc | apply Kd.R_drewN | apply Kd.R_drew)); exact HO164.out) hb); have n1_ := Aside0.mk (Kd.R_elder' (by (with_reducible repeat (first | apply Kd.R_alloc | apply Kd.R_drewN | apply Kd.R_drew)); exact HO168.out) (Kd.R_base ho9) hb); have n2_ := Aside0.mk (Kd.R_lower (Kd.R_new' ho9 (Kd.R_lt (by (with_reducible repeat (first | apply Kd.R_alloc | apply Kd.R_drewN | apply Kd.R_drew)); exact HO168.out))) (below_size (by repeat (first | (with_reducible first | exact HB.out | apply below_alloc | apply pw_below_drewN | apply below_drew1) | exact HB.out)))); have n3_ := Aside0.mk (below_step (by repeat (first | (with_reducible first | exact HB.out | apply below_alloc | apply pw_below_drewN | apply below_drew1) | exact HB.out)) hb); clear HO164; clear HO168; clear HB; have HO164 := n0_; have HO168 := n1_; have HO171 := n2_; have HB := n3_; clear n0_ n1_ n2_ n3_; clear hb ho9; obtain ⟨Ao10, co10, eo10⟩ := Kd.R_slice HO168.out; subst eo10; obtain ⟨Ao11, co11, eo11⟩ := Kd.R_slice HO171.out; subst eo11) | (go_at_call 27; (with_reducible refine (api_Input.calls k _ _ t165 _ _ y169 t172 _ ?side1 ?side2 ?side3 ?side4 A3.out).mono ?_); (case side1 => repeat (first | exact (Kd.R_reads' HO168.out).2.2 | (with_reducible refine Kd.C_alloc ?_ _) | (with_reducible refine Kd.C_drewN ?_ _) | (with_reducible refine Kd.C_drew ?_))); (case side2 => exact (Kd.R_reads' HO168.out).2.1); (case side3 => repeat (first | exact (Kd.R_reads' HO171.out).2.2 | (with_reducible refine Kd.C_alloc ?_ _) | (with_reducible refine Kd.C_drewN ?_ _) | (with_reducible refine Kd.C_drew ?_))); (case side4 => exact (Kd.R_reads' HO171.out).2.1); rintro e w' ⟨rfl, ⟨nd, rfl⟩⟩))
    go_ret
    exact ⟨by first | rfl | (simp [errW_none, errW_some] <;> rfl) | (simp [*, errW_none, errW_some] <;> rfl), by repeat (first | (with_reducible first | exact HB.out | apply below_alloc | apply pw_below_drewN | apply below_drew1) | exact HB.out)⟩
  · rw [if_neg c2] at H
    have c2b0 : (t166 == 0) = false := beq_eq_false_iff_ne.mpr c2
    have c2b1 : (t166 != 0) = true := bne_iff_ne.mpr c2
    obtain rfl := Option.some.inj H
    go_enter Try.func26, Try.ntmps26
    go_wp2_with (first | ((with_reducible refine gate_dst (N := 6) rfl ?_); (try (refine gate_guard (by rfl) ?_; dsimp only)); refine Kd.R_lit k55 _ 55 ?hg (N := 6) ?hd (xs := ([(⟨5, 1, true⟩ : S55), (⟨9, 1, false⟩ : S55)] : List (S55))) (inner := [.int .i64 5, .int .i64 1, .bool true, .int .i64 9, .int .i64 1, .bool false]) (ok := fun _ => True) (okp := fun _ => True) ?hr ?hp (fun _ hk => hk) trivial (Below.refl _ _) (Nat.le_refl _) (by simp) ?_; (case hd => rfl); (case hg => rfl); (case hr => first | (go_simp; done) | (go_simp; rfl)); (case hp => exact (Reps.c3 (show Kd.M k55 _ _ _ (⟨5, 1, true⟩ : S55) [.int .i64 5, .int .i64 1, .bool true] from (k55_mkM _ _ _ (⟨5, 1, true⟩ : S55) )) (Reps.c3 (show Kd.M k55 _ _ _ (⟨9, 1, false⟩ : S55) [.int .i64 9, .int .i64 1, .bool false] from (k55_mkM _ _ _ (⟨9, 1, false⟩ : S55) )) (Reps.none _ _)))); intro v163 w12 ho13 hb hg_ hnew_; clear hg_ hnew_; (first | rw [← Ny162.out] at ho13 | (simp only [Int.reduceToNat] at ho13; rw [← Ny162.out] at ho13)); have n0_ := Aside0.mk (Kd.R_lower ho13 (below_size (by repeat (first | (with_reducible first | exact HB.out | apply below_alloc | apply pw_below_drewN | apply below_drew1) | exact HB.out)))); have n1_ := Aside0.mk (below_step (by repeat (first | (with_reducible first | exact HB.out | apply below_alloc | apply pw_below_drewN | apply below_drew1) | exact HB.out)) hb); clear HB; have HO164 := n0_; have HB := n1_; clear n0_ n1_; clear hb ho13; obtain ⟨Ao14, co14, eo14⟩ := Kd.R_slice HO164.out; subst eo14) | ((with_reducible refine gate_callee (f := 31) rfl ?_); refine goesL_ (some 7) rfl rfl Try.func31 (by kernel_rfl) rfl #[.string (⟨#[112]⟩ : ByteArray), .slice Ao14 y162.length co14] rfl (by (try simp only [List.map_toArray, List.map_cons, List.map_nil]); first | done | rfl | (simp only [List.length_drop, List.length_take]; rfl)) ?_; (with_reducible refine (keys_Board.calls k (⟨#[112]⟩ : ByteArray) _ _ y162 t165 t166 _ ?side1 ?side2 A1.out).mono ?_); (case side1 => repeat (first | exact (Kd.R_reads' HO164.out).2.2 | (with_reducible refine Kd.C_alloc ?_ _) | (with_reducible refine Kd.C_drewN ?_ _) | (with_reducible refine Kd.C_drew ?_))); (case side2 => exact (Kd.R_reads' HO164.out).2.1); rintro e w15 ⟨v167, rfl, ho0, hb⟩; refine ⟨_, rfl, ?_⟩; have n0_ := Aside0.mk (Kd.R_below (by (with_reducible repeat (first | apply Kd.R_alloc | apply Kd.R_drewN | apply Kd.R_drew)); exact HO164.out) hb); have n1_ := Aside0.mk (Kd.R_lower ho0 (below_size (by repeat (first | (with_reducible first | exact HB.out | apply below_alloc | apply pw_below_drewN | apply below_drew1) | exact HB.out)))); have n2_ := Aside0.mk (below_step (by repeat (first | (with_reducible first | exact HB.out | apply below_alloc | apply pw_below_drewN | apply below_drew1) | exact HB.out)) hb); clear HO164; clear HB; have HO164 := n0_; have HO168 := n1_; have HB := n2_; clear n0_ n1_ n2_; (try clear hb); (try clear hb2); (try clear hk); (try clear hi); (try clear ho0)))
    go_ret
    exact ⟨by first | rfl | (simp [errW_none, errW_some] <;> rfl) | (simp [*, errW_none, errW_some] <;> rfl), by repeat (first | (with_reducible first | exact HB.out | apply below_alloc | apply pw_below_drewN | apply below_drew1) | exact HB.out)⟩

end Go.Proofs.Ytimkpdbghbhkkaa.QK
