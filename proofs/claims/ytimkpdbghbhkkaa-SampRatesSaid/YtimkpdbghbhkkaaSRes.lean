/- samp.Resample: what it returns, and that the Go code returns it: its closure has a contract of its own. -/
import Derived.Test.YtimkpdbghbhkkaaSPu
namespace Go.Proofs.Ytimkpdbghbhkkaa.QS
open Go.Proofs.Ytimkpdbghbhkkaa.SPu Go.Proofs.Ytimkpdbghbhkkaa.Pu
open Go.RowKit Go.Proofs.YtimkpdbghbhkkaaW.PrintWords Go.Proofs.YtimkpdbghbhkkaaW.PrintLast Go.Proofs.YtimkpdbghbhkkaaW.PrintMore
set_option linter.unusedVariables false
set_option linter.unusedSimpArgs false
/-- The sum up to a time of k * down / up levels. -/
def upv (p l : List Int) (up down k : Int) : Int := if k * down % up = 0 then rd p (k * down / up) else rd p (k * down / up) + k * down % up * rd l (k * down / up) / up
set_option maxHeartbeats 1000000 in
set_option maxRecDepth 100000 in
theorem upto_calls (p l : List Int) (up down kk : Int) (g5 g4 g10 g3 : Nat) (Ap Al : Option Addr) (cp cl : Nat) (w : World)
    (h5 : w.heap[g5]? = some (.cells #[.int .i64 down] 3 (0, 0))) (h4 : w.heap[g4]? = some (.cells #[.int .i64 up] 3 (0, 0)))
    (h10 : w.heap[g10]? = some (.cells #[.slice Ap p.length cp] 22 (0, 0))) (h3 : w.heap[g3]? = some (.cells #[.slice Al l.length cl] 22 (0, 0)))
    (hp : Kd.C (Kd.int .i64) w Ap p.length p) (hl : Kd.C (Kd.int .i64) w Al l.length l)
    (hup : 1 ≤ up) (hup' : up ≤ 1000) (hd : 1 ≤ down) (hk0 : 0 ≤ kk) (hm0 : 0 ≤ kk * down) (hm1 : kk * down ≤ 1000000000) (hj : kk * down / up < p.length) (hjl : ¬ kk * down % up = 0 → kk * down / up < l.length)
    (hsum : ¬ kk * down % up = 0 → 0 ≤ rd p (kk * down / up) ∧ rd p (kk * down / up) ≤ 1000000000000 ∧ 0 ≤ kk * down % up * rd l (kk * down / up) ∧ kk * down % up * rd l (kk * down / up) ≤ 10000000000) :
    Calls Try.prog 84 #[.int .i64 kk, .pointer (some ⟨g5, 0, none⟩), .pointer (some ⟨g4, 0, none⟩), .pointer (some ⟨g10, 0, none⟩), .pointer (some ⟨g3, 0, none⟩)] w fun e w' => e = .returned (.int .i64 (upv p l up down kk)) ∧ Drawn0 w w' := by
  have hc5 := cell_of_one h5
  have hc4 := cell_of_one h4
  have hc10 := cell_of_one h10
  have hc3 := cell_of_one h3
  clear h5 h4 h10 h3
  have hq0 : 0 ≤ kk * down / up := Int.ediv_nonneg hm0 (by omega)
  by_cases c : kk * down % up = 0
  · have hb : (kk * down % up == 0) = true := beq_iff_eq.2 c
    obtain ⟨ad, rfl, hx⟩ := Kd.at_int hp _ hq0 hj
    have e : upv p l up down kk = rd p (kk * down / up) := if_pos c
    rw [e]
    clear e c hp hl hsum hjl
    replace hq0 := eq_true hq0
    replace hj := eq_true hj
    go_enter Try.func84, Try.ntmps84
    go_wp2
    repeat (go_quiet (fail); try go_wp2)
    go_ret
    exact ⟨rfl, by repeat (first | exact Drawn0.refl _ | apply Drawn0.step)⟩
  · have hb : (kk * down % up == 0) = false := beq_eq_false_iff_ne.2 c
    have hjl := hjl c
    obtain ⟨s1, s2, s3, s4⟩ := hsum c
    obtain ⟨ad, rfl, hx⟩ := Kd.at_int hp _ hq0 hj
    obtain ⟨ad', rfl, hx'⟩ := Kd.at_int hl _ hq0 hjl
    have e : upv p l up down kk = rd p (kk * down / up) + kk * down % up * rd l (kk * down / up) / up := if_neg c
    rw [e]
    clear e c hp hl hsum
    replace hq0 := eq_true hq0
    replace hj := eq_true hj
    replace hjl := eq_true hjl
    have s5 : 0 ≤ kk * down % up * rd l (kk * down / up) / up := Int.ediv_nonneg s3 (by omega)
    have s6 : kk * down % up * rd l (kk * down / up) / up ≤ 10000000000 := Int.le_trans (Int.ediv_le_self _ s3) s4
    go_enter Try.func84, Try.ntmps84
    go_wp2
    repeat (go_quiet (fail); try go_wp2)
    go_ret
    exact ⟨rfl, by repeat (first | exact Drawn0.refl _ | apply Drawn0.step)⟩

theorem big_len {k : Nat} {l : List Int} (h : samp_Check.f k l = some 0) : l.length ≤ 140737488351232 := by
  unfold samp_Check.f at h
  by_cases c : (l.length : Int) > 100000
  · rw [if_pos c] at h; simp at h
  · omega
theorem ratio_true {a b : Int} (h : samp_ratio.f a b = some true) : 1 ≤ a ∧ a ≤ 1000 ∧ 1 ≤ b ∧ b ≤ 1000 := by
  unfold samp_ratio.f at h
  by_cases c1 : a ≥ 1
  · rw [if_pos c1] at h
    by_cases c2 : a ≤ 1000
    · rw [if_pos c2] at h
      by_cases c3 : b ≥ 1
      · rw [if_pos c3] at h
        have := of_decide_eq_true (Option.some.inj h)
        omega
      · rw [if_neg c3] at h; simp at h
    · rw [if_neg c2] at h; simp at h
  · rw [if_neg c1] at h; simp at h
theorem upto_fits (l : List Int) (hl : l.length ≤ 100000) (hb : ∀ x ∈ l, 0 ≤ x ∧ x ≤ 1048576) {up down : Int} (u1 : 1 ≤ up) (u2 : up ≤ 1000) (d1 : 1 ≤ down) {n kk : Int} (hn : (l.length : Int) * up / down = n) (k0 : 0 ≤ kk) (k1 : kk ≤ n) :
    0 ≤ kk * down ∧ kk * down ≤ 1000000000 ∧ kk * down / up < (PS l).length ∧ (¬ kk * down % up = 0 → kk * down / up < l.length) ∧
    (¬ kk * down % up = 0 → 0 ≤ rd (PS l) (kk * down / up) ∧ rd (PS l) (kk * down / up) ≤ 1000000000000 ∧ 0 ≤ kk * down % up * rd l (kk * down / up) ∧ kk * down % up * rd l (kk * down / up) ≤ 10000000000) ∧
    0 ≤ upv (PS l) l up down kk ∧ upv (PS l) l up down kk ≤ 2000000000000 := by
  have h0 : 0 ≤ kk * down := Int.mul_nonneg k0 (by omega)
  have h1 : kk * down ≤ (l.length : Int) * up := by
    have a1 : kk * down ≤ n * down := Int.mul_le_mul_of_nonneg_right k1 (by omega)
    have a2 : n * down ≤ (l.length : Int) * up := by rw [← hn]; exact Int.ediv_mul_le _ (by omega)
    omega
  have h2 : (l.length : Int) * up ≤ 100000 * 1000 := Int.mul_le_mul (by omega) u2 (by omega) (by omega)
  have q0 : 0 ≤ kk * down / up := Int.ediv_nonneg h0 (by omega)
  have q1 : kk * down / up ≤ l.length := Int.ediv_le_of_le_mul (by omega) h1
  have r0 : 0 ≤ kk * down % up := Int.emod_nonneg _ (by omega)
  have r1 : kk * down % up < up := Int.emod_lt_of_pos _ (by omega)
  have e := Int.mul_ediv_add_emod (kk * down) up
  have q2 : ¬ kk * down % up = 0 → kk * down / up < l.length := by
    intro c
    by_cases d : kk * down / up < l.length
    · exact d
    · have : kk * down / up = l.length := by omega
      rw [this, Int.mul_comm] at e
      omega
  have hp : 0 ≤ rd (PS l) (kk * down / up) ∧ rd (PS l) (kk * down / up) ≤ 1000000000000 := by
    obtain ⟨j, hj⟩ : ∃ j : Nat, kk * down / up = j := ⟨(kk * down / up).toNat, by omega⟩
    rw [hj, PS_rd l j (by omega)]
    have := psum_bd l hb j
    omega
  have hx : ¬ kk * down % up = 0 → 0 ≤ rd l (kk * down / up) ∧ rd l (kk * down / up) ≤ 1048576 := by
    intro c
    obtain ⟨j, hj⟩ : ∃ j : Nat, kk * down / up = j := ⟨(kk * down / up).toNat, by omega⟩
    have hlt := q2 c
    rw [hj, rd_nat, List.getD_eq_getElem?_getD, List.getElem?_eq_getElem (by omega)]
    exact hb _ (List.getElem_mem _)
  have hm : ¬ kk * down % up = 0 → 0 ≤ kk * down % up * rd l (kk * down / up) ∧ kk * down % up * rd l (kk * down / up) ≤ 1000 * 1048576 := by
    intro c
    obtain ⟨x0, x1⟩ := hx c
    exact ⟨Int.mul_nonneg r0 x0, Int.mul_le_mul (by omega) x1 x0 (by omega)⟩
  refine ⟨h0, by omega, by rw [PS_len]; omega, q2, fun c => ⟨hp.1, hp.2, (hm c).1, by have := (hm c).2; omega⟩, ?_⟩
  unfold upv
  by_cases c : kk * down % up = 0
  · rw [if_pos c]; omega
  · rw [if_neg c]
    obtain ⟨m0, m1⟩ := hm c
    have d0 : 0 ≤ kk * down % up * rd l (kk * down / up) / up := Int.ediv_nonneg m0 (by omega)
    have d1 : kk * down % up * rd l (kk * down / up) / up ≤ kk * down % up * rd l (kk * down / up) := Int.ediv_le_self _ m0
    omega
def rsm (l : List Int) (up down : Int) : List Int := (List.range ((l.length : Int) * up / down).toNat).map fun i : Nat => upv (PS l) l up down ((i : Int) + 1) - upv (PS l) l up down (i : Int)
def samp_Resample.f (k : Nat) (l : List Int) (up down : Int) : Option (List Int × Int) :=
  (samp_Check.f k l).bind fun e => if e = 0 then ((samp_ratio.f up down).bind fun b => if b = true then (if (l.length : Int) * up / down > 100000 then some ([], 6) else (samp_sums.f k l).bind fun _ => some (rsm l up down, 0)) else some ([], 1)) else some ([], e)
theorem samp_Resample.mono : ∀ a0 a1 a2 k, LeO (samp_Resample.f k a0 a1 a2) (samp_Resample.f (k + 1) a0 a1 a2) := by
  intro a0 a1 a2 k
  unfold samp_Resample.f
  refine LeO.bind (samp_Check.mono _ _) (fun e => LeO.ite (LeO.bind (LeO.refl _) (fun b => LeO.ite (LeO.ite (LeO.refl _) (LeO.bind (samp_sums.mono _ _) (fun _ => LeO.refl _))) (LeO.refl _))) (LeO.refl _))
set_option maxHeartbeats 4000000 in
set_option maxRecDepth 100000 in
theorem samp_Resample.calls (k : Nat) (A0 : Option Addr) (c0 : Nat) (l0 : List Int) (a1 : Int) (a2 : Int) (r1 : List Int) (r2 : Int) (w : World) (hr0 : Kd.C (Kd.int .i64) w A0 l0.length l0) (hc0 : l0.length ≤ c0) (h : samp_Resample.f k l0 a1 a2 = some (r1, r2)) :
    Calls Try.prog 16 #[.slice A0 l0.length c0, .int .i64 a1, .int .i64 a2] w fun e w' => ∃ v0_ : Value, e = .returned (.tuple #[v0_, .int .i64 r2]) ∧ Kd.R (Kd.int .i64) 3 w' w.heap.size (fun _ => True) v0_ r1 ∧ Below w.heap.size w w' := by
  obtain ⟨e, hA, h⟩ := Option.bind_eq_some_iff.1 h
  have HA := Aside0.mk hA
  clear hA
  have HR := Aside0.mk hr0
  have HC := Aside0.mk hc0
  clear hr0 hc0
  have hmf : ∀ (fn : Fn) (first cap : Array Value) (w : World), (Instr.makeFunc fn first cap).run Try.prog w = .ok (.func fn first cap) w := fun _ _ _ _ => rfl
  by_cases c : e = 0
  · subst c
    rw [if_pos rfl] at h
    obtain ⟨b, hB, h⟩ := Option.bind_eq_some_iff.1 h
    have HB := Aside0.mk hB
    clear hB
    cases b with
    | false =>
      rw [if_neg (by simp)] at h
      simp only [Option.some.injEq, Prod.mk.injEq] at h
      obtain ⟨rfl, rfl⟩ := h
      go_enter Try.func16, Try.ntmps16
      go_wp2_with fail
      refine (samp_Check.calls k _ _ l0 0 _ ?_ HC.out HA.out).mono ?_
      · repeat (first | exact HR.out | refine Kd.C_alloc ?_ _)
      rintro _ w1 ⟨rfl, ⟨nd, rfl⟩⟩
      go_wp2_with fail
      refine (samp_ratio.calls a1 a2 false _ HB.out).mono ?_
      rintro _ w1 ⟨rfl, ⟨nd', rfl⟩⟩
      go_wp2_with fail
      go_ret2
      exact ⟨_, rfl, Kd.R_nil _ _ _ _ _, by repeat (first | exact Below.refl _ _ | apply below_alloc | apply pw_below_drewN)⟩
    | true =>
      rw [if_pos rfl] at h
      obtain ⟨hlen, hel⟩ := CK_zero (Ev.det (samp_Check.mono l0) HA.out (check l0 (big_len HA.out))).symm
      obtain ⟨u1, u2, d1, d2⟩ := ratio_true HB.out
      have m0 : 0 ≤ (l0.length : Int) * a1 := Int.mul_nonneg (by omega) (by omega)
      have m1 : (l0.length : Int) * a1 ≤ 100000000 := Int.le_trans (Int.mul_le_mul (show (l0.length : Int) ≤ 100000 by omega) u2 (by omega) (by omega)) (by omega)
      have n0 : 0 ≤ (l0.length : Int) * a1 / a2 := Int.ediv_nonneg m0 (by omega)
      by_cases c : (l0.length : Int) * a1 / a2 > 100000
      · rw [if_pos c] at h
        simp only [Option.some.injEq, Prod.mk.injEq] at h
        obtain ⟨rfl, rfl⟩ := h
        replace c := decide_eq_true c
        clear hel
        go_enter Try.func16, Try.ntmps16
        go_wp2_with fail
        refine (samp_Check.calls k _ _ l0 0 _ ?_ HC.out HA.out).mono ?_
        · repeat (first | exact HR.out | refine Kd.C_alloc ?_ _)
        rintro _ w1 ⟨rfl, ⟨nd, rfl⟩⟩
        go_wp2_with fail
        refine (samp_ratio.calls a1 a2 true _ HB.out).mono ?_
        rintro _ w1 ⟨rfl, ⟨nd', rfl⟩⟩
        go_wp2_with fail
        go_ret2
        exact ⟨_, rfl, Kd.R_nil _ _ _ _ _, by repeat (first | exact Below.refl _ _ | apply below_alloc | apply pw_below_drewN)⟩
      · rw [if_neg c] at h
        obtain ⟨ps, hS, h⟩ := Option.bind_eq_some_iff.1 h
        have hps : ps = PS l0 := Ev.det (samp_sums.mono l0) hS (sums l0 hlen hel)
        subst hps
        have HS := Aside0.mk hS
        clear hS
        simp only [Option.some.injEq, Prod.mk.injEq] at h
        obtain ⟨rfl, rfl⟩ := h
        replace c := decide_eq_false c
        have HE := Aside0.mk hel
        clear hel
        go_enter Try.func16, Try.ntmps16
        go_wp2_with fail
        refine (samp_Check.calls k _ _ l0 0 _ ?_ HC.out HA.out).mono ?_
        · repeat (first | exact HR.out | refine Kd.C_alloc ?_ _)
        rintro _ w1 ⟨rfl, ⟨nd, rfl⟩⟩
        go_wp2_with fail
        refine (samp_ratio.calls a1 a2 true _ HB.out).mono ?_
        rintro _ w1 ⟨rfl, ⟨nd', rfl⟩⟩
        go_wp2_with fail
        have b3 : ∀ W : World, W = (((w.alloc (.cells #[.slice A0 l0.length c0] 22)).alloc (.cells #[.int .i64 a1] 3)).alloc (.cells #[.int .i64 a2] 3)).drewN (nd + nd') → W.heap[w.heap.size]? = some (.cells #[.slice A0 l0.length c0] 22 (0, 0)) ∧ W.heap[w.heap.size + 1]? = some (.cells #[.int .i64 a1] 3 (0, 0)) ∧ W.heap[w.heap.size + 2]? = some (.cells #[.int .i64 a2] 3 (0, 0)) ∧ W.heap.size = w.heap.size + 3 ∧ Below w.heap.size w W ∧ Kd.C (Kd.int .i64) W A0 l0.length l0 := by
          rintro W rfl
          have hb : Below w.heap.size w ((((w.alloc (.cells #[.slice A0 l0.length c0] 22)).alloc (.cells #[.int .i64 a1] 3)).alloc (.cells #[.int .i64 a2] 3)).drewN (nd + nd')) := by repeat (first | exact Below.refl _ _ | apply below_alloc | apply pw_below_drewN)
          refine ⟨?_, ?_, ?_, by simp, hb, Kd.C_below HR.out hb⟩
          · show ((((w.heap.push _).push _).push _))[w.heap.size]? = _
            simp only [Array.getElem?_push, Array.size_push]; rw [if_neg (by omega), if_neg (by omega), if_pos trivial]
          · show ((((w.heap.push _).push _).push _))[w.heap.size + 1]? = _
            simp only [Array.getElem?_push, Array.size_push]; rw [if_neg (by omega), if_pos trivial]
          · show ((((w.heap.push _).push _).push _))[w.heap.size + 2]? = _
            simp only [Array.getElem?_push, Array.size_push]; rw [if_pos trivial]
        generalize (((w.alloc (.cells #[.slice A0 l0.length c0] 22)).alloc (.cells #[.int .i64 a1] 3)).alloc (.cells #[.int .i64 a2] 3)).drewN (nd + nd') = W at b3 ⊢
        obtain ⟨k3, k4, k5, kz, kb, kc⟩ := b3 W rfl
        clear b3
        refine (samp_sums.calls k _ _ l0 (PS l0) _ kc HC.out HS.out).mono ?_
        rintro _ w1 ⟨v0, rfl, ho, hb⟩
        replace k3 := blk_below k3 hb
        replace k4 := blk_below k4 hb
        replace k5 := blk_below k5 hb
        replace kc := Kd.C_below kc hb
        obtain ⟨Ap, cp, rfl⟩ := Kd.R_slice ho
        obtain ⟨_, hcp, hpp⟩ := Kd.R_reads' ho
        have kb' := below_step kb hb
        have kz' : w.heap.size + 3 ≤ w1.heap.size := by have := hb.size; omega
        clear ho hb kb kz
        have HK := Aside0.mk (And.intro k3 (And.intro k4 (And.intro k5 (And.intro kc (And.intro hpp (And.intro hcp (And.intro kb' kz')))))))
        clear k3 k4 k5 kc hpp hcp kb' kz'
        go_wp2_with fail
        have b10 : ∀ W : World, W = w1.alloc (.cells #[.slice Ap (PS l0).length cp] 22) → W.heap[w.heap.size]? = some (.cells #[.slice A0 l0.length c0] 22 (0, 0)) ∧ W.heap[w.heap.size + 1]? = some (.cells #[.int .i64 a1] 3 (0, 0)) ∧ W.heap[w.heap.size + 2]? = some (.cells #[.int .i64 a2] 3 (0, 0)) ∧ W.heap[w1.heap.size]? = some (.cells #[.slice Ap (PS l0).length cp] 22 (0, 0)) ∧ Below w.heap.size w W ∧ Kd.C (Kd.int .i64) W A0 l0.length l0 ∧ Kd.C (Kd.int .i64) W Ap (PS l0).length (PS l0) ∧ w.heap.size ≤ W.heap.size := by
          rintro W rfl
          obtain ⟨k3, k4, k5, kc, hpp, hcp, kb, kz⟩ := HK.out
          have hb : Below w1.heap.size w1 (w1.alloc (.cells #[.slice Ap (PS l0).length cp] 22)) := below_alloc (Below.refl _ _) _
          exact ⟨blk_below k3 hb, blk_below k4 hb, blk_below k5 hb, blk_new w1 _, below_step kb hb, Kd.C_below kc hb, Kd.C_below hpp hb, by simp; omega⟩
        have hsz3 : w.heap.size + 3 ≤ w1.heap.size := HK.out.2.2.2.2.2.2.2
        generalize hg10 : w1.heap.size = g10 at *
        generalize w1.alloc (.cells #[.slice Ap (PS l0).length cp] 22) = wp at b10 ⊢
        have HP := Aside0.mk (b10 wp rfl)
        clear b10 HK hg10
        have hz0 : w.heap.size ≤ wp.heap.size := HP.out.2.2.2.2.2.2.2
        obtain ⟨n, hn⟩ : ∃ n : Nat, (l0.length : Int) * a1 / a2 = n := ⟨((l0.length : Int) * a1 / a2).toNat, by omega⟩
        have HN := Aside0.mk hn
        have nb : n ≤ 100000 := by have := of_decide_eq_false c; omega
        rw [hn]
        clear hn c n0 hmf
        go_loopg [12, 35] n (fun d v12 v35 w' => ∃ i : Nat, v35 = .int .i64 (i : Int) ∧ Aside0 (i + d = n) ∧ Aside0 (Kd.R (Kd.int .i64) 3 w' wp.heap.size (fun _ => True) v12 ((rsm l0 a1 a2).take i)) ∧ Aside0 (Below wp.heap.size wp w'))
        case atStart => exact ⟨0, rfl, ⟨by omega⟩, ⟨Kd.R_nil _ _ _ _ _⟩, ⟨Below.refl _ _⟩⟩
        case round =>
          obtain ⟨i, rfl, HI, HO, HW⟩ := hrel
          have hlr : (rsm l0 a1 a2).length = n := by unfold rsm; rw [HN.out]; simp
          have HL := Aside0.mk hlr
          clear hlr
          cases gk with
          | zero =>
            have hi : i = n := by have := HI.out; omega
            subst hi
            have ht : decide (i < i) = false := by simp
            have hfin := HO.out
            rw [List.take_of_length_le (by rw [HL.out]; exact Nat.le_refl _)] at hfin
            have HF := Aside0.mk hfin
            clear hfin HO
            go_wp2_with fail
            go_ret2
            exact ⟨_, rfl, Kd.R_lower HF.out hz0, below_then HP.out.2.2.2.2.1 hz0 HW.out⟩
          | succ d =>
            have hi : i < n := by have := HI.out; omega
            have ht : decide (i < n) = true := by simpa using hi
            obtain ⟨f1, f2, f3, f4, f5, f6, f7⟩ := upto_fits l0 hlen HE.out u1 u2 d1 HN.out (kk := (i : Int) + 1) (by omega) (by omega)
            obtain ⟨g1, g2, g3, g4, g5, g6, g7⟩ := upto_fits l0 hlen HE.out u1 u2 d1 HN.out (kk := (i : Int)) (by omega) (by omega)
            have hs : (rsm l0 a1 a2).take (i + 1) = (rsm l0 a1 a2).take i ++ [upv (PS l0) l0 a1 a2 ((i : Int) + 1) - upv (PS l0) l0 a1 a2 (i : Int)] := by
              rw [List.take_succ_eq_append_getElem (by rw [HL.out]; exact hi)]
              congr 2
              unfold rsm
              simp
            have HT := Aside0.mk hs
            have hx3 := blk_below HP.out.1 HW.out
            have hx4 := blk_below HP.out.2.1 HW.out
            have hx5 := blk_below HP.out.2.2.1 HW.out
            have hx10 := blk_below HP.out.2.2.2.1 HW.out
            have hxc := Kd.C_below HP.out.2.2.2.2.2.1 HW.out
            have hxp := Kd.C_below HP.out.2.2.2.2.2.2.1 HW.out
            have HX := Aside0.mk (And.intro hx3 (And.intro hx4 (And.intro hx5 (And.intro hx10 (And.intro hxc hxp)))))
            clear hx3 hx4 hx5 hx10 hxc hxp hs
            have F := Aside0.mk (And.intro f1 (And.intro f2 (And.intro f3 (And.intro f4 f5))))
            have G := Aside0.mk (And.intro g1 (And.intro g2 (And.intro g3 (And.intro g4 g5))))
            clear f1 f2 f3 f4 f5 g1 g2 g3 g4 g5
            go_wp2_with fail
            refine (upto_calls (PS l0) l0 a1 a2 ((i : Int) + 1) _ _ _ _ Ap A0 cp c0 _ HX.out.2.2.1 HX.out.2.1 HX.out.2.2.2.1 HX.out.1 HX.out.2.2.2.2.2 HX.out.2.2.2.2.1 u1 u2 d1 (by omega) F.out.1 F.out.2.1 F.out.2.2.1 F.out.2.2.2.1 F.out.2.2.2.2).mono ?_
            rintro _ w2 ⟨rfl, ⟨nd2, rfl⟩⟩
            go_wp2_with fail
            refine (upto_calls (PS l0) l0 a1 a2 (i : Int) _ _ _ _ Ap A0 cp c0 _ (blk_drewN HX.out.2.2.1 _) (blk_drewN HX.out.2.1 _) (blk_drewN HX.out.2.2.2.1 _) (blk_drewN HX.out.1 _) (Kd.C_drewN HX.out.2.2.2.2.2 _) (Kd.C_drewN HX.out.2.2.2.2.1 _) u1 u2 d1 (by omega) G.out.1 G.out.2.1 G.out.2.2.1 G.out.2.2.2.1 G.out.2.2.2.2).mono ?_
            rintro _ w3 ⟨rfl, ⟨nd3, rfl⟩⟩
            go_wp2_with (first | ((with_reducible refine gate_builtin (b := .append) (xs := #[.tmp 38, .tmp 47]) rfl ?_); at_builtin; refine Kd.R_append (Kd.int .i64) (w0 := wp) wp.heap.size rfl (.tmp 38) (.tmp 47) 22 3 (.int .i64 0) 8 rfl Try.underlying22 info3 rfl (by decide) (by omega) u12 ((rsm l0 a1 a2).take i) (upv (PS l0) l0 a1 a2 ((i : Int) + 1) - upv (PS l0) l0 a1 a2 (i : Int)) [.int .i64 (upv (PS l0) l0 a1 a2 ((i : Int) + 1) - upv (PS l0) l0 a1 a2 (i : Int))] (fun _ => True) (fun _ => False) rfl rfl ?aP (fun _ hk => hk.elim) ?aF ?aO ?aB ?aS ?aL ?_; (case aP => exact rfl); (case aB => exact (by repeat (first | exact HW.out | apply below_alloc | apply pw_below_drewN | apply below_drew1))); (case aF => exact (fun _ _ => trivial)); (case aO => exact (by (with_reducible repeat (first | apply Kd.R_alloc | apply Kd.R_drewN | apply Kd.R_drew)); exact HO.out)); (case aS => exact (below_size (by repeat (first | exact HW.out | apply below_alloc | apply pw_below_drewN | apply below_drew1)))); (case aL => rw [List.length_take]; omega); intro v109 w12 ho hb hg hat; rw [← HT.out] at ho; have HO1 := Aside0.mk ho; have HW1 := Aside0.mk hb; clear HO HW ho hb hg hat))
            go_roundg d
            case measure => omega
            case rel => exact ⟨i + 1, by simp, ⟨by have := HI.out; omega⟩, HO1, HW1⟩
  · rw [if_neg c] at h
    simp only [Option.some.injEq, Prod.mk.injEq] at h
    obtain ⟨rfl, rfl⟩ := h
    have cb : (e != 0) = true := bne_iff_ne.2 c
    go_enter Try.func16, Try.ntmps16
    go_wp2_with fail
    refine (samp_Check.calls k _ _ l0 e _ ?_ HC.out HA.out).mono ?_
    · repeat (first | exact HR.out | refine Kd.C_alloc ?_ _)
    rintro _ w1 ⟨rfl, ⟨nd, rfl⟩⟩
    go_wp2_with fail
    go_ret2
    exact ⟨_, rfl, Kd.R_nil _ _ _ _ _, by repeat (first | exact Below.refl _ _ | apply below_alloc | apply pw_below_drewN)⟩
end Go.Proofs.Ytimkpdbghbhkkaa.QS
