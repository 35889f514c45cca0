/- The plain law of Resample: each sample is what the reference says. -/
import Derived.Test.YtimkpdbghbhkkaaSRes
import Derived.Test.YtimkpdbghbhkkaaQSx7
import Derived.Test.YtimkpdbghbhkkaaQSx8
import Derived.Test.YtimkpdbghbhkkaaQSx9
namespace Go.Proofs.Ytimkpdbghbhkkaa.SPu
open Go.RowKit Go.Proofs.YtimkpdbghbhkkaaW.PrintWords Go.Proofs.YtimkpdbghbhkkaaW.PrintMore Go.Proofs.Ytimkpdbghbhkkaa.Pu Go.Proofs.Ytimkpdbghbhkkaa.QS

theorem heard : Ev (fun k => bakelaw3_heard.f k) true := Ev.of bakelaw3_heard.mono (k := 30) (by decide +kernel)

def resR (l : List Int) (up down : Int) : List Int × Int :=
  if CK l = 0 then (if 1 ≤ up ∧ up ≤ 1000 ∧ 1 ≤ down ∧ down ≤ 1000 then (if (l.length : Int) * up / down > 100000 then ([], 6) else (rsm l up down, 0)) else ([], 1)) else ([], CK l)
theorem ratio (a b : Int) : samp_ratio.f a b = some (decide (1 ≤ a ∧ a ≤ 1000 ∧ 1 ≤ b ∧ b ≤ 1000)) := by
  unfold samp_ratio.f
  by_cases c1 : a ≥ 1
  · rw [if_pos c1]
    by_cases c2 : a ≤ 1000
    · rw [if_pos c2]
      by_cases c3 : b ≥ 1
      · rw [if_pos c3]
        congr 1
        rw [decide_eq_decide]
        omega
      · rw [if_neg c3, decide_eq_false (by omega)]
    · rw [if_neg c2, decide_eq_false (by omega)]
  · rw [if_neg c1, decide_eq_false (by omega)]
theorem resample (l : List Int) (hl : l.length ≤ 140737488351232) (up down : Int) : Ev (fun k => samp_Resample.f k l up down) (resR l up down) := by
  unfold samp_Resample.f resR
  refine Ev.bind (check l hl) (Ev.ite (fun c => ?_) (fun c => ?_))
  · rw [if_pos c, ratio]
    refine Ev.const (Ev.ite (fun d => ?_) (fun d => ?_))
    · rw [if_pos (of_decide_eq_true d)]
      refine Ev.ite (fun e => ?_) (fun e => ?_)
      · rw [if_pos e]; exact Ev.now _
      · rw [if_neg e]
        obtain ⟨h1, h2⟩ := CK_zero c
        exact Ev.bind (sums l h1 h2) (Ev.now _)
    · rw [if_neg (fun h => d (decide_eq_true h))]; exact Ev.now _
  · rw [if_neg c]; exact Ev.now _

/-- The reference's sum, place by place. -/
def wsum (l : List Int) (up q r : Int) (i : Nat) : Int := if (i : Int) ≤ q then up * psum l i else up * psum l q.toNat + r * rd l q
theorem clampv (t up i q r : Int) (u1 : 1 ≤ up) (e : up * q + r = t) (r0 : 0 ≤ r) (r1 : r < up) :
    (i < q → mx 0 (mn up (t - i * up)) = up) ∧ (i = q → mx 0 (mn up (t - i * up)) = r) ∧ (q < i → mx 0 (mn up (t - i * up)) = 0) := by
  refine ⟨fun c => ?_, fun c => ?_, fun c => ?_⟩
  · have h1 : up * 1 ≤ up * (q - i) := Int.mul_le_mul_of_nonneg_left (by omega) (by omega)
    rw [Int.mul_sub, Int.mul_comm up i, Int.mul_one] at h1
    obtain ⟨y, hy⟩ : ∃ y, t - i * up = y := ⟨_, rfl⟩
    rw [hy]
    have hy2 : up ≤ y := by omega
    unfold mx mn
    split <;> split <;> omega
  · subst c
    rw [Int.mul_comm i up]
    obtain ⟨y, hy⟩ : ∃ y, t - up * i = y := ⟨_, rfl⟩
    rw [hy]
    have hy2 : y = r := by omega
    unfold mx mn
    split <;> split <;> omega
  · have h1 : up * 1 ≤ up * (i - q) := Int.mul_le_mul_of_nonneg_left (by omega) (by omega)
    rw [Int.mul_sub, Int.mul_comm up i, Int.mul_one] at h1
    obtain ⟨y, hy⟩ : ∃ y, t - i * up = y := ⟨_, rfl⟩
    rw [hy]
    have hy2 : y < 0 := by omega
    unfold mx mn
    split <;> split <;> omega

/-- One step of the reference's sum. -/
theorem wsum_step (l : List Int) (hb : ∀ x ∈ l, 0 ≤ x ∧ x ≤ 1048576) (up r : Int) (m i : Nat) (hi : i < l.length) (v : Int) (hv : ((i : Int) < m → v = up) ∧ ((i : Int) = m → v = r) ∧ ((m : Int) < i → v = 0)) :
    wsum l up m r (i + 1) = wsum l up m r i + rd l (i : Int) * v := by
  unfold wsum
  rw [Int.toNat_natCast]
  by_cases c : (i : Int) < m
  · rw [if_pos (by omega), if_pos (by omega), psum_succ l i hi, hv.1 c, Int.mul_add, Int.mul_comm (rd l (i : Int)) up]
  · by_cases c2 : (i : Int) = m
    · have him : i = m := by omega
      subst him
      rw [if_neg (by omega), if_pos (by omega), hv.2.1 c2, Int.mul_comm (rd l (i : Int)) r]
    · rw [if_neg (by omega), if_neg (by omega), hv.2.2 (by omega), Int.mul_zero, Int.add_zero]
theorem wsum_bd (l : List Int) (hl : l.length ≤ 200) (hb : ∀ x ∈ l, 0 ≤ x ∧ x ≤ 1048576) (up r : Int) (u1 : 1 ≤ up) (u2 : up ≤ 1000) (r0 : 0 ≤ r) (r1 : r < up) (m i : Nat) (hi : i ≤ l.length) (hm : m ≤ l.length) :
    0 ≤ wsum l up m r i ∧ wsum l up m r i ≤ 400000000000 := by
  have ub : ∀ j : Nat, j ≤ l.length → 0 ≤ up * psum l j ∧ up * psum l j ≤ 1000 * (1048576 * 200) := by
    intro j hj
    have := psum_bd l hb j
    exact ⟨Int.mul_nonneg (by omega) (by omega), Int.mul_le_mul u2 (by omega) (by omega) (by omega)⟩
  have xb : 0 ≤ rd l (m : Int) ∧ rd l (m : Int) ≤ 1048576 := by
    rw [rd_nat, List.getD_eq_getElem?_getD]
    by_cases h : m < l.length
    · rw [List.getElem?_eq_getElem h]
      exact hb _ (List.getElem_mem _)
    · rw [List.getElem?_eq_none (by omega)]
      simp
  have rb : 0 ≤ r * rd l (m : Int) ∧ r * rd l (m : Int) ≤ 1000 * 1048576 := ⟨Int.mul_nonneg r0 xb.1, Int.mul_le_mul (by omega) xb.2 xb.1 (by omega)⟩
  unfold wsum
  rw [Int.toNat_natCast]
  have h1 := ub i hi
  have h2 := ub m hm
  by_cases c : (i : Int) ≤ m
  · rw [if_pos c]; omega
  · rw [if_neg c]; omega
theorem wsum_end (l : List Int) (hl : l.length ≤ 200) (hb : ∀ x ∈ l, 0 ≤ x ∧ x ≤ 1048576) (up r t : Int) (u1 : 1 ≤ up) (u2 : up ≤ 1000) (r0 : 0 ≤ r) (r1 : r < up) (m : Nat) (hm : m ≤ l.length) (hq : t / up = m) (hr : t % up = r) (hz : (m : Int) = l.length → r = 0) :
    wrap64 (Int.tdiv (wsum l up m r l.length) up) = upv (PS l) l up t 1 := by
  obtain ⟨b0, b1⟩ := wsum_bd l hl hb up r u1 u2 r0 r1 m l.length (Nat.le_refl _) hm
  rw [Int.tdiv_eq_ediv_of_nonneg b0]
  have d0 := Int.ediv_nonneg (b := up) b0 (by omega)
  have d1 := Int.ediv_le_self (a := wsum l up m r l.length) up b0
  rw [w64 (by omega) (by omega)]
  clear b0 b1 d0 d1
  unfold upv wsum
  rw [Int.one_mul, hq, hr, PS_rd l m hm, Int.toNat_natCast]
  by_cases c : (l.length : Int) ≤ m
  · have hml : m = l.length := by omega
    subst hml
    rw [if_pos c, if_pos (hz rfl), Int.mul_ediv_cancel_left _ (by omega)]
  · rw [if_neg c, Int.mul_add_ediv_left _ _ (by omega)]
    by_cases c2 : r = 0
    · rw [if_pos c2, c2]; simp
    · rw [if_neg c2]

theorem upto_loop (l : List Int) (hl : l.length ≤ 200) (hb : ∀ x ∈ l, 0 ≤ x ∧ x ≤ 1048576) (t up r : Int) (u1 : 1 ≤ up) (u2 : up ≤ 1000) (t0 : 0 ≤ t) (t2 : t ≤ 200000) (m : Nat) (hm : m ≤ l.length) (hq : t / up = m) (hr : t % up = r) (hz : (m : Int) = l.length → r = 0) :
    ∀ (d i : Nat), i + d = l.length → Ev (fun k => bakeref3_Upto.l0 k t up (wsum l up m r i) l (l.length : Int) (i : Int)) (upv (PS l) l up t 1) := by
  have e : up * (m : Int) + r = t := by rw [← hq, ← hr]; exact Int.mul_ediv_add_emod t up
  have r0 : 0 ≤ r := by rw [← hr]; exact Int.emod_nonneg _ (by omega)
  have r1 : r < up := by rw [← hr]; exact Int.emod_lt_of_pos _ (by omega)
  intro d
  induction d with
  | zero =>
    intro i h
    refine Ev.step (fun k => by rw [bakeref3_Upto.l0]) ?_
    refine Ev.no (by omega) (Ev.no (by omega) (Ev.some ?_))
    have hi : i = l.length := by omega
    subst hi
    exact wsum_end l hl hb up r t u1 u2 r0 r1 m hm hq hr hz
  | succ d ih =>
    intro i h
    have ih := ih (i + 1) (by omega)
    have hn : wrap64 ((i : Int) + 1) = ((i + 1 : Nat) : Int) := by rw [w64 (by omega) (by omega)]; simp
    have key : wrap64 (wsum l up m r i + wrap64 (rd l (i : Int) * mx 0 (mn up (wrap64 (t - wrap64 ((i : Int) * up)))))) = wsum l up m r (i + 1) := by
      clear ih hn
      have hiu0 : 0 ≤ (i : Int) * up := Int.mul_nonneg (by omega) (by omega)
      have hiu1 : (i : Int) * up ≤ 200 * 1000 := Int.mul_le_mul (by omega) u2 (by omega) (by omega)
      rw [w64 (x := (i : Int) * up) (by omega) (by omega), w64 (x := t - (i : Int) * up) (by omega) (by omega)]
      have hv := clampv t up (i : Int) m r u1 e r0 r1
      obtain ⟨v, hvv⟩ : ∃ v, mx 0 (mn up (t - (i : Int) * up)) = v := ⟨_, rfl⟩
      rw [hvv] at hv ⊢
      have st := wsum_step l hb up r m i (by omega) v hv
      have b0 := wsum_bd l hl hb up r u1 u2 r0 r1 m i (by omega) hm
      have b1 := wsum_bd l hl hb up r u1 u2 r0 r1 m (i + 1) (by omega) hm
      obtain ⟨y, hy⟩ : ∃ y, rd l (i : Int) * v = y := ⟨_, rfl⟩
      rw [hy] at st ⊢
      rw [w64 (x := y) (by omega) (by omega), ← st]
      exact w64 (by omega) (by omega)
    refine Ev.step (fun k => by rw [bakeref3_Upto.l0]) ?_
    rw [key, hn]
    have c1 : (i : Int) < (l.length : Int) := by clear hq hr e key ih; omega
    have c2 : 0 ≤ (i : Int) := Int.natCast_nonneg i
    exact Ev.yes c1 (Ev.yes c2 (Ev.yes c1 ih))

theorem upto (l : List Int) (hl : l.length ≤ 200) (hb : ∀ x ∈ l, 0 ≤ x ∧ x ≤ 1048576) (t up : Int) (u1 : 1 ≤ up) (u2 : up ≤ 1000) (t0 : 0 ≤ t) (t1 : t ≤ (l.length : Int) * up) : Ev (fun k => bakeref3_Upto.f k l t up) (upv (PS l) l up t 1) := by
  unfold bakeref3_Upto.f
  have q0 : 0 ≤ t / up := Int.ediv_nonneg t0 (by omega)
  have ql : t / up ≤ l.length := Int.ediv_le_of_le_mul (by omega) t1
  have tb : (l.length : Int) * up ≤ 200 * 1000 := Int.mul_le_mul (by omega) u2 (by omega) (by omega)
  obtain ⟨m, hm⟩ : ∃ m : Nat, t / up = m := ⟨(t / up).toNat, by omega⟩
  have := upto_loop l hl hb t up (t % up) u1 u2 t0 (by omega) m (by omega) hm rfl (fun h => by
    have e := Int.mul_ediv_add_emod t up
    have r0 : 0 ≤ t % up := Int.emod_nonneg _ (by omega)
    rw [hm, h, Int.mul_comm] at e
    omega) l.length 0 (by omega)
  unfold wsum at this
  rw [if_pos (by omega)] at this
  simpa [psum] using this
theorem upv_one (p l : List Int) (up down k : Int) : upv p l up (k * down) 1 = upv p l up down k := by
  unfold upv
  rw [Int.one_mul]

theorem rates_loop (l : List Int) (hl : l.length ≤ 200) (hb : ∀ x ∈ l, 0 ≤ x ∧ x ≤ 1048576) (up down : Int) (u1 : 1 ≤ up) (u2 : up ≤ 1000) (d1 : 1 ≤ down) (d2 : down ≤ 1000) {n : Nat} (hn : (l.length : Int) * up / down = n) :
    ∀ (d i : Nat), i + d = n → Ev (fun k => bakelaw3_SampRates.l0 k l up down (rsm l up down) (n : Int) (i : Int)) true := by
  have hlen : (rsm l up down).length = n := by unfold rsm; rw [hn]; simp
  have hnb : (n : Int) ≤ 200000 := by
    rw [← hn]
    have h1 : (l.length : Int) * up ≤ 200 * 1000 := Int.mul_le_mul (by omega) u2 (by omega) (by omega)
    have h2 := Int.ediv_le_self (a := (l.length : Int) * up) down (Int.mul_nonneg (by omega) (by omega))
    omega
  intro d
  induction d with
  | zero =>
    intro i h
    refine Ev.step (fun k => by rw [bakelaw3_SampRates.l0]) ?_
    exact Ev.no (by omega) (Ev.now true)
  | succ d ih =>
    intro i h
    have ih := ih (i + 1) (by omega)
    have hw : wrap64 ((i : Int) + 1) = ((i + 1 : Nat) : Int) := by rw [w64 (by omega) (by omega)]; simp
    have g : ∀ kk : Int, 0 ≤ kk → kk ≤ n → kk * down ≤ (l.length : Int) * up := by
      intro kk k0 k1
      have a1 : kk * down ≤ (n : Int) * down := Int.mul_le_mul_of_nonneg_right k1 (by omega)
      have a2 : (n : Int) * down ≤ (l.length : Int) * up := by rw [← hn]; exact Int.ediv_mul_le _ (by omega)
      omega
    have lu : (l.length : Int) * up ≤ 200 * 1000 := Int.mul_le_mul (by omega) u2 (by omega) (by omega)
    have f1 := upto_fits l (by omega) hb u1 u2 d1 (kk := (i : Int) + 1) hn (by omega) (by omega)
    have f0 := upto_fits l (by omega) hb u1 u2 d1 (kk := (i : Int)) hn (by omega) (by omega)
    have t1 := g ((i : Int) + 1) (by omega) (by omega)
    have t0 := g (i : Int) (by omega) (by omega)
    have hr : rd (rsm l up down) (i : Int) = upv (PS l) l up down ((i : Int) + 1) - upv (PS l) l up down (i : Int) := by
      rw [rd_nat, List.getD_eq_getElem?_getD, List.getElem?_eq_getElem (by omega)]
      unfold rsm
      simp
    have c1 : ((i + 1 : Nat) : Int) = (i : Int) + 1 := by simp
    refine Ev.step (fun k => by rw [bakelaw3_SampRates.l0]) ?_
    rw [hw, hr]
    refine Ev.yes (by omega) (Ev.yes (by omega) (Ev.yes (by omega) (Ev.ite (fun c => ?_) (fun c => ih))))
    rw [c1] at ih ⊢
    rw [w64 (x := ((i : Int) + 1) * down) (by omega) (by omega), w64 (x := (i : Int) * down) (by omega) (by omega)]
    refine Ev.bind (upto l hl hb _ up u1 u2 (by omega) t1) (Ev.bind (upto l hl hb _ up u1 u2 (by omega) t0) ?_)
    rw [upv_one, upv_one, w64 (x := upv (PS l) l up down ((i : Int) + 1) - upv (PS l) l up down (i : Int)) (by omega) (by omega)]
    exact Ev.yes rfl ih

theorem rates (l0 : List Int) (a1 a2 : Int) (hl0 : l0.length ≤ 140737488351232) : ∃ k, bakelaw3_SampRates.f k l0 a1 a2 = some true := by
  refine Ev.rounds ?_
  unfold bakelaw3_SampRates.f
  obtain ⟨c, hc⟩ : ∃ c, mn (l0.length : Int) 200 = c := ⟨_, rfl⟩
  have hcb : 0 ≤ c ∧ c ≤ l0.length ∧ c ≤ 200 := by
    rw [← hc]; unfold mn; split <;> omega
  rw [hc]
  refine Ev.yes hcb.1 (Ev.yes hcb.2.1 ?_)
  obtain ⟨l, hl⟩ : ∃ l, l0.take c.toNat = l := ⟨_, rfl⟩
  rw [hl]
  have hlen : l.length ≤ 200 := by rw [← hl, List.length_take]; omega
  have three : ∀ f, (resR l a1 a2).2 = f → Ev (fun k => bakelaw3_SampRates.j3 k l a1 a2 f) true := by
    intro f hf
    refine Ev.step (fun k => by rw [bakelaw3_SampRates.j3]) ?_
    refine Ev.bind (resample l (by omega) a1 a2) (Ev.bind heard (Ev.yes rfl (Ev.yes hf ?_)))
    have four : Ev (fun k => bakelaw3_SampRates.j4 k l a1 a2 f (resR l a1 a2).1 false) true := by
      refine Ev.step (fun k => by rw [bakelaw3_SampRates.j4]) ?_
      have five : (resR l a1 a2).1 = [] ∨ (resR l a1 a2).2 = 0 → Ev (fun k => bakelaw3_SampRates.j5 k l a1 a2 (resR l a1 a2).1 false) true := by
        intro hh
        refine Ev.step (fun k => by rw [bakelaw3_SampRates.j5]) ?_
        refine Ev.no (by simp) ?_
        by_cases z : (resR l a1 a2).1 = []
        · rw [z]
          refine Ev.step (fun k => by rw [bakelaw3_SampRates.l0]) ?_
          exact Ev.no (by simp) (Ev.now true)
        · have h0 : (resR l a1 a2).2 = 0 := by rcases hh with h | h; exact absurd h z; exact h
          unfold resR at h0 z ⊢
          by_cases c1 : CK l = 0
          · rw [if_pos c1] at h0 z ⊢
            by_cases c2 : 1 ≤ a1 ∧ a1 ≤ 1000 ∧ 1 ≤ a2 ∧ a2 ≤ 1000
            · rw [if_pos c2] at h0 z ⊢
              by_cases c3 : (l.length : Int) * a1 / a2 > 100000
              · rw [if_pos c3] at z; exact absurd rfl z
              · rw [if_neg c3] at h0 z ⊢
                obtain ⟨_, hb⟩ := CK_zero c1
                have n0 : 0 ≤ (l.length : Int) * a1 / a2 := Int.ediv_nonneg (Int.mul_nonneg (by omega) (by omega)) (by omega)
                obtain ⟨n, hn⟩ : ∃ n : Nat, (l.length : Int) * a1 / a2 = n := ⟨((l.length : Int) * a1 / a2).toNat, by omega⟩
                have hlr : ((rsm l a1 a2).length : Int) = n := by unfold rsm; rw [hn]; simp
                show Ev (fun k => bakelaw3_SampRates.l0 k l a1 a2 (rsm l a1 a2) ((rsm l a1 a2).length : Int) 0) true
                rw [hlr]
                exact rates_loop l hlen hb a1 a2 c2.1 c2.2.1 c2.2.2.1 c2.2.2.2 hn n 0 (by omega)
            · rw [if_neg c2] at z; exact absurd rfl z
          · rw [if_neg c1] at z; exact absurd rfl z
      refine Ev.no (by simp) (Ev.ite (fun c1 => ?_) (fun c1 => five ?_))
      · subst c1
        have hz : CK l = 0 ∧ (1 ≤ a1 ∧ a1 ≤ 1000 ∧ 1 ≤ a2 ∧ a2 ≤ 1000) ∧ resR l a1 a2 = (rsm l a1 a2, 0) := by
          unfold resR at hf ⊢
          by_cases c1 : CK l = 0
          · rw [if_pos c1] at hf ⊢
            by_cases c2 : 1 ≤ a1 ∧ a1 ≤ 1000 ∧ 1 ≤ a2 ∧ a2 ≤ 1000
            · rw [if_pos c2] at hf ⊢
              by_cases c3 : (l.length : Int) * a1 / a2 > 100000
              · rw [if_pos c3] at hf; simp at hf
              · rw [if_neg c3]; exact ⟨c1, c2, rfl⟩
            · rw [if_neg c2] at hf; simp at hf
          · rw [if_neg c1] at hf; exact absurd hf c1
        obtain ⟨_, c2, hr⟩ := hz
        have m0 : 0 ≤ (l.length : Int) * a1 := Int.mul_nonneg (by omega) (by omega)
        have m1 : (l.length : Int) * a1 ≤ 200 * 1000 := Int.mul_le_mul (by omega) (by omega) (by omega) (by omega)
        have m2 : 0 ≤ (l.length : Int) * a1 / a2 := Int.ediv_nonneg m0 (by omega)
        have m3 := Int.ediv_le_self (a := (l.length : Int) * a1) a2 m0
        refine Ev.no (by omega) ?_
        have hlr : ((rsm l a1 a2).length : Int) = (l.length : Int) * a1 / a2 := by unfold rsm; simp; omega
        have : (((resR l a1 a2).1.length : Int) != wrap64 (Int.tdiv (wrap64 ((l.length : Int) * a1)) a2)) = false := by
          rw [hr, w64 (x := (l.length : Int) * a1) (by omega) (by omega), Int.tdiv_eq_ediv_of_nonneg m0, w64 (x := (l.length : Int) * a1 / a2) (by omega) (by omega)]
          simp [hlr]
        rw [this]
        exact five (.inr (by rw [hr]))
      · left
        unfold resR at hf ⊢
        by_cases c1 : CK l = 0
        · rw [if_pos c1] at hf ⊢
          by_cases c2 : 1 ≤ a1 ∧ a1 ≤ 1000 ∧ 1 ≤ a2 ∧ a2 ≤ 1000
          · rw [if_pos c2] at hf ⊢
            by_cases c3 : (l.length : Int) * a1 / a2 > 100000
            · rw [if_pos c3]
            · rw [if_neg c3] at hf; simp at hf; omega
          · rw [if_neg c2]
        · rw [if_neg c1]
    refine Ev.ite (fun c1 => four) (fun c1 => ?_)
    have hz : (resR l a1 a2).1 = [] := by
      unfold resR at hf ⊢
      by_cases c1 : CK l = 0
      · rw [if_pos c1] at hf ⊢
        by_cases c2 : 1 ≤ a1 ∧ a1 ≤ 1000 ∧ 1 ≤ a2 ∧ a2 ≤ 1000
        · rw [if_pos c2] at hf ⊢
          by_cases c3 : (l.length : Int) * a1 / a2 > 100000
          · rw [if_pos c3]
          · rw [if_neg c3] at hf; simp at hf; omega
        · rw [if_neg c2]
      · rw [if_neg c1]
    have : decide (((resR l a1 a2).1.length : Int) > 0) = false := by rw [hz]; rfl
    rw [this]
    exact four
  have one : ∀ f, (if CK l = 0 then (if 1 ≤ a1 ∧ a1 ≤ 1000 ∧ 1 ≤ a2 ∧ a2 ≤ 1000 then 0 else 1) else CK l) = f → Ev (fun k => bakelaw3_SampRates.j1 k l a1 a2 f) true := by
    intro f hf
    refine Ev.step (fun k => by rw [bakelaw3_SampRates.j1]) ?_
    have two : ∀ b : Bool, (resR l a1 a2).2 = (if b then 6 else f) → Ev (fun k => bakelaw3_SampRates.j2 k l a1 a2 f b) true := by
      intro b hb
      refine Ev.step (fun k => by rw [bakelaw3_SampRates.j2]) ?_
      exact Ev.ite (fun c => three 6 (by rw [hb, if_pos c])) (fun c => three f (by rw [hb, if_neg c]))
    refine Ev.ite (fun c => ?_) (fun c => two false ?_)
    · subst c
      by_cases c1 : CK l = 0
      · rw [if_pos c1] at hf
        by_cases c2 : 1 ≤ a1 ∧ a1 ≤ 1000 ∧ 1 ≤ a2 ∧ a2 ≤ 1000
        · have m0 : 0 ≤ (l.length : Int) * a1 := Int.mul_nonneg (by omega) (by omega)
          have m1 : (l.length : Int) * a1 ≤ 200 * 1000 := Int.mul_le_mul (by omega) (by omega) (by omega) (by omega)
          have m2 : 0 ≤ (l.length : Int) * a1 / a2 := Int.ediv_nonneg m0 (by omega)
          have m3 := Int.ediv_le_self (a := (l.length : Int) * a1) a2 m0
          refine Ev.no (by omega) (two _ ?_)
          rw [w64 (x := (l.length : Int) * a1) (by omega) (by omega), Int.tdiv_eq_ediv_of_nonneg m0, w64 (x := (l.length : Int) * a1 / a2) (by omega) (by omega)]
          unfold resR
          rw [if_pos c1, if_pos c2]
          by_cases c3 : (l.length : Int) * a1 / a2 > 100000
          · rw [if_pos c3, decide_eq_true c3]; rfl
          · rw [if_neg c3, decide_eq_false c3]; rfl
        · rw [if_neg c2] at hf; omega
      · rw [if_neg c1] at hf; exact absurd hf c1
    · rw [if_neg (by simp)]
      unfold resR
      by_cases c1 : CK l = 0
      · rw [if_pos c1] at hf ⊢
        by_cases c2 : 1 ≤ a1 ∧ a1 ≤ 1000 ∧ 1 ≤ a2 ∧ a2 ≤ 1000
        · rw [if_pos c2] at hf; omega
        · rw [if_neg c2] at hf ⊢; exact hf
      · rw [if_neg c1] at hf ⊢; exact hf
  have zero : ∀ b : Bool, (b = true ↔ (CK l = 0 ∧ ¬ (1 ≤ a1 ∧ a1 ≤ 1000 ∧ 1 ≤ a2 ∧ a2 ≤ 1000))) → Ev (fun k => bakelaw3_SampRates.j0 k l a1 a2 (CK l) b) true := by
    intro b hb
    refine Ev.step (fun k => by rw [bakelaw3_SampRates.j0]) ?_
    refine Ev.ite (fun c => one 1 ?_) (fun c => one _ ?_)
    · rw [if_pos (hb.1 c).1, if_neg (hb.1 c).2]
    · by_cases c1 : CK l = 0
      · rw [if_pos c1]
        by_cases c2 : 1 ≤ a1 ∧ a1 ≤ 1000 ∧ 1 ≤ a2 ∧ a2 ≤ 1000
        · rw [if_pos c2, c1]
        · exact absurd (hb.2 ⟨c1, c2⟩) c
      · rw [if_neg c1]
  refine Ev.bind (level l (by omega)) (Ev.ite (fun c => ?_) (fun c => zero false (by simp [c])))
  refine Ev.ite (fun d => zero true (by simp [c]; omega)) (fun d => ?_)
  refine Ev.ite (fun d => zero true (by simp [c]; omega)) (fun d => ?_)
  refine Ev.ite (fun d => zero true (by simp [c]; omega)) (fun d => zero _ (by simp [c]; omega))
end Go.Proofs.Ytimkpdbghbhkkaa.SPu
