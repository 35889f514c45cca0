/- The law SampMixes: what is left of it holds. -/
import Derived.Test.YtimkpdbghbhkkaaSMxPu
import Derived.Test.YtimkpdbghbhkkaaQMx8
import Derived.Test.YtimkpdbghbhkkaaQMx18
import Derived.Test.YtimkpdbghbhkkaaQMx21
namespace Go.Proofs.Ytimkpdbghbhkkaa.SMb
open Go.RowKit Go.Proofs.YtimkpdbghbhkkaaW.PrintWords Go.Proofs.YtimkpdbghbhkkaaW.PrintMore Go.Proofs.Ytimkpdbghbhkkaa.Pu Go.Proofs.Ytimkpdbghbhkkaa.QM

theorem heard : Ev (fun k => bakelaw3_heard.f k) true := Ev.of bakelaw3_heard.mono (k := 60) (by decide +kernel)
theorem at_f (l : List Int) (i : Nat) : bakelaw3_SampMixes_1_137.f l (i : Int) = some (l.getD i 0) := by
  unfold bakelaw3_SampMixes_1_137.f
  by_cases c : (i : Int) < (l.length : Int)
  · rw [if_pos c, if_pos (by omega), rd_nat]
  · rw [if_neg c, getD_out l i (by omega)]
def law1 (a b : List Int) : Int := if CK a = 0 then CK b else CK a

/-- The last part: the least period. -/
theorem l3 (a : List Int) (hl : a.length ≤ 1000) (h1 : 1 ≤ a.length) (b : Nat) (hM : MB a a.length b) : ∀ (d q : Nat), q + d = a.length - b → 1 ≤ q → Ev (fun k => bakelaw3_SampMixes.l3 k a ((a.length : Int) - (b : Int)) (least a) (most a) (q : Int)) true := by
  intro d
  have hb := hM.1.1
  induction d with
  | zero =>
    intro q h hq
    have e1 : wrap64 ((a.length : Int) - (q : Int)) = ((a.length - q : Nat) : Int) := by rw [w64 (by omega) (by omega)]; omega
    refine Ev.step (fun k => by rw [bakelaw3_SampMixes.l3]) ?_
    rw [e1, tonat, tonat]
    have e : a.drop q = a.take (a.length - q) := (shift_border a hq (by omega)).2 (by rw [show a.length - q = b by omega]; exact hM.1)
    refine Ev.yes (by omega) (Ev.yes (by omega) (Ev.yes (by omega) (Ev.yes (by omega) (Ev.bind (equal _ _ (by simp; omega)) (Ev.yes (decide_eq_true e) (Ev.yes (by omega) (Ev.bind (smin a h1 (by omega)) (Ev.yes rfl (Ev.bind (smax a h1 (by omega)) (Ev.some (by simp)))))))))))
  | succ d ih =>
    intro q h hq
    have e1 : wrap64 ((a.length : Int) - (q : Int)) = ((a.length - q : Nat) : Int) := by rw [w64 (by omega) (by omega)]; omega
    refine Ev.step (fun k => by rw [bakelaw3_SampMixes.l3]) ?_
    rw [e1, tonat, tonat, wsucc (by omega)]
    have e : ¬ a.drop q = a.take (a.length - q) := fun z => by
      have := hM.2 _ ((shift_border a hq (by omega)).1 z)
      omega
    refine Ev.yes (by omega) (Ev.yes (by omega) (Ev.yes (by omega) (Ev.yes (by omega) (Ev.bind (equal _ _ (by simp; omega)) (Ev.no (by simpa using e) (ih (q + 1) (by omega) (by omega)))))))
theorem j12_none (a : List Int) : Ev (fun k => bakelaw3_SampMixes.j12 k a 0 0 0 true) true := by
  refine Ev.step (fun k => by rw [bakelaw3_SampMixes.j12]) ?_
  exact Ev.yes rfl (Ev.yes rfl (Ev.yes rfl (Ev.some rfl)))
theorem j11 (a : List Int) (hl : a.length ≤ 1000) (p lo hi : Int) (hp : Ev (fun k => samp_Period.f k a) (p, CK a)) (hr : Ev (fun k => samp_Range.f k a) (lo, hi, CK a)) : Ev (fun k => bakelaw3_SampMixes.j11 k a (CK a) p lo hi false) true := by
  refine Ev.step (fun k => by rw [bakelaw3_SampMixes.j11]) (Ev.no (by simp) ?_)
  have hr2 := range a (by omega)
  have dp : ∀ r, Ev (fun k => samp_Period.f k a) r → (p, CK a) = r := fun r h => by
    obtain ⟨K, hK⟩ := hp
    exact Ev.det (samp_Period.mono a) (hK K (Nat.le_refl _)) h
  have dr : ∀ r, Ev (fun k => samp_Range.f k a) r → (lo, hi, CK a) = r := fun r h => by
    obtain ⟨K, hK⟩ := hr
    exact Ev.det (samp_Range.mono a) (hK K (Nat.le_refl _)) h
  have hr3 := dr _ hr2
  refine Ev.ite (fun c => ?_) (fun c => ?_)
  · rw [if_pos c] at hr3
    by_cases z : a = []
    · subst z
      rw [if_pos rfl] at hr3
      have hp3 := dp _ period_none
      simp only [Prod.mk.injEq] at hr3 hp3
      rw [hp3.1, hr3.1, hr3.2.1]
      exact j12_none []
    · rw [if_neg z] at hr3
      have h1 : 1 ≤ a.length := List.length_pos_iff.2 z
      obtain ⟨b, hM, hE⟩ := period a c h1
      have hp3 := dp _ hE
      simp only [Prod.mk.injEq] at hr3 hp3
      rw [hp3.1, hr3.1, hr3.2.1]
      have hb := hM.1.1
      refine Ev.step (fun k => by rw [bakelaw3_SampMixes.j12]) (Ev.no (by simp; omega) ?_)
      exact l3 a hl h1 b hM _ 1 (show 1 + (a.length - b - 1) = a.length - b by omega) (by omega)
  · rw [if_neg c] at hr3
    have hp3 := dp _ (period_bad a (by omega) c)
    simp only [Prod.mk.injEq] at hr3 hp3
    rw [hp3.1, hr3.1, hr3.2.1]
    exact j12_none a
theorem j10 (a : List Int) (hl : a.length ≤ 1000) (x : List Int) (e : Int) (hx : x.length ≤ 1000) : Ev (fun k => bakelaw3_SampMixes.j10 k a e e (CK a) x x) true := by
  have go : ∀ (p lo hi : Int), Ev (fun k => samp_Period.f k a) (p, CK a) → Ev (fun k => samp_Range.f k a) (lo, hi, CK a) → Ev (fun k => bakelaw3_SampMixes.j10 k a e e (CK a) x x) true := by
    intro p lo hi hp hr
    refine Ev.step (fun k => by rw [bakelaw3_SampMixes.j10]) ?_
    refine Ev.bind hp (Ev.bind hr (Ev.yes rfl (Ev.bind (equal x x (by omega)) (Ev.yes (decide_eq_true rfl) (Ev.yes rfl ?_)))))
    have : (CK a != CK a) = false := by simp
    rw [this]
    exact j11 a hl p lo hi hp hr
  have hr := range a (by omega)
  by_cases c : CK a = 0
  · rw [if_pos c] at hr
    by_cases z : a = []
    · subst z
      rw [if_pos rfl] at hr
      exact go 0 0 0 period_none hr
    · rw [if_neg z] at hr
      obtain ⟨b, hM, hE⟩ := period a c (List.length_pos_iff.2 z)
      exact go _ _ _ (by rw [c]; exact hE) (by rw [c]; exact hr)
  · rw [if_neg c] at hr
    exact go _ _ _ (period_bad a (by omega) c) hr

/-- The means, level by level. -/
theorem l2 (a : List Int) (n : Int) (e f g : Int) (x y : List Int) (i kk : Nat) (N I : Int) (win : List Int) (hw : win.length ≤ 1000) (hb : ∀ z ∈ win, 0 ≤ z ∧ z ≤ 1048576) (S : Int) (hS : S = win.sum) {r : Bool} (hi : i ≤ 1000) (hk : kk ≤ i) (hy : y.length ≤ 1000) (hE : Ev (fun k => bakelaw3_SampMixes.l1 k a n e f g x (y ++ [wrap64 (Int.tdiv S ((i + 1 - kk : Nat) : Int))]) N (wrap64 (I + 1))) r) : ∀ (d j : Nat), j + d = win.length → Ev (fun k => bakelaw3_SampMixes.l2 k a n e f g x y (i : Int) ((win.take j).sum) (kk : Int) N I win (win.length : Int) (j : Int)) r := by
  intro d
  have e1 : wrap64 (((i + 1 : Nat) : Int) - (kk : Int)) = ((i + 1 - kk : Nat) : Int) := by rw [w64 (by omega) (by omega)]; omega
  induction d with
  | zero =>
    intro j h
    refine Ev.step (fun k => by rw [bakelaw3_SampMixes.l2]) ?_
    rw [wsucc (i := i) (by omega), e1, show (win.take j).sum = S by rw [List.take_of_length_le (by omega), hS]]
    exact Ev.no (by omega) (Ev.no (by omega) (Ev.yes (by omega) hE))
  | succ d ih =>
    intro j h
    have ih := ih (j + 1) (by omega)
    have b1 := psum_bd win hb (j + 1)
    have b2 := psum_succ win j (by omega)
    refine Ev.step (fun k => by rw [bakelaw3_SampMixes.l2]) ?_
    have e2 : wrap64 ((win.take j).sum + rd win (j : Int)) = (win.take (j + 1)).sum := by
      show wrap64 (psum win j + rd win (j : Int)) = psum win (j + 1)
      rw [← b2]
      exact w64 (by omega) (by omega)
    rw [e2, wsucc (by omega)]
    exact Ev.yes (by omega) (Ev.yes (by omega) (Ev.yes (by omega) ih))
theorem win_sum (a : List Int) (i kk : Nat) (h : kk ≤ i) : ((a.take i).drop kk).sum = psum a i - psum a kk := by
  have e := congrArg List.sum (List.take_append_drop kk (a.take i))
  rw [List.sum_append, List.take_take, Nat.min_eq_left h] at e
  unfold psum
  omega
theorem mx_zero (i n : Nat) : mx 0 (wrap64 (((i : Nat) : Int) - (n : Int))) = ((i - min n i : Nat) : Int) ∨ ¬ (i ≤ 1000 ∧ n ≤ 1000) := by
  by_cases c : i ≤ 1000 ∧ n ≤ 1000
  · refine .inl ?_
    rw [w64 (by omega) (by omega)]
    unfold mx
    split <;> omega
  · exact .inr c
theorem l1 (a : List Int) (hl : a.length ≤ 1000) (hb : ∀ z ∈ a, 0 ≤ z ∧ z ≤ 1048576) (n : Nat) (h1 : 1 ≤ n) (h2 : n ≤ 1000) : ∀ (d i : Nat), i + d = a.length → Ev (fun k => bakelaw3_SampMixes.l1 k a (n : Int) 0 0 (CK a) (SV a n) ((List.range i).map (sv a n)) (a.length : Int) (i : Int)) true := by
  intro d
  induction d with
  | zero =>
    intro i h
    refine Ev.step (fun k => by rw [bakelaw3_SampMixes.l1]) ?_
    refine Ev.no (by omega) ?_
    rw [show i = a.length by omega]
    exact j10 a hl (SV a n) 0 (by unfold SV; simp; omega)
  | succ d ih =>
    intro i h
    have ih := ih (i + 1) (by omega)
    have e : (List.range (i + 1)).map (sv a n) = (List.range i).map (sv a n) ++ [sv a n i] := by rw [List.range_succ, List.map_append]; rfl
    rw [e] at ih
    have em : mx 0 (wrap64 (((i + 1 : Nat) : Int) - (n : Int))) = ((i + 1 - min n (i + 1) : Nat) : Int) := (mx_zero (i + 1) n).resolve_right (by omega)
    refine Ev.step (fun k => by rw [bakelaw3_SampMixes.l1]) ?_
    rw [wsucc (i := i) (by omega), em, tonat, tonat]
    refine Ev.yes (by omega) (Ev.yes rfl (Ev.yes (by omega) (Ev.yes (by omega) (Ev.yes (by omega) (Ev.const ?_)))))
    refine l2 a n 0 0 (CK a) (SV a n) _ i (i + 1 - min n (i + 1)) _ (i : Int) _ (by simp; omega) (fun z hz => hb z (List.mem_of_mem_take (List.mem_of_mem_drop hz))) (psum a (i + 1) - psum a (i + 1 - min n (i + 1))) (win_sum a (i + 1) _ (by omega)).symm (by omega) (by omega) (by simp; omega) ?_ _ 0 (Nat.zero_add _)
    rw [wsucc (by omega), show i + 1 - (i + 1 - min n (i + 1)) = min n (i + 1) by omega]
    exact ih
theorem j5 (a : List Int) (hl : a.length ≤ 200) (n : Int) : Ev (fun k => bakelaw3_SampMixes.j5 k a n (CK a) false) true := by
  refine Ev.step (fun k => by rw [bakelaw3_SampMixes.j5]) (Ev.no (by simp) (Ev.bind (smooth a (by omega) n) ?_))
  have j7 : Ev (fun k => bakelaw3_SampMixes.j7 k a n (smF a n) (smF a n) (CK a) (if smF a n = 0 then SV a n.toNat else [])) true := by
    refine Ev.step (fun k => by rw [bakelaw3_SampMixes.j7]) ?_
    by_cases c : smF a n = 0
    · rw [if_pos c, c]
      have c2 := c
      unfold smF at c2
      by_cases c3 : CK a = 0
      · rw [if_pos c3] at c2
        by_cases c4 : 1 ≤ n ∧ n ≤ 1000
        · obtain ⟨m, rfl⟩ : ∃ m : Nat, n = m := ⟨n.toNat, by omega⟩
          exact l1 a (by omega) (CK_zero c3).2 m (by omega) (by omega) a.length 0 (by omega)
        · rw [if_neg c4] at c2; omega
      · rw [if_neg c3] at c2; exact absurd c2 c3
    · rw [if_neg c]
      refine Ev.step (fun k => by rw [bakelaw3_SampMixes.l1]) ?_
      exact Ev.ite (fun _ => Ev.no c (j10 a (by omega) [] _ (by simp))) (fun _ => j10 a (by omega) [] _ (by simp))
  have j6 : ∀ b : Bool, smF a n = (if b = true then 1 else CK a) → Ev (fun k => bakelaw3_SampMixes.j6 k a n (smF a n) (CK a) (CK a) (if smF a n = 0 then SV a n.toNat else []) b) true := by
    intro b hb
    refine Ev.step (fun k => by rw [bakelaw3_SampMixes.j6]) (Ev.ite (fun c => ?_) (fun c => ?_))
    · rw [if_pos c] at hb
      have := j7
      rw [hb] at this ⊢
      exact this
    · rw [if_neg c] at hb
      have := j7
      rw [hb] at this ⊢
      exact this
  refine Ev.ite (fun c => ?_) (fun c => j6 false (by unfold smF; rw [if_neg c]; simp))
  refine Ev.ite (fun d => j6 true (by unfold smF; rw [if_pos c, if_neg (show ¬ (1 ≤ n ∧ n ≤ 1000) by omega)]; simp)) (fun d => j6 _ ?_)
  unfold smF
  rw [if_pos c, c]
  by_cases z : n > 1000
  · rw [decide_eq_true z, if_neg (show ¬ (1 ≤ n ∧ n ≤ 1000) by omega)]; rfl
  · rw [decide_eq_false z, if_pos (show 1 ≤ n ∧ n ≤ 1000 by omega)]; simp
/-- The sums, level by level. -/
theorem mixV_len (a b : List Int) : (mixV a b).length = max a.length b.length := by unfold mixV; simp
theorem j4 (a b : List Int) (ha : a.length ≤ 200) (hb : b.length ≤ 200) (n : Int) (x : List Int) (e : Int) (hx : x.length ≤ 1000) : Ev (fun k => bakelaw3_SampMixes.j4 k a n x e e (CK a) x) true := by
  refine Ev.step (fun k => by rw [bakelaw3_SampMixes.j4]) (Ev.bind heard (Ev.yes rfl (Ev.yes rfl (Ev.bind (equal x x (by omega)) ?_))))
  rw [decide_eq_true rfl]
  exact j5 a ha n
theorem l0 (a b : List Int) (ha : a.length ≤ 200) (hb : b.length ≤ 200) (n : Int) : ∀ (d i : Nat) (x : List Int), i + d = max a.length b.length → x.length = i → (law1 a b = 0 → x = (List.range i).map fun i => 2 * a.getD i 0 + b.getD i 0) → Ev (fun k => bakelaw3_SampMixes.l0 k a b n (if mixF a b = 0 then mixV a b else []) (mixF a b) (law1 a b) (CK a) x ((max a.length b.length : Nat) : Int) (i : Int)) true := by
  intro d
  have hml := mixV_len a b
  have j3 : ∀ (e : Int) (x : List Int), e = mixF a b → (mixF a b = 0 → x = mixV a b) → Ev (fun k => bakelaw3_SampMixes.j3 k a n (if mixF a b = 0 then mixV a b else []) (mixF a b) e (CK a) x) true := by
    rintro e x rfl hx
    refine Ev.step (fun k => by rw [bakelaw3_SampMixes.j3]) (Ev.ite (fun c => ?_) (fun c => ?_))
    · rw [if_pos c, hx c]
      exact j4 a b ha hb n _ _ (by omega)
    · rw [if_neg c]
      exact j4 a b ha hb n _ _ (by simp)
  induction d with
  | zero =>
    intro i x h hxl hx
    refine Ev.step (fun k => by rw [bakelaw3_SampMixes.l0]) (Ev.no (by omega) ?_)
    refine Ev.ite (fun c => ?_) (fun c => ?_)
    · have hx := hx c
      have hxm : x = mixV a b := by rw [hx, show i = max a.length b.length by omega]; rfl
      refine Ev.bind (contains x (by omega)) ?_
      refine Ev.step (fun k => by rw [bakelaw3_SampMixes.j2]) ?_
      have cc : CK a = 0 ∧ CK b = 0 := by
        unfold law1 at c
        by_cases z : CK a = 0
        · rw [if_pos z] at c; exact ⟨z, c⟩
        · rw [if_neg z] at c; exact absurd c z
      have hF : mixF a b = if ∃ x ∈ mixV a b, x > 1048576 then 21 else 0 := by unfold mixF; rw [if_pos cc.1, if_pos cc.2]
      refine Ev.ite (fun z => ?_) (fun z => ?_)
      · have z := of_decide_eq_true z
        rw [hxm] at z
        exact j3 21 x (by rw [hF, if_pos z]) (fun _ => hxm)
      · have z := of_decide_eq_false (Bool.eq_false_iff.2 z)
        rw [hxm] at z
        exact j3 (law1 a b) x (by rw [hF, if_neg z, c]) (fun _ => hxm)
    · refine Ev.step (fun k => by rw [bakelaw3_SampMixes.j2]) (Ev.no (by simp) ?_)
      have hF : law1 a b = mixF a b := by
        unfold law1 at c ⊢
        unfold mixF
        by_cases z : CK a = 0
        · rw [if_pos z] at c ⊢; rw [if_pos z, if_neg c]
        · rw [if_neg z, if_neg z]
      exact j3 (law1 a b) x hF (fun z => absurd (hF.trans z) c)
  | succ d ih =>
    intro i x h hxl hx
    refine Ev.step (fun k => by rw [bakelaw3_SampMixes.l0]) (Ev.yes (by omega) (Ev.yes (by omega) (Ev.const ?_)))
    refine Ev.ite (fun c => ?_) (fun c => ?_)
    · have cc : CK a = 0 ∧ CK b = 0 := by
        unfold law1 at c
        by_cases z : CK a = 0
        · rw [if_pos z] at c; exact ⟨z, c⟩
        · rw [if_neg z] at c; exact absurd c z
      have g1 := good_getD (CK_zero cc.1).2 i
      have g2 := good_getD (CK_zero cc.2).2 i
      rw [at_f, at_f, tonat, wsucc (by omega)]
      refine Ev.const (Ev.const (Ev.yes (by omega) (Ev.yes (by simp; omega) ?_)))
      rw [w64 (x := 2 * a.getD i 0) (by omega) (by omega), w64 (x := 2 * a.getD i 0 + b.getD i 0) (by omega) (by omega)]
      refine ih (i + 1) _ (by omega) (by simp; omega) (fun _ => ?_)
      rw [List.range_succ, List.map_append, ← hx c]
      subst hxl
      rw [List.set_append_right _ _ (Nat.le_refl _)]
      simp
    · rw [wsucc (by omega)]
      exact ih (i + 1) _ (by omega) (by simp; omega) (fun z => absurd z c)
theorem mx_max (m n : Nat) : mx (m : Int) (n : Int) = ((max m n : Nat) : Int) := by unfold mx; split <;> omega
theorem law (p q : List Int) (n : Int) : ∃ k, bakelaw3_SampMixes.f k p q n = some true := by
  suffices h : Ev (fun k => bakelaw3_SampMixes.f k p q n) true by
    obtain ⟨K, hK⟩ := h
    exact ⟨K, hK K (Nat.le_refl _)⟩
  unfold bakelaw3_SampMixes.f
  have m1 : ∀ l : List Int, 0 ≤ mn (l.length : Int) 200 ∧ mn (l.length : Int) 200 ≤ (l.length : Int) ∧ (mn (l.length : Int) 200) ≤ 200 := fun l => by unfold mn; split <;> omega
  have hp := m1 p
  have hq := m1 q
  refine Ev.yes hp.1 (Ev.yes hp.2.1 (Ev.const (Ev.yes hq.1 (Ev.yes hq.2.1 (Ev.const ?_)))))
  generalize ha : p.take (mn (p.length : Int) 200).toNat = a
  generalize hb : q.take (mn (q.length : Int) 200).toNat = b
  have la : a.length ≤ 200 := by rw [← ha, List.length_take]; omega
  have lb : b.length ≤ 200 := by rw [← hb, List.length_take]; omega
  have fin : Ev (fun k => bakelaw3_SampMixes.j0 k a b n (if mixF a b = 0 then mixV a b else []) (mixF a b) (law1 a b) (CK a)) true := by
    refine Ev.step (fun k => by rw [bakelaw3_SampMixes.j0]) ?_
    rw [mx_max]
    exact l0 a b la lb n _ 0 [] (Nat.zero_add _) rfl (fun _ => rfl)
  refine Ev.bind (mix a b la lb) (Ev.bind (level a (by omega)) (Ev.ite (fun c => ?_) (fun c => ?_)))
  · refine Ev.bind (level b (by omega)) ?_
    have e : law1 a b = CK b := by unfold law1; rw [if_pos c]
    rw [e] at fin
    exact fin
  · have e : law1 a b = CK a := by unfold law1; rw [if_neg c]
    rw [e] at fin
    exact fin
end Go.Proofs.Ytimkpdbghbhkkaa.SMb
