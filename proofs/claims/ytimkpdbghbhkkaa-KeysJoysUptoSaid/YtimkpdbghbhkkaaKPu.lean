/- The plain law of Joy and Pens: what the printed functions compute is what the reference says. No program is in sight here. -/
import Derived.Test.YtimkpdbghbhkkaaPu
import Derived.Test.YtimkpdbghbhkkaaQKx3
import Derived.Test.YtimkpdbghbhkkaaQKx4
import Derived.Test.YtimkpdbghbhkkaaQKx5
import Derived.Test.YtimkpdbghbhkkaaQKx6
import Derived.Test.YtimkpdbghbhkkaaQKx8
import Derived.Test.YtimkpdbghbhkkaaQKx9
import Derived.Test.YtimkpdbghbhkkaaQKx10
namespace Go.Proofs.Ytimkpdbghbhkkaa.KPu
open Go.RowKit Go.Proofs.YtimkpdbghbhkkaaW.PrintWords Go.Proofs.YtimkpdbghbhkkaaW.PrintMore Go.Proofs.Ytimkpdbghbhkkaa.Pu Go.Proofs.Ytimkpdbghbhkkaa.QK

/-- What is wrong with times: none so far; last: the one before. -/
def tf (last : Int) : List Int → Int
  | [] => 0
  | t :: r => if t < 0 ∨ t > 100000 then 1 else if t < last then 9 else tf t r
def TF (l : List Int) : Int := if (l.length : Int) > 500 then 2 else tf 0 l

theorem fault_loop (l : List Int) (hl : l.length ≤ 140737488351232) : ∀ (suf pre : List Int) (last : Int), l = pre ++ suf → Ev (fun k => bakeref3_TimesFault.l0 k last l (l.length : Int) (pre.length : Int)) (tf last suf) := by
  intro suf
  induction suf with
  | nil =>
    intro pre last h
    subst h
    refine Ev.step (fun k => by rw [bakeref3_TimesFault.l0]) ?_
    exact Ev.no (by simp) (Ev.now 0)
  | cons x suf ih =>
    intro pre last h
    have hlen : (l.length : Int) = pre.length + suf.length + 1 := by rw [h]; exact len_mid pre suf x
    have hx : rd l (pre.length : Int) = x := by rw [h]; exact rd_mid pre suf x
    have hn : wrap64 ((pre.length : Int) + 1) = ((pre ++ [x]).length : Int) := by rw [w64 (by omega) (by omega)]; simp
    have ih := ih (pre ++ [x]) x (by rw [h]; simp)
    rw [← hn] at ih
    have hj : ∀ b : Bool, (b = true ↔ (x < 0 ∨ x > 100000)) → Ev (fun k => bakeref3_TimesFault.j1 k last x l (l.length : Int) (pre.length : Int) b) (tf last (x :: suf)) := by
      intro b hb
      refine Ev.step (fun k => by rw [bakeref3_TimesFault.j1]) ?_
      rw [tf]
      refine Ev.ite (fun c => ?_) (fun c => ?_)
      · rw [if_pos (hb.1 c)]
        exact Ev.now 1
      · rw [if_neg (fun h => c (hb.2 h))]
        refine Ev.ite (fun c => ?_) (fun c => ?_)
        · rw [if_pos c]
          exact Ev.now 9
        · rw [if_neg c]
          exact ih
    refine Ev.step (fun k => by rw [bakeref3_TimesFault.l0]) ?_
    refine Ev.yes (by omega) (Ev.yes (by omega) (Ev.yes (by omega) ?_))
    rw [hx]
    refine Ev.ite (fun c => hj true (by simp; omega)) (fun c => hj _ ?_)
    simp
    omega

theorem fault (l : List Int) (hl : l.length ≤ 140737488351232) : Ev (fun k => bakeref3_TimesFault.f k l) (TF l) := by
  unfold bakeref3_TimesFault.f TF
  refine Ev.ite (fun c => ?_) (fun c => ?_)
  · rw [if_pos c]
    exact Ev.now 2
  · rw [if_neg c]
    exact fault_loop l hl l [] 0 rfl

theorem times_loop (l : List Int) (hl : l.length ≤ 140737488351232) : ∀ (suf pre : List Int) (last : Int), l = pre ++ suf → (pre = [] ∧ last = 0 ∨ ∃ p, pre = p ++ [last]) → Ev (fun k => keys_times.l0 k l l (l.length : Int) (pre.length : Int)) (tf last suf) := by
  intro suf
  induction suf with
  | nil =>
    intro pre last h _
    subst h
    refine Ev.step (fun k => by rw [keys_times.l0]) ?_
    exact Ev.no (by simp) (Ev.now 0)
  | cons x suf ih =>
    intro pre last h hp
    have hlen : (l.length : Int) = pre.length + suf.length + 1 := by rw [h]; exact len_mid pre suf x
    have hx : rd l (pre.length : Int) = x := by rw [h]; exact rd_mid pre suf x
    have hn : wrap64 ((pre.length : Int) + 1) = ((pre ++ [x]).length : Int) := by rw [w64 (by omega) (by omega)]; simp
    have ih := ih (pre ++ [x]) x (by rw [h]; simp) (.inr ⟨pre, rfl⟩)
    rw [← hn] at ih
    have hj : ∀ b : Bool, (b = true ↔ (x < 0 ∨ x > 100000)) → Ev (fun k => keys_times.j1 k l (pre.length : Int) x l (l.length : Int) (pre.length : Int) b) (tf last (x :: suf)) := by
      intro b hb
      refine Ev.step (fun k => by rw [keys_times.j1]) ?_
      rw [tf]
      refine Ev.ite (fun c => ?_) (fun c => ?_)
      · rw [if_pos (hb.1 c)]
        exact Ev.now 1
      · have hc : ¬ (x < 0 ∨ x > 100000) := fun h => c (hb.2 h)
        rw [if_neg hc]
        rcases hp with ⟨rfl, rfl⟩ | ⟨p, rfl⟩
        · refine Ev.no (by simp) ?_
          rw [if_neg (by omega)]
          exact ih
        · have hw : wrap64 (((p ++ [last]).length : Int) - 1) = (p.length : Int) := by
            rw [w64 (by omega) (by omega)]; simp
          have hr : rd l (p.length : Int) = last := by
            rw [h, List.append_assoc]; exact rd_mid p _ last
          have hpl : ((p ++ [last]).length : Int) = p.length + 1 := by simp
          rw [hw, hr]
          refine Ev.yes (by omega) (Ev.yes (by omega) (Ev.yes (by omega) ?_))
          refine Ev.ite (fun c => ?_) (fun c => ?_)
          · rw [if_pos c]
            exact Ev.now 9
          · rw [if_neg c]
            exact ih
    refine Ev.step (fun k => by rw [keys_times.l0]) ?_
    refine Ev.yes (by omega) (Ev.yes (by omega) (Ev.yes (by omega) ?_))
    rw [hx]
    refine Ev.ite (fun c => hj true (by simp; omega)) (fun c => hj _ ?_)
    simp
    omega

theorem times (l : List Int) (hl : l.length ≤ 140737488351232) : Ev (fun k => keys_times.f k l) (TF l) := by
  unfold keys_times.f TF
  refine Ev.ite (fun c => ?_) (fun c => ?_)
  · rw [if_pos c]
    exact Ev.now 2
  · rw [if_neg c]
    exact times_loop l hl l [] 0 rfl (.inl ⟨rfl, rfl⟩)

/-- Times without a fault are in order. -/
theorem tf_sorted : ∀ (l : List Int) (last : Int), tf last l = 0 → (∀ x ∈ l, last ≤ x) ∧ l.Pairwise (· ≤ ·)
  | [], _, _ => ⟨by simp, .nil⟩
  | x :: r, last, h => by
    rw [tf] at h
    by_cases c : x < 0 ∨ x > 100000
    · rw [if_pos c] at h; omega
    · rw [if_neg c] at h
      by_cases d : x < last
      · rw [if_pos d] at h; omega
      · rw [if_neg d] at h
        obtain ⟨h1, h2⟩ := tf_sorted r x h
        refine ⟨fun y hy => ?_, .cons h1 h2⟩
        rcases List.mem_cons.1 hy with rfl | hy
        · omega
        · have := h1 y hy
          omega

/-! The changes of lines. -/
/-- As the reference has it: nothing later at the same time. -/
def lin (chip : ByteArray) (last : Int) : List (Int × Int) → List S47
  | [] => []
  | (a, n) :: r => if r.any (fun q => q.1 == a) then lin chip last r else if n = last then lin chip last r else ⟨a, chip, n⟩ :: lin chip n r
/-- As the program has it: nothing at the same time comes next. -/
def nxt (a : Int) : List (Int × Int) → Bool
  | [] => false
  | q :: _ => q.1 == a
def inp (chip : ByteArray) (last : Int) : List (Int × Int) → List S47
  | [] => []
  | (a, n) :: r => if nxt a r then inp chip last r else if n = last then inp chip last r else ⟨a, chip, n⟩ :: inp chip n r

theorem inp_lin (chip : ByteArray) : ∀ (l : List (Int × Int)) (last : Int), (l.map (·.1)).Pairwise (· ≤ ·) → inp chip last l = lin chip last l
  | [], _, _ => rfl
  | (a, n) :: r, last, h => by
    have hr : (r.map (·.1)).Pairwise (· ≤ ·) := (List.pairwise_cons.1 h).2
    have e : nxt a r = r.any (fun q => q.1 == a) := by
      cases r with
      | nil => rfl
      | cons q r =>
        simp only [List.any_cons, nxt]
        by_cases c : q.1 == a
        · simp [c]
        · have h1 := (List.pairwise_cons.1 h).1
          have h2 := (List.pairwise_cons.1 hr).1
          have hq : a ≤ q.1 := h1 q.1 (by simp)
          have hne : q.1 ≠ a := by simpa using c
          have : r.any (fun q => q.1 == a) = false := by
            rw [List.any_eq_false]
            intro z hz
            have h3 : q.1 ≤ z.1 := h2 z.1 (List.mem_map.2 ⟨z, hz, rfl⟩)
            simp
            omega
          simp [c, this]
    rw [inp, lin, e, inp_lin chip r last hr, inp_lin chip r n hr]

theorem lin_len (chip : ByteArray) : ∀ (l : List (Int × Int)) (last : Int), (lin chip last l).length ≤ l.length
  | [], _ => Nat.le_refl _
  | (a, n) :: r, last => by
    have h1 := lin_len chip r last
    have h2 := lin_len chip r n
    rw [lin]
    split
    · simp only [List.length_cons]; omega
    · split
      · simp only [List.length_cons]; omega
      · simp only [List.length_cons]; omega

/-- Is there one of the same time among what is still to come? -/
theorem later (chip : ByteArray) (at_ lines : List Int) (hl : at_.length ≤ 500) (acc : List S47) (last n : Int) (len : Int) (i9 : Nat) (h9 : i9 < at_.length) {r : List S47} (x15 : Int) :
    ∀ (suf pre : List Int) (b : Bool), at_ = pre ++ suf →
      (Ev (fun k => bakeref3_Lined.l1 k chip at_ lines acc last i9 n (b || suf.any (fun q => q == rd at_ i9)) (at_.length : Int) len x15) r) →
      Ev (fun k => bakeref3_Lined.l1 k chip at_ lines acc last i9 n b (pre.length : Int) len x15) r := by
  intro suf
  induction suf with
  | nil =>
    intro pre b h hr
    have : (pre.length : Int) = at_.length := by rw [h]; simp
    rw [this]
    simpa using hr
  | cons x suf ih =>
    intro pre b h hr
    have hlen : (at_.length : Int) = pre.length + suf.length + 1 := by rw [h]; exact len_mid pre suf x
    have hx : rd at_ (pre.length : Int) = x := by rw [h]; exact rd_mid pre suf x
    have hn : wrap64 ((pre.length : Int) + 1) = ((pre ++ [x]).length : Int) := by rw [w64 (by omega) (by omega)]; simp
    refine Ev.step (fun k => by rw [bakeref3_Lined.l1]) ?_
    rw [hn, hx]
    refine Ev.yes (by omega) (Ev.ite (fun c => ?_) (fun c => ?_))
    · subst c
      exact ih (pre ++ [x]) true (by rw [h]; simp) (by simpa using hr)
    · refine Ev.yes (by omega) (Ev.yes (by omega) (Ev.yes (by omega) ?_))
      refine ih (pre ++ [x]) _ (by rw [h]; simp) ?_
      have : b = false := by simpa using c
      subst this
      simpa using hr

theorem lined_loop (chip : ByteArray) (ps : List (Int × Int)) (hl : ps.length ≤ 500) : ∀ (suf pre : List (Int × Int)) (acc : List S47) (last : Int), ps = pre ++ suf → acc.length ≤ pre.length →
    Ev (fun k => bakeref3_Lined.l0 k chip (ps.map (·.1)) (ps.map (·.2)) acc last (ps.length : Int) (pre.length : Int)) (acc ++ lin chip last suf) := by
  intro suf
  induction suf with
  | nil =>
    intro pre acc last h _
    subst h
    refine Ev.step (fun k => by rw [bakeref3_Lined.l0]) ?_
    refine Ev.no (by simp) (Ev.some ?_)
    simp [lin]
  | cons x suf ih =>
    obtain ⟨a, n⟩ := x
    intro pre acc last h hacc
    have hlen : (ps.length : Int) = pre.length + suf.length + 1 := by rw [h]; exact len_mid pre suf _
    have hx : rd (ps.map (·.2)) (pre.length : Int) = n := by
      rw [h, List.map_append, List.map_cons]
      have := rd_mid (pre.map (·.2)) (suf.map (·.2)) n
      rwa [List.length_map] at this
    have ha : rd (ps.map (·.1)) (pre.length : Int) = a := by
      rw [h, List.map_append, List.map_cons]
      have := rd_mid (pre.map (·.1)) (suf.map (·.1)) a
      rwa [List.length_map] at this
    have hn : wrap64 ((pre.length : Int) + 1) = ((pre ++ [(a, n)]).length : Int) := by rw [w64 (by omega) (by omega)]; simp
    have h1 : ((ps.map (·.1)).length : Int) = ps.length := by simp
    have h2 : ((ps.map (·.2)).length : Int) = ps.length := by simp
    refine Ev.step (fun k => by rw [bakeref3_Lined.l0]) ?_
    rw [hn, hx]
    refine Ev.yes (by omega) (Ev.yes (by omega) (Ev.yes (by omega) ?_))
    have key := later chip (ps.map (·.1)) (ps.map (·.2)) (by simpa using hl) acc last n (ps.length : Int) pre.length (by simp; omega) (r := acc ++ lin chip last ((a, n) :: suf)) (pre.length : Int) (suf.map (·.1)) ((pre ++ [(a, n)]).map (·.1)) false (by rw [h]; simp)
    simp only [List.length_map] at key
    refine key ?_
    rw [ha]
    refine Ev.step (fun k => by rw [bakeref3_Lined.l1]) ?_
    refine Ev.no (by omega) ?_
    have e : (false || (suf.map (·.1)).any (fun q => q == a)) = suf.any (fun q => q.1 == a) := by
      rw [Bool.false_or, List.any_map]
      rfl
    rw [e, lin, ha, hn]
    refine Ev.ite (fun c => ?_) (fun c => ?_)
    · rw [if_pos c]
      exact ih (pre ++ [(a, n)]) acc last (by rw [h]; simp) (by simp; omega)
    · rw [if_neg c]
      refine Ev.ite (fun c => ?_) (fun c => ?_)
      · rw [if_pos c]
        exact ih (pre ++ [(a, n)]) acc last (by rw [h]; simp) (by simp; omega)
      · rw [if_neg c]
        refine Ev.yes (by omega) (Ev.yes (by omega) (Ev.yes (by omega) ?_))
        refine Ev.eq (ih (pre ++ [(a, n)]) (acc ++ [⟨a, chip, n⟩]) n (by rw [h]; simp) (by simp; omega)) ?_
        simp

theorem lined (chip : ByteArray) (ps : List (Int × Int)) (hl : ps.length ≤ 500) : Ev (fun k => bakeref3_Lined.f k chip (ps.map (·.1)) (ps.map (·.2))) (lin chip 0 ps) := by
  unfold bakeref3_Lined.f
  have := lined_loop chip ps hl ps [] [] 0 rfl (Nat.le_refl _)
  simpa using this

theorem inputs_loop (chip : ByteArray) (ps : List (Int × Int)) (hl : ps.length ≤ 500) : ∀ (suf pre : List (Int × Int)) (acc : List S47) (last : Int), ps = pre ++ suf → acc.length ≤ pre.length →
    Ev (fun k => keys_inputs.l0 k chip (ps.map (·.1)) acc last (ps.map (·.2)) (ps.length : Int) (pre.length : Int)) (acc ++ inp chip last suf) := by
  intro suf
  induction suf with
  | nil =>
    intro pre acc last h _
    subst h
    refine Ev.step (fun k => by rw [keys_inputs.l0]) ?_
    refine Ev.no (by simp) (Ev.some ?_)
    simp [inp]
  | cons x suf ih =>
    obtain ⟨a, n⟩ := x
    intro pre acc last h hacc
    have hlen : (ps.length : Int) = pre.length + suf.length + 1 := by rw [h]; exact len_mid pre suf _
    have hx : rd (ps.map (·.2)) (pre.length : Int) = n := by
      rw [h, List.map_append, List.map_cons]
      have := rd_mid (pre.map (·.2)) (suf.map (·.2)) n
      rwa [List.length_map] at this
    have ha : rd (ps.map (·.1)) (pre.length : Int) = a := by
      rw [h, List.map_append, List.map_cons]
      have := rd_mid (pre.map (·.1)) (suf.map (·.1)) a
      rwa [List.length_map] at this
    have hn : wrap64 ((pre.length : Int) + 1) = ((pre ++ [(a, n)]).length : Int) := by rw [w64 (by omega) (by omega)]; simp
    have hn' : ((pre ++ [(a, n)]).length : Int) = pre.length + 1 := by simp
    have h1 : ((ps.map (·.1)).length : Int) = ps.length := by simp
    have h2 : ((ps.map (·.2)).length : Int) = ps.length := by simp
    have hj : ∀ b : Bool, b = nxt a suf → Ev (fun k => keys_inputs.j1 k chip (ps.map (·.1)) acc last (pre.length : Int) n (ps.map (·.2)) (ps.length : Int) (pre.length : Int) b) (acc ++ inp chip last ((a, n) :: suf)) := by
      intro b hb
      refine Ev.step (fun k => by rw [keys_inputs.j1]) ?_
      rw [inp, ← hb, ha, hn]
      refine Ev.ite (fun c => ?_) (fun c => ?_)
      · rw [if_pos c]
        exact ih (pre ++ [(a, n)]) acc last (by rw [h]; simp) (by simp; omega)
      · rw [if_neg c]
        refine Ev.ite (fun c => ?_) (fun c => ?_)
        · rw [if_pos c]
          exact ih (pre ++ [(a, n)]) acc last (by rw [h]; simp) (by simp; omega)
        · rw [if_neg c]
          refine Ev.yes (by omega) (Ev.yes (by omega) (Ev.yes (by omega) ?_))
          refine Ev.eq (ih (pre ++ [(a, n)]) (acc ++ [⟨a, chip, n⟩]) n (by rw [h]; simp) (by simp; omega)) ?_
          simp
    refine Ev.step (fun k => by rw [keys_inputs.l0]) ?_
    rw [hn, hx]
    refine Ev.yes (by omega) (Ev.yes (by omega) (Ev.yes (by omega) ?_))
    cases suf with
    | nil =>
      refine Ev.no (by simp at hlen; omega) ?_
      exact hj false rfl
    | cons q suf =>
      have hq : rd (ps.map (·.1)) ((pre ++ [(a, n)]).length : Int) = q.1 := by
        rw [h, List.append_cons, List.map_append, List.map_cons]
        have := rd_mid ((pre ++ [(a, n)]).map (·.1)) (suf.map (·.1)) q.1
        rwa [List.length_map] at this
      have hlen' : (ps.length : Int) = pre.length + suf.length + 1 + 1 := by rw [hlen]; simp; omega
      rw [hq, ha]
      refine Ev.yes (by omega) (Ev.yes (by omega) (Ev.yes (by omega) ?_))
      exact hj _ rfl

theorem inputs (chip : ByteArray) (ps : List (Int × Int)) (hl : ps.length ≤ 500) : Ev (fun k => keys_inputs.f k chip (ps.map (·.1)) (ps.map (·.2))) (inp chip 0 ps) := by
  unfold keys_inputs.f
  have := inputs_loop chip ps hl ps [] [] 0 rfl (Nat.le_refl _)
  simpa using this

/-- Equal lists are told to be equal. -/
theorem same_loop (l : List S47) (hl : l.length ≤ 140737488351232) : ∀ (d i : Nat), i + d = l.length → Ev (fun k => api_Input.l0 k l l (l.length : Int) (i : Int)) true := by
  intro d
  induction d with
  | zero =>
    intro i h
    refine Ev.step (fun k => by rw [api_Input.l0]) ?_
    exact Ev.no (by omega) (Ev.now true)
  | succ d ih =>
    intro i h
    have hn : wrap64 ((i : Int) + 1) = ((i + 1 : Nat) : Int) := by rw [w64 (by omega) (by omega)]; simp
    refine Ev.step (fun k => by rw [api_Input.l0]) ?_
    rw [hn]
    refine Ev.yes (by omega) (Ev.yes (by omega) (Ev.yes (by omega) (Ev.yes (by omega) (Ev.no (by simp) ?_))))
    exact ih (i + 1) (by omega)
theorem same (l : List S47) (hl : l.length ≤ 140737488351232) : Ev (fun k => api_Input.f k l l) true := by
  unfold api_Input.f
  exact Ev.yes rfl (same_loop l hl l.length 0 (by omega))

theorem typed : Ev (fun k => bakelaw3_typed.f k) true := Ev.of bakelaw3_typed.mono (k := 30) (by decide +kernel)
end Go.Proofs.Ytimkpdbghbhkkaa.KPu
