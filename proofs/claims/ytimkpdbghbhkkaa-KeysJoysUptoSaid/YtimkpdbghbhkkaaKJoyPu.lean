/- The plain law of Joy and Pens, the second part: Joy, Pens, and the whole. -/
import Derived.Test.YtimkpdbghbhkkaaKPu
import Derived.Test.YtimkpdbghbhkkaaQKx7
import Derived.Test.YtimkpdbghbhkkaaQKx11
import Derived.Test.YtimkpdbghbhkkaaQKx12
namespace Go.Proofs.Ytimkpdbghbhkkaa.KPu
open Go.RowKit Go.Proofs.YtimkpdbghbhkkaaW.PrintWords Go.Proofs.YtimkpdbghbhkkaaW.PrintMore Go.Proofs.Ytimkpdbghbhkkaa.Pu Go.Proofs.Ytimkpdbghbhkkaa.QK

theorem rdT40 (pre suf : List S40) (x : S40) : rd_T40 (pre ++ x :: suf) (pre.length : Int) = x := by
  unfold rd_T40; exact getD_mid pre suf x z40
theorem rdT49 (pre suf : List S49) (x : S49) : rd_T49 (pre ++ x :: suf) (pre.length : Int) = x := by
  unfold rd_T49; exact getD_mid pre suf x z49

/-- Is a position no position of a stick? -/
def off (s : S40) : Prop := s.f1 < -1 ∨ s.f1 > 1 ∨ s.f2 < -1 ∨ s.f2 > 1
instance (s : S40) : Decidable (off s) := by unfold off; infer_instance
/-- The lines of a stick. -/
def lnv (x y : Int) (f : Bool) : Int := (if x = -1 then 1 else 0) + (if x = 1 then 2 else 0) + (if y = -1 then 4 else 0) + (if y = 1 then 8 else 0) + (if f = true then 16 else 0)
def lines (s : S40) : Int := lnv s.f1 s.f2 s.f3
def ats (l : List S40) : List Int := l.map (·.f0)
def lns (l : List S40) : List Int := l.map lines
def prs (l : List S40) : List (Int × Int) := l.map fun s => (s.f0, lines s)

/-- The value of a stick in range, by Joy's tables. -/
theorem tablev (x y : Int) (f : Bool) (hx : x = -1 ∨ x = 0 ∨ x = 1) (hy : y = -1 ∨ y = 0 ∨ y = 1) : 0 ≤ wrap64 (x + 1) ∧ wrap64 (x + 1) < 3 ∧ 0 ≤ wrap64 (y + 1) ∧ wrap64 (y + 1) < 3 ∧
    (f = true → Go.bits .or .i64 (Go.bits .or .i64 (rd [1, 0, 2] (wrap64 (x + 1))) (rd [4, 0, 8] (wrap64 (y + 1)))) 16 = lnv x y f) ∧
    (f = false → Go.bits .or .i64 (rd [1, 0, 2] (wrap64 (x + 1))) (rd [4, 0, 8] (wrap64 (y + 1))) = lnv x y f) := by
  rcases hx with rfl | rfl | rfl <;> rcases hy with rfl | rfl | rfl <;> cases f <;> decide +kernel
theorem table (s : S40) (h : ¬ off s) : 0 ≤ wrap64 (s.f1 + 1) ∧ wrap64 (s.f1 + 1) < 3 ∧ 0 ≤ wrap64 (s.f2 + 1) ∧ wrap64 (s.f2 + 1) < 3 ∧
    (s.f3 = true → Go.bits .or .i64 (Go.bits .or .i64 (rd [1, 0, 2] (wrap64 (s.f1 + 1))) (rd [4, 0, 8] (wrap64 (s.f2 + 1)))) 16 = lines s) ∧
    (s.f3 = false → Go.bits .or .i64 (rd [1, 0, 2] (wrap64 (s.f1 + 1))) (rd [4, 0, 8] (wrap64 (s.f2 + 1))) = lines s) := by
  unfold off at h
  exact tablev s.f1 s.f2 s.f3 (by omega) (by omega)

theorem joy_first (chip : ByteArray) (l : List S40) (hl : l.length ≤ 4398046511104) {r : List S47 × Int}
    (hr : Ev (fun k => (keys_times.f k (ats l)).bind fun t => (if t = 0 then (keys_Joy.l1 k chip (ats l) ([] : List Int) l (l.length : Int) 0) else (some (([] : List S47), t)))) r) :
    ∀ (suf pre : List S40), l = pre ++ suf → Ev (fun k => keys_Joy.l0 k chip l (ats pre) l (l.length : Int) (pre.length : Int)) r := by
  intro suf
  induction suf with
  | nil =>
    intro pre h
    refine Ev.step (fun k => by rw [keys_Joy.l0]) ?_
    refine Ev.no (by rw [h]; simp) ?_
    rw [List.append_nil] at h
    rw [← h]
    exact hr
  | cons x suf ih =>
    intro pre h
    have hlen : (l.length : Int) = pre.length + suf.length + 1 := by rw [h]; exact len_mid pre suf _
    have hx : rd_T40 l (pre.length : Int) = x := by rw [h]; exact rdT40 pre suf x
    have hn : wrap64 ((pre.length : Int) + 1) = ((pre ++ [x]).length : Int) := by rw [w64 (by omega) (by omega)]; simp
    have hat : (ats pre).length = pre.length := by simp [ats]
    refine Ev.step (fun k => by rw [keys_Joy.l0]) ?_
    rw [hx, hn]
    refine Ev.yes (by omega) (Ev.yes (by omega) (Ev.yes (by omega) (Ev.yes (by omega) ?_)))
    have := ih (pre ++ [x]) (by rw [h]; simp)
    rwa [show ats (pre ++ [x]) = ats pre ++ [x.f0] by simp [ats]] at this

theorem joy_second (chip : ByteArray) (l : List S40) (hl : l.length ≤ 500) :
    ∀ (suf pre : List S40), l = pre ++ suf → (∀ s ∈ pre, ¬ off s) →
      Ev (fun k => keys_Joy.l1 k chip (ats l) (lns pre) l (l.length : Int) (pre.length : Int)) (if (∃ s ∈ suf, off s) then ([], 1) else (inp chip 0 (prs l), 0)) := by
  intro suf
  induction suf with
  | nil =>
    intro pre h hp
    refine Ev.step (fun k => by rw [keys_Joy.l1]) ?_
    refine Ev.no (by rw [h]; simp) ?_
    rw [List.append_nil] at h
    subst h
    rw [if_neg (by simp)]
    have := inputs chip (prs l) (by simpa [prs] using hl)
    rw [show (prs l).map (·.1) = ats l by simp [prs, ats], show (prs l).map (·.2) = lns l by simp [prs, lns]] at this
    exact Ev.bind this (Ev.now _)
  | cons x suf ih =>
    intro pre h hp
    have hlen : (l.length : Int) = pre.length + suf.length + 1 := by rw [h]; exact len_mid pre suf _
    have hx : rd_T40 l (pre.length : Int) = x := by rw [h]; exact rdT40 pre suf x
    have hn : wrap64 ((pre.length : Int) + 1) = ((pre ++ [x]).length : Int) := by rw [w64 (by omega) (by omega)]; simp
    have hlb : (lns pre).length = pre.length := by simp [lns]
    have hj : ∀ b : Bool, (b = true ↔ off x) → Ev (fun k => keys_Joy.j2 k chip (ats l) (lns pre) l (l.length : Int) (pre.length : Int) b x.f0 x.f1 x.f2 x.f3) (if (∃ s ∈ x :: suf, off s) then ([], 1) else (inp chip 0 (prs l), 0)) := by
      intro b hb
      refine Ev.step (fun k => by rw [keys_Joy.j2]) ?_
      refine Ev.ite (fun c => ?_) (fun c => ?_)
      · rw [if_pos ⟨x, by simp, hb.1 c⟩]
        exact Ev.now _
      · have hoff : ¬ off x := fun h => c (hb.2 h)
        obtain ⟨t1, t2, t3, t4, t5, t6⟩ := table x hoff
        have ih := ih (pre ++ [x]) (by rw [h]; simp) (fun s hs => by
          rcases List.mem_append.1 hs with hs | hs
          · exact hp s hs
          · rw [List.mem_singleton.1 hs]; exact hoff)
        rw [show lns (pre ++ [x]) = lns pre ++ [lines x] by simp [lns]] at ih
        have he : (if (∃ s ∈ x :: suf, off s) then (([] : List S47), (1 : Int)) else (inp chip 0 (prs l), 0)) = (if (∃ s ∈ suf, off s) then ([], 1) else (inp chip 0 (prs l), 0)) := by
          have : (∃ s ∈ x :: suf, off s) ↔ (∃ s ∈ suf, off s) := by simp [hoff]
          simp only [this]
        rw [he, hn]
        refine Ev.const (Ev.yes t1 (Ev.yes t2 (Ev.const (Ev.yes t3 (Ev.yes t4 ?_)))))
        refine Ev.ite (fun c => ?_) (fun c => ?_)
        · rw [t5 c]
          exact Ev.yes (by omega) ih
        · rw [t6 (by simpa using c)]
          exact Ev.yes (by omega) ih
    refine Ev.step (fun k => by rw [keys_Joy.l1]) ?_
    rw [hx]
    refine Ev.yes (by omega) (Ev.yes (by omega) (Ev.yes (by omega) ?_))
    refine Ev.ite (fun c => hj true (by unfold off; simp; omega)) (fun c => ?_)
    refine Ev.ite (fun c => hj true (by unfold off; simp; omega)) (fun c => ?_)
    refine Ev.ite (fun c => hj true (by unfold off; simp; omega)) (fun c => hj _ (by unfold off; simp; omega))

def joyR (chip : ByteArray) (l : List S40) : List S47 × Int := if TF (ats l) = 0 then (if (∃ s ∈ l, off s) then ([], 1) else (inp chip 0 (prs l), 0)) else ([], TF (ats l))
theorem joy (chip : ByteArray) (l : List S40) (hl : l.length ≤ 4398046511104) : Ev (fun k => keys_Joy.f k chip l) (joyR chip l) := by
  unfold keys_Joy.f
  refine joy_first chip l hl ?_ l [] rfl
  refine Ev.bind (times (ats l) (by simp [ats]; omega)) ?_
  unfold joyR
  refine Ev.ite (fun c => ?_) (fun c => ?_)
  · rw [if_pos c]
    have hs : l.length ≤ 500 := by
      unfold TF at c
      by_cases d : ((ats l).length : Int) > 500
      · rw [if_pos d] at c; omega
      · simp [ats] at d; omega
    exact joy_second chip l hs l [] rfl (by simp)
  · rw [if_neg c]
    exact Ev.now _

/-! ### Light pens -/
def out (p : S49) : Prop := p.f1 < 0 ∨ p.f1 > 47 ∨ p.f2 < 0 ∨ p.f2 > 31 ∨ p.f0 < 0 ∨ p.f0 > 39
instance (p : S49) : Decidable (out p) := by unfold out; infer_instance
/-- What is wrong with pens: the first one. -/
def pf (last : Int) : List S49 → Int
  | [] => 0
  | p :: r => if out p then 1 else if p.f0 ≤ last then 9 else pf p.f0 r
def two (chip : ByteArray) (t : Int) : List S47 := [⟨t, chip, 128⟩, ⟨t + 1, chip, 0⟩]
def pens (chip : ByteArray) (l : List S49) : List S47 := l.flatMap fun p => two chip (p.f1 + 64 * (p.f2 + 40 * p.f0))
def PF (l : List S49) : Int := if (l.length : Int) > 500 then 2 else pf (-1) l
def pensR (chip : ByteArray) (l : List S49) : List S47 × Int := if PF l = 0 then (pens chip l, 0) else ([], PF l)

theorem pens_len (chip : ByteArray) (l : List S49) : (pens chip l).length = 2 * l.length := by
  induction l with
  | nil => rfl
  | cons x r ih => simp only [pens, List.flatMap_cons, List.length_append, two, List.length_cons, List.length_nil] at ih ⊢; omega

theorem pens_loop (chip : ByteArray) (l : List S49) (hl : l.length ≤ 500) : ∀ (suf pre : List S49) (last : Int), l = pre ++ suf → (pre = [] ∧ last = -1 ∨ ∃ p q, pre = p ++ [q] ∧ last = q.f0) →
    Ev (fun k => keys_Pens.l0 k chip l (pens chip pre) l (l.length : Int) (pre.length : Int)) (if pf last suf = 0 then (pens chip l, 0) else ([], pf last suf)) := by
  intro suf
  induction suf with
  | nil =>
    intro pre last h _
    rw [List.append_nil] at h
    subst h
    refine Ev.step (fun k => by rw [keys_Pens.l0]) ?_
    refine Ev.no (by simp) (Ev.some ?_)
    rw [pf, if_pos rfl]
  | cons x suf ih =>
    intro pre last h hp
    have hlen : (l.length : Int) = pre.length + suf.length + 1 := by rw [h]; exact len_mid pre suf _
    have hx : rd_T49 l (pre.length : Int) = x := by rw [h]; exact rdT49 pre suf x
    have hn : wrap64 ((pre.length : Int) + 1) = ((pre ++ [x]).length : Int) := by rw [w64 (by omega) (by omega)]; simp
    have hpl : (pens chip pre).length = 2 * pre.length := pens_len chip pre
    have ih := ih (pre ++ [x]) x.f0 (by rw [h]; simp) (.inr ⟨pre, x, rfl, rfl⟩)
    rw [show pens chip (pre ++ [x]) = pens chip pre ++ two chip (x.f1 + 64 * (x.f2 + 40 * x.f0)) by simp [pens]] at ih
    have hj : ∀ b : Bool, (b = true ↔ out x) → Ev (fun k => keys_Pens.j1 k chip l (pens chip pre) (pre.length : Int) l (l.length : Int) (pre.length : Int) b x.f0 x.f1 x.f2) (if pf last (x :: suf) = 0 then (pens chip l, 0) else ([], pf last (x :: suf))) := by
      intro b hb
      refine Ev.step (fun k => by rw [keys_Pens.j1]) ?_
      rw [pf]
      refine Ev.ite (fun c => ?_) (fun c => ?_)
      · rw [if_pos (hb.1 c)]
        exact Ev.now _
      · have ho : ¬ out x := fun h => c (hb.2 h)
        rw [if_neg ho]
        unfold out at ho
        have ht : wrap64 ((wrap64 ((wrap64 (x.f0 * 2560)) + (wrap64 (x.f2 * 64)))) + x.f1) = x.f1 + 64 * (x.f2 + 40 * x.f0) := by
          rw [w64 (x := x.f0 * 2560) (by omega) (by omega), w64 (x := x.f2 * 64) (by omega) (by omega), w64 (x := x.f0 * 2560 + x.f2 * 64) (by omega) (by omega), w64 (by omega) (by omega)]
          omega
        have ht' : wrap64 (x.f1 + 64 * (x.f2 + 40 * x.f0) + 1) = x.f1 + 64 * (x.f2 + 40 * x.f0) + 1 := w64 (by omega) (by omega)
        rw [ht, ht']
        rcases hp with ⟨rfl, rfl⟩ | ⟨p, q, rfl, rfl⟩
        · refine Ev.no (by simp) (Ev.const (Ev.yes (by simp [hpl]) ?_))
          rw [if_neg (show ¬ x.f0 ≤ -1 by omega), hn]
          exact ih
        · have hq : ((p ++ [q]).length : Int) = p.length + 1 := by simp
          have hw : wrap64 (((p ++ [q]).length : Int) - 1) = (p.length : Int) := by rw [w64 (by omega) (by omega)]; omega
          have hr : rd_T49 l (p.length : Int) = q := by rw [h, List.append_assoc]; exact rdT49 p _ q
          rw [hw, hr]
          refine Ev.yes (by omega) (Ev.yes (by omega) (Ev.yes (by omega) ?_))
          refine Ev.ite (fun c => ?_) (fun c => ?_)
          · rw [if_pos c]
            exact Ev.now _
          · rw [if_neg c, hn]
            refine Ev.const (Ev.yes (by simp [hpl] at hpl ⊢; omega) ?_)
            exact ih
    refine Ev.step (fun k => by rw [keys_Pens.l0]) ?_
    rw [hx]
    refine Ev.yes (by omega) (Ev.yes (by omega) (Ev.yes (by omega) ?_))
    refine Ev.ite (fun c => hj true (by unfold out; simp; omega)) (fun c => ?_)
    refine Ev.ite (fun c => hj true (by unfold out; simp; omega)) (fun c => ?_)
    refine Ev.ite (fun c => hj true (by unfold out; simp; omega)) (fun c => ?_)
    refine Ev.ite (fun c => hj true (by unfold out; simp; omega)) (fun c => ?_)
    refine Ev.ite (fun c => hj true (by unfold out; simp; omega)) (fun c => hj _ (by unfold out; simp; omega))

theorem pens_right (chip : ByteArray) (l : List S49) : Ev (fun k => keys_Pens.f k chip l) (pensR chip l) := by
  unfold keys_Pens.f pensR PF
  refine Ev.ite (fun c => ?_) (fun c => ?_)
  · rw [if_pos c]
    exact Ev.now _
  · rw [if_neg c]
    exact pens_loop chip l (by omega) l [] (-1) rfl (.inl ⟨rfl, rfl⟩)

/-- What the law holds against it: the frame is kept within 0 to 39. -/
def clamp (n : Int) : Int := mx 0 (mn n 39)
def want (chip : ByteArray) (l : List S49) : List S47 := l.flatMap fun p => two' chip p
  where two' (chip : ByteArray) (p : S49) : List S47 := [⟨wrap64 (p.f1 + (wrap64 (64 * (wrap64 (p.f2 + (40 * (mx 0 (mn p.f0 39)))))))), chip, 128⟩, ⟨wrap64 ((wrap64 (p.f1 + (wrap64 (64 * (wrap64 (p.f2 + (40 * (mx 0 (mn p.f0 39))))))))) + 1), chip, 0⟩]
theorem want_len (chip : ByteArray) (l : List S49) : (want chip l).length = 2 * l.length := by
  induction l with
  | nil => rfl
  | cons x r ih => simp only [want, List.flatMap_cons, List.length_append, want.two', List.length_cons, List.length_nil] at ih ⊢; omega
theorem want_pens (chip : ByteArray) : ∀ (l : List S49) (last : Int), pf last l = 0 → want chip l = pens chip l
  | [], _, _ => rfl
  | p :: r, last, h => by
    rw [pf] at h
    by_cases c : out p
    · rw [if_pos c] at h; omega
    · rw [if_neg c] at h
      by_cases d : p.f0 ≤ last
      · rw [if_pos d] at h; omega
      · rw [if_neg d] at h
        have ih := want_pens chip r p.f0 h
        unfold out at c
        have hm : mx 0 (mn p.f0 39) = p.f0 := by unfold mx mn; split <;> split <;> omega
        have e : want.two' chip p = two chip (p.f1 + 64 * (p.f2 + 40 * p.f0)) := by
          unfold want.two' two
          rw [hm, w64 (x := p.f2 + 40 * p.f0) (by omega) (by omega), w64 (x := 64 * (p.f2 + 40 * p.f0)) (by omega) (by omega), w64 (x := p.f1 + 64 * (p.f2 + 40 * p.f0)) (by omega) (by omega), w64 (by omega) (by omega)]
        unfold want pens at ih ⊢
        rw [List.flatMap_cons, List.flatMap_cons, ih, e]

/-- The law's own look at the pens: once something is wrong nothing more is looked at. -/
def lf (f last : Int) : List S49 → Int
  | [] => f
  | p :: r => lf (if f = 0 then (if out p then 1 else if p.f0 ≤ last then 9 else 0) else f) p.f0 r
theorem lf_stays (f : Int) (h : f ≠ 0) : ∀ (l : List S49) (last : Int), lf f last l = f
  | [], _ => rfl
  | p :: r, last => by rw [lf, if_neg h]; exact lf_stays f h r p.f0
theorem lf_pf : ∀ (l : List S49) (last : Int), lf 0 last l = pf last l
  | [], _ => rfl
  | p :: r, last => by
    rw [lf, if_pos rfl, pf]
    by_cases c : out p
    · rw [if_pos c, if_pos c]; exact lf_stays 1 (by decide) r _
    · rw [if_neg c, if_neg c]
      by_cases d : p.f0 ≤ last
      · rw [if_pos d, if_pos d]; exact lf_stays 9 (by decide) r _
      · rw [if_neg d, if_neg d]; exact lf_pf r p.f0

/-! ### The law -/
/-- The five bits of a stick, added up. -/
theorem bits_loop (x0 : ByteArray) (l : List S40) (l2 : List S49) (at_ ln : List Int) (ok : Bool) (x23 : List S40) (x24 x25 a b c : Int) (e : Bool) {r : Bool} : ∀ (b0 b1 b2 b3 b4 : Bool),
    Ev (fun k => bakelaw3_KeysJoys.l1 k x0 l l2 at_ ln ok ((if b0 then 1 else 0) + (if b1 then 2 else 0) + (if b2 then 4 else 0) + (if b3 then 8 else 0) + (if b4 then 16 else 0)) x23 x24 x25 [b0, b1, b2, b3, b4] 5 5 a b c e) r →
    Ev (fun k => bakelaw3_KeysJoys.l1 k x0 l l2 at_ ln ok 0 x23 x24 x25 [b0, b1, b2, b3, b4] 5 0 a b c e) r := by
  intro b0 b1 b2 b3 b4 h
  have step : ∀ (i : Nat) (n : Int) (x : Bool), i < 5 → rdOf false [b0, b1, b2, b3, b4] (i : Int) = x → 0 ≤ n → n < 100 → 
      Ev (fun k => bakelaw3_KeysJoys.l1 k x0 l l2 at_ ln ok (n + (if x then 2 ^ i else 0)) x23 x24 x25 [b0, b1, b2, b3, b4] 5 ((i + 1 : Nat) : Int) a b c e) r →
      Ev (fun k => bakelaw3_KeysJoys.l1 k x0 l l2 at_ ln ok n x23 x24 x25 [b0, b1, b2, b3, b4] 5 (i : Int) a b c e) r := by
    intro i n x hi hx h0 h1 hr
    have hn : wrap64 ((i : Int) + 1) = ((i + 1 : Nat) : Int) := by rw [w64 (by omega) (by omega)]; simp
    have hs : shl .i64 1 (i : Int) = 2 ^ i := by
      have : i = 0 ∨ i = 1 ∨ i = 2 ∨ i = 3 ∨ i = 4 := by omega
      rcases this with rfl | rfl | rfl | rfl | rfl <;> decide +kernel
    have hp : (2 : Int) ^ i ≤ 16 ∧ 0 ≤ (2 : Int) ^ i := by
      have : i = 0 ∨ i = 1 ∨ i = 2 ∨ i = 3 ∨ i = 4 := by omega
      rcases this with rfl | rfl | rfl | rfl | rfl <;> decide
    refine Ev.step (fun k => by rw [bakelaw3_KeysJoys.l1]) ?_
    rw [hx, hn, hs, w64 (x := n + 2 ^ i) (by omega) (by omega)]
    refine Ev.yes (by omega) (Ev.yes (by omega) (Ev.yes (by simp; omega) ?_))
    refine Ev.ite (fun c => ?_) (fun c => ?_)
    · rw [if_pos c] at hr
      exact hr
    · rw [if_neg c, Int.add_zero] at hr
      exact hr
  refine step 0 0 b0 (by omega) rfl (by omega) (by omega) ?_
  refine step 1 _ b1 (by omega) rfl (by split <;> omega) (by split <;> omega) ?_
  refine step 2 _ b2 (by omega) rfl (by split <;> split <;> omega) (by split <;> split <;> omega) ?_
  refine step 3 _ b3 (by omega) rfl (by split <;> split <;> split <;> omega) (by split <;> split <;> split <;> omega) ?_
  refine step 4 _ b4 (by omega) rfl (by split <;> split <;> split <;> split <;> omega) (by split <;> split <;> split <;> split <;> omega) ?_
  rw [Int.zero_add]
  exact h

theorem law_first (chip : ByteArray) (l : List S40) (l2 : List S49) (hl : l.length ≤ 4398046511104) {r : Bool}
    (hr : Ev (fun k => (bakeref3_TimesFault.f k (ats l)).bind fun t => (if t = 0 then (bakelaw3_KeysJoys.j2 k chip l l2 (ats l) (lns l) t (!(decide (¬ ∃ s ∈ l, off s)))) else (bakelaw3_KeysJoys.j2 k chip l l2 (ats l) (lns l) t false))) r) :
    ∀ (suf pre : List S40), l = pre ++ suf → Ev (fun k => bakelaw3_KeysJoys.l0 k chip l l2 (ats pre) (lns pre) (decide (¬ ∃ s ∈ pre, off s)) l (l.length : Int) (pre.length : Int)) r := by
  intro suf
  induction suf with
  | nil =>
    intro pre h
    refine Ev.step (fun k => by rw [bakelaw3_KeysJoys.l0]) ?_
    refine Ev.no (by rw [h]; simp) ?_
    rw [List.append_nil] at h
    rw [← h]
    exact hr
  | cons x suf ih =>
    intro pre h
    have hlen : (l.length : Int) = pre.length + suf.length + 1 := by rw [h]; exact len_mid pre suf _
    have hx : rd_T40 l (pre.length : Int) = x := by rw [h]; exact rdT40 pre suf x
    have hn : wrap64 ((pre.length : Int) + 1) = ((pre ++ [x]).length : Int) := by rw [w64 (by omega) (by omega)]; simp
    have hat : (ats pre).length = pre.length := by simp [ats]
    have hln : (lns pre).length = pre.length := by simp [lns]
    have ih := ih (pre ++ [x]) (by rw [h]; simp)
    rw [show ats (pre ++ [x]) = ats pre ++ [x.f0] by simp [ats], show lns (pre ++ [x]) = lns pre ++ [lines x] by simp [lns]] at ih
    refine Ev.step (fun k => by rw [bakelaw3_KeysJoys.l0]) ?_
    rw [hx]
    refine Ev.yes (by omega) (Ev.yes (by omega) (Ev.yes (by omega) (Ev.const ?_)))
    refine bits_loop chip l l2 (ats pre) (lns pre) _ l _ _ _ _ _ _ _ _ _ _ _ ?_
    refine Ev.step (fun k => by rw [bakelaw3_KeysJoys.l1]) ?_
    have he : (if (x.f1 == (-1)) = true then (1 : Int) else 0) + (if (x.f1 == 1) = true then 2 else 0) + (if (x.f2 == (-1)) = true then 4 else 0) + (if (x.f2 == 1) = true then 8 else 0) + (if x.f3 = true then 16 else 0) = lines x := by
      simp [lines, lnv]
    rw [he, hn]
    refine Ev.no (by omega) (Ev.yes (by omega) (Ev.const (Ev.yes (by omega) (Ev.const ?_))))
    have go : ∀ b : Bool, (b = true ↔ ¬ ∃ s ∈ pre ++ [x], off s) → Ev (fun k => bakelaw3_KeysJoys.l0 k chip l l2 (ats pre ++ [x.f0]) (lns pre ++ [lines x]) b l (l.length : Int) ((pre ++ [x]).length : Int)) r := by
      intro b hb
      have : b = decide (¬ ∃ s ∈ pre ++ [x], off s) := by
        rw [Bool.eq_iff_iff, hb, decide_eq_true_iff]
      rw [this]
      exact ih
    have hex : (∃ s ∈ pre ++ [x], off s) ↔ ((∃ s ∈ pre, off s) ∨ off x) := by
      constructor
      · rintro ⟨s, hs, ho⟩
        rcases List.mem_append.1 hs with hs | hs
        · exact .inl ⟨s, hs, ho⟩
        · rw [List.mem_singleton.1 hs] at ho; exact .inr ho
      · rintro (⟨s, hs, ho⟩ | ho)
        · exact ⟨s, List.mem_append_left _ hs, ho⟩
        · exact ⟨x, by simp, ho⟩
    refine Ev.ite (fun c => ?_) (fun c => go false ?_)
    · have c' : ¬ ∃ s ∈ pre, off s := of_decide_eq_true c
      refine Ev.ite (fun c1 => ?_) (fun c1 => go false ?_)
      · refine Ev.ite (fun c2 => ?_) (fun c2 => go false ?_)
        · refine Ev.ite (fun c3 => go _ ?_) (fun c3 => go false ?_)
          · rw [hex, decide_eq_true_iff]
            unfold off at c' ⊢
            constructor
            · rintro h (h1 | h1)
              · exact c' h1
              · omega
            · intro h
              have : ¬ (x.f1 < -1 ∨ x.f1 > 1 ∨ x.f2 < -1 ∨ x.f2 > 1) := fun h2 => h (.inr h2)
              omega
          · rw [hex]
            simp only [Bool.false_eq_true, false_iff, Classical.not_not]
            exact .inr (by unfold off; omega)
        · rw [hex]
          simp only [Bool.false_eq_true, false_iff, Classical.not_not]
          exact .inr (by unfold off; omega)
      · rw [hex]
        simp only [Bool.false_eq_true, false_iff, Classical.not_not]
        exact .inr (by unfold off; omega)
    · rw [hex]
      simp only [Bool.false_eq_true, false_iff, Classical.not_not]
      exact .inl (by simpa using c)

theorem law_pens (chip : ByteArray) (l2 : List S49) (hl : l2.length ≤ 2199023255551) : ∀ (suf pre : List S49) (f last : Int), l2 = pre ++ suf →
    (lf f last suf = PF l2) → Ev (fun k => bakelaw3_KeysJoys.l2 k chip l2 f (want chip pre) last l2 (l2.length : Int) (pre.length : Int)) true := by
  intro suf
  induction suf with
  | nil =>
    intro pre f last h hf
    rw [List.append_nil] at h
    subst h
    refine Ev.step (fun k => by rw [bakelaw3_KeysJoys.l2]) ?_
    have hf' : f = PF l2 := hf
    refine Ev.no (by simp) ?_
    refine Ev.ite (fun c => ?_) (fun c => ?_)
    · refine Ev.bind (pens_right chip l2) ?_
      unfold pensR
      rw [← hf', if_pos c]
      refine Ev.yes (by simp [c]) ?_
      have hz : PF l2 = 0 := by omega
      have hw : want chip l2 = pens chip l2 := by
        unfold PF at hz
        by_cases d : (l2.length : Int) > 500
        · rw [if_pos d] at hz; omega
        · rw [if_neg d] at hz
          exact want_pens chip l2 (-1) hz
      rw [hw]
      exact Ev.bind (same (pens chip l2) (by rw [pens_len]; omega)) (Ev.now true)
    · refine Ev.bind (pens_right chip l2) ?_
      unfold pensR
      rw [← hf', if_neg c]
      refine Ev.yes rfl ?_
      exact Ev.bind (same [] (by simp)) (Ev.now true)
  | cons x suf ih =>
    intro pre f last h hf
    have hlen : (l2.length : Int) = pre.length + suf.length + 1 := by rw [h]; exact len_mid pre suf _
    have hx : rd_T49 l2 (pre.length : Int) = x := by rw [h]; exact rdT49 pre suf x
    have hn : wrap64 ((pre.length : Int) + 1) = ((pre ++ [x]).length : Int) := by rw [w64 (by omega) (by omega)]; simp
    have hwl : (want chip pre).length = 2 * pre.length := want_len chip pre
    have hb : (want chip pre).length + (want.two' chip x).length < 4398046511104 := by rw [hwl, show (want.two' chip x).length = 2 from rfl]; omega
    have ihw : ∀ f', lf f' x.f0 suf = PF l2 → Ev (fun k => bakelaw3_KeysJoys.l2 k chip l2 f' (want chip pre ++ want.two' chip x) x.f0 l2 (l2.length : Int) ((pre ++ [x]).length : Int)) true := by
      intro f' hf'
      have := ih (pre ++ [x]) f' x.f0 (by rw [h]; simp) hf'
      rwa [show want chip (pre ++ [x]) = want chip pre ++ want.two' chip x by simp [want]] at this
    rw [lf] at hf
    have hj : f = 0 → ∀ b : Bool, (b = true ↔ out x) → Ev (fun k => bakelaw3_KeysJoys.j8 k chip l2 f (want chip pre) last l2 (l2.length : Int) (pre.length : Int) b x.f0 x.f1 x.f2) true := by
      intro h0 b hbb
      rw [if_pos h0] at hf
      refine Ev.step (fun k => by rw [bakelaw3_KeysJoys.j8]) ?_
      rw [hn]
      refine Ev.ite (fun c => ?_) (fun c => ?_)
      · rw [if_pos (hbb.1 c)] at hf
        exact Ev.const (Ev.yes hb (ihw 1 hf))
      · rw [if_neg (fun h => c (hbb.2 h))] at hf
        refine Ev.ite (fun d => ?_) (fun d => ?_)
        · rw [if_pos d] at hf
          exact Ev.const (Ev.yes hb (ihw 9 hf))
        · rw [if_neg d] at hf
          subst h0
          exact Ev.const (Ev.yes hb (ihw 0 hf))
    refine Ev.step (fun k => by rw [bakelaw3_KeysJoys.l2]) ?_
    rw [hx, hn]
    refine Ev.yes (by omega) (Ev.yes (by omega) (Ev.yes (by omega) ?_))
    refine Ev.ite (fun c => ?_) (fun c => ?_)
    · refine Ev.ite (fun c1 => hj c true (by unfold out; simp; omega)) (fun c1 => ?_)
      refine Ev.ite (fun c1 => hj c true (by unfold out; simp; omega)) (fun c1 => ?_)
      refine Ev.ite (fun c1 => hj c true (by unfold out; simp; omega)) (fun c1 => ?_)
      refine Ev.ite (fun c1 => hj c true (by unfold out; simp; omega)) (fun c1 => ?_)
      refine Ev.ite (fun c1 => hj c true (by unfold out; simp; omega)) (fun c1 => hj c _ (by unfold out; simp; omega))
    · rw [if_neg c] at hf
      exact Ev.const (Ev.yes hb (ihw f hf))

theorem law (chip : ByteArray) (l : List S40) (l2 : List S49) (hl : l.length ≤ 4398046511104) (hl2 : l2.length ≤ 2199023255551) : ∃ k, bakelaw3_KeysJoys.f k chip l l2 = some true := by
  refine Ev.rounds ?_
  unfold bakelaw3_KeysJoys.f
  have key := law_first chip l l2 hl (r := true) ?_ l [] rfl
  · simpa [ats, lns] using key
  have hats : (ats l).length = l.length := by simp [ats]
  refine Ev.bind (fault (ats l) (by omega)) ?_
  have last : Ev (fun k => bakelaw3_KeysJoys.j5 k chip l2 false) true := by
    refine Ev.step (fun k => by rw [bakelaw3_KeysJoys.j5]) ?_
    refine Ev.no (by simp) ?_
    have go : ∀ f, lf f (-1) l2 = PF l2 → Ev (fun k => bakelaw3_KeysJoys.j6 k chip l2 f ([] : List S47)) true := by
      intro f hf
      refine Ev.step (fun k => by rw [bakelaw3_KeysJoys.j6]) ?_
      exact law_pens chip l2 hl2 l2 [] f (-1) rfl hf
    refine Ev.ite (fun c => go 2 ?_) (fun c => go 0 ?_)
    · rw [lf_stays 2 (by decide), PF, if_pos c]
    · rw [lf_pf, PF, if_neg c]
  have four : ∀ (f : Int) (w : List S47), joyR chip l = (w, f) → w.length ≤ 140737488351232 → Ev (fun k => bakelaw3_KeysJoys.j4 k chip l l2 f w) true := by
    intro f w h hw
    refine Ev.step (fun k => by rw [bakelaw3_KeysJoys.j4]) ?_
    refine Ev.bind (joy chip l hl) (Ev.bind typed (Ev.yes rfl ?_))
    rw [h]
    refine Ev.yes rfl ?_
    exact Ev.bind (same w hw) last
  have three : ∀ (f : Int) (hf : (joyR chip l).2 = f), Ev (fun k => bakelaw3_KeysJoys.j3 k chip l l2 (ats l) (lns l) f) true := by
    intro f hf
    refine Ev.step (fun k => by rw [bakelaw3_KeysJoys.j3]) ?_
    unfold joyR at hf
    refine Ev.ite (fun c => ?_) (fun c => ?_)
    · by_cases d : TF (ats l) = 0
      · rw [if_pos d] at hf
        by_cases e : ∃ s ∈ l, off s
        · rw [if_pos e] at hf; simp at hf; omega
        · have hs : l.length ≤ 500 := by
            unfold TF at d
            by_cases g : ((ats l).length : Int) > 500
            · rw [if_pos g] at d; omega
            · omega
          have := lined chip (prs l) (by simpa [prs] using hs)
          rw [show (prs l).map (·.1) = ats l by simp [prs, ats], show (prs l).map (·.2) = lns l by simp [prs, lns]] at this
          refine Ev.bind this ?_
          have hso : ((prs l).map (·.1)).Pairwise (· ≤ ·) := by
            rw [show (prs l).map (·.1) = ats l by simp [prs, ats]]
            unfold TF at d
            rw [if_neg (by omega)] at d
            exact (tf_sorted (ats l) 0 d).2
          rw [← inp_lin chip (prs l) 0 hso]
          refine four f _ ?_ ?_
          · unfold joyR
            rw [if_pos d, if_neg e, c]
          · have := lin_len chip (prs l) 0
            rw [inp_lin chip (prs l) 0 hso]
            have h2 : (prs l).length = l.length := by simp [prs]
            omega
      · rw [if_neg d] at hf; simp at hf; omega
    · refine four f [] ?_ (by simp)
      unfold joyR
      by_cases d : TF (ats l) = 0
      · rw [if_pos d] at hf ⊢
        by_cases e : ∃ s ∈ l, off s
        · rw [if_pos e] at hf ⊢; rw [← hf]
        · rw [if_neg e] at hf; simp at hf; omega
      · rw [if_neg d] at hf ⊢; rw [← hf]
  have two : ∀ b : Bool, (joyR chip l).2 = (if b then 1 else TF (ats l)) → Ev (fun k => bakelaw3_KeysJoys.j2 k chip l l2 (ats l) (lns l) (TF (ats l)) b) true := by
    intro b hb
    refine Ev.step (fun k => by rw [bakelaw3_KeysJoys.j2]) ?_
    refine Ev.ite (fun c => three 1 (by rw [hb, if_pos c])) (fun c => three _ (by rw [hb, if_neg c]))
  refine Ev.ite (fun c => two _ ?_) (fun c => two _ ?_)
  · unfold joyR
    rw [if_pos c]
    by_cases e : ∃ s ∈ l, off s
    · rw [if_pos e]; simp [e]
    · rw [if_neg e]; simp [e, c]
  · unfold joyR
    rw [if_neg c]
    simp
end Go.Proofs.Ytimkpdbghbhkkaa.KPu
