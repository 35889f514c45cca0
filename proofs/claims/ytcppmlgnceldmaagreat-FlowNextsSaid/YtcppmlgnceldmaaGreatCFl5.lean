/- Merged texts of one claim: a Go law, its functions without memory, and the plain law. The law returns true for every input; conditions: as the row says. -/
import Derived.Test.YtcppmlgnceldmaaGreatRows
import Derived.ChangeArms
import Derived.OpenShut
import Derived.SizedLaws
import Derived.Deep.Slices
import Derived.Below
import Derived.WalkKit
import Derived.ProofKit
import Derived.ShutString
import Derived.ChangeOld
import Derived.Test.YtcppmlgnceldmaaGreatCFl0
import Derived.Test.YtcppmlgnceldmaaGreatCFl1
import Derived.Test.YtcppmlgnceldmaaGreatCFl2
import Derived.Test.YtcppmlgnceldmaaGreatCFl3
import Derived.Test.YtcppmlgnceldmaaGreatCFl4
/- What is known of registers: the program's ends of an instruction. No program in sight. -/
set_option linter.unusedVariables false
set_option maxRecDepth 100000
noncomputable section
namespace Go.Proofs.YtcppmlgnceldmaaGreat.Fl
open Go Go.Proofs.YtcppmlgnceldmaaGreat.Gp

theorem Lp.countI {β S R : Type} {body : Nat → S → Option (S ⊕ R)} (n : Nat) (st : β → Int → S) (fin : β → R) (Inv : Nat → β → Prop)
    (hs : ∀ i b, i < n → Inv i b → ∃ b', Inv (i + 1) b' ∧ Ev (fun k => body k (st b (i : Int))) (.inl (st b' ((i + 1 : Nat) : Int)))) (hd : ∀ b, Inv n b → Ev (fun k => body k (st b (n : Int))) (.inr (fin b))) {b : β} (h0 : Inv 0 b) : ∃ b', Inv n b' ∧ Gp.Lp body (st b 0) (fin b') := by
  have key : ∀ (d i : Nat) (b : β), i + d = n → Inv i b → ∃ b', Inv n b' ∧ Gp.Lp body (st b (i : Int)) (fin b') := by
    intro d
    induction d with
    | zero =>
      intro i b h hi
      have : i = n := by omega
      subst this
      exact ⟨b, hi, .done (hd b hi)⟩
    | succ d ih =>
      intro i b h hi
      obtain ⟨b1, h1, e1⟩ := hs i b (by omega) hi
      obtain ⟨b2, h2, e2⟩ := ih (i + 1) b1 (by omega) h1
      exact ⟨b2, h2, .step e1 e2⟩
  exact key n 0 b (by omega) h0
/-- two lists, place by place -/
structure All2 {α β : Type} (R : α → β → Prop) (l : List α) (m : List β) : Prop where
  len : m.length = l.length
  at' : ∀ (j : Nat) a b, l[j]? = some a → m[j]? = some b → R a b
theorem All2.nil {α β : Type} {R : α → β → Prop} : All2 R ([] : List α) ([] : List β) := ⟨rfl, fun j a b h => by simp at h⟩
theorem All2.snoc {α β : Type} {R : α → β → Prop} {l : List α} {m : List β} (h : All2 R l m) {a : α} {b : β} (hr : R a b) : All2 R (l ++ [a]) (m ++ [b]) := by
  refine ⟨by simp [h.len], fun j x y hx hy => ?_⟩
  by_cases hj : j < l.length
  · rw [List.getElem?_append_left hj] at hx
    rw [List.getElem?_append_left (by rw [h.len]; exact hj)] at hy
    exact h.at' j x y hx hy
  · have hjl := get_lt hx
    rw [List.length_append, List.length_singleton] at hjl
    have : j = l.length := by omega
    subst this
    rw [List.getElem?_append_right (Nat.le_refl _), Nat.sub_self] at hx
    rw [List.getElem?_append_right (by rw [h.len]; exact Nat.le_refl _), h.len, Nat.sub_self] at hy
    cases hx
    cases hy
    exact hr
abbrev End := Rg × Psh
abbrev Ab := Rg × Psh × List End
def stA (b : Ab) (s : Stp4) : Ab := if s.1 = 24 then (b.1, b.2.1, b.2.2 ++ [(b.1, b.2.1)]) else (stepA b.1 s, b.2.1, b.2.2)
def cyB (code : Cod) (b : Ab) (c : Cyc) : Ab := if c.1 ≠ 0 then ((busA code b.1 b.2.1 c).1, (busA code b.1 b.2.1 c).2, b.2.2) else b
def cyA (code : Cod) (b : Ab) (c : Cyc) : Ab := c.2.2.2.foldl stA (cyB code b c)
def runA (code : Cod) (l : List Cyc) (A : Rg) : Ab := l.foldl (cyA code) (A, [], [])
def endsA (code : Cod) (l : List Cyc) (A : Rg) : List End := (runA code l A).2.2 ++ [((runA code l A).1, (runA code l A).2.1)]
/-- what stands in an abstract state -/
structure OkB (n : Nat) (b : Ab) : Prop where
  inv : Inv b.1
  psh : b.2.1.length ≤ n
  len : b.2.2.length ≤ 6 * n
  all : ∀ e ∈ b.2.2, Inv e.1 ∧ e.2.length ≤ 1000
theorem steps_ok {n m : Nat} (hn : n ≤ 100) (hm : m ≤ 6) : ∀ (l : List Stp4) (b : Ab), b.2.1.length ≤ n + 1 → b.2.2.length + l.length ≤ 6 * n + m → Inv b.1 → (∀ e ∈ b.2.2, Inv e.1 ∧ e.2.length ≤ 1000) → (l.foldl stA b).2.1.length ≤ n + 1 ∧ (l.foldl stA b).2.2.length ≤ 6 * n + m ∧ Inv (l.foldl stA b).1 ∧ ∀ e ∈ (l.foldl stA b).2.2, Inv e.1 ∧ e.2.length ≤ 1000 := by
  intro l
  induction l with
  | nil => intro b h1 h2 h3 h4; exact ⟨h1, by simpa using h2, h3, h4⟩
  | cons s l ih =>
    intro b h1 h2 h3 h4
    rw [List.foldl_cons]
    rw [List.length_cons] at h2
    unfold stA
    by_cases hs : s.1 = 24
    · rw [if_pos hs]
      refine ih _ h1 (by show (b.2.2 ++ [_]).length + _ ≤ _; rw [List.length_append, List.length_singleton]; omega) h3 (fun e he => ?_)
      rcases List.mem_append.1 he with he | he
      · exact h4 e he
      · have : e = (b.1, b.2.1) := by simpa using he
        rw [this]; exact ⟨h3, by show b.2.1.length ≤ 1000; omega⟩
    · rw [if_neg hs]
      exact ih _ h1 (by show b.2.2.length + _ ≤ _; omega) (h3.step s) h4
theorem cyB_ok {code : Cod} {n : Nat} {b : Ab} (h : OkB n b) (c : Cyc) : (cyB code b c).2.1.length ≤ n + 1 ∧ (cyB code b c).2.2 = b.2.2 ∧ Inv (cyB code b c).1 := by
  unfold cyB
  split
  · refine ⟨?_, rfl, h.inv.bus b.2.1 c⟩
    show (if c.1 = 2 ∧ c.2.1 = 4 then b.2.1 ++ [wholeA b.1 c.2.2.1.toNat] else b.2.1).length ≤ n + 1
    have := h.psh
    split
    · rw [List.length_append, List.length_singleton]; omega
    · omega
  · exact ⟨by have := h.psh; omega, rfl, h.inv⟩
theorem OkB.cyc {code : Cod} {n : Nat} {b : Ab} (hn : n ≤ 100) (h : OkB n b) {c : Cyc} (hc : OkC c) : OkB (n + 1) (cyA code b c) := by
  obtain ⟨h1, h2, h3⟩ := cyB_ok (code := code) h c
  have hl := h.len
  have hcl := hc.len
  obtain ⟨g1, g2, g3, g4⟩ := steps_ok (n := n) (m := 6) hn (Nat.le_refl _) c.2.2.2 (cyB code b c) h1 (by rw [h2]; omega) h3 (by rw [h2]; exact h.all)
  exact ⟨g3, g1, by unfold cyA; omega, g4⟩
theorem OkB.run {code : Cod} : ∀ (l : List Cyc) {n : Nat} {b : Ab}, n + l.length ≤ 100 → OkB n b → (∀ c ∈ l, OkC c) → OkB (n + l.length) (l.foldl (cyA code) b)
  | [], n, b, _, h, _ => h
  | c :: l, n, b, hn, h, hc => by
    rw [List.length_cons] at hn
    rw [List.foldl_cons, List.length_cons, show n + (l.length + 1) = n + 1 + l.length by omega]
    exact OkB.run l (by omega) (OkB.cyc (by omega) h (hc c List.mem_cons_self)) (fun x hx => hc x (List.mem_cons_of_mem _ hx))
theorem okB0 {A : Rg} (h : Inv A) : OkB 0 (A, [], []) := ⟨h, Nat.le_refl _, Nat.le_refl _, fun e he => by cases he⟩
theorem run_okB {code : Cod} {l : List Cyc} (hl : OkL l) {A : Rg} (h : Inv A) : OkB l.length (runA code l A) := by
  have := OkB.run (code := code) l (n := 0) (by have := hl.len; omega) (okB0 h) hl.ok
  rwa [Nat.zero_add] at this
theorem ends_ok {code : Cod} {l : List Cyc} (hl : OkL l) {A : Rg} (h : Inv A) : (endsA code l A).length ≤ 60 ∧ ∀ e ∈ endsA code l A, Inv e.1 ∧ e.2.length ≤ 1000 := by
  have hb := run_okB (code := code) hl h
  have h8 := hl.len
  have h1 := hb.len
  have h2 := hb.psh
  unfold endsA
  refine ⟨by rw [List.length_append, List.length_singleton]; omega, fun e he => ?_⟩
  rcases List.mem_append.1 he with he | he
  · exact hb.all e he
  · have : e = ((runA code l A).1, (runA code l A).2.1) := by simpa using he
    rw [this]
    exact ⟨hb.inv, by show (runA code l A).2.1.length ≤ 1000; omega⟩
abbrev Rn := Cod × Nums × List Int
def RelE (e : End) (y : Rn) : Prop := RelP e.1 y.2.1 ∧ y.2.2 = e.2.map eP
abbrev Bp := Nums × List Int × List Rn
structure RelB (b : Ab) (y : Bp) : Prop where
  reg : RelP b.1 y.1
  psh : y.2.1 = b.2.1.map eP
  out : All2 RelE b.2.2 y.2.2
theorem clone125_ev (s : List Int) (h : s.length ≤ 1000) : Ev (fun k => Clone125 k s) ((), s) := by
  unfold Clone125
  have e : (if room (0 + List.length s) 8 then some () else none : Option Unit) = some () := if_pos (room_ok (by omega))
  refine Ev.const ?_
  rw [orNil_same (fun h0 => ?_)]
  · show Option.bind _ _ = _
    rw [e]; rfl
  · have := List.length_eq_zero_iff.1 h0
    subst this
    rw [e]; rfl
theorem steps_p {code : Cod} {n : Nat} (hn : n ≤ 100) {c : Cyc} (hc : OkC c) {b : Ab} (h1 : b.2.1.length ≤ n + 1) (h2 : b.2.2.length ≤ 6 * n) (h3 : Inv b.1) (h4 : ∀ e ∈ b.2.2, Inv e.1 ∧ e.2.length ≤ 1000) {y : Bp} (hy : RelB b y) :
    ∃ y', RelB (c.2.2.2.foldl stA b) y' ∧ Gp.Lp (fun k => ends89.l0 k c) ((), (), 0, (code, y.1, ()), y.2.1, y.2.2) ((), (), (code, y'.1, ()), y'.2.1, y'.2.2) := by
  have hcl := hc.len
  obtain ⟨y', hy', e⟩ := Lp.countI (body := fun k => ends89.l0 k c) c.2.2.2.length (fun (y : Bp) i => ((), (), i, (code, y.1, ()), y.2.1, y.2.2)) (fun y => ((), (), (code, y.1, ()), y.2.1, y.2.2))
    (fun i y => RelB ((c.2.2.2.take i).foldl stA b) y)
    (fun i y hi hy => by
      have hx : c.2.2.2[i]? = some c.2.2.2[i] := List.getElem?_eq_getElem hi
      have hs := hc.steps _ (get_mem hx)
      generalize c.2.2.2[i] = s at hx hs
      have htk : (c.2.2.2.take i).length ≤ 6 := by rw [List.length_take]; omega
      obtain ⟨g1, g2, g3, g4⟩ := steps_ok (n := n) (m := 6) hn (Nat.le_refl _) (c.2.2.2.take i) b h1 (by omega) h3 h4
      rw [List.take_add_one, hx, Option.toList_some, List.foldl_append]
      show ∃ y', RelB (stA ((c.2.2.2.take i).foldl stA b) s) y' ∧ _
      generalize (c.2.2.2.take i).foldl stA b = B at hy g1 g2 g3 g4
      have hol := hy.out.len
      have hpl : y.2.1.length ≤ 1000 := by rw [hy.psh, List.length_map]; omega
      unfold stA
      simp only [ends89.l0]
      by_cases h24 : s.1 = 24
      · rw [if_pos h24]
        refine ⟨(y.1, y.2.1, y.2.2 ++ [((0, [], []), y.1, y.2.1)]), ⟨hy.reg, hy.psh, hy.out.snoc ⟨hy.reg, hy.psh⟩⟩, .yes (decide_eq_true (by omega)) (.bind (a := ((), (), (code, y.1, ()), y.2.1, y.2.2 ++ [((0, [], []), y.1, y.2.1)])) (.val (rd_some' hx) (.yes (by rw [h24]; rfl) (.bind (clone125_ev _ hpl) (.val (a := ()) (if_pos (room_ok (by simp only [List.length_cons, List.length_nil]; omega))) (.now _))))) (.now' ?_))⟩
        rw [w64_succ (by omega)]
      · rw [if_neg h24]
        obtain ⟨r', q1, q2⟩ := step_p (c0 := code) (u := ()) (o1 := y.2.1) hy.reg g3 hs h24
        refine ⟨(r', y.2.1, y.2.2), ⟨q1, hy.psh, hy.out⟩, .yes (decide_eq_true (by omega)) (.bind (a := ((), (), (code, r', ()), y.2.1, y.2.2)) (.val (rd_some' hx) (.no (beq_false_of_ne h24) (.bind q2 (.now _)))) (.now' ?_))⟩
        rw [w64_succ (by omega)])
    (fun y _ => by
      simp only [ends89.l0]
      exact .no (by simp) (.now _)) (b := y) hy
  rw [List.take_length] at hy'
  exact ⟨y', hy', e⟩
theorem ends_p {code : Cod} (hd : OkD code) {l : List Cyc} (hl : OkL l) {A : Rg} (hA : Inv A) {r : Nums} (hr : RelP A r) : ∃ o, All2 RelE (endsA code l A) o ∧ Ev (fun k => ends89 k code l r) (o, ()) := by
  have h8 := hl.len
  obtain ⟨y, hy, e⟩ := Lp.countI (body := fun k => ends89.l1 k l) l.length (fun (y : Bp) i => ((), (), i, (code, y.1, ()), y.2.1, y.2.2)) (fun y => ((), (), (code, y.1, ()), y.2.1, y.2.2))
    (fun i y => RelB ((l.take i).foldl (cyA code) (A, [], [])) y)
    (fun i y hi hy => by
      have hx : l[i]? = some l[i] := List.getElem?_eq_getElem hi
      have hc := hl.ok _ (get_mem hx)
      generalize l[i] = c at hx hc
      have hok : OkB i ((l.take i).foldl (cyA code) (A, [], [])) := by
        have := OkB.run (code := code) (l.take i) (n := 0) (by rw [List.length_take]; omega) (okB0 hA) (fun c hc => hl.ok c (List.mem_of_mem_take hc))
        rwa [Nat.zero_add, List.length_take, Nat.min_eq_left (by omega)] at this
      rw [List.take_add_one, hx, Option.toList_some, List.foldl_append]
      show ∃ y', RelB (cyA code ((l.take i).foldl (cyA code) (A, [], [])) c) y' ∧ _
      generalize (l.take i).foldl (cyA code) (A, [], []) = B at hy hok
      have hbl := hok.psh
      obtain ⟨k1, k2, k3⟩ := cyB_ok (code := code) hok c
      have hB : ∃ y1, RelB (cyB code B c) y1 ∧ Ev (fun k => (cond (c.1 != 0) ((bus124 k () c (code, y.1, ()) y.2.1).bind fun t26 => some ((), (), c, t26.2.1, t26.2.2, y.2.2)) (some ((), (), c, (code, y.1, ()), y.2.1, y.2.2)) : Option (Unit × (Unit × (Cyc × (RunU × (List Int × List Rn))))))) ((), (), c, (code, y1.1, ()), y1.2.1, y1.2.2) := by
        unfold cyB
        by_cases h0 : c.1 ≠ 0
        · rw [if_pos h0]
          obtain ⟨r', q1, q2⟩ := bus_p (u := ()) (P := B.2.1) hd hy.reg hok.inv hc (by omega)
          rw [← hy.psh] at q2
          exact ⟨(r', _, y.2.2), ⟨q1, rfl, hy.out⟩, .yes (bne_iff_ne.2 h0) (.bind q2 (.now _))⟩
        · rw [if_neg h0]
          have h0 : c.1 = 0 := by omega
          exact ⟨y, hy, .no (by rw [h0]; rfl) (.now _)⟩
      obtain ⟨y1, hy1, e1⟩ := hB
      obtain ⟨y2, hy2, e2⟩ := steps_p (code := code) (n := i) (by omega) hc k1 (by rw [k2]; exact hok.len) k3 (by rw [k2]; exact hok.all) hy1
      refine ⟨y2, hy2, ?_⟩
      simp only [ends89.l1]
      refine .yes (decide_eq_true (by omega)) (.val (rd_some' hx) (.bind e1 (.bind e2.ev (.now' ?_))))
      rw [w64_succ (by omega)])
    (fun y _ => by
      simp only [ends89.l1]
      exact .no (by simp) (.now _)) (b := (r, [], [])) ⟨hr, rfl, .nil⟩
  rw [List.take_length] at hy
  have hb := run_okB (code := code) hl hA
  have hbl := hb.len
  have hol := hy.out.len
  refine ⟨y.2.2 ++ [(code, y.1, y.2.1)], hy.out.snoc ⟨hy.reg, hy.psh⟩, ?_⟩
  unfold ends89
  refine .bind e.ev (.val (a := ()) (if_pos (room_ok ?_)) (.now _))
  have hol : y.2.2.length = (runA code l A).2.2.length := hol
  simp only [List.length_cons, List.length_nil]
  omega
end Go.Proofs.YtcppmlgnceldmaaGreat.Fl

/- What an instruction leads to: the program's answer. No program in sight. -/
set_option linter.unusedVariables false
set_option maxRecDepth 100000
noncomputable section
namespace Go.Proofs.YtcppmlgnceldmaaGreat.Fl
open Go Go.Proofs.YtcppmlgnceldmaaGreat.Gp

theorem set0_ev {r : Nums} (hl : r.length = 9) {i : Nat} (hi : i < 9) {v : Option Nat} (hv : ∀ n, v = some n → n < 65536) : Ev (fun k => set88 k () (i : Int) (eP v) r) ((), r.set i (eP (v.map (· % 256)), if wdN i = true then eP (v.map (fun n => n / 256 % 256)) else 0)) := by
  have hr : r[i]? = some r[i] := List.getElem?_eq_getElem (by omega)
  unfold set88
  cases v with
  | none =>
    refine .bind (a := wd (i : Int)) (.yes rfl (.bind (wide_ev _) (.now _))) ?_
    cases hw : wdN i with
    | true =>
      have hw' : wd (i : Int) = true := hw
      rw [hw']
      exact .bind (a := r.set i (-1, -1)) (.yes rfl (.val (reg_in hi) (.val (rd_some' hr) (.now' (by rw [Int.toNat_natCast]))))) (.now _)
    | false =>
      have hw' : wd (i : Int) = false := hw
      rw [hw']
      exact .bind (a := r.set i (-1, 0)) (.no rfl (.bind (a := r.set i (-1, 0)) (.yes rfl (.val (reg_in hi) (.val (rd_some' hr) (.now' (by rw [Int.toNat_natCast]))))) (.now _))) (.now _)
  | some n =>
    have hn := hv n rfl
    have hne : (((n : Nat) : Int) == (-1)) = false := beq_false_of_ne (by omega)
    have e8 : ((n : Int) % 256) = ((n % 256 : Nat) : Int) := by rw [Int.natCast_emod]; rfl
    show Ev _ ((), r.set i (((n % 256 : Nat) : Int), if wdN i = true then ((n / 256 % 256 : Nat) : Int) else 0))
    rw [← e8]
    refine .bind (a := false) (.no hne (.now _)) (.bind (a := r.set i ((n : Int) % 256, if wdN i = true then ((n / 256 % 256 : Nat) : Int) else 0)) (.no rfl (.bind (a := r.set i ((n : Int) % 256, if wdN i = true then ((n / 256 % 256 : Nat) : Int) else 0)) (.no hne (.bind (wide_ev _) (.bind (a := r.set i ((n : Int) % 256, if wdN i = true then ((n / 256 % 256 : Nat) : Int) else 0)) ?_ (.now _)))) (.now _))) (.now _))
    cases hw : wdN i with
    | true =>
      have hw' : wd (i : Int) = true := hw
      refine .yes hw' (.bind (low8_ev _) (.bind (get_ev n hn) (.val (reg_in hi) (.val (rd_some' hr) (.now' ?_)))))
      rw [Int.toNat_natCast]; rfl
    | false =>
      have hw' : wd (i : Int) = false := hw
      refine .no hw' (.bind (low8_ev _) (.val (reg_in hi) (.val (rd_some' hr) (.now' ?_))))
      rw [Int.toNat_natCast]; rfl
def A0 : Rg := fun _ => (none, none)
theorem inv0 : Inv A0 := fun _ => ⟨by_none, by_none⟩
theorem none_p : ∃ r, RelP A0 r ∧ Ev (fun k => none55 k) (r, ()) := by
  obtain ⟨r, hr, e⟩ := Lp.countI (body := fun k => none55.l0 k) 9 (fun (r : Nums) i => ((), (), i, List.replicate 9 (0, 0), r)) (fun r => ((), (), List.replicate 9 (0, 0), r))
    (fun i r => r.length = 9 ∧ ∀ j, j < i → r[j]? = some (-1, if wdN j = true then -1 else 0))
    (fun i r hi hr => by
      obtain ⟨h1, h2⟩ := hr
      refine ⟨r.set i (-1, if wdN i = true then -1 else 0), ⟨by rw [List.length_set]; exact h1, fun j hj => ?_⟩, ?_⟩
      · by_cases hji : j = i
        · subst hji
          rw [List.getElem?_set_self (by omega)]
        · rw [List.getElem?_set_ne (fun e => hji e.symm)]
          exact h2 j (by omega)
      · simp only [none55.l0]
        refine .yes (decide_eq_true (by omega)) (.bind (set0_ev h1 hi (v := none) (fun n hn => by cases hn)) (.now' ?_))
        rw [w64_succ (by omega)]
        rfl)
    (fun r _ => by
      simp only [none55.l0]
      exact .no (by decide) (.now _)) (b := List.replicate 9 (0, 0)) ⟨by simp, fun j hj => by omega⟩
  refine ⟨r, ⟨hr.1, fun i hi => hr.2 i hi⟩, ?_⟩
  unfold none55
  exact .bind e.ev (.now _)
-- what it leads to
def pcA (e : End) : Option Nat := wholeA e.1 7
def toL (E : List End) : List Int := E.filterMap (fun e => (pcA e).map (fun (n : Nat) => (n : Int)))
def openL (E : List End) : Bool := E.any (fun e => (pcA e).isNone)
def callE (back : Nat) (P : Psh) : Bool := decide (P.length ≥ 2 ∧ P[P.length - 2]? = some (some (back / 256)) ∧ P[P.length - 1]? = some (some (back % 256)))
def callL (back : Nat) (E : List End) : Bool := E.any (fun e => callE back e.2)
def pcL : Option Nat → List Int
  | some n => [(n : Int)]
  | none => []
theorem toL_snoc (E : List End) (e : End) : toL (E ++ [e]) = toL E ++ pcL (pcA e) := by
  unfold toL
  rw [List.filterMap_append]
  cases h : pcA e <;> simp [h, pcL]
theorem toL_len (E : List End) : (toL E).length ≤ E.length := List.length_filterMap_le _ _
theorem wholeR_p {A : Rg} {y : Rn} (h : RelP A y.2.1) (hA : Inv A) {i : Nat} (hi : i < 9) : Ev (fun k => whole90' k () (i : Int) y) (eP (wholeA A i), y) := by
  have hr := h.reg i hi
  obtain ⟨b1, b2⟩ := hA i
  unfold whole90' wholeA
  refine .val (reg_in hi) (.val (rd_some' hr) ?_)
  cases h1 : (A i).1 with
  | none =>
    refine .bind (a := true) (.yes rfl (.now _)) (.yes rfl (.now' ?_))
    cases wdN i <;> rfl
  | some l =>
    have hl := b1 l h1
    have hne : (((l : Nat) : Int) == (-1)) = false := beq_false_of_ne (by omega)
    cases hw : wdN i with
    | false =>
      have hw' : wd (i : Int) = false := hw
      refine .bind (a := false) (.no hne (.bind (wide_ev _) (.now' (by rw [hw']; rfl)))) (.no rfl (.now' ?_))
      show (w64 ((l : Int) + (w64 (256 * 0))), _) = _
      rw [show w64 (256 * 0) = 0 from rfl, w64_id (by omega) (by omega), Int.add_zero]
      rfl
    | true =>
      have hw' : wd (i : Int) = true := hw
      cases h2 : (A i).2 with
      | none =>
        refine .bind (a := true) (.no hne (.bind (wide_ev _) (.now' (by rw [hw', if_pos rfl]; rfl)))) (.yes rfl (.now _))
      | some hh =>
        have hl2 := b2 hh h2
        refine .bind (a := false) (.no hne (.bind (wide_ev _) (.now' ?_))) (.no rfl (.now' ?_))
        · rw [hw', if_pos rfl]
          exact beq_false_of_ne (by show (hh : Int) ≠ -1; omega)
        · rw [if_pos rfl]
          show (w64 ((l : Int) + (w64 (256 * (hh : Int)))), _) = _
          rw [w64_id (x := 256 * (hh : Int)) (by omega) (by omega), w64_id (by omega) (by omega)]
          show ((l : Int) + 256 * (hh : Int), _) = (((l + 256 * hh : Nat) : Int), _)
          rw [Int.natCast_add, Int.natCast_mul]; rfl
theorem eP_eq {v : Option Nat} {b : Nat} : (eP v == (b : Int)) = decide (v = some b) := by
  cases v with
  | none =>
    rw [decide_eq_false (by simp)]
    exact beq_false_of_ne (by show (-1 : Int) ≠ (b : Int); omega)
  | some n =>
    by_cases h : n = b
    · subst h; simp [eP]
    · rw [decide_eq_false (by simpa using h)]
      exact beq_false_of_ne (by show (n : Int) ≠ (b : Int); omega)
theorem and255 (n : Nat) : ibits .and .i64 (n : Int) 255 = ((n % 256 : Nat) : Int) := by
  have := ibits_low (n : Int) (j := 8) (by decide)
  rw [Int.natCast_emod]
  exact this
abbrev Wy := Int × List Int × Bool × Bool
abbrev Lst := Bool × Bool × List Int
theorem call_ev {P : Psh} {y : Rn} (hy : y.2.2 = P.map eP) (hl : P.length ≤ 1000) {back : Nat} (hb : back < 65536) {R : Type} {g : Nat → Bool → Option R} {v : R} (hg : Ev (fun k => g k (callE back P)) v) :
    Ev (fun k => Option.bind (cond (decide ((List.length y.2.2 : Int) ≥ 2))
        ((rd y.2.2 (w64 ((List.length y.2.2 : Int) - 2))).bind fun t63 =>
        some (t63 == (shrI .i64 ((back : Nat) : Int) 8)))
        (some false)) fun t68 =>
      Option.bind (cond t68
        ((rd y.2.2 (w64 ((List.length y.2.2 : Int) - 1))).bind fun t74 =>
        some (t74 == (ibits .and .i64 ((back : Nat) : Int) 255)))
        (some false)) (g k)) v := by
  have hyl : y.2.2.length = P.length := by rw [hy, List.length_map]
  by_cases h2 : P.length ≥ 2
  · have e1 : P[P.length - 2]? = some P[P.length - 2] := List.getElem?_eq_getElem (by omega)
    have e2 : P[P.length - 1]? = some P[P.length - 1] := List.getElem?_eq_getElem (by omega)
    generalize P[P.length - 2] = p at e1
    generalize P[P.length - 1] = q at e2
    have r1 : rd y.2.2 (w64 ((List.length y.2.2 : Int) - 2)) = some (eP p) := by
      rw [hyl, w64_id (by omega) (by omega)]
      exact rd_at (i := P.length - 2) (by omega) (by rw [hy, List.getElem?_map, e1]; rfl)
    have r2 : rd y.2.2 (w64 ((List.length y.2.2 : Int) - 1)) = some (eP q) := by
      rw [hyl, w64_id (by omega) (by omega)]
      exact rd_at (i := P.length - 1) (by omega) (by rw [hy, List.getElem?_map, e2]; rfl)
    have hc : callE back P = (decide (p = some (back / 256)) && decide (q = some (back % 256))) := by
      unfold callE
      rw [e1, e2, ← Bool.decide_and]
      refine decide_eq_decide.2 ⟨fun h => ⟨Option.some.inj h.2.1, Option.some.inj h.2.2⟩, fun h => ⟨h2, by rw [h.1], by rw [h.2]⟩⟩
    refine .bind (a := decide (p = some (back / 256))) (.yes (decide_eq_true (by omega)) (.val r1 (.now' ?_))) ?_
    · rw [show shrI .i64 ((back : Nat) : Int) 8 = ((back / 256 : Nat) : Int) from shr8 hb, eP_eq]
    · refine .bind (a := callE back P) ?_ hg
      rw [hc]
      cases decide (p = some (back / 256)) with
      | true => exact .yes rfl (.val r2 (.now' (by rw [and255, eP_eq]; rfl)))
      | false => exact .no rfl (.now _)
  · have hc : callE back P = false := decide_eq_false (fun h => h2 h.1)
    rw [hc] at hg
    exact .bind (a := false) (.no (decide_eq_false (by omega)) (.now _)) (.bind (a := false) (.no rfl (.now _)) hg)
end Go.Proofs.YtcppmlgnceldmaaGreat.Fl

/- What an instruction leads to: the program's whole answer. No program in sight. -/
set_option linter.unusedVariables false
set_option maxRecDepth 100000
noncomputable section
namespace Go.Proofs.YtcppmlgnceldmaaGreat.Fl
open Go Go.Proofs.YtcppmlgnceldmaaGreat.Gp

def sizeV (m : Int) : Nat := ([0, 1, 1, 1, 2, 2, 2, 1, 1] : List Nat).getD m.toNat 0
theorem size_ev {m : Int} (h : 0 ≤ m ∧ m ≤ 8) : Ev (fun k => Size33 k m) ((sizeV m : Int), ()) := by
  have : m = 0 ∨ m = 1 ∨ m = 2 ∨ m = 3 ∨ m = 4 ∨ m = 5 ∨ m = 6 ∨ m = 7 ∨ m = 8 := by omega
  rcases this with rfl | rfl | rfl | rfl | rfl | rfl | rfl | rfl | rfl <;> exact .const rfl
theorem sizeV_le (m : Int) : sizeV m ≤ 2 := by
  unfold sizeV
  rw [List.getD_eq_getElem?_getD]
  cases h : ([0, 1, 1, 1, 2, 2, 2, 1, 1] : List Nat)[m.toNat]? with
  | none => decide
  | some x =>
    have := get_mem h
    simp only [List.mem_cons, List.not_mem_nil, or_false] at this
    show x ≤ 2
    omega
def backN (x : Ins) (addr : Int) : Nat := ((addr + (1 + (sizeV x.2.2.1 : Int))) % 65536).toNat
def pc1 (addr : Int) : Option Nat := some ((addr + 1) % 65536).toNat
def ends1 (code : Cod) (x : Ins) (addr : Int) (A : Rg) : List End := endsA code x.2.2.2 (setA A 7 (pc1 addr))
def wayA (code : Cod) (x : Ins) (addr : Int) (A : Rg) : Wy := (1 + (sizeV x.2.2.1 : Int), compI (sortI (toL (ends1 code x addr A))), openL (ends1 code x addr A), callL (backN x addr) (ends1 code x addr A))
theorem sort_ev {l : List Int} (h : l.length ≤ 1000) : Ev (fun k => Sort91 k () l) ((), sortI l) := .const (if_pos (by omega))
theorem comp_ev {l : List Int} (h : l.length ≤ 1000) : Ev (fun k => Compact92 k () l) ((), compI l) := .const (if_pos (by omega))
theorem leads_p {code : Cod} (hd : OkD code) {x : Ins} (hx : OkI x) {addr : Int} (ha : 0 ≤ addr ∧ addr < 65536) {A : Rg} (hA : Inv A) {r : Nums} (hr : RelP A r) :
    ∃ o, All2 RelE (ends1 code x addr A) o ∧ Ev (fun k => leads54 k code x addr r) ((wayA code x addr A, o, ()), ()) := by
  have hs := sizeV_le x.2.2.1
  have hv : ∀ n, pc1 addr = some n → n < 65536 := fun n hn => by unfold pc1 at hn; cases hn; omega
  have hset : RelP (setA A 7 (pc1 addr)) (r.set 7 (eP ((pc1 addr).map (· % 256)), if wdN 7 = true then eP ((pc1 addr).map (fun n => n / 256 % 256)) else 0)) := hr.put (by decide) rfl
  have e1 := set0_ev hr.len (i := 7) (by decide) hv
  have ep : eP (pc1 addr) = (addr + 1) % 65536 := by unfold pc1; show ((((addr + 1) % 65536).toNat : Nat) : Int) = _; omega
  rw [ep] at e1
  obtain ⟨o, ho, e2⟩ := ends_p hd hx.cyc (hA.set 7 (pc1 addr)) hset
  obtain ⟨hlen, hall⟩ := ends_ok (code := code) hx.cyc (hA.set 7 (pc1 addr))
  have hbk : backN x addr < 65536 := by unfold backN; omega
  have hback : (addr + (1 + (sizeV x.2.2.1 : Int))) % 65536 = (backN x addr : Int) := by unfold backN; omega
  have hw1 : w64 (addr + 1) = addr + 1 := w64_id (by omega) (by omega)
  have hw2 : w64 (1 + (sizeV x.2.2.1 : Int)) = 1 + (sizeV x.2.2.1 : Int) := w64_id (by omega) (by omega)
  have hw3 : w64 (addr + (1 + (sizeV x.2.2.1 : Int))) = addr + (1 + (sizeV x.2.2.1 : Int)) := w64_id (by omega) (by omega)
  refine ⟨o, ho, ?_⟩
  have hol := ho.len
  show Ev _ (((1 + (sizeV x.2.2.1 : Int), compI (sortI (toL (endsA code x.2.2.2 (setA A 7 (pc1 addr))))), openL (endsA code x.2.2.2 (setA A 7 (pc1 addr))), callL (backN x addr) (endsA code x.2.2.2 (setA A 7 (pc1 addr)))), o, ()), ())
  change All2 RelE (endsA code x.2.2.2 (setA A 7 (pc1 addr))) o at ho
  generalize endsA code x.2.2.2 (setA A 7 (pc1 addr)) = E at ho hol hlen hall
  have htl := toL_len E
  obtain ⟨y, hy, e3⟩ := Lp.countI (body := fun k => leads54.l0 k (((backN x addr : Nat) : Int), ()) (o, ())) E.length (fun (y : Lst) i => ((), (), i, (0, (), false, false), [], (1 + (sizeV x.2.2.1 : Int), (), y.1, y.2.1), y.2.2)) (fun y => ((), (), (0, (), false, false), [], (1 + (sizeV x.2.2.1 : Int), (), y.1, y.2.1), y.2.2))
    (fun i y => y = (openL (E.take i), callL (backN x addr) (E.take i), toL (E.take i)))
    (fun i y hi hy => by
      have hE : E[i]? = some E[i] := List.getElem?_eq_getElem hi
      obtain ⟨hinv, hpl⟩ := hall _ (get_mem hE)
      generalize E[i] = e at hE hinv hpl
      have hq : o[i]? = some o[i] := List.getElem?_eq_getElem (by rw [ho.len]; exact hi)
      obtain ⟨q1, q2⟩ := ho.at' i e _ hE hq
      have hil : i < o.length := get_lt hq
      generalize o[i] = z at hq q1 q2
      have hpc := wholeR_p q1 hinv (i := 7) (by decide)
      have htk := toL_len (E.take i)
      rw [List.length_take] at htk
      refine ⟨_, rfl, ?_⟩
      have t1 : openL (E.take (i + 1)) = (openL (E.take i) || (pcA e).isNone) := by
        unfold openL
        rw [List.take_add_one, hE, List.any_append]; simp
      have t2 : callL (backN x addr) (E.take (i + 1)) = (callL (backN x addr) (E.take i) || callE (backN x addr) e.2) := by
        unfold callL
        rw [List.take_add_one, hE, List.any_append]; simp
      have t3 : toL (E.take (i + 1)) = toL (E.take i) ++ pcL (pcA e) := by
        rw [List.take_add_one, hE, Option.toList_some, toL_snoc]
      rw [t1, t2, t3, hy]
      simp only [leads54.l0]
      have hw : w64 ((i : Int) + 1) = ((i + 1 : Nat) : Int) := w64_succ (by omega)
      have tail : ∀ (op : Bool) (to : List Int), Ev (fun k => Option.bind (cond (decide ((List.length z.2.2 : Int) ≥ 2))
            ((rd z.2.2 (w64 ((List.length z.2.2 : Int) - 2))).bind fun t63 =>
            some (t63 == (shrI .i64 ((backN x addr : Nat) : Int) 8)))
            (some false)) fun t68 =>
          Option.bind (cond t68
            ((rd z.2.2 (w64 ((List.length z.2.2 : Int) - 1))).bind fun t74 =>
            some (t74 == (ibits .and .i64 ((backN x addr : Nat) : Int) 255)))
            (some false)) fun t79 =>
          Option.bind
            (cond t79
              (some ((), (), ((0 : Int), (), false, false), ([] : List Int), (1 + (sizeV x.2.2.1 : Int), (), op, true), to))
              (some ((), (), (0, (), false, false), [], (1 + (sizeV x.2.2.1 : Int), (), op, callL (backN x addr) (E.take i)), to)) : Option (Unit × (Unit × ((Int × (Unit × (Bool × Bool))) × (List Int × ((Int × (Unit × (Bool × Bool))) × List Int)))))) fun ((_, _, o1_2, o2_2, o3_2, o4_2) : (Unit × (Unit × ((Int × (Unit × (Bool × Bool))) × (List Int × ((Int × (Unit × (Bool × Bool))) × List Int)))))) =>
          (some (Sum.inl ((), (), (w64 ((i : Int) + 1)), o1_2, o2_2, o3_2, o4_2)) : Option ((Unit × (Unit × (Int × ((Int × (Unit × (Bool × Bool))) × (List Int × ((Int × (Unit × (Bool × Bool))) × List Int)))))) ⊕ (Unit × (Unit × ((Int × (Unit × (Bool × Bool))) × (List Int × ((Int × (Unit × (Bool × Bool))) × List Int))))))))
          (.inl ((), (), ((i + 1 : Nat) : Int), (0, (), false, false), [], (1 + (sizeV x.2.2.1 : Int), (), op, callL (backN x addr) (E.take i) || callE (backN x addr) e.2), to)) := fun op to => by
        refine call_ev q2 hpl hbk ?_
        rw [hw]
        cases callE (backN x addr) e.2 with
        | true => rw [Bool.or_true]; exact .bind (.yes rfl (.now _)) (.now _)
        | false => rw [Bool.or_false]; exact .bind (.no rfl (.now _)) (.now _)
      refine .yes (decide_eq_true (by show (i : Int) < (o.length : Int); omega)) (.val (rd_some' hq) (.bind hpc ?_))
      cases hp : pcA e with
      | none =>
        have hp' : wholeA e.1 7 = none := hp
        rw [hp']
        refine .bind (a := ((), (), (), (0, (), false, false), [], (1 + (sizeV x.2.2.1 : Int), (), true, callL (backN x addr) (E.take i)), toL (E.take i), z)) (.yes rfl (.now _)) ?_
        have := tail true (toL (E.take i))
        rw [show (openL (E.take i) || (none : Option Nat).isNone) = true by simp, show pcL none = [] from rfl, List.append_nil]
        exact this
      | some n =>
        have hp' : wholeA e.1 7 = some n := hp
        rw [hp']
        refine .bind (a := ((), (), (), (0, (), false, false), [], (1 + (sizeV x.2.2.1 : Int), (), openL (E.take i), callL (backN x addr) (E.take i)), toL (E.take i) ++ [(n : Int)], z)) (.no (beq_false_of_ne (by show (n : Int) ≠ -1; omega)) (.val (a := ()) (if_pos (room_ok (by simp only [List.length_cons, List.length_nil]; omega))) (.now _))) ?_
        have := tail (openL (E.take i)) (toL (E.take i) ++ [(n : Int)])
        rw [show (openL (E.take i) || (some n).isNone) = openL (E.take i) by simp]
        exact this)
    (fun y _ => by
      simp only [leads54.l0]
      exact .no (decide_eq_false (by show ¬ ((E.length : Nat) : Int) < (o.length : Int); omega)) (.now _)) (b := (false, false, [])) rfl
  rw [List.take_length] at hy
  unfold leads54
  refine .bind (low16_ev _) ?_
  rw [hw1]
  refine .bind e1 (.bind (size_ev hx.mode) ?_)
  simp only [hw2, hw3]
  refine .bind (low16_ev _) ?_
  rw [hback]
  refine .bind e2 (.bind e3.ev ?_)
  rw [hy]
  exact .bind (sort_ev (by show (toL E).length ≤ 1000; omega)) (.bind (comp_ev (by show (sortI (toL E)).length ≤ 1000; rw [sortI_len]; omega)) (.now _))
end Go.Proofs.YtcppmlgnceldmaaGreat.Fl

/- What an instruction leads to: the program's Next. No program in sight. -/
set_option linter.unusedVariables false
set_option maxRecDepth 100000
noncomputable section
namespace Go.Proofs.YtcppmlgnceldmaaGreat.Fl
open Go Go.Proofs.YtcppmlgnceldmaaGreat.Gp

abbrev BgR := Ins × Int × Unit
def begunR (c : Cpu) (code : Cod) (addr : Int) : BgR := match atI code addr with
  | none => (none4, 19, ())
  | some op => match findI c (op : Int) with
    | none => (none4, 4, ())
    | some x => match atI code (addr + (sizeV x.2.2.1 : Int)) with
      | none => (none4, 13, ())
      | some _ => (x, 0, ())
theorem atI_in {code : Cod} (hd : OkD code) {x : Int} {n : Nat} (h : atI code x = some n) : 0 ≤ x ∧ x < 65536 := by
  have := hd.base
  unfold atI at h
  split at h
  · omega
  · cases h
theorem findI_mem {c : Cpu} {op : Int} {x : Ins} (h : findI c op = some x) : x ∈ c.2.1 := List.mem_of_find?_eq_some h
theorem eP_ne {n : Nat} : (eP (some n) == (-1)) = false := beq_false_of_ne (by show (n : Int) ≠ -1; omega)
theorem begun_p {c : Cpu} (hc : Wc c) {code : Cod} (hp : OkP c code) (hd : OkD code) {addr : Int} (ha : -9223372036854775808 ≤ addr ∧ addr ≤ 9223372036854775807) : Ev (fun k => begun53 k c code addr) (begunR c code addr, ()) := by
  cases h1 : atI code addr with
  | none =>
    have eB : begunR c code addr = (none4, 19, ()) := by unfold begunR; rw [h1]
    have e1 := at_ev hd ha
    rw [h1] at e1
    rw [eB]
    unfold begun53
    exact .bind e1 (.yes rfl (.now _))
  | some op =>
    have e1 := at_ev hd ha
    rw [h1] at e1
    have hf := find_ev hc (op : Int)
    cases h2 : findI c (op : Int) with
    | none =>
      have eB : begunR c code addr = (none4, 4, ()) := by unfold begunR; rw [h1]; simp only [h2]
      have eF : findR c (op : Int) = (none4, false, ()) := by unfold findR; rw [h2]
      rw [eF] at hf
      rw [eB]
      unfold begun53
      exact .bind e1 (.no eP_ne (.bind hf (.yes rfl (.now _))))
    | some x =>
      have eF : findR c (op : Int) = (x, true, ()) := by unfold findR; rw [h2]
      rw [eF] at hf
      have hx := hp.ins x (findI_mem h2)
      have hin := atI_in hd h1
      have hs := sizeV_le x.2.2.1
      have hw : w64 (addr + (sizeV x.2.2.1 : Int)) = addr + (sizeV x.2.2.1 : Int) := w64_id (by omega) (by omega)
      have e3 := at_ev hd (x := addr + (sizeV x.2.2.1 : Int)) (by omega)
      rw [← hw] at e3
      unfold begun53
      refine .bind e1 (.no eP_ne (.bind hf (.no rfl (.bind (size_ev hx.mode) (.bind e3 ?_)))))
      rw [hw]
      cases h3 : atI code (addr + (sizeV x.2.2.1 : Int)) with
      | none =>
        have eB : begunR c code addr = (none4, 13, ()) := by unfold begunR; rw [h1]; simp only [h2]; rw [h3]
        rw [eB]
        exact .yes rfl (.now _)
      | some n =>
        have eB : begunR c code addr = (x, 0, ()) := by unfold begunR; rw [h1]; simp only [h2]; rw [h3]
        rw [eB]
        exact .no eP_ne (.now _)
theorem begun_ok {c : Cpu} {code : Cod} (hp : OkP c code) (hd : OkD code) {addr : Int} (h : (begunR c code addr).2.1 = 0) : OkI (begunR c code addr).1 ∧ 0 ≤ addr ∧ addr < 65536 := by
  unfold begunR at h ⊢
  cases h1 : atI code addr with
  | none => rw [h1] at h; cases h
  | some op =>
    rw [h1] at h
    have hin := atI_in hd h1
    cases h2 : findI c (op : Int) with
    | none => simp only [h2] at h; cases h
    | some x =>
      simp only [h2] at h ⊢
      cases h3 : atI code (addr + (sizeV x.2.2.1 : Int)) with
      | none => rw [h3] at h; cases h
      | some n => exact ⟨hp.ins x (findI_mem h2), hin⟩
def zeroW : Wy := (0, [], false, false)
def nextR (c : Cpu) (code : Cod) (addr : Int) : Wy × Int × Unit := if (begunR c code addr).2.1 ≠ 0 then (zeroW, (begunR c code addr).2.1, ()) else (wayA code (begunR c code addr).1 addr A0, 0, ())
theorem next_p {c : Cpu} (hc : Wc c) {code : Cod} (hp : OkP c code) (hd : OkD code) {addr : Int} (ha : -9223372036854775808 ≤ addr ∧ addr ≤ 9223372036854775807) (h0 : Ev (fun k => Check20 k c code) (0, ())) : Ev (fun k => Next18 k c code addr) (nextR c code addr, ()) := by
  have hb := begun_p hc hp hd ha
  have hbo := begun_ok hp hd (addr := addr)
  unfold Next18 nextR
  refine .bind h0 (.no rfl (.bind hb ?_))
  generalize begunR c code addr = b at hbo
  by_cases h : b.2.1 ≠ 0
  · rw [if_pos h]
    exact .yes (bne_iff_ne.2 h) (.now _)
  · rw [if_neg h]
    have h : b.2.1 = 0 := by omega
    obtain ⟨hx, h1⟩ := hbo h
    obtain ⟨r, hr, en⟩ := none_p
    obtain ⟨o, ho, el⟩ := leads_p hd hx h1 inv0 hr
    refine .no (by rw [h]; rfl) (.bind (a := ((), wayA code b.1 addr A0, 0, (), false, false)) ?_ (.now _))
    exact Ev.agr (.bind en (Ev.agr (.bind el (.now _)) (.bind el (.now _)))) (.bind en (.bind el (.now _)))
theorem next_bad {c : Cpu} {code : Cod} {addr e : Int} (he : e ≠ 0) (h0 : Ev (fun k => Check20 k c code) (e, ())) : Ev (fun k => Next18 k c code addr) ((zeroW, e, ()), ()) := by
  unfold Next18
  exact .bind h0 (.yes (bne_iff_ne.2 he) (.now _))
end Go.Proofs.YtcppmlgnceldmaaGreat.Fl

/- What is known of registers: the reference's. No program in sight. -/
set_option linter.unusedVariables false
set_option maxRecDepth 100000
noncomputable section
namespace Go.Proofs.YtcppmlgnceldmaaGreat.Fl
open Go Go.Proofs.YtcppmlgnceldmaaGreat.Gp

def eR : Option Nat → Int × Bool
  | none => (0, false)
  | some n => ((n : Int), true)
theorem tmod_form (x M : Int) : Int.tmod x M = if 0 ≤ x then x % M else -((-x) % M) := by
  by_cases h : 0 ≤ x
  · rw [if_pos h, Int.tmod_eq_emod_of_nonneg h]
  · rw [if_neg h]
    have := Int.neg_tmod (-x) M
    rw [Int.neg_neg] at this
    rw [this, Int.tmod_eq_emod_of_nonneg (by omega)]
theorem known_ev {x : Int} (hx : -1000000 ≤ x ∧ x ≤ 1000000) {bits M : Int} (hb : bits = 8 ∧ M = 256 ∨ bits = 16 ∧ M = 65536) : Ev (fun k => known94 k x bits) ((x % M, true), ()) := by
  have hs : shlI .i64 1 bits = M := by rcases hb with ⟨rfl, rfl⟩ | ⟨rfl, rfl⟩ <;> rfl
  have h0 : ¬ bits < 0 := by omega
  have hne : ¬ M = 0 := by omega
  have key : -M < Int.tmod x M ∧ Int.tmod x M < M ∧ (Int.tmod x M + M) % M = x % M := by
    rw [tmod_form]
    rcases hb with ⟨_, rfl⟩ | ⟨_, rfl⟩ <;> split <;> omega
  unfold known94
  refine .val (a := M) (by rw [if_neg h0, hs]) (.val (a := Int.tmod x M) (if_neg hne) (.val (a := M) (by rw [if_neg h0, hs]) (.val (a := M) (by rw [if_neg h0, hs]) (.val (a := Int.tmod (w64 (Int.tmod x M + M)) M) (if_neg hne) (.now' ?_)))))
  rw [w64_id (by omega) (by omega), Int.tmod_eq_emod_of_nonneg (by omega), key.2.2]
theorem sign_ev (m : Int) : Ev (fun k => step1168 k m) (if m > 127 then w64 (m - 256) else m, ()) := by
  unfold step1168
  by_cases h : m > 127
  · rw [if_pos h]; exact .yes (decide_eq_true h) (.now _)
  · rw [if_neg h]; exact .no (decide_eq_false h) (.now _)
theorem thenA_1 (bits : Int) : (∀ v : Option Nat, v = none → Ev (fun k => then129 k bits () [eR v]) ((0, false), ())) ∧ ∀ (n : Nat) (y : Int × Bool), Ev (fun k => known94 k (n : Int) bits) (y, ()) → Ev (fun k => then129 k bits () [((n : Int), true)]) (y, ()) := by
  refine ⟨fun v hv => ?_, fun n y hy => ?_⟩
  · subst hv
    unfold then129
    refine .joinR (Lp.ev (.done ?_))
    simp only [then129.l0]
    exact .yes rfl (.val rfl (.yes rfl (.now _)))
  · unfold then129
    refine .joinL (S := Unit) (a := ((), (), (), (0, false), [(n : Int)])) (Lp.ev (.step (s' := ((), (), (), 1, (0, false), [(n : Int)])) ?_ (.done ?_))) ?_
    · simp only [then129.l0]
      exact .yes rfl (.val rfl (.no rfl (.val (a := ()) rfl (.now _))))
    · simp only [then129.l0]
      exact .no rfl (.now _)
    · exact .bind (a := ((n : Int), ())) (.val rfl (.now _)) (.bind hy (.now _))

theorem thenB_1 (bits : Int) : (∀ v : Option Nat, v = none → Ev (fun k => then129' k bits () [eR v]) ((0, false), ())) ∧ ∀ (n : Nat) (y : Int × Bool), Ev (fun k => known94 k (quoI .i64 (n : Int) 256) bits) (y, ()) → Ev (fun k => then129' k bits () [((n : Int), true)]) (y, ()) := by
  refine ⟨fun v hv => ?_, fun n y hy => ?_⟩
  · subst hv
    unfold then129'
    refine .joinR (Lp.ev (.done ?_))
    simp only [then129'.l0]
    exact .yes rfl (.val rfl (.yes rfl (.now _)))
  · unfold then129'
    refine .joinL (S := Unit) (a := ((), (), (), (0, false), [(n : Int)])) (Lp.ev (.step (s' := ((), (), (), 1, (0, false), [(n : Int)])) ?_ (.done ?_))) ?_
    · simp only [then129'.l0]
      exact .yes rfl (.val rfl (.no rfl (.val (a := ()) rfl (.now _))))
    · simp only [then129'.l0]
      exact .no rfl (.now _)
    · exact .bind (a := (quoI .i64 (n : Int) 256, ())) (.val rfl (.now _)) (.bind hy (.now _))

theorem thenC_2 (bits : Int) : (∀ v w : Option Nat, v = none ∨ w = none → Ev (fun k => then129'' k bits () [eR v, eR w]) ((0, false), ())) ∧ ∀ (n m : Nat) (y : Int × Bool), Ev (fun k => known94 k (w64 ((n : Int) + w64 (256 * (m : Int)))) bits) (y, ()) → Ev (fun k => then129'' k bits () [((n : Int), true), ((m : Int), true)]) (y, ()) := by
  refine ⟨fun v w hv => ?_, fun n m y hy => ?_⟩
  · unfold then129''
    cases v with
    | none =>
      refine .joinR (Lp.ev (.done ?_))
      simp only [then129''.l0]
      exact .yes rfl (.val rfl (.yes rfl (.now _)))
    | some n =>
      have hw : w = none := hv.resolve_left (fun h => by cases h)
      subst hw
      refine .joinR (Lp.ev (.step (s' := ((), (), (), 1, (0, false), [(n : Int)])) ?_ (.done ?_)))
      · simp only [then129''.l0]
        exact .yes rfl (.val rfl (.no rfl (.val (a := ()) rfl (.now _))))
      · simp only [then129''.l0]
        exact .yes rfl (.val rfl (.yes rfl (.now _)))
  · unfold then129''
    refine .joinL (S := Unit) (a := ((), (), (), (0, false), [(n : Int), (m : Int)])) (Lp.ev (.step (s' := ((), (), (), 1, (0, false), [(n : Int)])) ?_ (.step (s' := ((), (), (), 2, (0, false), [(n : Int), (m : Int)])) ?_ (.done ?_)))) ?_
    · simp only [then129''.l0]
      exact .yes rfl (.val rfl (.no rfl (.val (a := ()) rfl (.now _))))
    · simp only [then129''.l0]
      exact .yes rfl (.val rfl (.no rfl (.val (a := ()) rfl (.now _))))
    · simp only [then129''.l0]
      exact .no rfl (.now _)
    · exact .bind (a := (w64 ((n : Int) + w64 (256 * (m : Int))), ())) (.val rfl (.val rfl (.now _))) (.bind hy (.now _))

theorem thenD_1 (bits : Int) (b : Int) : (∀ v : Option Nat, v = none → Ev (fun k => then129''' k bits (b, ()) [eR v]) ((0, false), ())) ∧ ∀ (n : Nat) (y : Int × Bool), Ev (fun k => known94 k (w64 ((n : Int) + b)) bits) (y, ()) → Ev (fun k => then129''' k bits (b, ()) [((n : Int), true)]) (y, ()) := by
  refine ⟨fun v hv => ?_, fun n y hy => ?_⟩
  · subst hv
    unfold then129'''
    refine .joinR (Lp.ev (.done ?_))
    simp only [then129'''.l0]
    exact .yes rfl (.val rfl (.yes rfl (.now _)))
  · unfold then129'''
    refine .joinL (S := Unit) (a := ((b, ()), (), (), (0, false), [(n : Int)])) (Lp.ev (.step (s' := ((b, ()), (), (), 1, (0, false), [(n : Int)])) ?_ (.done ?_))) ?_
    · simp only [then129'''.l0]
      exact .yes rfl (.val rfl (.no rfl (.val (a := ()) rfl (.now _))))
    · simp only [then129'''.l0]
      exact .no rfl (.now _)
    · exact .bind (a := (w64 ((n : Int) + b), ())) (.val rfl (.now _)) (.bind hy (.now _))

theorem thenE_1 (bits : Int) (b : Int) : (∀ v : Option Nat, v = none → Ev (fun k => then129'''' k bits ((), ()) [eR v] b) ((0, false), b)) ∧ ∀ (n : Nat) (y : Int × Bool), Ev (fun k => known94 k (w64 ((n : Int) + b)) bits) (y, ()) → Ev (fun k => then129'''' k bits ((), ()) [((n : Int), true)] b) (y, b) := by
  refine ⟨fun v hv => ?_, fun n y hy => ?_⟩
  · subst hv
    unfold then129''''
    refine .joinR (Lp.ev (.done ?_))
    simp only [then129''''.l0]
    exact .yes rfl (.val rfl (.yes rfl (.now _)))
  · unfold then129''''
    refine .joinL (S := Unit) (a := (((), ()), (), (), b, (0, false), [(n : Int)])) (Lp.ev (.step (s' := (((), ()), (), (), 1, b, (0, false), [(n : Int)])) ?_ (.done ?_))) ?_
    · simp only [then129''''.l0]
      exact .yes rfl (.val rfl (.no rfl (.val (a := ()) rfl (.now _))))
    · simp only [then129''''.l0]
      exact .no rfl (.now _)
    · exact .bind (a := (w64 ((n : Int) + b), b)) (.val rfl (.now _)) (.bind hy (.now _))

theorem thenF_2 (bits : Int) : (∀ v w : Option Nat, v = none ∨ w = none → Ev (fun k => then129''''' k bits () [eR v, eR w]) ((0, false), ())) ∧ ∀ (n m : Nat) (y : Int × Bool), Ev (fun k => known94 k (w64 ((n : Int) + (m : Int))) bits) (y, ()) → Ev (fun k => then129''''' k bits () [((n : Int), true), ((m : Int), true)]) (y, ()) := by
  refine ⟨fun v w hv => ?_, fun n m y hy => ?_⟩
  · unfold then129'''''
    cases v with
    | none =>
      refine .joinR (Lp.ev (.done ?_))
      simp only [then129'''''.l0]
      exact .yes rfl (.val rfl (.yes rfl (.now _)))
    | some n =>
      have hw : w = none := hv.resolve_left (fun h => by cases h)
      subst hw
      refine .joinR (Lp.ev (.step (s' := ((), (), (), 1, (0, false), [(n : Int)])) ?_ (.done ?_)))
      · simp only [then129'''''.l0]
        exact .yes rfl (.val rfl (.no rfl (.val (a := ()) rfl (.now _))))
      · simp only [then129'''''.l0]
        exact .yes rfl (.val rfl (.yes rfl (.now _)))
  · unfold then129'''''
    refine .joinL (S := Unit) (a := ((), (), (), (0, false), [(n : Int), (m : Int)])) (Lp.ev (.step (s' := ((), (), (), 1, (0, false), [(n : Int)])) ?_ (.step (s' := ((), (), (), 2, (0, false), [(n : Int), (m : Int)])) ?_ (.done ?_)))) ?_
    · simp only [then129'''''.l0]
      exact .yes rfl (.val rfl (.no rfl (.val (a := ()) rfl (.now _))))
    · simp only [then129'''''.l0]
      exact .yes rfl (.val rfl (.no rfl (.val (a := ()) rfl (.now _))))
    · simp only [then129'''''.l0]
      exact .no rfl (.now _)
    · exact .bind (a := (w64 ((n : Int) + (m : Int)), ())) (.val rfl (.val rfl (.now _))) (.bind hy (.now _))

theorem thenG_2 (bits : Int) : (∀ v w : Option Nat, v = none ∨ w = none → Ev (fun k => then129'''''' k bits ((), ()) [eR v, eR w] ()) ((0, false), ())) ∧ ∀ (n m : Nat) (y : Int × Bool), Ev (fun k => known94 k (w64 ((n : Int) + (if (m : Int) > 127 then w64 ((m : Int) - 256) else (m : Int)))) bits) (y, ()) → Ev (fun k => then129'''''' k bits ((), ()) [((n : Int), true), ((m : Int), true)] ()) (y, ()) := by
  refine ⟨fun v w hv => ?_, fun n m y hy => ?_⟩
  · unfold then129''''''
    cases v with
    | none =>
      refine .joinR (Lp.ev (.done ?_))
      simp only [then129''''''.l0]
      exact .yes rfl (.val rfl (.yes rfl (.now _)))
    | some n =>
      have hw : w = none := hv.resolve_left (fun h => by cases h)
      subst hw
      refine .joinR (Lp.ev (.step (s' := (((), ()), (), (), 1, (), (0, false), [(n : Int)])) ?_ (.done ?_)))
      · simp only [then129''''''.l0]
        exact .yes rfl (.val rfl (.no rfl (.val (a := ()) rfl (.now _))))
      · simp only [then129''''''.l0]
        exact .yes rfl (.val rfl (.yes rfl (.now _)))
  · unfold then129''''''
    refine .joinL (S := Unit) (a := (((), ()), (), (), (), (0, false), [(n : Int), (m : Int)])) (Lp.ev (.step (s' := (((), ()), (), (), 1, (), (0, false), [(n : Int)])) ?_ (.step (s' := (((), ()), (), (), 2, (), (0, false), [(n : Int), (m : Int)])) ?_ (.done ?_)))) ?_
    · simp only [then129''''''.l0]
      exact .yes rfl (.val rfl (.no rfl (.val (a := ()) rfl (.now _))))
    · simp only [then129''''''.l0]
      exact .yes rfl (.val rfl (.no rfl (.val (a := ()) rfl (.now _))))
    · simp only [then129''''''.l0]
      exact .no rfl (.now _)
    · exact .bind (a := (w64 ((n : Int) + (if (m : Int) > 127 then w64 ((m : Int) - 256) else (m : Int))), ())) (.val rfl (.val rfl (.bind (sign_ev _) (.now _)))) (.bind hy (.now _))

end Go.Proofs.YtcppmlgnceldmaaGreat.Fl

/- What is known of registers: the reference's bank. No program in sight. -/
set_option linter.unusedVariables false
set_option maxRecDepth 100000
noncomputable section
namespace Go.Proofs.YtcppmlgnceldmaaGreat.Fl
open Go Go.Proofs.YtcppmlgnceldmaaGreat.Gp

abbrev Vals := List (Int × Bool)
abbrev WalkU := Vals × Unit
structure RelR (A : Rg) (b : Vals) : Prop where
  len : b.length = 18
  lo : ∀ i, i < 9 → b[2 * i]? = some (eR (A i).1)
  hi : ∀ i, i < 9 → wdN i = true → b[2 * i + 1]? = some (eR (A i).2)
theorem RelR.congr {A A' : Rg} {b : Vals} (h : RelR A b) (e1 : ∀ i, i < 9 → (A i).1 = (A' i).1) (e2 : ∀ i, i < 9 → wdN i = true → (A i).2 = (A' i).2) : RelR A' b :=
  ⟨h.len, fun i hi => by rw [← e1 i hi]; exact h.lo i hi, fun i hi hw => by rw [← e2 i hi hw]; exact h.hi i hi hw⟩
theorem RelR.put {A : Rg} {b b' : Vals} (h : RelR A b) {i : Nat} (hi : i < 9) {x : Option Nat × Option Nat} (hl : b'.length = 18) (h1 : b'[2 * i]? = some (eR x.1)) (h2 : wdN i = true → b'[2 * i + 1]? = some (eR x.2)) (h3 : ∀ j : Nat, j ≠ 2 * i → j ≠ 2 * i + 1 → b'[j]? = b[j]?) : RelR (putA A i x) b' := by
  refine ⟨hl, fun j hj => ?_, fun j hj hw => ?_⟩
  · unfold putA
    by_cases hji : j = i
    · subst hji; rw [if_pos rfl]; exact h1
    · rw [if_neg hji, h3 _ (by omega) (by omega)]; exact h.lo j hj
  · unfold putA
    by_cases hji : j = i
    · subst hji; rw [if_pos rfl]; exact h2 hw
    · rw [if_neg hji, h3 _ (by omega) (by omega)]; exact h.hi j hj hw
theorem wdN_ge {i : Nat} (hi : i < 9) : decide ((i : Int) ≥ 7) = wdN i := by
  have : i = 0 ∨ i = 1 ∨ i = 2 ∨ i = 3 ∨ i = 4 ∨ i = 5 ∨ i = 6 ∨ i = 7 ∨ i = 8 := by omega
  rcases this with rfl | rfl | rfl | rfl | rfl | rfl | rfl | rfl | rfl <;> rfl
theorem wideR_ev {i : Nat} (hi : i < 9) : Ev (fun k => wide131 k (i : Int)) (wdN i, ()) := by
  unfold wide131
  exact .now' (by rw [wdN_ge hi])
theorem two_in {i : Nat} (hi : i < 9) : (if 0 ≤ ((2 * i : Nat) : Int) ∧ ((2 * i : Nat) : Int) < 18 then some () else none) = some () := if_pos ⟨by omega, by omega⟩
theorem two1_in {i : Nat} (hi : i < 9) : (if 0 ≤ ((2 * i + 1 : Nat) : Int) ∧ ((2 * i + 1 : Nat) : Int) < 18 then some () else none) = some () := if_pos ⟨by omega, by omega⟩
theorem w2 {i : Nat} (hi : i < 9) : w64 (2 * (i : Int)) = ((2 * i : Nat) : Int) := by rw [w64_id (by omega) (by omega)]; omega
theorem w21 {i : Nat} (hi : i < 9) : w64 (((2 * i : Nat) : Int) + 1) = ((2 * i + 1 : Nat) : Int) := by rw [w64_id (by omega) (by omega)]; omega
theorem size_r {i : Nat} (hi : i < 9) : Ev (fun k => size165 k (i : Int)) (cond (wdN i) 16 8, ()) := by
  unfold size165
  refine .bind (wideR_ev hi) ?_
  cases wdN i with
  | true => exact .yes rfl (.now _)
  | false => exact .no rfl (.now _)
section
variable {A : Rg} {b : Vals} {o1 : Vals}
theorem get_r (h : RelR A b) (hA : Inv A) {i : Nat} (hi : i < 9) : Ev (fun k => get96 k () (i : Int) (b, ()) o1) (eR (wholeA A i), (b, ()), o1) := by
  have h1 := h.lo i hi
  obtain ⟨b1, b2⟩ := hA i
  unfold get96 wholeA
  simp only [w2 hi, w21 hi]
  refine .bind (wideR_ev hi) ?_
  cases hw : wdN i with
  | false => exact .yes rfl (.val (two_in hi) (.val (rd_some' h1) (.now _)))
  | true =>
    have h2 := h.hi i hi hw
    refine .no rfl (.val (two_in hi) (.val (rd_some' h1) (.val (two1_in hi) (.val (rd_some' h2) ?_))))
    rw [if_pos rfl]
    cases e1 : (A i).1 with
    | none => exact .bind ((thenC_2 16).1 none _ (.inl rfl)) (.now _)
    | some l =>
      cases e2 : (A i).2 with
      | none => exact .bind ((thenC_2 16).1 (some l) none (.inr rfl)) (.now _)
      | some hh =>
        have hl1 := b1 l e1
        have hl2 := b2 hh e2
        have hw3 : w64 ((l : Int) + w64 (256 * (hh : Int))) = ((l + 256 * hh : Nat) : Int) := by
          rw [w64_id (x := 256 * (hh : Int)) (by omega) (by omega), w64_id (by omega) (by omega)]; omega
        have hk := known_ev (x := ((l + 256 * hh : Nat) : Int)) (by omega) (bits := 16) (M := 65536) (.inr ⟨rfl, rfl⟩)
        rw [show ((l + 256 * hh : Nat) : Int) % 65536 = ((l + 256 * hh : Nat) : Int) by omega, ← hw3] at hk
        refine .bind ((thenC_2 16).2 l hh _ hk) (.now' ?_)
        rw [hw3]; rfl
theorem quo256n {n : Nat} (h : n < 65536) : quoI .i64 (n : Int) 256 = ((n / 256 : Nat) : Int) := by
  have e : Int.tdiv (n : Int) ((256 : Nat) : Int) = ((n / 256 : Nat) : Int) := (Int.ofNat_tdiv n 256).symm
  show IntKind.wrap .i64 (Int.tdiv (n : Int) ((256 : Nat) : Int)) = _
  rw [e]
  exact wrap64_nat (by omega)
theorem put93_r (h : RelR A b) {i : Nat} (hi : i < 9) {v : Option Nat} (hv : ∀ n, v = some n → n < 65536) : ∃ b', RelR (setA A i v) b' ∧ Ev (fun k => put93 k () (i : Int) (eR v) b) ((), b') := by
  have h1 := h.lo i hi
  have hl := h.len
  have eA : Ev (fun k => then129 k 8 () [eR v]) (eR (v.map (· % 256)), ()) := by
    cases v with
    | none => exact (thenA_1 8).1 none rfl
    | some n =>
      have := hv n rfl
      have hk := known_ev (x := (n : Int)) (by omega) (bits := 8) (M := 256) (.inl ⟨rfl, rfl⟩)
      exact ((thenA_1 8).2 n _ hk).to (by show (((n : Int) % 256, true), ()) = ((((n % 256 : Nat) : Int), true), ()); rw [Int.natCast_emod]; rfl)
  have eB : Ev (fun k => then129' k 8 () [eR v]) (eR (v.map (fun n => n / 256 % 256)), ()) := by
    cases v with
    | none => exact (thenB_1 8).1 none rfl
    | some n =>
      have := hv n rfl
      have hq : quoI .i64 (n : Int) 256 = ((n / 256 : Nat) : Int) := quo256n this
      have hk := known_ev (x := ((n / 256 : Nat) : Int)) (by omega) (bits := 8) (M := 256) (.inl ⟨rfl, rfl⟩)
      rw [← hq] at hk
      exact ((thenB_1 8).2 n _ hk).to (by rw [hq]; show ((((n / 256 : Nat) : Int) % 256, true), ()) = ((((n / 256 % 256 : Nat) : Int), true), ()); rw [Int.natCast_emod]; rfl)
  cases hw : wdN i with
  | false =>
    refine ⟨b.set (2 * i) (eR (v.map (· % 256))), h.put hi (by rw [List.length_set]; exact hl) (by rw [List.getElem?_set_self (by omega)]) (fun e => by rw [hw] at e; cases e) (fun j j1 _ => by rw [List.getElem?_set_ne (fun e => j1 e.symm)]), ?_⟩
    unfold put93
    simp only [w2 hi, w21 hi]
    refine .bind eA (.val (two_in hi) (.val (rd_some' h1) (.bind (wideR_ev hi) (.bind (a := (b.set (2 * i) (eR (v.map (· % 256))))) (.no hw (.now' (by rw [Int.toNat_natCast]))) (.now _)))))
  | true =>
    have h2 := h.hi i hi hw
    refine ⟨(b.set (2 * i) (eR (v.map (· % 256)))).set (2 * i + 1) (eR (v.map (fun n => n / 256 % 256))), h.put hi (by rw [List.length_set, List.length_set]; exact hl) (by rw [List.getElem?_set_ne (by omega), List.getElem?_set_self (by omega)]) (fun _ => by rw [List.getElem?_set_self (by rw [List.length_set]; omega)]) (fun j j1 j2 => by rw [List.getElem?_set_ne (fun e => j2 e.symm), List.getElem?_set_ne (fun e => j1 e.symm)]), ?_⟩
    unfold put93
    simp only [w2 hi, w21 hi]
    refine .bind eA (.val (two_in hi) (.val (rd_some' h1) (.bind (wideR_ev hi) (.bind (a := ((b.set (2 * i) (eR (v.map (· % 256)))).set (2 * i + 1) (eR (v.map (fun n => n / 256 % 256))))) (.yes hw (.bind eB (.val (two1_in hi) (.val (a := eR (A i).2) ?_ (.now' (by rw [Int.toNat_natCast, Int.toNat_natCast])))))) (.now _)))))
    rw [Int.toNat_natCast]
    exact rd_some' (by rw [List.getElem?_set_ne (by omega)]; exact h2)
theorem put93'_r (h : RelR A b) {i : Nat} (hi : i < 9) {v : Option Nat} (hv : ∀ n, v = some n → n < 65536) : ∃ b', RelR (setA A i v) b' ∧ Ev (fun k => put93' k () (i : Int) (eR v) (b, ()) o1) ((), (b', ()), o1) := by
  have h1 := h.lo i hi
  have hl := h.len
  have eA : Ev (fun k => then129 k 8 () [eR v]) (eR (v.map (· % 256)), ()) := by
    cases v with
    | none => exact (thenA_1 8).1 none rfl
    | some n =>
      have := hv n rfl
      have hk := known_ev (x := (n : Int)) (by omega) (bits := 8) (M := 256) (.inl ⟨rfl, rfl⟩)
      exact ((thenA_1 8).2 n _ hk).to (by show (((n : Int) % 256, true), ()) = ((((n % 256 : Nat) : Int), true), ()); rw [Int.natCast_emod]; rfl)
  have eB : Ev (fun k => then129' k 8 () [eR v]) (eR (v.map (fun n => n / 256 % 256)), ()) := by
    cases v with
    | none => exact (thenB_1 8).1 none rfl
    | some n =>
      have := hv n rfl
      have hq : quoI .i64 (n : Int) 256 = ((n / 256 : Nat) : Int) := quo256n this
      have hk := known_ev (x := ((n / 256 : Nat) : Int)) (by omega) (bits := 8) (M := 256) (.inl ⟨rfl, rfl⟩)
      rw [← hq] at hk
      exact ((thenB_1 8).2 n _ hk).to (by rw [hq]; show ((((n / 256 : Nat) : Int) % 256, true), ()) = ((((n / 256 % 256 : Nat) : Int), true), ()); rw [Int.natCast_emod]; rfl)
  cases hw : wdN i with
  | false =>
    refine ⟨b.set (2 * i) (eR (v.map (· % 256))), h.put hi (by rw [List.length_set]; exact hl) (by rw [List.getElem?_set_self (by omega)]) (fun e => by rw [hw] at e; cases e) (fun j j1 _ => by rw [List.getElem?_set_ne (fun e => j1 e.symm)]), ?_⟩
    unfold put93'
    simp only [w2 hi, w21 hi]
    refine .bind eA (.val (two_in hi) (.val (rd_some' h1) (.bind (wideR_ev hi) (.bind (a := (((b.set (2 * i) (eR (v.map (· % 256)))), ()), o1)) (.no hw (.now' (by rw [Int.toNat_natCast]))) (.now _)))))
  | true =>
    have h2 := h.hi i hi hw
    refine ⟨(b.set (2 * i) (eR (v.map (· % 256)))).set (2 * i + 1) (eR (v.map (fun n => n / 256 % 256))), h.put hi (by rw [List.length_set, List.length_set]; exact hl) (by rw [List.getElem?_set_ne (by omega), List.getElem?_set_self (by omega)]) (fun _ => by rw [List.getElem?_set_self (by rw [List.length_set]; omega)]) (fun j j1 j2 => by rw [List.getElem?_set_ne (fun e => j2 e.symm), List.getElem?_set_ne (fun e => j1 e.symm)]), ?_⟩
    unfold put93'
    simp only [w2 hi, w21 hi]
    refine .bind eA (.val (two_in hi) (.val (rd_some' h1) (.bind (wideR_ev hi) (.bind (a := ((((b.set (2 * i) (eR (v.map (· % 256)))).set (2 * i + 1) (eR (v.map (fun n => n / 256 % 256)))), ()), o1)) (.yes hw (.bind eB (.val (two1_in hi) (.val (a := eR (A i).2) ?_ (.now' (by rw [Int.toNat_natCast, Int.toNat_natCast])))))) (.now _)))))
    rw [Int.toNat_natCast]
    exact rd_some' (by rw [List.getElem?_set_ne (by omega)]; exact h2)
theorem add_congr {i : Nat} {by_ M bits : Int} (hbit : bits = 8 ∧ M = 256 ∧ wdN i = false ∨ bits = 16 ∧ M = 65536 ∧ wdN i = true) (h : RelR (setA A i ((wholeA A i).map fun n => (((n : Int) + by_) % M).toNat)) b) : RelR (addA A i by_) b := by
  refine h.congr (fun j hj => ?_) (fun j hj hw => ?_)
  · unfold addA setA putA
    by_cases hji : j = i
    · rw [if_pos hji, if_pos hji]
      cases wholeA A i with
      | none => rfl
      | some m =>
        show some ((((m : Int) + by_) % M).toNat % 256) = some ((((m : Int) + by_) % 65536).toNat % 256)
        rcases hbit with ⟨_, rfl, _⟩ | ⟨_, rfl, _⟩ <;> congr 1 <;> omega
    · rw [if_neg hji, if_neg hji]
  · unfold addA setA putA
    by_cases hji : j = i
    · rw [if_pos hji, if_pos hji]
      subst hji
      have : M = 65536 := by
        rcases hbit with ⟨_, _, c⟩ | ⟨_, c, _⟩
        · rw [hw] at c; cases c
        · exact c
      subst this
      cases wholeA A j <;> rfl
    · rw [if_neg hji, if_neg hji]
theorem plus_r (h : RelR A b) (hA : Inv A) {i : Nat} (hi : i < 9) {by_ : Int} (hb : -70000 ≤ by_ ∧ by_ ≤ 70000) : ∃ b', RelR (addA A i by_) b' ∧ Ev (fun k => cycle1164 k (i : Int) by_ () () (b, ()) o1) ((), (), (b', ()), o1) := by
  have hg := get_r (o1 := o1) h hA hi
  obtain ⟨M, bits, hM, hbit⟩ : ∃ M bits : Int, cond (wdN i) 16 8 = bits ∧ (bits = 8 ∧ M = 256 ∧ wdN i = false ∨ bits = 16 ∧ M = 65536 ∧ wdN i = true) := by
    cases wdN i with
    | true => exact ⟨65536, 16, rfl, .inr ⟨rfl, rfl, rfl⟩⟩
    | false => exact ⟨256, 8, rfl, .inl ⟨rfl, rfl, rfl⟩⟩
  have hMb : bits = 8 ∧ M = 256 ∨ bits = 16 ∧ M = 65536 := by
    rcases hbit with ⟨a, b, _⟩ | ⟨a, b, _⟩
    · exact .inl ⟨a, b⟩
    · exact .inr ⟨a, b⟩
  have hs := size_r hi
  rw [hM] at hs
  have eD : Ev (fun k => then129''' k bits (by_, ()) [eR (wholeA A i)]) (eR ((wholeA A i).map fun n => (((n : Int) + by_) % M).toNat), ()) := by
    cases hwh : wholeA A i with
    | none => exact (thenD_1 bits by_).1 none rfl
    | some n =>
      have := whole_lt hA hwh
      have hw : w64 ((n : Int) + by_) = (n : Int) + by_ := w64_id (by omega) (by omega)
      have hk := known_ev (x := (n : Int) + by_) (by omega) hMb
      rw [← hw] at hk
      refine ((thenD_1 bits by_).2 n _ hk).to ?_
      rw [hw]
      show ((((n : Int) + by_) % M, true), ()) = (((((((n : Int) + by_) % M).toNat : Nat) : Int), true), ())
      rw [Int.toNat_of_nonneg (Int.emod_nonneg _ (by omega))]
  obtain ⟨b', g1, g2⟩ := put93'_r (o1 := o1) h hi (v := (wholeA A i).map fun n => (((n : Int) + by_) % M).toNat) (fun n hn => by
    cases hwh : wholeA A i with
    | none => rw [hwh] at hn; cases hn
    | some m =>
      rw [hwh] at hn; cases hn
      show (((m : Int) + by_) % M).toNat < 65536
      rcases hMb with ⟨_, rfl⟩ | ⟨_, rfl⟩ <;> omega)
  refine ⟨b', add_congr hbit g1, ?_⟩
  unfold cycle1164
  have one : Ev (fun k => (get96 k () (i : Int) (b, ()) o1).bind fun t16 => (then129''' k bits (by_, ()) [t16.1]).bind fun t18 => (put93' k () (i : Int) t18.1 (t16.2.1.1, ()) t16.2.2).bind fun t19 => (some ((), (t19.2.1.1, t19.2.1.2), t19.2.2) : Option (Unit × (WalkU × Vals)))) ((), (b', ()), o1) := .bind hg (.bind eD (.bind g2 (.now _)))
  exact .bind (a := ((), (b', ()), o1)) (Ev.agr (.bind hs one) (.bind hs (Ev.agr one one))) (.now _)
theorem read_r {code : Cod} (hd : OkD code) {a : Option Nat} (ha : ∀ n, a = some n → n < 65536) : Ev (fun k => read167 k code (eR a)) (eR (atI code (eP a)), ()) := by
  have hl := hd.len
  have hbs := hd.base
  unfold read167
  have hw : w64 (code.1 + (code.2.1.length : Int)) = code.1 + (code.2.1.length : Int) := w64_id (by omega) (by omega)
  cases a with
  | none =>
    have : atI code (eP none) = none := if_neg (fun h => by have h : 0 ≤ (-1 : Int) := h.1; omega)
    rw [this]
    exact .yes rfl (.now _)
  | some n =>
    have hn := ha n rfl
    by_cases hin : code.1 ≤ (n : Int) ∧ (n : Int) < code.1 + (code.2.1.length : Int)
    · have e : atI code (eP (some n)) = some (code.2.1.getD ((n : Int) - code.1).toNat 0).toNat := if_pos ⟨by show (0 : Int) ≤ (n : Int); omega, hin.1, hin.2⟩
      have hg : code.2.1[((n : Int) - code.1).toNat]? = some (code.2.1.getD ((n : Int) - code.1).toNat 0) := by
        rw [List.getD_eq_getElem?_getD, List.getElem?_eq_getElem (by omega)]; rfl
      have hb := hd.byte _ (get_mem hg)
      have hw2 : w64 ((n : Int) - code.1) = (n : Int) - code.1 := w64_id (by omega) (by omega)
      rw [e]
      generalize code.2.1.getD ((n : Int) - code.1).toNat 0 = y at hg hb
      have hk := known_ev (x := y) (by omega) (bits := 8) (M := 256) (.inl ⟨rfl, rfl⟩)
      have hy : w64 y = y := w64_id (by omega) (by omega)
      refine .no ?_ (.val (a := y) ?_ ?_)
      · show cond (cond false true (decide ((n : Int) < code.1))) true (decide ((n : Int) ≥ w64 (code.1 + (code.2.1.length : Int)))) = false
        rw [hw, decide_eq_false (by omega)]
        exact decide_eq_false (by omega)
      · show rd code.2.1 (w64 ((n : Int) - code.1)) = some y
        rw [hw2]
        exact rd_at (i := ((n : Int) - code.1).toNat) (by omega) hg
      · rw [hy]
        refine .bind hk (.now' ?_)
        show ((y % 256, true), ()) = ((((y.toNat : Nat) : Int), true), ())
        rw [show y % 256 = ((y.toNat : Nat) : Int) by omega]
    · have e : atI code (eP (some n)) = none := if_neg (fun h => hin ⟨h.2.1, h.2.2⟩)
      rw [e]
      refine .yes ?_ (.now _)
      show cond (cond false true (decide ((n : Int) < code.1))) true (decide ((n : Int) ≥ w64 (code.1 + (code.2.1.length : Int)))) = true
      rw [hw]
      by_cases h1 : (n : Int) < code.1
      · rw [decide_eq_true h1]; rfl
      · rw [decide_eq_false h1]
        exact decide_eq_true (by omega)
end
end Go.Proofs.YtcppmlgnceldmaaGreat.Fl

/- What is known of registers: the reference's cycles and steps. No program in sight. -/
set_option linter.unusedVariables false
set_option maxRecDepth 100000
noncomputable section
namespace Go.Proofs.YtcppmlgnceldmaaGreat.Fl
open Go Go.Proofs.YtcppmlgnceldmaaGreat.Gp

section
variable {A : Rg} {b : Vals} {code : Cod} {P : Psh}
theorem data_r (hd : OkD code) (hA : Inv A) {a : Int} (h : a = 0 ∨ a = 1) : eR (dataA code A a) = eR (atI code (eP (wholeA A 7))) := by unfold dataA; rw [if_pos h]
theorem cycle_r (hd : OkD code) (h : RelR A b) (hA : Inv A) {c : Cyc} (hc : OkC c) (hP : P.length ≤ 1000) (h0 : c.1 ≠ 0) : ∃ b', RelR (busA code A P c).1 b' ∧ Ev (fun k => cycle133 k () code c (b, ()) (P.map eR)) ((), (b', ()), (busA code A P c).2.map eR) := by
  obtain ⟨bus, at_, reg, steps⟩ := c
  have h0 : bus ≠ 0 := h0
  have hreg : 0 ≤ reg ∧ reg < 9 := hc.reg
  obtain ⟨i, rfl⟩ : ∃ i : Nat, reg = (i : Int) := ⟨reg.toNat, by omega⟩
  have hi : i < 9 := by omega
  have hbus : 0 ≤ bus ∧ bus ≤ 2 := hc.bus
  have hat : 0 ≤ at_ ∧ at_ < 12 := hc.at'
  have w0 := get_r (o1 := P.map eR) h hA hi
  have w7 := get_r (o1 := P.map eR) h hA (i := 7) (by decide)
  have hrd := read_r hd (a := wholeA A 7) (fun n hn => whole_lt hA hn)
  obtain ⟨ra, ha1, ha2⟩ := plus_r (o1 := P.map eR) h hA (i := 7) (by decide) (by_ := 1) (by decide)
  obtain ⟨rb, hb1, hb2⟩ := plus_r (o1 := P.map eR) h hA (i := 3) (by decide) (by_ := -1) (by decide)
  obtain ⟨rc, hc1, hc2⟩ := plus_r (o1 := P.map eR) h hA (i := 3) (by decide) (by_ := 1) (by decide)
  have fin : ∀ b1, RelR (movA A at_) b1 → ∃ b', RelR (busA code A P (bus, at_, (i : Int), steps)).1 b' ∧ Ev (fun k => Option.bind
      (cond (((bus, at_, (i : Int), steps) : Cyc).1 == 1)
        ((put93' k () ((bus, at_, (i : Int), steps) : Cyc).2.2.1 (eR (dataA code A at_)) (b1, ()) (P.map eR)).bind fun t57 =>
        some (t57.2.1, t57.2.2))
        (Option.bind
          (cond (((bus, at_, (i : Int), steps) : Cyc).2.1 == 4)
            (Option.bind
              ((if room (List.length (P.map eR) + List.length [eR (wholeA A i)]) 16 then some () else none).bind fun _ =>
                some (((b1, ()) : WalkU), (P.map eR ++ [eR (wholeA A i)])) : Option (WalkU × Vals)) fun ((o0_6, o1_6) : (WalkU × Vals)) =>
            some (o0_6, o1_6))
            (some ((b1, ()), P.map eR)) : Option (WalkU × Vals)) fun ((o0_7, o1_7) : (WalkU × Vals)) =>
        some (o0_7, o1_7)) : Option (WalkU × Vals)) fun ((o0_8, o1_8) : (WalkU × Vals)) =>
    (some ((), o0_8, o1_8) : Option (Unit × (WalkU × Vals)))) ((), (b', ()), (busA code A P (bus, at_, (i : Int), steps)).2.map eR) := by
    intro b1 hb1
    have eB : busA code A P (bus, at_, (i : Int), steps) = (if bus = 1 then setA (movA A at_) i (dataA code A at_) else movA A at_, if bus = 2 ∧ at_ = 4 then P ++ [wholeA A i] else P) := by
      unfold busA
      show (if bus = 1 then setA (movA A at_) (i : Int).toNat (dataA code A at_) else movA A at_, if bus = 2 ∧ at_ = 4 then P ++ [wholeA A (i : Int).toNat] else P) = _
      rw [Int.toNat_natCast]
    rw [eB]
    by_cases h1 : bus = 1
    · subst h1
      obtain ⟨b2, g1, g2⟩ := put93'_r (o1 := P.map eR) hb1 hi (v := dataA code A at_) (fun n hn => data_lt hd hn)
      refine ⟨b2, by rw [if_pos rfl]; exact g1, .bind (a := ((b2, ()), P.map eR)) (.yes rfl (.bind g2 (.now _))) (.now' ?_)⟩
      show ((), (b2, ()), P.map eR) = ((), (b2, ()), (if (1 : Int) = 2 ∧ at_ = 4 then P ++ [wholeA A i] else P).map eR)
      rw [if_neg (by omega)]
    · have hn1 : (bus == 1) = false := beq_false_of_ne h1
      have hb2 : bus = 2 := by omega
      refine ⟨b1, by rw [if_neg h1]; exact hb1, ?_⟩
      by_cases h4 : at_ = 4
      · rw [if_pos (show bus = 2 ∧ at_ = 4 from ⟨hb2, h4⟩)]
        refine .bind (a := ((b1, ()), P.map eR ++ [eR (wholeA A i)])) (.no hn1 (.bind (a := ((b1, ()), P.map eR ++ [eR (wholeA A i)])) (.yes (by rw [h4]; rfl) (.bind (a := ((b1, ()), P.map eR ++ [eR (wholeA A i)])) (.val (a := ()) (if_pos (room_ok (by rw [List.length_map]; simp only [List.length_cons, List.length_nil]; omega))) (.now _)) (.now _))) (.now _))) (.now' ?_)
        rw [List.map_append]; rfl
      · rw [if_neg (show ¬ (bus = 2 ∧ at_ = 4) from fun h => h4 h.2)]
        exact .bind (a := ((b1, ()), P.map eR)) (.no hn1 (.bind (a := ((b1, ()), P.map eR)) (.no (beq_false_of_ne h4) (.now _)) (.now _))) (.now _)
  unfold cycle133
  simp only [agree_self]
  have dN : ¬ (at_ = 0 ∨ at_ = 1) → eR (dataA code A at_) = (0, false) := fun h => by unfold dataA; rw [if_neg h]; rfl
  by_cases h00 : at_ = 0
  · subst h00
    obtain ⟨b', g1, g2⟩ := fin ra ha1
    rw [data_r hd hA (.inl rfl)] at g2
    exact ⟨b', g1, .no (beq_false_of_ne h0) (.bind (a := ((), code, (bus, 0, (i : Int), steps), eR (wholeA A i), (), (b, ()), P.map eR, (), 0, false)) (.bind w0 (.now _)) (.bind (a := ((), (bus, 0, (i : Int), steps), eR (wholeA A i), (), ((), ()), (b, ()), P.map eR, (), eR (atI code (eP (wholeA A 7))))) (.yes rfl (.bind w7 (.bind hrd (.now _)))) (.bind (a := ((), (bus, 0, (i : Int), steps), eR (wholeA A i), (), (ra, ()), P.map eR, (), eR (atI code (eP (wholeA A 7))))) (.yes rfl (.bind ha2 (.now _))) g2)))⟩
  by_cases h01 : at_ = 1
  · subst h01
    obtain ⟨b', g1, g2⟩ := fin b h
    rw [data_r hd hA (.inr rfl)] at g2
    exact ⟨b', g1, .no (beq_false_of_ne h0) (.bind (a := ((), code, (bus, 1, (i : Int), steps), eR (wholeA A i), (), (b, ()), P.map eR, (), 0, false)) (.bind w0 (.now _)) (.bind (a := ((), (bus, 1, (i : Int), steps), eR (wholeA A i), (), ((), ()), (b, ()), P.map eR, (), eR (atI code (eP (wholeA A 7))))) (.yes rfl (.bind w7 (.bind hrd (.now _)))) (.bind (a := ((), (bus, 1, (i : Int), steps), eR (wholeA A i), (), (b, ()), P.map eR, (), eR (atI code (eP (wholeA A 7))))) (.no rfl (.bind (a := ((), (bus, 1, (i : Int), steps), eR (wholeA A i), (), (b, ()), P.map eR, (), eR (atI code (eP (wholeA A 7))))) (.no rfl (.bind (a := ((), (bus, 1, (i : Int), steps), eR (wholeA A i), (), (b, ()), P.map eR, (), eR (atI code (eP (wholeA A 7))))) (.no rfl (.now _)) (.now _))) (.now _))) g2)))⟩
  have hd0 := dN (by omega)
  have ng : cond (at_ == 0) true (at_ == 1) = false := by rw [beq_false_of_ne h00]; exact beq_false_of_ne h01
  have n0 : (at_ == 0) = false := beq_false_of_ne h00
  by_cases h04 : at_ = 4
  · subst h04
    obtain ⟨b', g1, g2⟩ := fin rb hb1
    rw [hd0] at g2
    exact ⟨b', g1, .no (beq_false_of_ne h0) (.bind (a := ((), code, (bus, 4, (i : Int), steps), eR (wholeA A i), (), (b, ()), P.map eR, (), 0, false)) (.bind w0 (.now _)) (.bind (a := ((), (bus, 4, (i : Int), steps), eR (wholeA A i), (), ((), ()), (b, ()), P.map eR, (), (0, false))) (.no rfl (.now _)) (.bind (a := ((), (bus, 4, (i : Int), steps), eR (wholeA A i), (), (rb, ()), P.map eR, (), (0, false))) (.no rfl (.bind (a := ((), (bus, 4, (i : Int), steps), eR (wholeA A i), (), (rb, ()), P.map eR, (), (0, false))) (.yes rfl (.bind hb2 (.now _))) (.now _))) g2)))⟩
  have n4 : (at_ == 4) = false := beq_false_of_ne h04
  by_cases h05 : at_ = 5
  · subst h05
    obtain ⟨b', g1, g2⟩ := fin rc hc1
    rw [hd0] at g2
    exact ⟨b', g1, .no (beq_false_of_ne h0) (.bind (a := ((), code, (bus, 5, (i : Int), steps), eR (wholeA A i), (), (b, ()), P.map eR, (), 0, false)) (.bind w0 (.now _)) (.bind (a := ((), (bus, 5, (i : Int), steps), eR (wholeA A i), (), ((), ()), (b, ()), P.map eR, (), (0, false))) (.no rfl (.now _)) (.bind (a := ((), (bus, 5, (i : Int), steps), eR (wholeA A i), (), (rc, ()), P.map eR, (), (0, false))) (.no rfl (.bind (a := ((), (bus, 5, (i : Int), steps), eR (wholeA A i), (), (rc, ()), P.map eR, (), (0, false))) (.no rfl (.bind (a := ((), (bus, 5, (i : Int), steps), eR (wholeA A i), (), (rc, ()), P.map eR, (), (0, false))) (.yes rfl (.bind hc2 (.now _))) (.now _))) (.now _))) g2)))⟩
  have n5 : (at_ == 5) = false := beq_false_of_ne h05
  have hmov : movA A at_ = A := by unfold movA; rw [if_neg h00, if_neg h04, if_neg h05]
  obtain ⟨b', g1, g2⟩ := fin b (by rw [hmov]; exact h)
  rw [hd0] at g2
  exact ⟨b', g1, .no (beq_false_of_ne h0) (.bind (a := ((), code, (bus, at_, (i : Int), steps), eR (wholeA A i), (), (b, ()), P.map eR, (), 0, false)) (.bind w0 (.now _)) (.bind (a := ((), (bus, at_, (i : Int), steps), eR (wholeA A i), (), ((), ()), (b, ()), P.map eR, (), (0, false))) (.no ng (.now _)) (.bind (a := ((), (bus, at_, (i : Int), steps), eR (wholeA A i), (), (b, ()), P.map eR, (), (0, false))) (.no n0 (.bind (a := ((), (bus, at_, (i : Int), steps), eR (wholeA A i), (), (b, ()), P.map eR, (), (0, false))) (.no n4 (.bind (a := ((), (bus, at_, (i : Int), steps), eR (wholeA A i), (), (b, ()), P.map eR, (), (0, false))) (.no n5 (.now _)) (.now _))) (.now _))) g2)))⟩
end
end Go.Proofs.YtcppmlgnceldmaaGreat.Fl

/- What is known of registers: the reference's steps. No program in sight. -/
set_option linter.unusedVariables false
set_option maxRecDepth 100000
noncomputable section
namespace Go.Proofs.YtcppmlgnceldmaaGreat.Fl
open Go Go.Proofs.YtcppmlgnceldmaaGreat.Gp

theorem joined_inl {α β : Type} {g : α → Option β} (a : α) : joined g (.inl a) = g a := rfl
theorem joined_inr {α β : Type} {g : α → Option β} (r : β) : joined g (.inr r) = some r := rfl
section
variable {A : Rg} {b : Vals} {o1 : Vals}
theorem step_r (h : RelR A b) (hA : Inv A) {s : Stp4} (hs : OkS s) (h24 : s.1 ≠ 24) : ∃ b', RelR (stepA A s) b' ∧ Ev (fun k => step135 k () s (b, ()) o1) ((), (b', ()), o1) := by
  obtain ⟨d, to, fr, n⟩ := s
  have hto : 0 ≤ to ∧ to < 9 := hs.to h24
  have hfr : 0 ≤ fr ∧ fr < 9 := hs.fr h24
  obtain ⟨i, rfl⟩ : ∃ i : Nat, to = (i : Int) := ⟨to.toNat, by omega⟩
  obtain ⟨j, rfl⟩ : ∃ j : Nat, fr = (j : Int) := ⟨fr.toNat, by omega⟩
  have hi : i < 9 := by omega
  have hj : j < 9 := by omega
  have hd : 0 ≤ d ∧ d < 25 := hs.d
  have h24 : d ≠ 24 := h24
  have wt := get_r (o1 := o1) h hA hi
  have wf := get_r (o1 := o1) h hA hj
  have hl := h.len
  have ri := h.lo i hi
  have rj := h.lo j hj
  have flag : ∀ {A1 : Rg} {b1 : Vals}, RelR A1 b1 → ∃ b', RelR (setA A1 4 none) b' ∧ Ev (fun k => put93' k () 4 (0, false) (b1, ()) o1) ((), (b', ()), o1) := fun h1 => put93'_r (o1 := o1) h1 (i := 4) (by decide) (v := none) (fun n hn => by cases hn)
  have unk : ∃ b', RelR (setA A i none) b' ∧ Ev (fun k => put93' k () (i : Int) (0, false) (b, ()) o1) ((), (b', ()), o1) := put93'_r (o1 := o1) h hi (v := none) (fun n hn => by cases hn)
  have dflt : ∃ b', RelR (setA (setA A i none) 4 none) b' ∧ Ev (fun k => (get96 k () (i : Int) (b, ()) o1).bind fun y => (get96 k () (j : Int) y.2.1 y.2.2).bind fun y => (put93' k () (i : Int) (0, false) y.2.1 y.2.2).bind fun y => (put93' k () 4 (0, false) y.2.1 y.2.2).bind fun t => (some ((), t.2.1, t.2.2) : Option (Unit × (WalkU × Vals)))) ((), (b', ()), o1) := by
    obtain ⟨r1, g1, g2⟩ := unk
    obtain ⟨r2, g3, g4⟩ := flag g1
    exact ⟨r2, g3, .bind wt (.bind wf (.bind g2 (.bind g4 (.now _))))⟩
  have hh : d = 0 ∨ d = 1 ∨ d = 2 ∨ d = 3 ∨ d = 4 ∨ d = 5 ∨ d = 6 ∨ d = 7 ∨ d = 8 ∨ d = 9 ∨ d = 10 ∨ d = 11 ∨ d = 12 ∨ d = 13 ∨ d = 14 ∨ d = 15 ∨ d = 16 ∨ d = 17 ∨ d = 18 ∨ d = 19 ∨ d = 20 ∨ d = 21 ∨ d = 22 ∨ d = 23 := by omega
  rcases hh with rfl | rfl | rfl | rfl | rfl | rfl | rfl | rfl | rfl | rfl | rfl | rfl | rfl | rfl | rfl | rfl | rfl | rfl | rfl | rfl | rfl | rfl | rfl | rfl <;> simp only [step135, agree_self, Int.reduceBEq, cond_true, cond_false, Option.bind_some, Option.bind_assoc, joined_inl, joined_inr, w2 hi, w2 hj, w21 hi, w21 hj]
  · exact ⟨b, h, .bind wt (.bind wf (.now _))⟩
  · have hw : wdN i = wdN j := hs.move rfl
    have qj : b[2 * j + 1]? = some b[2 * j + 1] := List.getElem?_eq_getElem (by omega)
    have qi : b[2 * i + 1]? = some b[2 * i + 1] := List.getElem?_eq_getElem (by omega)
    generalize b[2 * j + 1] = y at qj
    generalize b[2 * i + 1] = z at qi
    refine ⟨(b.set (2 * i) (eR (A j).1)).set (2 * i + 1) y, h.put hi (x := A j) (by rw [List.length_set, List.length_set]; exact hl) (by rw [List.getElem?_set_ne (by omega), List.getElem?_set_self (by omega)]) (fun e => ?_) (fun q j1 j2 => by rw [List.getElem?_set_ne (fun e => j2 e.symm), List.getElem?_set_ne (fun e => j1 e.symm)]), .bind wt (.bind wf (.val (two_in hj) (.val (rd_some' rj) (.val (two1_in hj) (.val (rd_some' qj) (.val (two_in hi) (.val (rd_some' ri) (.val (two1_in hi) (.val (a := z) ?_ (.now' ?_))))))))))⟩
    · rw [List.getElem?_set_self (by rw [List.length_set]; omega)]
      have := h.hi j hj (hw ▸ e)
      rw [qj] at this
      exact this
    · rw [Int.toNat_natCast]
      exact rd_some' (by rw [List.getElem?_set_ne (by omega)]; exact qi)
    · rw [Int.toNat_natCast, Int.toNat_natCast]
  · have hlit : 0 ≤ n ∧ n ≤ cond (wd (i : Int)) 65535 255 := hs.lit rfl
    have hn : n < 65536 := by
      have := hlit.2
      cases hw : wd (i : Int) <;> rw [hw] at this <;> simp at this <;> omega
    obtain ⟨b', g1, g2⟩ := put93'_r (o1 := o1) h hi (v := some n.toNat) (fun m hm => by cases hm; omega)
    have en : eR (some n.toNat) = (n % 65536, true) := by show (((n.toNat : Nat) : Int), true) = _; rw [show ((n.toNat : Nat) : Int) = n % 65536 by omega]
    rw [en] at g2
    exact ⟨b', g1, .bind wt (.bind wf (.bind (known_ev (x := n) (by omega) (bits := 16) (M := 65536) (.inr ⟨rfl, rfl⟩)) (.bind g2 (.now _))))⟩
  · obtain ⟨b', g1, g2⟩ := flag h
    exact ⟨b', g1, .bind wt (.bind wf (.bind g2 (.now _)))⟩
  · exact dflt
  · exact dflt
  · obtain ⟨b', g1, g2⟩ := flag h
    exact ⟨b', g1, .bind wt (.bind wf (.bind g2 (.now _)))⟩
  · exact dflt
  · exact dflt
  · exact dflt
  · obtain ⟨M, bits, hM, hbit⟩ : ∃ M bits : Int, cond (wdN i) 16 8 = bits ∧ (bits = 8 ∧ M = 256 ∧ wdN i = false ∨ bits = 16 ∧ M = 65536 ∧ wdN i = true) := by
      cases wdN i with
      | true => exact ⟨65536, 16, rfl, .inr ⟨rfl, rfl, rfl⟩⟩
      | false => exact ⟨256, 8, rfl, .inl ⟨rfl, rfl, rfl⟩⟩
    have hMb : bits = 8 ∧ M = 256 ∨ bits = 16 ∧ M = 65536 := by
      rcases hbit with ⟨a, b, _⟩ | ⟨a, b, _⟩
      · exact .inl ⟨a, b⟩
      · exact .inr ⟨a, b⟩
    have hsz := size_r hi
    rw [hM] at hsz
    have eD : Ev (fun k => then129'''' k bits ((), ()) [eR (wholeA A i)] (1)) (eR ((wholeA A i).map fun n => (((n : Int) + (1)) % M).toNat), 1) := by
      cases hwh : wholeA A i with
      | none => exact (thenE_1 bits (1)).1 none rfl
      | some n =>
        have := whole_lt hA hwh
        have hw : w64 ((n : Int) + (1)) = (n : Int) + (1) := w64_id (by omega) (by omega)
        have hk := known_ev (x := (n : Int) + (1)) (by omega) hMb
        rw [← hw] at hk
        refine ((thenE_1 bits (1)).2 n _ hk).to ?_
        rw [hw]
        show ((((n : Int) + (1)) % M, true), _) = (((((((n : Int) + (1)) % M).toNat : Nat) : Int), true), _)
        rw [Int.toNat_of_nonneg (Int.emod_nonneg _ (by omega))]
    obtain ⟨b', g1, g2⟩ := put93'_r (o1 := o1) h hi (v := (wholeA A i).map fun n => (((n : Int) + (1)) % M).toNat) (fun n hn => by
      cases hwh : wholeA A i with
      | none => rw [hwh] at hn; cases hn
      | some m =>
        rw [hwh] at hn; cases hn
        show (((m : Int) + (1)) % M).toNat < 65536
        rcases hMb with ⟨_, rfl⟩ | ⟨_, rfl⟩ <;> omega)
    have g1 := add_congr hbit g1
    show ∃ b', RelR (if wdN i = true then addA A i (1) else setA (addA A i (1)) 4 none) b' ∧ _
    cases hw : wdN i with
    | true => exact ⟨b', g1, .bind wt (.bind wf (.bind hsz (.bind eD (.bind (wideR_ev hi) (.bind g2 (.bind (a := ((b', ()), o1)) (.no (by rw [hw]; rfl) (.now _)) (.now _)))))))⟩
    | false =>
      obtain ⟨b2, g3, g4⟩ := flag g1
      exact ⟨b2, g3, .bind wt (.bind wf (.bind hsz (.bind eD (.bind (wideR_ev hi) (.bind g2 (.bind (a := ((b2, ()), o1)) (.yes (by rw [hw]; rfl) (.bind g4 (.now _))) (.now _)))))))⟩
  · obtain ⟨M, bits, hM, hbit⟩ : ∃ M bits : Int, cond (wdN i) 16 8 = bits ∧ (bits = 8 ∧ M = 256 ∧ wdN i = false ∨ bits = 16 ∧ M = 65536 ∧ wdN i = true) := by
      cases wdN i with
      | true => exact ⟨65536, 16, rfl, .inr ⟨rfl, rfl, rfl⟩⟩
      | false => exact ⟨256, 8, rfl, .inl ⟨rfl, rfl, rfl⟩⟩
    have hMb : bits = 8 ∧ M = 256 ∨ bits = 16 ∧ M = 65536 := by
      rcases hbit with ⟨a, b, _⟩ | ⟨a, b, _⟩
      · exact .inl ⟨a, b⟩
      · exact .inr ⟨a, b⟩
    have hsz := size_r hi
    rw [hM] at hsz
    have eD : Ev (fun k => then129'''' k bits ((), ()) [eR (wholeA A i)] (-1)) (eR ((wholeA A i).map fun n => (((n : Int) + (-1)) % M).toNat), -1) := by
      cases hwh : wholeA A i with
      | none => exact (thenE_1 bits (-1)).1 none rfl
      | some n =>
        have := whole_lt hA hwh
        have hw : w64 ((n : Int) + (-1)) = (n : Int) + (-1) := w64_id (by omega) (by omega)
        have hk := known_ev (x := (n : Int) + (-1)) (by omega) hMb
        rw [← hw] at hk
        refine ((thenE_1 bits (-1)).2 n _ hk).to ?_
        rw [hw]
        show ((((n : Int) + (-1)) % M, true), _) = (((((((n : Int) + (-1)) % M).toNat : Nat) : Int), true), _)
        rw [Int.toNat_of_nonneg (Int.emod_nonneg _ (by omega))]
    obtain ⟨b', g1, g2⟩ := put93'_r (o1 := o1) h hi (v := (wholeA A i).map fun n => (((n : Int) + (-1)) % M).toNat) (fun n hn => by
      cases hwh : wholeA A i with
      | none => rw [hwh] at hn; cases hn
      | some m =>
        rw [hwh] at hn; cases hn
        show (((m : Int) + (-1)) % M).toNat < 65536
        rcases hMb with ⟨_, rfl⟩ | ⟨_, rfl⟩ <;> omega)
    have g1 := add_congr hbit g1
    show ∃ b', RelR (if wdN i = true then addA A i (-1) else setA (addA A i (-1)) 4 none) b' ∧ _
    cases hw : wdN i with
    | true => exact ⟨b', g1, .bind wt (.bind wf (.bind hsz (.bind eD (.bind (wideR_ev hi) (.bind g2 (.bind (a := ((b', ()), o1)) (.no (by rw [hw]; rfl) (.now _)) (.now _)))))))⟩
    | false =>
      obtain ⟨b2, g3, g4⟩ := flag g1
      exact ⟨b2, g3, .bind wt (.bind wf (.bind hsz (.bind eD (.bind (wideR_ev hi) (.bind g2 (.bind (a := ((b2, ()), o1)) (.yes (by rw [hw]; rfl) (.bind g4 (.now _))) (.now _)))))))⟩
  · exact dflt
  · exact dflt
  · exact dflt
  · exact dflt
  · obtain ⟨b', g1, g2⟩ := flag h
    exact ⟨b', g1, .bind wt (.bind wf (.bind g2 (.now _)))⟩
  · obtain ⟨b', g1, g2⟩ := flag h
    exact ⟨b', g1, .bind wt (.bind wf (.bind g2 (.now _)))⟩
  · have hw2 : wdN j = false := (hs.wb (.inl rfl)).2
    have ew : wholeA A j = (A j).1 := by unfold wholeA; rw [if_neg (by rw [hw2]; decide)]
    rw [show w64 (w64 (((2 * i : Nat) : Int) + 18) - 18) = ((2 * i : Nat) : Int) by rw [w64_id (x := ((2 * i : Nat) : Int) + 18) (by omega) (by omega), w64_id (by omega) (by omega)]; omega]
    rw [ew] at wf
    refine ⟨b.set (2 * i) (eR (A j).1), h.put hi (x := ((A j).1, (A i).2)) (by rw [List.length_set]; exact hl) (by rw [List.getElem?_set_self (by omega)]) (fun e => by rw [List.getElem?_set_ne (by omega)]; exact h.hi i hi e) (fun q j1 _ => by rw [List.getElem?_set_ne (fun e => j1 e.symm)]), .bind wt (.bind wf (.val (two_in hi) (.val (rd_some' ri) (.now' ?_))))⟩
    rw [Int.toNat_natCast]
  · have hw2 : wdN j = false := (hs.wb (.inr (.inl rfl))).2
    have ew : wholeA A j = (A j).1 := by unfold wholeA; rw [if_neg (by rw [hw2]; decide)]
    rw [show w64 (w64 (((2 * i : Nat) : Int) + 19) - 18) = ((2 * i + 1 : Nat) : Int) by rw [w64_id (x := ((2 * i : Nat) : Int) + 19) (by omega) (by omega), w64_id (by omega) (by omega)]; omega]
    rw [ew] at wf
    refine ⟨b.set (2 * i + 1) (eR (A j).1), h.put hi (x := ((A i).1, (A j).1)) (by rw [List.length_set]; exact hl) (by rw [List.getElem?_set_ne (by omega)]; exact ri) (fun _ => by rw [List.getElem?_set_self (by omega)]) (fun q _ j2 => by rw [List.getElem?_set_ne (fun e => j2 e.symm)]), .bind wt (.bind wf (.val (two1_in hi) (.val (rd_some' (h.hi i hi (hs.wb (.inr (.inl rfl))).1)) (.now' ?_))))⟩
    rw [Int.toNat_natCast]
  · have hw : wdN i = false := (hs.bw (.inl rfl)).1
    rw [show w64 (w64 (((2 * j : Nat) : Int) + 20) - 20) = ((2 * j : Nat) : Int) by rw [w64_id (x := ((2 * j : Nat) : Int) + 20) (by omega) (by omega), w64_id (by omega) (by omega)]; omega]
    obtain ⟨b', g1, g2⟩ := put93'_r (o1 := o1) h hi (v := (A j).1) (fun n hn => by have := (hA j).1 n hn; omega)
    refine ⟨b', g1.congr (A' := putA A i ((A j).1, some 0)) (fun q hq => ?_) (fun q hq hwq => ?_), .bind wt (.bind wf (.val (two_in hj) (.val (rd_some' rj) (.bind g2 (.now _)))))⟩
    · unfold setA putA
      by_cases e : q = i
      · rw [if_pos e, if_pos e]
        cases hx : (A j).1 with
        | none => rfl
        | some m =>
          have := (hA j).1 m hx
          show some (m % 256) = some m
          rw [Nat.mod_eq_of_lt this]
      · rw [if_neg e, if_neg e]
    · unfold setA putA
      by_cases e : q = i
      · subst e; rw [hw] at hwq; cases hwq
      · rw [if_neg e, if_neg e]
  · have hw : wdN i = false := (hs.bw (.inr rfl)).1
    rw [show w64 (w64 (((2 * j : Nat) : Int) + 21) - 20) = ((2 * j + 1 : Nat) : Int) by rw [w64_id (x := ((2 * j : Nat) : Int) + 21) (by omega) (by omega), w64_id (by omega) (by omega)]; omega]
    obtain ⟨b', g1, g2⟩ := put93'_r (o1 := o1) h hi (v := (A j).2) (fun n hn => by have := (hA j).2 n hn; omega)
    refine ⟨b', g1.congr (A' := putA A i ((A j).2, some 0)) (fun q hq => ?_) (fun q hq hwq => ?_), .bind wt (.bind wf (.val (two1_in hj) (.val (rd_some' (h.hi j hj (hs.bw (.inr rfl)).2)) (.bind g2 (.now _)))))⟩
    · unfold setA putA
      by_cases e : q = i
      · rw [if_pos e, if_pos e]
        cases hx : (A j).2 with
        | none => rfl
        | some m =>
          have := (hA j).2 m hx
          show some (m % 256) = some m
          rw [Nat.mod_eq_of_lt this]
      · rw [if_neg e, if_neg e]
    · unfold setA putA
      by_cases e : q = i
      · subst e; rw [hw] at hwq; cases hwq
      · rw [if_neg e, if_neg e]
  · have hw2 : wdN j = false := (hs.wb (.inr (.inr (.inl rfl)))).2
    show ∃ b', RelR (match wholeA A i, wholeA A j with | some _, some c => addA A i ((c : Int)) | _, _ => setA A i none) b' ∧ _
    cases hti : wholeA A i with
    | none =>
      rw [hti] at wt
      obtain ⟨b', g1, g2⟩ := unk
      exact ⟨b', g1, .bind wt (.bind wf (.bind ((thenF_2 16).1 none _ (.inl rfl)) (.bind g2 (.now _))))⟩
    | some a =>
      rw [hti] at wt
      have ha := whole_lt hA hti
      cases htj : wholeA A j with
      | none =>
        rw [htj] at wf
        obtain ⟨b', g1, g2⟩ := unk
        exact ⟨b', g1, .bind wt (.bind wf (.bind ((thenF_2 16).1 (some a) none (.inr rfl)) (.bind g2 (.now _))))⟩
      | some c =>
        rw [htj] at wf
        have hc := narrow_lt hA hw2 htj
        have hw : w64 ((a : Int) + (c : Int)) = (a : Int) + (c : Int) := w64_id (by omega) (by omega)
        have hk := known_ev (x := (a : Int) + (c : Int)) (by omega) (bits := 16) (M := 65536) (.inr ⟨rfl, rfl⟩)
        rw [← hw] at hk
        obtain ⟨b', g1, g2⟩ := put93'_r (o1 := o1) h hi (v := some (((a : Int) + (c : Int)) % 65536).toNat) (fun m hm => by cases hm; omega)
        have eA : addA A i ((c : Int)) = setA A i (some (((a : Int) + (c : Int)) % 65536).toNat) := by unfold addA; rw [hti]; rfl
        have ev : eR (some (((a : Int) + (c : Int)) % 65536).toNat) = (((a : Int) + (c : Int)) % 65536, true) := by
          show ((((((a : Int) + (c : Int)) % 65536).toNat : Nat) : Int), true) = _
          rw [Int.toNat_of_nonneg (by omega)]
        rw [ev] at g2
        have hk := (thenF_2 16).2 a c _ hk
        rw [hw] at hk
        exact ⟨b', by show RelR (addA A i _) b'; rw [eA]; exact g1, .bind wt (.bind wf (.bind hk (.bind g2 (.now _))))⟩
  · have hw2 : wdN j = false := (hs.wb (.inr (.inr (.inr rfl)))).2
    show ∃ b', RelR (match wholeA A i, wholeA A j with | some _, some c => addA A i (sgn c) | _, _ => setA A i none) b' ∧ _
    cases hti : wholeA A i with
    | none =>
      rw [hti] at wt
      obtain ⟨b', g1, g2⟩ := unk
      exact ⟨b', g1, .bind wt (.bind wf (.bind ((thenG_2 16).1 none _ (.inl rfl)) (.bind g2 (.now _))))⟩
    | some a =>
      rw [hti] at wt
      have ha := whole_lt hA hti
      cases htj : wholeA A j with
      | none =>
        rw [htj] at wf
        obtain ⟨b', g1, g2⟩ := unk
        exact ⟨b', g1, .bind wt (.bind wf (.bind ((thenG_2 16).1 (some a) none (.inr rfl)) (.bind g2 (.now _))))⟩
      | some c =>
        rw [htj] at wf
        have hc := narrow_lt hA hw2 htj
        have hsg : -128 ≤ sgn c ∧ sgn c ≤ 255 := by unfold sgn; split <;> omega
        have hw : w64 ((a : Int) + (if (c : Int) > 127 then w64 ((c : Int) - 256) else (c : Int))) = (a : Int) + sgn c := by
          unfold sgn
          by_cases h1 : (c : Int) > 127
          · rw [if_pos h1, if_pos (by omega), w64_id (x := (c : Int) - 256) (by omega) (by omega), w64_id (by omega) (by omega)]
          · rw [if_neg h1, if_neg (by omega), w64_id (by omega) (by omega)]
        have hk := known_ev (x := (a : Int) + sgn c) (by omega) (bits := 16) (M := 65536) (.inr ⟨rfl, rfl⟩)
        rw [← hw] at hk
        obtain ⟨b', g1, g2⟩ := put93'_r (o1 := o1) h hi (v := some (((a : Int) + sgn c) % 65536).toNat) (fun m hm => by cases hm; omega)
        have eA : addA A i (sgn c) = setA A i (some (((a : Int) + sgn c) % 65536).toNat) := by unfold addA; rw [hti]; rfl
        have ev : eR (some (((a : Int) + sgn c) % 65536).toNat) = (((a : Int) + sgn c) % 65536, true) := by
          show ((((((a : Int) + sgn c) % 65536).toNat : Nat) : Int), true) = _
          rw [Int.toNat_of_nonneg (by omega)]
        rw [ev] at g2
        have hk := (thenG_2 16).2 a c _ hk
        rw [hw] at hk
        exact ⟨b', by show RelR (addA A i _) b'; rw [eA]; exact g1, .bind wt (.bind wf (.bind hk (.bind g2 (.now _))))⟩
end
end Go.Proofs.YtcppmlgnceldmaaGreat.Fl

/- What is known of registers: the reference's ends. No program in sight. -/
set_option linter.unusedVariables false
set_option maxRecDepth 100000
noncomputable section
namespace Go.Proofs.YtcppmlgnceldmaaGreat.Fl
open Go Go.Proofs.YtcppmlgnceldmaaGreat.Gp

abbrev Wk := Vals × Vals
def RelW (e : End) (y : Wk) : Prop := RelR e.1 y.1 ∧ y.2 = e.2.map eR
abbrev Br := Vals × Vals × List Wk
structure RelBR (b : Ab) (y : Br) : Prop where
  reg : RelR b.1 y.1
  psh : y.2.1 = b.2.1.map eR
  out : All2 RelW b.2.2 y.2.2
theorem clone134_ev (s : Vals) (h : s.length ≤ 1000) : Ev (fun k => Clone134 k s) ((), s) := by
  unfold Clone134
  have e : (if room (0 + List.length s) 16 then some () else none : Option Unit) = some () := if_pos (room_ok (by omega))
  refine Ev.const ?_
  rw [orNil_same (fun h0 => ?_)]
  · show Option.bind _ _ = _
    rw [e]; rfl
  · have := List.length_eq_zero_iff.1 h0
    subst this
    rw [e]; rfl
theorem steps_r {code : Cod} {n : Nat} (hn : n ≤ 100) {c : Cyc} (hc : OkC c) {b : Ab} (h1 : b.2.1.length ≤ n + 1) (h2 : b.2.2.length ≤ 6 * n) (h3 : Inv b.1) (h4 : ∀ e ∈ b.2.2, Inv e.1 ∧ e.2.length ≤ 1000) {y : Br} (hy : RelBR b y) :
    ∃ y', RelBR (c.2.2.2.foldl stA b) y' ∧ Gp.Lp (fun k => finish95.l0 k c) (code, (), (), 0, (y.1, ()), y.2.1, y.2.2) (code, (), (), (y'.1, ()), y'.2.1, y'.2.2) := by
  have hcl := hc.len
  obtain ⟨y', hy', e⟩ := Lp.countI (body := fun k => finish95.l0 k c) c.2.2.2.length (fun (y : Br) i => (code, (), (), i, (y.1, ()), y.2.1, y.2.2)) (fun y => (code, (), (), (y.1, ()), y.2.1, y.2.2))
    (fun i y => RelBR ((c.2.2.2.take i).foldl stA b) y)
    (fun i y hi hy => by
      have hx : c.2.2.2[i]? = some c.2.2.2[i] := List.getElem?_eq_getElem hi
      have hs := hc.steps _ (get_mem hx)
      generalize c.2.2.2[i] = s at hx hs
      have htk : (c.2.2.2.take i).length ≤ 6 := by rw [List.length_take]; omega
      obtain ⟨g1, g2, g3, g4⟩ := steps_ok (n := n) (m := 6) hn (Nat.le_refl _) (c.2.2.2.take i) b h1 (by omega) h3 h4
      rw [List.take_add_one, hx, Option.toList_some, List.foldl_append]
      show ∃ y', RelBR (stA ((c.2.2.2.take i).foldl stA b) s) y' ∧ _
      generalize (c.2.2.2.take i).foldl stA b = B at hy g1 g2 g3 g4
      have hol := hy.out.len
      have hpl : y.2.1.length ≤ 1000 := by rw [hy.psh, List.length_map]; omega
      unfold stA
      simp only [finish95.l0]
      by_cases h24 : s.1 = 24
      · rw [if_pos h24]
        refine ⟨(y.1, y.2.1, y.2.2 ++ [(y.1, y.2.1)]), ⟨hy.reg, hy.psh, hy.out.snoc ⟨hy.reg, hy.psh⟩⟩, .yes (decide_eq_true (by omega)) (.val (rd_some' hx) (.bind (a := (code, (), (), (y.1, ()), y.2.1, y.2.2 ++ [(y.1, y.2.1)])) (.yes (by rw [h24]; rfl) (.bind (clone134_ev _ hpl) (.val (a := ()) (if_pos (room_ok (by simp only [List.length_cons, List.length_nil]; omega))) (.now _)))) (.now' ?_)))⟩
        rw [w64_succ (by omega)]
      · rw [if_neg h24]
        obtain ⟨r', q1, q2⟩ := step_r (o1 := y.2.1) hy.reg g3 hs h24
        refine ⟨(r', y.2.1, y.2.2), ⟨q1, hy.psh, hy.out⟩, .yes (decide_eq_true (by omega)) (.val (rd_some' hx) (.bind (a := (code, (), (), (r', ()), y.2.1, y.2.2)) (.no (beq_false_of_ne h24) (.bind q2 (.now _))) (.now' ?_)))⟩
        rw [w64_succ (by omega)])
    (fun y _ => by
      simp only [finish95.l0]
      exact .no (by simp) (.now _)) (b := y) hy
  rw [List.take_length] at hy'
  exact ⟨y', hy', e⟩
theorem ends_r {code : Cod} (hd : OkD code) {l : List Cyc} (hl : OkL l) {A : Rg} (hA : Inv A) {r : Vals} (hr : RelR A r) : ∃ o, All2 RelW (endsA code l A) o ∧ Ev (fun k => finish95 k code l (r, ())) (o, ()) := by
  have h8 := hl.len
  obtain ⟨y, hy, e⟩ := Lp.countI (body := fun k => finish95.l1 k l) l.length (fun (y : Br) i => (code, (), (), i, (y.1, ()), y.2.1, y.2.2)) (fun y => ((), (), (y.1, ()), y.2.1, y.2.2))
    (fun i y => RelBR ((l.take i).foldl (cyA code) (A, [], [])) y)
    (fun i y hi hy => by
      have hx : l[i]? = some l[i] := List.getElem?_eq_getElem hi
      have hc := hl.ok _ (get_mem hx)
      generalize l[i] = c at hx hc
      have hok : OkB i ((l.take i).foldl (cyA code) (A, [], [])) := by
        have := OkB.run (code := code) (l.take i) (n := 0) (by rw [List.length_take]; omega) (okB0 hA) (fun c hc => hl.ok c (List.mem_of_mem_take hc))
        rwa [Nat.zero_add, List.length_take, Nat.min_eq_left (by omega)] at this
      rw [List.take_add_one, hx, Option.toList_some, List.foldl_append]
      show ∃ y', RelBR (cyA code ((l.take i).foldl (cyA code) (A, [], [])) c) y' ∧ _
      generalize (l.take i).foldl (cyA code) (A, [], []) = B at hy hok
      have hbl := hok.psh
      obtain ⟨k1, k2, k3⟩ := cyB_ok (code := code) hok c
      have hB : ∃ y1, RelBR (cyB code B c) y1 ∧ y1.2.2 = y.2.2 ∧ Ev (fun k => cycle133 k () code c (y.1, ()) y.2.1) ((), (y1.1, ()), y1.2.1) := by
        unfold cyB
        by_cases h0 : c.1 ≠ 0
        · rw [if_pos h0]
          obtain ⟨r', q1, q2⟩ := cycle_r (P := B.2.1) hd hy.reg hok.inv hc (by omega) h0
          rw [← hy.psh] at q2
          exact ⟨(r', _, y.2.2), ⟨q1, rfl, hy.out⟩, rfl, q2⟩
        · rw [if_neg h0]
          have h0 : c.1 = 0 := by omega
          refine ⟨y, hy, rfl, ?_⟩
          unfold cycle133
          exact .yes (by rw [h0]; rfl) (.now _)
      obtain ⟨y1, hy1, e0, e1⟩ := hB
      obtain ⟨y2, hy2, e2⟩ := steps_r (code := code) (n := i) (by omega) hc k1 (by rw [k2]; exact hok.len) k3 (by rw [k2]; exact hok.all) hy1
      rw [e0] at e2
      refine ⟨y2, hy2, ?_⟩
      simp only [finish95.l1]
      refine .yes (decide_eq_true (by omega)) (.val (rd_some' hx) (.bind e1 (.bind e2.ev (.now' ?_))))
      rw [w64_succ (by omega)])
    (fun y _ => by
      simp only [finish95.l1]
      exact .no (by simp) (.now _)) (b := (r, [], [])) ⟨hr, rfl, .nil⟩
  rw [List.take_length] at hy
  have hb := run_okB (code := code) hl hA
  have hbl := hb.len
  refine ⟨y.2.2 ++ [(y.1, y.2.1)], hy.out.snoc ⟨hy.reg, hy.psh⟩, ?_⟩
  unfold finish95
  refine .bind e.ev (.val (a := ()) (if_pos (room_ok ?_)) (.now _))
  have hol : y.2.2.length = (runA code l A).2.2.length := hy.out.len
  simp only [List.length_cons, List.length_nil]
  omega
theorem getW_r {A : Rg} {y : Wk} (h : RelR A y.1) (hA : Inv A) {i : Nat} (hi : i < 9) : Ev (fun k => get96' k () (i : Int) y) (eR (wholeA A i), y) := by
  have h1 := h.lo i hi
  obtain ⟨b1, b2⟩ := hA i
  unfold get96' wholeA
  simp only [w2 hi, w21 hi]
  refine .bind (wideR_ev hi) ?_
  cases hw : wdN i with
  | false => exact .yes rfl (.val (two_in hi) (.val (rd_some' h1) (.now _)))
  | true =>
    have h2 := h.hi i hi hw
    refine .no rfl (.val (two_in hi) (.val (rd_some' h1) (.val (two1_in hi) (.val (rd_some' h2) ?_))))
    rw [if_pos rfl]
    cases e1 : (A i).1 with
    | none => exact .bind ((thenC_2 16).1 none _ (.inl rfl)) (.now _)
    | some l =>
      cases e2 : (A i).2 with
      | none => exact .bind ((thenC_2 16).1 (some l) none (.inr rfl)) (.now _)
      | some hh =>
        have hl1 := b1 l e1
        have hl2 := b2 hh e2
        have hw3 : w64 ((l : Int) + w64 (256 * (hh : Int))) = ((l + 256 * hh : Nat) : Int) := by
          rw [w64_id (x := 256 * (hh : Int)) (by omega) (by omega), w64_id (by omega) (by omega)]; omega
        have hk := known_ev (x := ((l + 256 * hh : Nat) : Int)) (by omega) (bits := 16) (M := 65536) (.inr ⟨rfl, rfl⟩)
        rw [show ((l + 256 * hh : Nat) : Int) % 65536 = ((l + 256 * hh : Nat) : Int) by omega, ← hw3] at hk
        refine .bind ((thenC_2 16).2 l hh _ hk) (.now' ?_)
        rw [hw3]; rfl
abbrev vK : K := .st (.pair (.int .i64) .bool)
theorem eR_eq {v : Option Nat} {b : Nat} : (xor false (eqB vK (eR v) ((b : Int), true))) = decide (v = some b) := by
  have h : eqB vK (eR v) ((b : Int), true) = true ↔ eR v = ((b : Int), true) := eqB_iff (k := vK) rfl
  have h2 : eR v = ((b : Int), true) ↔ v = some b := by
    cases v with
    | none =>
      refine ⟨fun h => ?_, fun h => (by cases h)⟩
      have : false = true := congrArg Prod.snd h
      cases this
    | some n =>
      constructor
      · intro h
        have : (n : Int) = (b : Int) := congrArg Prod.fst h
        rw [show n = b by omega]
      · intro h; cases h; rfl
  cases he : eqB vK (eR v) ((b : Int), true) with
  | true => rw [decide_eq_true (h2.1 (h.1 he))]; rfl
  | false => rw [decide_eq_false (fun e => by rw [h.2 (h2.2 e)] at he; cases he)]; rfl
theorem callR_ev {P : Psh} {y : Wk} (hy : y.2 = P.map eR) (hl : P.length ≤ 1000) {back : Nat} (hb : back < 65536) {R : Type} {g : Nat → Bool → Option R} {v : R} (hg : Ev (fun k => g k (callE back P)) v) :
    Ev (fun k => Option.bind (cond (decide ((List.length y.2 : Int) > 1))
        ((rd y.2 (w64 ((List.length y.2 : Int) - 2))).bind fun t74 =>
        (known94 k (quoI .i64 ((back : Nat) : Int) 256) 8).bind fun t78 =>
        some (xor false (eqB (.st (.pair (.int .i64) .bool)) t74 t78.1)))
        (some false)) fun t80 =>
      Option.bind (cond t80
        ((rd y.2 (w64 ((List.length y.2 : Int) - 1))).bind fun t86 =>
        (known94 k ((back : Nat) : Int) 8).bind fun t89 =>
        some (xor false (eqB (.st (.pair (.int .i64) .bool)) t86 t89.1)))
        (some false)) (g k)) v := by
  have hyl : y.2.length = P.length := by rw [hy, List.length_map]
  have hk1 := known_ev (x := ((back / 256 : Nat) : Int)) (by omega) (bits := 8) (M := 256) (.inl ⟨rfl, rfl⟩)
  rw [show ((back / 256 : Nat) : Int) % 256 = ((back / 256 : Nat) : Int) by omega, ← quo256n hb] at hk1
  rw [quo256n hb] at hk1
  have hk2 := known_ev (x := ((back : Nat) : Int)) (by omega) (bits := 8) (M := 256) (.inl ⟨rfl, rfl⟩)
  rw [show ((back : Nat) : Int) % 256 = ((back % 256 : Nat) : Int) by omega] at hk2
  rw [quo256n hb]
  by_cases h2 : P.length ≥ 2
  · have e1 : P[P.length - 2]? = some P[P.length - 2] := List.getElem?_eq_getElem (by omega)
    have e2 : P[P.length - 1]? = some P[P.length - 1] := List.getElem?_eq_getElem (by omega)
    generalize P[P.length - 2] = p at e1
    generalize P[P.length - 1] = q at e2
    have r1 : rd y.2 (w64 ((List.length y.2 : Int) - 2)) = some (eR p) := by
      rw [hyl, w64_id (by omega) (by omega)]
      exact rd_at (i := P.length - 2) (by omega) (by rw [hy, List.getElem?_map, e1]; rfl)
    have r2 : rd y.2 (w64 ((List.length y.2 : Int) - 1)) = some (eR q) := by
      rw [hyl, w64_id (by omega) (by omega)]
      exact rd_at (i := P.length - 1) (by omega) (by rw [hy, List.getElem?_map, e2]; rfl)
    have hc : callE back P = (decide (p = some (back / 256)) && decide (q = some (back % 256))) := by
      unfold callE
      rw [e1, e2, ← Bool.decide_and]
      refine decide_eq_decide.2 ⟨fun h => ⟨Option.some.inj h.2.1, Option.some.inj h.2.2⟩, fun h => ⟨h2, by rw [h.1], by rw [h.2]⟩⟩
    refine .bind (a := decide (p = some (back / 256))) (.yes (decide_eq_true (by omega)) (.val r1 (.bind hk1 (.now' eR_eq)))) ?_
    refine .bind (a := callE back P) ?_ hg
    rw [hc]
    cases decide (p = some (back / 256)) with
    | true => exact .yes rfl (.val r2 (.bind hk2 (.now' (by rw [Bool.true_and]; exact eR_eq))))
    | false => exact .no rfl (.now _)
  · have hc : callE back P = false := decide_eq_false (fun h => h2 h.1)
    rw [hc] at hg
    exact .bind (a := false) (.no (decide_eq_false (by omega)) (.now _)) (.bind (a := false) (.no rfl (.now _)) hg)
end Go.Proofs.YtcppmlgnceldmaaGreat.Fl

/- Sorted without doubles: by sorting, and by looking through all numbers. No program in sight. -/
set_option linter.unusedVariables false
set_option maxRecDepth 100000
noncomputable section
namespace Go.Proofs.YtcppmlgnceldmaaGreat.Fl
open Go Go.Proofs.YtcppmlgnceldmaaGreat.Gp

theorem strict_eq : ∀ {l m : List Int}, l.Pairwise (· < ·) → m.Pairwise (· < ·) → (∀ x, x ∈ l ↔ x ∈ m) → l = m
  | [], [], _, _, _ => rfl
  | [], b :: m, _, _, h => by have := (h b).2 List.mem_cons_self; cases this
  | a :: l, [], _, _, h => by have := (h a).1 List.mem_cons_self; cases this
  | a :: l, b :: m, h1, h2, h => by
    rw [List.pairwise_cons] at h1 h2
    have hab : a = b := by
      have h3 := (h a).1 List.mem_cons_self
      have h4 := (h b).2 List.mem_cons_self
      rcases List.mem_cons.1 h3 with e | e
      · exact e
      · rcases List.mem_cons.1 h4 with e2 | e2
        · exact e2.symm
        · have := h2.1 a e
          have := h1.1 b e2
          omega
    subst hab
    rw [strict_eq h1.2 h2.2 (fun x => ?_)]
    constructor
    · intro hx
      rcases List.mem_cons.1 ((h x).1 (List.mem_cons_of_mem _ hx)) with e | e
      · have := h1.1 x hx; omega
      · exact e
    · intro hx
      rcases List.mem_cons.1 ((h x).2 (List.mem_cons_of_mem _ hx)) with e | e
      · have := h2.1 x hx; omega
      · exact e
theorem nodup_le : ∀ {l m : List Int}, l.Nodup → (∀ x ∈ l, x ∈ m) → l.length ≤ m.length
  | [], m, _, _ => Nat.zero_le _
  | a :: l, m, h1, h2 => by
    rw [List.nodup_cons] at h1
    have ha : a ∈ m := h2 a List.mem_cons_self
    have := nodup_le (l := l) (m := m.erase a) h1.2 (fun x hx => (List.mem_erase_of_ne (a := x) (b := a) (fun e => h1.1 (by rw [← e]; exact hx))).2 (h2 x (List.mem_cons_of_mem _ hx)))
    rw [List.length_erase_of_mem ha] at this
    have hp : 0 < m.length := List.length_pos_of_mem ha
    rw [List.length_cons]
    omega
theorem at_bang {l : List Int} {i : Nat} (h : i < l.length) : l.toArray[i]! = l[i] := by
  rw [getElem!_pos l.toArray i (by simpa using h)]; simp
theorem comp_strict {l : List Int} (h : l.Pairwise (· ≤ ·)) : (compI l).Pairwise (· < ·) := by
  have hp := List.pairwise_iff_getElem.1 h
  show (Lib.compactUpTo l.toArray l.length).Pairwise (· < ·)
  unfold Lib.compactUpTo
  rw [List.pairwise_map]
  have hs : ((List.range l.length).filter (Lib.keeps l.toArray)).Pairwise (· < ·) := List.pairwise_lt_range.filter _
  refine hs.imp_of_mem (fun {i j} hi hj hij => ?_)
  obtain ⟨hi1, _⟩ := List.mem_filter.1 hi
  obtain ⟨hj1, hj2⟩ := List.mem_filter.1 hj
  have hi1 := List.mem_range.1 hi1
  have hj1 := List.mem_range.1 hj1
  have hk : j = 0 ∨ l.toArray[j]! ≠ l.toArray[j - 1]! := by
    unfold Lib.keeps at hj2
    exact of_decide_eq_true hj2
  rw [at_bang hi1, at_bang hj1]
  rw [at_bang hj1, at_bang (show j - 1 < l.length by omega)] at hk
  have hne := hk.resolve_left (by omega)
  have h1 : l[i] ≤ l[j - 1] := by
    rcases Nat.lt_or_ge i (j - 1) with q | q
    · exact hp i (j - 1) hi1 (by omega) q
    · have : i = j - 1 := by omega
      subst this; exact Int.le_refl _
  have h2 : l[j - 1] ≤ l[j] := hp (j - 1) j (by omega) hj1 (by omega)
  omega
theorem comp_mem {l : List Int} {x : Int} : x ∈ compI l ↔ x ∈ l := by
  show x ∈ Lib.compactUpTo l.toArray l.length ↔ x ∈ l
  unfold Lib.compactUpTo
  constructor
  · intro h
    obtain ⟨j, hj, rfl⟩ := List.mem_map.1 h
    have hj1 := List.mem_range.1 (List.mem_filter.1 hj).1
    rw [at_bang hj1]
    exact List.getElem_mem hj1
  · intro h
    obtain ⟨j, hj⟩ := List.getElem?_of_mem h
    have key : ∀ (n j : Nat), j = n → l[j]? = some x → x ∈ ((List.range l.length).filter (Lib.keeps l.toArray)).map (l.toArray[·]!) := by
      intro n
      induction n using Nat.strongRecOn with
      | ind n ih =>
        intro j hjn hj
        have hjl := get_lt hj
        have hx : l[j] = x := by rw [List.getElem?_eq_getElem hjl] at hj; exact Option.some.inj hj
        by_cases hk : Lib.keeps l.toArray j = true
        · exact List.mem_map.2 ⟨j, List.mem_filter.2 ⟨List.mem_range.2 hjl, hk⟩, by rw [at_bang hjl, hx]⟩
        · have hk' : ¬ (j = 0 ∨ l.toArray[j]! ≠ l.toArray[j - 1]!) := fun h => hk (by unfold Lib.keeps; exact decide_eq_true h)
          have h0 : j ≠ 0 := fun e => hk' (.inl e)
          have he : l.toArray[j]! = l.toArray[j - 1]! := by
            by_cases e : l.toArray[j]! = l.toArray[j - 1]!
            · exact e
            · exact absurd (.inr e) hk'
          rw [at_bang hjl, at_bang (show j - 1 < l.length by omega), hx] at he
          exact ih (j - 1) (by omega) (j - 1) rfl (by rw [List.getElem?_eq_getElem (by omega), ← he])
    exact key j j rfl hj
/-- the numbers below n that stand in a list -/
def preL (to : List Int) (n : Nat) : List Int := ((List.range n).filter (fun (j : Nat) => decide ((j : Int) ∈ to))).map (fun (j : Nat) => (j : Int))
theorem preL_succ (to : List Int) (n : Nat) : preL to (n + 1) = if (n : Int) ∈ to then preL to n ++ [(n : Int)] else preL to n := by
  unfold preL
  rw [List.range_succ, List.filter_append, List.map_append]
  by_cases h : (n : Int) ∈ to
  · rw [if_pos h]; simp [h]
  · rw [if_neg h]; simp [h]
theorem preL_mem {to : List Int} {n : Nat} {x : Int} : x ∈ preL to n ↔ ∃ j : Nat, x = (j : Int) ∧ j < n ∧ (j : Int) ∈ to := by
  unfold preL
  constructor
  · intro h
    obtain ⟨j, hj, rfl⟩ := List.mem_map.1 h
    obtain ⟨h1, h2⟩ := List.mem_filter.1 hj
    exact ⟨j, rfl, List.mem_range.1 h1, of_decide_eq_true h2⟩
  · rintro ⟨j, rfl, h1, h2⟩
    exact List.mem_map.2 ⟨j, List.mem_filter.2 ⟨List.mem_range.2 h1, decide_eq_true h2⟩, rfl⟩
theorem preL_strict (to : List Int) (n : Nat) : (preL to n).Pairwise (· < ·) := by
  unfold preL
  exact List.Pairwise.map _ (fun a b (h : a < b) => (by omega : (a : Int) < (b : Int))) (List.pairwise_lt_range.filter _)
theorem preL_nodup (to : List Int) (n : Nat) : (preL to n).Nodup := (preL_strict to n).imp (fun h => by omega)
theorem preL_le (to : List Int) (n : Nat) : (preL to n).length ≤ to.length := nodup_le (preL_nodup to n) (fun x hx => by obtain ⟨j, rfl, _, h⟩ := preL_mem.1 hx; exact h)
/-- all found: nothing comes any more -/
theorem preL_full {to : List Int} {n : Nat} (h : (preL to n).length = to.length) : ∀ m, n ≤ m → preL to m = preL to n := by
  intro m hm
  induction m with
  | zero => rw [show n = 0 by omega]
  | succ m ih =>
    rcases Nat.lt_or_ge m n with q | q
    · rw [show m + 1 = n by omega]
    · have := ih q
      rw [preL_succ]
      by_cases hx : (m : Int) ∈ to
      · have h1 := preL_le to (m + 1)
        rw [preL_succ, if_pos hx, List.length_append, List.length_singleton, this] at h1
        omega
      · rw [if_neg hx]; exact this
theorem comp_sort {to : List Int} (h : ∀ x ∈ to, 0 ≤ x ∧ x < 65536) : compI (sortI to) = preL to 65536 := by
  have hs : (sortI to).Pairwise (· ≤ ·) := by
    have := List.pairwise_mergeSort (le := fun x y : Int => decide (x ≤ y)) (fun a b c h1 h2 => by simp at h1 h2 ⊢; omega) (fun a b => by simp; omega) to
    exact this.imp (fun h => by simpa using h)
  refine strict_eq (comp_strict hs) (preL_strict _ _) (fun x => ?_)
  rw [comp_mem, preL_mem]
  unfold sortI
  rw [List.mem_mergeSort]
  constructor
  · intro hx
    obtain ⟨h0, h1⟩ := h x hx
    exact ⟨x.toNat, by omega, by omega, by rw [Int.toNat_of_nonneg h0]; exact hx⟩
  · rintro ⟨j, rfl, _, hj⟩
    exact hj
-- the reference's look through all numbers
theorem index_lp (l : List Int) (x : Int) (hl : l.length ≤ 100000) : ∃ r : Unit ⊕ (Int × Unit), Gp.Lp (fun k => Index137.l0 k l x) 0 r ∧ (match r with | .inl _ => x ∉ l | .inr v => x ∈ l ∧ 0 ≤ v.1) := by
  have key : ∀ (suf pre : List Int), l = pre ++ suf → x ∉ pre → ∃ r : Unit ⊕ (Int × Unit), Gp.Lp (fun k => Index137.l0 k l x) (pre.length : Int) r ∧ (match r with | .inl _ => x ∉ l | .inr v => x ∈ l ∧ 0 ≤ v.1) := by
    intro suf
    induction suf with
    | nil =>
      intro pre h hx
      rw [List.append_nil] at h
      subst h
      refine ⟨.inl (), .done ?_, hx⟩
      simp only [Index137.l0]
      exact .no (by simp) (.now _)
    | cons y suf ih =>
      intro pre h hx
      have hy : l[pre.length]? = some y := by rw [h]; simp
      have hi := get_lt hy
      by_cases hxy : x = y
      · refine ⟨.inr ((pre.length : Int), ()), .done ?_, by rw [h, hxy]; simp, by show (0 : Int) ≤ (pre.length : Int); omega⟩
        simp only [Index137.l0]
        exact .yes (decide_eq_true (by omega)) (.val (rd_some' hy) (.yes (by rw [hxy]; simp) (.now _)))
      · obtain ⟨r, e, p⟩ := ih (pre ++ [y]) (by rw [h]; simp) (by simp [hx, hxy])
        rw [List.length_append, List.length_singleton] at e
        refine ⟨r, .step ?_ e, p⟩
        simp only [Index137.l0]
        refine .yes (decide_eq_true (by omega)) (.val (rd_some' hy) (.no (beq_false_of_ne hxy) (.now' ?_)))
        rw [w64_succ (by omega)]
  exact key l [] rfl (by simp)
theorem contains_ev (l : List Int) (x : Int) (hl : l.length ≤ 100000) : Ev (fun k => Contains97 k l x) (decide (x ∈ l), ()) := by
  obtain ⟨r, e, p⟩ := index_lp l x hl
  unfold Contains97 Index137
  cases r with
  | inl u =>
    have p : x ∉ l := p
    rw [decide_eq_false p]
    exact .bind (a := (-1, ())) (.joinL (S := Unit) e.ev (.now _)) (.now _)
  | inr v =>
    have p : x ∈ l ∧ 0 ≤ v.1 := p
    rw [decide_eq_true p.1]
    refine .bind (a := v) (.joinR e.ev) (.now' ?_)
    rw [decide_eq_true p.2]
abbrev O3 := Int × Unit × Bool × Bool
theorem look_lp (o1 : O3) (o2 : List Int) (o3 : O3) {to : List Int} (hl : to.length ≤ 1000) : Gp.Lp (fun k => way58.l1 k) ((), (), (), 0, o1, o2, o3, [], to) ((), (), o1, o2, o3, preL to 65536) := by
  have key : ∀ (d n : Nat), n + d = 65536 → Gp.Lp (fun k => way58.l1 k) ((), (), (), (n : Int), o1, o2, o3, preL to n, to) ((), (), o1, o2, o3, preL to 65536) := by
    intro d
    induction d with
    | zero =>
      intro n hn
      have : n = 65536 := by omega
      subst this
      refine .done ?_
      simp only [way58.l1]
      exact .no (by decide) (.now _)
    | succ d ih =>
      intro n hn
      have hw : w64 ((n : Int) + 1) = ((n + 1 : Nat) : Int) := w64_succ (by omega)
      have hle := preL_le to n
      have hb : Ev (fun k => (cond (decide ((n : Int) ∈ to), ()).1
          ((if room (List.length (preL to n) + List.length ([(n : Int)] : List Int)) 8 then some () else none).bind fun _ =>
          some ((), (), (), o1, o2, (o3.1, o3.2.1, o3.2.2), (preL to n ++ ([(n : Int)] : List Int)), to))
          (some ((), (), (), o1, o2, o3, preL to n, to)) : Option (Unit × (Unit × (Unit × (O3 × (List Int × (O3 × (List Int × List Int)))))))) ) ((), (), (), o1, o2, o3, preL to (n + 1), to) := by
        rw [preL_succ]
        by_cases h : (n : Int) ∈ to
        · rw [if_pos h]
          exact .yes (decide_eq_true h) (.val (a := ()) (if_pos (room_ok (by simp only [List.length_cons, List.length_nil]; omega))) (.now _))
        · rw [if_neg h]
          exact .no (decide_eq_false h) (.now _)
      by_cases hf : (preL to (n + 1)).length = to.length
      · have := preL_full hf 65536 (by omega)
        rw [this]
        refine .done ?_
        simp only [way58.l1]
        refine .yes (decide_eq_true (by omega)) (.bind (contains_ev to (n : Int) (by omega)) (.bind hb (.yes ?_ (.now _))))
        show ((List.length (preL to (n + 1)) : Int) == (List.length to : Int)) = true
        rw [hf]; simp
      · refine .step ?_ (ih (n + 1) (by omega))
        simp only [way58.l1]
        refine .yes (decide_eq_true (by omega)) (.bind (contains_ev to (n : Int) (by omega)) (.bind hb (.no ?_ (.now' (by rw [hw])))))
        exact beq_false_of_ne (by show (List.length (preL to (n + 1)) : Int) ≠ (List.length to : Int); omega)
  have := key 65536 0 rfl
  rwa [show preL to 0 = [] from rfl] at this
end Go.Proofs.YtcppmlgnceldmaaGreat.Fl

/- What an instruction leads to: the reference's answer. No program in sight. -/
set_option linter.unusedVariables false
set_option maxRecDepth 100000
noncomputable section
namespace Go.Proofs.YtcppmlgnceldmaaGreat.Fl
open Go Go.Proofs.YtcppmlgnceldmaaGreat.Gp

theorem size_rd {m : Int} (h : 0 ≤ m ∧ m ≤ 8) : rd ([0, 1, 1, 1, 2, 2, 2, 1, 1] : List Int) m = some (sizeV m : Int) := by
  have : m = 0 ∨ m = 1 ∨ m = 2 ∨ m = 3 ∨ m = 4 ∨ m = 5 ∨ m = 6 ∨ m = 7 ∨ m = 8 := by omega
  rcases this with rfl | rfl | rfl | rfl | rfl | rfl | rfl | rfl | rfl <;> rfl
theorem way_r {code : Cod} (hd : OkD code) {x : Ins} (hx : OkI x) {addr : Int} (ha : 0 ≤ addr ∧ addr < 65536) {A : Rg} (hA : Inv A) {r : Vals} (hr : RelR A r) :
    ∃ o, All2 RelW (ends1 code x addr A) o ∧ Ev (fun k => way58 k code x addr r) ((wayA code x addr A, o, ()), ()) := by
  have hs := sizeV_le x.2.2.1
  have hv : ∀ n, pc1 addr = some n → n < 65536 := fun n hn => by unfold pc1 at hn; cases hn; omega
  obtain ⟨b1, hset, e1⟩ := put93_r hr (i := 7) (by decide) hv
  have ep : eR (pc1 addr) = ((addr + 1) % 65536, true) := by unfold pc1; show (((((addr + 1) % 65536).toNat : Nat) : Int), true) = _; rw [Int.toNat_of_nonneg (by omega)]
  rw [ep] at e1
  obtain ⟨o, ho, e2⟩ := ends_r hd hx.cyc (hA.set 7 (pc1 addr)) hset
  obtain ⟨hlen, hall⟩ := ends_ok (code := code) hx.cyc (hA.set 7 (pc1 addr))
  have hbk : backN x addr < 65536 := by unfold backN; omega
  have hback : (addr + (1 + (sizeV x.2.2.1 : Int))) % 65536 = (backN x addr : Int) := by unfold backN; omega
  have hw1 : w64 (addr + 1) = addr + 1 := w64_id (by omega) (by omega)
  have hw2 : w64 (1 + (sizeV x.2.2.1 : Int)) = 1 + (sizeV x.2.2.1 : Int) := w64_id (by omega) (by omega)
  have hw3 : w64 (addr + (1 + (sizeV x.2.2.1 : Int))) = addr + (1 + (sizeV x.2.2.1 : Int)) := w64_id (by omega) (by omega)
  refine ⟨o, ho, ?_⟩
  have hol := ho.len
  show Ev _ (((1 + (sizeV x.2.2.1 : Int), compI (sortI (toL (endsA code x.2.2.2 (setA A 7 (pc1 addr))))), openL (endsA code x.2.2.2 (setA A 7 (pc1 addr))), callL (backN x addr) (endsA code x.2.2.2 (setA A 7 (pc1 addr)))), o, ()), ())
  change All2 RelW (endsA code x.2.2.2 (setA A 7 (pc1 addr))) o at ho
  generalize endsA code x.2.2.2 (setA A 7 (pc1 addr)) = E at ho hol hlen hall
  have htl := toL_len E
  obtain ⟨y, hy, e3⟩ := Lp.countI (body := fun k => way58.l0 k ((((backN x addr : Nat) : Int), true), ()) (o, ())) E.length (fun (y : Lst) i => ((), (), (), i, (0, (), false, false), [], (1 + (sizeV x.2.2.1 : Int), (), y.1, y.2.1), [], y.2.2)) (fun y => ((), (), (), (0, (), false, false), [], (1 + (sizeV x.2.2.1 : Int), (), y.1, y.2.1), [], y.2.2))
    (fun i y => y = (openL (E.take i), callL (backN x addr) (E.take i), toL (E.take i)))
    (fun i y hi hy => by
      have hE : E[i]? = some E[i] := List.getElem?_eq_getElem hi
      obtain ⟨hinv, hpl⟩ := hall _ (get_mem hE)
      generalize E[i] = e at hE hinv hpl
      have hq : o[i]? = some o[i] := List.getElem?_eq_getElem (by rw [ho.len]; exact hi)
      obtain ⟨q1, q2⟩ := ho.at' i e _ hE hq
      have hil : i < o.length := get_lt hq
      generalize o[i] = z at hq q1 q2
      have hpc := getW_r q1 hinv (i := 7) (by decide)
      have htk := toL_len (E.take i)
      rw [List.length_take] at htk
      refine ⟨_, rfl, ?_⟩
      have t1 : openL (E.take (i + 1)) = (openL (E.take i) || (pcA e).isNone) := by
        unfold openL
        rw [List.take_add_one, hE, List.any_append]; simp
      have t2 : callL (backN x addr) (E.take (i + 1)) = (callL (backN x addr) (E.take i) || callE (backN x addr) e.2) := by
        unfold callL
        rw [List.take_add_one, hE, List.any_append]; simp
      have t3 : toL (E.take (i + 1)) = toL (E.take i) ++ pcL (pcA e) := by
        rw [List.take_add_one, hE, Option.toList_some, toL_snoc]
      rw [t1, t2, t3, hy]
      simp only [way58.l0]
      have hw : w64 ((i : Int) + 1) = ((i + 1 : Nat) : Int) := w64_succ (by omega)
      have tail : ∀ (op : Bool) (to : List Int), Ev (fun k => Option.bind (cond (decide ((List.length z.2 : Int) > 1))
            ((rd z.2 (w64 ((List.length z.2 : Int) - 2))).bind fun t74 =>
            (known94 k (quoI .i64 ((backN x addr : Nat) : Int) 256) 8).bind fun t78 =>
            some (xor false (eqB (.st (.pair (.int .i64) .bool)) t74 t78.1)))
            (some false)) fun t80 =>
          Option.bind (cond t80
            ((rd z.2 (w64 ((List.length z.2 : Int) - 1))).bind fun t86 =>
            (known94 k ((backN x addr : Nat) : Int) 8).bind fun t89 =>
            some (xor false (eqB (.st (.pair (.int .i64) .bool)) t86 t89.1)))
            (some false)) fun t79 =>
          Option.bind
            (cond t79
              (some ((), (), (), ((0 : Int), (), false, false), ([] : List Int), (1 + (sizeV x.2.2.1 : Int), (), op, true), ([] : List Int), to))
              (some ((), (), (), (0, (), false, false), [], (1 + (sizeV x.2.2.1 : Int), (), op, callL (backN x addr) (E.take i)), [], to)) : Option (Unit × (Unit × (Unit × (O3 × (List Int × (O3 × (List Int × List Int)))))))) fun ((_, _, _, o1_2, o2_2, o3_2, o4_2, o8_2) : (Unit × (Unit × (Unit × (O3 × (List Int × (O3 × (List Int × List Int)))))))) =>
          (some (Sum.inl ((), (), (), (w64 ((i : Int) + 1)), o1_2, o2_2, o3_2, o4_2, o8_2)) : Option ((Unit × (Unit × (Unit × (Int × (O3 × (List Int × (O3 × (List Int × List Int)))))))) ⊕ (Unit × (Unit × (Unit × (O3 × (List Int × (O3 × (List Int × List Int)))))))))) 
          (.inl ((), (), (), ((i + 1 : Nat) : Int), (0, (), false, false), [], (1 + (sizeV x.2.2.1 : Int), (), op, callL (backN x addr) (E.take i) || callE (backN x addr) e.2), [], to)) := fun op to => by
        refine callR_ev q2 hpl hbk ?_
        rw [hw]
        cases callE (backN x addr) e.2 with
        | true => rw [Bool.or_true]; exact .bind (.yes rfl (.now _)) (.now _)
        | false => rw [Bool.or_false]; exact .bind (.no rfl (.now _)) (.now _)
      refine .yes (decide_eq_true (by show (i : Int) < (o.length : Int); omega)) (.val (rd_some' hq) (.bind hpc ?_))
      cases hp : pcA e with
      | none =>
        have hp' : wholeA e.1 7 = none := hp
        rw [hp']
        refine .bind (a := ((), (), (), (), (0, (), false, false), [], (1 + (sizeV x.2.2.1 : Int), (), true, callL (backN x addr) (E.take i)), [], toL (E.take i), z)) (.no rfl (.now _)) ?_
        have := tail true (toL (E.take i))
        rw [show (openL (E.take i) || (none : Option Nat).isNone) = true by simp, show pcL none = [] from rfl, List.append_nil]
        exact this
      | some n =>
        have hp' : wholeA e.1 7 = some n := hp
        rw [hp']
        refine .bind (a := ((), (), (), (), (0, (), false, false), [], (1 + (sizeV x.2.2.1 : Int), (), openL (E.take i), callL (backN x addr) (E.take i)), [], toL (E.take i) ++ [(n : Int)], z)) (.yes rfl (.val (a := ()) (if_pos (room_ok (by simp only [List.length_cons, List.length_nil]; omega))) (.now _))) ?_
        have := tail (openL (E.take i)) (toL (E.take i) ++ [(n : Int)])
        rw [show (openL (E.take i) || (some n).isNone) = openL (E.take i) by simp]
        exact this)
    (fun y _ => by
      simp only [way58.l0]
      exact .no (decide_eq_false (by show ¬ ((E.length : Nat) : Int) < (o.length : Int); omega)) (.now _)) (b := (false, false, [])) rfl
  rw [List.take_length] at hy
  have hto : ∀ z ∈ toL E, 0 ≤ z ∧ z < 65536 := fun z hz => by
    unfold toL at hz
    obtain ⟨e, he, hz⟩ := List.mem_filterMap.1 hz
    cases hp : pcA e with
    | none => rw [hp] at hz; cases hz
    | some n =>
      rw [hp] at hz
      cases hz
      have := whole_lt (hall e he).1 hp
      show (0 : Int) ≤ (n : Int) ∧ (n : Int) < 65536
      omega
  have e4 := look_lp (0, (), false, false) [] (1 + (sizeV x.2.2.1 : Int), (), openL E, callL (backN x addr) E) (to := toL E) (by omega)
  unfold way58 operands49
  refine .bind (.now _) (.bind (a := (((addr + 1) % 65536, true), ())) ?_ (.bind e1 (.val (size_rd hx.mode) ?_)))
  · rw [hw1]
    exact known_ev (x := addr + 1) (by omega) (bits := 16) (M := 65536) (.inr ⟨rfl, rfl⟩)
  · rw [hw2, hw3]
    refine .bind (a := ((((backN x addr : Nat) : Int), true), ())) ?_ (.bind e2 (.bind e3.ev ?_))
    · have := known_ev (x := addr + (1 + (sizeV x.2.2.1 : Int))) (by omega) (bits := 16) (M := 65536) (.inr ⟨rfl, rfl⟩)
      rw [hback] at this
      exact this
    · rw [hy, comp_sort hto]
      exact .bind e4.ev (.now _)
theorem with_lp {c : Cpu} (hc : Wc c) (op : Int) (o0 : Int × ByteArray × Int × Unit) : ∀ (suf pre : List Ins), c.2.1 = pre ++ suf → Gp.Lp (fun k => with50.l0 k c op) ((), (pre.length : Int), o0) (match suf.find? (fun x => x.1 == op) with | some x => .inr ((x, true, ()), ()) | none => .inl ((), o0)) := by
  have hl := hc.len
  intro suf
  induction suf with
  | nil =>
    intro pre h
    rw [List.append_nil] at h
    refine .done ?_
    simp only [with50.l0]
    exact .no (by rw [h]; simp) (.now _)
  | cons x suf ih =>
    intro pre h
    have hx : c.2.1[pre.length]? = some x := by rw [h]; simp
    have hi := get_lt hx
    cases he : x.1 == op with
    | true =>
      rw [List.find?_cons_of_pos (by exact he)]
      refine .done ?_
      simp only [with50.l0]
      exact .yes (decide_eq_true (by omega)) (.val (rd_some' hx) (.yes he (.now _)))
    | false =>
      rw [List.find?_cons_of_neg (by rw [he]; decide)]
      have := ih (pre ++ [x]) (by rw [h]; simp)
      rw [List.length_append, List.length_singleton] at this
      refine .step ?_ this
      simp only [with50.l0]
      refine .yes (decide_eq_true (by omega)) (.val (rd_some' hx) (.no he (.now' ?_)))
      rw [w64_succ (by omega)]
theorem with_ev {c : Cpu} (hc : Wc c) (op : Int) : Ev (fun k => with50 k c op) (findR c op, ()) := by
  have := with_lp hc op (0, ByteArray.mk #[], 0, ()) c.2.1 [] rfl
  unfold with50 findR findI
  cases h : c.2.1.find? (fun x => x.1 == op) with
  | none =>
    rw [h] at this
    exact .joinL (S := Unit) this.ev (.now _)
  | some x =>
    rw [h] at this
    exact .joinR this.ev
theorem starts_r {c : Cpu} (hc : Wc c) {code : Cod} (hp : OkP c code) (hd : OkD code) {addr : Int} (ha : -9223372036854775808 ≤ addr ∧ addr ≤ 9223372036854775807) : Ev (fun k => starts57 k c code addr) (begunR c code addr, ()) := by
  have hl := hd.len
  have hb := hd.base
  have hw : w64 (code.1 + (code.2.1.length : Int)) = code.1 + (code.2.1.length : Int) := w64_id (by omega) (by omega)
  by_cases hin : code.1 ≤ addr ∧ addr < code.1 + (code.2.1.length : Int)
  · have h1 : atI code addr = some (code.2.1.getD (addr - code.1).toNat 0).toNat := if_pos ⟨by omega, hin.1, hin.2⟩
    have hg : code.2.1[(addr - code.1).toNat]? = some (code.2.1.getD (addr - code.1).toNat 0) := by
      rw [List.getD_eq_getElem?_getD, List.getElem?_eq_getElem (by omega)]; rfl
    have hby := hd.byte _ (get_mem hg)
    generalize code.2.1.getD (addr - code.1).toNat 0 = y at hg hby h1
    have hy : w64 y = y := w64_id (by omega) (by omega)
    have hw2 : w64 (addr - code.1) = addr - code.1 := w64_id (by omega) (by omega)
    have hop : ((y.toNat : Nat) : Int) = y := Int.toNat_of_nonneg hby.1
    have c1 : cond (decide (addr < code.1)) true (decide (addr ≥ (w64 (code.1 + (code.2.1.length : Int))))) = false := by
      rw [hw, decide_eq_false (by omega)]
      exact decide_eq_false (by omega)
    have hf := with_ev hc y
    have hrd : rd code.2.1 (w64 (addr - code.1)) = some y := by rw [hw2]; exact rd_at (i := (addr - code.1).toNat) (by omega) hg
    have e1 : ∀ z : Ins × Bool × Unit, findR c y = z → Ev (fun k => (rd code.2.1 (w64 (addr - code.1))).bind fun t39 => agree
        ((with50 k c (w64 t39)).bind fun t42 => some (code, (), t42.1.1, t42.1.2.1, 0, (ByteArray.mk #[]), 0, ()))
        ((with50 k c (w64 t39)).bind fun t42_1 => (some (code, (), t42_1.1.1, t42_1.1.2.1, 0, (ByteArray.mk #[]), 0, ()) : Option (Cod × (Unit × (Ins × (Bool × (Int × (ByteArray × (Int × Unit))))))))))
        (code, (), z.1, z.2.1, 0, ByteArray.mk #[], 0, ()) := fun z hz => by
      rw [hz] at hf
      refine .val hrd ?_
      rw [hy]
      exact Ev.agr (.bind hf (.now _)) (.bind hf (.now _))
    unfold starts57 operands49
    cases h2 : findI c y with
    | none =>
      have eB : begunR c code addr = (none4, 4, ()) := by unfold begunR; rw [h1]; simp only [hop, h2]
      have eF : findR c y = (none4, false, ()) := by unfold findR; rw [h2]
      rw [eB]
      exact .bind (.now _) (.no c1 (.bind (e1 _ eF) (.yes rfl (.now _))))
    | some x =>
      have eF : findR c y = (x, true, ()) := by unfold findR; rw [h2]
      have hx := hp.ins x (findI_mem h2)
      have hs := sizeV_le x.2.2.1
      have hw3 : w64 (addr + (sizeV x.2.2.1 : Int)) = addr + (sizeV x.2.2.1 : Int) := w64_id (by omega) (by omega)
      refine .bind (.now _) (.no c1 (.bind (e1 _ eF) (.no rfl (.val (size_rd hx.mode) ?_))))
      rw [hw3, hw]
      by_cases h3 : addr + (sizeV x.2.2.1 : Int) ≥ code.1 + (code.2.1.length : Int)
      · have e3 : atI code (addr + (sizeV x.2.2.1 : Int)) = none := if_neg (fun h => by omega)
        have eB : begunR c code addr = (none4, 13, ()) := by unfold begunR; rw [h1]; simp only [hop, h2]; rw [e3]
        rw [eB]
        exact .yes (decide_eq_true h3) (.now _)
      · have e3 : ∃ n, atI code (addr + (sizeV x.2.2.1 : Int)) = some n := ⟨_, if_pos ⟨by omega, by omega, by omega⟩⟩
        obtain ⟨n, e3⟩ := e3
        have eB : begunR c code addr = (x, 0, ()) := by unfold begunR; rw [h1]; simp only [hop, h2]; rw [e3]
        rw [eB]
        exact .no (decide_eq_false h3) (.now _)
  · have h1 : atI code addr = none := if_neg (fun h => hin ⟨h.2.1, h.2.2⟩)
    have eB : begunR c code addr = (none4, 19, ()) := by unfold begunR; rw [h1]
    rw [eB]
    unfold starts57 operands49
    refine .bind (.now _) (.yes ?_ (.now _))
    rw [hw]
    by_cases h2 : addr < code.1
    · rw [decide_eq_true h2]; rfl
    · rw [decide_eq_false h2]
      exact decide_eq_true (by omega)
def bank0 : Vals := [(0, false), (0, false), (0, false), (0, false), (0, false), (0, false), (0, false), (0, false), (0, false), (0, false), (0, false), (0, false), (0, false), (0, false), (0, false), (0, false), (0, false), (0, false)]
theorem bank0_rel : RelR A0 bank0 := by
  have key : ∀ j, j < 18 → bank0[j]? = some (0, false) := fun j hj => by
    have : j = 0 ∨ j = 1 ∨ j = 2 ∨ j = 3 ∨ j = 4 ∨ j = 5 ∨ j = 6 ∨ j = 7 ∨ j = 8 ∨ j = 9 ∨ j = 10 ∨ j = 11 ∨ j = 12 ∨ j = 13 ∨ j = 14 ∨ j = 15 ∨ j = 16 ∨ j = 17 := by omega
    rcases this with rfl | rfl | rfl | rfl | rfl | rfl | rfl | rfl | rfl | rfl | rfl | rfl | rfl | rfl | rfl | rfl | rfl | rfl <;> rfl
  exact ⟨rfl, fun i hi => key _ (by omega), fun i hi _ => key _ (by omega)⟩
theorem nextW_r {c : Cpu} (hc : Wc c) {code : Cod} (hp : OkP c code) (hd : OkD code) {addr : Int} (ha : -9223372036854775808 ≤ addr ∧ addr ≤ 9223372036854775807) : Ev (fun k => NextWay21 k c code addr) (nextR c code addr, ()) := by
  have hb := starts_r hc hp hd ha
  have hbo := begun_ok hp hd (addr := addr)
  unfold NextWay21 nextR
  refine .bind hb ?_
  generalize begunR c code addr = b at hbo
  by_cases h : b.2.1 ≠ 0
  · rw [if_pos h]
    exact .yes (bne_iff_ne.2 h) (.now _)
  · rw [if_neg h]
    have h : b.2.1 = 0 := by omega
    obtain ⟨hx, h1⟩ := hbo h
    obtain ⟨o, ho, el⟩ := way_r hd hx h1 inv0 bank0_rel
    exact .no (by rw [h]; rfl) (.bind el (.now _))
end Go.Proofs.YtcppmlgnceldmaaGreat.Fl

/- More fuel, no other answer: the functions. Printed by mono.py. -/
set_option linter.unusedVariables false
set_option maxRecDepth 100000
noncomputable section
namespace Go.Proofs.YtcppmlgnceldmaaGreat.Fl
open Go Go.Proofs.YtcppmlgnceldmaaGreat.Gp
theorem Name32.l0.mono : ∀ a0_, ∀ s, Mono (fun k => Name32.l0 k a0_ s) := by
  intro a0_
  unfold Name32.l0
  repeat' (first | exact Mono.const _ | with_reducible refine Mono.cond ?_ ?_ | with_reducible refine Mono.orNil ?_ ?_ | with_reducible refine Mono.agree ?_ ?_ | with_reducible refine Mono.joined ?_ ?_ | with_reducible refine Mono.bind ?_ ?_ | with_reducible refine Mono.loop ?_ | with_reducible refine Mono.prod ?_ | intro _ | (dsimp only))

theorem Name32.mono : ∀ a0_, Mono (fun k => Name32 k a0_) := by
  intro a0_
  unfold Name32
  repeat' (first | exact Mono.const _ | with_reducible exact Name32.l0.mono _ | with_reducible refine Mono.cond ?_ ?_ | with_reducible refine Mono.orNil ?_ ?_ | with_reducible refine Mono.agree ?_ ?_ | with_reducible refine Mono.joined ?_ ?_ | with_reducible refine Mono.bind ?_ ?_ | with_reducible refine Mono.loop ?_ | with_reducible refine Mono.prod ?_ | intro _ | (dsimp only))

theorem Size33.mono : ∀ a0_, Mono (fun k => Size33 k a0_) := by
  intro a0_
  unfold Size33
  repeat' (first | exact Mono.const _ | with_reducible refine Mono.cond ?_ ?_ | with_reducible refine Mono.orNil ?_ ?_ | with_reducible refine Mono.agree ?_ ?_ | with_reducible refine Mono.joined ?_ ?_ | with_reducible refine Mono.bind ?_ ?_ | with_reducible refine Mono.loop ?_ | with_reducible refine Mono.prod ?_ | intro _ | (dsimp only))

theorem Check135.mono : ∀ a0_ a1_, Mono (fun k => Check135 k a0_ a1_) := by
  intro a0_ a1_
  unfold Check135
  repeat' (first | exact Mono.const _ | with_reducible refine Mono.cond ?_ ?_ | with_reducible refine Mono.orNil ?_ ?_ | with_reducible refine Mono.agree ?_ ?_ | with_reducible refine Mono.joined ?_ ?_ | with_reducible refine Mono.bind ?_ ?_ | with_reducible refine Mono.loop ?_ | with_reducible refine Mono.prod ?_ | intro _ | (dsimp only))

theorem IndexFunc42.l0.mono : ∀ a0_, ∀ s, Mono (fun k => IndexFunc42.l0 k a0_ s) := by
  intro a0_
  unfold IndexFunc42.l0
  repeat' (first | exact Mono.const _ | with_reducible exact Check135.mono _ _ | with_reducible refine Mono.cond ?_ ?_ | with_reducible refine Mono.orNil ?_ ?_ | with_reducible refine Mono.agree ?_ ?_ | with_reducible refine Mono.joined ?_ ?_ | with_reducible refine Mono.bind ?_ ?_ | with_reducible refine Mono.loop ?_ | with_reducible refine Mono.prod ?_ | intro _ | (dsimp only))

theorem IndexFunc42.mono : ∀ a0_ a1_, Mono (fun k => IndexFunc42 k a0_ a1_) := by
  intro a0_ a1_
  unfold IndexFunc42
  repeat' (first | exact Mono.const _ | with_reducible exact IndexFunc42.l0.mono _ | with_reducible refine Mono.cond ?_ ?_ | with_reducible refine Mono.orNil ?_ ?_ | with_reducible refine Mono.agree ?_ ?_ | with_reducible refine Mono.joined ?_ ?_ | with_reducible refine Mono.bind ?_ ?_ | with_reducible refine Mono.loop ?_ | with_reducible refine Mono.prod ?_ | intro _ | (dsimp only))

theorem ContainsFunc34.mono : ∀ a0_ a1_, Mono (fun k => ContainsFunc34 k a0_ a1_) := by
  intro a0_ a1_
  unfold ContainsFunc34
  repeat' (first | exact Mono.const _ | with_reducible exact IndexFunc42.mono _ _ | with_reducible refine Mono.cond ?_ ?_ | with_reducible refine Mono.orNil ?_ ?_ | with_reducible refine Mono.agree ?_ ?_ | with_reducible refine Mono.joined ?_ ?_ | with_reducible refine Mono.bind ?_ ?_ | with_reducible refine Mono.loop ?_ | with_reducible refine Mono.prod ?_ | intro _ | (dsimp only))

theorem register101.mono : ∀ a0_, Mono (fun k => register101 k a0_) := by
  intro a0_
  unfold register101
  repeat' (first | exact Mono.const _ | with_reducible refine Mono.cond ?_ ?_ | with_reducible refine Mono.orNil ?_ ?_ | with_reducible refine Mono.agree ?_ ?_ | with_reducible refine Mono.joined ?_ ?_ | with_reducible refine Mono.bind ?_ ?_ | with_reducible refine Mono.loop ?_ | with_reducible refine Mono.prod ?_ | intro _ | (dsimp only))

theorem Wide102.mono : ∀ a0_, Mono (fun k => Wide102 k a0_) := by
  intro a0_
  unfold Wide102
  repeat' (first | exact Mono.const _ | with_reducible refine Mono.cond ?_ ?_ | with_reducible refine Mono.orNil ?_ ?_ | with_reducible refine Mono.agree ?_ ?_ | with_reducible refine Mono.joined ?_ ?_ | with_reducible refine Mono.bind ?_ ?_ | with_reducible refine Mono.loop ?_ | with_reducible refine Mono.prod ?_ | intro _ | (dsimp only))

theorem uses138.mono : ∀ a0_, Mono (fun k => uses138 k a0_) := by
  intro a0_
  unfold uses138
  repeat' (first | exact Mono.const _ | with_reducible refine Mono.cond ?_ ?_ | with_reducible refine Mono.orNil ?_ ?_ | with_reducible refine Mono.agree ?_ ?_ | with_reducible refine Mono.joined ?_ ?_ | with_reducible refine Mono.bind ?_ ?_ | with_reducible refine Mono.loop ?_ | with_reducible refine Mono.prod ?_ | intro _ | (dsimp only))

theorem fits139.mono : ∀ a0_ a1_, Mono (fun k => fits139 k a0_ a1_) := by
  intro a0_ a1_
  unfold fits139
  repeat' (first | exact Mono.const _ | with_reducible exact register101.mono _ | with_reducible exact Wide102.mono _ | with_reducible refine Mono.cond ?_ ?_ | with_reducible refine Mono.orNil ?_ ?_ | with_reducible refine Mono.agree ?_ ?_ | with_reducible refine Mono.joined ?_ ?_ | with_reducible refine Mono.bind ?_ ?_ | with_reducible refine Mono.loop ?_ | with_reducible refine Mono.prod ?_ | intro _ | (dsimp only))

theorem step103.mono : ∀ a0_, Mono (fun k => step103 k a0_) := by
  intro a0_
  unfold step103
  repeat' (first | exact Mono.const _ | with_reducible exact register101.mono _ | with_reducible exact Wide102.mono _ | with_reducible exact uses138.mono _ | with_reducible exact fits139.mono _ _ | with_reducible refine Mono.cond ?_ ?_ | with_reducible refine Mono.orNil ?_ ?_ | with_reducible refine Mono.agree ?_ ?_ | with_reducible refine Mono.joined ?_ ?_ | with_reducible refine Mono.bind ?_ ?_ | with_reducible refine Mono.loop ?_ | with_reducible refine Mono.prod ?_ | intro _ | (dsimp only))

theorem cycle73.l0.mono : ∀ a0_, ∀ s, Mono (fun k => cycle73.l0 k a0_ s) := by
  intro a0_
  unfold cycle73.l0
  repeat' (first | exact Mono.const _ | with_reducible exact step103.mono _ | with_reducible refine Mono.cond ?_ ?_ | with_reducible refine Mono.orNil ?_ ?_ | with_reducible refine Mono.agree ?_ ?_ | with_reducible refine Mono.joined ?_ ?_ | with_reducible refine Mono.bind ?_ ?_ | with_reducible refine Mono.loop ?_ | with_reducible refine Mono.prod ?_ | intro _ | (dsimp only))

theorem cycle73.mono : ∀ a0_, Mono (fun k => cycle73 k a0_) := by
  intro a0_
  unfold cycle73
  repeat' (first | exact Mono.const _ | with_reducible exact register101.mono _ | with_reducible exact Wide102.mono _ | with_reducible exact cycle73.l0.mono _ | with_reducible refine Mono.cond ?_ ?_ | with_reducible refine Mono.orNil ?_ ?_ | with_reducible refine Mono.agree ?_ ?_ | with_reducible refine Mono.joined ?_ ?_ | with_reducible refine Mono.bind ?_ ?_ | with_reducible refine Mono.loop ?_ | with_reducible refine Mono.prod ?_ | intro _ | (dsimp only))

theorem cycles36.l0.mono : ∀ a0_, ∀ s, Mono (fun k => cycles36.l0 k a0_ s) := by
  intro a0_
  unfold cycles36.l0
  repeat' (first | exact Mono.const _ | with_reducible exact cycle73.mono _ | with_reducible refine Mono.cond ?_ ?_ | with_reducible refine Mono.orNil ?_ ?_ | with_reducible refine Mono.agree ?_ ?_ | with_reducible refine Mono.joined ?_ ?_ | with_reducible refine Mono.bind ?_ ?_ | with_reducible refine Mono.loop ?_ | with_reducible refine Mono.prod ?_ | intro _ | (dsimp only))

theorem cycles36.mono : ∀ a0_, Mono (fun k => cycles36 k a0_) := by
  intro a0_
  unfold cycles36
  repeat' (first | exact Mono.const _ | with_reducible exact cycles36.l0.mono _ | with_reducible refine Mono.cond ?_ ?_ | with_reducible refine Mono.orNil ?_ ?_ | with_reducible refine Mono.agree ?_ ?_ | with_reducible refine Mono.joined ?_ ?_ | with_reducible refine Mono.bind ?_ ?_ | with_reducible refine Mono.loop ?_ | with_reducible refine Mono.prod ?_ | intro _ | (dsimp only))

theorem operand37.l0.mono : ∀ a0_, ∀ s, Mono (fun k => operand37.l0 k a0_ s) := by
  intro a0_
  unfold operand37.l0
  repeat' (first | exact Mono.const _ | with_reducible refine Mono.cond ?_ ?_ | with_reducible refine Mono.orNil ?_ ?_ | with_reducible refine Mono.agree ?_ ?_ | with_reducible refine Mono.joined ?_ ?_ | with_reducible refine Mono.bind ?_ ?_ | with_reducible refine Mono.loop ?_ | with_reducible refine Mono.prod ?_ | intro _ | (dsimp only))

theorem operand37.mono : ∀ a0_, Mono (fun k => operand37 k a0_) := by
  intro a0_
  unfold operand37
  repeat' (first | exact Mono.const _ | with_reducible exact operand37.l0.mono _ | with_reducible refine Mono.cond ?_ ?_ | with_reducible refine Mono.orNil ?_ ?_ | with_reducible refine Mono.agree ?_ ?_ | with_reducible refine Mono.joined ?_ ?_ | with_reducible refine Mono.bind ?_ ?_ | with_reducible refine Mono.loop ?_ | with_reducible refine Mono.prod ?_ | intro _ | (dsimp only))

theorem Check8.l0.mono : ∀ a0_, ∀ s, Mono (fun k => Check8.l0 k a0_ s) := by
  intro a0_
  unfold Check8.l0
  repeat' (first | exact Mono.const _ | with_reducible exact Name32.mono _ | with_reducible exact Size33.mono _ | with_reducible exact ContainsFunc34.mono _ _ | with_reducible exact cycles36.mono _ | with_reducible exact operand37.mono _ | with_reducible refine Mono.cond ?_ ?_ | with_reducible refine Mono.orNil ?_ ?_ | with_reducible refine Mono.agree ?_ ?_ | with_reducible refine Mono.joined ?_ ?_ | with_reducible refine Mono.bind ?_ ?_ | with_reducible refine Mono.loop ?_ | with_reducible refine Mono.prod ?_ | intro _ | (dsimp only))

theorem Check8.l1.mono : ∀ a0_, ∀ s, Mono (fun k => Check8.l1 k a0_ s) := by
  intro a0_
  unfold Check8.l1
  repeat' (first | exact Mono.const _ | with_reducible exact cycles36.mono _ | with_reducible refine Mono.cond ?_ ?_ | with_reducible refine Mono.orNil ?_ ?_ | with_reducible refine Mono.agree ?_ ?_ | with_reducible refine Mono.joined ?_ ?_ | with_reducible refine Mono.bind ?_ ?_ | with_reducible refine Mono.loop ?_ | with_reducible refine Mono.prod ?_ | intro _ | (dsimp only))

theorem Check8.mono : ∀ a0_, Mono (fun k => Check8 k a0_) := by
  intro a0_
  unfold Check8
  repeat' (first | exact Mono.const _ | with_reducible exact Name32.mono _ | with_reducible exact Check8.l0.mono _ | with_reducible exact Check8.l1.mono _ | with_reducible refine Mono.cond ?_ ?_ | with_reducible refine Mono.orNil ?_ ?_ | with_reducible refine Mono.agree ?_ ?_ | with_reducible refine Mono.joined ?_ ?_ | with_reducible refine Mono.bind ?_ ?_ | with_reducible refine Mono.loop ?_ | with_reducible refine Mono.prod ?_ | intro _ | (dsimp only))

theorem FlowFault17.mono : ∀ a0_ a1_, Mono (fun k => FlowFault17 k a0_ a1_) := by
  intro a0_ a1_
  unfold FlowFault17
  repeat' (first | exact Mono.const _ | with_reducible exact Check8.mono _ | with_reducible refine Mono.cond ?_ ?_ | with_reducible refine Mono.orNil ?_ ?_ | with_reducible refine Mono.agree ?_ ?_ | with_reducible refine Mono.joined ?_ ?_ | with_reducible refine Mono.bind ?_ ?_ | with_reducible refine Mono.loop ?_ | with_reducible refine Mono.prod ?_ | intro _ | (dsimp only))

theorem two118.mono : ∀ a0_ a1_ a2_, Mono (fun k => two118 k a0_ a1_ a2_) := by
  intro a0_ a1_ a2_
  unfold two118
  repeat' (first | exact Mono.const _ | with_reducible refine Mono.cond ?_ ?_ | with_reducible refine Mono.orNil ?_ ?_ | with_reducible refine Mono.agree ?_ ?_ | with_reducible refine Mono.joined ?_ ?_ | with_reducible refine Mono.bind ?_ ?_ | with_reducible refine Mono.loop ?_ | with_reducible refine Mono.prod ?_ | intro _ | (dsimp only))

theorem one119.mono : ∀ a0_ a1_, Mono (fun k => one119 k a0_ a1_) := by
  intro a0_ a1_
  unfold one119
  repeat' (first | exact Mono.const _ | with_reducible refine Mono.cond ?_ ?_ | with_reducible refine Mono.orNil ?_ ?_ | with_reducible refine Mono.agree ?_ ?_ | with_reducible refine Mono.joined ?_ ?_ | with_reducible refine Mono.bind ?_ ?_ | with_reducible refine Mono.loop ?_ | with_reducible refine Mono.prod ?_ | intro _ | (dsimp only))

theorem zero178.mono : Mono (fun k => zero178 k) := by
  unfold zero178
  repeat' (first | exact Mono.const _ | with_reducible refine Mono.cond ?_ ?_ | with_reducible refine Mono.orNil ?_ ?_ | with_reducible refine Mono.agree ?_ ?_ | with_reducible refine Mono.joined ?_ ?_ | with_reducible refine Mono.bind ?_ ?_ | with_reducible refine Mono.loop ?_ | with_reducible refine Mono.prod ?_ | intro _ | (dsimp only))

theorem rd81.mono : ∀ a0_ a1_ a2_ a3_, Mono (fun k => rd81 k a0_ a1_ a2_ a3_) := by
  intro a0_ a1_ a2_ a3_
  unfold rd81
  repeat' (first | exact Mono.const _ | with_reducible refine Mono.cond ?_ ?_ | with_reducible refine Mono.orNil ?_ ?_ | with_reducible refine Mono.agree ?_ ?_ | with_reducible refine Mono.joined ?_ ?_ | with_reducible refine Mono.bind ?_ ?_ | with_reducible refine Mono.loop ?_ | with_reducible refine Mono.prod ?_ | intro _ | (dsimp only))

theorem no117.mono : ∀ a0_, Mono (fun k => no117 k a0_) := by
  intro a0_
  unfold no117
  repeat' (first | exact Mono.const _ | with_reducible refine Mono.cond ?_ ?_ | with_reducible refine Mono.orNil ?_ ?_ | with_reducible refine Mono.agree ?_ ?_ | with_reducible refine Mono.joined ?_ ?_ | with_reducible refine Mono.bind ?_ ?_ | with_reducible refine Mono.loop ?_ | with_reducible refine Mono.prod ?_ | intro _ | (dsimp only))

theorem rd81'.mono : ∀ a0_ a1_ a2_, Mono (fun k => rd81' k a0_ a1_ a2_) := by
  intro a0_ a1_ a2_
  unfold rd81'
  repeat' (first | exact Mono.const _ | with_reducible refine Mono.cond ?_ ?_ | with_reducible refine Mono.orNil ?_ ?_ | with_reducible refine Mono.agree ?_ ?_ | with_reducible refine Mono.joined ?_ ?_ | with_reducible refine Mono.bind ?_ ?_ | with_reducible refine Mono.loop ?_ | with_reducible refine Mono.prod ?_ | intro _ | (dsimp only))

theorem jump82.mono : ∀ a0_, Mono (fun k => jump82 k a0_) := by
  intro a0_
  unfold jump82
  repeat' (first | exact Mono.const _ | with_reducible exact two118.mono _ _ _ | with_reducible refine Mono.cond ?_ ?_ | with_reducible refine Mono.orNil ?_ ?_ | with_reducible refine Mono.agree ?_ ?_ | with_reducible refine Mono.joined ?_ ?_ | with_reducible refine Mono.bind ?_ ?_ | with_reducible refine Mono.loop ?_ | with_reducible refine Mono.prod ?_ | intro _ | (dsimp only))

theorem lead150.mono : ∀ a0_, Mono (fun k => lead150 k a0_) := by
  intro a0_
  unfold lead150
  repeat' (first | exact Mono.const _ | with_reducible exact two118.mono _ _ _ | with_reducible exact zero178.mono | with_reducible exact rd81.mono _ _ _ _ | with_reducible exact no117.mono _ | with_reducible exact rd81'.mono _ _ _ | with_reducible exact jump82.mono _ | with_reducible refine Mono.cond ?_ ?_ | with_reducible refine Mono.orNil ?_ ?_ | with_reducible refine Mono.agree ?_ ?_ | with_reducible refine Mono.joined ?_ ?_ | with_reducible refine Mono.bind ?_ ?_ | with_reducible refine Mono.loop ?_ | with_reducible refine Mono.prod ?_ | intro _ | (dsimp only))

theorem rd81''.mono : ∀ a0_ a1_ a2_, Mono (fun k => rd81'' k a0_ a1_ a2_) := by
  intro a0_ a1_ a2_
  unfold rd81''
  repeat' (first | exact Mono.const _ | with_reducible refine Mono.cond ?_ ?_ | with_reducible refine Mono.orNil ?_ ?_ | with_reducible refine Mono.agree ?_ ?_ | with_reducible refine Mono.joined ?_ ?_ | with_reducible refine Mono.bind ?_ ?_ | with_reducible refine Mono.loop ?_ | with_reducible refine Mono.prod ?_ | intro _ | (dsimp only))

theorem reads149.mono : ∀ a0_ a1_, Mono (fun k => reads149 k a0_ a1_) := by
  intro a0_ a1_
  unfold reads149
  repeat' (first | exact Mono.const _ | with_reducible exact lead150.mono _ | with_reducible exact rd81''.mono _ _ _ | with_reducible refine Mono.cond ?_ ?_ | with_reducible refine Mono.orNil ?_ ?_ | with_reducible refine Mono.agree ?_ ?_ | with_reducible refine Mono.joined ?_ ?_ | with_reducible refine Mono.bind ?_ ?_ | with_reducible refine Mono.loop ?_ | with_reducible refine Mono.prod ?_ | intro _ | (dsimp only))

theorem add116.mono : ∀ a0_ a1_ a2_ a3_ a4_ a5_, Mono (fun k => add116 k a0_ a1_ a2_ a3_ a4_ a5_) := by
  intro a0_ a1_ a2_ a3_ a4_ a5_
  unfold add116
  repeat' (first | exact Mono.const _ | with_reducible refine Mono.cond ?_ ?_ | with_reducible refine Mono.orNil ?_ ?_ | with_reducible refine Mono.agree ?_ ?_ | with_reducible refine Mono.joined ?_ ?_ | with_reducible refine Mono.bind ?_ ?_ | with_reducible refine Mono.loop ?_ | with_reducible refine Mono.prod ?_ | intro _ | (dsimp only))

theorem loads112.l0.mono : ∀ a0_ a1_ a2_, ∀ s, Mono (fun k => loads112.l0 k a0_ a1_ a2_ s) := by
  intro a0_ a1_ a2_
  unfold loads112.l0
  repeat' (first | exact Mono.const _ | with_reducible exact two118.mono _ _ _ | with_reducible exact one119.mono _ _ | with_reducible exact reads149.mono _ _ | with_reducible exact add116.mono _ _ _ _ _ _ | with_reducible refine Mono.cond ?_ ?_ | with_reducible refine Mono.orNil ?_ ?_ | with_reducible refine Mono.agree ?_ ?_ | with_reducible refine Mono.joined ?_ ?_ | with_reducible refine Mono.bind ?_ ?_ | with_reducible refine Mono.loop ?_ | with_reducible refine Mono.prod ?_ | intro _ | (dsimp only))

theorem loads112.mono : ∀ a0_ a1_ a2_ a3_ a4_ a5_, Mono (fun k => loads112 k a0_ a1_ a2_ a3_ a4_ a5_) := by
  intro a0_ a1_ a2_ a3_ a4_ a5_
  unfold loads112
  repeat' (first | exact Mono.const _ | with_reducible exact loads112.l0.mono _ _ _ | with_reducible refine Mono.cond ?_ ?_ | with_reducible refine Mono.orNil ?_ ?_ | with_reducible refine Mono.agree ?_ ?_ | with_reducible refine Mono.joined ?_ ?_ | with_reducible refine Mono.bind ?_ ?_ | with_reducible refine Mono.loop ?_ | with_reducible refine Mono.prod ?_ | intro _ | (dsimp only))

theorem wr120.mono : ∀ a0_ a1_ a2_, Mono (fun k => wr120 k a0_ a1_ a2_) := by
  intro a0_ a1_ a2_
  unfold wr120
  repeat' (first | exact Mono.const _ | with_reducible refine Mono.cond ?_ ?_ | with_reducible refine Mono.orNil ?_ ?_ | with_reducible refine Mono.agree ?_ ?_ | with_reducible refine Mono.joined ?_ ?_ | with_reducible refine Mono.bind ?_ ?_ | with_reducible refine Mono.loop ?_ | with_reducible refine Mono.prod ?_ | intro _ | (dsimp only))

theorem stores113.l0.mono : ∀ a0_ a1_ a2_, ∀ s, Mono (fun k => stores113.l0 k a0_ a1_ a2_ s) := by
  intro a0_ a1_ a2_
  unfold stores113.l0
  repeat' (first | exact Mono.const _ | with_reducible exact lead150.mono _ | with_reducible exact add116.mono _ _ _ _ _ _ | with_reducible exact wr120.mono _ _ _ | with_reducible refine Mono.cond ?_ ?_ | with_reducible refine Mono.orNil ?_ ?_ | with_reducible refine Mono.agree ?_ ?_ | with_reducible refine Mono.joined ?_ ?_ | with_reducible refine Mono.bind ?_ ?_ | with_reducible refine Mono.loop ?_ | with_reducible refine Mono.prod ?_ | intro _ | (dsimp only))

theorem stores113.mono : ∀ a0_ a1_ a2_ a3_ a4_ a5_, Mono (fun k => stores113 k a0_ a1_ a2_ a3_ a4_ a5_) := by
  intro a0_ a1_ a2_ a3_ a4_ a5_
  unfold stores113
  repeat' (first | exact Mono.const _ | with_reducible exact stores113.l0.mono _ _ _ | with_reducible refine Mono.cond ?_ ?_ | with_reducible refine Mono.orNil ?_ ?_ | with_reducible refine Mono.agree ?_ ?_ | with_reducible refine Mono.joined ?_ ?_ | with_reducible refine Mono.bind ?_ ?_ | with_reducible refine Mono.loop ?_ | with_reducible refine Mono.prod ?_ | intro _ | (dsimp only))

theorem joins114.l0.mono : ∀ a0_ a1_ a2_ a3_, ∀ s, Mono (fun k => joins114.l0 k a0_ a1_ a2_ a3_ s) := by
  intro a0_ a1_ a2_ a3_
  unfold joins114.l0
  repeat' (first | exact Mono.const _ | with_reducible exact two118.mono _ _ _ | with_reducible exact reads149.mono _ _ | with_reducible exact add116.mono _ _ _ _ _ _ | with_reducible refine Mono.cond ?_ ?_ | with_reducible refine Mono.orNil ?_ ?_ | with_reducible refine Mono.agree ?_ ?_ | with_reducible refine Mono.joined ?_ ?_ | with_reducible refine Mono.bind ?_ ?_ | with_reducible refine Mono.loop ?_ | with_reducible refine Mono.prod ?_ | intro _ | (dsimp only))

theorem joins114.mono : ∀ a0_ a1_ a2_ a3_ a4_ a5_ a6_, Mono (fun k => joins114 k a0_ a1_ a2_ a3_ a4_ a5_ a6_) := by
  intro a0_ a1_ a2_ a3_ a4_ a5_ a6_
  unfold joins114
  repeat' (first | exact Mono.const _ | with_reducible exact joins114.l0.mono _ _ _ _ | with_reducible refine Mono.cond ?_ ?_ | with_reducible refine Mono.orNil ?_ ?_ | with_reducible refine Mono.agree ?_ ?_ | with_reducible refine Mono.joined ?_ ?_ | with_reducible refine Mono.bind ?_ ?_ | with_reducible refine Mono.loop ?_ | with_reducible refine Mono.prod ?_ | intro _ | (dsimp only))

theorem turns115.l0.mono : ∀ a0_ a1_ a2_, ∀ s, Mono (fun k => turns115.l0 k a0_ a1_ a2_ s) := by
  intro a0_ a1_ a2_
  unfold turns115.l0
  repeat' (first | exact Mono.const _ | with_reducible exact one119.mono _ _ | with_reducible exact no117.mono _ | with_reducible exact lead150.mono _ | with_reducible exact rd81''.mono _ _ _ | with_reducible exact add116.mono _ _ _ _ _ _ | with_reducible exact wr120.mono _ _ _ | with_reducible refine Mono.cond ?_ ?_ | with_reducible refine Mono.orNil ?_ ?_ | with_reducible refine Mono.agree ?_ ?_ | with_reducible refine Mono.joined ?_ ?_ | with_reducible refine Mono.bind ?_ ?_ | with_reducible refine Mono.loop ?_ | with_reducible refine Mono.prod ?_ | intro _ | (dsimp only))

theorem turns115.mono : ∀ a0_ a1_ a2_ a3_ a4_ a5_, Mono (fun k => turns115 k a0_ a1_ a2_ a3_ a4_ a5_) := by
  intro a0_ a1_ a2_ a3_ a4_ a5_
  unfold turns115
  repeat' (first | exact Mono.const _ | with_reducible exact turns115.l0.mono _ _ _ | with_reducible refine Mono.cond ?_ ?_ | with_reducible refine Mono.orNil ?_ ?_ | with_reducible refine Mono.agree ?_ ?_ | with_reducible refine Mono.joined ?_ ?_ | with_reducible refine Mono.bind ?_ ?_ | with_reducible refine Mono.loop ?_ | with_reducible refine Mono.prod ?_ | intro _ | (dsimp only))

theorem memory78.l0.mono : ∀ s, Mono (fun k => memory78.l0 k s) := by
  unfold memory78.l0
  repeat' (first | exact Mono.const _ | with_reducible exact joins114.mono _ _ _ _ _ _ _ | with_reducible refine Mono.cond ?_ ?_ | with_reducible refine Mono.orNil ?_ ?_ | with_reducible refine Mono.agree ?_ ?_ | with_reducible refine Mono.joined ?_ ?_ | with_reducible refine Mono.bind ?_ ?_ | with_reducible refine Mono.loop ?_ | with_reducible refine Mono.prod ?_ | intro _ | (dsimp only))

theorem memory78.mono : ∀ a0_ a1_ a2_, Mono (fun k => memory78 k a0_ a1_ a2_) := by
  intro a0_ a1_ a2_
  unfold memory78
  repeat' (first | exact Mono.const _ | with_reducible exact loads112.mono _ _ _ _ _ _ | with_reducible exact stores113.mono _ _ _ _ _ _ | with_reducible exact joins114.mono _ _ _ _ _ _ _ | with_reducible exact turns115.mono _ _ _ _ _ _ | with_reducible exact memory78.l0.mono | with_reducible refine Mono.cond ?_ ?_ | with_reducible refine Mono.orNil ?_ ?_ | with_reducible refine Mono.agree ?_ ?_ | with_reducible refine Mono.joined ?_ ?_ | with_reducible refine Mono.bind ?_ ?_ | with_reducible refine Mono.loop ?_ | with_reducible refine Mono.prod ?_ | intro _ | (dsimp only))

theorem alone79.l0.mono : ∀ s, Mono (fun k => alone79.l0 k s) := by
  unfold alone79.l0
  repeat' (first | exact Mono.const _ | with_reducible exact two118.mono _ _ _ | with_reducible exact one119.mono _ _ | with_reducible exact no117.mono _ | with_reducible exact add116.mono _ _ _ _ _ _ | with_reducible refine Mono.cond ?_ ?_ | with_reducible refine Mono.orNil ?_ ?_ | with_reducible refine Mono.agree ?_ ?_ | with_reducible refine Mono.joined ?_ ?_ | with_reducible refine Mono.bind ?_ ?_ | with_reducible refine Mono.loop ?_ | with_reducible refine Mono.prod ?_ | intro _ | (dsimp only))

theorem alone79.mono : ∀ a0_ a1_ a2_, Mono (fun k => alone79 k a0_ a1_ a2_) := by
  intro a0_ a1_ a2_
  unfold alone79
  repeat' (first | exact Mono.const _ | with_reducible exact two118.mono _ _ _ | with_reducible exact one119.mono _ _ | with_reducible exact no117.mono _ | with_reducible exact rd81''.mono _ _ _ | with_reducible exact add116.mono _ _ _ _ _ _ | with_reducible exact wr120.mono _ _ _ | with_reducible exact alone79.l0.mono | with_reducible refine Mono.cond ?_ ?_ | with_reducible refine Mono.orNil ?_ ?_ | with_reducible refine Mono.agree ?_ ?_ | with_reducible refine Mono.joined ?_ ?_ | with_reducible refine Mono.bind ?_ ?_ | with_reducible refine Mono.loop ?_ | with_reducible refine Mono.prod ?_ | intro _ | (dsimp only))

theorem jump82'.mono : ∀ a0_, Mono (fun k => jump82' k a0_) := by
  intro a0_
  unfold jump82'
  repeat' (first | exact Mono.const _ | with_reducible exact two118.mono _ _ _ | with_reducible refine Mono.cond ?_ ?_ | with_reducible refine Mono.orNil ?_ ?_ | with_reducible refine Mono.agree ?_ ?_ | with_reducible refine Mono.joined ?_ ?_ | with_reducible refine Mono.bind ?_ ?_ | with_reducible refine Mono.loop ?_ | with_reducible refine Mono.prod ?_ | intro _ | (dsimp only))

theorem ways80.l0.mono : ∀ s, Mono (fun k => ways80.l0 k s) := by
  unfold ways80.l0
  repeat' (first | exact Mono.const _ | with_reducible exact two118.mono _ _ _ | with_reducible exact no117.mono _ | with_reducible exact rd81''.mono _ _ _ | with_reducible exact add116.mono _ _ _ _ _ _ | with_reducible refine Mono.cond ?_ ?_ | with_reducible refine Mono.orNil ?_ ?_ | with_reducible refine Mono.agree ?_ ?_ | with_reducible refine Mono.joined ?_ ?_ | with_reducible refine Mono.bind ?_ ?_ | with_reducible refine Mono.loop ?_ | with_reducible refine Mono.prod ?_ | intro _ | (dsimp only))

theorem ways80.mono : ∀ a0_ a1_ a2_, Mono (fun k => ways80 k a0_ a1_ a2_) := by
  intro a0_ a1_ a2_
  unfold ways80
  repeat' (first | exact Mono.const _ | with_reducible exact two118.mono _ _ _ | with_reducible exact rd81''.mono _ _ _ | with_reducible exact add116.mono _ _ _ _ _ _ | with_reducible exact wr120.mono _ _ _ | with_reducible exact jump82'.mono _ | with_reducible exact ways80.l0.mono | with_reducible refine Mono.cond ?_ ?_ | with_reducible refine Mono.orNil ?_ ?_ | with_reducible refine Mono.agree ?_ ?_ | with_reducible refine Mono.joined ?_ ?_ | with_reducible refine Mono.bind ?_ ?_ | with_reducible refine Mono.loop ?_ | with_reducible refine Mono.prod ?_ | intro _ | (dsimp only))

theorem answers83.mono : ∀ a0_ a1_, Mono (fun k => answers83 k a0_ a1_) := by
  intro a0_ a1_
  unfold answers83
  repeat' (first | exact Mono.const _ | with_reducible exact two118.mono _ _ _ | with_reducible exact no117.mono _ | with_reducible exact rd81''.mono _ _ _ | with_reducible exact wr120.mono _ _ _ | with_reducible exact jump82'.mono _ | with_reducible refine Mono.cond ?_ ?_ | with_reducible refine Mono.orNil ?_ ?_ | with_reducible refine Mono.agree ?_ ?_ | with_reducible refine Mono.joined ?_ ?_ | with_reducible refine Mono.bind ?_ ?_ | with_reducible refine Mono.loop ?_ | with_reducible refine Mono.prod ?_ | intro _ | (dsimp only))

theorem Cpu39.mono : Mono (fun k => Cpu39 k) := by
  unfold Cpu39
  repeat' (first | exact Mono.const _ | with_reducible exact jump82.mono _ | with_reducible exact rd81''.mono _ _ _ | with_reducible exact memory78.mono _ _ _ | with_reducible exact alone79.mono _ _ _ | with_reducible exact ways80.mono _ _ _ | with_reducible exact answers83.mono _ _ | with_reducible refine Mono.cond ?_ ?_ | with_reducible refine Mono.orNil ?_ ?_ | with_reducible refine Mono.agree ?_ ?_ | with_reducible refine Mono.joined ?_ ?_ | with_reducible refine Mono.bind ?_ ?_ | with_reducible refine Mono.loop ?_ | with_reducible refine Mono.prod ?_ | intro _ | (dsimp only))

end Go.Proofs.YtcppmlgnceldmaaGreat.Fl

/- What an argument of a law reads as, kind by kind. -/
set_option linter.unusedVariables false
noncomputable section
namespace Go.Proofs.YtcppmlgnceldmaaGreat.Gp
open Go Go.ChangeShapes Go.WideShapes Go.RowKit

/-- the input's memory, all of it frozen -/
def memH (W : World) : Hp := fun b => W.heap[b]?

structure Gd (P : Program) (t : TypeId) (k : K) (wf : k.den → Prop) (siz : k.den → Nat) : Prop where
  cells : P.cellsOf t = k.w
  one : k.one = true
  pur : k.pur = true
  val : ∀ {W : World} {r : Reach} {base : Nat} {v : Value}, Value.okWide P W r base t v → v = k.mk v.cells.toList
  read : ∀ {H : Type} {enc : TypeId × Value → H} {W : World} {base : Nat} {spare : Nat → Bool} {held : Bool} {fuel : Nat} {cs : List Value} {x : DataW H × List MemPlace},
    DataW.trod enc P W base spare held fuel t cs = some x → (∀ n ∈ x.1.weights P t, n ≤ reachBytes) → ∃ y, (∀ L, Lv (memH W) L k y cs) ∧ wf y ∧ siz y ≤ Rows.uptoBulk x.1

variable {P : Program}

theorem str_len {s : ByteArray} : s.data.toList.length = s.size := Array.length_toList
theorem gd_int {t : TypeId} {k : IntKind} (hu : P.underlying t = some (.int k)) (hc : P.cellsOf t = 1) : Gd P t (.int k) (fun (y : Int) => (Lit.int k y).wf = true) (fun _ => 1) :=
  ⟨hc, rfl, rfl, fun h => by obtain ⟨n, rfl⟩ := okWide_int hu h; rfl, fun h _ => by
    obtain ⟨n, rfl, rfl, hw⟩ := DataW.trod_int hu h
    exact ⟨n, fun _ => rfl, hw, by simp [Rows.uptoBulk]⟩⟩
theorem gd_str {t : TypeId} (hu : P.underlying t = some .string) (hc : P.cellsOf t = 1) : Gd P t .str (fun (y : ByteArray) => y.size ≤ 140737488351232) (fun (y : ByteArray) => y.size + 1) :=
  ⟨hc, rfl, rfl, fun h => by
    simp only [Value.okWide, hu, Cell.okWide] at h
    rename_i v
    cases v <;> first | rfl | (simp_all [Cell.ok]; done), fun h hw => by
    obtain ⟨s, rfl, rfl, _⟩ := DataW.trod_string hu h
    refine ⟨s, fun _ => rfl, ?_, ?_⟩
    · have := hw s.data.toList.length (by simp [DataW.weights])
      rw [str_len] at this
      exact this
    · simp only [Rows.uptoBulk]
      rw [str_len]
      omega⟩

theorem weights_all {H : Type} {e : TypeId} {n : Nat} : ∀ {l : List (DataW H)} {d : DataW H}, d ∈ l → n ∈ d.weights P e → n ∈ DataW.weightsAll P e l
  | x :: r, d, hd, hn => by
    rw [DataW.weightsAll]
    rcases List.mem_cons.1 hd with rfl | hd
    · exact List.mem_append_left _ hn
    · exact List.mem_append_right _ (weights_all hd hn)
theorem buildL {α : Type} {H : Type} {wf : α → Prop} {siz : α → Nat} : ∀ (es : List (DataW H × List MemPlace)) (p : Nat → α → Prop),
    (∀ i x, es[i]? = some x → ∃ y, p i y ∧ wf y ∧ siz y ≤ Rows.uptoBulk x.1) →
    ∃ ys : List α, ys.length = es.length ∧ (∀ j y, ys[j]? = some y → p j y ∧ wf y) ∧ (ys.map siz).sum ≤ Rows.uptoBulkAll (es.map (·.1))
  | [], _, _ => ⟨[], rfl, fun j y h => by simp at h, by simp⟩
  | x :: r, p, h => by
    obtain ⟨y, hp, hw, hs⟩ := h 0 x rfl
    obtain ⟨ys, hl, hy, hsum⟩ := buildL r (fun i => p (i + 1)) (fun i x hx => h (i + 1) x (by simpa using hx))
    refine ⟨y :: ys, by simp [hl], fun j z hz => ?_, ?_⟩
    · cases j with
      | zero => simp only [List.getElem?_cons_zero, Option.some.injEq] at hz; subst hz; exact ⟨hp, hw⟩
      | succ j => exact hy j z (by simpa using hz)
    · simp only [List.map_cons, List.sum_cons, Rows.uptoBulkAll]
      omega

def sizL {α : Type} (siz : α → Nat) (l : List α) : Nat := (l.map siz).sum + 1
def wfL {α : Type} (B : Nat) (wf : α → Prop) (l : List α) : Prop := l.length * B ≤ 140737488351232 ∧ ∀ y ∈ l, wf y

theorem LvL_mk {α : Type} {R : α → List Value → Prop} {w : Nat} {C : List Value} : ∀ {ys : List α} {o : Nat}, (∀ j y, ys[j]? = some y → ∃ c : List Value, c.length = w ∧ R y c ∧ ∀ i u, c[i]? = some u → C[o + (j * w + i)]? = some u) →
    LvL R ys ((C.drop o).take (ys.length * w))
  | [], o, h => by simp [LvL]
  | y :: ys, o, h => by
    obtain ⟨c, hc, hr, hu⟩ := h 0 y rfl
    have e : (C.drop o).take w = c := by
      apply List.ext_getElem?
      intro i
      rw [cut_get]
      by_cases hi : i < w
      · rw [if_pos hi]
        have hi' : i < c.length := by omega
        have := hu i c[i] (List.getElem?_eq_getElem hi')
        rw [Nat.zero_mul, Nat.zero_add] at this
        rw [this, List.getElem?_eq_getElem hi']
      · rw [if_neg hi, List.getElem?_eq_none (by omega)]
    refine ⟨c, (C.drop (o + w)).take (ys.length * w), ?_, hr, LvL_mk (fun j z hz => ?_)⟩
    · rw [List.length_cons, Nat.add_mul, Nat.one_mul, Nat.add_comm (ys.length * w) w, List.take_add, e, List.drop_drop]
    · obtain ⟨c', h1, h2, h3⟩ := h (j + 1) z hz
      refine ⟨c', h1, h2, fun i u hi => ?_⟩
      have := h3 i u hi
      rw [Nat.add_mul, Nat.one_mul] at this
      rw [show o + w + (j * w + i) = o + (j * w + w + i) by omega]
      exact this

theorem gd_sl {t e : TypeId} {k : K} {wf : k.den → Prop} {siz : k.den → Nat} {B : Nat} (hu : P.underlying t = some (.slice e)) (hc : P.cellsOf t = 1) (hB : P.bytesOf e = B) (hk : 0 < k.w) (r : Gd P e k wf siz) :
    Gd P t (.sl k) (wfL (α := k.den) B wf) (sizL (α := k.den) siz) :=
  ⟨hc, rfl, r.pur, fun h => by obtain ⟨a, len, cap, rfl⟩ := okWide_slice hu h; rfl, fun {H enc W base spare held fuel cs x} h hw => by
    rcases DataW.trod_slice hu h with ⟨rfl, rfl⟩ | ⟨a, len, cap, elems, rest, n, _, rfl, rfl, hb, hl, hm, hlen, hel, _, _⟩
    · exact ⟨([] : List k.den), fun L => ⟨r.pur, none, 0, rfl, Nat.le_refl _, fun hn => absurd rfl hn⟩, ⟨by simp, fun y hy => by simp at hy⟩, by simp [sizL, Rows.uptoBulk]⟩
    · simp only [DataW.weights, hu] at hw
      have hw1 : (elems.length + rest.length) * B ≤ 140737488351232 := by
        have := hw ((elems.length + rest.length) * B) (by simp [hB])
        exact this
      obtain ⟨ys, hyl, hyp, hys⟩ := buildL (wf := wf) (siz := siz) elems (fun i y => ∃ c : List Value, c.length = k.w ∧ (∀ L, Lv (memH W) L k y c) ∧ ∀ j u, c[j]? = some u → W.cell? (a.add (i * k.w + j)) = some u) (fun i z hz => by
        have hi : i < len := by
          have := (List.getElem?_eq_some_iff.1 hz).1
          omega
        have h1 := hel i hi
        rw [hz] at h1
        obtain ⟨c, hc1, hc2⟩ := Option.bind_eq_some_iff.1 h1
        obtain ⟨y, hK, hwf, hsz⟩ := r.read hc2 (fun q hq => hw q (List.mem_cons_of_mem _ (List.mem_append_left _ (weights_all (List.mem_map.2 ⟨z, List.mem_of_getElem? hz, rfl⟩) hq))))
        obtain ⟨_, hcl, hcell⟩ := World.cells?_some hc1
        refine ⟨y, ⟨c, Lv_len (hK default), hK, fun j u hu => ?_⟩, hwf, hsz⟩
        have hj : j < P.cellsOf e := by
          have := (List.getElem?_eq_some_iff.1 hu).1
          omega
        have h3 := hcell j hj
        rw [Go.Deep.add_add, r.cells] at h3
        rw [h3]
        exact hu)
      refine ⟨ys, fun L => ⟨r.pur, some a, cap, by rw [hyl, hlen], by omega, fun hn => ?_⟩, ⟨?_, fun y hy => ?_⟩, ?_⟩
      · have hn : ys.length ≠ 0 := hn
        obtain ⟨y, hy⟩ : ∃ y, ys[0]? = some y := ⟨ys[0]'(by omega), List.getElem?_eq_getElem (by omega)⟩
        obtain ⟨c, c1, c2, c3⟩ := (hyp 0 y hy).1
        obtain ⟨u, hu0⟩ : ∃ u, c[0]? = some u := ⟨c[0]'(by omega), List.getElem?_eq_getElem (by omega)⟩
        have hcell := c3 0 u hu0
        rw [Nat.zero_mul, Nat.zero_add, show a.add 0 = a from rfl] at hcell
        unfold World.cell? at hcell
        split at hcell
        · rename_i C ee zz hblk
          split at hcell
          · cases hcell
          · rename_i hsp
            have hsp : a.spot = none := by cases hs : a.spot with | none => rfl | some q => rw [hs] at hsp; exact absurd rfl hsp
            refine ⟨a.block, a.off, C, ee, zz, by cases a; simp only at hsp; rw [hsp], hblk, LvL_mk (C := C.toList) (fun j y hy => ?_)⟩
            obtain ⟨c, c1, c2, c3⟩ := (hyp j y hy).1
            refine ⟨c, c1, c2 L, fun i u hi => ?_⟩
            have h5 := c3 i u hi
            have hadd : (a.add (j * k.w + i)).block = a.block ∧ (a.add (j * k.w + i)).off = a.off + (j * k.w + i) ∧ (a.add (j * k.w + i)).spot = none := by
              unfold Addr.add
              split
              · rename_i h0; exact ⟨rfl, by omega, hsp⟩
              · exact ⟨rfl, rfl, rfl⟩
            unfold World.cell? at h5
            rw [hadd.1, hblk, hadd.2.1, hadd.2.2] at h5
            rw [Array.getElem?_toList]
            exact h5
        · cases hcell
      · rw [hyl]
        exact Nat.le_trans (Nat.mul_le_mul_right _ (Nat.le_add_right _ _)) hw1
      · obtain ⟨j, hj⟩ := List.mem_iff_getElem?.1 hy
        exact (hyp j y hj).2
      · simp only [sizL, Rows.uptoBulk]
        omega⟩

/-- fields in line, from cell 'off' on -/
structure GdF (P : Program) (off : Nat) (fs : List Field) (k : K) (wf : k.den → Prop) (siz : k.den → Nat) : Prop where
  pur : k.pur = true
  read : ∀ {H : Type} {enc : TypeId × Value → H} {W : World} {base : Nat} {spare : Nat → Bool} {held : Bool} {fuel : Nat} {cs : List Value} {xs : List (DataW H × List MemPlace)},
    cs.length = off + k.w → xs.length = fs.length →
    (∀ (i : Nat) (f : Field), fs[i]? = some f → DataW.trod enc P W base spare held fuel f.type ((cs.drop f.offset).take (P.cellsOf f.type)) = xs[i]?) →
    (∀ n ∈ DataW.weightsEach P (fs.map (·.type)) (xs.map (·.1)), n ≤ reachBytes) →
    ∃ y, (∀ L, Lv (memH W) L k y (cs.drop off)) ∧ wf y ∧ siz y ≤ Rows.uptoBulkAll (xs.map (·.1))

theorem gdf_cons {off : Nat} {f : Field} {fs : List Field} {k k' : K} {wf : k.den → Prop} {wf' : k'.den → Prop} {siz : k.den → Nat} {siz' : k'.den → Nat} (ho : f.offset = off) (r : Gd P f.type k wf siz)
    (rs : GdF P (off + k.w) fs k' wf' siz') : GdF P off (f :: fs) (.pair k k') (fun (y : k.den × k'.den) => wf y.1 ∧ wf' y.2) (fun (y : k.den × k'.den) => siz y.1 + siz' y.2) := by
  refine ⟨by simp only [K.pur, r.pur, rs.pur]; rfl, ?_⟩
  intro H enc W base spare held fuel cs xs hl hxl hx hw
  have hl' : cs.length = off + (k.w + k'.w) := hl
  match xs, hxl with
  | x :: xs, hxl =>
    have h := hx 0 f rfl
    rw [ho, r.cells] at h
    simp only [List.getElem?_cons_zero] at h
    obtain ⟨y, h1, h2, h3⟩ := r.read h (fun n hn => hw n (by simp [DataW.weightsEach, hn]))
    obtain ⟨z, g1, g2, g3⟩ := rs.read (enc := enc) (W := W) (base := base) (spare := spare) (held := held) (fuel := fuel) (cs := cs) (xs := xs) (by omega) (by simpa using hxl)
      (fun i g hg => by simpa using hx (i + 1) g (by simpa using hg)) (fun n hn => hw n (by simp only [List.map_cons, DataW.weightsEach]; exact List.mem_append_right _ hn))
    refine ⟨(y, z), fun L => ⟨(cs.drop off).take k.w, cs.drop (off + k.w), ?_, h1 L, g1 L⟩, ⟨h2, g2⟩, ?_⟩
    · rw [← List.drop_drop]
      exact (List.take_append_drop _ _).symm
    · simp only [List.map_cons, Rows.uptoBulkAll]
      omega
theorem gdf_one {off : Nat} {f : Field} {k : K} {wf : k.den → Prop} {siz : k.den → Nat} (ho : f.offset = off) (r : Gd P f.type k wf siz) : GdF P off [f] k wf siz := by
  refine ⟨r.pur, ?_⟩
  intro H enc W base spare held fuel cs xs hl hxl hx hw
  match xs, hxl with
  | [x], hxl =>
    have h := hx 0 f rfl
    rw [ho, r.cells] at h
    simp only [List.getElem?_cons_zero] at h
    have e : (cs.drop off).take k.w = cs.drop off := List.take_of_length_le (by rw [List.length_drop, hl]; omega)
    rw [e] at h
    obtain ⟨y, h1, h2, h3⟩ := r.read h (fun n hn => hw n (by simp [DataW.weightsEach, hn]))
    refine ⟨y, h1, h2, ?_⟩
    simp only [List.map_cons, List.map_nil, Rows.uptoBulkAll]
    omega
theorem gd_st {t : TypeId} {fs : Array Field} {k : K} {wf : k.den → Prop} {siz : k.den → Nat} (hu : P.underlying t = some (.struct fs)) (hc : P.cellsOf t = k.w) (r : GdF P 0 fs.toList k wf siz) : Gd P t (.st k) wf siz :=
  ⟨hc, rfl, r.pur, fun h => by
    simp only [Value.okWide, hu] at h
    obtain ⟨cs, rfl, _⟩ := h
    rfl, fun h hw => by
    obtain ⟨xs, n, _, rfl, hl, hxl, hx⟩ := DataW.trod_struct hu h
    obtain ⟨y, h1, h2, h3⟩ := r.read (by rw [hl, hc]; omega) (by rw [hxl]; simp) (fun i f hf => hx i f (by simpa using hf)) (fun n hn => hw n (by simp only [DataW.weights, hu]; exact hn))
    refine ⟨y, h1, h2, ?_⟩
    simp only [Rows.uptoBulk]
    omega⟩

/-- an argument -/
theorem Gd.arg {t : TypeId} {k : K} {wf : k.den → Prop} {siz : k.den → Nat} (r : Gd P t k wf siz) {H : Type} {enc : TypeId × Value → H} {W : World} {base : Nat} {spare : Nat → Bool} {held : Bool} {rr : Reach} {b2 : Nat} {v : Value} {x : DataW H} {ps : List MemPlace}
    (hval : Value.okWide P W rr b2 t v) (h : DataW.Trod enc P W base spare held t v x ps) (hw : ∀ n ∈ x.weights P t, n ≤ reachBytes) : ∃ y : k.den, (∀ L, SR (memH W) L ⟨k, y⟩ v) ∧ wf y ∧ siz y ≤ Rows.uptoBulk x := by
  obtain ⟨fuel, hf⟩ := h
  obtain ⟨y, h1, h2, h3⟩ := r.read hf hw
  refine ⟨y, fun L => ?_, h2, h3⟩
  rw [r.val hval]
  exact SR_mk (h1 L)

def noLoc : Ls := fun _ => default
theorem law_calls {fuel : Nat} {f : FuncId} {params : List K} {run : Nat → HL params → HL (List.map (·.toK) ([] : List OK)) → Option (K.bool.den × HL (List.map (·.toK) ([] : List OK)))} (hs : SoundAt P fuel ⟨f, params, [], .bool, [], [], run⟩) {ds : HL params}
    (hr : run fuel ds () = some (true, ())) {args : Array Value} {W : World} (hv : SRs (memH W) noLoc (unpackL params ds) args.toList) : Calls P f args W (fun e W' => e = .returned (.bool true) ∧ Below W.heap.size W W') := by
  have hno : ∀ b, ¬ Own (assoc O.dead (objsFrom 0 ([] : List OK) ())) noLoc b := fun b ⟨i, hi, _⟩ => hi
  refine Calls.mono (hs.2 ds () (true, ()) hr args W (memH W) noLoc hv ⟨fun i => trivial, fun b o h => h, fun i hi => hi.elim, fun i j hi => hi.elim⟩ (fun i hi => by cases hi)) fun e W' hh => ?_
  obtain ⟨v, H', L', rfl, h1, _, _, hp⟩ := hh
  have h1 : SR H' L' ⟨.bool, true⟩ v := h1
  refine ⟨by rw [bool_at h1], hp.fr.os, hp.fr.tape, hp.fr.output, hp.fr.size, fun b hb => hp.fr.same b hb (hno b)⟩
/-- The weights of one argument. -/
theorem weights_at {H : Type} {ts : List TypeId} {ds : List (DataW H)} (hsz : (DataW.weightsEach P ts ds).all (· ≤ reachBytes) = true) (j : Nat) {t : TypeId} {d : DataW H} (ht : ts[j]? = some t) (hd : ds[j]? = some d) :
    ∀ n ∈ d.weights P t, n ≤ reachBytes := fun n hn => by
  have := List.all_eq_true.1 hsz n (DataW.weights_mem_each ht hd n hn)
  simpa using this

end Go.Proofs.YtcppmlgnceldmaaGreat.Gp

/- What an instruction leads to: the law. No program in sight. -/
set_option linter.unusedVariables false
set_option maxRecDepth 100000
noncomputable section
namespace Go.Proofs.YtcppmlgnceldmaaGreat.Fl
open Go Go.Proofs.YtcppmlgnceldmaaGreat.Gp

theorem Ev.one {α : Type} {f : Nat → Option α} {v w : α} (h : Ev f v) (h2 : Ev f w) : v = w := by
  obtain ⟨n, h⟩ := h
  obtain ⟨m, h2⟩ := h2
  have a := h (max n m) (by omega)
  rw [h2 (max n m) (by omega)] at a
  exact (Option.some.inj a).symm
def cpuV : Cpu := match Cpu39 20 with | some v => v.1 | none => (ByteArray.mk #[], [], [], [], [])
def isS {α : Type} (o : Option α) : Bool := match o with | some _ => true | none => false
theorem isS_some {α : Type} {o : Option α} (h : isS o = true) : ∃ v, o = some v := by
  cases o with
  | none => cases h
  | some v => exact ⟨v, rfl⟩
theorem cpu_isS : isS (Cpu39 20) = true := by kernel_rfl
theorem cpu_ev : Ev (fun k => Cpu39 k) (cpuV, ()) := by
  obtain ⟨v, hv⟩ := isS_some cpu_isS
  have e : cpuV = v.1 := by unfold cpuV; rw [hv]
  rw [e]
  exact Mono.ev Cpu39.mono hv
def wcycB (l : List Cyc) : Bool := Nat.ble (l.length * 48) 140737488351232 && l.all (fun y => Nat.ble (y.2.2.2.length * 32) 140737488351232)
def wcB (c : Cpu) : Bool := Nat.ble (c.2.1.length * 56) 140737488351232 && c.2.1.all (fun x => wcycB x.2.2.2) && wcycB c.2.2.1 && wcycB c.2.2.2.1 && wcycB c.2.2.2.2
theorem wcyc_of {l : List Cyc} (h : wcycB l = true) : Wcyc l := by
  unfold wcycB at h
  simp only [Bool.and_eq_true] at h
  exact ⟨Nat.le_of_ble_eq_true h.1, fun y hy => Nat.le_of_ble_eq_true (List.all_eq_true.1 h.2 y hy)⟩
theorem wc_of {c : Cpu} (h : wcB c = true) : Wc c := by
  unfold wcB at h
  simp only [Bool.and_eq_true] at h
  exact ⟨Nat.le_of_ble_eq_true h.1.1.1.1, fun x hx => wcyc_of (List.all_eq_true.1 h.1.1.1.2 x hx), wcyc_of h.1.1.2, wcyc_of h.1.2, wcyc_of h.2⟩
theorem cpu_wcB : wcB cpuV = true := by kernel_rfl
theorem cpu_wc : Wc cpuV := wc_of cpu_wcB
-- instructions by their names
def isN (name : ByteArray) (mode : Int) (x : Ins) : Bool := cond (streq x.2.1 name) (x.2.2.1 == mode) false
theorem nidx_lp {c : Cpu} (hc : Wc c) (name : ByteArray) (mode : Int) : ∀ (suf pre : List Ins), c.2.1 = pre ++ suf → ∃ r, Lp (fun k => IndexFunc42''.l0 k c.2.1) ((name, mode, ()), (pre.length : Int)) r ∧
    (match suf.find? (isN name mode) with | none => r = .inl () | some x => ∃ j : Nat, r = .inr ((j : Int), ()) ∧ c.2.1[j]? = some x) := by
  have hl := hc.len
  intro suf
  induction suf with
  | nil =>
    intro pre h
    rw [List.append_nil] at h
    refine ⟨.inl (), .done ?_, rfl⟩
    simp only [IndexFunc42''.l0]
    exact .no (decide_eq_false (by rw [h]; omega)) (.now _)
  | cons x suf ih =>
    intro pre h
    have hx : c.2.1[pre.length]? = some x := by rw [h]; simp
    have hlt := get_lt hx
    cases hp : isN name mode x with
    | true =>
      refine ⟨.inr ((pre.length : Int), ()), .done ?_, ?_⟩
      · simp only [IndexFunc42''.l0]
        refine .yes (decide_eq_true (by omega)) (.val (rd_some' hx) (.bind (a := (true, ())) (.const ?_) (.yes rfl (.now _))))
        show some (isN name mode x, ()) = _
        rw [hp]
      · rw [List.find?_cons_of_pos (by exact hp)]
        exact ⟨pre.length, rfl, hx⟩
    | false =>
      obtain ⟨r, h1, h2⟩ := ih (pre ++ [x]) (by rw [h]; simp)
      refine ⟨r, .step ?_ h1, ?_⟩
      · simp only [IndexFunc42''.l0]
        refine .yes (decide_eq_true (by omega)) (.val (rd_some' hx) (.bind (a := (false, ())) (.const ?_) (.no rfl (.now' ?_))))
        · show some (isN name mode x, ()) = _
          rw [hp]
        · rw [w64_succ (by omega)]; simp
      · rw [List.find?_cons_of_neg (by rw [hp]; decide)]
        exact h2
def namedR (c : Cpu) (name : ByteArray) (mode : Int) : Ins × Bool × Unit := match c.2.1.find? (isN name mode) with | some x => (x, true, ()) | none => (none4, false, ())
theorem named_ev {c : Cpu} (hc : Wc c) (name : ByteArray) (mode : Int) : Ev (fun k => Named84 k c name mode) (namedR c name mode, ()) := by
  unfold Named84 IndexFunc42''
  obtain ⟨r, h1, h2⟩ := nidx_lp hc name mode c.2.1 [] rfl
  unfold namedR
  cases hf : c.2.1.find? (isN name mode) with
  | none =>
    rw [hf] at h2
    subst h2
    exact .bind (.joinL (S := Unit) h1.ev (.now _)) (.yes rfl (.now _))
  | some x =>
    rw [hf] at h2
    obtain ⟨j, rfl, hj⟩ := h2
    exact .bind (.joinR h1.ev) (.no (decide_eq_false (by show ¬ (j : Int) < 0; omega)) (.val (rd_some' hj) (.bind (copy_ev x (hc.ins x (get_mem hj))) (.now _))))
theorem wrap8 (x : Int) : 0 ≤ IntKind.wrap .u8 x ∧ IntKind.wrap .u8 x < 256 := by
  have e2 : (2 : Int) ^ 8 = 256 := by decide
  simp only [IntKind.wrap, IntKind.signed, IntKind.bits, Bool.false_and, e2]
  constructor
  · simp; omega
  · simp; omega
def nopB : List Int := [IntKind.wrap .u8 (namedR cpuV (ByteArray.mk #[110, 111, 112]) 0).1.1, IntKind.wrap .u8 (namedR cpuV (ByteArray.mk #[106, 109, 112]) 4).1.1, 0, 2]
theorem nop_ev : Ev (fun k => nop40 k) ((512, nopB, []), ()) := by
  unfold nop40
  exact .bind cpu_ev (.bind (named_ev cpu_wc _ _) (.bind cpu_ev (.bind (named_ev cpu_wc _ _) (.now _))))
theorem lit8 {k : Int} (h : (Lit.int .u8 k).wf = true) : 0 ≤ k ∧ k < 256 := by
  simp [Lit.wf, IntKind.min, IntKind.max, IntKind.signed, IntKind.bits] at h
  omega
abbrev WfCpu (c : Cpu) : Prop := (c.1.size ≤ 140737488351232) ∧ wfL (α := Ins) 56 (fun x => (Lit.int .i64 x.1).wf = true ∧ x.2.1.size ≤ 140737488351232 ∧ (Lit.int .i64 x.2.2.1).wf = true ∧ wfL (α := Cyc) 48 (fun y => (Lit.int .i64 y.1).wf = true ∧ (Lit.int .i64 y.2.1).wf = true ∧ (Lit.int .i64 y.2.2.1).wf = true ∧ wfL (α := Stp4) 32 (fun z => (Lit.int .i64 z.1).wf = true ∧ (Lit.int .i64 z.2.1).wf = true ∧ (Lit.int .i64 z.2.2.1).wf = true ∧ (Lit.int .i64 z.2.2.2).wf = true) y.2.2.2) x.2.2.2) c.2.1 ∧
    wfL (α := Cyc) 48 (fun y => (Lit.int .i64 y.1).wf = true ∧ (Lit.int .i64 y.2.1).wf = true ∧ (Lit.int .i64 y.2.2.1).wf = true ∧ wfL (α := Stp4) 32 (fun z => (Lit.int .i64 z.1).wf = true ∧ (Lit.int .i64 z.2.1).wf = true ∧ (Lit.int .i64 z.2.2.1).wf = true ∧ (Lit.int .i64 z.2.2.2).wf = true) y.2.2.2) c.2.2.1 ∧
    wfL (α := Cyc) 48 (fun y => (Lit.int .i64 y.1).wf = true ∧ (Lit.int .i64 y.2.1).wf = true ∧ (Lit.int .i64 y.2.2.1).wf = true ∧ wfL (α := Stp4) 32 (fun z => (Lit.int .i64 z.1).wf = true ∧ (Lit.int .i64 z.2.1).wf = true ∧ (Lit.int .i64 z.2.2.1).wf = true ∧ (Lit.int .i64 z.2.2.2).wf = true) y.2.2.2) c.2.2.2.1 ∧
    wfL (α := Cyc) 48 (fun y => (Lit.int .i64 y.1).wf = true ∧ (Lit.int .i64 y.2.1).wf = true ∧ (Lit.int .i64 y.2.2.1).wf = true ∧ wfL (α := Stp4) 32 (fun z => (Lit.int .i64 z.1).wf = true ∧ (Lit.int .i64 z.2.1).wf = true ∧ (Lit.int .i64 z.2.2.1).wf = true ∧ (Lit.int .i64 z.2.2.2).wf = true) y.2.2.2) c.2.2.2.2
theorem wc_row {c : Cpu} (h : WfCpu c) : Wc c ∧ Wn c := by
  obtain ⟨h1, h2, h3, h4, h5⟩ := h
  exact ⟨⟨h2.1, fun x hx => ⟨(h2.2 x hx).2.2.2.1, fun y hy => ((h2.2 x hx).2.2.2.2 y hy).2.2.2.1⟩, ⟨h3.1, fun y hy => (h3.2 y hy).2.2.2.1⟩, ⟨h4.1, fun y hy => (h4.2 y hy).2.2.2.1⟩, ⟨h5.1, fun y hy => (h5.2 y hy).2.2.2.1⟩⟩, h1, fun x hx => (h2.2 x hx).2.1⟩
def wnB (c : Cpu) : Bool := Nat.ble c.1.size 140737488351232 && c.2.1.all (fun x => Nat.ble x.2.1.size 140737488351232)
theorem wn_of {c : Cpu} (h : wnB c = true) : Wn c := by
  unfold wnB at h
  rw [Bool.and_eq_true, List.all_eq_true] at h
  exact ⟨Nat.le_of_ble_eq_true h.1, fun x hx => Nat.le_of_ble_eq_true (h.2 x hx)⟩
theorem cpu_wn : Wn cpuV := wn_of (by kernel_rfl)
def nopC : Cod := (512, nopB, [])
theorem nop_okd : OkD nopC := by
  refine ⟨by show nopB.length ≤ 65536; decide, ⟨by show (0 : Int) ≤ 512; decide, by show (512 : Int) ≤ 65536 - (nopB.length : Int); have : nopB.length = 4 := rfl; omega⟩, fun x hx => ?_⟩
  have hx : x ∈ nopB := hx
  unfold nopB at hx
  simp only [List.mem_cons, List.not_mem_nil, or_false] at hx
  rcases hx with rfl | rfl | rfl | rfl
  · exact wrap8 _
  · exact wrap8 _
  · decide
  · decide
def isZ (o : Option (Int × Unit)) : Bool := match o with | some v => v.1 == 0 | none => false
theorem cpu_isZ : isZ (FlowFault17 400 cpuV nopC) = true := by kernel_rfl
theorem cpu_okp : OkP cpuV nopC ∧ Ev (fun k => Check20 k cpuV nopC) (0, ()) := by
  obtain ⟨e, h1, h2, h3⟩ := fault_ok cpu_wc cpu_wn nopC
  have : e = 0 := by
    have hz := cpu_isZ
    cases hv : FlowFault17 400 cpuV nopC with
    | none => rw [hv] at hz; cases hz
    | some v =>
      rw [hv] at hz
      have hz : v.1 = 0 := by simpa [isZ] using hz
      have := Ev.one h1 (Mono.ev (FlowFault17.mono _ _) hv)
      rw [← hz, ← this]
  subst this
  exact ⟨h3 rfl, h2⟩
def ledB : Bool := (begunR cpuV nopC 513).2.1 == 0 && sizeV (begunR cpuV nopC 513).1.2.2.1 == 2 && toL (ends1 nopC (begunR cpuV nopC 513).1 513 A0) == [512]
theorem led_true : ledB = true := by kernel_rfl
theorem equal56_ev (l : List Int) (hl : l.length ≤ 100000) : Ev (fun k => Equal56 k l l) (true, ()) := by
  have : Gp.Lp (fun k => Equal56.l0 k l l) (0 : Int) (.inl ()) := by
    refine Lp.fold (body := fun k => Equal56.l0 k l l) l (fun (_ : Unit) i => i) (fun _ _ => ()) (fun _ => .inl ()) (fun _ _ => True) (fun i x b hx _ => ⟨?_, trivial⟩) (fun b _ => ?_) (b := ()) trivial
    · have hi := get_lt hx
      simp only [Equal56.l0]
      refine .yes (decide_eq_true (by omega)) (.val (rd_some' hx) (.val (rd_some' hx) (.no (by simp) (.now' ?_))))
      rw [w64_id (by omega) (by omega)]
    · simp only [Equal56.l0]
      exact .no (by simp) (.now _)
  unfold Equal56
  exact .no (by simp) (.joinL (S := Unit) this.ev (.now _))
theorem led_ev : Ev (fun k => led19 k) (true, ()) := by
  obtain ⟨hp, h0⟩ := cpu_okp
  have hn := next_p cpu_wc hp nop_okd (addr := 513) ⟨by decide, by decide⟩ h0
  have hl := led_true
  unfold ledB at hl
  rw [Bool.and_eq_true, Bool.and_eq_true] at hl
  obtain ⟨⟨l1, l2⟩, l3⟩ := hl
  have l1 : (begunR cpuV nopC 513).2.1 = 0 := by simpa using l1
  have l2 : sizeV (begunR cpuV nopC 513).1.2.2.1 = 2 := by simpa using l2
  have l3 : toL (ends1 nopC (begunR cpuV nopC 513).1 513 A0) = [512] := by simpa using l3
  have e : nextR cpuV nopC 513 = ((3, [512], openL (ends1 nopC (begunR cpuV nopC 513).1 513 A0), callL (backN (begunR cpuV nopC 513).1 513) (ends1 nopC (begunR cpuV nopC 513).1 513 A0)), 0, ()) := by
    unfold nextR wayA
    rw [if_neg (by rw [l1]; decide), l2, l3]
    have : compI (sortI [512]) = [512] := by
      unfold sortI
      rw [List.mergeSort_singleton]
      rfl
    rw [this]
    rfl
  rw [e] at hn
  unfold led19
  exact .bind cpu_ev (.bind nop_ev (.bind hn (.bind (a := true) (.yes rfl (.bind (equal56_ev [512] (by decide)) (.now _))) (.now _))))
theorem same_ev (w : Wy) (hl : w.2.1.length ≤ 100000) : Ev (fun k => sameWay22 k w w) (true, ()) := by
  unfold sameWay22
  refine .bind (a := true) (.yes ?_ (.bind (equal56_ev w.2.1 hl) (.now _))) (.now _)
  cases w.2.2.1 <;> cases w.2.2.2 <;> simp
theorem wayA_len {code : Cod} {x : Ins} (hx : OkI x) (addr : Int) {A : Rg} (hA : Inv A) : (wayA code x addr A).2.1.length ≤ 100000 := by
  obtain ⟨hlen, _⟩ := ends_ok (code := code) hx.cyc (hA.set 7 (pc1 addr))
  have h1 := toL_len (ends1 code x addr A)
  have h2 : (ends1 code x addr A).length ≤ 60 := hlen
  have h3 := sortI_len (toL (ends1 code x addr A))
  show (compI (sortI (toL (ends1 code x addr A)))).length ≤ 100000
  have : (compI (sortI (toL (ends1 code x addr A)))).length ≤ (sortI (toL (ends1 code x addr A))).length := by
    show (Lib.compactUpTo _ _).length ≤ _
    unfold Lib.compactUpTo
    rw [List.length_map]
    exact Nat.le_trans (List.length_filter_le _ _) (by rw [List.length_range]; exact Nat.le_refl _)
  omega
theorem nextR_len {c : Cpu} {code : Cod} (hp : OkP c code) (hd : OkD code) (addr : Int) : (nextR c code addr).1.2.1.length ≤ 100000 := by
  have hbo := begun_ok hp hd (addr := addr)
  unfold nextR
  by_cases h : (begunR c code addr).2.1 ≠ 0
  · rw [if_pos h]; exact Nat.zero_le _
  · rw [if_neg h]
    exact wayA_len (hbo (by omega)).1 addr inv0
theorem law_next (c : Cpu) (code : Cod) (addr : Int) (hc : Wc c) (hn : Wn c) (hb : ∀ x ∈ code.2.1, 0 ≤ x ∧ x < 256) (ha : -9223372036854775808 ≤ addr ∧ addr ≤ 9223372036854775807) : ∃ k, FlowNexts4 k c code addr = some (true, ()) := by
  refine Ev.ex ?_
  obtain ⟨e, h1, h2, h3⟩ := fault_ok hc hn code
  unfold FlowNexts4
  by_cases he : e = 0
  · subst he
    have hp := h3 rfl
    have hd : OkD code := ⟨hp.len, hp.base, hb⟩
    have hl := nextR_len hp hd addr
    have hN := next_p hc hp hd ha h2
    have hR := nextW_r hc hp hd ha
    generalize nextR c code addr = z at hl hN hR
    exact .bind h1 (.bind hN (.bind led_ev (.bind (a := false) (.no rfl (.bind h2 (.now _))) (.no rfl (.bind (a := (z.2.1, z.1, (), z.1)) (.yes rfl (.bind hR (.now _))) (.bind (a := true) (.yes (by simp) (.bind (same_ev z.1 hl) (.now _))) (.now _)))))))
  · have hN := next_bad (addr := addr) he h2
    refine .bind h1 (.bind hN (.bind led_ev (.bind (a := false) (.no rfl (.bind h2 (.now' (by simp)))) (.no rfl (.bind (a := (e, zeroW, (), zeroW)) (.no (beq_false_of_ne he) (.now _)) (.bind (a := true) (.yes (by simp) (.bind (same_ev zeroW (by decide)) (.now _))) (.now _)))))))
theorem flowNexts (c : Cpu) (code : Cod) (addr : Int) (hc : WfCpu c) {p q : Prop} (hcode : p ∧ wfL (α := Int) 1 (fun y => (Lit.int .u8 y).wf = true) code.2.1 ∧ q) (ha : (Lit.int .i64 addr).wf = true) : ∃ k, FlowNexts4 k c code addr = some (true, ()) :=
  law_next c code addr (wc_row hc).1 (wc_row hc).2 (fun x hx => lit8 (hcode.2.1.2 x hx)) (lit_wf ha)
end Go.Proofs.YtcppmlgnceldmaaGreat.Fl

/- The row of FlowNexts: Check and Next return what the reference says for all processors, programs and addresses. The law returns true for every input; the input reads as it did. -/
namespace Go.Proofs.YtcppmlgnceldmaaGreat.flowNexts
open Go.ChangeShapes Go.WideShapes Go.ChangeAt Go.RowKit Go.Proofs.YtcppmlgnceldmaaGreat.Gp Go.Proofs.YtcppmlgnceldmaaGreat.Fl
set_option linter.unusedVariables false
theorem own : ownKnob Tryz.prog.godebug = none := by kernel_rfl
theorem laidOut : laidOutB Tryz.prog = true := by kernel_rfl
abbrev wf9 : ByteArray → Prop := (fun (y : ByteArray) => y.size ≤ 140737488351232)
abbrev siz9 : ByteArray → Nat := (fun (y : ByteArray) => y.size + 1)
theorem gd9 : Gd Tryz.prog 9 .str wf9 siz9 := gd_str Tryz.underlying9 (by kernel_rfl)
abbrev wf3 : Int → Prop := (fun (y : Int) => (Lit.int .i64 y).wf = true)
abbrev siz3 : Int → Nat := (fun _ => 1)
theorem gd3 : Gd Tryz.prog 3 (.int .i64) wf3 siz3 := gd_int Tryz.underlying3 (by kernel_rfl)
abbrev wf133 : (Int × (Int × (Int × Int))) → Prop := (fun (y : (Int × (Int × (Int × Int)))) => wf3 y.1 ∧ (fun (y : (Int × (Int × Int))) => wf3 y.1 ∧ (fun (y : (Int × Int)) => wf3 y.1 ∧ wf3 y.2) y.2) y.2)
abbrev siz133 : (Int × (Int × (Int × Int))) → Nat := (fun (y : (Int × (Int × (Int × Int)))) => siz3 y.1 + (fun (y : (Int × (Int × Int))) => siz3 y.1 + (fun (y : (Int × Int)) => siz3 y.1 + siz3 y.2) y.2) y.2)
theorem gd133 : Gd Tryz.prog 133 (.st (.pair (.int .i64) (.pair (.int .i64) (.pair (.int .i64) (.int .i64))))) wf133 siz133 := gd_st Tryz.underlying133 (by kernel_rfl) (gdf_cons (k := .int .i64) (k' := .pair (.int .i64) (.pair (.int .i64) (.int .i64))) (wf := wf3) (siz := siz3) (wf' := (fun (y : (Int × (Int × Int))) => wf3 y.1 ∧ (fun (y : (Int × Int)) => wf3 y.1 ∧ wf3 y.2) y.2)) (siz' := (fun (y : (Int × (Int × Int))) => siz3 y.1 + (fun (y : (Int × Int)) => siz3 y.1 + siz3 y.2) y.2)) rfl gd3 (gdf_cons (k := .int .i64) (k' := .pair (.int .i64) (.int .i64)) (wf := wf3) (siz := siz3) (wf' := (fun (y : (Int × Int)) => wf3 y.1 ∧ wf3 y.2)) (siz' := (fun (y : (Int × Int)) => siz3 y.1 + siz3 y.2)) rfl gd3 (gdf_cons (k := .int .i64) (k' := .int .i64) (wf := wf3) (siz := siz3) (wf' := wf3) (siz' := siz3) rfl gd3 (gdf_one rfl gd3))))
abbrev wf124 : (List (Int × (Int × (Int × Int)))) → Prop := (wfL (α := (Int × (Int × (Int × Int)))) 32 wf133)
abbrev siz124 : (List (Int × (Int × (Int × Int)))) → Nat := (sizL (α := (Int × (Int × (Int × Int)))) siz133)
theorem gd124 : Gd Tryz.prog 124 (.sl (.st (.pair (.int .i64) (.pair (.int .i64) (.pair (.int .i64) (.int .i64)))))) wf124 siz124 := gd_sl (B := 32) Tryz.underlying124 (by kernel_rfl) (by kernel_rfl) (by decide) gd133
abbrev wf130 : (Int × (Int × (Int × (List (Int × (Int × (Int × Int))))))) → Prop := (fun (y : (Int × (Int × (Int × (List (Int × (Int × (Int × Int)))))))) => wf3 y.1 ∧ (fun (y : (Int × (Int × (List (Int × (Int × (Int × Int))))))) => wf3 y.1 ∧ (fun (y : (Int × (List (Int × (Int × (Int × Int)))))) => wf3 y.1 ∧ wf124 y.2) y.2) y.2)
abbrev siz130 : (Int × (Int × (Int × (List (Int × (Int × (Int × Int))))))) → Nat := (fun (y : (Int × (Int × (Int × (List (Int × (Int × (Int × Int)))))))) => siz3 y.1 + (fun (y : (Int × (Int × (List (Int × (Int × (Int × Int))))))) => siz3 y.1 + (fun (y : (Int × (List (Int × (Int × (Int × Int)))))) => siz3 y.1 + siz124 y.2) y.2) y.2)
theorem gd130 : Gd Tryz.prog 130 (.st (.pair (.int .i64) (.pair (.int .i64) (.pair (.int .i64) (.sl (.st (.pair (.int .i64) (.pair (.int .i64) (.pair (.int .i64) (.int .i64)))))))))) wf130 siz130 := gd_st Tryz.underlying130 (by kernel_rfl) (gdf_cons (k := .int .i64) (k' := .pair (.int .i64) (.pair (.int .i64) (.sl (.st (.pair (.int .i64) (.pair (.int .i64) (.pair (.int .i64) (.int .i64)))))))) (wf := wf3) (siz := siz3) (wf' := (fun (y : (Int × (Int × (List (Int × (Int × (Int × Int))))))) => wf3 y.1 ∧ (fun (y : (Int × (List (Int × (Int × (Int × Int)))))) => wf3 y.1 ∧ wf124 y.2) y.2)) (siz' := (fun (y : (Int × (Int × (List (Int × (Int × (Int × Int))))))) => siz3 y.1 + (fun (y : (Int × (List (Int × (Int × (Int × Int)))))) => siz3 y.1 + siz124 y.2) y.2)) rfl gd3 (gdf_cons (k := .int .i64) (k' := .pair (.int .i64) (.sl (.st (.pair (.int .i64) (.pair (.int .i64) (.pair (.int .i64) (.int .i64))))))) (wf := wf3) (siz := siz3) (wf' := (fun (y : (Int × (List (Int × (Int × (Int × Int)))))) => wf3 y.1 ∧ wf124 y.2)) (siz' := (fun (y : (Int × (List (Int × (Int × (Int × Int)))))) => siz3 y.1 + siz124 y.2)) rfl gd3 (gdf_cons (k := .int .i64) (k' := .sl (.st (.pair (.int .i64) (.pair (.int .i64) (.pair (.int .i64) (.int .i64)))))) (wf := wf3) (siz := siz3) (wf' := wf124) (siz' := siz124) rfl gd3 (gdf_one rfl gd124))))
abbrev wf23 : (List (Int × (Int × (Int × (List (Int × (Int × (Int × Int)))))))) → Prop := (wfL (α := (Int × (Int × (Int × (List (Int × (Int × (Int × Int)))))))) 48 wf130)
abbrev siz23 : (List (Int × (Int × (Int × (List (Int × (Int × (Int × Int)))))))) → Nat := (sizL (α := (Int × (Int × (Int × (List (Int × (Int × (Int × Int)))))))) siz130)
theorem gd23 : Gd Tryz.prog 23 (.sl (.st (.pair (.int .i64) (.pair (.int .i64) (.pair (.int .i64) (.sl (.st (.pair (.int .i64) (.pair (.int .i64) (.pair (.int .i64) (.int .i64))))))))))) wf23 siz23 := gd_sl (B := 48) Tryz.underlying23 (by kernel_rfl) (by kernel_rfl) (by decide) gd130
abbrev wf38 : (Int × (ByteArray × (Int × (List (Int × (Int × (Int × (List (Int × (Int × (Int × Int))))))))))) → Prop := (fun (y : (Int × (ByteArray × (Int × (List (Int × (Int × (Int × (List (Int × (Int × (Int × Int)))))))))))) => wf3 y.1 ∧ (fun (y : (ByteArray × (Int × (List (Int × (Int × (Int × (List (Int × (Int × (Int × Int))))))))))) => wf9 y.1 ∧ (fun (y : (Int × (List (Int × (Int × (Int × (List (Int × (Int × (Int × Int)))))))))) => wf3 y.1 ∧ wf23 y.2) y.2) y.2)
abbrev siz38 : (Int × (ByteArray × (Int × (List (Int × (Int × (Int × (List (Int × (Int × (Int × Int))))))))))) → Nat := (fun (y : (Int × (ByteArray × (Int × (List (Int × (Int × (Int × (List (Int × (Int × (Int × Int)))))))))))) => siz3 y.1 + (fun (y : (ByteArray × (Int × (List (Int × (Int × (Int × (List (Int × (Int × (Int × Int))))))))))) => siz9 y.1 + (fun (y : (Int × (List (Int × (Int × (Int × (List (Int × (Int × (Int × Int)))))))))) => siz3 y.1 + siz23 y.2) y.2) y.2)
theorem gd38 : Gd Tryz.prog 38 (.st (.pair (.int .i64) (.pair .str (.pair (.int .i64) (.sl (.st (.pair (.int .i64) (.pair (.int .i64) (.pair (.int .i64) (.sl (.st (.pair (.int .i64) (.pair (.int .i64) (.pair (.int .i64) (.int .i64))))))))))))))) wf38 siz38 := gd_st Tryz.underlying38 (by kernel_rfl) (gdf_cons (k := .int .i64) (k' := .pair .str (.pair (.int .i64) (.sl (.st (.pair (.int .i64) (.pair (.int .i64) (.pair (.int .i64) (.sl (.st (.pair (.int .i64) (.pair (.int .i64) (.pair (.int .i64) (.int .i64))))))))))))) (wf := wf3) (siz := siz3) (wf' := (fun (y : (ByteArray × (Int × (List (Int × (Int × (Int × (List (Int × (Int × (Int × Int))))))))))) => wf9 y.1 ∧ (fun (y : (Int × (List (Int × (Int × (Int × (List (Int × (Int × (Int × Int)))))))))) => wf3 y.1 ∧ wf23 y.2) y.2)) (siz' := (fun (y : (ByteArray × (Int × (List (Int × (Int × (Int × (List (Int × (Int × (Int × Int))))))))))) => siz9 y.1 + (fun (y : (Int × (List (Int × (Int × (Int × (List (Int × (Int × (Int × Int)))))))))) => siz3 y.1 + siz23 y.2) y.2)) rfl gd3 (gdf_cons (k := .str) (k' := .pair (.int .i64) (.sl (.st (.pair (.int .i64) (.pair (.int .i64) (.pair (.int .i64) (.sl (.st (.pair (.int .i64) (.pair (.int .i64) (.pair (.int .i64) (.int .i64)))))))))))) (wf := wf9) (siz := siz9) (wf' := (fun (y : (Int × (List (Int × (Int × (Int × (List (Int × (Int × (Int × Int)))))))))) => wf3 y.1 ∧ wf23 y.2)) (siz' := (fun (y : (Int × (List (Int × (Int × (Int × (List (Int × (Int × (Int × Int)))))))))) => siz3 y.1 + siz23 y.2)) rfl gd9 (gdf_cons (k := .int .i64) (k' := .sl (.st (.pair (.int .i64) (.pair (.int .i64) (.pair (.int .i64) (.sl (.st (.pair (.int .i64) (.pair (.int .i64) (.pair (.int .i64) (.int .i64))))))))))) (wf := wf3) (siz := siz3) (wf' := wf23) (siz' := siz23) rfl gd3 (gdf_one rfl gd23))))
abbrev wf22 : (List (Int × (ByteArray × (Int × (List (Int × (Int × (Int × (List (Int × (Int × (Int × Int)))))))))))) → Prop := (wfL (α := (Int × (ByteArray × (Int × (List (Int × (Int × (Int × (List (Int × (Int × (Int × Int)))))))))))) 56 wf38)
abbrev siz22 : (List (Int × (ByteArray × (Int × (List (Int × (Int × (Int × (List (Int × (Int × (Int × Int)))))))))))) → Nat := (sizL (α := (Int × (ByteArray × (Int × (List (Int × (Int × (Int × (List (Int × (Int × (Int × Int)))))))))))) siz38)
theorem gd22 : Gd Tryz.prog 22 (.sl (.st (.pair (.int .i64) (.pair .str (.pair (.int .i64) (.sl (.st (.pair (.int .i64) (.pair (.int .i64) (.pair (.int .i64) (.sl (.st (.pair (.int .i64) (.pair (.int .i64) (.pair (.int .i64) (.int .i64)))))))))))))))) wf22 siz22 := gd_sl (B := 56) Tryz.underlying22 (by kernel_rfl) (by kernel_rfl) (by decide) gd38
abbrev wf25 : (ByteArray × ((List (Int × (ByteArray × (Int × (List (Int × (Int × (Int × (List (Int × (Int × (Int × Int)))))))))))) × ((List (Int × (Int × (Int × (List (Int × (Int × (Int × Int)))))))) × ((List (Int × (Int × (Int × (List (Int × (Int × (Int × Int)))))))) × (List (Int × (Int × (Int × (List (Int × (Int × (Int × Int)))))))))))) → Prop := (fun (y : (ByteArray × ((List (Int × (ByteArray × (Int × (List (Int × (Int × (Int × (List (Int × (Int × (Int × Int)))))))))))) × ((List (Int × (Int × (Int × (List (Int × (Int × (Int × Int)))))))) × ((List (Int × (Int × (Int × (List (Int × (Int × (Int × Int)))))))) × (List (Int × (Int × (Int × (List (Int × (Int × (Int × Int))))))))))))) => wf9 y.1 ∧ (fun (y : ((List (Int × (ByteArray × (Int × (List (Int × (Int × (Int × (List (Int × (Int × (Int × Int)))))))))))) × ((List (Int × (Int × (Int × (List (Int × (Int × (Int × Int)))))))) × ((List (Int × (Int × (Int × (List (Int × (Int × (Int × Int)))))))) × (List (Int × (Int × (Int × (List (Int × (Int × (Int × Int)))))))))))) => wf22 y.1 ∧ (fun (y : ((List (Int × (Int × (Int × (List (Int × (Int × (Int × Int)))))))) × ((List (Int × (Int × (Int × (List (Int × (Int × (Int × Int)))))))) × (List (Int × (Int × (Int × (List (Int × (Int × (Int × Int))))))))))) => wf23 y.1 ∧ (fun (y : ((List (Int × (Int × (Int × (List (Int × (Int × (Int × Int)))))))) × (List (Int × (Int × (Int × (List (Int × (Int × (Int × Int)))))))))) => wf23 y.1 ∧ wf23 y.2) y.2) y.2) y.2)
abbrev siz25 : (ByteArray × ((List (Int × (ByteArray × (Int × (List (Int × (Int × (Int × (List (Int × (Int × (Int × Int)))))))))))) × ((List (Int × (Int × (Int × (List (Int × (Int × (Int × Int)))))))) × ((List (Int × (Int × (Int × (List (Int × (Int × (Int × Int)))))))) × (List (Int × (Int × (Int × (List (Int × (Int × (Int × Int)))))))))))) → Nat := (fun (y : (ByteArray × ((List (Int × (ByteArray × (Int × (List (Int × (Int × (Int × (List (Int × (Int × (Int × Int)))))))))))) × ((List (Int × (Int × (Int × (List (Int × (Int × (Int × Int)))))))) × ((List (Int × (Int × (Int × (List (Int × (Int × (Int × Int)))))))) × (List (Int × (Int × (Int × (List (Int × (Int × (Int × Int))))))))))))) => siz9 y.1 + (fun (y : ((List (Int × (ByteArray × (Int × (List (Int × (Int × (Int × (List (Int × (Int × (Int × Int)))))))))))) × ((List (Int × (Int × (Int × (List (Int × (Int × (Int × Int)))))))) × ((List (Int × (Int × (Int × (List (Int × (Int × (Int × Int)))))))) × (List (Int × (Int × (Int × (List (Int × (Int × (Int × Int)))))))))))) => siz22 y.1 + (fun (y : ((List (Int × (Int × (Int × (List (Int × (Int × (Int × Int)))))))) × ((List (Int × (Int × (Int × (List (Int × (Int × (Int × Int)))))))) × (List (Int × (Int × (Int × (List (Int × (Int × (Int × Int))))))))))) => siz23 y.1 + (fun (y : ((List (Int × (Int × (Int × (List (Int × (Int × (Int × Int)))))))) × (List (Int × (Int × (Int × (List (Int × (Int × (Int × Int)))))))))) => siz23 y.1 + siz23 y.2) y.2) y.2) y.2)
theorem gd25 : Gd Tryz.prog 25 (.st (.pair .str (.pair (.sl (.st (.pair (.int .i64) (.pair .str (.pair (.int .i64) (.sl (.st (.pair (.int .i64) (.pair (.int .i64) (.pair (.int .i64) (.sl (.st (.pair (.int .i64) (.pair (.int .i64) (.pair (.int .i64) (.int .i64)))))))))))))))) (.pair (.sl (.st (.pair (.int .i64) (.pair (.int .i64) (.pair (.int .i64) (.sl (.st (.pair (.int .i64) (.pair (.int .i64) (.pair (.int .i64) (.int .i64))))))))))) (.pair (.sl (.st (.pair (.int .i64) (.pair (.int .i64) (.pair (.int .i64) (.sl (.st (.pair (.int .i64) (.pair (.int .i64) (.pair (.int .i64) (.int .i64))))))))))) (.sl (.st (.pair (.int .i64) (.pair (.int .i64) (.pair (.int .i64) (.sl (.st (.pair (.int .i64) (.pair (.int .i64) (.pair (.int .i64) (.int .i64)))))))))))))))) wf25 siz25 := gd_st Tryz.underlying25 (by kernel_rfl) (gdf_cons (k := .str) (k' := .pair (.sl (.st (.pair (.int .i64) (.pair .str (.pair (.int .i64) (.sl (.st (.pair (.int .i64) (.pair (.int .i64) (.pair (.int .i64) (.sl (.st (.pair (.int .i64) (.pair (.int .i64) (.pair (.int .i64) (.int .i64)))))))))))))))) (.pair (.sl (.st (.pair (.int .i64) (.pair (.int .i64) (.pair (.int .i64) (.sl (.st (.pair (.int .i64) (.pair (.int .i64) (.pair (.int .i64) (.int .i64))))))))))) (.pair (.sl (.st (.pair (.int .i64) (.pair (.int .i64) (.pair (.int .i64) (.sl (.st (.pair (.int .i64) (.pair (.int .i64) (.pair (.int .i64) (.int .i64))))))))))) (.sl (.st (.pair (.int .i64) (.pair (.int .i64) (.pair (.int .i64) (.sl (.st (.pair (.int .i64) (.pair (.int .i64) (.pair (.int .i64) (.int .i64)))))))))))))) (wf := wf9) (siz := siz9) (wf' := (fun (y : ((List (Int × (ByteArray × (Int × (List (Int × (Int × (Int × (List (Int × (Int × (Int × Int)))))))))))) × ((List (Int × (Int × (Int × (List (Int × (Int × (Int × Int)))))))) × ((List (Int × (Int × (Int × (List (Int × (Int × (Int × Int)))))))) × (List (Int × (Int × (Int × (List (Int × (Int × (Int × Int)))))))))))) => wf22 y.1 ∧ (fun (y : ((List (Int × (Int × (Int × (List (Int × (Int × (Int × Int)))))))) × ((List (Int × (Int × (Int × (List (Int × (Int × (Int × Int)))))))) × (List (Int × (Int × (Int × (List (Int × (Int × (Int × Int))))))))))) => wf23 y.1 ∧ (fun (y : ((List (Int × (Int × (Int × (List (Int × (Int × (Int × Int)))))))) × (List (Int × (Int × (Int × (List (Int × (Int × (Int × Int)))))))))) => wf23 y.1 ∧ wf23 y.2) y.2) y.2)) (siz' := (fun (y : ((List (Int × (ByteArray × (Int × (List (Int × (Int × (Int × (List (Int × (Int × (Int × Int)))))))))))) × ((List (Int × (Int × (Int × (List (Int × (Int × (Int × Int)))))))) × ((List (Int × (Int × (Int × (List (Int × (Int × (Int × Int)))))))) × (List (Int × (Int × (Int × (List (Int × (Int × (Int × Int)))))))))))) => siz22 y.1 + (fun (y : ((List (Int × (Int × (Int × (List (Int × (Int × (Int × Int)))))))) × ((List (Int × (Int × (Int × (List (Int × (Int × (Int × Int)))))))) × (List (Int × (Int × (Int × (List (Int × (Int × (Int × Int))))))))))) => siz23 y.1 + (fun (y : ((List (Int × (Int × (Int × (List (Int × (Int × (Int × Int)))))))) × (List (Int × (Int × (Int × (List (Int × (Int × (Int × Int)))))))))) => siz23 y.1 + siz23 y.2) y.2) y.2)) rfl gd9 (gdf_cons (k := .sl (.st (.pair (.int .i64) (.pair .str (.pair (.int .i64) (.sl (.st (.pair (.int .i64) (.pair (.int .i64) (.pair (.int .i64) (.sl (.st (.pair (.int .i64) (.pair (.int .i64) (.pair (.int .i64) (.int .i64)))))))))))))))) (k' := .pair (.sl (.st (.pair (.int .i64) (.pair (.int .i64) (.pair (.int .i64) (.sl (.st (.pair (.int .i64) (.pair (.int .i64) (.pair (.int .i64) (.int .i64))))))))))) (.pair (.sl (.st (.pair (.int .i64) (.pair (.int .i64) (.pair (.int .i64) (.sl (.st (.pair (.int .i64) (.pair (.int .i64) (.pair (.int .i64) (.int .i64))))))))))) (.sl (.st (.pair (.int .i64) (.pair (.int .i64) (.pair (.int .i64) (.sl (.st (.pair (.int .i64) (.pair (.int .i64) (.pair (.int .i64) (.int .i64))))))))))))) (wf := wf22) (siz := siz22) (wf' := (fun (y : ((List (Int × (Int × (Int × (List (Int × (Int × (Int × Int)))))))) × ((List (Int × (Int × (Int × (List (Int × (Int × (Int × Int)))))))) × (List (Int × (Int × (Int × (List (Int × (Int × (Int × Int))))))))))) => wf23 y.1 ∧ (fun (y : ((List (Int × (Int × (Int × (List (Int × (Int × (Int × Int)))))))) × (List (Int × (Int × (Int × (List (Int × (Int × (Int × Int)))))))))) => wf23 y.1 ∧ wf23 y.2) y.2)) (siz' := (fun (y : ((List (Int × (Int × (Int × (List (Int × (Int × (Int × Int)))))))) × ((List (Int × (Int × (Int × (List (Int × (Int × (Int × Int)))))))) × (List (Int × (Int × (Int × (List (Int × (Int × (Int × Int))))))))))) => siz23 y.1 + (fun (y : ((List (Int × (Int × (Int × (List (Int × (Int × (Int × Int)))))))) × (List (Int × (Int × (Int × (List (Int × (Int × (Int × Int)))))))))) => siz23 y.1 + siz23 y.2) y.2)) rfl gd22 (gdf_cons (k := .sl (.st (.pair (.int .i64) (.pair (.int .i64) (.pair (.int .i64) (.sl (.st (.pair (.int .i64) (.pair (.int .i64) (.pair (.int .i64) (.int .i64))))))))))) (k' := .pair (.sl (.st (.pair (.int .i64) (.pair (.int .i64) (.pair (.int .i64) (.sl (.st (.pair (.int .i64) (.pair (.int .i64) (.pair (.int .i64) (.int .i64))))))))))) (.sl (.st (.pair (.int .i64) (.pair (.int .i64) (.pair (.int .i64) (.sl (.st (.pair (.int .i64) (.pair (.int .i64) (.pair (.int .i64) (.int .i64)))))))))))) (wf := wf23) (siz := siz23) (wf' := (fun (y : ((List (Int × (Int × (Int × (List (Int × (Int × (Int × Int)))))))) × (List (Int × (Int × (Int × (List (Int × (Int × (Int × Int)))))))))) => wf23 y.1 ∧ wf23 y.2)) (siz' := (fun (y : ((List (Int × (Int × (Int × (List (Int × (Int × (Int × Int)))))))) × (List (Int × (Int × (Int × (List (Int × (Int × (Int × Int)))))))))) => siz23 y.1 + siz23 y.2)) rfl gd23 (gdf_cons (k := .sl (.st (.pair (.int .i64) (.pair (.int .i64) (.pair (.int .i64) (.sl (.st (.pair (.int .i64) (.pair (.int .i64) (.pair (.int .i64) (.int .i64))))))))))) (k' := .sl (.st (.pair (.int .i64) (.pair (.int .i64) (.pair (.int .i64) (.sl (.st (.pair (.int .i64) (.pair (.int .i64) (.pair (.int .i64) (.int .i64))))))))))) (wf := wf23) (siz := siz23) (wf' := wf23) (siz' := siz23) rfl gd23 (gdf_one rfl gd23)))))
abbrev wf5 : Int → Prop := (fun (y : Int) => (Lit.int .u8 y).wf = true)
abbrev siz5 : Int → Nat := (fun _ => 1)
theorem gd5 : Gd Tryz.prog 5 (.int .u8) wf5 siz5 := gd_int Tryz.underlying5 (by kernel_rfl)
abbrev wf26 : (List Int) → Prop := (wfL (α := Int) 1 wf5)
abbrev siz26 : (List Int) → Nat := (sizL (α := Int) siz5)
theorem gd26 : Gd Tryz.prog 26 (.sl (.int .u8)) wf26 siz26 := gd_sl (B := 1) Tryz.underlying26 (by kernel_rfl) (by kernel_rfl) (by decide) gd5
abbrev wf265 : (ByteArray × Int) → Prop := (fun (y : (ByteArray × Int)) => wf9 y.1 ∧ wf3 y.2)
abbrev siz265 : (ByteArray × Int) → Nat := (fun (y : (ByteArray × Int)) => siz9 y.1 + siz3 y.2)
theorem gd265 : Gd Tryz.prog 265 (.st (.pair .str (.int .i64))) wf265 siz265 := gd_st Tryz.underlying265 (by kernel_rfl) (gdf_cons (k := .str) (k' := .int .i64) (wf := wf9) (siz := siz9) (wf' := wf3) (siz' := siz3) rfl gd9 (gdf_one rfl gd3))
abbrev wf50 : (List (ByteArray × Int)) → Prop := (wfL (α := (ByteArray × Int)) 24 wf265)
abbrev siz50 : (List (ByteArray × Int)) → Nat := (sizL (α := (ByteArray × Int)) siz265)
theorem gd50 : Gd Tryz.prog 50 (.sl (.st (.pair .str (.int .i64)))) wf50 siz50 := gd_sl (B := 24) Tryz.underlying50 (by kernel_rfl) (by kernel_rfl) (by decide) gd265
abbrev wf52 : (Int × ((List Int) × (List (ByteArray × Int)))) → Prop := (fun (y : (Int × ((List Int) × (List (ByteArray × Int))))) => wf3 y.1 ∧ (fun (y : ((List Int) × (List (ByteArray × Int)))) => wf26 y.1 ∧ wf50 y.2) y.2)
abbrev siz52 : (Int × ((List Int) × (List (ByteArray × Int)))) → Nat := (fun (y : (Int × ((List Int) × (List (ByteArray × Int))))) => siz3 y.1 + (fun (y : ((List Int) × (List (ByteArray × Int)))) => siz26 y.1 + siz50 y.2) y.2)
theorem gd52 : Gd Tryz.prog 52 (.st (.pair (.int .i64) (.pair (.sl (.int .u8)) (.sl (.st (.pair .str (.int .i64))))))) wf52 siz52 := gd_st Tryz.underlying52 (by kernel_rfl) (gdf_cons (k := .int .i64) (k' := .pair (.sl (.int .u8)) (.sl (.st (.pair .str (.int .i64))))) (wf := wf3) (siz := siz3) (wf' := (fun (y : ((List Int) × (List (ByteArray × Int)))) => wf26 y.1 ∧ wf50 y.2)) (siz' := (fun (y : ((List Int) × (List (ByteArray × Int)))) => siz26 y.1 + siz50 y.2)) rfl gd3 (gdf_cons (k := .sl (.int .u8)) (k' := .sl (.st (.pair .str (.int .i64)))) (wf := wf26) (siz := siz26) (wf' := wf50) (siz' := siz50) rfl gd26 (gdf_one rfl gd50)))
set_option maxRecDepth 100000 in
set_option maxHeartbeats 1000000 in
theorem lifted (os : Os) (started : os.Started) (H : Type) (enc : TypeId × Value → H) :
    ReturnsInHanded {} Tryz.checked os 4 .any (Rows.flowNextsSpec.pre6 enc Tryz.prog Tryz.f4 Rows.flowNextsRow.domain false) (Rows.flowNextsSpec.post enc Tryz.prog Tryz.f4 false true false false) := by
  refine returnsInHanded_of_change_sized (C := Tryz.checked) own started (by kernel_rfl) Tryz.func4
    (ChangeSpec.witness6 (enc := enc) (C := Tryz.checked) false ⟨#[], #[.agg #[.string ByteArray.empty, .slice none 0 0, .slice none 0 0, .slice none 0 0, .slice none 0 0], .agg #[.int .i64 0, .slice none 0 0, .slice none 0 0], .int .i64 0], []⟩ 8 (by kernel_rfl) (by kernel_rfl) (by kernel_rfl) (by kernel_rfl)) ?_
  intro W base args ds gs before hval0 hW hcnd hsz0 _
  have hsz : (DataW.weightsEach Tryz.prog (Tryz.f4.params.toList ++ Rows.flowNextsSpec.plain.varTypes Tryz.prog) (ds ++ gs)).all (· ≤ reachBytes) = true := hsz0
  have hval : ∀ (j : Nat) t v, Tryz.f4.params[j]? = some t → args[j]? = some v → Value.okWide Tryz.prog W .any base t v := hval0
  have hW' := hW
  obtain ⟨p, q, hA0, hV, rfl, hfz, hnd⟩ := hW
  have hA : DataW.TrodAll enc Tryz.prog W 0 (fun _ => true) true Tryz.f4.params.toList args.toList ds p := hA0
  rw [Tryz.params4] at hA hval hsz
  obtain ⟨v0, vs0, d0, ds0, p0, q0, hargs, rfl, rfl, h0, r0⟩ := trodAll_cons hA
  obtain ⟨v1, vs1, d1, ds1, p1, q1, rfl, rfl, rfl, h1, r1⟩ := trodAll_cons r0
  obtain ⟨v2, vs2, d2, ds2, p2, q2, rfl, rfl, rfl, h2, r2⟩ := trodAll_cons r1
  obtain ⟨rfl, rfl, rfl⟩ := trodAll_nil r2
  obtain rfl : args = #[v0, v1, v2] := by cases args; simp_all
  obtain ⟨rfl, rfl⟩ := trodVars_none hV
  have lt0 : ∀ x ∈ p0, x.block < W.heap.size := by obtain ⟨m, hm⟩ := h0; exact DataW.trod_lt m _ _ _ hm
  have wt0 := weights_at hsz 0 (t := 25) rfl rfl
  obtain ⟨a0, s0, wf0_, up0_⟩ := gd25.arg (hval 0 25 v0 rfl rfl) h0 wt0
  have lt1 : ∀ x ∈ p1, x.block < W.heap.size := by obtain ⟨m, hm⟩ := h1; exact DataW.trod_lt m _ _ _ hm
  have wt1 := weights_at hsz 1 (t := 52) rfl rfl
  obtain ⟨a1, s1, wf1_, up1_⟩ := gd52.arg (hval 1 52 v1 rfl rfl) h1 wt1
  have lt2 : ∀ x ∈ p2, x.block < W.heap.size := by obtain ⟨m, hm⟩ := h2; exact DataW.trod_lt m _ _ _ hm
  have wt2 := weights_at hsz 2 (t := 3) rfl rfl
  obtain ⟨a2, s2, wf2_, up2_⟩ := gd3.arg (hval 2 3 v2 rfl rfl) h2 wt2
  clear hA0 hval0 hsz0 hsz
  obtain ⟨k, h⟩ := Fl.flowNexts a0 a1 a2 wf0_ wf1_ wf2_
  refine (law_calls (FlowNexts4.ok k) (ds := (a0, a1, a2)) h (args := #[v0, v1, v2]) (W := W) (.cons (s0 _) (.cons (s1 _) (.cons (s2 _) (.nil))))).mono fun e W' ⟨he, bel0⟩ => ?_
  have bel : Below W.heap.size W W' := bel0
  subst he
  exact ⟨_, rfl, _, _, _, [], _, [], hW', trodAll_mk1 (shut_bool Tryz.underlying4 _), (trodAll_cons_mk (Below.trod laidOut (by kernel_rfl) (of_decide_eq_true (by kernel_rfl)) h0 bel lt0) (trodAll_cons_mk (Below.trod laidOut (by kernel_rfl) (of_decide_eq_true (by kernel_rfl)) h1 bel lt1) (trodAll_cons_mk (Below.trod laidOut (by kernel_rfl) (of_decide_eq_true (by kernel_rfl)) h2 bel lt2) (trodAll_mk0)))), rfl, bel.frame _, fun h => by cases h⟩
theorem over : Rows.flowNextsRow.holds Tryz.pinned (OpenSpec.ofChange Rows.flowNextsSpec) :=
  OpenClaim.holds_of_wide 4 Tryz.f4 rfl rfl rfl rfl rfl rfl rfl ⟨rfl, rfl, rfl, rfl, rfl⟩ rfl rfl rfl rfl rfl (by kernel_rfl) Tryz.func4 (by kernel_rfl)
    (of_decide_eq_true (by kernel_rfl)) (by unfold Func.isWrapper; first | (rw [if_pos (by decide +kernel)]; kernel_rfl) | (rw [if_neg (by decide +kernel)]; exact ⟨rfl, rfl⟩))
    (fun os started H enc _ => lifted os started H enc)
theorem proved : Rows.FlowNextsSaid := over
#print axioms proved
end Go.Proofs.YtcppmlgnceldmaaGreat.flowNexts
namespace Go.Proofs.YtcppmlgnceldmaaGreat
theorem flowNexts_holds : Rows.FlowNextsSaid := flowNexts.proved
end Go.Proofs.YtcppmlgnceldmaaGreat
