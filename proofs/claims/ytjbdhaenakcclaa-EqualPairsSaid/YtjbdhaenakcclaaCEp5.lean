/- Merged texts of one claim: a Go law, its functions without memory, and the plain law. The law returns true for every input; conditions: as the row says. -/
import Derived.KernelRfl
import Derived.Test.YtjbdhaenakcclaaRows
import Derived.WalkKit
import Derived.ProofKit
import Derived.OpenShut
import Derived.ShutString
import Derived.ChangeOld
import Derived.Below
import Derived.SizedLaws
import Derived.Test.YtjbdhaenakcclaaCEp0
import Derived.Test.YtjbdhaenakcclaaCEp1
import Derived.Test.YtjbdhaenakcclaaCEp2
import Derived.Test.YtjbdhaenakcclaaCEp3
import Derived.Test.YtjbdhaenakcclaaCEp4
/- Shortest words that tell two circuits apart: the reference's pairs and distances. No program in sight. -/
set_option linter.unusedVariables false
set_option maxRecDepth 100000
noncomputable section
namespace Go.Proofs.Ytjbdhaenakcclaa.St
open Go Go.Proofs.Ytjbdhaenakcclaa.Gp

abbrev pK : K := .st (.pair (.int .i64) (.int .i64))
abbrev BMap := List (Pr × Bool)
abbrev FMap := List (Pr × Int)
def bAt (P : List Pr) (q : Pr) : Option Bool := if q ∈ P then some true else none
structure Seen (P : List Pr) (m : BMap) : Prop where
  get : ∀ q : Pr, mget pK .bool m q = bAt P q
theorem Seen.add {P : List Pr} {m : BMap} (h : Seen P m) (q : Pr) : Seen (P ++ [q]) (mput pK .bool m q true) := ⟨fun x => by
  by_cases hx : x = q
  · subst hx
    have e : bAt (P ++ [x]) x = some true := if_pos (by simp)
    exact (mget_self (kk := pK) (kv := .bool) rfl).trans e.symm
  · refine (mget_other (kk := pK) (kv := .bool) rfl hx).trans ((h.get x).trans ?_)
    unfold bAt
    by_cases hm : x ∈ P
    · rw [if_pos hm, if_pos (by simp [hm])]
    · rw [if_neg hm, if_neg (by simp [hm, hx])]⟩
theorem box_ev {c : Cir} (hR : Right c) (s : Int) (i : Nat) : Ev (fun k => circuitBox1123 k s (i : Int) c) ((outI c s i, nxtI c s i, ()), ()) := by
  unfold circuitBox1123
  exact .bind (stepped_ev hR s (i : Int)) (.now _)
section
variable {a b : Cir}
structure Clos (a b : Cir) (B : Nat) (s : Pr) (P : List Pr) (k i : Nat) : Prop where
  dif : P.Nodup
  dom : ∀ p ∈ P, DomC a b p
  p0 : P[0]? = some s
  proc : ∀ (k' i' : Nat) (p : Pr), Done k i k' i' → i' < B → P[k']? = some p → dlC a b p i' ∈ P
theorem rowR (hRa : Right a) (hRb : Right b) (hf : a.2.2.2.1.length + b.2.2.2.1.length ≤ 6) {B : Nat} (hB : B ≤ 16) {s : Pr} {k : Nat} : ∀ (n i : Nat) (P : List Pr) (m : BMap), i + n = B → Clos a b B s P k i → Seen P m → ∀ p, P[k]? = some p →
    ∃ P' m', Clos a b B s P' k B ∧ Seen P' m' ∧ P.length ≤ P'.length ∧ Gp.Lp (fun j => shortest82.l0 j (k : Int) (B : Int)) ((a, ()), (b, ()), (), (), (i : Int), P, m) ((a, ()), (b, ()), (), (), P', m') := by
  intro n
  induction n with
  | zero =>
    intro i P m hi h hm p hp
    have : i = B := by omega
    subst this
    refine ⟨P, m, h, hm, Nat.le_refl _, .done ?_⟩
    simp only [shortest82.l0]
    exact .no (by simp) (.now _)
  | succ n ih =>
    intro i P m hi h hm p hp
    have hPl := dom_len hf h.dif h.dom
    have hk := get_lt hp
    have hww : w64 ((i : Int) + 1) = ((i + 1 : Nat) : Int) := w64_succ (by omega)
    by_cases hq : dlC a b p i ∈ P
    · have hg : Option.getD (α := Bool) (mget pK .bool m (dlC a b p i)) false = true := congrArg (fun (o : Option Bool) => Option.getD o false) ((hm.get _).trans (if_pos hq))
      obtain ⟨P', m', e1, e2, e3, e4⟩ := ih (i + 1) P m (by omega) ⟨h.dif, h.dom, h.p0, fun k' i' p' hD hi' hp' => by
        by_cases hold : Done k i k' i'
        · exact h.proc k' i' p' hold hi' hp'
        · have : k' = k ∧ i' = i := by unfold Done at hD hold; omega
          obtain ⟨rfl, rfl⟩ := this
          rw [hp] at hp'
          cases hp'
          exact hq⟩ hm p hp
      refine ⟨P', m', e1, e2, e3, .step ?_ e4⟩
      simp only [shortest82.l0]
      refine .yes (decide_eq_true (by omega)) (.val (rd_some' hp) (.val (rd_some' hp) (.bind (box_ev hRa p.1 i) (.val (rd_some' hp) (.val (rd_some' hp) (.bind (box_ev hRb p.2 i) (.bind (a := ((a, ()), (b, ()), (), (), P, m)) (.no (congrArg (fun (x : Bool) => !x) hg) (.now _)) (.now' ?_))))))))
      rw [hww]
    · have hg : Option.getD (α := Bool) (mget pK .bool m (dlC a b p i)) false = false := congrArg (fun (o : Option Bool) => Option.getD o false) ((hm.get _).trans (if_neg hq))
      have hp' : (P ++ [dlC a b p i])[k]? = some p := by rw [List.getElem?_append_left hk]; exact hp
      obtain ⟨P', m', e1, e2, e3, e4⟩ := ih (i + 1) (P ++ [dlC a b p i]) (mput pK .bool m (dlC a b p i) true) (by omega) ⟨by
        rw [List.nodup_append]
        exact ⟨h.dif, by simp, fun x hx y hy => by rw [List.mem_singleton.1 hy]; exact fun e => hq (e ▸ hx)⟩, fun x hx => by
        rcases List.mem_append.1 hx with hx | hx
        · exact h.dom x hx
        · rw [List.mem_singleton.1 hx]; exact dom_step hRa hRb p i, by rw [List.getElem?_append_left (get_lt h.p0)]; exact h.p0, fun k' i' q hD hi' hq' => by
        have hk'lt : k' < P.length := by unfold Done at hD; omega
        rw [List.getElem?_append_left hk'lt] at hq'
        by_cases hold : Done k i k' i'
        · exact List.mem_append_left _ (h.proc k' i' q hold hi' hq')
        · have : k' = k ∧ i' = i := by unfold Done at hD hold; omega
          obtain ⟨rfl, rfl⟩ := this
          rw [hp] at hq'
          cases hq'
          simp⟩ (hm.add _) p hp'
      refine ⟨P', m', e1, e2, by rw [List.length_append] at e3; omega, .step ?_ e4⟩
      simp only [shortest82.l0]
      refine .yes (decide_eq_true (by omega)) (.val (rd_some' hp) (.val (rd_some' hp) (.bind (box_ev hRa p.1 i) (.val (rd_some' hp) (.val (rd_some' hp) (.bind (box_ev hRb p.2 i) (.bind (a := ((a, ()), (b, ()), (), (), P ++ [dlC a b p i], mput pK .bool m (dlC a b p i) true)) (.yes (congrArg (fun (x : Bool) => !x) hg) (.val (a := ()) ?_ (.now _))) (.now' ?_))))))))
      · rw [if_pos (room_ok (by simp only [List.length_cons, List.length_nil]; omega))]
      · rw [hww]
structure Closed (a b : Cir) (B : Nat) (s : Pr) (l : List Pr) : Prop where
  dif : l.Nodup
  len : l.length ≤ 64
  st : s ∈ l
  cl : ∀ p ∈ l, ∀ i, i < B → dlC a b p i ∈ l
theorem searchS (hRa : Right a) (hRb : Right b) (hf : a.2.2.2.1.length + b.2.2.2.1.length ≤ 6) {B : Nat} (hB : B ≤ 16) (hsh : shlI .i64 1 a.1 = (B : Int)) {s : Pr} : ∀ (n k : Nat) (P : List Pr) (m : BMap), k + n = 65 → k ≤ P.length → Clos a b B s P k 0 → Seen P m →
    ∃ l, Closed a b B s l ∧ Gp.Lp (fun j => shortest82.l1 j a.1) ((a, ()), (b, ()), (), (), (k : Int), P, m) ((a, ()), (b, ()), (), l) := by
  have hins := hRa.ins
  intro n
  induction n with
  | zero =>
    intro k P m hk hkP h hm
    have := dom_len hf h.dif h.dom
    omega
  | succ n ih =>
    intro k P m hk hkP h hm
    have hPl := dom_len hf h.dif h.dom
    by_cases hlt : k < P.length
    · have hp : P[k]? = some P[k] := List.getElem?_eq_getElem hlt
      generalize P[k]'hlt = p at hp
      obtain ⟨P', m', e1, e2, e3, e4⟩ := rowR hRa hRb hf hB B 0 P m (by omega) h hm p hp
      obtain ⟨l, f1, f2⟩ := ih (k + 1) P' m' (by omega) (by omega) ⟨e1.dif, e1.dom, e1.p0, fun k' i' q hD hi hq => e1.proc k' i' q (by unfold Done at hD ⊢; omega) hi hq⟩ e2
      refine ⟨l, f1, .step ?_ f2⟩
      simp only [shortest82.l1]
      refine .yes (decide_eq_true (by omega)) (.val (a := (B : Int)) (by rw [if_neg (by omega), hsh]) (.bind e4.ev (.now' ?_)))
      rw [w64_succ (by omega)]
    · refine ⟨P, ⟨h.dif, hPl, get_mem h.p0, fun p hp i hi => ?_⟩, .done ?_⟩
      · obtain ⟨j, hj⟩ := List.getElem?_of_mem hp
        exact h.proc j i p (.inl (by have := get_lt hj; omega)) hi hj
      · simp only [shortest82.l1]
        exact .no (decide_eq_false (by omega)) (.now _)
-- distances
structure Dist (F : Fr) (m : FMap) : Prop where
  get : ∀ p : Pr, mget pK (.int .i64) m p = (F p).map fun d => (d : Int)
theorem Dist.upd {F : Fr} {m : FMap} (h : Dist F m) (p : Pr) (d : Nat) : Dist (updF F p d) (mput pK (.int .i64) m p (d : Int)) := ⟨fun x => by
  by_cases hx : x = p
  · subst hx
    rw [updF_same]
    exact mget_self (kk := pK) (kv := .int .i64) rfl
  · rw [updF_other hx]
    exact (mget_other (kk := pK) (kv := .int .i64) rfl hx).trans (h.get x)⟩
abbrev FarC (a b : Cir) (B : Nat) := Far (dlC a b) (dfC a b) B
def checkC (a b : Cir) (F : Fr) (p : Pr) (i : Nat) : Prop := ∀ d, cand (dlC a b) (dfC a b) F p i = some d → ∃ o, F p = some o ∧ o ≤ d
def sumV (F : Fr) (l : List Pr) : Nat := sumF (fun x => vF (F x)) l
/-- within a pass over all pairs -/
structure Pass (a b : Cir) (B : Nat) (l : List Pr) (F0 : Fr) (k i : Nat) (F : Fr) (ch : Bool) : Prop where
  far : FarC a b B l F
  le : sumV F l ≤ sumV F0 l
  yes : ch = true → sumV F l < sumV F0 l
  no : ch = false → F = F0 ∧ ∀ (k' i' : Nat) (p : Pr), Done k i k' i' → i' < B → l[k']? = some p → checkC a b F0 p i'
abbrev S2 := (Cir × Unit) × (Cir × Unit) × Unit × Unit × Bool × Pr × Unit × List Pr × FMap
theorem relax (hRa : Right a) (hRb : Right b) {B : Nat} (hB : B ≤ 16) {s : Pr} {l : List Pr} (hl : Closed a b B s l) {F0 F : Fr} {k i : Nat} {ch : Bool} {m : FMap} (h : Pass a b B l F0 k i F ch) (hm : Dist F m) (hi : i < B) {p : Pr} (hp : l[k]? = some p) :
    ∃ F' ch' m', Pass a b B l F0 k (i + 1) F' ch' ∧ Dist F' m' ∧ Ev (fun j => shortest82.l2 j (B : Int) ((a, ()), (b, ()), (), (), ch, p, (), (i : Int), l, m)) (.inl ((a, ()), (b, ()), (), (), ch', p, (), ((i + 1 : Nat) : Int), l, m')) := by
  have hpl := get_mem hp
  have hww : w64 ((i : Int) + 1) = ((i + 1 : Nat) : Int) := w64_succ (by omega)
  have keep : (ch = false → checkC a b F p i) → Pass a b B l F0 k (i + 1) F ch := fun hc => ⟨h.far, h.le, h.yes, fun hch => by
    obtain ⟨hF, hd⟩ := h.no hch
    refine ⟨hF, fun k' i' q hD hi' hq => ?_⟩
    by_cases hold : Done k i k' i'
    · exact hd k' i' q hold hi' hq
    · have : k' = k ∧ i' = i := by unfold Done at hD hold; omega
      obtain ⟨rfl, rfl⟩ := this
      rw [hp] at hq
      cases hq
      rw [← hF]
      exact hc hch⟩
  -- what follows once the distance is known
  have tail : ∀ d : Nat, cand (dlC a b) (dfC a b) F p i = some d → d ≤ 65 → ∃ F' ch' m', Pass a b B l F0 k (i + 1) F' ch' ∧ Dist F' m' ∧
      Ev (fun (_ : Nat) => (Option.bind (cond (cond (!(Option.isSome (mget pK (.int .i64) m p))) true (decide ((d : Int) < (Option.getD (α := Int) (mget pK (.int .i64) m p) (0 : Int)))))
        (some ((a, ()), (b, ()), (), (), true, p, (), l, (mput pK (.int .i64) m p (d : Int))))
        (some ((a, ()), (b, ()), (), (), ch, p, (), l, m))) fun ((a_10, b_10, _, _, changed_3, p_2, _, o0_9, o1_8) : S2) => some (a_10, b_10, (), (), changed_3, p_2, (), o0_9, o1_8) : Option S2)) ((a, ()), (b, ()), (), (), ch', p, (), l, m') := by
    intro d hc hd65
    cases hF : F p with
    | none =>
      have hg : mget pK (.int .i64) m p = none := (hm.get p).trans (by rw [hF]; rfl)
      obtain ⟨f1, f2⟩ := h.far.upd hl.dif hl.len hpl hi hc (fun o ho => by rw [hF] at ho; cases ho)
      refine ⟨updF F p d, true, _, ⟨f1, by have := h.le; unfold sumV at *; omega, fun _ => by have := h.le; unfold sumV at *; omega, fun e => by cases e⟩, hm.upd p d, .bind (.yes ?_ (.now _)) (.now _)⟩
      have : Option.isSome (mget pK (.int .i64) m p) = false := congrArg (fun (o : Option Int) => o.isSome) hg
      rw [this]; rfl
    | some o =>
      have hg : mget pK (.int .i64) m p = some (o : Int) := (hm.get p).trans (by rw [hF]; rfl)
      have g1 : Option.isSome (mget pK (.int .i64) m p) = true := congrArg (fun (o : Option Int) => o.isSome) hg
      have g2 : Option.getD (α := Int) (mget pK (.int .i64) m p) (0 : Int) = (o : Int) := congrArg (fun (o : Option Int) => Option.getD o 0) hg
      by_cases hlt : d < o
      · obtain ⟨f1, f2⟩ := h.far.upd hl.dif hl.len hpl hi hc (fun o' ho => by rw [hF] at ho; cases ho; exact hlt)
        refine ⟨updF F p d, true, _, ⟨f1, by have := h.le; unfold sumV at *; omega, fun _ => by have := h.le; unfold sumV at *; omega, fun e => by cases e⟩, hm.upd p d, .bind (.yes ?_ (.now _)) (.now _)⟩
        rw [g1, g2, decide_eq_true (by omega)]; rfl
      · refine ⟨F, ch, m, keep (fun _ d' hd' => ?_), hm, .bind (.no ?_ (.now _)) (.now _)⟩
        · rw [hc] at hd'
          cases hd'
          exact ⟨o, hF, by omega⟩
        · rw [g1, g2, decide_eq_false (by omega)]; rfl
  cases hd : dfC a b p i with
  | true =>
    have hc : cand (dlC a b) (dfC a b) F p i = some 1 := if_pos hd
    have hne : (outI a p.1 i == outI b p.2 i) = false := by
      unfold dfC at hd
      simpa using hd
    obtain ⟨F', ch', m', t1, t2, t3⟩ := tail 1 hc (by decide)
    refine ⟨F', ch', m', t1, t2, ?_⟩
    simp only [shortest82.l2]
    refine .yes (decide_eq_true (by omega)) (.bind (.bind (box_ev hRa p.1 i) (.bind (box_ev hRb p.2 i) (.joinL (S := Unit) (.no hne (.now _)) t3))) (.now' ?_))
    rw [hww]
  | false =>
    have heq : (outI a p.1 i == outI b p.2 i) = true := by
      unfold dfC at hd
      simpa using hd
    have hdn : ¬ dfC a b p i = true := by rw [hd]; decide
    cases hq : F (dlC a b p i) with
    | none =>
      have hg : mget pK (.int .i64) m (dlC a b p i) = none := (hm.get _).trans (by rw [hq]; rfl)
      refine ⟨F, ch, m, keep (fun _ d hc => ?_), hm, ?_⟩
      · unfold cand at hc
        rw [if_neg hdn, hq] at hc
        cases hc
      · simp only [shortest82.l2]
        refine .yes (decide_eq_true (by omega)) (.bind (.bind (box_ev hRa p.1 i) (.bind (box_ev hRb p.2 i) (.joinR (.yes heq (.yes (congrArg (fun (o : Option Int) => !o.isSome) hg) (.now _)))))) (.now' ?_))
        rw [hww]
    | some e =>
      have hg : mget pK (.int .i64) m (dlC a b p i) = some (e : Int) := (hm.get _).trans (by rw [hq]; rfl)
      have he := h.far.le hq
      have hle := hl.len
      have hc : cand (dlC a b) (dfC a b) F p i = some (e + 1) := by unfold cand; rw [if_neg hdn, hq]; rfl
      obtain ⟨F', ch', m', t1, t2, t3⟩ := tail (e + 1) hc (by omega)
      have hge : w64 ((Option.getD (α := Int) (mget pK (.int .i64) m (dlC a b p i)) (0 : Int)) + 1) = ((e + 1 : Nat) : Int) := by
        have : Option.getD (α := Int) (mget pK (.int .i64) m (dlC a b p i)) (0 : Int) = (e : Int) := congrArg (fun (o : Option Int) => Option.getD o 0) hg
        rw [this, w64_succ (by omega)]
      refine ⟨F', ch', m', t1, t2, ?_⟩
      simp only [shortest82.l2]
      refine .yes (decide_eq_true (by omega)) (.bind (.bind (box_ev hRa p.1 i) (.bind (box_ev hRb p.2 i) (.joinL (S := Unit) (a := ((a, ()), (b, ()), (), (), p, ((e + 1 : Nat) : Int), (), l, m)) (.yes heq (.no (congrArg (fun (o : Option Int) => !o.isSome) hg) (.now' ?_))) t3))) (.now' ?_))
      · have e2 : w64 ((Option.getD (α := Int) (mget pK (.int .i64) m (nxtI a p.1 i, nxtI b p.2 i)) (0 : Int)) + 1) = ((e + 1 : Nat) : Int) := hge
        exact congrArg (fun (z : Int) => (Sum.inl ((a, ()), (b, ()), (), (), p, z, (), l, m) : ((Cir × Unit) × (Cir × Unit) × Unit × Unit × Pr × Int × Unit × List Pr × FMap) ⊕ S2)) e2
      · rw [hww]
end
end Go.Proofs.Ytjbdhaenakcclaa.St

/- Shortest words that tell two circuits apart: the reference's answer. No program in sight. -/
set_option linter.unusedVariables false
set_option maxRecDepth 100000
noncomputable section
namespace Go.Proofs.Ytjbdhaenakcclaa.St
open Go Go.Proofs.Ytjbdhaenakcclaa.Gp

theorem Dist.no {F : Fr} {m : FMap} (h : Dist F m) {p : Pr} (hF : F p = none) : Option.isSome (mget pK (.int .i64) m p) = false := by
  have hg : mget pK (.int .i64) m p = none := (h.get p).trans (by rw [hF]; rfl)
  exact congrArg (fun (o : Option Int) => o.isSome) hg
theorem Dist.is {F : Fr} {m : FMap} (h : Dist F m) {p : Pr} {d : Nat} (hF : F p = some d) : Option.isSome (mget pK (.int .i64) m p) = true := by
  have hg : mget pK (.int .i64) m p = some (d : Int) := (h.get p).trans (by rw [hF]; rfl)
  exact congrArg (fun (o : Option Int) => o.isSome) hg
theorem Dist.at {F : Fr} {m : FMap} (h : Dist F m) {p : Pr} {d : Nat} (hF : F p = some d) : Option.getD (α := Int) (mget pK (.int .i64) m p) (0 : Int) = (d : Int) := by
  have hg : mget pK (.int .i64) m p = some (d : Int) := (h.get p).trans (by rw [hF]; rfl)
  exact congrArg (fun (o : Option Int) => Option.getD o 0) hg
section
variable {a b : Cir}
theorem rowF2 (hRa : Right a) (hRb : Right b) {B : Nat} (hB : B ≤ 16) {s : Pr} {l : List Pr} (hl : Closed a b B s l) {F0 : Fr} {k : Nat} {p : Pr} (hp : l[k]? = some p) : ∀ (n i : Nat) (F : Fr) (ch : Bool) (m : FMap), i + n = B → Pass a b B l F0 k i F ch → Dist F m →
    ∃ F' ch' m', Pass a b B l F0 k B F' ch' ∧ Dist F' m' ∧ Gp.Lp (fun j => shortest82.l2 j (B : Int)) ((a, ()), (b, ()), (), (), ch, p, (), (i : Int), l, m) ((a, ()), (b, ()), (), (), ch', (), l, m') := by
  intro n
  induction n with
  | zero =>
    intro i F ch m hi h hm
    have : i = B := by omega
    subst this
    refine ⟨F, ch, m, h, hm, .done ?_⟩
    simp only [shortest82.l2]
    exact .no (by simp) (.now _)
  | succ n ih =>
    intro i F ch m hi h hm
    obtain ⟨F1, ch1, m1, h1, hm1, e1⟩ := relax hRa hRb hB hl h hm (by omega) hp
    obtain ⟨F2, ch2, m2, h2, hm2, e2⟩ := ih (i + 1) F1 ch1 m1 (by omega) h1 hm1
    exact ⟨F2, ch2, m2, h2, hm2, .step e1 e2⟩
theorem passF (hRa : Right a) (hRb : Right b) {B : Nat} (hB : B ≤ 16) (hsh : shlI .i64 1 a.1 = (B : Int)) {s : Pr} {l : List Pr} (hl : Closed a b B s l) {F0 : Fr} : ∀ (n k : Nat) (F : Fr) (ch : Bool) (m : FMap), k + n = l.length → Pass a b B l F0 k 0 F ch → Dist F m →
    ∃ F' ch' m', Pass a b B l F0 l.length 0 F' ch' ∧ Dist F' m' ∧ Gp.Lp (fun j => shortest82.l3 j a.1 l) ((a, ()), (b, ()), (), (), ch, (), (k : Int), l, m) ((a, ()), (b, ()), (), (), ch', l, m') := by
  have hins := hRa.ins
  have hlen := hl.len
  intro n
  induction n with
  | zero =>
    intro k F ch m hk h hm
    have : k = l.length := by omega
    subst this
    refine ⟨F, ch, m, h, hm, .done ?_⟩
    simp only [shortest82.l3]
    exact .no (by simp) (.now _)
  | succ n ih =>
    intro k F ch m hk h hm
    have hp : l[k]? = some l[k] := List.getElem?_eq_getElem (by omega)
    generalize l[k]'(by omega) = p at hp
    obtain ⟨F1, ch1, m1, h1, hm1, e1⟩ := rowF2 hRa hRb hB hl hp B 0 F ch m (by omega) h hm
    have h1' : Pass a b B l F0 (k + 1) 0 F1 ch1 := ⟨h1.far, h1.le, h1.yes, fun hc => by
      obtain ⟨g1, g2⟩ := h1.no hc
      exact ⟨g1, fun k' i' q hD hi' hq => g2 k' i' q (by unfold Done at hD ⊢; omega) hi' hq⟩⟩
    obtain ⟨F2, ch2, m2, h2, hm2, e2⟩ := ih (k + 1) F1 ch1 m1 (by omega) h1' hm1
    refine ⟨F2, ch2, m2, h2, hm2, .step ?_ e2⟩
    simp only [shortest82.l3]
    refine .yes (decide_eq_true (by omega)) (.val (rd_some' hp) (.val (rd_some' hp) (.val (a := (B : Int)) (by rw [if_neg (by omega), hsh]) (.bind e1.ev (.now' ?_)))))
    rw [w64_succ (by omega)]
/-- until nothing changes -/
theorem fixF (hRa : Right a) (hRb : Right b) {B : Nat} (hB : B ≤ 16) (hsh : shlI .i64 1 a.1 = (B : Int)) {s : Pr} {l : List Pr} (hl : Closed a b B s l) : ∀ (n : Nat) (F : Fr) (m : FMap), sumV F l < n → FarC a b B l F → Dist F m →
    ∃ F' m', FarC a b B l F' ∧ Fix (dlC a b) (dfC a b) B l F' ∧ Dist F' m' ∧ Gp.Lp (fun j => shortest82.l4 j a.1) ((a, ()), (b, ()), (), (), true, l, m) ((a, ()), (b, ()), (), m') := by
  intro n
  induction n with
  | zero => intro F m h; omega
  | succ n ih =>
    intro F m hn h hm
    obtain ⟨F1, ch1, m1, h1, hm1, e1⟩ := passF hRa hRb hB hsh hl (F0 := F) l.length 0 F false m (by omega) ⟨h, Nat.le_refl _, fun e => (by cases e), fun _ => ⟨rfl, fun k' i' p hD => by unfold Done at hD; omega⟩⟩ hm
    have hs : Ev (fun j => shortest82.l4 j a.1 ((a, ()), (b, ()), (), (), true, l, m)) (.inl ((a, ()), (b, ()), (), (), ch1, l, m1)) := by
      simp only [shortest82.l4]
      exact .yes rfl (.bind e1.ev (.now _))
    cases ch1 with
    | true =>
      have := h1.yes rfl
      obtain ⟨F2, m2, g1, g2, g3, g4⟩ := ih F1 m1 (by omega) h1.far hm1
      exact ⟨F2, m2, g1, g2, g3, .step hs g4⟩
    | false =>
      obtain ⟨hF, hc⟩ := h1.no rfl
      refine ⟨F1, m1, h1.far, fun p hp i hi d hd => ?_, hm1, .step hs (.done ?_)⟩
      · obtain ⟨k, hk⟩ := List.getElem?_of_mem hp
        have := hc k i p (.inl (get_lt hk)) hi hk
        rw [hF] at hd ⊢
        exact this d hd
      · simp only [shortest82.l4]
        exact .no rfl (.now _)
abbrev ToldV := (List Int × Bool × Unit) × Unit
def told (w : List Nat) : ToldV := ((ints w, true, ()), ())
abbrev S6 := (Cir × Unit) × (Cir × Unit) × Unit × Unit × Unit × FMap × Pr × List Int
/-- letters that lead nowhere -/
theorem skip5 (hRa : Right a) (hRb : Right b) {B : Nat} (hB : B ≤ 16) {F : Fr} {m : FMap} (hm : Dist F m) {p : Pr} {d : Nat} (hd : F p = some d) (hd1 : 1 ≤ d) (hd2 : d ≤ 100) (o : List Int) {i : Nat} (hi : i ≤ B) (h : ∀ j, j < i → ¬ (dfC a b p j = true ∧ d = 1) ∧ ¬ (dfC a b p j = false ∧ F (dlC a b p j) = some (d - 1))) {r : S6 ⊕ (S6 ⊕ ToldV)}
    (he : Gp.Lp (fun k => shortest82.l5 k (B : Int)) ((a, ()), (b, ()), (), (), (), (i : Int), m, p, o) r) : ∀ (n j : Nat), j + n = i → Gp.Lp (fun k => shortest82.l5 k (B : Int)) ((a, ()), (b, ()), (), (), (), (j : Int), m, p, o) r := by
  intro n
  induction n with
  | zero => intro j hj; rw [show j = i by omega]; exact he
  | succ n ih =>
    intro j hj
    obtain ⟨h1, h2⟩ := h j (by omega)
    refine .step ?_ (ih (j + 1) (by omega))
    have hgp : Option.getD (α := Int) (mget pK (.int .i64) m p) (0 : Int) = (d : Int) := hm.at hd
    have hgq := hm.get (dlC a b p j)
    simp only [shortest82.l5]
    refine .yes (decide_eq_true (by omega)) (.bind (box_ev hRa p.1 j) (.bind (box_ev hRb p.2 j) (.no ?_ (.no ?_ (.now' ?_)))))
    · show cond (dfC a b p j) (Option.getD (α := Int) (mget pK (.int .i64) m p) (0 : Int) == 1) false = false
      rw [hgp]
      cases hdf : dfC a b p j with
      | false => rfl
      | true => exact beq_false_of_ne (fun e => h1 ⟨hdf, by omega⟩)
    · show cond (cond (outI a p.1 j == outI b p.2 j) (Option.isSome (mget pK (.int .i64) m (dlC a b p j))) false) (Option.getD (α := Int) (mget pK (.int .i64) m (dlC a b p j)) (0 : Int) == w64 (Option.getD (α := Int) (mget pK (.int .i64) m p) (0 : Int) - 1)) false = false
      rw [hgp]
      cases hdf : dfC a b p j with
      | true =>
        have hne : (outI a p.1 j == outI b p.2 j) = false := by unfold dfC at hdf; simpa using hdf
        rw [hne]; rfl
      | false =>
        have heq : (outI a p.1 j == outI b p.2 j) = true := by unfold dfC at hdf; simpa using hdf
        rw [heq]
        cases hF : F (dlC a b p j) with
        | none =>
          have : Option.isSome (mget pK (.int .i64) m (dlC a b p j)) = false := hm.no hF
          rw [this]; rfl
        | some e =>
          have g1 : Option.isSome (mget pK (.int .i64) m (dlC a b p j)) = true := hm.is hF
          have g2 : Option.getD (α := Int) (mget pK (.int .i64) m (dlC a b p j)) (0 : Int) = (e : Int) := hm.at hF
          rw [g1, g2, w64_id (by omega) (by omega)]
          exact beq_false_of_ne (fun he => h2 ⟨hdf, by rw [hF]; exact congrArg some (by omega)⟩)
    · rw [w64_succ (by omega)]
theorem greedy (hRa : Right a) (hRb : Right b) {B : Nat} (hB : B ≤ 16) (hsh : shlI .i64 1 a.1 = (B : Int)) {s : Pr} {l : List Pr} (hl : Closed a b B s l) {F : Fr} {m : FMap} (hF : FarC a b B l F) (hx : Fix (dlC a b) (dfC a b) B l F) (hm : Dist F m) : ∀ (d : Nat) (p : Pr) (o : List Nat), p ∈ l → F p = some (d + 1) → o.length + d ≤ 500 →
    ∃ w, Best (dl := dlC a b) (df := dfC a b) (B := B) p (d + 1) w ∧ Gp.Lp (fun k => shortest82.l6 k a.1) ((a, ()), (b, ()), (), (), (), m, p, ints o) (told (o ++ w)) := by
  have hins := hRa.ins
  intro d
  induction d with
  | zero =>
    intro p o hp hd ho
    obtain ⟨i, i1, i2, i3⟩ := far_one hF hd
    refine ⟨[i], best_one i1 i2 i3, .done ?_⟩
    have hgp : Option.getD (α := Int) (mget pK (.int .i64) m p) (0 : Int) = 1 := hm.at hd
    have hend : Gp.Lp (fun k => shortest82.l5 k (B : Int)) ((a, ()), (b, ()), (), (), (), (i : Int), m, p, ints o) (.inr (.inr (told (o ++ [i])))) := by
      refine .done ?_
      simp only [shortest82.l5]
      refine .yes (decide_eq_true (by omega)) (.bind (box_ev hRa p.1 i) (.bind (box_ev hRb p.2 i) (.yes ?_ (.val (a := ()) ?_ (.now' ?_)))))
      · show cond (dfC a b p i) (Option.getD (α := Int) (mget pK (.int .i64) m p) (0 : Int) == 1) false = true
        rw [hgp, i2]; rfl
      · rw [if_pos (room_ok (by rw [intsLen]; simp only [List.length_cons, List.length_nil]; omega))]
      · unfold told
        rw [← intsSnoc]
    have hlp := skip5 hRa hRb hB hm hd (Nat.le_refl _) (by decide) (ints o) (i := i) (by omega) (fun j hj => ⟨fun h => (by rw [i3 j hj] at h; cases h.1), fun h => (by
      obtain ⟨w, h1, h2⟩ := hF.snd _ _ h.2
      have := h2.pos (dlC a b) (dfC a b) B
      omega)⟩) hend i 0 (by omega)
    simp only [shortest82.l6]
    exact .val (a := (B : Int)) (by rw [if_neg (by omega), hsh]) (.joinR hlp.ev)
  | succ d ih =>
    intro p o hp hd ho
    have hle := hF.le hd
    have hlen := hl.len
    obtain ⟨h0, i, i1, i2, i3⟩ := far_more hF hx hl.cl hp hd
    have hq := hl.cl p hp i i1
    obtain ⟨w, w1, w2⟩ := ih (dlC a b p i) (o ++ [i]) hq i2 (by rw [List.length_append, List.length_singleton]; omega)
    refine ⟨i :: w, best_more hB hF hx hl.cl hp hd i1 h0 i3 w1, ?_⟩
    have hgp : Option.getD (α := Int) (mget pK (.int .i64) m p) (0 : Int) = ((d + 2 : Nat) : Int) := hm.at hd
    have hgq := hm.get (dlC a b p i)
    have g1 : Option.isSome (mget pK (.int .i64) m (dlC a b p i)) = true := hm.is i2
    have g2 : Option.getD (α := Int) (mget pK (.int .i64) m (dlC a b p i)) (0 : Int) = ((d + 1 : Nat) : Int) := hm.at i2
    have heq : (outI a p.1 i == outI b p.2 i) = true := by have := h0 i i1; unfold dfC at this; simpa using this
    have hend : Gp.Lp (fun k => shortest82.l5 k (B : Int)) ((a, ()), (b, ()), (), (), (), (i : Int), m, p, ints o) (.inl ((a, ()), (b, ()), (), (), (), m, dlC a b p i, ints (o ++ [i]))) := by
      refine .done ?_
      simp only [shortest82.l5]
      refine .yes (decide_eq_true (by omega)) (.bind (box_ev hRa p.1 i) (.bind (box_ev hRb p.2 i) (.no ?_ (.yes ?_ (.val (a := ()) ?_ (.now' ?_))))))
      · show cond (dfC a b p i) _ false = false
        rw [h0 i i1]; rfl
      · show cond (cond (outI a p.1 i == outI b p.2 i) (Option.isSome (mget pK (.int .i64) m (dlC a b p i))) false) (Option.getD (α := Int) (mget pK (.int .i64) m (dlC a b p i)) (0 : Int) == w64 (Option.getD (α := Int) (mget pK (.int .i64) m p) (0 : Int) - 1)) false = true
        rw [heq, g1, g2, hgp, w64_id (by omega) (by omega), show ((d + 2 : Nat) : Int) - 1 = ((d + 1 : Nat) : Int) by omega]
        simp
      · rw [if_pos (room_ok (by rw [intsLen]; simp only [List.length_cons, List.length_nil]; omega))]
      · rw [← intsSnoc]; rfl
    have hlp := skip5 hRa hRb hB hm hd (by omega) (by omega) (ints o) (i := i) (by omega) (fun j hj => ⟨fun h => (by omega), fun h => i3 j hj h.2⟩) hend i 0 (by omega)
    rw [show o ++ i :: w = (o ++ [i]) ++ w by simp]
    refine .step ?_ w2
    simp only [shortest82.l6]
    exact .val (a := (B : Int)) (by rw [if_neg (by omega), hsh]) (.joinL (S := Unit) hlp.ev (.now _))
theorem sumV_le (F : Fr) (h : ∀ p d, F p = some d → d ≤ 100) : ∀ l : List Pr, sumV F l ≤ 100 * l.length
  | [] => Nat.le_refl _
  | p :: l => by
    have := sumV_le F h l
    have hv : vF (F p) ≤ 100 := by
      cases hF : F p with
      | none => exact Nat.le_refl _
      | some d => exact h p d hF
    show vF (F p) + sumV F l ≤ 100 * (l.length + 1)
    omega
theorem told_ev (hRa : Right a) (hRb : Right b) (hda : DomC a b (startC a b)) (hia : a.2.2.2.2.length ≤ 1000) (hib : b.2.2.2.2.length ≤ 1000) (hf : a.2.2.2.1.length + b.2.2.2.1.length ≤ 6) {B : Nat} (hB : B ≤ 16) (hsh : shlI .i64 1 a.1 = (B : Int)) :
    (∃ w, Least (dlC a b) (dfC a b) B (startC a b) w ∧ Ev (fun k => ToldCircuits34 k a b) (told w)) ∨
    ((∀ w, ¬ Tells (dlC a b) (dfC a b) B (startC a b) w) ∧ Ev (fun k => ToldCircuits34 k a b) (([], false, ()), ())) := by
  have hseen : Seen [startC a b] (mput pK .bool ([] : BMap) (startC a b) true) := Seen.add (P := []) (m := []) ⟨fun q => rfl⟩ (startC a b)
  obtain ⟨l, hl, e1⟩ := searchS hRa hRb hf hB hsh 65 0 [startC a b] _ (by omega) (Nat.zero_le _) ⟨by simp, fun p hp => by rw [List.mem_singleton.1 hp]; exact hda, rfl, fun k' i' p hD => by unfold Done at hD; omega⟩ hseen
  obtain ⟨F, m, hF, hx, hm, e2⟩ := fixF hRa hRb hB hsh hl (100 * l.length + 1) (fun _ => none) [] (by have := sumV_le (fun _ => none) (fun p d h => by cases h) l; omega) (far0 _ _ _ l) ⟨fun p => rfl⟩
  have pre : ∀ {r : ToldV}, Ev (fun k => (cond (!(Option.isSome (mget pK (.int .i64) m (startC a b)))) (some (([], false, ()), ())) (loopN (shortest82.l6 k a.1) k ((a, ()), (b, ()), (), (), (), m, startC a b, [])) : Option ToldV)) r → Ev (fun k => ToldCircuits34 k a b) r := by
    intro r hr
    unfold ToldCircuits34 circuitBox83
    refine .val rfl (.val rfl (.bind (first_ev a (by omega)) (.bind (first_ev b (by omega)) (.bind (a := r) ?_ (.now _)))))
    unfold shortest82
    exact .bind e1.ev (.bind e2.ev hr)
  cases hs : F (startC a b) with
  | none =>
    refine .inr ⟨far_none hx hl.cl hl.st hs, pre (.yes ?_ (.now _))⟩
    have : Option.isSome (mget pK (.int .i64) m (startC a b)) = false := hm.no hs
    rw [this]; rfl
  | some d =>
    have hd1 : 1 ≤ d := by
      obtain ⟨w, h1, h2⟩ := hF.snd _ _ hs
      have := h2.pos (dlC a b) (dfC a b) B
      omega
    obtain ⟨d', rfl⟩ : ∃ d', d = d' + 1 := ⟨d - 1, by omega⟩
    have hle := hF.le hs
    have hlen := hl.len
    obtain ⟨w, w1, w2⟩ := greedy hRa hRb hB hsh hl hF hx hm d' (startC a b) [] hl.st hs (by simp only [List.length_nil]; omega)
    refine .inl ⟨w, best_least hB hF hx hl.cl hl.st hs w1, pre (.no ?_ w2.ev)⟩
    have : Option.isSome (mget pK (.int .i64) m (startC a b)) = true := hm.is hs
    rw [this]; rfl
end
end Go.Proofs.Ytjbdhaenakcclaa.St

/- More fuel, no other answer. -/
set_option linter.unusedVariables false
noncomputable section
namespace Go.Proofs.Ytjbdhaenakcclaa.Gp
open Go

def Mono {α : Type} (f : Nat → Option α) : Prop := ∀ k j v, k ≤ j → f k = some v → f j = some v
theorem Mono.ev {α : Type} {f : Nat → Option α} (h : Mono f) {n : Nat} {v : α} (e : f n = some v) : Ev f v := ⟨n, fun k hk => h n k v hk e⟩
theorem Mono.const {α : Type} (o : Option α) : Mono (fun _ => o) := fun _ _ _ _ h => h
theorem Mono.bind {α β : Type} {f : Nat → Option α} {g : Nat → α → Option β} (h : Mono f) (h2 : ∀ a, Mono (fun k => g k a)) : Mono (fun k => (f k).bind (g k)) := by
  intro k j v hk he
  obtain ⟨a, ha, hb⟩ := Option.bind_eq_some_iff.1 he
  exact Option.bind_eq_some_iff.2 ⟨a, h k j a hk ha, h2 a k j v hk hb⟩
theorem Mono.cond {α : Type} {c : Bool} {f g : Nat → Option α} (h : Mono f) (h2 : Mono g) : Mono (fun k => cond c (f k) (g k)) := by
  cases c
  · exact h2
  · exact h
theorem Mono.joined {α β : Type} {f : Nat → Option (α ⊕ β)} {g : Nat → α → Option β} (h : Mono f) (h2 : ∀ a, Mono (fun k => g k a)) : Mono (fun k => (f k).bind (joined (g k))) :=
  Mono.bind (g := fun k => Gp.joined (g k)) h (fun a => by
    cases a with
    | inl a => exact h2 a
    | inr b => exact Mono.const _)
theorem Mono.loop {S R : Type} {body : Nat → S → Option (S ⊕ R)} {s : S} (h : ∀ s, Mono (fun k => body k s)) : Mono (fun k => loopN (body k) k s) := by
  have key : ∀ (n : Nat) (k j m : Nat) (s : S) (v : R), k ≤ j → n ≤ m → loopN (body k) n s = some v → loopN (body j) m s = some v := by
    intro n
    induction n with
    | zero => intro k j m s v _ _ he; cases he
    | succ n ih =>
      intro k j m s v hk hm he
      obtain ⟨m, rfl⟩ : ∃ i, m = i + 1 := ⟨m - 1, by omega⟩
      obtain ⟨a, ha, hb⟩ := Option.bind_eq_some_iff.1 (show (body k s).bind _ = some v from he)
      refine Option.bind_eq_some_iff.2 ⟨a, h s k j a hk ha, ?_⟩
      cases a with
      | inl s' => exact ih k j m s' v hk (by omega) hb
      | inr r => exact hb
  intro k j v hk he
  exact key k k j j s v hk hk he
theorem Mono.agree {α : Type} {f g : Nat → Option α} (h : Mono f) (h2 : Mono g) : Mono (fun k => agree (f k) (g k)) := by
  intro k j v hk he
  obtain ⟨a, b⟩ := agree_some he
  show Gp.agree (f j) (g j) = some v
  rw [h k j v hk a, h2 k j v hk b]
  exact agree_self _
theorem Mono.orNil {α : Type} {n : Nat} {f g : Nat → Option α} (h : Mono f) (h2 : Mono g) : Mono (fun k => orNil n (f k) (g k)) := by
  intro k j v hk he
  obtain ⟨a, b⟩ := orNil_some he
  have h3 := h2 k j v hk a
  show Gp.orNil n (f j) (g j) = some v
  rw [orNil_same (fun e => by rw [h3, h k j v hk (b e)])]
  exact h3
theorem Mono.prod {α β γ : Type} {f : Nat → α × β → Option γ} (h : ∀ a b, Mono (fun k => f k (a, b))) : ∀ x, Mono (fun k => f k x) := fun x => by
  obtain ⟨a, b⟩ := x
  exact h a b
end Go.Proofs.Ytjbdhaenakcclaa.Gp

/- Twins of functions that the kernel can run: what they answer, the functions answer. -/
set_option linter.unusedVariables false
namespace Go.Proofs.Ytjbdhaenakcclaa.Gp
open Go

def agreeD {α : Type} [DecidableEq α] (a b : Option α) : Option α := if a = b then a else none
def orNilD {α : Type} [DecidableEq α] (n : Nat) (a b : Option α) : Option α := if n = 0 then agreeD a b else b
def Le {α : Type} (a b : Option α) : Prop := ∀ v, a = some v → b = some v
theorem Le.refl {α : Type} (a : Option α) : Le a a := fun _ h => h
theorem Le.bind {α β : Type} {f f' : Option α} {g g' : α → Option β} (h : Le f f') (h2 : ∀ a, Le (g a) (g' a)) : Le (f.bind g) (f'.bind g') := by
  intro v he
  obtain ⟨a, ha, hb⟩ := Option.bind_eq_some_iff.1 he
  exact Option.bind_eq_some_iff.2 ⟨a, h a ha, h2 a v hb⟩
theorem Le.cond {α : Type} {c : Bool} {f g f' g' : Option α} (h : Le f f') (h2 : Le g g') : Le (cond c f g) (cond c f' g') := by
  cases c
  · exact h2
  · exact h
theorem Le.joined {α β : Type} {f f' : Option (α ⊕ β)} {g g' : α → Option β} (h : Le f f') (h2 : ∀ a, Le (g a) (g' a)) : Le (f.bind (Gp.joined g)) (f'.bind (Gp.joined g')) :=
  Le.bind h (fun a => by
    cases a with
    | inl a => exact h2 a
    | inr b => exact Le.refl _)
theorem Le.none {α : Type} (b : Option α) : Le none b := fun _ h => by cases h
theorem Le.loop {S R : Type} {n m : Nat} (hn : n ≤ m) {body body' : S → Option (S ⊕ R)} (h : ∀ s, Le (body s) (body' s)) : ∀ (s : S), Le (loopN body n s) (loopN body' m s) := by
  induction n generalizing m with
  | zero => intro s v he; cases he
  | succ n ih =>
    intro s v he
    obtain ⟨m, rfl⟩ : ∃ i, m = i + 1 := ⟨m - 1, by omega⟩
    obtain ⟨a, ha, hb⟩ := Option.bind_eq_some_iff.1 (show (body s).bind _ = some v from he)
    refine Option.bind_eq_some_iff.2 ⟨a, h s a ha, ?_⟩
    cases a with
    | inl s' => exact ih (by omega) s' v hb
    | inr r => exact hb
theorem Le.ev {α : Type} {f g : Nat → Option α} (h : ∀ k j, k ≤ j → Le (f k) (g j)) {n : Nat} {v : α} (e : f n = some v) : Ev g v := ⟨n, fun k hk => h n k hk v e⟩
theorem Le.agree {α : Type} [DecidableEq α] {f g f' g' : Option α} (h : Le f f') (h2 : Le g g') : Le (agreeD f g) (Gp.agree f' g') := by
  intro v he
  unfold agreeD at he
  split at he
  · rename_i e
    have a := h v he
    have b := h2 v (e ▸ he)
    rw [a, b]
    exact agree_self _
  · cases he
theorem Le.self {α : Type} {f f' : Option α} (h : Le f f') : Le f (Gp.agree f' f') := by
  rw [agree_self]
  exact h
theorem Le.orNil {α : Type} [DecidableEq α] {n : Nat} {f g f' g' : Option α} (h : Le f f') (h2 : Le g g') : Le (orNilD n f g) (Gp.orNil n f' g') := by
  intro v he
  unfold orNilD at he
  split at he
  · rename_i e
    subst e
    have := Le.agree h h2 v he
    obtain ⟨a, b⟩ := agree_some this
    rw [orNil_zero (a.trans b.symm)]
    exact b
  · rename_i e
    rw [orNil_pos e]
    exact h2 v he
theorem Le.prod {α β γ : Type} {f f' : α × β → Option γ} (h : ∀ a b, Le (f (a, b)) (f' (a, b))) : ∀ x, Le (f x) (f' x) := fun x => by
  obtain ⟨a, b⟩ := x
  exact h a b
end Go.Proofs.Ytjbdhaenakcclaa.Gp

/- Twins of the functions, for the kernel to run. Printed by twin.py. -/
set_option linter.unusedVariables false
set_option maxRecDepth 100000
namespace Go.Proofs.Ytjbdhaenakcclaa.St
open Go Go.Proofs.Ytjbdhaenakcclaa.Gp
def inputs79.tw (k : Nat) (kind : Int) : Option (Int × Unit) :=
  cond (cond (decide (kind < 0)) true (decide (kind ≥ 8)))
    (some ((-1), ()))
    ((rd ([0, 0, 0, 1, 2, 2, 2, 3] : List Int) kind).bind fun _ =>
    (rd ([0, 0, 0, 1, 2, 2, 2, 3] : List Int) kind).bind fun t12 =>
    some (t12, ()))
theorem inputs79.le (k j : Nat) (hk_ : k ≤ j) : ∀ a0_, Le (inputs79.tw k a0_) (inputs79 j a0_) := by
  intro a0_
  unfold inputs79 inputs79.tw
  repeat' (first | with_reducible exact Le.refl _ | with_reducible refine Le.self ?_ | with_reducible refine Le.cond ?_ ?_ | with_reducible refine Le.orNil ?_ ?_ | with_reducible refine Le.agree ?_ ?_ | with_reducible refine Le.joined ?_ ?_ | with_reducible refine Le.bind ?_ ?_ | with_reducible refine Le.loop hk_ ?_ _ | with_reducible refine Le.prod ?_ | intro _ | (dsimp only) | exact Le.refl _)

def one72.l0.tw (k : Nat) (i : Int) (t13 : (Int × (Int × (Int × (Int × Int))))) (t17 : (Int × Unit)) : ((Int × ((List (Int × (Int × (Int × (Int × Int))))) × ((List Int) × ((List Int) × (List Int))))) × ((Int × (Int × (Int × (Int × Int)))) × (Unit × (Int × (List Int))))) → Option (((Int × ((List (Int × (Int × (Int × (Int × Int))))) × ((List Int) × ((List Int) × (List Int))))) × ((Int × (Int × (Int × (Int × Int)))) × (Unit × (Int × (List Int))))) ⊕ (((Int × ((List (Int × (Int × (Int × (Int × Int))))) × ((List Int) × ((List Int) × (List Int))))) × (Int × (Int × (Int × (Int × Int))))) ⊕ (Int × Unit)))
  | (c_1, g, _, t28, o1) =>
    cond (decide (t28 < (List.length ([t13.2.1, t13.2.2.1, t13.2.2.2.1] : List Int) : Int)))
      ((rd o1 t28).bind fun _ =>
      (rd o1 t28).bind fun t32 =>
      cond (cond (decide (t28 < t17.1)) (cond (decide (t32 < 0)) true (decide (t32 ≥ i))) false)
        (some (Sum.inr (Sum.inr (9, ()))))
        (cond (cond (decide (t28 ≥ t17.1)) (t32 != 0) false)
          (some (Sum.inr (Sum.inr (3, ()))))
          (some (Sum.inl (c_1, g, (), (w64 (t28 + 1)), o1)))))
      (some (Sum.inr (Sum.inl (c_1, g))))
theorem one72.l0.le (k j : Nat) (hk_ : k ≤ j) : ∀ a0_ a1_ a2_, ∀ s, Le (one72.l0.tw k a0_ a1_ a2_ s) (one72.l0 j a0_ a1_ a2_ s) := by
  intro a0_ a1_ a2_
  unfold one72.l0 one72.l0.tw
  repeat' (first | with_reducible exact Le.refl _ | with_reducible refine Le.self ?_ | with_reducible refine Le.cond ?_ ?_ | with_reducible refine Le.orNil ?_ ?_ | with_reducible refine Le.agree ?_ ?_ | with_reducible refine Le.joined ?_ ?_ | with_reducible refine Le.bind ?_ ?_ | with_reducible refine Le.loop hk_ ?_ _ | with_reducible refine Le.prod ?_ | intro _ | (dsimp only) | exact Le.refl _)

def one72.tw (k : Nat) (c : (Int × ((List (Int × (Int × (Int × (Int × Int))))) × ((List Int) × ((List Int) × (List Int)))))) (i : Int) : Option (Int × Unit) :=
  (rd c.2.1 i).bind fun t13 =>
  (inputs79.tw k t13.1).bind fun t17 =>
  cond (decide (t17.1 < 0))
    (some (1, ()))
    (Option.bind
      (loopN (one72.l0.tw k i t13 t17) k (c, t13, (), 0, ([t13.2.1, t13.2.2.1, t13.2.2.2.1] : List Int)) : Option (((Int × ((List (Int × (Int × (Int × (Int × Int))))) × ((List Int) × ((List Int) × (List Int))))) × (Int × (Int × (Int × (Int × Int))))) ⊕ (Int × Unit))) (joined fun ((c_2, g_1) : ((Int × ((List (Int × (Int × (Int × (Int × Int))))) × ((List Int) × ((List Int) × (List Int))))) × (Int × (Int × (Int × (Int × Int)))))) =>
      (rd ([2, c_2.1, (List.length c_2.2.2.2.1 : Int), 1, 1, 1, 1, 1] : List Int) g_1.1).bind fun _ =>
      (rd ([2, c_2.1, (List.length c_2.2.2.2.1 : Int), 1, 1, 1, 1, 1] : List Int) g_1.1).bind fun t62 =>
      cond (cond (decide (g_1.2.2.2.2 < 0)) true (decide (g_1.2.2.2.2 ≥ t62)))
        (some (1, ()))
        (some (0, ()))))
theorem one72.le (k j : Nat) (hk_ : k ≤ j) : ∀ a0_ a1_, Le (one72.tw k a0_ a1_) (one72 j a0_ a1_) := by
  intro a0_ a1_
  unfold one72 one72.tw
  repeat' (first | with_reducible exact Le.refl _ | with_reducible exact inputs79.le _ _ hk_ _ | with_reducible exact one72.l0.le _ _ hk_ _ _ _ | with_reducible refine Le.self ?_ | with_reducible refine Le.cond ?_ ?_ | with_reducible refine Le.orNil ?_ ?_ | with_reducible refine Le.agree ?_ ?_ | with_reducible refine Le.joined ?_ ?_ | with_reducible refine Le.bind ?_ ?_ | with_reducible refine Le.loop hk_ ?_ _ | with_reducible refine Le.prod ?_ | intro _ | (dsimp only) | exact Le.refl _)

def Grow112.tw (k : Nat) (_ : Unit) (n : Int) : Option (Unit × (List Int)) :=
  Option.bind
    (cond (decide (n < 0))
      (none)
      (some ()) : Option Unit) fun (_ : Unit) =>
  let t14 : Int := (w64 (n - (w64 (0 - 0))))
  Option.bind
    (cond (decide (t14 > 0))
      ((if (0 : Int) = 0 ∧ 0 = 0 then some () else none).bind fun _ =>
      (if 0 < t14 ∧ t14 * 8 ≤ 140737488355328 then some () else none).bind fun _ =>
      (slc (List.replicate (Int.toNat t14) 0) 0 0).bind fun t25 =>
      some ((), t25))
      (some ((), [])) : Option (Unit × (List Int))) fun ((_, o0) : (Unit × (List Int))) =>
  some ((), o0)
theorem Grow112.le (k j : Nat) (hk_ : k ≤ j) : ∀ a0_ a1_, Le (Grow112.tw k a0_ a1_) (Grow112 j a0_ a1_) := by
  intro a0_ a1_
  unfold Grow112 Grow112.tw
  repeat' (first | with_reducible exact Le.refl _ | with_reducible refine Le.self ?_ | with_reducible refine Le.cond ?_ ?_ | with_reducible refine Le.orNil ?_ ?_ | with_reducible refine Le.agree ?_ ?_ | with_reducible refine Le.joined ?_ ?_ | with_reducible refine Le.bind ?_ ?_ | with_reducible refine Le.loop hk_ ?_ _ | with_reducible refine Le.prod ?_ | intro _ | (dsimp only) | exact Le.refl _)

def Concat59.l0.tw (k : Nat) (slices : (List (List Int))) : (Int × Int) → Option ((Int × Int) ⊕ Int)
  | (size, t11) =>
    cond (decide (t11 < (List.length slices : Int)))
      ((rd slices t11).bind fun t13 =>
      let t18 : Int := (w64 (size + (List.length t13 : Int)))
      Option.bind
        (cond (decide (t18 < 0))
          (none)
          (some ()) : Option Unit) fun (_ : Unit) =>
      some (Sum.inl (t18, (w64 (t11 + 1)))))
      (some (Sum.inr size))
theorem Concat59.l0.le (k j : Nat) (hk_ : k ≤ j) : ∀ a0_, ∀ s, Le (Concat59.l0.tw k a0_ s) (Concat59.l0 j a0_ s) := by
  intro a0_
  unfold Concat59.l0 Concat59.l0.tw
  repeat' (first | with_reducible exact Le.refl _ | with_reducible refine Le.self ?_ | with_reducible refine Le.cond ?_ ?_ | with_reducible refine Le.orNil ?_ ?_ | with_reducible refine Le.agree ?_ ?_ | with_reducible refine Le.joined ?_ ?_ | with_reducible refine Le.bind ?_ ?_ | with_reducible refine Le.loop hk_ ?_ _ | with_reducible refine Le.prod ?_ | intro _ | (dsimp only) | exact Le.refl _)

def Concat59.l1.tw (k : Nat) (slices : (List (List Int))) : (Unit × (Int × (List Int))) → Option ((Unit × (Int × (List Int))) ⊕ (Unit × (List Int)))
  | (_, t27, o0) =>
    cond (decide (t27 < (List.length slices : Int)))
      ((rd slices t27).bind fun t29 =>
      (if room (List.length o0 + List.length t29) 8 then some () else none).bind fun _ =>
      some (Sum.inl ((), (w64 (t27 + 1)), (o0 ++ t29))))
      (some (Sum.inr ((), o0)))
theorem Concat59.l1.le (k j : Nat) (hk_ : k ≤ j) : ∀ a0_, ∀ s, Le (Concat59.l1.tw k a0_ s) (Concat59.l1 j a0_ s) := by
  intro a0_
  unfold Concat59.l1 Concat59.l1.tw
  repeat' (first | with_reducible exact Le.refl _ | with_reducible refine Le.self ?_ | with_reducible refine Le.cond ?_ ?_ | with_reducible refine Le.orNil ?_ ?_ | with_reducible refine Le.agree ?_ ?_ | with_reducible refine Le.joined ?_ ?_ | with_reducible refine Le.bind ?_ ?_ | with_reducible refine Le.loop hk_ ?_ _ | with_reducible refine Le.prod ?_ | intro _ | (dsimp only) | exact Le.refl _)

def Concat59.tw (k : Nat) (slices : (List (List Int))) : Option ((List Int) × Unit) :=
  Option.bind
    (loopN (Concat59.l0.tw k slices) k (0, 0) : Option Int) fun (size_1 : Int) =>
  (Grow112.tw k () size_1).bind fun t24 =>
  Option.bind
    (loopN (Concat59.l1.tw k slices) k ((), 0, t24.2) : Option (Unit × (List Int))) fun ((_, o0_1) : (Unit × (List Int))) =>
  some (o0_1, ())
theorem Concat59.le (k j : Nat) (hk_ : k ≤ j) : ∀ a0_, Le (Concat59.tw k a0_) (Concat59 j a0_) := by
  intro a0_
  unfold Concat59 Concat59.tw
  repeat' (first | with_reducible exact Le.refl _ | with_reducible exact Grow112.le _ _ hk_ _ _ | with_reducible exact Concat59.l0.le _ _ hk_ _ | with_reducible exact Concat59.l1.le _ _ hk_ _ | with_reducible refine Le.self ?_ | with_reducible refine Le.cond ?_ ?_ | with_reducible refine Le.orNil ?_ ?_ | with_reducible refine Le.agree ?_ ?_ | with_reducible refine Le.joined ?_ ?_ | with_reducible refine Le.bind ?_ ?_ | with_reducible refine Le.loop hk_ ?_ _ | with_reducible refine Le.prod ?_ | intro _ | (dsimp only) | exact Le.refl _)

def Check18.l0.tw (k : Nat) (c : (Int × ((List (Int × (Int × (Int × (Int × Int))))) × ((List Int) × ((List Int) × (List Int)))))) : ((Int × ((List (Int × (Int × (Int × (Int × Int))))) × ((List Int) × ((List Int) × (List Int))))) × Int) → Option (((Int × ((List (Int × (Int × (Int × (Int × Int))))) × ((List Int) × ((List Int) × (List Int))))) × Int) ⊕ ((Int × ((List (Int × (Int × (Int × (Int × Int))))) × ((List Int) × ((List Int) × (List Int))))) ⊕ (Int × Unit)))
  | (c_1, t45) =>
    cond (decide (t45 < (List.length c.2.1 : Int)))
      ((one72.tw k c_1 t45).bind fun t50 =>
      cond (t50.1 != 0)
        (some (Sum.inr (Sum.inr (t50.1, ()))))
        (some (Sum.inl (c_1, (w64 (t45 + 1))))))
      (some (Sum.inr (Sum.inl c_1)))
theorem Check18.l0.le (k j : Nat) (hk_ : k ≤ j) : ∀ a0_, ∀ s, Le (Check18.l0.tw k a0_ s) (Check18.l0 j a0_ s) := by
  intro a0_
  unfold Check18.l0 Check18.l0.tw
  repeat' (first | with_reducible exact Le.refl _ | with_reducible exact one72.le _ _ hk_ _ _ | with_reducible refine Le.self ?_ | with_reducible refine Le.cond ?_ ?_ | with_reducible refine Le.orNil ?_ ?_ | with_reducible refine Le.agree ?_ ?_ | with_reducible refine Le.joined ?_ ?_ | with_reducible refine Le.bind ?_ ?_ | with_reducible refine Le.loop hk_ ?_ _ | with_reducible refine Le.prod ?_ | intro _ | (dsimp only) | exact Le.refl _)

def Check18.l1.tw (k : Nat) (t60 : ((List Int) × Unit)) : ((Int × ((List (Int × (Int × (Int × (Int × Int))))) × ((List Int) × ((List Int) × (List Int))))) × Int) → Option (((Int × ((List (Int × (Int × (Int × (Int × Int))))) × ((List Int) × ((List Int) × (List Int))))) × Int) ⊕ ((Int × ((List (Int × (Int × (Int × (Int × Int))))) × ((List Int) × ((List Int) × (List Int))))) ⊕ (Int × Unit)))
  | (c_3, t62) =>
    cond (decide (t62 < (List.length t60.1 : Int)))
      ((rd t60.1 t62).bind fun t64 =>
      cond (cond (decide (t64 < 0)) true (decide (t64 ≥ (List.length c_3.2.1 : Int))))
        (some (Sum.inr (Sum.inr (4, ()))))
        (some (Sum.inl (c_3, (w64 (t62 + 1))))))
      (some (Sum.inr (Sum.inl c_3)))
theorem Check18.l1.le (k j : Nat) (hk_ : k ≤ j) : ∀ a0_, ∀ s, Le (Check18.l1.tw k a0_ s) (Check18.l1 j a0_ s) := by
  intro a0_
  unfold Check18.l1 Check18.l1.tw
  repeat' (first | with_reducible exact Le.refl _ | with_reducible refine Le.self ?_ | with_reducible refine Le.cond ?_ ?_ | with_reducible refine Le.orNil ?_ ?_ | with_reducible refine Le.agree ?_ ?_ | with_reducible refine Le.joined ?_ ?_ | with_reducible refine Le.bind ?_ ?_ | with_reducible refine Le.loop hk_ ?_ _ | with_reducible refine Le.prod ?_ | intro _ | (dsimp only) | exact Le.refl _)

def Check18.l2.tw (k : Nat) (c_4 : (Int × ((List (Int × (Int × (Int × (Int × Int))))) × ((List Int) × ((List Int) × (List Int)))))) : Int → Option (Int ⊕ (Unit ⊕ (Int × Unit)))
  | t79 =>
    cond (decide (t79 < (List.length c_4.2.2.2.2 : Int)))
      ((rd c_4.2.2.2.2 t79).bind fun t81 =>
      cond (cond (t81 != 0) (t81 != 1) false)
        (some (Sum.inr (Sum.inr (1, ()))))
        (some (Sum.inl (w64 (t79 + 1)))))
      (some (Sum.inr (Sum.inl ())))
theorem Check18.l2.le (k j : Nat) (hk_ : k ≤ j) : ∀ a0_, ∀ s, Le (Check18.l2.tw k a0_ s) (Check18.l2 j a0_ s) := by
  intro a0_
  unfold Check18.l2 Check18.l2.tw
  repeat' (first | with_reducible exact Le.refl _ | with_reducible refine Le.self ?_ | with_reducible refine Le.cond ?_ ?_ | with_reducible refine Le.orNil ?_ ?_ | with_reducible refine Le.agree ?_ ?_ | with_reducible refine Le.joined ?_ ?_ | with_reducible refine Le.bind ?_ ?_ | with_reducible refine Le.loop hk_ ?_ _ | with_reducible refine Le.prod ?_ | intro _ | (dsimp only) | exact Le.refl _)

def Check18.tw (k : Nat) (c : (Int × ((List (Int × (Int × (Int × (Int × Int))))) × ((List Int) × ((List Int) × (List Int)))))) : Option (Int × Unit) :=
  cond (cond (cond (cond (cond (decide (c.1 < 0)) true (decide (c.1 > 10))) true (decide ((List.length c.2.1 : Int) > 400))) true (decide ((List.length c.2.2.1 : Int) > 10))) true (decide ((List.length c.2.2.2.1 : Int) > 10)))
    (some (2, ()))
    (cond ((List.length c.2.2.2.2 : Int) != (List.length c.2.2.2.1 : Int))
      (some (3, ()))
      (Option.bind
        (loopN (Check18.l0.tw k c) k (c, 0) : Option ((Int × ((List (Int × (Int × (Int × (Int × Int))))) × ((List Int) × ((List Int) × (List Int))))) ⊕ (Int × Unit))) (joined fun (c_2 : (Int × ((List (Int × (Int × (Int × (Int × Int))))) × ((List Int) × ((List Int) × (List Int)))))) =>
        (Concat59.tw k [c_2.2.2.1, c_2.2.2.2.1]).bind fun t60 =>
        Option.bind
          (loopN (Check18.l1.tw k t60) k (c_2, 0) : Option ((Int × ((List (Int × (Int × (Int × (Int × Int))))) × ((List Int) × ((List Int) × (List Int))))) ⊕ (Int × Unit))) (joined fun (c_4 : (Int × ((List (Int × (Int × (Int × (Int × Int))))) × ((List Int) × ((List Int) × (List Int)))))) =>
          Option.bind
            (loopN (Check18.l2.tw k c_4) k 0 : Option (Unit ⊕ (Int × Unit))) (joined fun (_ : Unit) =>
            some (0, ()))))))
theorem Check18.le (k j : Nat) (hk_ : k ≤ j) : ∀ a0_, Le (Check18.tw k a0_) (Check18 j a0_) := by
  intro a0_
  unfold Check18 Check18.tw
  repeat' (first | with_reducible exact Le.refl _ | with_reducible exact Concat59.le _ _ hk_ _ | with_reducible exact Check18.l0.le _ _ hk_ _ | with_reducible exact Check18.l1.le _ _ hk_ _ | with_reducible exact Check18.l2.le _ _ hk_ _ | with_reducible refine Le.self ?_ | with_reducible refine Le.cond ?_ ?_ | with_reducible refine Le.orNil ?_ ?_ | with_reducible refine Le.agree ?_ ?_ | with_reducible refine Le.joined ?_ ?_ | with_reducible refine Le.bind ?_ ?_ | with_reducible refine Le.loop hk_ ?_ _ | with_reducible refine Le.prod ?_ | intro _ | (dsimp only) | exact Le.refl _)

def Start80.l0.tw (k : Nat) (t12 : (List Int)) : (Int × Int) → Option ((Int × Int) ⊕ Int)
  | (out, t14) =>
    cond (decide (t14 < (List.length t12 : Int)))
      ((rd t12 t14).bind fun t17 =>
      (if t14 < 0 then none else some (shlI .i64 (ibits .and .i64 t17 1) t14)).bind fun t23 =>
      some (Sum.inl ((ibits .or .i64 out t23), (w64 (t14 + 1)))))
      (some (Sum.inr out))
theorem Start80.l0.le (k j : Nat) (hk_ : k ≤ j) : ∀ a0_, ∀ s, Le (Start80.l0.tw k a0_ s) (Start80.l0 j a0_ s) := by
  intro a0_
  unfold Start80.l0 Start80.l0.tw
  repeat' (first | with_reducible exact Le.refl _ | with_reducible refine Le.self ?_ | with_reducible refine Le.cond ?_ ?_ | with_reducible refine Le.orNil ?_ ?_ | with_reducible refine Le.agree ?_ ?_ | with_reducible refine Le.joined ?_ ?_ | with_reducible refine Le.bind ?_ ?_ | with_reducible refine Le.loop hk_ ?_ _ | with_reducible refine Le.prod ?_ | intro _ | (dsimp only) | exact Le.refl _)

def Start80.tw (k : Nat) (c : (Int × ((List (Int × (Int × (Int × (Int × Int))))) × ((List Int) × ((List Int) × (List Int)))))) : Option (Int × Unit) :=
  (slc c.2.2.2.2 0 (mnI (List.length c.2.2.2.2 : Int) 10)).bind fun t12 =>
  Option.bind
    (loopN (Start80.l0.tw k t12) k (0, 0) : Option Int) fun (out_1 : Int) =>
  some (out_1, ())
theorem Start80.le (k j : Nat) (hk_ : k ≤ j) : ∀ a0_, Le (Start80.tw k a0_) (Start80 j a0_) := by
  intro a0_
  unfold Start80 Start80.tw
  repeat' (first | with_reducible exact Le.refl _ | with_reducible exact Start80.l0.le _ _ hk_ _ | with_reducible refine Le.self ?_ | with_reducible refine Le.cond ?_ ?_ | with_reducible refine Le.orNil ?_ ?_ | with_reducible refine Le.agree ?_ ?_ | with_reducible refine Le.joined ?_ ?_ | with_reducible refine Le.bind ?_ ?_ | with_reducible refine Le.loop hk_ ?_ _ | with_reducible refine Le.prod ?_ | intro _ | (dsimp only) | exact Le.refl _)

def values69.l0.tw (k : Nat) (c : (Int × ((List (Int × (Int × (Int × (Int × Int))))) × ((List Int) × ((List Int) × (List Int)))))) (state : Int) (in_ : Int) : (Unit × (Int × (List Int))) → Option ((Unit × (Int × (List Int))) ⊕ (Unit × (List Int)))
  | (_, t17, t13) =>
    cond (decide (t17 < (List.length c.2.1 : Int)))
      ((rd c.2.1 t17).bind fun t20 =>
      Option.bind
        (cond (t20.1 == 0)
          ((rd t13 t17).bind fun _ =>
          (rd t13 t17).bind fun _ =>
          some ((), (List.set t13 (Int.toNat t17) t20.2.2.2.2)))
          (Option.bind
            (cond (t20.1 == 1)
              ((if t20.2.2.2.2 < 0 then none else some (shrI .i64 in_ t20.2.2.2.2)).bind fun t38 =>
              (rd t13 t17).bind fun _ =>
              (rd t13 t17).bind fun _ =>
              some ((), (List.set t13 (Int.toNat t17) (ibits .and .i64 t38 1))))
              (Option.bind
                (cond (t20.1 == 2)
                  ((if t20.2.2.2.2 < 0 then none else some (shrI .i64 state t20.2.2.2.2)).bind fun t48 =>
                  (rd t13 t17).bind fun _ =>
                  (rd t13 t17).bind fun _ =>
                  some ((), (List.set t13 (Int.toNat t17) (ibits .and .i64 t48 1))))
                  (Option.bind
                    (cond (t20.1 == 3)
                      ((rd t13 t20.2.1).bind fun _ =>
                      (rd t13 t20.2.1).bind fun t59 =>
                      (rd t13 t17).bind fun _ =>
                      (rd t13 t17).bind fun _ =>
                      some ((), (List.set t13 (Int.toNat t17) (w64 (1 - t59)))))
                      (Option.bind
                        (cond (t20.1 == 4)
                          ((rd t13 t20.2.1).bind fun _ =>
                          (rd t13 t20.2.1).bind fun t70 =>
                          (rd t13 t20.2.2.1).bind fun _ =>
                          (rd t13 t20.2.2.1).bind fun t75 =>
                          (rd t13 t17).bind fun _ =>
                          (rd t13 t17).bind fun _ =>
                          some ((), (List.set t13 (Int.toNat t17) (ibits .and .i64 t70 t75))))
                          (Option.bind
                            (cond (t20.1 == 5)
                              ((rd t13 t20.2.1).bind fun _ =>
                              (rd t13 t20.2.1).bind fun t86 =>
                              (rd t13 t20.2.2.1).bind fun _ =>
                              (rd t13 t20.2.2.1).bind fun t91 =>
                              (rd t13 t17).bind fun _ =>
                              (rd t13 t17).bind fun _ =>
                              some ((), (List.set t13 (Int.toNat t17) (ibits .or .i64 t86 t91))))
                              (Option.bind
                                (cond (t20.1 == 6)
                                  ((rd t13 t20.2.1).bind fun _ =>
                                  (rd t13 t20.2.1).bind fun t102 =>
                                  (rd t13 t20.2.2.1).bind fun _ =>
                                  (rd t13 t20.2.2.1).bind fun t107 =>
                                  (rd t13 t17).bind fun _ =>
                                  (rd t13 t17).bind fun _ =>
                                  some ((), (List.set t13 (Int.toNat t17) (ibits .xor .i64 t102 t107))))
                                  (Option.bind
                                    (cond (t20.1 == 7)
                                      ((rd t13 t20.2.2.2.1).bind fun _ =>
                                      (rd t13 t20.2.2.2.1).bind fun t118 =>
                                      (rd t13 t17).bind fun _ =>
                                      (rd t13 t17).bind fun _ =>
                                      let t13_8 : (List Int) := (List.set t13 (Int.toNat t17) t118)
                                      (rd t13_8 t20.2.1).bind fun _ =>
                                      (rd t13_8 t20.2.1).bind fun t124 =>
                                      Option.bind
                                        (cond (t124 == 1)
                                          ((rd t13_8 t20.2.2.1).bind fun _ =>
                                          (rd t13_8 t20.2.2.1).bind fun t132 =>
                                          (rd t13_8 t17).bind fun _ =>
                                          (rd t13_8 t17).bind fun _ =>
                                          some ((), (List.set t13_8 (Int.toNat t17) t132)))
                                          (some ((), t13_8)) : Option (Unit × (List Int))) fun ((_, t13_10) : (Unit × (List Int))) =>
                                      some ((), t13_10))
                                      (some ((), t13)) : Option (Unit × (List Int))) fun ((_, t13_11) : (Unit × (List Int))) =>
                                  some ((), t13_11)) : Option (Unit × (List Int))) fun ((_, t13_12) : (Unit × (List Int))) =>
                              some ((), t13_12)) : Option (Unit × (List Int))) fun ((_, t13_13) : (Unit × (List Int))) =>
                          some ((), t13_13)) : Option (Unit × (List Int))) fun ((_, t13_14) : (Unit × (List Int))) =>
                      some ((), t13_14)) : Option (Unit × (List Int))) fun ((_, t13_15) : (Unit × (List Int))) =>
                  some ((), t13_15)) : Option (Unit × (List Int))) fun ((_, t13_16) : (Unit × (List Int))) =>
              some ((), t13_16)) : Option (Unit × (List Int))) fun ((_, t13_17) : (Unit × (List Int))) =>
          some ((), t13_17)) : Option (Unit × (List Int))) fun ((_, t13_18) : (Unit × (List Int))) =>
      some (Sum.inl ((), (w64 (t17 + 1)), t13_18)))
      (some (Sum.inr ((), t13)))
theorem values69.l0.le (k j : Nat) (hk_ : k ≤ j) : ∀ a0_ a1_ a2_, ∀ s, Le (values69.l0.tw k a0_ a1_ a2_ s) (values69.l0 j a0_ a1_ a2_ s) := by
  intro a0_ a1_ a2_
  unfold values69.l0 values69.l0.tw
  repeat' (first | with_reducible exact Le.refl _ | with_reducible refine Le.self ?_ | with_reducible refine Le.cond ?_ ?_ | with_reducible refine Le.orNil ?_ ?_ | with_reducible refine Le.agree ?_ ?_ | with_reducible refine Le.joined ?_ ?_ | with_reducible refine Le.bind ?_ ?_ | with_reducible refine Le.loop hk_ ?_ _ | with_reducible refine Le.prod ?_ | intro _ | (dsimp only) | exact Le.refl _)

def values69.tw (k : Nat) (c : (Int × ((List (Int × (Int × (Int × (Int × Int))))) × ((List Int) × ((List Int) × (List Int)))))) (state : Int) (in_ : Int) : Option ((List Int) × Unit) :=
  (if 0 ≤ (List.length c.2.1 : Int) ∧ (List.length c.2.1 : Int) ≤ (List.length c.2.1 : Int) ∧ (List.length c.2.1 : Int) * 8 ≤ 140737488355328 then some () else none).bind fun _ =>
  Option.bind
    (loopN (values69.l0.tw k c state in_) k ((), 0, (List.replicate (Int.toNat (List.length c.2.1 : Int)) 0)) : Option (Unit × (List Int))) fun ((_, t13_19) : (Unit × (List Int))) =>
  some (t13_19, ())
theorem values69.le (k j : Nat) (hk_ : k ≤ j) : ∀ a0_ a1_ a2_, Le (values69.tw k a0_ a1_ a2_) (values69 j a0_ a1_ a2_) := by
  intro a0_ a1_ a2_
  unfold values69 values69.tw
  repeat' (first | with_reducible exact Le.refl _ | with_reducible exact values69.l0.le _ _ hk_ _ _ _ | with_reducible refine Le.self ?_ | with_reducible refine Le.cond ?_ ?_ | with_reducible refine Le.orNil ?_ ?_ | with_reducible refine Le.agree ?_ ?_ | with_reducible refine Le.joined ?_ ?_ | with_reducible refine Le.bind ?_ ?_ | with_reducible refine Le.loop hk_ ?_ _ | with_reducible refine Le.prod ?_ | intro _ | (dsimp only) | exact Le.refl _)

def bits70.l0.tw (k : Nat) (v : (List Int)) (l : (List Int)) : (Int × Int) → Option ((Int × Int) ⊕ Int)
  | (out, t10) =>
    cond (decide (t10 < (List.length l : Int)))
      ((rd l t10).bind fun t13 =>
      (rd v t13).bind fun t18 =>
      (if t10 < 0 then none else some (shlI .i64 t18 t10)).bind fun t21 =>
      some (Sum.inl ((ibits .or .i64 out t21), (w64 (t10 + 1)))))
      (some (Sum.inr out))
theorem bits70.l0.le (k j : Nat) (hk_ : k ≤ j) : ∀ a0_ a1_, ∀ s, Le (bits70.l0.tw k a0_ a1_ s) (bits70.l0 j a0_ a1_ s) := by
  intro a0_ a1_
  unfold bits70.l0 bits70.l0.tw
  repeat' (first | with_reducible exact Le.refl _ | with_reducible refine Le.self ?_ | with_reducible refine Le.cond ?_ ?_ | with_reducible refine Le.orNil ?_ ?_ | with_reducible refine Le.agree ?_ ?_ | with_reducible refine Le.joined ?_ ?_ | with_reducible refine Le.bind ?_ ?_ | with_reducible refine Le.loop hk_ ?_ _ | with_reducible refine Le.prod ?_ | intro _ | (dsimp only) | exact Le.refl _)

def bits70.tw (k : Nat) (v : (List Int)) (l : (List Int)) : Option (Int × Unit) :=
  Option.bind
    (loopN (bits70.l0.tw k v l) k (0, 0) : Option Int) fun (out_1 : Int) =>
  some (out_1, ())
theorem bits70.le (k j : Nat) (hk_ : k ≤ j) : ∀ a0_ a1_, Le (bits70.tw k a0_ a1_) (bits70 j a0_ a1_) := by
  intro a0_ a1_
  unfold bits70 bits70.tw
  repeat' (first | with_reducible exact Le.refl _ | with_reducible exact bits70.l0.le _ _ hk_ _ _ | with_reducible refine Le.self ?_ | with_reducible refine Le.cond ?_ ?_ | with_reducible refine Le.orNil ?_ ?_ | with_reducible refine Le.agree ?_ ?_ | with_reducible refine Le.joined ?_ ?_ | with_reducible refine Le.bind ?_ ?_ | with_reducible refine Le.loop hk_ ?_ _ | with_reducible refine Le.prod ?_ | intro _ | (dsimp only) | exact Le.refl _)

def Step16.tw (k : Nat) (c : (Int × ((List (Int × (Int × (Int × (Int × Int))))) × ((List Int) × ((List Int) × (List Int)))))) (state : Int) (in_ : Int) : Option ((Int × (Int × Unit)) × Unit) :=
  (Check18.tw k c).bind fun t10 =>
  cond (t10.1 != 0)
    (some ((0, 0, ()), ()))
    ((values69.tw k c state in_).bind fun t15 =>
    (bits70.tw k t15.1 c.2.2.1).bind fun t19 =>
    (bits70.tw k t15.1 c.2.2.2.1).bind fun t23 =>
    some ((t19.1, t23.1, ()), ()))
theorem Step16.le (k j : Nat) (hk_ : k ≤ j) : ∀ a0_ a1_ a2_, Le (Step16.tw k a0_ a1_ a2_) (Step16 j a0_ a1_ a2_) := by
  intro a0_ a1_ a2_
  unfold Step16 Step16.tw
  repeat' (first | with_reducible exact Le.refl _ | with_reducible exact Check18.le _ _ hk_ _ | with_reducible exact values69.le _ _ hk_ _ _ _ | with_reducible exact bits70.le _ _ hk_ _ _ | with_reducible refine Le.self ?_ | with_reducible refine Le.cond ?_ ?_ | with_reducible refine Le.orNil ?_ ?_ | with_reducible refine Le.agree ?_ ?_ | with_reducible refine Le.joined ?_ ?_ | with_reducible refine Le.bind ?_ ?_ | with_reducible refine Le.loop hk_ ?_ _ | with_reducible refine Le.prod ?_ | intro _ | (dsimp only) | exact Le.refl _)

def Check105.l0.tw (k : Nat) (t40 : (List (Int × Int))) : ((Int × (Int × (List (List (Int × Int))))) × Int) → Option (((Int × (Int × (List (List (Int × Int))))) × Int) ⊕ ((Int × (Int × (List (List (Int × Int))))) ⊕ (((Int × (Int × (List (List (Int × Int))))) × Int) ⊕ (Unit ⊕ (Int × Unit)))))
  | (t_2, t50) =>
    cond (decide (t50 < (List.length t40 : Int)))
      ((rd t40 t50).bind fun t52 =>
      Option.bind (cond (decide (t52.1 < 0))
        (some true)
        ((if t_2.2.1 < 0 then none else some (shlI .i64 1 t_2.2.1)).bind fun t62 =>
        some (decide (t52.1 ≥ t62)))) fun t64 =>
      cond t64
        (some (Sum.inr (Sum.inr (Sum.inr (Sum.inr (1, ()))))))
        (cond (cond (decide (t52.2 < 0)) true (decide (t52.2 ≥ (List.length t_2.2.2 : Int))))
          (some (Sum.inr (Sum.inr (Sum.inr (Sum.inr (4, ()))))))
          (some (Sum.inl (t_2, (w64 (t50 + 1)))))))
      (some (Sum.inr (Sum.inl t_2)))
theorem Check105.l0.le (k j : Nat) (hk_ : k ≤ j) : ∀ a0_, ∀ s, Le (Check105.l0.tw k a0_ s) (Check105.l0 j a0_ s) := by
  intro a0_
  unfold Check105.l0 Check105.l0.tw
  repeat' (first | with_reducible exact Le.refl _ | with_reducible refine Le.self ?_ | with_reducible refine Le.cond ?_ ?_ | with_reducible refine Le.orNil ?_ ?_ | with_reducible refine Le.agree ?_ ?_ | with_reducible refine Le.joined ?_ ?_ | with_reducible refine Le.bind ?_ ?_ | with_reducible refine Le.loop hk_ ?_ _ | with_reducible refine Le.prod ?_ | intro _ | (dsimp only) | exact Le.refl _)

def Check105.l1.tw (k : Nat) (t : (Int × (Int × (List (List (Int × Int)))))) : ((Int × (Int × (List (List (Int × Int))))) × Int) → Option (((Int × (Int × (List (List (Int × Int))))) × Int) ⊕ (Unit ⊕ (Int × Unit)))
  | (t_1, t38) =>
    cond (decide (t38 < (List.length t.2.2 : Int)))
      ((rd t.2.2 t38).bind fun t40 =>
      (if t_1.1 < 0 then none else some (shlI .i64 1 t_1.1)).bind fun t46 =>
      cond ((List.length t40 : Int) != t46)
        (some (Sum.inr (Sum.inr (3, ()))))
        (Option.bind
          (loopN (Check105.l0.tw k t40) k (t_1, 0) : Option ((Int × (Int × (List (List (Int × Int))))) ⊕ (((Int × (Int × (List (List (Int × Int))))) × Int) ⊕ (Unit ⊕ (Int × Unit))))) (joined fun (t_3 : (Int × (Int × (List (List (Int × Int)))))) =>
          some (Sum.inl (t_3, (w64 (t38 + 1)))))))
      (some (Sum.inr (Sum.inl ())))
theorem Check105.l1.le (k j : Nat) (hk_ : k ≤ j) : ∀ a0_, ∀ s, Le (Check105.l1.tw k a0_ s) (Check105.l1 j a0_ s) := by
  intro a0_
  unfold Check105.l1 Check105.l1.tw
  repeat' (first | with_reducible exact Le.refl _ | with_reducible exact Check105.l0.le _ _ hk_ _ | with_reducible refine Le.self ?_ | with_reducible refine Le.cond ?_ ?_ | with_reducible refine Le.orNil ?_ ?_ | with_reducible refine Le.agree ?_ ?_ | with_reducible refine Le.joined ?_ ?_ | with_reducible refine Le.bind ?_ ?_ | with_reducible refine Le.loop hk_ ?_ _ | with_reducible refine Le.prod ?_ | intro _ | (dsimp only) | exact Le.refl _)

def Check105.tw (k : Nat) (t : (Int × (Int × (List (List (Int × Int)))))) : Option (Int × Unit) :=
  cond (cond (cond (cond (cond (decide (t.1 < 0)) true (decide (t.1 > 4))) true (decide (t.2.1 < 0))) true (decide (t.2.1 > 10))) true (decide ((List.length t.2.2 : Int) > 64)))
    (some (2, ()))
    (cond ((List.length t.2.2 : Int) == 0)
      (some (13, ()))
      (Option.bind
        (loopN (Check105.l1.tw k t) k (t, 0) : Option (Unit ⊕ (Int × Unit))) (joined fun (_ : Unit) =>
        some (0, ()))))
theorem Check105.le (k j : Nat) (hk_ : k ≤ j) : ∀ a0_, Le (Check105.tw k a0_) (Check105 j a0_) := by
  intro a0_
  unfold Check105 Check105.tw
  repeat' (first | with_reducible exact Le.refl _ | with_reducible exact Check105.l1.le _ _ hk_ _ | with_reducible refine Le.self ?_ | with_reducible refine Le.cond ?_ ?_ | with_reducible refine Le.orNil ?_ ?_ | with_reducible refine Le.agree ?_ ?_ | with_reducible refine Le.joined ?_ ?_ | with_reducible refine Le.bind ?_ ?_ | with_reducible refine Le.loop hk_ ?_ _ | with_reducible refine Le.prod ?_ | intro _ | (dsimp only) | exact Le.refl _)

def Equal25.l0.tw (k : Nat) (s1 : (List Int)) (s2 : (List Int)) : Int → Option (Int ⊕ (Unit ⊕ (Bool × Unit)))
  | t13 =>
    cond (decide (t13 < (List.length s1 : Int)))
      ((rd s1 t13).bind fun t18 =>
      (rd s2 t13).bind fun t22 =>
      cond (t18 != t22)
        (some (Sum.inr (Sum.inr (false, ()))))
        (some (Sum.inl (w64 (t13 + 1)))))
      (some (Sum.inr (Sum.inl ())))
theorem Equal25.l0.le (k j : Nat) (hk_ : k ≤ j) : ∀ a0_ a1_, ∀ s, Le (Equal25.l0.tw k a0_ a1_ s) (Equal25.l0 j a0_ a1_ s) := by
  intro a0_ a1_
  unfold Equal25.l0 Equal25.l0.tw
  repeat' (first | with_reducible exact Le.refl _ | with_reducible refine Le.self ?_ | with_reducible refine Le.cond ?_ ?_ | with_reducible refine Le.orNil ?_ ?_ | with_reducible refine Le.agree ?_ ?_ | with_reducible refine Le.joined ?_ ?_ | with_reducible refine Le.bind ?_ ?_ | with_reducible refine Le.loop hk_ ?_ _ | with_reducible refine Le.prod ?_ | intro _ | (dsimp only) | exact Le.refl _)

def Equal25.tw (k : Nat) (s1 : (List Int)) (s2 : (List Int)) : Option (Bool × Unit) :=
  cond ((List.length s1 : Int) != (List.length s2 : Int))
    (some (false, ()))
    (Option.bind
      (loopN (Equal25.l0.tw k s1 s2) k 0 : Option (Unit ⊕ (Bool × Unit))) (joined fun (_ : Unit) =>
      some (true, ())))
theorem Equal25.le (k j : Nat) (hk_ : k ≤ j) : ∀ a0_ a1_, Le (Equal25.tw k a0_ a1_) (Equal25 j a0_ a1_) := by
  intro a0_ a1_
  unfold Equal25 Equal25.tw
  repeat' (first | with_reducible exact Le.refl _ | with_reducible exact Equal25.l0.le _ _ hk_ _ _ | with_reducible refine Le.self ?_ | with_reducible refine Le.cond ?_ ?_ | with_reducible refine Le.orNil ?_ ?_ | with_reducible refine Le.agree ?_ ?_ | with_reducible refine Le.joined ?_ ?_ | with_reducible refine Le.bind ?_ ?_ | with_reducible refine Le.loop hk_ ?_ _ | with_reducible refine Le.prod ?_ | intro _ | (dsimp only) | exact Le.refl _)

def Check65.tw (k : Nat) (a : (Int × ((List (Int × (Int × (Int × (Int × Int))))) × ((List Int) × ((List Int) × (List Int)))))) (t : (Int × (Int × (List (List (Int × Int)))))) : Option (Int × Unit) :=
  (Check18.tw k a).bind fun t8 =>
  cond (t8.1 != 0)
    (some (t8.1, ()))
    ((Check105.tw k t).bind fun t13 =>
    cond (t13.1 != 0)
      (some (t13.1, ()))
      (cond (cond (a.1 != t.1) true ((List.length a.2.2.1 : Int) != t.2.1))
        (some (8, ()))
        (some (0, ()))))
theorem Check65.le (k j : Nat) (hk_ : k ≤ j) : ∀ a0_ a1_, Le (Check65.tw k a0_ a1_) (Check65 j a0_ a1_) := by
  intro a0_ a1_
  unfold Check65 Check65.tw
  repeat' (first | with_reducible exact Le.refl _ | with_reducible exact Check18.le _ _ hk_ _ | with_reducible exact Check105.le _ _ hk_ _ | with_reducible refine Le.self ?_ | with_reducible refine Le.cond ?_ ?_ | with_reducible refine Le.orNil ?_ ?_ | with_reducible refine Le.agree ?_ ?_ | with_reducible refine Le.joined ?_ ?_ | with_reducible refine Le.bind ?_ ?_ | with_reducible refine Le.loop hk_ ?_ _ | with_reducible refine Le.prod ?_ | intro _ | (dsimp only) | exact Le.refl _)

def step85.tw (k : Nat) (a : (Int × ((List (Int × (Int × (Int × (Int × Int))))) × ((List Int) × ((List Int) × (List Int)))))) (t : (Int × (Int × (List (List (Int × Int)))))) (p : (List Int)) (in_ : Int) : Option ((Int × (Int × ((List Int) × Unit))) × Unit) :=
  (rd p 0).bind fun t16 =>
  (Step16.tw k a t16 in_).bind fun t19 =>
  (rd p 1).bind fun t24 =>
  (rd t.2.2 t24).bind fun t26 =>
  (rd t26 in_).bind fun t29 =>
  some ((t19.1.1, t29.1, [t19.1.2.1, t29.2], ()), ())
theorem step85.le (k j : Nat) (hk_ : k ≤ j) : ∀ a0_ a1_ a2_ a3_, Le (step85.tw k a0_ a1_ a2_ a3_) (step85 j a0_ a1_ a2_ a3_) := by
  intro a0_ a1_ a2_ a3_
  unfold step85 step85.tw
  repeat' (first | with_reducible exact Le.refl _ | with_reducible exact Step16.le _ _ hk_ _ _ _ | with_reducible refine Le.self ?_ | with_reducible refine Le.cond ?_ ?_ | with_reducible refine Le.orNil ?_ ?_ | with_reducible refine Le.agree ?_ ?_ | with_reducible refine Le.joined ?_ ?_ | with_reducible refine Le.bind ?_ ?_ | with_reducible refine Le.loop hk_ ?_ _ | with_reducible refine Le.prod ?_ | intro _ | (dsimp only) | exact Le.refl _)

def Clone81.tw (k : Nat) (s : (List Int)) : Option (Unit × (List Int)) :=
  orNilD (List.length s)
    (cond true
      (some ((), []))
      ((if room (0 + List.length s) 8 then some () else none).bind fun _ =>
      some ((), s)))
    (cond false
      (some ((), []))
      ((if room (0 + List.length s) 8 then some () else none).bind fun _ =>
      some ((), s)))
theorem Clone81.le (k j : Nat) (hk_ : k ≤ j) : ∀ a0_, Le (Clone81.tw k a0_) (Clone81 j a0_) := by
  intro a0_
  unfold Clone81 Clone81.tw
  repeat' (first | with_reducible exact Le.refl _ | with_reducible refine Le.self ?_ | with_reducible refine Le.cond ?_ ?_ | with_reducible refine Le.orNil ?_ ?_ | with_reducible refine Le.agree ?_ ?_ | with_reducible refine Le.joined ?_ ?_ | with_reducible refine Le.bind ?_ ?_ | with_reducible refine Le.loop hk_ ?_ _ | with_reducible refine Le.prod ?_ | intro _ | (dsimp only) | exact Le.refl _)

def Find63.l0.tw (k : Nat) (t43 : Int) : ((Int × ((List (Int × (Int × (Int × (Int × Int))))) × ((List Int) × ((List Int) × (List Int))))) × ((Int × (Int × (List (List (Int × Int))))) × (Unit × (Unit × ((List Int) × (Int × ((List ((List Int) × (List Int))) × (List (List Int))))))))) → Option (((Int × ((List (Int × (Int × (Int × (Int × Int))))) × ((List Int) × ((List Int) × (List Int))))) × ((Int × (Int × (List (List (Int × Int))))) × (Unit × (Unit × ((List Int) × (Int × ((List ((List Int) × (List Int))) × (List (List Int))))))))) ⊕ (((Int × ((List (Int × (Int × (Int × (Int × Int))))) × ((List Int) × ((List Int) × (List Int))))) × ((Int × (Int × (List (List (Int × Int))))) × (Unit × (Unit × ((List ((List Int) × (List Int))) × (List (List Int))))))) ⊕ (((Int × ((List (Int × (Int × (Int × (Int × Int))))) × ((List Int) × ((List Int) × (List Int))))) × ((Int × (Int × (List (List (Int × Int))))) × (Unit × (Unit × ((List ((List Int) × (List Int))) × (List (List Int))))))) ⊕ (Unit ⊕ (((List Int) × (Bool × (Int × Unit))) × Unit)))))
  | (a_2, t_2, _, _, p, t44, o1_1, o2_1) =>
    cond (decide (t44 < t43))
      ((step85.tw k a_2 t_2 p t44).bind fun t52 =>
      (Clone81.tw k (Option.getD (α := (List Int)) (mget (.arr 2 (.int .i64)) (.sl (.int .i64)) o1_1 p) [])).bind fun t59 =>
      (if room (List.length t59.2 + List.length ([t44] : List Int)) 8 then some () else none).bind fun _ =>
      let t62 : (List Int) := (t59.2 ++ ([t44] : List Int))
      cond (t52.1.1 != t52.1.2.1)
        (some (Sum.inr (Sum.inr (Sum.inr (Sum.inr ((t62, true, 0, ()), ()))))))
        (Option.bind
          (cond (!(Option.isSome (mget (.arr 2 (.int .i64)) (.sl (.int .i64)) o1_1 t52.1.2.2.1)))
            ((if room (List.length o2_1 + List.length [t52.1.2.2.1]) 16 then some () else none).bind fun _ =>
            some (a_2, t_2, (), (), p, (mput (.arr 2 (.int .i64)) (.sl (.int .i64)) o1_1 t52.1.2.2.1 t62), (o2_1 ++ [t52.1.2.2.1])))
            (some (a_2, t_2, (), (), p, o1_1, o2_1)) : Option ((Int × ((List (Int × (Int × (Int × (Int × Int))))) × ((List Int) × ((List Int) × (List Int))))) × ((Int × (Int × (List (List (Int × Int))))) × (Unit × (Unit × ((List Int) × ((List ((List Int) × (List Int))) × (List (List Int))))))))) fun ((a_3, t_3, _, _, p_1, o1_2, o2_2) : ((Int × ((List (Int × (Int × (Int × (Int × Int))))) × ((List Int) × ((List Int) × (List Int))))) × ((Int × (Int × (List (List (Int × Int))))) × (Unit × (Unit × ((List Int) × ((List ((List Int) × (List Int))) × (List (List Int))))))))) =>
        some (Sum.inl (a_3, t_3, (), (), p_1, (w64 (t44 + 1)), o1_2, o2_2))))
      (some (Sum.inr (Sum.inl (a_2, t_2, (), (), o1_1, o2_1))))
theorem Find63.l0.le (k j : Nat) (hk_ : k ≤ j) : ∀ a0_, ∀ s, Le (Find63.l0.tw k a0_ s) (Find63.l0 j a0_ s) := by
  intro a0_
  unfold Find63.l0 Find63.l0.tw
  repeat' (first | with_reducible exact Le.refl _ | with_reducible exact step85.le _ _ hk_ _ _ _ _ | with_reducible exact Clone81.le _ _ hk_ _ | with_reducible refine Le.self ?_ | with_reducible refine Le.cond ?_ ?_ | with_reducible refine Le.orNil ?_ ?_ | with_reducible refine Le.agree ?_ ?_ | with_reducible refine Le.joined ?_ ?_ | with_reducible refine Le.bind ?_ ?_ | with_reducible refine Le.loop hk_ ?_ _ | with_reducible refine Le.prod ?_ | intro _ | (dsimp only) | exact Le.refl _)

def Find63.l1.tw (k : Nat) : ((Int × ((List (Int × (Int × (Int × (Int × Int))))) × ((List Int) × ((List Int) × (List Int))))) × ((Int × (Int × (List (List (Int × Int))))) × (Unit × (Unit × ((List ((List Int) × (List Int))) × (List (List Int))))))) → Option (((Int × ((List (Int × (Int × (Int × (Int × Int))))) × ((List Int) × ((List Int) × (List Int))))) × ((Int × (Int × (List (List (Int × Int))))) × (Unit × (Unit × ((List ((List Int) × (List Int))) × (List (List Int))))))) ⊕ (Unit ⊕ (((List Int) × (Bool × (Int × Unit))) × Unit)))
  | (a_1, t_1, _, _, o1, o2) =>
    cond (decide ((List.length o2 : Int) > 0))
      ((rd o2 0).bind fun _ =>
      (rd o2 0).bind fun t38 =>
      (slc o2 1 (List.length o2 : Int)).bind fun t40 =>
      (if a_1.1 < 0 then none else some (shlI .i64 1 a_1.1)).bind fun t43 =>
      Option.bind
        (loopN (Find63.l0.tw k t43) k (a_1, t_1, (), (), t38, 0, o1, t40) : Option (((Int × ((List (Int × (Int × (Int × (Int × Int))))) × ((List Int) × ((List Int) × (List Int))))) × ((Int × (Int × (List (List (Int × Int))))) × (Unit × (Unit × ((List ((List Int) × (List Int))) × (List (List Int))))))) ⊕ (((Int × ((List (Int × (Int × (Int × (Int × Int))))) × ((List Int) × ((List Int) × (List Int))))) × ((Int × (Int × (List (List (Int × Int))))) × (Unit × (Unit × ((List ((List Int) × (List Int))) × (List (List Int))))))) ⊕ (Unit ⊕ (((List Int) × (Bool × (Int × Unit))) × Unit))))) (joined fun ((a_4, t_4, _, _, o1_3, o2_3) : ((Int × ((List (Int × (Int × (Int × (Int × Int))))) × ((List Int) × ((List Int) × (List Int))))) × ((Int × (Int × (List (List (Int × Int))))) × (Unit × (Unit × ((List ((List Int) × (List Int))) × (List (List Int)))))))) =>
        some (Sum.inl (a_4, t_4, (), (), o1_3, o2_3))))
      (some (Sum.inr (Sum.inl ())))
theorem Find63.l1.le (k j : Nat) (hk_ : k ≤ j) : ∀ s, Le (Find63.l1.tw k s) (Find63.l1 j s) := by
  unfold Find63.l1 Find63.l1.tw
  repeat' (first | with_reducible exact Le.refl _ | with_reducible exact Find63.l0.le _ _ hk_ _ | with_reducible refine Le.self ?_ | with_reducible refine Le.cond ?_ ?_ | with_reducible refine Le.orNil ?_ ?_ | with_reducible refine Le.agree ?_ ?_ | with_reducible refine Le.joined ?_ ?_ | with_reducible refine Le.bind ?_ ?_ | with_reducible refine Le.loop hk_ ?_ _ | with_reducible refine Le.prod ?_ | intro _ | (dsimp only) | exact Le.refl _)

def Find63.tw (k : Nat) (a : (Int × ((List (Int × (Int × (Int × (Int × Int))))) × ((List Int) × ((List Int) × (List Int)))))) (t : (Int × (Int × (List (List (Int × Int)))))) : Option (((List Int) × (Bool × (Int × Unit))) × Unit) :=
  (Check65.tw k a t).bind fun t21 =>
  cond (t21.1 != 0)
    (some (([], false, t21.1, ()), ()))
    ((Start80.tw k a).bind fun t26 =>
    Option.bind
      (loopN (Find63.l1.tw k) k (a, t, (), (), (mput (.arr 2 (.int .i64)) (.sl (.int .i64)) ([] : (List ((List Int) × (List Int)))) ([t26.1, 0] : (List Int)) []), [[t26.1, 0]]) : Option (Unit ⊕ (((List Int) × (Bool × (Int × Unit))) × Unit))) (joined fun (_ : Unit) =>
      some (([], false, 0, ()), ())))
theorem Find63.le (k j : Nat) (hk_ : k ≤ j) : ∀ a0_ a1_, Le (Find63.tw k a0_ a1_) (Find63 j a0_ a1_) := by
  intro a0_ a1_
  unfold Find63 Find63.tw
  repeat' (first | with_reducible exact Le.refl _ | with_reducible exact Start80.le _ _ hk_ _ | with_reducible exact Check65.le _ _ hk_ _ _ | with_reducible exact Find63.l1.le _ _ hk_ | with_reducible refine Le.self ?_ | with_reducible refine Le.cond ?_ ?_ | with_reducible refine Le.orNil ?_ ?_ | with_reducible refine Le.agree ?_ ?_ | with_reducible refine Le.joined ?_ ?_ | with_reducible refine Le.bind ?_ ?_ | with_reducible refine Le.loop hk_ ?_ _ | with_reducible refine Le.prod ?_ | intro _ | (dsimp only) | exact Le.refl _)

def same32.tw (k : Nat) : Option (Bool × Unit) :=
  (Find63.tw k (1, [(0, 0, 0, 0, 0)], ([0] : List Int), [], []) (1, 1, [[(0, 0), (1, 0)]])).bind fun t14 =>
  Option.bind (cond (cond (t14.1.2.2.1 == 0) t14.1.2.1 false)
    ((Equal25.tw k t14.1.1 ([1] : List Int)).bind fun t26 =>
    some t26.1)
    (some false)) fun t27 =>
  some (t27, ())
theorem same32.le (k j : Nat) (hk_ : k ≤ j) : Le (same32.tw k) (same32 j) := by
  unfold same32 same32.tw
  repeat' (first | with_reducible exact Le.refl _ | with_reducible exact Equal25.le _ _ hk_ _ _ | with_reducible exact Find63.le _ _ hk_ _ _ | with_reducible refine Le.self ?_ | with_reducible refine Le.cond ?_ ?_ | with_reducible refine Le.orNil ?_ ?_ | with_reducible refine Le.agree ?_ ?_ | with_reducible refine Le.joined ?_ ?_ | with_reducible refine Le.bind ?_ ?_ | with_reducible refine Le.loop hk_ ?_ _ | with_reducible refine Le.prod ?_ | intro _ | (dsimp only) | exact Le.refl _)

theorem fact_ev : Ev (fun k => same32 k) (true, ()) := Le.ev (f := fun k => same32.tw k) same32.le (n := 60) (by kernel_rfl)
end Go.Proofs.Ytjbdhaenakcclaa.St

/- Shortest words that tell two circuits apart: the law. No program in sight. -/
set_option linter.unusedVariables false
set_option maxRecDepth 100000
noncomputable section
namespace Go.Proofs.Ytjbdhaenakcclaa.St
open Go Go.Proofs.Ytjbdhaenakcclaa.Gp

theorem init_len {c : Cir} (hf : fault c = 0) : c.2.2.2.2.length ≤ 10 := by
  have hx : c.2.2.2.2.length = c.2.2.2.1.length := by
    unfold fault at hf
    split at hf
    · omega
    · split at hf
      · omega
      · omega
  have := (right_of c hf).next.1
  omega
theorem law_pairs (a b : Cir) (hwa : ∀ x ∈ a.2.2.2.2, -9223372036854775808 ≤ x ∧ x ≤ 9223372036854775807) (hwb : ∀ x ∈ b.2.2.2.2, -9223372036854775808 ≤ x ∧ x ≤ 9223372036854775807) : ∃ k, EqualPairs6 k a b = some (true, ()) := by
  refine Ev.ex ?_
  unfold EqualPairs6
  have h0 : Ev (fun k => Equal25 k [] []) (true, ()) := equal_ev [] (by decide)
  by_cases ha : fault a ≠ 0
  · have hC : Ev (fun k => Circuits33 k a b) (([], false, fault a, ()), ()) := by
      unfold Circuits33
      exact .bind (check_ev a) (.yes (bne_iff_ne.2 ha) (.now _))
    exact .bind (cfault_ev a hwa) (.bind (a := (a, b, fault a)) (.no (beq_false_of_ne ha) (.now _)) (.joinL (S := Unit) (a := (a, b, fault a)) (.yes (bne_iff_ne.2 ha) (.now _))
      (.bind hC (.bind fact_ev (.no (by simp) (.bind (a := ([], false)) (.no (beq_false_of_ne ha) (.now _)) (.bind (a := true) (.yes rfl (.bind h0 (.now _))) (.now _))))))))
  have ha0 : fault a = 0 := by omega
  by_cases hb : fault b ≠ 0
  · have hC : Ev (fun k => Circuits33 k a b) (([], false, fault b, ()), ()) := by
      unfold Circuits33
      exact .bind (check_ev a) (.no (by rw [ha0]; rfl) (.bind (check_ev b) (.yes (bne_iff_ne.2 hb) (.now _))))
    exact .bind (cfault_ev a hwa) (.bind (a := (a, b, fault b)) (.yes (by rw [ha0]; rfl) (.bind (cfault_ev b hwb) (.now _))) (.joinL (S := Unit) (a := (a, b, fault b)) (.yes (bne_iff_ne.2 hb) (.now _))
      (.bind hC (.bind fact_ev (.no (by simp) (.bind (a := ([], false)) (.no (beq_false_of_ne hb) (.now _)) (.bind (a := true) (.yes rfl (.bind h0 (.now _))) (.now _))))))))
  have hb0 : fault b = 0 := by omega
  have start : Ev (fun k => (cond (fault a == 0) ((CircuitFault14 k b).bind fun t16 => some (a, b, t16.1)) (some (a, b, fault a)) : Option (Cir × Cir × Int))) (a, b, 0) := .yes (by rw [ha0]; rfl) (.bind (cfault_ev b hwb) (.now' (by rw [hb0])))
  have hRa := right_of a ha0
  have hRb := right_of b hb0
  have na := hRa.next.1
  have nb := hRb.next.1
  have hsum : w64 ((List.length a.2.2.2.1 : Int) + (List.length b.2.2.2.1 : Int)) = ((a.2.2.2.1.length + b.2.2.2.1.length : Nat) : Int) := by rw [w64_id (by omega) (by omega)]; omega
  by_cases h8 : a.1 ≠ b.1 ∨ a.2.2.1.length ≠ b.2.2.1.length
  · have c1 : cond (a.1 != b.1) true ((List.length a.2.2.1 : Int) != (List.length b.2.2.1 : Int)) = true := by
      by_cases h : a.1 = b.1
      · have h2 : (List.length a.2.2.1 : Int) ≠ (List.length b.2.2.1 : Int) := by omega
        rw [h, bne_self_eq_false]
        exact bne_iff_ne.2 h2
      · rw [bne_iff_ne.2 h]; rfl
    have hC : Ev (fun k => Circuits33 k a b) (([], false, 8, ()), ()) := by
      unfold Circuits33
      exact .bind (check_ev a) (.no (by rw [ha0]; rfl) (.bind (check_ev b) (.no (by rw [hb0]; rfl) (.yes c1 (.now _)))))
    exact .bind (cfault_ev a hwa) (.bind start (.joinL (S := Unit) (a := (a, b, 8)) (.no rfl (.joinL (S := Unit) (a := (a, b, 8)) (.yes c1 (.now _)) (.now _)))
      (.bind hC (.bind fact_ev (.no rfl (.bind (a := ([], false)) (.no rfl (.now _)) (.bind (a := true) (.yes rfl (.bind h0 (.now _))) (.now _))))))))
  have hins : a.1 = b.1 := by
    by_cases h : a.1 = b.1
    · exact h
    · exact absurd (.inl h) h8
  have hout : a.2.2.1.length = b.2.2.1.length := by
    by_cases h : a.2.2.1.length = b.2.2.1.length
    · exact h
    · exact absurd (.inr h) h8
  have c1 : cond (a.1 != b.1) true ((List.length a.2.2.1 : Int) != (List.length b.2.2.1 : Int)) = false := by rw [hins, hout]; simp
  by_cases h2 : a.1 > 4 ∨ a.2.2.2.1.length + b.2.2.2.1.length > 10
  · have c2 : cond (decide (a.1 > 4)) true (decide ((w64 ((List.length a.2.2.2.1 : Int) + (List.length b.2.2.2.1 : Int))) > 10)) = true := by
      rw [hsum]
      by_cases h : a.1 > 4
      · rw [decide_eq_true h]; rfl
      · rw [decide_eq_false h]; exact decide_eq_true (by omega)
    have hC : Ev (fun k => Circuits33 k a b) (([], false, 2, ()), ()) := by
      unfold Circuits33
      exact .bind (check_ev a) (.no (by rw [ha0]; rfl) (.bind (check_ev b) (.no (by rw [hb0]; rfl) (.no c1 (.yes c2 (.now _))))))
    exact .bind (cfault_ev a hwa) (.bind start (.joinL (S := Unit) (a := (a, b, 2)) (.no rfl (.joinL (S := Unit) (a := (a, b, 2)) (.no c1 (.joinL (S := Unit) (a := (a, b, 2)) (.yes c2 (.now _)) (.now _))) (.now _)))
      (.bind hC (.bind fact_ev (.no rfl (.bind (a := ([], false)) (.no rfl (.now _)) (.bind (a := true) (.yes rfl (.bind h0 (.now _))) (.now _))))))))
  have c2 : cond (decide (a.1 > 4)) true (decide ((w64 ((List.length a.2.2.2.1 : Int) + (List.length b.2.2.2.1 : Int))) > 10)) = false := by
    rw [hsum, decide_eq_false (by omega)]
    exact decide_eq_false (by omega)
  by_cases h6 : a.2.2.2.1.length + b.2.2.2.1.length > 6
  · have c3 : decide ((w64 ((List.length a.2.2.2.1 : Int) + (List.length b.2.2.2.1 : Int))) > 6) = true := by rw [hsum]; exact decide_eq_true (by omega)
    exact .bind (cfault_ev a hwa) (.bind start (.joinR (.no rfl (.joinR (.no c1 (.joinR (.no c2 (.yes c3 (.bind fact_ev (.now _))))))))))
  have c3 : decide ((w64 ((List.length a.2.2.2.1 : Int) + (List.length b.2.2.2.1 : Int))) > 6) = false := by rw [hsum]; exact decide_eq_false (by omega)
  have hI4 : a.1 ≤ 4 := by omega
  have hf6 : a.2.2.2.1.length + b.2.2.2.1.length ≤ 6 := by omega
  have hi0 := hRa.ins
  have hB : 2 ^ a.1.toNat ≤ 16 := by
    have h1 : 2 ^ a.1.toNat ≤ 2 ^ 4 := Nat.pow_le_pow_right (by decide) (by omega)
    have h2 : (2 : Nat) ^ 4 = 16 := by decide
    omega
  have hsh := shl_ins hRa
  have ia := init_len ha0
  have ib := init_len hb0
  have hp := circuits_ev ha0 hb0 hins hout hI4 hf6 hB hsh
  have ht := told_ev hRa hRb (start_dom ha0 hb0) (by omega) (by omega) hf6 hB hsh
  refine .bind (cfault_ev a hwa) (.bind start (.joinL (S := Unit) (a := (a, b, 0)) (.no rfl (.joinL (S := Unit) (a := (a, b, 0)) (.no c1 (.joinL (S := Unit) (a := (a, b, 0)) (.no c2 (.no c3 (.now _))) (.now _))) (.now _))) ?_))
  rcases hp with ⟨w, p1, p1', p2⟩ | ⟨p1, p2⟩
  · rcases ht with ⟨w', t1, t2⟩ | ⟨t1, t2⟩
    · have hww := Least.uniq _ _ _ (by omega) p1 t1
      subst hww
      exact .bind p2 (.bind fact_ev (.no rfl (.bind (a := (ints w, true)) (.yes rfl (.bind t2 (.now _))) (.bind (a := true) (.yes rfl (.bind (equal_ev (ints w) (by rw [intsLen]; omega)) (.now _))) (.now _)))))
    · exact absurd p1.1 (t1 w)
  · rcases ht with ⟨w', t1, t2⟩ | ⟨t1, t2⟩
    · exact absurd t1.1 (p1 w')
    · exact .bind p2 (.bind fact_ev (.no rfl (.bind (a := ([], false)) (.yes rfl (.bind t2 (.now _))) (.bind (a := true) (.yes rfl (.bind h0 (.now _))) (.now _)))))
theorem equalPairs (a b : Cir) {p q r s p' q' r' s' : Prop} (ha : p ∧ q ∧ r ∧ s ∧ wfL (α := Int) 8 (fun (y : Int) => (Lit.int .i64 y).wf = true) a.2.2.2.2) (hb : p' ∧ q' ∧ r' ∧ s' ∧ wfL (α := Int) 8 (fun (y : Int) => (Lit.int .i64 y).wf = true) b.2.2.2.2) : ∃ k, EqualPairs6 k a b = some (true, ()) :=
  law_pairs a b (fun x hx => lit_wf (ha.2.2.2.2.2 x hx)) (fun x hx => lit_wf (hb.2.2.2.2.2 x hx))
end Go.Proofs.Ytjbdhaenakcclaa.St

/- The row of EqualPairs: equal.Circuits returns the least of the shortest inputs that tell two right circuits apart, as the reference finds them by distances. The law returns true for every input; the input reads as it did. -/
namespace Go.Proofs.Ytjbdhaenakcclaa.equalPairs
open Go.ChangeShapes Go.WideShapes Go.ChangeAt Go.RowKit Go.Proofs.Ytjbdhaenakcclaa.Gp Go.Proofs.Ytjbdhaenakcclaa.St
set_option linter.unusedVariables false
theorem own : ownKnob Try.prog.godebug = none := by kernel_rfl
theorem laidOut : laidOutB Try.prog = true := by kernel_rfl
abbrev wf3 : Int → Prop := (fun (y : Int) => (Lit.int .i64 y).wf = true)
abbrev siz3 : Int → Nat := (fun _ => 1)
theorem gd3 : Gd Try.prog 3 (.int .i64) wf3 siz3 := gd_int Try.underlying3 (by kernel_rfl)
abbrev wf51 : (Int × (Int × (Int × (Int × Int)))) → Prop := (fun (y : (Int × (Int × (Int × (Int × Int))))) => wf3 y.1 ∧ (fun (y : (Int × (Int × (Int × Int)))) => wf3 y.1 ∧ (fun (y : (Int × (Int × Int))) => wf3 y.1 ∧ (fun (y : (Int × Int)) => wf3 y.1 ∧ wf3 y.2) y.2) y.2) y.2)
abbrev siz51 : (Int × (Int × (Int × (Int × Int)))) → Nat := (fun (y : (Int × (Int × (Int × (Int × Int))))) => siz3 y.1 + (fun (y : (Int × (Int × (Int × Int)))) => siz3 y.1 + (fun (y : (Int × (Int × Int))) => siz3 y.1 + (fun (y : (Int × Int)) => siz3 y.1 + siz3 y.2) y.2) y.2) y.2)
theorem gd51 : Gd Try.prog 51 (.st (.pair (.int .i64) (.pair (.int .i64) (.pair (.int .i64) (.pair (.int .i64) (.int .i64)))))) wf51 siz51 := gd_st Try.underlying51 (by kernel_rfl) (gdf_cons (k := .int .i64) (k' := .pair (.int .i64) (.pair (.int .i64) (.pair (.int .i64) (.int .i64)))) (wf := wf3) (siz := siz3) (wf' := (fun (y : (Int × (Int × (Int × Int)))) => wf3 y.1 ∧ (fun (y : (Int × (Int × Int))) => wf3 y.1 ∧ (fun (y : (Int × Int)) => wf3 y.1 ∧ wf3 y.2) y.2) y.2)) (siz' := (fun (y : (Int × (Int × (Int × Int)))) => siz3 y.1 + (fun (y : (Int × (Int × Int))) => siz3 y.1 + (fun (y : (Int × Int)) => siz3 y.1 + siz3 y.2) y.2) y.2)) rfl gd3 (gdf_cons (k := .int .i64) (k' := .pair (.int .i64) (.pair (.int .i64) (.int .i64))) (wf := wf3) (siz := siz3) (wf' := (fun (y : (Int × (Int × Int))) => wf3 y.1 ∧ (fun (y : (Int × Int)) => wf3 y.1 ∧ wf3 y.2) y.2)) (siz' := (fun (y : (Int × (Int × Int))) => siz3 y.1 + (fun (y : (Int × Int)) => siz3 y.1 + siz3 y.2) y.2)) rfl gd3 (gdf_cons (k := .int .i64) (k' := .pair (.int .i64) (.int .i64)) (wf := wf3) (siz := siz3) (wf' := (fun (y : (Int × Int)) => wf3 y.1 ∧ wf3 y.2)) (siz' := (fun (y : (Int × Int)) => siz3 y.1 + siz3 y.2)) rfl gd3 (gdf_cons (k := .int .i64) (k' := .int .i64) (wf := wf3) (siz := siz3) (wf' := wf3) (siz' := siz3) rfl gd3 (gdf_one rfl gd3)))))
abbrev wf22 : (List (Int × (Int × (Int × (Int × Int))))) → Prop := (wfL (α := (Int × (Int × (Int × (Int × Int))))) 40 wf51)
abbrev siz22 : (List (Int × (Int × (Int × (Int × Int))))) → Nat := (sizL (α := (Int × (Int × (Int × (Int × Int))))) siz51)
theorem gd22 : Gd Try.prog 22 (.sl (.st (.pair (.int .i64) (.pair (.int .i64) (.pair (.int .i64) (.pair (.int .i64) (.int .i64))))))) wf22 siz22 := gd_sl (B := 40) Try.underlying22 (by kernel_rfl) (by kernel_rfl) (by decide) gd51
abbrev wf23 : (List Int) → Prop := (wfL (α := Int) 8 wf3)
abbrev siz23 : (List Int) → Nat := (sizL (α := Int) siz3)
theorem gd23 : Gd Try.prog 23 (.sl (.int .i64)) wf23 siz23 := gd_sl (B := 8) Try.underlying23 (by kernel_rfl) (by kernel_rfl) (by decide) gd3
abbrev wf25 : (Int × ((List (Int × (Int × (Int × (Int × Int))))) × ((List Int) × ((List Int) × (List Int))))) → Prop := (fun (y : (Int × ((List (Int × (Int × (Int × (Int × Int))))) × ((List Int) × ((List Int) × (List Int)))))) => wf3 y.1 ∧ (fun (y : ((List (Int × (Int × (Int × (Int × Int))))) × ((List Int) × ((List Int) × (List Int))))) => wf22 y.1 ∧ (fun (y : ((List Int) × ((List Int) × (List Int)))) => wf23 y.1 ∧ (fun (y : ((List Int) × (List Int))) => wf23 y.1 ∧ wf23 y.2) y.2) y.2) y.2)
abbrev siz25 : (Int × ((List (Int × (Int × (Int × (Int × Int))))) × ((List Int) × ((List Int) × (List Int))))) → Nat := (fun (y : (Int × ((List (Int × (Int × (Int × (Int × Int))))) × ((List Int) × ((List Int) × (List Int)))))) => siz3 y.1 + (fun (y : ((List (Int × (Int × (Int × (Int × Int))))) × ((List Int) × ((List Int) × (List Int))))) => siz22 y.1 + (fun (y : ((List Int) × ((List Int) × (List Int)))) => siz23 y.1 + (fun (y : ((List Int) × (List Int))) => siz23 y.1 + siz23 y.2) y.2) y.2) y.2)
theorem gd25 : Gd Try.prog 25 (.st (.pair (.int .i64) (.pair (.sl (.st (.pair (.int .i64) (.pair (.int .i64) (.pair (.int .i64) (.pair (.int .i64) (.int .i64))))))) (.pair (.sl (.int .i64)) (.pair (.sl (.int .i64)) (.sl (.int .i64))))))) wf25 siz25 := gd_st Try.underlying25 (by kernel_rfl) (gdf_cons (k := .int .i64) (k' := .pair (.sl (.st (.pair (.int .i64) (.pair (.int .i64) (.pair (.int .i64) (.pair (.int .i64) (.int .i64))))))) (.pair (.sl (.int .i64)) (.pair (.sl (.int .i64)) (.sl (.int .i64))))) (wf := wf3) (siz := siz3) (wf' := (fun (y : ((List (Int × (Int × (Int × (Int × Int))))) × ((List Int) × ((List Int) × (List Int))))) => wf22 y.1 ∧ (fun (y : ((List Int) × ((List Int) × (List Int)))) => wf23 y.1 ∧ (fun (y : ((List Int) × (List Int))) => wf23 y.1 ∧ wf23 y.2) y.2) y.2)) (siz' := (fun (y : ((List (Int × (Int × (Int × (Int × Int))))) × ((List Int) × ((List Int) × (List Int))))) => siz22 y.1 + (fun (y : ((List Int) × ((List Int) × (List Int)))) => siz23 y.1 + (fun (y : ((List Int) × (List Int))) => siz23 y.1 + siz23 y.2) y.2) y.2)) rfl gd3 (gdf_cons (k := .sl (.st (.pair (.int .i64) (.pair (.int .i64) (.pair (.int .i64) (.pair (.int .i64) (.int .i64))))))) (k' := .pair (.sl (.int .i64)) (.pair (.sl (.int .i64)) (.sl (.int .i64)))) (wf := wf22) (siz := siz22) (wf' := (fun (y : ((List Int) × ((List Int) × (List Int)))) => wf23 y.1 ∧ (fun (y : ((List Int) × (List Int))) => wf23 y.1 ∧ wf23 y.2) y.2)) (siz' := (fun (y : ((List Int) × ((List Int) × (List Int)))) => siz23 y.1 + (fun (y : ((List Int) × (List Int))) => siz23 y.1 + siz23 y.2) y.2)) rfl gd22 (gdf_cons (k := .sl (.int .i64)) (k' := .pair (.sl (.int .i64)) (.sl (.int .i64))) (wf := wf23) (siz := siz23) (wf' := (fun (y : ((List Int) × (List Int))) => wf23 y.1 ∧ wf23 y.2)) (siz' := (fun (y : ((List Int) × (List Int))) => siz23 y.1 + siz23 y.2)) rfl gd23 (gdf_cons (k := .sl (.int .i64)) (k' := .sl (.int .i64)) (wf := wf23) (siz := siz23) (wf' := wf23) (siz' := siz23) rfl gd23 (gdf_one rfl gd23)))))
set_option maxRecDepth 100000 in
set_option maxHeartbeats 1000000 in
theorem lifted (os : Os) (started : os.Started) (H : Type) (enc : TypeId × Value → H) :
    ReturnsInHanded {} Try.checked os 6 .any (Rows.equalPairsSpec.pre6 enc Try.prog Try.f6 Rows.equalPairsRow.domain false) (Rows.equalPairsSpec.post enc Try.prog Try.f6 false true false false) := by
  refine returnsInHanded_of_change_sized (C := Try.checked) own started (by kernel_rfl) Try.func6
    (ChangeSpec.witness6 (enc := enc) (C := Try.checked) false ⟨#[], #[.agg #[.int .i64 0, .slice none 0 0, .slice none 0 0, .slice none 0 0, .slice none 0 0], .agg #[.int .i64 0, .slice none 0 0, .slice none 0 0, .slice none 0 0, .slice none 0 0]], []⟩ 8 (by kernel_rfl) (by kernel_rfl) (by kernel_rfl) (by kernel_rfl)) ?_
  intro W base args ds gs before hval0 hW hcnd hsz0 _
  have hsz : (DataW.weightsEach Try.prog (Try.f6.params.toList ++ Rows.equalPairsSpec.plain.varTypes Try.prog) (ds ++ gs)).all (· ≤ reachBytes) = true := hsz0
  have hval : ∀ (j : Nat) t v, Try.f6.params[j]? = some t → args[j]? = some v → Value.okWide Try.prog W .any base t v := hval0
  have hW' := hW
  obtain ⟨p, q, hA0, hV, rfl, hfz, hnd⟩ := hW
  have hA : DataW.TrodAll enc Try.prog W 0 (fun _ => true) true Try.f6.params.toList args.toList ds p := hA0
  rw [Try.params6] at hA hval hsz
  obtain ⟨v0, vs0, d0, ds0, p0, q0, hargs, rfl, rfl, h0, r0⟩ := trodAll_cons hA
  obtain ⟨v1, vs1, d1, ds1, p1, q1, rfl, rfl, rfl, h1, r1⟩ := trodAll_cons r0
  obtain ⟨rfl, rfl, rfl⟩ := trodAll_nil r1
  obtain rfl : args = #[v0, v1] := by cases args; simp_all
  obtain ⟨rfl, rfl⟩ := trodVars_none hV
  have lt0 : ∀ x ∈ p0, x.block < W.heap.size := by obtain ⟨m, hm⟩ := h0; exact DataW.trod_lt m _ _ _ hm
  have wt0 := weights_at hsz 0 (t := 25) rfl rfl
  obtain ⟨a0, s0, wf0_, up0_⟩ := gd25.arg (hval 0 25 v0 rfl rfl) h0 wt0
  have lt1 : ∀ x ∈ p1, x.block < W.heap.size := by obtain ⟨m, hm⟩ := h1; exact DataW.trod_lt m _ _ _ hm
  have wt1 := weights_at hsz 1 (t := 25) rfl rfl
  obtain ⟨a1, s1, wf1_, up1_⟩ := gd25.arg (hval 1 25 v1 rfl rfl) h1 wt1
  clear hA0 hval0 hsz0 hsz
  obtain ⟨k, h⟩ := St.equalPairs a0 a1 wf0_ wf1_
  refine (law_calls (EqualPairs6.ok k) (ds := (a0, a1)) h (args := #[v0, v1]) (W := W) (.cons (s0 _) (.cons (s1 _) (.nil)))).mono fun e W' ⟨he, bel0⟩ => ?_
  have bel : Below W.heap.size W W' := bel0
  subst he
  exact ⟨_, rfl, _, _, _, [], _, [], hW', trodAll_mk1 (shut_bool Try.underlying4 _), (trodAll_cons_mk (Below.trod laidOut (by kernel_rfl) (of_decide_eq_true (by kernel_rfl)) h0 bel lt0) (trodAll_cons_mk (Below.trod laidOut (by kernel_rfl) (of_decide_eq_true (by kernel_rfl)) h1 bel lt1) (trodAll_mk0))), rfl, bel.frame _, fun h => by cases h⟩
theorem over : Rows.equalPairsRow.holds Try.pinned (OpenSpec.ofChange Rows.equalPairsSpec) :=
  OpenClaim.holds_of_wide 6 Try.f6 rfl rfl rfl rfl rfl rfl rfl ⟨rfl, rfl, rfl, rfl, rfl⟩ rfl rfl rfl rfl rfl (by kernel_rfl) Try.func6 (by kernel_rfl)
    (of_decide_eq_true (by kernel_rfl)) (by unfold Func.isWrapper; first | (rw [if_pos (by decide +kernel)]; kernel_rfl) | (rw [if_neg (by decide +kernel)]; exact ⟨rfl, rfl⟩))
    (fun os started H enc _ => lifted os started H enc)
theorem proved : Rows.EqualPairsSaid := over
#print axioms proved
end Go.Proofs.Ytjbdhaenakcclaa.equalPairs
namespace Go.Proofs.Ytjbdhaenakcclaa
theorem equalPairs_holds : Rows.EqualPairsSaid := equalPairs.proved
end Go.Proofs.Ytjbdhaenakcclaa
