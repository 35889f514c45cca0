/- Merged texts of one claim: a Go law, its functions without memory, and the plain law. The law returns true for every input; conditions: as the row says. -/
import Derived.Test.YtjbdhaenakcclaaRows
import Derived.ChangeArms
import Derived.OpenShut
import Derived.SizedLaws
import Derived.Deep.Slices
import Derived.Below
import Derived.KernelRfl
import Derived.WalkKit
import Derived.ProofKit
import Derived.ShutString
import Derived.ChangeOld
import Derived.Test.YtjbdhaenakcclaaCSt0
import Derived.Test.YtjbdhaenakcclaaCSt1
import Derived.Test.YtjbdhaenakcclaaCSt2
import Derived.Test.YtjbdhaenakcclaaCSt3
/- Circuits of gates: the checks are one. No program in sight. -/

set_option linter.unusedVariables false
noncomputable section
namespace Go.Proofs.Ytjbdhaenakcclaa.St
open Go Go.Proofs.Ytjbdhaenakcclaa.Gp

theorem walk_bad {α R : Type} (bad : α → Bool) (e fin : R) : ∀ (l : List α), walk (fun (_ : Unit) x => if bad x then (.inr e : Unit ⊕ R) else .inl ()) (fun _ => fin) l () = if l.any bad then e else fin
  | [] => rfl
  | x :: l => by
    rw [walk_cons, List.any_cons]
    cases h : bad x with
    | true => simp
    | false => simpa using walk_bad bad e fin l
def badX (c : Cir) (x : Int) : Bool := decide (x < 0 ∨ x ≥ (c.2.1.length : Int))
theorem badX_or (c : Cir) (x : Int) : cond (decide (x < 0)) true (decide (x ≥ (c.2.1.length : Int))) = badX c x := by
  unfold badX
  by_cases h : x < 0 <;> simp [h]
theorem check_range (c : Cir) (l : List Int) (hl : l.length ≤ 1000) : Lp (fun k => Check18.l1 k (l, ())) (c, 0) (if l.any (badX c) then .inr (4, ()) else .inl c) := by
  rw [← walk_bad (R := Cir ⊕ (Int × Unit))]
  refine Lp.walk (body := fun k => Check18.l1 k (l, ())) l (fun (_ : Unit) i => (c, i)) _ _ (fun _ _ => True) (fun i x b hx _ => ⟨?_, fun _ _ => trivial⟩) (fun b _ => ?_) (b := ()) trivial
  · have hi := get_lt hx
    simp only [Check18.l1]
    refine .yes (decide_eq_true (by omega)) (.val (rd_some' hx) (.cnd (fun h => .now' ?_) (fun h => .now' ?_)))
    · rw [badX_or] at h; rw [if_pos h]
    · rw [badX_or] at h; rw [h, w64_id (by omega) (by omega)]; rfl
  · simp only [Check18.l1]
    exact .no (by simp) (.now _)
theorem fault_range1 (c : Cir) (l : List Int) (o : List (List Int)) (hl : l.length ≤ 1000) : Lp (fun k => CircuitFault14.l2 k l) (c, (), 0, o) (if l.any (badX c) then .inr (.inr (.inr (4, ()))) else .inl (c, (), o)) := by
  rw [← walk_bad (R := (Cir × (Unit × (List (List Int)))) ⊕ ((Cir × (Unit × (Int × (List (List Int))))) ⊕ (Cir ⊕ (Int × Unit))))]
  refine Lp.walk (body := fun k => CircuitFault14.l2 k l) l (fun (_ : Unit) i => (c, (), i, o)) _ _ (fun _ _ => True) (fun i x b hx _ => ⟨?_, fun _ _ => trivial⟩) (fun b _ => ?_) (b := ()) trivial
  · have hi := get_lt hx
    simp only [CircuitFault14.l2]
    refine .yes (decide_eq_true (by omega)) (.val (rd_some' hx) (.cnd (fun h => .now' ?_) (fun h => .now' ?_)))
    · rw [badX_or] at h; rw [if_pos h]
    · rw [badX_or] at h; rw [h, w64_id (by omega) (by omega)]; rfl
  · simp only [CircuitFault14.l2]
    exact .no (by simp) (.now _)
theorem fault_range (c : Cir) (h1 : c.2.2.1.length ≤ 10) (h2 : c.2.2.2.1.length ≤ 10) : Lp (fun k => CircuitFault14.l3 k c) (c, (), 0, [c.2.2.1, c.2.2.2.1]) (if (c.2.2.1 ++ c.2.2.2.1).any (badX c) then .inr (4, ()) else .inl c) := by
  have r1 := fault_range1 c c.2.2.1 [c.2.2.1, c.2.2.2.1] (by omega)
  have r2 := fault_range1 c c.2.2.2.1 [c.2.2.1, c.2.2.2.1] (by omega)
  rw [List.any_append]
  cases e1 : c.2.2.1.any (badX c) with
  | true =>
    rw [e1] at r1
    refine .done ?_
    simp only [CircuitFault14.l3]
    exact .yes rfl (.val rfl (.val rfl (.joinR r1.ev)))
  | false =>
    rw [e1] at r1
    refine .step (s' := (c, (), 1, [c.2.2.1, c.2.2.2.1])) ?_ ?_
    · simp only [CircuitFault14.l3]
      exact .yes rfl (.val rfl (.val rfl (.joinL (S := Unit) r1.ev (.now' (by rw [w64_id (by omega) (by omega)]; rfl)))))
    · cases e2 : c.2.2.2.1.any (badX c) with
      | true =>
        rw [e2] at r2
        refine .done ?_
        simp only [CircuitFault14.l3]
        exact .yes rfl (.val rfl (.val rfl (.joinR r2.ev)))
      | false =>
        rw [e2] at r2
        refine .step (s' := (c, (), 2, [c.2.2.1, c.2.2.2.1])) ?_ (.done ?_)
        · simp only [CircuitFault14.l3]
          exact .yes rfl (.val rfl (.val rfl (.joinL (S := Unit) r2.ev (.now' (by rw [w64_id (by omega) (by omega)]; rfl)))))
        · simp only [CircuitFault14.l3]
          exact .no rfl (.now _)

def bad1 (x : Int) : Bool := decide (x ≠ 0 ∧ x ≠ 1)
theorem check_init (c : Cir) (hl : c.2.2.2.2.length ≤ 1000) : Lp (fun k => Check18.l2 k c) 0 (if c.2.2.2.2.any bad1 then .inr (1, ()) else .inl ()) := by
  rw [← walk_bad (R := Unit ⊕ (Int × Unit))]
  refine Lp.walk (body := fun k => Check18.l2 k c) c.2.2.2.2 (fun (_ : Unit) i => i) _ _ (fun _ _ => True) (fun i x b hx _ => ⟨?_, fun _ _ => trivial⟩) (fun b _ => ?_) (b := ()) trivial
  · have hi := get_lt hx
    simp only [Check18.l2]
    have e : cond (x != 0) (x != 1) false = bad1 x := by
      unfold bad1
      by_cases h0 : x = 0 <;> by_cases h1 : x = 1 <;> simp [h0, h1]
    refine .yes (decide_eq_true (by omega)) (.val (rd_some' hx) (.cnd (fun h => .now' ?_) (fun h => .now' ?_)))
    · rw [e] at h; rw [if_pos h]
    · rw [e] at h; rw [h, w64_id (by omega) (by omega)]; rfl
  · simp only [Check18.l2]
    exact .no (by simp) (.now _)
theorem wrap_zero {m : Nat} (h : m < 18446744073709551616) (h0 : IntKind.wrap .i64 (m : Int) = 0) : m = 0 := by
  have e : (2 : Int) ^ (64 - 1) = 9223372036854775808 := by decide
  have e2 : (2 : Int) ^ 64 = 18446744073709551616 := by decide
  simp only [IntKind.wrap, IntKind.signed, IntKind.bits, Bool.true_and, decide_eq_true_eq, e, e2] at h0
  split at h0 <;> omega
theorem andNot_bad {x : Int} (h0 : -9223372036854775808 ≤ x) (h1 : x ≤ 9223372036854775807) : (ibits .andNot .i64 x 1 != 0) = bad1 x := by
  have e : ibits .andNot .i64 x 1 = IntKind.wrap .i64 (((BitVec.ofInt 64 x &&& ~~~ BitVec.ofInt 64 1).toNat : Nat) : Int) := rfl
  unfold bad1
  by_cases hx : x = 0
  · subst hx; rfl
  by_cases hx1 : x = 1
  · subst hx1; rfl
  rw [show decide (x ≠ 0 ∧ x ≠ 1) = true from decide_eq_true ⟨hx, hx1⟩, bne_iff_ne]
  intro hz
  rw [e] at hz
  have hn := wrap_zero (BitVec.isLt _) hz
  have h3 : BitVec.ofInt 64 x = BitVec.ofInt 64 x &&& BitVec.ofInt 64 1 := by
    have hz : BitVec.ofInt 64 x &&& ~~~ BitVec.ofInt 64 1 = 0#64 := BitVec.eq_of_toNat_eq hn
    apply BitVec.eq_of_getLsbD_eq
    intro i hi
    have := congrArg (fun v => BitVec.getLsbD v i) hz
    simp only [BitVec.getLsbD_and, BitVec.getLsbD_not, BitVec.getLsbD_zero, hi, decide_true, Bool.true_and] at this
    rw [BitVec.getLsbD_and]
    cases h4 : (BitVec.ofInt 64 x).getLsbD i <;> cases h5 : (BitVec.ofInt 64 1).getLsbD i <;> simp_all
  have h4 : (BitVec.ofInt 64 x).toNat ≤ 1 := by
    rw [h3, BitVec.toNat_and]
    exact Nat.le_trans Nat.and_le_right (by decide)
  rw [BitVec.toNat_ofInt] at h4
  have e2 : ((2 ^ 64 : Nat) : Int) = 18446744073709551616 := by decide
  rw [e2] at h4
  omega
theorem fault_init (c : Cir) (hl : c.2.2.2.2.length ≤ 1000) (hw : ∀ x ∈ c.2.2.2.2, -9223372036854775808 ≤ x ∧ x ≤ 9223372036854775807) : Lp (fun k => CircuitFault14.l4 k c) 0 (if c.2.2.2.2.any bad1 then .inr (1, ()) else .inl ()) := by
  rw [← walk_bad (R := Unit ⊕ (Int × Unit))]
  refine Lp.walk (body := fun k => CircuitFault14.l4 k c) c.2.2.2.2 (fun (_ : Unit) i => i) _ _ (fun _ _ => True) (fun i x b hx _ => ⟨?_, fun _ _ => trivial⟩) (fun b _ => ?_) (b := ()) trivial
  · have hi := get_lt hx
    simp only [CircuitFault14.l4]
    have e := andNot_bad (hw x (get_mem hx)).1 (hw x (get_mem hx)).2
    refine .yes (decide_eq_true (by omega)) (.val (rd_some' hx) (.cnd (fun h => .now' ?_) (fun h => .now' ?_)))
    · rw [e] at h; rw [if_pos h]
    · rw [e] at h; rw [h, w64_id (by omega) (by omega)]; rfl
  · simp only [CircuitFault14.l4]
    exact .no (by simp) (.now _)

def large (c : Cir) : Bool := decide (c.1 < 0 ∨ c.1 > 10 ∨ c.2.1.length > 400 ∨ c.2.2.1.length > 10 ∨ c.2.2.2.1.length > 10)
theorem large_or (c : Cir) : cond (cond (cond (cond (decide (c.1 < 0)) true (decide (c.1 > 10))) true (decide ((List.length c.2.1 : Int) > 400))) true (decide ((List.length c.2.2.1 : Int) > 10))) true (decide ((List.length c.2.2.2.1 : Int) > 10)) = large c := by
  have e : ∀ a b : Bool, cond a true b = (a || b) := fun a b => by cases a <;> rfl
  simp only [e, large, ← Bool.decide_or]
  exact decide_eq_decide.2 (by omega)
def rest (c : Cir) : Int := if (c.2.2.1 ++ c.2.2.2.1).any (badX c) then 4 else if c.2.2.2.2.any bad1 then 1 else 0
def fault (c : Cir) : Int := if large c then 2 else if c.2.2.2.2.length ≠ c.2.2.2.1.length then 3 else match gatesW c with | .inr e => e.1 | .inl _ => rest c
theorem gatesW_inl (c : Cir) {a : Cir} (h : gatesW c = .inl a) : a = c := by
  have : ∀ (l : List Gate) (b : Nat), walk (gW c) (fun _ => (.inl c : Cir ⊕ (Int × Unit))) l b = .inl a → a = c := by
    intro l
    induction l with
    | nil => intro b h; exact (Sum.inl.inj h).symm
    | cons x l ih =>
      intro b h
      rw [walk_cons] at h
      unfold gW at h
      split at h
      · rename_i b' hb
        exact ih _ h
      · rename_i r hr
        split at hr
        · cases hr
        · cases hr; cases h
  exact this _ _ h
theorem ne_len (c : Cir) : ((List.length c.2.2.2.2 : Int) != (List.length c.2.2.2.1 : Int)) = decide (c.2.2.2.2.length ≠ c.2.2.2.1.length) := by
  rw [Bool.eq_iff_iff, bne_iff_ne, decide_eq_true_iff]; omega
end Go.Proofs.Ytjbdhaenakcclaa.St

/- Circuits of gates: the checks are one. No program in sight. -/
set_option linter.unusedVariables false
noncomputable section
namespace Go.Proofs.Ytjbdhaenakcclaa.St
open Go Go.Proofs.Ytjbdhaenakcclaa.Gp

theorem room_small {n : Nat} (h : n ≤ 1000) : room n 8 = true := room_ok (by omega)
theorem concat_ev (a b : List Int) (h : a.length + b.length ≤ 1000) : Ev (fun k => Concat59 k [a, b]) (a ++ b, ()) := by
  unfold Concat59
  refine .bind (a := (((a.length + b.length : Nat) : Int))) (Lp.ev ?_) (.bind (a := ((), [])) ?_ (.bind (a := ((), a ++ b)) (Lp.ev ?_) (.now _)))
  · refine Lp.step (s' := ((a.length : Int), 1)) ?_ (Lp.step (s' := (((a.length + b.length : Nat) : Int), 2)) ?_ (Lp.done ?_))
    · simp only [Concat59.l0]
      refine .yes (by simp) (.val (a := a) rfl ?_)
      simp only [w64_id (x := 0 + (a.length : Int)) (by omega) (by omega)]
      refine .val (a := ()) ?_ (.now' ?_)
      · rw [decide_eq_false (by omega)]; rfl
      · simp [w64_id]
    · simp only [Concat59.l0]
      refine .yes (by simp) (.val (a := b) rfl ?_)
      simp only [w64_id (x := (a.length : Int) + (b.length : Int)) (by omega) (by omega)]
      refine .val (a := ()) ?_ (.now' ?_)
      · rw [decide_eq_false (by omega)]; rfl
      · simp [w64_id]
    · simp only [Concat59.l0]
      exact .no (by simp) (.now _)
  · generalize hn : a.length + b.length = n
    have hn' : n ≤ 1000 := hn ▸ h
    unfold Grow112
    have e : w64 ((n : Int) - w64 (0 - 0)) = n := by
      rw [show w64 (0 - 0) = 0 from w64_id (by omega) (by omega), w64_id (by omega) (by omega)]; omega
    refine .val (a := ()) ?_ ?_
    · rw [decide_eq_false (by omega)]; rfl
    · simp only [e]
      refine .bind (a := ((), [])) ?_ (.now _)
      refine .iff (fun h1 => ?_) (fun _ => .now _)
      refine .val (a := ()) (by simp) (.val (a := ()) (by rw [if_pos ⟨h1, by omega⟩]) (.val (a := []) ?_ (.now _)))
      rw [show ((0 : Int)) = ((0 : Nat) : Int) from rfl, slc_ok (Nat.le_refl _) (Nat.zero_le _)]
      rfl
  · refine Lp.step (s' := ((), 1, a)) ?_ (Lp.step (s' := ((), 2, a ++ b)) ?_ (Lp.done ?_))
    · simp only [Concat59.l1]
      refine .yes (by simp) (.val (a := a) rfl (.val (a := ()) ?_ (.now' ?_)))
      · simp [room_small (n := a.length) (by omega)]
      · simp [w64_id]
    · simp only [Concat59.l1]
      refine .yes (by simp) (.val (a := b) rfl (.val (a := ()) ?_ (.now' ?_)))
      · simp [room_small (n := a.length + b.length) (by omega)]
      · simp [w64_id]
    · simp only [Concat59.l1]
      exact .no (by simp) (.now _)


theorem small_of {c : Cir} (h : large c = false) : 0 ≤ c.1 ∧ c.1 ≤ 10 ∧ c.2.1.length ≤ 400 ∧ c.2.2.1.length ≤ 10 ∧ c.2.2.2.1.length ≤ 10 := by
  unfold large at h
  have := of_decide_eq_false h
  omega
theorem check_ev (c : Cir) : Ev (fun k => Check18 k c) (fault c, ()) := by
  unfold Check18
  refine .cnd (fun h => ?_) (fun h => ?_)
  · rw [large_or] at h
    exact .now' (by unfold fault; rw [if_pos h])
  rw [large_or] at h
  obtain ⟨s0, s1, s2, s3, s4⟩ := small_of h
  refine .cnd (fun h2 => ?_) (fun h2 => ?_)
  · rw [ne_len] at h2
    exact .now' (by unfold fault; rw [h, if_neg (by simp), if_pos (of_decide_eq_true h2)])
  rw [ne_len] at h2
  have h2 := of_decide_eq_false h2
  have hf : fault c = match gatesW c with | .inr e => e.1 | .inl _ => rest c := by
    unfold fault; rw [h, if_neg (by simp), if_neg h2] <;> (cases gatesW c <;> rfl)
  have hi : c.2.2.2.2.length ≤ 10 := by
    by_cases h3 : c.2.2.2.2.length = c.2.2.2.1.length
    · omega
    · exact absurd h3 h2
  refine .join (check_gates c s2).ev (fun a ha => ?_) (fun r hr => ?_)
  · obtain rfl := gatesW_inl c ha
    rw [ha] at hf
    rw [hf]
    refine .bind (concat_ev a.2.2.1 a.2.2.2.1 (by omega)) ?_
    have h1 := check_range a (a.2.2.1 ++ a.2.2.2.1) (by rw [List.length_append]; omega)
    have h3 := check_init a (by omega)
    unfold rest
    cases e1 : (a.2.2.1 ++ a.2.2.2.1).any (badX a) with
    | true => rw [e1] at h1; exact .joinR h1.ev
    | false =>
      rw [e1] at h1
      refine .joinL (S := Unit) h1.ev ?_
      cases e2 : a.2.2.2.2.any bad1 with
      | true => rw [e2] at h3; exact .joinR h3.ev
      | false => rw [e2] at h3; exact .joinL (S := Unit) (a := ()) h3.ev (.now _)
  · rw [hf, hr]
theorem cfault_ev (c : Cir) (hw : ∀ x ∈ c.2.2.2.2, -9223372036854775808 ≤ x ∧ x ≤ 9223372036854775807) : Ev (fun k => CircuitFault14 k c) (fault c, ()) := by
  unfold CircuitFault14
  refine .cnd (fun h => ?_) (fun h => ?_)
  · rw [large_or] at h
    exact .now' (by unfold fault; rw [if_pos h])
  rw [large_or] at h
  obtain ⟨s0, s1, s2, s3, s4⟩ := small_of h
  refine .cnd (fun h2 => ?_) (fun h2 => ?_)
  · rw [ne_len] at h2
    exact .now' (by unfold fault; rw [h, if_neg (by simp), if_pos (of_decide_eq_true h2)])
  rw [ne_len] at h2
  have h2 := of_decide_eq_false h2
  have hf : fault c = match gatesW c with | .inr e => e.1 | .inl _ => rest c := by
    unfold fault; rw [h, if_neg (by simp), if_neg h2] <;> (cases gatesW c <;> rfl)
  have hi : c.2.2.2.2.length ≤ 10 := by
    by_cases h3 : c.2.2.2.2.length = c.2.2.2.1.length
    · omega
    · exact absurd h3 h2
  refine .join (fault_gates c s2 s0 s1 s4).ev (fun a ha => ?_) (fun r hr => ?_)
  · obtain rfl := gatesW_inl c ha
    rw [ha] at hf
    rw [hf]
    have h1 := fault_range a s3 s4
    have h3 := fault_init a (by omega) hw
    unfold rest
    cases e1 : (a.2.2.1 ++ a.2.2.2.1).any (badX a) with
    | true => rw [e1] at h1; exact .joinR h1.ev
    | false =>
      rw [e1] at h1
      refine .joinL (S := Unit) h1.ev ?_
      cases e2 : a.2.2.2.2.any bad1 with
      | true => rw [e2] at h3; exact .joinR h3.ev
      | false => rw [e2] at h3; exact .joinL (S := Unit) (a := ()) h3.ev (.now _)
  · rw [hf, hr]

/-- a right circuit -/
structure Right (c : Cir) : Prop where
  ins : 0 ≤ c.1 ∧ c.1 ≤ 10
  gates : c.2.1.length ≤ 400
  outs : c.2.2.1.length ≤ 10 ∧ ∀ x ∈ c.2.2.1, 0 ≤ x ∧ x < (c.2.1.length : Int)
  next : c.2.2.2.1.length ≤ 10 ∧ ∀ x ∈ c.2.2.2.1, 0 ≤ x ∧ x < (c.2.1.length : Int)
  gate : ∀ (i : Nat) (g : Gate), c.2.1[i]? = some g → oneF c i g = 0
theorem right_of (c : Cir) (h : fault c = 0) : Right c := by
  unfold fault at h
  split at h
  · omega
  rename_i hl
  have hl : large c = false := by simpa using hl
  obtain ⟨s0, s1, s2, s3, s4⟩ := small_of hl
  split at h
  · omega
  have hone : ∀ (l : List Gate) (b : Nat), (∀ r, walk (gW c) (fun _ => (.inl c : Cir ⊕ (Int × Unit))) l b = .inr r → r.1 ≠ 0) ∧ ((∃ a, walk (gW c) (fun _ => (.inl c : Cir ⊕ (Int × Unit))) l b = .inl a) → ∀ (i : Nat) (g : Gate), l[i]? = some g → oneF c ((b + i : Nat) : Int) g = 0) := by
    intro l
    induction l with
    | nil => intro b; exact ⟨fun r hr => (by cases hr), fun _ i g hg => (by simp at hg)⟩
    | cons x l ih =>
      intro b
      rw [walk_cons]
      unfold gW
      by_cases h0 : oneF c b x = 0
      · rw [if_pos h0]
        refine ⟨(ih (b + 1)).1, fun ha i g hg => ?_⟩
        cases i with
        | zero =>
          have : x = g := by simpa using hg
          rw [← this]; exact h0
        | succ i =>
          have := (ih (b + 1)).2 ha i g (by simpa using hg)
          rwa [show b + 1 + i = b + (i + 1) by omega] at this
      · rw [if_neg h0]
        exact ⟨fun r hr => (by cases hr; exact h0), fun ⟨a, ha⟩ => (by cases ha)⟩
  cases hg : gatesW c with
  | inr r =>
    rw [hg] at h
    exact absurd h ((hone c.2.1 0).1 r hg)
  | inl a =>
    rw [hg] at h
    have h : rest c = 0 := h
    unfold rest at h
    split at h
    · omega
    rename_i hr
    have hr : ∀ x ∈ c.2.2.1 ++ c.2.2.2.1, 0 ≤ x ∧ x < (c.2.1.length : Int) := by
      intro x hx
      have : (c.2.2.1 ++ c.2.2.2.1).any (badX c) = false := by simpa using hr
      rw [List.any_eq_false] at this
      have := this x hx
      unfold badX at this
      simp only [decide_eq_true_eq] at this
      omega
    exact ⟨⟨s0, s1⟩, s2, ⟨s3, fun x hx => hr x (List.mem_append_left _ hx)⟩, ⟨s4, fun x hx => hr x (List.mem_append_right _ hx)⟩, fun i g hgi => by
      have := (hone c.2.1 0).2 ⟨a, hg⟩ i g hgi
      rwa [Nat.zero_add] at this⟩
end Go.Proofs.Ytjbdhaenakcclaa.St

/- Circuits of gates: the values of all gates. No program in sight. -/
set_option linter.unusedVariables false
noncomputable section
namespace Go.Proofs.Ytjbdhaenakcclaa.St
open Go Go.Proofs.Ytjbdhaenakcclaa.Gp

/-- the value of a gate behind others -/
def valG (st inn : Int) (v : List Nat) (g : Gate) : Nat :=
  if g.1 = 0 then g.2.2.2.2.toNat else
  if g.1 = 1 then bitOf (shrI .i64 inn g.2.2.2.2) else
  if g.1 = 2 then bitOf (shrI .i64 st g.2.2.2.2) else
  if g.1 = 3 then 1 - v.getD g.2.1.toNat 0 else
  if g.1 = 4 then v.getD g.2.1.toNat 0 &&& v.getD g.2.2.1.toNat 0 else
  if g.1 = 5 then v.getD g.2.1.toNat 0 ||| v.getD g.2.2.1.toNat 0 else
  if g.1 = 6 then v.getD g.2.1.toNat 0 ^^^ v.getD g.2.2.1.toNat 0 else
  if v.getD g.2.1.toNat 0 = 1 then v.getD g.2.2.1.toNat 0 else v.getD g.2.2.2.1.toNat 0
def vS (st inn : Int) (v : List Nat) (g : Gate) : List Nat := v ++ [valG st inn v g]
def vals (st inn : Int) (l : List Gate) : List Nat := l.foldl (vS st inn) []
theorem vals_snoc (st inn : Int) (l : List Gate) (g : Gate) : vals st inn (l ++ [g]) = vals st inn l ++ [valG st inn (vals st inn l) g] := by
  unfold vals; rw [List.foldl_append]; rfl
theorem vals_len (st inn : Int) (l : List Gate) : (vals st inn l).length = l.length := by
  have : ∀ (l : List Gate) (v : List Nat), (l.foldl (vS st inn) v).length = v.length + l.length := by
    intro l
    induction l with
    | nil => intro v; rfl
    | cons x l ih => intro v; rw [List.foldl_cons, ih]; simp [vS]; omega
  unfold vals; rw [this]; simp
theorem leg_ok {i n k x : Int} (h : leg i n k x = 0) (hk : k < n) : 0 ≤ x ∧ x < i := by
  unfold leg at h
  split at h
  · omega
  · rename_i h1
    by_cases h2 : x < 0 ∨ x ≥ i
    · exact absurd ⟨hk, h2⟩ h1
    · omega
/-- what a right gate's parts are -/
theorem gate_ok {c : Cir} {i : Int} {g : Gate} (h : oneF c i g = 0) : ¬ (g.1 < 0 ∨ g.1 > 7) ∧ (0 < needs g.1 → 0 ≤ g.2.1 ∧ g.2.1 < i) ∧ (1 < needs g.1 → 0 ≤ g.2.2.1 ∧ g.2.2.1 < i) ∧ (2 < needs g.1 → 0 ≤ g.2.2.2.1 ∧ g.2.2.2.1 < i) ∧ 0 ≤ g.2.2.2.2 ∧ g.2.2.2.2 < mostN c g.1 := by
  unfold oneF at h
  split at h
  · omega
  rename_i hk
  split at h
  · omega
  rename_i hl
  have hl : legs i g = 0 := by
    by_cases h0 : legs i g = 0
    · exact h0
    · exact absurd h0 hl
  split at h
  · omega
  rename_i hN
  unfold legs at hl
  split at hl
  · rename_i h0; exact absurd hl h0
  rename_i h0
  split at hl
  · rename_i h1; exact absurd hl h1
  rename_i h1
  have h0 : leg i (needs g.1) 0 g.2.1 = 0 := by
    by_cases h : leg i (needs g.1) 0 g.2.1 = 0
    · exact h
    · exact absurd h h0
  have h1 : leg i (needs g.1) 1 g.2.2.1 = 0 := by
    by_cases h : leg i (needs g.1) 1 g.2.2.1 = 0
    · exact h
    · exact absurd h h1
  exact ⟨hk, leg_ok h0, leg_ok h1, leg_ok hl, by omega, by omega⟩
theorem bits2 {a b : Nat} (ha : a ≤ 1) (hb : b ≤ 1) : (a &&& b) ≤ 1 ∧ (a ||| b) ≤ 1 ∧ (a ^^^ b) ≤ 1 := by
  have : ∀ a < 2, ∀ b < 2, (a &&& b) ≤ 1 ∧ (a ||| b) ≤ 1 ∧ (a ^^^ b) ≤ 1 := by decide
  exact this a (by omega) b (by omega)
theorem getD_le {v : List Nat} (h : ∀ b ∈ v, b ≤ 1) (j : Nat) : v.getD j 0 ≤ 1 := by
  rw [List.getD_eq_getElem?_getD]
  cases hj : v[j]? with
  | none => simp
  | some b => exact h b (get_mem hj)
theorem valG_le {c : Cir} {i : Int} {g : Gate} (hg : oneF c i g = 0) (st inn : Int) {v : List Nat} (h : ∀ b ∈ v, b ≤ 1) : valG st inn v g ≤ 1 := by
  obtain ⟨_, _, _, _, h0, h1⟩ := gate_ok hg
  have b2 := bits2 (getD_le h g.2.1.toNat) (getD_le h g.2.2.1.toNat)
  unfold valG
  split
  · rename_i hk; rw [hk] at h1; have : mostN c 0 = 2 := rfl; omega
  split
  · exact (bit_and _).2
  split
  · exact (bit_and _).2
  split
  · omega
  split
  · exact b2.1
  split
  · exact b2.2.1
  split
  · exact b2.2.2
  split
  · exact getD_le h _
  · exact getD_le h _

def ints (v : List Nat) : List Int := v.map (fun (b : Nat) => (b : Int))
/-- what the row holds behind the values that are known -/
def rowOf (v : List Nat) (n : Nat) : List Int := ints v ++ List.replicate (n - v.length) 0
theorem rowOf_at {v : List Nat} {n j : Nat} (h : j < v.length) : (rowOf v n)[j]? = some ((v.getD j 0 : Nat) : Int) := by
  unfold rowOf ints
  rw [List.getElem?_append_left (by simpa using h), List.getElem?_map, List.getD_eq_getElem?_getD, List.getElem?_eq_getElem h]
  rfl
theorem rowOf_next {v : List Nat} {n : Nat} (h : v.length < n) : (rowOf v n)[v.length]? = some 0 := by
  unfold rowOf ints
  rw [List.getElem?_append_right (by simp), List.length_map, Nat.sub_self, List.getElem?_replicate, if_pos (by omega)]
theorem rowOf_set {v : List Nat} {n : Nat} (h : v.length < n) (x : Nat) : (rowOf v n).set v.length (x : Int) = rowOf (v ++ [x]) n := by
  unfold rowOf ints
  rw [List.set_append_right _ _ (by simp), List.length_map, Nat.sub_self, List.map_append, List.length_append, List.append_assoc]
  congr 1
  obtain ⟨m, hm⟩ : ∃ m, n - v.length = m + 1 := ⟨n - v.length - 1, by omega⟩
  rw [hm, show n - (v.length + [x].length) = m by simp; omega]
  rfl
theorem rd_z {l : List Int} {z : Int} {x : Int} (h0 : 0 ≤ z) (h : l[z.toNat]? = some x) : rd l z = some x := rd_at (i := z.toNat) (by omega) h
end Go.Proofs.Ytjbdhaenakcclaa.St

/- Circuits of gates: the values of all gates, forwards. No program in sight. -/
set_option linter.unusedVariables false
noncomputable section
namespace Go.Proofs.Ytjbdhaenakcclaa.St
open Go Go.Proofs.Ytjbdhaenakcclaa.Gp

theorem int_bit {a : Nat} (h : a ≤ 1) : a < 9223372036854775808 := by omega
theorem values_step (c : Cir) (st inn : Int) (i : Nat) (g : Gate) (b : List Nat) (hx : c.2.1[i]? = some g) (hg : oneF c i g = 0) (hb : b.length = i) (h1 : ∀ x ∈ b, x ≤ 1) (hn : c.2.1.length ≤ 400) :
    Ev (fun k => values69.l0 k c st inn ((), (i : Int), rowOf b c.2.1.length)) (.inl ((), (i : Int) + 1, rowOf (vS st inn b g) c.2.1.length)) := by
  have hi := get_lt hx
  obtain ⟨hk, hA, hB, hC, hN0, hN1⟩ := gate_ok hg
  have hne : (rowOf b c.2.1.length)[i]? = some 0 := by rw [← hb]; exact rowOf_next (by omega)
  have hr : rd (rowOf b c.2.1.length) (i : Int) = some 0 := rd_some' hne
  have hlen : i < (rowOf b c.2.1.length).length := get_lt hne
  have hset : ∀ x : Nat, (rowOf b c.2.1.length).set (Int.toNat (i : Int)) (x : Int) = rowOf (b ++ [x]) c.2.1.length := fun x => by
    rw [Int.toNat_natCast, ← hb]; exact rowOf_set (by omega) x
  have hget : ∀ z : Int, 0 ≤ z → z < (i : Int) → rd (rowOf b c.2.1.length) z = some ((b.getD z.toNat 0 : Nat) : Int) := fun z h0 h2 => rd_z h0 (rowOf_at (by omega))
  simp only [values69.l0]
  refine .yes (decide_eq_true (by omega)) (.val (rd_some' hx) (.bind (a := ((), rowOf (vS st inn b g) c.2.1.length)) ?_ (.now' (by rw [w64_id (by omega) (by omega)]))))
  obtain ⟨kd, A, B, C, N⟩ := g
  have lA := getD_le h1 A.toNat
  have lB := getD_le h1 B.toNat
  have lC := getD_le h1 C.toNat
  dsimp only at hk hA hB hC hN0 hN1 ⊢
  rcases kinds hk with rfl | rfl | rfl | rfl | rfl | rfl | rfl | rfl
  · refine .yes rfl (.val hr (.val hr (.now' ?_)))
    rw [show N = ((N.toNat : Nat) : Int) by omega, hset]; rfl
  · refine .no rfl (.bind (a := ((), _)) (.yes rfl (.val (a := shrI .i64 inn N) (by rw [if_neg (by omega)]) (.val hr (.val hr (.now' ?_))))) (.now _))
    rw [(bit_and _).1, hset]; rfl
  · refine .no rfl (.bind (a := ((), _)) (.no rfl (.bind (a := ((), _)) (.yes rfl (.val (a := shrI .i64 st N) (by rw [if_neg (by omega)]) (.val hr (.val hr (.now' ?_))))) (.now _))) (.now _))
    rw [(bit_and _).1, hset]; rfl
  · have a1 := hget A (hA (by decide)).1 (hA (by decide)).2
    refine .no rfl (.bind (a := ((), _)) (.no rfl (.bind (a := ((), _)) (.no rfl (.bind (a := ((), _)) (.yes rfl (.val a1 (.val a1 (.val hr (.val hr (.now' ?_)))))) (.now _))) (.now _))) (.now _))
    rw [w64_id (by omega) (by omega), show (1 : Int) - ((b.getD A.toNat 0 : Nat) : Int) = ((1 - b.getD A.toNat 0 : Nat) : Int) by omega, hset]; rfl
  · have a1 := hget A (hA (by decide)).1 (hA (by decide)).2
    have a2 := hget B (hB (by decide)).1 (hB (by decide)).2
    refine .no rfl (.bind (a := ((), _)) (.no rfl (.bind (a := ((), _)) (.no rfl (.bind (a := ((), _)) (.no rfl (.bind (a := ((), _)) (.yes rfl (.val a1 (.val a1 (.val a2 (.val a2 (.val hr (.val hr (.now' ?_)))))))) (.now _))) (.now _))) (.now _))) (.now _))
    rw [ibits_and (int_bit lA) (int_bit lB), hset]; rfl
  · have a1 := hget A (hA (by decide)).1 (hA (by decide)).2
    have a2 := hget B (hB (by decide)).1 (hB (by decide)).2
    refine .no rfl (.bind (a := ((), _)) (.no rfl (.bind (a := ((), _)) (.no rfl (.bind (a := ((), _)) (.no rfl (.bind (a := ((), _)) (.no rfl (.bind (a := ((), _)) (.yes rfl (.val a1 (.val a1 (.val a2 (.val a2 (.val hr (.val hr (.now' ?_)))))))) (.now _))) (.now _))) (.now _))) (.now _))) (.now _))
    rw [ibits_or (int_bit lA) (int_bit lB), hset]; rfl
  · have a1 := hget A (hA (by decide)).1 (hA (by decide)).2
    have a2 := hget B (hB (by decide)).1 (hB (by decide)).2
    refine .no rfl (.bind (a := ((), _)) (.no rfl (.bind (a := ((), _)) (.no rfl (.bind (a := ((), _)) (.no rfl (.bind (a := ((), _)) (.no rfl (.bind (a := ((), _)) (.no rfl (.bind (a := ((), _)) (.yes rfl (.val a1 (.val a1 (.val a2 (.val a2 (.val hr (.val hr (.now' ?_)))))))) (.now _))) (.now _))) (.now _))) (.now _))) (.now _))) (.now _))
    rw [ibits_xor (int_bit lA) (int_bit lB), hset]; rfl
  · have a1 := hget A (hA (by decide)).1 (hA (by decide)).2
    have a2 := hget B (hB (by decide)).1 (hB (by decide)).2
    have a3 := hget C (hC (by decide)).1 (hC (by decide)).2
    have hA' := hA (by decide)
    have hB' := hB (by decide)
    have b1 : ∀ x : Int, rd ((rowOf b c.2.1.length).set (Int.toNat (i : Int)) x) A = some ((b.getD A.toNat 0 : Nat) : Int) := fun x => by
      refine rd_z hA'.1 ?_
      rw [Int.toNat_natCast, List.getElem?_set_ne (by omega)]
      exact rowOf_at (by omega)
    have b2 : ∀ x : Int, rd ((rowOf b c.2.1.length).set (Int.toNat (i : Int)) x) B = some ((b.getD B.toNat 0 : Nat) : Int) := fun x => by
      refine rd_z hB'.1 ?_
      rw [Int.toNat_natCast, List.getElem?_set_ne (by omega)]
      exact rowOf_at (by omega)
    have b3 : ∀ x : Int, rd ((rowOf b c.2.1.length).set (Int.toNat (i : Int)) x) (i : Int) = some x := fun x => by
      rw [Int.toNat_natCast]
      exact rd_some' (List.getElem?_set_self hlen)
    refine .no rfl (.bind (a := ((), _)) (.no rfl (.bind (a := ((), _)) (.no rfl (.bind (a := ((), _)) (.no rfl (.bind (a := ((), _)) (.no rfl (.bind (a := ((), _)) (.no rfl (.bind (a := ((), _)) (.no rfl (.bind (a := ((), _)) (.yes rfl (.val a3 (.val a3 (.val hr (.val hr (.val (b1 _) (.val (b1 _) (.bind (a := ((), _)) ?_ (.now _))))))))) (.now _))) (.now _))) (.now _))) (.now _))) (.now _))) (.now _))) (.now _))
    by_cases hv : b.getD A.toNat 0 = 1
    · refine .yes (by rw [hv]; rfl) (.val (b2 _) (.val (b2 _) (.val (b3 _) (.val (b3 _) (.now' ?_)))))
      rw [List.set_set, hset]
      show ((), rowOf (b ++ [_]) _) = ((), rowOf (b ++ [valG st inn b (7, A, B, C, N)]) _)
      rw [show valG st inn b (7, A, B, C, N) = b.getD B.toNat 0 from if_pos hv]
    · refine .no (by rw [beq_eq_false_iff_ne]; omega) (.now' ?_)
      rw [hset]
      show ((), rowOf (b ++ [_]) _) = ((), rowOf (b ++ [valG st inn b (7, A, B, C, N)]) _)
      rw [show valG st inn b (7, A, B, C, N) = b.getD C.toNat 0 from if_neg hv]

theorem vals_le {c : Cir} (hR : Right c) (st inn : Int) : ∀ (i : Nat), i ≤ c.2.1.length → ∀ x ∈ vals st inn (c.2.1.take i), x ≤ 1
  | 0, _, x, hx => by simp [vals] at hx
  | i + 1, h, x, hx => by
    have ih := vals_le hR st inn i (by omega)
    have hg := List.getElem?_eq_getElem (show i < c.2.1.length by omega)
    rw [List.take_add_one, hg, Option.toList_some, vals_snoc, List.mem_append] at hx
    rcases hx with hx | hx
    · exact ih x hx
    · rw [List.mem_singleton] at hx
      rw [hx]
      exact valG_le (hR.gate i _ hg) st inn ih
theorem values_ev {c : Cir} (hR : Right c) (st inn : Int) : Ev (fun k => values69 k c st inn) (ints (vals st inn c.2.1), ()) := by
  unfold values69
  refine .val (a := ()) (by rw [if_pos ⟨by omega, by omega, by have := hR.gates; omega⟩]) (.bind (a := ((), rowOf (vals st inn c.2.1) c.2.1.length)) (Lp.ev ?_) (.now' ?_))
  · refine Lp.fold (body := fun k => values69.l0 k c st inn) c.2.1 (fun b i => ((), i, rowOf b c.2.1.length)) (vS st inn) (fun b => ((), rowOf b c.2.1.length)) (fun i b => b = vals st inn (c.2.1.take i)) (fun i g b hx hb => ⟨?_, ?_⟩) (fun b _ => ?_) (b := []) rfl
    · have hi := get_lt hx
      exact values_step c st inn i g b hx (hR.gate i g hx) (by rw [hb, vals_len, List.length_take]; omega) (by rw [hb]; exact vals_le hR st inn i (by omega)) hR.gates
    · rw [List.take_add_one, hx, Option.toList_some, vals_snoc, ← hb]; rfl
    · simp only [values69.l0]
      exact .no (by simp) (.now _)
  · unfold rowOf
    rw [vals_len, Nat.sub_self]
    simp
end Go.Proofs.Ytjbdhaenakcclaa.St

/- Circuits of gates: the value of a gate, backwards, with what is known already. No program in sight. -/
set_option linter.unusedVariables false
noncomputable section
namespace Go.Proofs.Ytjbdhaenakcclaa.St
open Go Go.Proofs.Ytjbdhaenakcclaa.Gp

theorem Ev.succ {α : Type} {f : Nat → Option α} {v : α} (h : Ev (fun k => f (k + 1)) v) : Ev f v := by
  obtain ⟨n, h⟩ := h
  refine ⟨n + 1, fun k hk => ?_⟩
  obtain ⟨j, rfl⟩ : ∃ j, k = j + 1 := ⟨k - 1, by omega⟩
  exact h j (by omega)

/-- the value of the j-th -/
def V (c : Cir) (st inn : Int) (j : Nat) : Nat := (vals st inn c.2.1).getD j 0
theorem vals_app (st inn : Int) (l1 l2 : List Gate) : ∃ t, vals st inn (l1 ++ l2) = vals st inn l1 ++ t := by
  have : ∀ (l : List Gate) (v : List Nat), ∃ t, l.foldl (vS st inn) v = v ++ t := by
    intro l
    induction l with
    | nil => intro v; exact ⟨[], by simp⟩
    | cons x l ih =>
      intro v
      obtain ⟨t, ht⟩ := ih (vS st inn v x)
      exact ⟨[valG st inn v x] ++ t, by rw [List.foldl_cons, ht]; unfold vS; rw [List.append_assoc]⟩
  unfold vals
  rw [List.foldl_append]
  exact this l2 _
theorem V_pre (c : Cir) (st inn : Int) {i j : Nat} (hj : j < i) (hi : i ≤ c.2.1.length) : (vals st inn (c.2.1.take i)).getD j 0 = V c st inn j := by
  obtain ⟨t, ht⟩ := vals_app st inn (c.2.1.take i) (c.2.1.drop i)
  rw [List.take_append_drop] at ht
  unfold V
  rw [ht, List.getD_eq_getElem?_getD, List.getD_eq_getElem?_getD, List.getElem?_append_left (by rw [vals_len, List.length_take]; omega)]
theorem V_at (c : Cir) (st inn : Int) {i : Nat} {g : Gate} (h : c.2.1[i]? = some g) : V c st inn i = valG st inn (vals st inn (c.2.1.take i)) g := by
  have hi := get_lt h
  rw [← V_pre c st inn (Nat.lt_succ_self i) (by omega), List.take_add_one, h, Option.toList_some, vals_snoc, List.getD_eq_getElem?_getD, List.getElem?_append_right (by rw [vals_len, List.length_take]; omega)]
  have : i - (vals st inn (c.2.1.take i)).length = 0 := by rw [vals_len, List.length_take]; omega
  rw [this]; rfl
theorem V_le {c : Cir} (hR : Right c) (st inn : Int) (j : Nat) : V c st inn j ≤ 1 := by
  have := vals_le hR st inn c.2.1.length (Nat.le_refl _)
  rw [List.take_length] at this
  exact getD_le this j

theorem b_xor1 {a : Nat} (h : a ≤ 1) : ibits .xor .i64 (a : Int) 1 = ((1 - a : Nat) : Int) := by
  have : a = 0 ∨ a = 1 := by omega
  rcases this with rfl | rfl <;> rfl
theorem b_mn {a b : Nat} (h : a ≤ 1) (h2 : b ≤ 1) : mnI (a : Int) (b : Int) = ((a &&& b : Nat) : Int) := by
  have h : a = 0 ∨ a = 1 := by omega
  have h2 : b = 0 ∨ b = 1 := by omega
  rcases h with rfl | rfl <;> rcases h2 with rfl | rfl <;> rfl
theorem b_mx {a b : Nat} (h : a ≤ 1) (h2 : b ≤ 1) : mxI (a : Int) (b : Int) = ((a ||| b : Nat) : Int) := by
  have h : a = 0 ∨ a = 1 := by omega
  have h2 : b = 0 ∨ b = 1 := by omega
  rcases h with rfl | rfl <;> rcases h2 with rfl | rfl <;> rfl
theorem b_xor {a b : Nat} (h : a ≤ 1) (h2 : b ≤ 1) : Int.tmod (w64 ((a : Int) + (b : Int))) 2 = ((a ^^^ b : Nat) : Int) := by
  have h : a = 0 ∨ a = 1 := by omega
  have h2 : b = 0 ∨ b = 1 := by omega
  rcases h with rfl | rfl <;> rcases h2 with rfl | rfl <;> rfl

abbrev Map := List (Int × Int)
def RightM (c : Cir) (st inn : Int) (m : Map) : Prop := ∀ (k x : Int), mget (.int .i64) (.int .i64) m k = some x → ∃ j : Nat, k = j ∧ j < c.2.1.length ∧ x = ((V c st inn j : Nat) : Int)
theorem RightM.put {c : Cir} {st inn : Int} {m : Map} (h : RightM c st inn m) {i : Nat} (hi : i < c.2.1.length) : RightM c st inn (mput (.int .i64) (.int .i64) m (i : Int) ((V c st inn i : Nat) : Int)) := by
  intro k x hx
  have hx := (mget_mput (kk := .int .i64) (kv := .int .i64) rfl).symm.trans hx
  by_cases he : eqB (.int .i64) k (i : Int) = true
  · have : k = (i : Int) := (eqB_iff (k := .int .i64) rfl).1 he
    have hx := (if_pos he).symm.trans hx
    exact ⟨i, this, hi, (Option.some.inj hx).symm⟩
  · exact h k x ((if_neg he).symm.trans hx)
theorem RightM.nil (c : Cir) (st inn : Int) : RightM c st inn [] := fun k x h => by cases h

theorem value_ev {c : Cir} (hR : Right c) (st inn : Int) : ∀ (n i : Nat), i < n → i < c.2.1.length → ∀ m, RightM c st inn m → ∃ m', RightM c st inn m' ∧ Ev (fun k => Value19 k c st inn (i : Int) () m) (((V c st inn i : Nat) : Int), m') := by
  intro n
  induction n with
  | zero => intro i h; omega
  | succ n ih =>
    intro i hin hi m hm
    obtain ⟨g, hx⟩ : ∃ g, c.2.1[i]? = some g := ⟨_, List.getElem?_eq_getElem hi⟩
    have call : ∀ (z : Int), 0 ≤ z → z < (i : Int) → ∀ m, RightM c st inn m → ∃ m', RightM c st inn m' ∧ Ev (fun k => (GrpValue19 k).1 z c st inn () () m) (((V c st inn z.toNat : Nat) : Int), (), m') := by
      intro z h0 h1 m hm
      obtain ⟨m', r, e⟩ := ih z.toNat (by omega) (by omega) m hm
      refine ⟨m', r, Ev.succ ?_⟩
      rw [show ((z.toNat : Nat) : Int) = z by omega] at e
      exact .bind e (.now _)
    cases hk : mget (.int .i64) (.int .i64) m (i : Int) with
    | some x =>
      obtain ⟨j, e, _, rfl⟩ := hm _ _ hk
      have : j = i := by omega
      subst this
      refine ⟨m, hm, Ev.succ ?_⟩
      show Ev (fun k => Value19.b (GrpValue19 k) k c st inn (j : Int) () m) _
      simp only [Value19.b, hk]
      exact .yes rfl (.now _)
    | none =>
      have hgo := hR.gate i g hx
      obtain ⟨hkd, hA, hB, hC, hN0, hN1⟩ := gate_ok hgo
      have hV := V_at c st inn hx
      have pre : ∀ z : Int, 0 ≤ z → z < (i : Int) → (vals st inn (c.2.1.take i)).getD z.toNat 0 = V c st inn z.toNat := fun z h0 h1 => V_pre c st inn (by omega) (by omega)
      have le := V_le hR st inn
      obtain ⟨kd, A, B, C, N⟩ := g
      dsimp only at hkd hA hB hC hN0 hN1
      have start : ∀ m', RightM c st inn m' → (Ev (fun k => (Value19.b (GrpValue19 k) k c st inn (i : Int) () m)) (((V c st inn i : Nat) : Int), mput (.int .i64) (.int .i64) m' (i : Int) ((V c st inn i : Nat) : Int))) →
          ∃ m', RightM c st inn m' ∧ Ev (fun k => Value19 k c st inn (i : Int) () m) (((V c st inn i : Nat) : Int), m') := fun m' h e => ⟨_, h.put hi, Ev.succ e⟩
      rcases kinds hkd with rfl | rfl | rfl | rfl | rfl | rfl | rfl | rfl
      · have hv : ((V c st inn i : Nat) : Int) = N := by rw [hV]; show ((N.toNat : Nat) : Int) = N; omega
        refine start m hm ?_
        simp only [Value19.b, hk]
        refine .no rfl (.val (rd_some' hx) (.bind (a := ((), ((V c st inn i : Nat) : Int), m, ())) ?_ (.now _)))
        exact .yes rfl (.now' (by rw [hv]))
      · have hv : ((V c st inn i : Nat) : Int) = ibits .and .i64 (shrI .i64 inn N) 1 := by rw [hV, (bit_and _).1]; rfl
        refine start m hm ?_
        simp only [Value19.b, hk]
        refine .no rfl (.val (rd_some' hx) (.bind (a := ((), ((V c st inn i : Nat) : Int), m, ())) ?_ (.now _)))
        refine .no rfl (.bind (a := (st, inn, (), ((1 : Int), A, B, C, N), (c, st, inn, (), ()), true, m, ())) (.yes rfl (.now _)) ?_)
        dsimp only
        refine .bind (a := ((), ((V c st inn i : Nat) : Int), m, ())) (.yes rfl (.val (a := shrI .i64 inn N) ?_ (.now' (by rw [hv])))) (.now _)
        exact if_neg (by omega)
      · have hv : ((V c st inn i : Nat) : Int) = ibits .and .i64 (shrI .i64 st N) 1 := by rw [hV, (bit_and _).1]; rfl
        refine start m hm ?_
        simp only [Value19.b, hk]
        refine .no rfl (.val (rd_some' hx) (.bind (a := ((), ((V c st inn i : Nat) : Int), m, ())) ?_ (.now _)))
        refine .no rfl (.bind (a := (st, inn, (), ((2 : Int), A, B, C, N), (c, st, inn, (), ()), true, m, ())) (.no rfl (.now _)) ?_)
        dsimp only
        refine .bind (a := ((), ((V c st inn i : Nat) : Int), m, ())) (.yes rfl (.val (a := shrI .i64 st N) ?_ (.now' (by rw [hv])))) (.now _)
        exact if_neg (by omega)
      · skip
        obtain ⟨m1, r1, e1⟩ := call A (hA (by decide)).1 (hA (by decide)).2 m hm
        have pA := pre A (hA (by decide)).1 (hA (by decide)).2
        have hv : ((V c st inn i : Nat) : Int) = ibits .xor .i64 ((V c st inn A.toNat : Nat) : Int) 1 := by
          rw [hV, b_xor1 (le _), ← pA]; rfl
        refine start m1 r1 ?_
        simp only [Value19.b, hk]
        refine .no rfl (.val (rd_some' hx) (.bind (a := ((), ((V c st inn i : Nat) : Int), m1, ())) ?_ (.now _)))
        refine .no rfl (.bind (a := (st, inn, (), ((3 : Int), A, B, C, N), (c, st, inn, (), ()), false, m, ())) (.no rfl (.now _)) ?_)
        dsimp only
        refine .bind (a := ((), ((V c st inn i : Nat) : Int), m1, ())) (.no rfl (.bind (a := ((), ((V c st inn i : Nat) : Int), m1, ())) (.yes rfl (.bind e1 (.now' (by rw [hv])))) (.now _))) (.now _)
      · skip
        obtain ⟨m1, r1, e1⟩ := call A (hA (by decide)).1 (hA (by decide)).2 m hm
        have pA := pre A (hA (by decide)).1 (hA (by decide)).2
        obtain ⟨m2, r2, e2⟩ := call B (hB (by decide)).1 (hB (by decide)).2 m1 r1
        have pB := pre B (hB (by decide)).1 (hB (by decide)).2
        have hv : ((V c st inn i : Nat) : Int) = mnI ((V c st inn A.toNat : Nat) : Int) ((V c st inn B.toNat : Nat) : Int) := by
          rw [hV, b_mn (le _) (le _), ← pA, ← pB]; rfl
        refine start m2 r2 ?_
        simp only [Value19.b, hk]
        refine .no rfl (.val (rd_some' hx) (.bind (a := ((), ((V c st inn i : Nat) : Int), m2, ())) ?_ (.now _)))
        refine .no rfl (.bind (a := (st, inn, (), ((4 : Int), A, B, C, N), (c, st, inn, (), ()), false, m, ())) (.no rfl (.now _)) ?_)
        dsimp only
        refine .bind (a := ((), ((V c st inn i : Nat) : Int), m2, ())) (.no rfl (.bind (a := ((), ((V c st inn i : Nat) : Int), m2, ())) (.no rfl (.bind (a := ((), ((V c st inn i : Nat) : Int), m2, ())) (.yes rfl (.bind e1 (.bind e2 (.now' (by rw [hv]))))) (.now _))) (.now _))) (.now _)
      · skip
        obtain ⟨m1, r1, e1⟩ := call A (hA (by decide)).1 (hA (by decide)).2 m hm
        have pA := pre A (hA (by decide)).1 (hA (by decide)).2
        obtain ⟨m2, r2, e2⟩ := call B (hB (by decide)).1 (hB (by decide)).2 m1 r1
        have pB := pre B (hB (by decide)).1 (hB (by decide)).2
        have hv : ((V c st inn i : Nat) : Int) = mxI ((V c st inn A.toNat : Nat) : Int) ((V c st inn B.toNat : Nat) : Int) := by
          rw [hV, b_mx (le _) (le _), ← pA, ← pB]; rfl
        refine start m2 r2 ?_
        simp only [Value19.b, hk]
        refine .no rfl (.val (rd_some' hx) (.bind (a := ((), ((V c st inn i : Nat) : Int), m2, ())) ?_ (.now _)))
        refine .no rfl (.bind (a := (st, inn, (), ((5 : Int), A, B, C, N), (c, st, inn, (), ()), false, m, ())) (.no rfl (.now _)) ?_)
        dsimp only
        refine .bind (a := ((), ((V c st inn i : Nat) : Int), m2, ())) (.no rfl (.bind (a := ((), ((V c st inn i : Nat) : Int), m2, ())) (.no rfl (.bind (a := ((), ((V c st inn i : Nat) : Int), m2, ())) (.no rfl (.bind (a := ((), ((V c st inn i : Nat) : Int), m2, ())) (.yes rfl (.bind e1 (.bind e2 (.now' (by rw [hv]))))) (.now _))) (.now _))) (.now _))) (.now _)
      · skip
        obtain ⟨m1, r1, e1⟩ := call A (hA (by decide)).1 (hA (by decide)).2 m hm
        have pA := pre A (hA (by decide)).1 (hA (by decide)).2
        obtain ⟨m2, r2, e2⟩ := call B (hB (by decide)).1 (hB (by decide)).2 m1 r1
        have pB := pre B (hB (by decide)).1 (hB (by decide)).2
        have hv : ((V c st inn i : Nat) : Int) = Int.tmod (w64 (((V c st inn A.toNat : Nat) : Int) + ((V c st inn B.toNat : Nat) : Int))) 2 := by
          rw [hV, b_xor (le _) (le _), ← pA, ← pB]; rfl
        refine start m2 r2 ?_
        simp only [Value19.b, hk]
        refine .no rfl (.val (rd_some' hx) (.bind (a := ((), ((V c st inn i : Nat) : Int), m2, ())) ?_ (.now _)))
        refine .no rfl (.bind (a := (st, inn, (), ((6 : Int), A, B, C, N), (c, st, inn, (), ()), false, m, ())) (.no rfl (.now _)) ?_)
        dsimp only
        refine .bind (a := ((), ((V c st inn i : Nat) : Int), m2, ())) (.no rfl (.bind (a := ((), ((V c st inn i : Nat) : Int), m2, ())) (.no rfl (.bind (a := ((), ((V c st inn i : Nat) : Int), m2, ())) (.no rfl (.bind (a := ((), ((V c st inn i : Nat) : Int), m2, ())) (.no rfl (.bind (a := ((), ((V c st inn i : Nat) : Int), m2, ())) (.yes rfl (.bind e1 (.bind e2 (.now' (by rw [hv]))))) (.now _))) (.now _))) (.now _))) (.now _))) (.now _)
      · obtain ⟨m1, r1, e1⟩ := call C (hC (by decide)).1 (hC (by decide)).2 m hm
        obtain ⟨m2, r2, e2⟩ := call A (hA (by decide)).1 (hA (by decide)).2 m1 r1
        have pA := pre A (hA (by decide)).1 (hA (by decide)).2
        have pB := pre B (hB (by decide)).1 (hB (by decide)).2
        have pC := pre C (hC (by decide)).1 (hC (by decide)).2
        by_cases hva : V c st inn A.toNat = 1
        · obtain ⟨m3, r3, e3⟩ := call B (hB (by decide)).1 (hB (by decide)).2 m2 r2
          have hv : V c st inn i = V c st inn B.toNat := by
            rw [hV, ← pB]
            exact if_pos (pA.trans hva)
          refine start m3 r3 ?_
          simp only [Value19.b, hk]
          refine .no rfl (.val (rd_some' hx) (.bind (a := ((), ((V c st inn i : Nat) : Int), m3, ())) ?_ (.now _)))
          refine .no rfl (.bind (a := (st, inn, (), ((7 : Int), A, B, C, N), (c, st, inn, (), ()), false, m, ())) (.no rfl (.now _)) ?_)
          dsimp only
          refine .bind (a := ((), ((V c st inn i : Nat) : Int), m3, ())) (.no rfl (.bind (a := ((), ((V c st inn i : Nat) : Int), m3, ())) (.no rfl (.bind (a := ((), ((V c st inn i : Nat) : Int), m3, ())) (.no rfl (.bind (a := ((), ((V c st inn i : Nat) : Int), m3, ())) (.no rfl (.bind (a := ((), ((V c st inn i : Nat) : Int), m3, ())) (.no rfl (.bind (a := ((), ((V c st inn i : Nat) : Int), m3, ())) (.yes rfl (.bind e1 (.bind e2 (.bind (a := ((), ((V c st inn i : Nat) : Int), m3, ())) (.yes ?_ (.bind e3 (.now' (by rw [hv])))) (.now _))))) (.now _))) (.now _))) (.now _))) (.now _))) (.now _))) (.now _)
          exact decide_eq_true (by show ((V c st inn A.toNat : Nat) : Int) > 0; rw [hva]; decide)
        · have hv : V c st inn i = V c st inn C.toNat := by
            rw [hV, ← pC]
            exact if_neg (fun h => hva (pA.symm.trans h))
          refine start m2 r2 ?_
          simp only [Value19.b, hk]
          refine .no rfl (.val (rd_some' hx) (.bind (a := ((), ((V c st inn i : Nat) : Int), m2, ())) ?_ (.now _)))
          refine .no rfl (.bind (a := (st, inn, (), ((7 : Int), A, B, C, N), (c, st, inn, (), ()), false, m, ())) (.no rfl (.now _)) ?_)
          dsimp only
          refine .bind (a := ((), ((V c st inn i : Nat) : Int), m2, ())) (.no rfl (.bind (a := ((), ((V c st inn i : Nat) : Int), m2, ())) (.no rfl (.bind (a := ((), ((V c st inn i : Nat) : Int), m2, ())) (.no rfl (.bind (a := ((), ((V c st inn i : Nat) : Int), m2, ())) (.no rfl (.bind (a := ((), ((V c st inn i : Nat) : Int), m2, ())) (.no rfl (.bind (a := ((), ((V c st inn i : Nat) : Int), m2, ())) (.yes rfl (.bind e1 (.bind e2 (.bind (a := ((), ((V c st inn i : Nat) : Int), m2, ())) (.no ?_ (.now' (by rw [hv]))) (.now _))))) (.now _))) (.now _))) (.now _))) (.now _))) (.now _))) (.now _)
          have := le A.toNat
          exact decide_eq_false (by show ¬ ((V c st inn A.toNat : Nat) : Int) > 0; omega)
end Go.Proofs.Ytjbdhaenakcclaa.St

/- Circuits of gates: steps. No program in sight. -/
set_option linter.unusedVariables false
noncomputable section
namespace Go.Proofs.Ytjbdhaenakcclaa.St
open Go Go.Proofs.Ytjbdhaenakcclaa.Gp

/-- the values of the gates that are named, joined -/
def line (c : Cir) (st inn : Int) (l : List Int) : List Nat := l.map (fun x => V c st inn x.toNat)
theorem line_le {c : Cir} (hR : Right c) (st inn : Int) (l : List Int) : ∀ b ∈ line c st inn l, b ≤ 1 := by
  intro b hb
  obtain ⟨x, _, rfl⟩ := List.mem_map.1 hb
  exact V_le hR st inn _
def InG (c : Cir) (l : List Int) : Prop := l.length ≤ 10 ∧ ∀ x ∈ l, 0 ≤ x ∧ x < (c.2.1.length : Int)
theorem bits_ev {c : Cir} (hR : Right c) (st inn : Int) (l : List Int) (hl : InG c l) : Ev (fun k => bits70 k (ints (vals st inn c.2.1)) l) (((pk (line c st inn l) : Nat) : Int), ()) := by
  unfold bits70
  refine .bind (a := ((pk (line c st inn l) : Nat) : Int)) (Lp.ev ?_) (.now _)
  have := Lp.fold (body := fun k => bits70.l0 k (ints (vals st inn c.2.1)) l) l (fun (m : List Nat) i => ((pk m : Int), i)) (fun m x => m ++ [V c st inn x.toNat]) (fun m => (pk m : Int)) (fun i m => m = line c st inn (l.take i)) (fun i x m hx hm => ⟨?_, ?_⟩) (fun m _ => ?_) (b := []) rfl
  · rw [foldl_snoc, List.nil_append] at this
    exact this
  · have hi := get_lt hx
    have hll := hl.1
    obtain ⟨x0, x1⟩ := hl.2 x (get_mem hx)
    have hlen : m.length = i := by rw [hm]; unfold line; rw [List.length_map, List.length_take]; omega
    have hlt : pk m < 2 ^ i := by rw [← hlen]; exact pk_lt m (by rw [hm]; exact line_le hR st inn _)
    have hv : rd (ints (vals st inn c.2.1)) x = some ((V c st inn x.toNat : Nat) : Int) := by
      refine rd_z x0 ?_
      unfold ints V
      rw [List.getElem?_map, List.getD_eq_getElem?_getD, List.getElem?_eq_getElem (show x.toNat < (vals st inn c.2.1).length by rw [vals_len]; omega)]
      rfl
    simp only [bits70.l0]
    refine .yes (decide_eq_true (by omega)) (.val (rd_some' hx) (.val hv (.val (a := shlI .i64 ((V c st inn x.toNat : Nat) : Int) (i : Int)) ?_ (.now' ?_))))
    · rw [if_neg (by omega)]
    · rw [or_bit hlt (V_le hR st inn _) (by omega), pk_snoc, hlen, w64_id (by omega) (by omega)]
  · rw [hm, take_snoc hx]; unfold line; rw [List.map_append]; rfl
  · simp only [bits70.l0]
    exact .no (by simp) (.now _)

theorem line_lp {c : Cir} (hR : Right c) (st inn : Int) (w : Nat) (hw : w < 2) (l : List Int) (hl : InG c l) (o2 : List (List Int)) : ∀ (suf pre : List Int) (m : Map) (o1 : List Int), l = pre ++ suf → RightM c st inn m → o1.length = 2 → o1[w]? = some ((pk (line c st inn pre) : Nat) : Int) →
    ∃ m' o1', RightM c st inn m' ∧ o1'.length = 2 ∧ o1'[w]? = some ((pk (line c st inn l) : Nat) : Int) ∧ (∀ j, j ≠ w → o1'[j]? = o1[j]?) ∧
      Lp (fun k => Stepped20.l0 k st inn (w : Int) l) (c, (), (), (), (pre.length : Int), m, o1, o2) (c, (), (), (), m', o1', o2) := by
  intro suf
  induction suf with
  | nil =>
    intro pre m o1 h hm ho hp
    rw [List.append_nil] at h
    subst h
    refine ⟨m, o1, hm, ho, hp, fun _ _ => rfl, .done ?_⟩
    simp only [Stepped20.l0]
    exact .no (by simp) (.now _)
  | cons x suf ih =>
    intro pre m o1 h hm ho hp
    have hx : l[pre.length]? = some x := by rw [h]; simp
    have hi := get_lt hx
    have hll := hl.1
    obtain ⟨x0, x1⟩ := hl.2 x (get_mem hx)
    obtain ⟨m', r, e⟩ := value_ev hR st inn c.2.1.length x.toNat (by omega) (by omega) m hm
    rw [show ((x.toNat : Nat) : Int) = x by omega] at e
    have hlen : (line c st inn pre).length = pre.length := by unfold line; rw [List.length_map]
    have hlt : pk (line c st inn pre) < 2 ^ pre.length := by
      have := pk_lt _ (line_le hR st inn pre)
      rwa [hlen] at this
    have hpk : pk (line c st inn (pre ++ [x])) = pk (line c st inn pre) + V c st inn x.toNat * 2 ^ pre.length := by
      unfold line
      rw [List.map_append, List.map_singleton, pk_snoc, List.length_map]
    obtain ⟨m2, o', g1, g2, g3, g4, g5⟩ := ih (pre ++ [x]) m' (o1.set w ((pk (line c st inn (pre ++ [x])) : Nat) : Int)) (by rw [h]; simp) r (by rw [List.length_set]; exact ho) (List.getElem?_set_self (by omega))
    refine ⟨m2, o', g1, g2, g3, fun j hj => by rw [g4 j hj, List.getElem?_set_ne (Ne.symm hj)], .step ?_ g5⟩
    simp only [Stepped20.l0]
    refine .yes (decide_eq_true (by omega)) (.val (rd_some' hx) (.val (a := ()) (if_pos ⟨by omega, by omega⟩) (.val (rd_some' hp) (.bind e (.val (a := shlI .i64 ((V c st inn x.toNat : Nat) : Int) (pre.length : Int)) (if_neg (by omega)) (.val (a := ()) (if_pos ⟨by omega, by omega⟩) (.val (rd_some' hp) (.now' ?_))))))))
    rw [add_bit hlt (V_le hR st inn _) (by omega), w64_id (by omega) (by omega), ← hpk, List.length_append]
    simp

theorem stepped_ev {c : Cir} (hR : Right c) (st inn : Int) : Ev (fun k => Stepped20 k c st inn) ((((pk (line c st inn c.2.2.1) : Nat) : Int), ((pk (line c st inn c.2.2.2.1) : Nat) : Int), ()), ()) := by
  unfold Stepped20
  obtain ⟨m1, o1, a1, a2, a3, a4, a5⟩ := line_lp hR st inn 0 (by omega) c.2.2.1 hR.outs [c.2.2.1, c.2.2.2.1] c.2.2.1 [] [] [0, 0] rfl (.nil c st inn) rfl rfl
  obtain ⟨m2, o2, b1, b2, b3, b4, b5⟩ := line_lp hR st inn 1 (by omega) c.2.2.2.1 hR.next [c.2.2.1, c.2.2.2.1] c.2.2.2.1 [] m1 o1 rfl a1 a2 (by rw [a4 1 (by omega)]; rfl)
  have h0 : o2[0]? = some ((pk (line c st inn c.2.2.1) : Nat) : Int) := by rw [b4 0 (by omega)]; exact a3
  refine .bind (a := ((), o2)) (Lp.ev ?_) ?_
  · refine Lp.step (s' := (c, (), (), (), 1, m1, o1, [c.2.2.1, c.2.2.2.1])) ?_ (Lp.step (s' := (c, (), (), (), 2, m2, o2, [c.2.2.1, c.2.2.2.1])) ?_ (Lp.done ?_))
    · simp only [Stepped20.l1]
      exact .yes rfl (.val rfl (.val rfl (.bind a5.ev (.now' (by rw [w64_id (by omega) (by omega)]; rfl)))))
    · simp only [Stepped20.l1]
      exact .yes rfl (.val rfl (.val rfl (.bind b5.ev (.now' (by rw [w64_id (by omega) (by omega)]; rfl)))))
    · simp only [Stepped20.l1]
      exact .no rfl (.now _)
  · exact .val rfl (.val (rd_at (i := 0) rfl h0) (.val rfl (.val (rd_at (i := 1) rfl b3) (.now _))))
end Go.Proofs.Ytjbdhaenakcclaa.St

/- What an argument of a law reads as, kind by kind. -/
set_option linter.unusedVariables false
noncomputable section
namespace Go.Proofs.Ytjbdhaenakcclaa.Gp
open Go Go.ChangeShapes Go.WideShapes Go.RowKit

/-- the input's memory, all of it frozen -/
def memH (W : World) : Hp := fun b => W.heap[b]?

structure Gd (P : Program) (t : TypeId) (k : K) (wf : k.den → Prop) (siz : k.den → Nat) : Prop where
  cells : P.cellsOf t = k.w
  one : k.one = true
  pur : k.pur = true
  val : ∀ {W : World} {r : Reach} {base : Nat} {v : Value}, Value.okWide P W r base t v → v = k.mk v.cells.toList
  read : ∀ {H : Type} {enc : TypeId × Value → H} {W : World} {base : Nat} {spare : Nat → Bool} {held : Bool} {fuel : Nat} {cs : List Value} {x : DataW H × List MemPlace},
    DataW.trod enc P W base spare held fuel t cs = some x → (∀ n ∈ x.1.weights P t, n ≤ reachBytes) → ∃ y, (∀ L, Lv (memH W) L k y cs) ∧ wf y ∧ siz y ≤ Rows.uptoBulk x.1

variable {P : Program}

theorem str_len {s : ByteArray} : s.data.toList.length = s.size := Array.length_toList
theorem gd_int {t : TypeId} {k : IntKind} (hu : P.underlying t = some (.int k)) (hc : P.cellsOf t = 1) : Gd P t (.int k) (fun (y : Int) => (Lit.int k y).wf = true) (fun _ => 1) :=
  ⟨hc, rfl, rfl, fun h => by obtain ⟨n, rfl⟩ := okWide_int hu h; rfl, fun h _ => by
    obtain ⟨n, rfl, rfl, hw⟩ := DataW.trod_int hu h
    exact ⟨n, fun _ => rfl, hw, by simp [Rows.uptoBulk]⟩⟩
theorem gd_bool {t : TypeId} (hu : P.underlying t = some .bool) (hc : P.cellsOf t = 1) : Gd P t .bool (fun _ => True) (fun _ => 1) :=
  ⟨hc, rfl, rfl, fun h => by
    simp only [Value.okWide, hu, Cell.okWide] at h
    rename_i v
    cases v <;> first | rfl | (simp_all [Cell.ok]; done), fun h _ => by
    obtain ⟨n, rfl, rfl⟩ := DataW.trod_bool hu h
    exact ⟨n, fun _ => rfl, trivial, by simp [Rows.uptoBulk]⟩⟩
theorem gd_str {t : TypeId} (hu : P.underlying t = some .string) (hc : P.cellsOf t = 1) : Gd P t .str (fun (y : ByteArray) => y.size ≤ 140737488351232) (fun (y : ByteArray) => y.size + 1) :=
  ⟨hc, rfl, rfl, fun h => by
    simp only [Value.okWide, hu, Cell.okWide] at h
    rename_i v
    cases v <;> first | rfl | (simp_all [Cell.ok]; done), fun h hw => by
    obtain ⟨s, rfl, rfl, _⟩ := DataW.trod_string hu h
    refine ⟨s, fun _ => rfl, ?_, ?_⟩
    · have := hw s.data.toList.length (by simp [DataW.weights])
      rw [str_len] at this
      exact this
    · simp only [Rows.uptoBulk]
      rw [str_len]
      omega⟩

theorem weights_all {H : Type} {e : TypeId} {n : Nat} : ∀ {l : List (DataW H)} {d : DataW H}, d ∈ l → n ∈ d.weights P e → n ∈ DataW.weightsAll P e l
  | x :: r, d, hd, hn => by
    rw [DataW.weightsAll]
    rcases List.mem_cons.1 hd with rfl | hd
    · exact List.mem_append_left _ hn
    · exact List.mem_append_right _ (weights_all hd hn)
theorem buildL {α : Type} {H : Type} {wf : α → Prop} {siz : α → Nat} : ∀ (es : List (DataW H × List MemPlace)) (p : Nat → α → Prop),
    (∀ i x, es[i]? = some x → ∃ y, p i y ∧ wf y ∧ siz y ≤ Rows.uptoBulk x.1) →
    ∃ ys : List α, ys.length = es.length ∧ (∀ j y, ys[j]? = some y → p j y ∧ wf y) ∧ (ys.map siz).sum ≤ Rows.uptoBulkAll (es.map (·.1))
  | [], _, _ => ⟨[], rfl, fun j y h => by simp at h, by simp⟩
  | x :: r, p, h => by
    obtain ⟨y, hp, hw, hs⟩ := h 0 x rfl
    obtain ⟨ys, hl, hy, hsum⟩ := buildL r (fun i => p (i + 1)) (fun i x hx => h (i + 1) x (by simpa using hx))
    refine ⟨y :: ys, by simp [hl], fun j z hz => ?_, ?_⟩
    · cases j with
      | zero => simp only [List.getElem?_cons_zero, Option.some.injEq] at hz; subst hz; exact ⟨hp, hw⟩
      | succ j => exact hy j z (by simpa using hz)
    · simp only [List.map_cons, List.sum_cons, Rows.uptoBulkAll]
      omega

def sizL {α : Type} (siz : α → Nat) (l : List α) : Nat := (l.map siz).sum + 1
def wfL {α : Type} (B : Nat) (wf : α → Prop) (l : List α) : Prop := l.length * B ≤ 140737488351232 ∧ ∀ y ∈ l, wf y

theorem LvL_mk {α : Type} {R : α → List Value → Prop} {w : Nat} {C : List Value} : ∀ {ys : List α} {o : Nat}, (∀ j y, ys[j]? = some y → ∃ c : List Value, c.length = w ∧ R y c ∧ ∀ i u, c[i]? = some u → C[o + (j * w + i)]? = some u) →
    LvL R ys ((C.drop o).take (ys.length * w))
  | [], o, h => by simp [LvL]
  | y :: ys, o, h => by
    obtain ⟨c, hc, hr, hu⟩ := h 0 y rfl
    have e : (C.drop o).take w = c := by
      apply List.ext_getElem?
      intro i
      rw [cut_get]
      by_cases hi : i < w
      · rw [if_pos hi]
        have hi' : i < c.length := by omega
        have := hu i c[i] (List.getElem?_eq_getElem hi')
        rw [Nat.zero_mul, Nat.zero_add] at this
        rw [this, List.getElem?_eq_getElem hi']
      · rw [if_neg hi, List.getElem?_eq_none (by omega)]
    refine ⟨c, (C.drop (o + w)).take (ys.length * w), ?_, hr, LvL_mk (fun j z hz => ?_)⟩
    · rw [List.length_cons, Nat.add_mul, Nat.one_mul, Nat.add_comm (ys.length * w) w, List.take_add, e, List.drop_drop]
    · obtain ⟨c', h1, h2, h3⟩ := h (j + 1) z hz
      refine ⟨c', h1, h2, fun i u hi => ?_⟩
      have := h3 i u hi
      rw [Nat.add_mul, Nat.one_mul] at this
      rw [show o + w + (j * w + i) = o + (j * w + w + i) by omega]
      exact this

theorem gd_sl {t e : TypeId} {k : K} {wf : k.den → Prop} {siz : k.den → Nat} {B : Nat} (hu : P.underlying t = some (.slice e)) (hc : P.cellsOf t = 1) (hB : P.bytesOf e = B) (hk : 0 < k.w) (r : Gd P e k wf siz) :
    Gd P t (.sl k) (wfL (α := k.den) B wf) (sizL (α := k.den) siz) :=
  ⟨hc, rfl, r.pur, fun h => by obtain ⟨a, len, cap, rfl⟩ := okWide_slice hu h; rfl, fun {H enc W base spare held fuel cs x} h hw => by
    rcases DataW.trod_slice hu h with ⟨rfl, rfl⟩ | ⟨a, len, cap, elems, rest, n, _, rfl, rfl, hb, hl, hm, hlen, hel, _, _⟩
    · exact ⟨([] : List k.den), fun L => ⟨r.pur, none, 0, rfl, Nat.le_refl _, fun hn => absurd rfl hn⟩, ⟨by simp, fun y hy => by simp at hy⟩, by simp [sizL, Rows.uptoBulk]⟩
    · simp only [DataW.weights, hu] at hw
      have hw1 : (elems.length + rest.length) * B ≤ 140737488351232 := by
        have := hw ((elems.length + rest.length) * B) (by simp [hB])
        exact this
      obtain ⟨ys, hyl, hyp, hys⟩ := buildL (wf := wf) (siz := siz) elems (fun i y => ∃ c : List Value, c.length = k.w ∧ (∀ L, Lv (memH W) L k y c) ∧ ∀ j u, c[j]? = some u → W.cell? (a.add (i * k.w + j)) = some u) (fun i z hz => by
        have hi : i < len := by
          have := (List.getElem?_eq_some_iff.1 hz).1
          omega
        have h1 := hel i hi
        rw [hz] at h1
        obtain ⟨c, hc1, hc2⟩ := Option.bind_eq_some_iff.1 h1
        obtain ⟨y, hK, hwf, hsz⟩ := r.read hc2 (fun q hq => hw q (List.mem_cons_of_mem _ (List.mem_append_left _ (weights_all (List.mem_map.2 ⟨z, List.mem_of_getElem? hz, rfl⟩) hq))))
        obtain ⟨_, hcl, hcell⟩ := World.cells?_some hc1
        refine ⟨y, ⟨c, Lv_len (hK default), hK, fun j u hu => ?_⟩, hwf, hsz⟩
        have hj : j < P.cellsOf e := by
          have := (List.getElem?_eq_some_iff.1 hu).1
          omega
        have h3 := hcell j hj
        rw [Go.Deep.add_add, r.cells] at h3
        rw [h3]
        exact hu)
      refine ⟨ys, fun L => ⟨r.pur, some a, cap, by rw [hyl, hlen], by omega, fun hn => ?_⟩, ⟨?_, fun y hy => ?_⟩, ?_⟩
      · have hn : ys.length ≠ 0 := hn
        obtain ⟨y, hy⟩ : ∃ y, ys[0]? = some y := ⟨ys[0]'(by omega), List.getElem?_eq_getElem (by omega)⟩
        obtain ⟨c, c1, c2, c3⟩ := (hyp 0 y hy).1
        obtain ⟨u, hu0⟩ : ∃ u, c[0]? = some u := ⟨c[0]'(by omega), List.getElem?_eq_getElem (by omega)⟩
        have hcell := c3 0 u hu0
        rw [Nat.zero_mul, Nat.zero_add, show a.add 0 = a from rfl] at hcell
        unfold World.cell? at hcell
        split at hcell
        · rename_i C ee zz hblk
          split at hcell
          · cases hcell
          · rename_i hsp
            have hsp : a.spot = none := by cases hs : a.spot with | none => rfl | some q => rw [hs] at hsp; exact absurd rfl hsp
            refine ⟨a.block, a.off, C, ee, zz, by cases a; simp only at hsp; rw [hsp], hblk, LvL_mk (C := C.toList) (fun j y hy => ?_)⟩
            obtain ⟨c, c1, c2, c3⟩ := (hyp j y hy).1
            refine ⟨c, c1, c2 L, fun i u hi => ?_⟩
            have h5 := c3 i u hi
            have hadd : (a.add (j * k.w + i)).block = a.block ∧ (a.add (j * k.w + i)).off = a.off + (j * k.w + i) ∧ (a.add (j * k.w + i)).spot = none := by
              unfold Addr.add
              split
              · rename_i h0; exact ⟨rfl, by omega, hsp⟩
              · exact ⟨rfl, rfl, rfl⟩
            unfold World.cell? at h5
            rw [hadd.1, hblk, hadd.2.1, hadd.2.2] at h5
            rw [Array.getElem?_toList]
            exact h5
        · cases hcell
      · rw [hyl]
        exact Nat.le_trans (Nat.mul_le_mul_right _ (Nat.le_add_right _ _)) hw1
      · obtain ⟨j, hj⟩ := List.mem_iff_getElem?.1 hy
        exact (hyp j y hj).2
      · simp only [sizL, Rows.uptoBulk]
        omega⟩

/-- arrays -/
def sizA {α : Type} (siz : α → Nat) (l : List α) : Nat := (l.map siz).sum
def wfA {α : Type} (n : Nat) (wf : α → Prop) (l : List α) : Prop := l.length = n ∧ ∀ y ∈ l, wf y
theorem gd_arr {t e : TypeId} {n : Nat} {k : K} {wf : k.den → Prop} {siz : k.den → Nat} (hu : P.underlying t = some (.array n e)) (hc : P.cellsOf t = n * k.w) (r : Gd P e k wf siz) :
    Gd P t (.arr n k) (wfA (α := k.den) n wf) (sizA (α := k.den) siz) :=
  ⟨hc, rfl, r.pur, fun h => by
    simp only [Value.okWide, hu] at h
    obtain ⟨cs, rfl, _⟩ := h
    rfl, fun {H enc W base spare held fuel cs x} h hw => by
    obtain ⟨xs, m, _, rfl, hl, hxl, hx⟩ := DataW.trod_array hu h
    simp only [DataW.weights, hu] at hw
    obtain ⟨ys, hyl, hyp, hys⟩ := buildL (wf := wf) (siz := siz) xs (fun i y => ∀ L, Lv (memH W) L k y ((cs.drop (i * k.w)).take k.w)) (fun i z hz => by
      have hi : i < n := by
        have := (List.getElem?_eq_some_iff.1 hz).1
        omega
      have h1 := hx i hi
      rw [hz, r.cells] at h1
      obtain ⟨y, hK, hwf, hsz⟩ := r.read h1 (fun q hq => hw q (weights_all (List.mem_map.2 ⟨z, List.mem_of_getElem? hz, rfl⟩) hq))
      exact ⟨y, hK, hwf, hsz⟩)
    refine ⟨ys, fun L => ⟨r.pur, hyl.trans hxl, ?_⟩, ⟨hyl.trans hxl, fun y hy => ?_⟩, ?_⟩
    · have := LvL_mk (w := k.w) (R := Lv (memH W) L k) (C := cs) (ys := ys) (o := 0) (fun j y hy => ⟨(cs.drop (j * k.w)).take k.w, Lv_len ((hyp j y hy).1 L), (hyp j y hy).1 L, fun i u hi => by
        rw [cut_get] at hi
        split at hi
        · rw [Nat.zero_add]; exact hi
        · cases hi⟩)
      rwa [List.drop_zero, List.take_of_length_le (by rw [hl, hc, hyl, hxl]; exact Nat.le_refl _)] at this
    · obtain ⟨j, hj⟩ := List.mem_iff_getElem?.1 hy
      exact (hyp j y hj).2
    · simp only [sizA, Rows.uptoBulk]
      omega⟩

/-- fields in line, from cell 'off' on -/
structure GdF (P : Program) (off : Nat) (fs : List Field) (k : K) (wf : k.den → Prop) (siz : k.den → Nat) : Prop where
  pur : k.pur = true
  read : ∀ {H : Type} {enc : TypeId × Value → H} {W : World} {base : Nat} {spare : Nat → Bool} {held : Bool} {fuel : Nat} {cs : List Value} {xs : List (DataW H × List MemPlace)},
    cs.length = off + k.w → xs.length = fs.length →
    (∀ (i : Nat) (f : Field), fs[i]? = some f → DataW.trod enc P W base spare held fuel f.type ((cs.drop f.offset).take (P.cellsOf f.type)) = xs[i]?) →
    (∀ n ∈ DataW.weightsEach P (fs.map (·.type)) (xs.map (·.1)), n ≤ reachBytes) →
    ∃ y, (∀ L, Lv (memH W) L k y (cs.drop off)) ∧ wf y ∧ siz y ≤ Rows.uptoBulkAll (xs.map (·.1))

theorem gdf_nil {off : Nat} : GdF P off [] .unit (fun _ => True) (fun _ => 0) :=
  ⟨rfl, fun {H enc W base spare held fuel cs xs} hl hxl hx hw => ⟨(), fun L => by
    show cs.drop off = []
    exact List.drop_eq_nil_of_le (by rw [hl]; exact Nat.le_refl _), trivial, Nat.zero_le _⟩⟩
theorem gdf_cons {off : Nat} {f : Field} {fs : List Field} {k k' : K} {wf : k.den → Prop} {wf' : k'.den → Prop} {siz : k.den → Nat} {siz' : k'.den → Nat} (ho : f.offset = off) (r : Gd P f.type k wf siz)
    (rs : GdF P (off + k.w) fs k' wf' siz') : GdF P off (f :: fs) (.pair k k') (fun (y : k.den × k'.den) => wf y.1 ∧ wf' y.2) (fun (y : k.den × k'.den) => siz y.1 + siz' y.2) := by
  refine ⟨by simp only [K.pur, r.pur, rs.pur]; rfl, ?_⟩
  intro H enc W base spare held fuel cs xs hl hxl hx hw
  have hl' : cs.length = off + (k.w + k'.w) := hl
  match xs, hxl with
  | x :: xs, hxl =>
    have h := hx 0 f rfl
    rw [ho, r.cells] at h
    simp only [List.getElem?_cons_zero] at h
    obtain ⟨y, h1, h2, h3⟩ := r.read h (fun n hn => hw n (by simp [DataW.weightsEach, hn]))
    obtain ⟨z, g1, g2, g3⟩ := rs.read (enc := enc) (W := W) (base := base) (spare := spare) (held := held) (fuel := fuel) (cs := cs) (xs := xs) (by omega) (by simpa using hxl)
      (fun i g hg => by simpa using hx (i + 1) g (by simpa using hg)) (fun n hn => hw n (by simp only [List.map_cons, DataW.weightsEach]; exact List.mem_append_right _ hn))
    refine ⟨(y, z), fun L => ⟨(cs.drop off).take k.w, cs.drop (off + k.w), ?_, h1 L, g1 L⟩, ⟨h2, g2⟩, ?_⟩
    · rw [← List.drop_drop]
      exact (List.take_append_drop _ _).symm
    · simp only [List.map_cons, Rows.uptoBulkAll]
      omega
theorem gdf_one {off : Nat} {f : Field} {k : K} {wf : k.den → Prop} {siz : k.den → Nat} (ho : f.offset = off) (r : Gd P f.type k wf siz) : GdF P off [f] k wf siz := by
  refine ⟨r.pur, ?_⟩
  intro H enc W base spare held fuel cs xs hl hxl hx hw
  match xs, hxl with
  | [x], hxl =>
    have h := hx 0 f rfl
    rw [ho, r.cells] at h
    simp only [List.getElem?_cons_zero] at h
    have e : (cs.drop off).take k.w = cs.drop off := List.take_of_length_le (by rw [List.length_drop, hl]; omega)
    rw [e] at h
    obtain ⟨y, h1, h2, h3⟩ := r.read h (fun n hn => hw n (by simp [DataW.weightsEach, hn]))
    refine ⟨y, h1, h2, ?_⟩
    simp only [List.map_cons, List.map_nil, Rows.uptoBulkAll]
    omega
theorem gd_st {t : TypeId} {fs : Array Field} {k : K} {wf : k.den → Prop} {siz : k.den → Nat} (hu : P.underlying t = some (.struct fs)) (hc : P.cellsOf t = k.w) (r : GdF P 0 fs.toList k wf siz) : Gd P t (.st k) wf siz :=
  ⟨hc, rfl, r.pur, fun h => by
    simp only [Value.okWide, hu] at h
    obtain ⟨cs, rfl, _⟩ := h
    rfl, fun h hw => by
    obtain ⟨xs, n, _, rfl, hl, hxl, hx⟩ := DataW.trod_struct hu h
    obtain ⟨y, h1, h2, h3⟩ := r.read (by rw [hl, hc]; omega) (by rw [hxl]; simp) (fun i f hf => hx i f (by simpa using hf)) (fun n hn => hw n (by simp only [DataW.weights, hu]; exact hn))
    refine ⟨y, h1, h2, ?_⟩
    simp only [Rows.uptoBulk]
    omega⟩

/-- an argument -/
theorem Gd.arg {t : TypeId} {k : K} {wf : k.den → Prop} {siz : k.den → Nat} (r : Gd P t k wf siz) {H : Type} {enc : TypeId × Value → H} {W : World} {base : Nat} {spare : Nat → Bool} {held : Bool} {rr : Reach} {b2 : Nat} {v : Value} {x : DataW H} {ps : List MemPlace}
    (hval : Value.okWide P W rr b2 t v) (h : DataW.Trod enc P W base spare held t v x ps) (hw : ∀ n ∈ x.weights P t, n ≤ reachBytes) : ∃ y : k.den, (∀ L, SR (memH W) L ⟨k, y⟩ v) ∧ wf y ∧ siz y ≤ Rows.uptoBulk x := by
  obtain ⟨fuel, hf⟩ := h
  obtain ⟨y, h1, h2, h3⟩ := r.read hf hw
  refine ⟨y, fun L => ?_, h2, h3⟩
  rw [r.val hval]
  exact SR_mk (h1 L)

def noLoc : Ls := fun _ => default
theorem law_calls {fuel : Nat} {f : FuncId} {params : List K} {run : Nat → HL params → HL (List.map (·.toK) ([] : List OK)) → Option (K.bool.den × HL (List.map (·.toK) ([] : List OK)))} (hs : SoundAt P fuel ⟨f, params, [], .bool, [], [], run⟩) {ds : HL params}
    (hr : run fuel ds () = some (true, ())) {args : Array Value} {W : World} (hv : SRs (memH W) noLoc (unpackL params ds) args.toList) : Calls P f args W (fun e W' => e = .returned (.bool true) ∧ Below W.heap.size W W') := by
  have hno : ∀ b, ¬ Own (assoc O.dead (objsFrom 0 ([] : List OK) ())) noLoc b := fun b ⟨i, hi, _⟩ => hi
  refine Calls.mono (hs.2 ds () (true, ()) hr args W (memH W) noLoc hv ⟨fun i => trivial, fun b o h => h, fun i hi => hi.elim, fun i j hi => hi.elim⟩ (fun i hi => by cases hi)) fun e W' hh => ?_
  obtain ⟨v, H', L', rfl, h1, _, _, hp⟩ := hh
  have h1 : SR H' L' ⟨.bool, true⟩ v := h1
  refine ⟨by rw [bool_at h1], hp.fr.os, hp.fr.tape, hp.fr.output, hp.fr.size, fun b hb => hp.fr.same b hb (hno b)⟩
/-- The weights of one argument. -/
theorem weights_at {H : Type} {ts : List TypeId} {ds : List (DataW H)} (hsz : (DataW.weightsEach P ts ds).all (· ≤ reachBytes) = true) (j : Nat) {t : TypeId} {d : DataW H} (ht : ts[j]? = some t) (hd : ds[j]? = some d) :
    ∀ n ∈ d.weights P t, n ≤ reachBytes := fun n hn => by
  have := List.all_eq_true.1 hsz n (DataW.weights_mem_each ht hd n hn)
  simpa using this

/-- The bulk of one argument. -/
theorem bulk_at {H : Type} {l : List (DataW H)} (hk : Rows.uptoSmall H l = true) {d : DataW H} (hd : d ∈ l) : Rows.uptoBulk d ≤ 1048576 := by
  have h : Rows.uptoBulkAll l ≤ 1048576 := of_decide_eq_true hk
  have key : ∀ {l : List (DataW H)}, d ∈ l → Rows.uptoBulk d ≤ Rows.uptoBulkAll l := by
    intro l
    induction l with
    | nil => intro h; simp at h
    | cons x r ih =>
      intro h
      simp only [Rows.uptoBulkAll]
      rcases List.mem_cons.1 h with rfl | h
      · omega
      · have := ih h
        omega
  exact Nat.le_trans (key hd) h
end Go.Proofs.Ytjbdhaenakcclaa.Gp

/- Circuits of gates: the law. No program in sight. -/
set_option linter.unusedVariables false
noncomputable section
namespace Go.Proofs.Ytjbdhaenakcclaa.St
open Go Go.Proofs.Ytjbdhaenakcclaa.Gp

/-- one step: the state, and what came out so far -/
def stepS (c : Cir) (b : Int × List Int) (x : Int) : Int × List Int := (((pk (line c b.1 x c.2.2.2.1) : Nat) : Int), b.2 ++ [((pk (line c b.1 x c.2.2.1) : Nat) : Int)])
def ran (c : Cir) (l : List Int) : List Int := (l.foldl (stepS c) ((first c : Int), [])).2
def badIn (c : Cir) (x : Int) : Bool := decide (x < 0 ∨ x ≥ ((2 ^ c.1.toNat : Nat) : Int))
theorem room1 {n : Nat} (h : n * 8 ≤ 140737488351232 + 8) : room n 8 = true := room_ok (by omega)
theorem shl_ins {c : Cir} (hR : Right c) : shlI .i64 1 c.1 = ((2 ^ c.1.toNat : Nat) : Int) := by
  obtain ⟨h0, h1⟩ := hR.ins
  obtain ⟨j, hj⟩ : ∃ j : Nat, c.1 = (j : Int) := ⟨c.1.toNat, by omega⟩
  rw [hj, shlI_one (by omega), Int.toNat_natCast]
theorem foldl_len8 (c : Cir) : ∀ (l : List Int) (b : Int × List Int), (l.foldl (stepS c) b).2.length = b.2.length + l.length
  | [], b => rfl
  | x :: l, b => by rw [List.foldl_cons, foldl_len8 c l]; simp [stepS]; omega
def runW (c : Cir) (b : Int × List Int) (x : Int) : (Int × List Int) ⊕ ((Unit × (List Int)) ⊕ (((List Int) × (Int × Unit)) × Unit)) := if badIn c x then .inr (.inr (([], 1, ()), ())) else .inl (stepS c b x)
theorem walk_run (c : Cir) : ∀ (l : List Int) (b : Int × List Int), walk (runW c) (fun b => .inl ((), b.2)) l b = if l.any (badIn c) then .inr (([], 1, ()), ()) else .inl ((), (l.foldl (stepS c) b).2)
  | [], b => rfl
  | x :: l, b => by
    rw [walk_cons, List.any_cons, List.foldl_cons]
    cases h : badIn c x with
    | true =>
      rw [show runW c b x = .inr (.inr (([], 1, ()), ())) by unfold runW; rw [h]; rfl]
      rfl
    | false =>
      rw [show runW c b x = .inl (stepS c b x) by unfold runW; rw [h]; rfl]
      exact walk_run c l (stepS c b x)
def res (c : Cir) (l : List Int) : List Int × Int × Unit := if fault c ≠ 0 then ([], fault c, ()) else if l.any (badIn c) then ([], 1, ()) else (ran c l, 0, ())
theorem bad_ev {c : Cir} (hR : Right c) (x : Int) : Ev (fun (_ : Nat) => cond (decide (x < 0)) (some true) ((if c.1 < 0 then none else some (shlI .i64 1 c.1)).bind fun t31 => some (decide (x ≥ t31)))) (badIn c x) := by
  have h0 := hR.ins
  refine .iff (fun h => .now' ?_) (fun h => .val (a := ((2 ^ c.1.toNat : Nat) : Int)) (by rw [if_neg (by omega), shl_ins hR]) (.now' ?_))
  · unfold badIn; rw [decide_eq_true (.inl h)]
  · unfold badIn; exact decide_eq_decide.2 (by omega)
theorem run_ev (c : Cir) (l : List Int) (hl : l.length * 8 ≤ 140737488351232) : Ev (fun k => Run71 k c l) (res c l, ()) := by
  unfold Run71 res
  refine .bind (check_ev c) ?_
  by_cases hf : fault c ≠ 0
  · rw [if_pos hf]
    exact .yes (bne_iff_ne.2 hf) (.now _)
  rw [if_neg hf]
  have hf0 : fault c = 0 := by omega
  have hR := right_of c hf0
  refine .no (by rw [hf0]; rfl) (.bind (start_ev c) ?_)
  have hw : Lp (fun k => Run71.l0 k l) (c, (), (first c : Int), 0, []) (walk (runW c) (fun b => .inl ((), b.2)) l ((first c : Int), [])) := by
    refine Lp.walk (body := fun k => Run71.l0 k l) l (fun (b : Int × List Int) i => (c, (), b.1, i, b.2)) (runW c) (fun b => .inl ((), b.2)) (fun i b => b.2.length = i) (fun i x b hx hb => ⟨?_, fun b' h => ?_⟩) (fun b _ => ?_) (b := ((first c : Int), [])) rfl
    · have hi := get_lt hx
      simp only [Run71.l0]
      refine .yes (decide_eq_true (by omega)) (.val (rd_some' hx) (.bind (bad_ev hR x) ?_))
      unfold runW
      refine .cnd (fun h => .now' ?_) (fun h => ?_)
      · rw [if_pos h]
      · rw [if_neg (by simp [h])]
        refine .bind (values_ev hR b.1 x) (.bind (bits_ev hR b.1 x _ hR.outs) (.val (a := ()) ?_ (.bind (bits_ev hR b.1 x _ hR.next) (.now' ?_))))
        · rw [if_pos (room1 (by rw [hb]; show (i + 1) * 8 ≤ _; omega))]
        · rw [w64_id (by omega) (by omega)]; rfl
    · unfold runW at h
      split at h <;> cases h
      simp [stepS, hb]
    · simp only [Run71.l0]
      exact .no (by simp) (.now _)
  rw [walk_run] at hw
  by_cases hb : l.any (badIn c) = true
  · rw [if_pos hb] at hw ⊢
    exact .joinR hw.ev
  · rw [if_neg hb] at hw ⊢
    exact .joinL (S := Unit) hw.ev (.now _)

theorem equal_ev (l : List Int) (hl : l.length * 8 ≤ 140737488351232) : Ev (fun k => Equal25 k l l) (true, ()) := by
  unfold Equal25
  refine .no (by simp) (.joinL (S := Unit) (a := ()) (Lp.ev ?_) (.now _))
  refine Lp.fold (body := fun k => Equal25.l0 k l l) l (fun (_ : Unit) i => i) (fun _ _ => ()) (fun _ => (.inl () : Unit ⊕ (Bool × Unit))) (fun _ _ => True) (fun i x b hx _ => ⟨?_, trivial⟩) (fun b _ => ?_) (b := ()) trivial
  · have hi := get_lt hx
    simp only [Equal25.l0]
    refine .yes (decide_eq_true (by omega)) (.val (rd_some' hx) (.val (rd_some' hx) (.no (by simp) (.now' ?_))))
    rw [w64_id (by omega) (by omega)]
  · simp only [Equal25.l0]
    exact .no (by simp) (.now _)
def stepR (c : Cir) (st inn : Int) : Int × Int × Unit := if fault c ≠ 0 then (0, 0, ()) else (((pk (line c st inn c.2.2.1) : Nat) : Int), ((pk (line c st inn c.2.2.2.1) : Nat) : Int), ())
theorem stepR_ev (c : Cir) (st inn : Int) : Ev (fun k => Step16 k c st inn) (stepR c st inn, ()) := by
  unfold Step16 stepR
  refine .bind (check_ev c) ?_
  by_cases hf : fault c ≠ 0
  · rw [if_pos hf]
    exact .yes (bne_iff_ne.2 hf) (.now _)
  · rw [if_neg hf]
    have hf0 : fault c = 0 := by omega
    have hR := right_of c hf0
    exact .no (by rw [hf0]; rfl) (.bind (values_ev hR st inn) (.bind (bits_ev hR st inn _ hR.outs) (.bind (bits_ev hR st inn _ hR.next) (.now _))))
theorem first_ev (c : Cir) (hc : c.2.2.2.2.length ≤ 9223372036854775806) : Ev (fun k => First37 k c) ((first c : Int), ()) := by
  unfold First37
  refine .bind (a := (first c : Int)) (Lp.ev ?_) (.now _)
  generalize hl : c.2.2.2.2 = l at hc
  have hf : first c = pk ((l.take 10).map bitOf) := by unfold first; rw [hl]
  have := Lp.fold (body := fun k => First37.l0 k c) l (fun (m : List Nat) i => ((pk (m.take 10) : Int), i)) (fun m x => m ++ [bitOf x]) (fun m => (pk (m.take 10) : Int)) (fun i m => m = (l.take i).map bitOf) (fun i x m hx hm => ⟨?_, ?_⟩) (fun m _ => ?_) (b := []) rfl
  · rw [foldl_snoc, List.nil_append, ← List.map_take, ← hf] at this
    exact this
  · have hi := get_lt hx
    have hlen : m.length = i := by rw [hm, List.length_map, List.length_take]; omega
    simp only [First37.l0, hl]
    refine .yes (decide_eq_true (by omega)) (.val (rd_some' hx) (.bind (a := (pk ((m ++ [bitOf x]).take 10) : Int)) ?_ (.now' ?_)))
    · refine .iff (fun h => ?_) (fun h => .now' ?_)
      · have hlt : pk m < 2 ^ i := by rw [← hlen]; exact pk_lt m (by rw [hm]; exact bits_ok _)
        refine .val (a := shlI .i64 (bitOf x : Int) (i : Int)) ?_ (.now' ?_)
        · rw [if_neg (by omega), (bit_and x).1]
        · rw [List.take_of_length_le (show m.length ≤ 10 by omega), add_bit hlt (bit_and x).2 (by omega), List.take_of_length_le (by rw [List.length_append]; simp; omega), pk_snoc, hlen]
      · rw [List.take_append_of_le_length (by omega)]
    · rw [w64_id (by omega) (by omega)]
  · rw [hm, take_snoc hx, List.map_append]; rfl
  · simp only [First37.l0, hl]
    exact .no (by simp) (.now _)

end Go.Proofs.Ytjbdhaenakcclaa.St

/- Tables of circuits: lists, maps from states to numbers. No program in sight. -/
set_option linter.unusedVariables false
noncomputable section
namespace Go.Proofs.Ytjbdhaenakcclaa.St
open Go Go.Proofs.Ytjbdhaenakcclaa.Gp

theorem Lp.uniq {S R : Type} {body : Nat → S → Option (S ⊕ R)} {s : S} {r r' : R} (h : Lp body s r) (h' : Lp body s r') : r = r' := by
  obtain ⟨n, m, h⟩ := h
  obtain ⟨n', m', h'⟩ := h'
  exact Option.some.inj ((h (max n n') (by omega) (max m m') (by omega)).symm.trans (h' (max n n') (by omega) (max m m') (by omega)))
abbrev Tbl := Int × Int × List (List (Int × Int))
abbrev IMap := List (Int × Int)
def idx (l : List Int) (x : Int) : Int := (l.idxOf x : Nat)
theorem index_lp (l : List Int) (x : Int) (hl : l.length < 9223372036854775807) : ∀ (suf pre : List Int), l = pre ++ suf → x ∉ pre → Lp (fun k => Index57.l0 k l x) (pre.length : Int) (if x ∈ suf then .inr (idx l x, ()) else .inl ()) := by
  intro suf
  induction suf with
  | nil =>
    intro pre h hx
    rw [List.append_nil] at h
    subst h
    rw [if_neg (by simp)]
    refine .done ?_
    simp only [Index57.l0]
    exact .no (by simp) (.now _)
  | cons y suf ih =>
    intro pre h hx
    have hy : l[pre.length]? = some y := by rw [h]; simp
    have hlen : l.length = pre.length + (suf.length + 1) := by rw [h]; simp
    by_cases hxy : x = y
    · subst hxy
      rw [if_pos (by simp)]
      refine .done ?_
      simp only [Index57.l0]
      refine .yes (decide_eq_true (by omega)) (.val (rd_some' hy) (.yes (by simp) (.now' ?_)))
      have : l.idxOf x = pre.length := by rw [h, List.idxOf_append, if_neg hx]; simp
      unfold idx
      rw [this]
    · have e : (if x ∈ y :: suf then (.inr (idx l x, ()) : Unit ⊕ (Int × Unit)) else .inl ()) = if x ∈ suf then .inr (idx l x, ()) else .inl () := by
        simp [hxy]
      rw [e]
      have := ih (pre ++ [y]) (by rw [h]; simp) (by simp [hx, hxy])
      rw [List.length_append, List.length_singleton] at this
      refine .step ?_ this
      simp only [Index57.l0]
      refine .yes (decide_eq_true (by omega)) (.val (rd_some' hy) (.no (by simpa using hxy) (.now' ?_)))
      rw [w64_succ (by omega)]
theorem index_ev (l : List Int) (x : Int) (hl : l.length < 9223372036854775807) : Ev (fun k => Index57 k l x) (if x ∈ l then idx l x else -1, ()) := by
  unfold Index57
  have := index_lp l x hl l [] rfl (by simp)
  by_cases h : x ∈ l
  · rw [if_pos h] at this ⊢
    exact .joinR this.ev
  · rw [if_neg h] at this ⊢
    exact .joinL (S := Unit) this.ev (.now _)

theorem mput_new {kk kv : K} {l : List (kk.den × kv.den)} {k : kk.den} {v : kv.den} (h : mget kk kv l k = none) : mput kk kv l k v = l ++ [(k, v)] := by
  have hn : ¬ mpos kk kv l k < l.length := fun hlt => by
    obtain ⟨e, he, hp⟩ := mpos_lt hlt
    unfold mget at h
    rw [Option.map_eq_none_iff, List.find?_eq_none] at h
    exact h e (List.mem_of_getElem? he) hp
  unfold mput
  rw [if_neg hn]
theorem mget_self {kk kv : K} (hc : kk.cmp = true) {l : List (kk.den × kv.den)} {k : kk.den} {v : kv.den} : mget kk kv (mput kk kv l k v) k = some v := (mget_mput hc).trans (if_pos (eqB_refl hc))
theorem mget_other {kk kv : K} (hc : kk.cmp = true) {l : List (kk.den × kv.den)} {k k' : kk.den} {v : kv.den} (h : k' ≠ k) : mget kk kv (mput kk kv l k v) k' = mget kk kv l k' := (mget_mput hc).trans (if_neg (fun e => h (eqB_eq hc e)))
def inAt (l : List Int) (x : Int) : Option Int := if x ∈ l then some (idx l x) else none
theorem inAt_yes {l : List Int} {x : Int} (h : x ∈ l) : inAt l x = some (idx l x) := if_pos h
theorem inAt_no {l : List Int} {x : Int} (h : x ∉ l) : inAt l x = none := if_neg h
/-- a map that knows where each state stands -/
structure Knows (l : List Int) (m : IMap) : Prop where
  get : ∀ x : Int, mget (.int .i64) (.int .i64) m x = inAt l x
  len : m.length = l.length
theorem knows_nil : Knows [] [] := ⟨fun x => rfl, rfl⟩
theorem idx_app {l : List Int} {x : Int} (y : Int) (h : x ∈ l) : idx (l ++ [y]) x = idx l x := by
  unfold idx
  rw [List.idxOf_append, if_pos h]
theorem idx_new {l : List Int} {x : Int} (h : x ∉ l) : idx (l ++ [x]) x = (l.length : Int) := by
  unfold idx
  rw [List.idxOf_append, if_neg h]
  simp
theorem Knows.put {l : List Int} {m : IMap} (h : Knows l m) {x : Int} (hx : x ∉ l) : Knows (l ++ [x]) (mput (.int .i64) (.int .i64) m x (m.length : Int)) := by
  have hg : mget (.int .i64) (.int .i64) m x = none := (h.get x).trans (inAt_no hx)
  refine ⟨fun y => ?_, ?_⟩
  · by_cases hxy : y = x
    · subst hxy
      have e : inAt (l ++ [y]) y = some (m.length : Int) := by rw [inAt_yes (by simp), idx_new hx, h.len]
      exact (mget_self (kk := .int .i64) (kv := .int .i64) rfl).trans e.symm
    · refine (mget_other (kk := .int .i64) (kv := .int .i64) rfl hxy).trans ((h.get y).trans ?_)
      by_cases hy : y ∈ l
      · rw [inAt_yes hy, inAt_yes (by simp [hy]), idx_app x hy]
      · rw [inAt_no hy, inAt_no (by simp [hy, hxy])]
  · have := mput_new (kk := .int .i64) (kv := .int .i64) (v := (m.length : Int)) hg
    exact (congrArg List.length this).trans (by show (m ++ [(x, (m.length : Int))] : IMap).length = _; rw [List.length_append, List.length_append, h.len]; rfl)

def putS (l : List Int) (m : IMap) (x : Int) : IMap := if x ∈ l then m else mput (.int .i64) (.int .i64) m x (m.length : Int)
theorem putS_yes {l : List Int} {m : IMap} {x : Int} (h : x ∈ l) : putS l m x = m := if_pos h
theorem putS_no {l : List Int} {m : IMap} {x : Int} (h : x ∉ l) : putS l m x = mput (.int .i64) (.int .i64) m x (m.length : Int) := if_neg h
def addS (l : List Int) (x : Int) : List Int := if x ∈ l then l else l ++ [x]
theorem Knows.add {l : List Int} {m : IMap} (h : Knows l m) (x : Int) : Knows (addS l x) (putS l m x) := by
  by_cases hx : x ∈ l
  · rw [putS_yes hx, show addS l x = l from if_pos hx]; exact h
  · have := h.put hx
    rw [show addS l x = l ++ [x] from if_neg hx]
    rw [← putS_no hx] at this
    exact this
/-- equal tables -/
theorem equal96_ev (l : List (Int × Int)) (hl : l.length < 9223372036854775807) : Ev (fun k => Equal96 k l l) (true, ()) := by
  unfold Equal96
  refine .no (by simp) (.joinL (S := Unit) (a := ()) (Lp.ev ?_) (.now _))
  refine Lp.fold (body := fun k => Equal96.l0 k l l) l (fun (_ : Unit) i => i) (fun _ _ => ()) (fun _ => (.inl () : Unit ⊕ (Bool × Unit))) (fun _ _ => True) (fun i x b hx _ => ⟨?_, trivial⟩) (fun b _ => ?_) (b := ()) trivial
  · have hi := get_lt hx
    simp only [Equal96.l0]
    refine .yes (decide_eq_true (by omega)) (.val (rd_some' hx) (.val (rd_some' hx) (.no ?_ (.now' ?_))))
    · have : eqB (.st (.pair (.int .i64) (.int .i64))) x x = true := (eqB_iff (k := .st (.pair (.int .i64) (.int .i64))) rfl).2 rfl
      rw [this]; rfl
    · rw [w64_id (by omega) (by omega)]
  · simp only [Equal96.l0]
    exact .no (by simp) (.now _)
theorem rows_ev (l : List (List (Int × Int))) (hl : l.length < 9223372036854775807) (hr : ∀ r ∈ l, r.length < 9223372036854775807) : Ev (fun k => EqualFunc94 k l l ()) (true, ()) := by
  unfold EqualFunc94
  refine .no (by simp) (.joinL (S := Unit) (a := ()) (Lp.ev ?_) (.now _))
  refine Lp.fold (body := fun k => EqualFunc94.l0 k l l) l (fun (_ : Unit) i => ((), i)) (fun _ _ => ()) (fun _ => (.inl () : Unit ⊕ (Bool × Unit))) (fun _ _ => True) (fun i x b hx _ => ⟨?_, trivial⟩) (fun b _ => ?_) (b := ()) trivial
  · have hi := get_lt hx
    simp only [EqualFunc94.l0]
    refine .yes (decide_eq_true (by omega)) (.val (rd_some' hx) (.val (rd_some' hx) (.bind (a := (true, ())) ?_ (.no rfl (.now' ?_)))))
    · unfold sameTable195
      exact .bind (equal96_ev x (hr x (get_mem hx))) (.now _)
    · rw [w64_id (by omega) (by omega)]
  · simp only [EqualFunc94.l0]
    exact .no (by simp) (.now _)
theorem same_ev (t : Tbl) (hl : t.2.2.length < 9223372036854775807) (hr : ∀ r ∈ t.2.2, r.length < 9223372036854775807) : Ev (fun k => sameTable45 k t t) (true, ()) := by
  unfold sameTable45
  exact .bind (a := true) (.yes (by simp) (.bind (rows_ev t.2.2 hl hr) (.now _))) (.now _)
end Go.Proofs.Ytjbdhaenakcclaa.St

/- Tables of circuits: states found one after the other. No program in sight. -/
set_option linter.unusedVariables false
noncomputable section
namespace Go.Proofs.Ytjbdhaenakcclaa.St
open Go Go.Proofs.Ytjbdhaenakcclaa.Gp

def outI (c : Cir) (s : Int) (i : Nat) : Int := (pk (line c s (i : Int) c.2.2.1) : Nat)
def nxtI (c : Cir) (s : Int) (i : Nat) : Int := (pk (line c s (i : Int) c.2.2.2.1) : Nat)
theorem addS_len (l : List Int) (x : Int) : l.length ≤ (addS l x).length ∧ (addS l x).length ≤ l.length + 1 := by
  unfold addS
  split
  · omega
  · rw [List.length_append, List.length_singleton]; omega
theorem addS_at {l : List Int} {x : Int} {k : Nat} {s : Int} (h : l[k]? = some s) : (addS l x)[k]? = some s := by
  unfold addS
  split
  · exact h
  · rw [List.getElem?_append_left (get_lt h)]; exact h
/-- one input more of a state's row -/
def rowS (c : Cir) (s : Int) (b : List Int × List (Int × Int)) (i : Nat) : List Int × List (Int × Int) := (addS b.1 (nxtI c s i), b.2 ++ [(outI c s i, idx b.1 (nxtI c s i))])
theorem idx_none {l : List Int} {x : Int} (h : x ∉ l) : idx l x = (l.length : Int) := by unfold idx; rw [List.idxOf_eq_length h]
structure RowI (a : List Int) (k : Nat) (s : Int) (i : Nat) (b : List Int × List (Int × Int)) : Prop where
  len : a.length ≤ b.1.length ∧ b.1.length ≤ a.length + i
  row : b.2.length = i
  at' : b.1[k]? = some s
theorem RowI.next {a : List Int} {k : Nat} {s : Int} {i : Nat} {b : List Int × List (Int × Int)} (c : Cir) (h : RowI a k s i b) : RowI a k s (i + 1) (rowS c s b i) := by
  have := addS_len b.1 (nxtI c s i)
  have := h.len
  exact ⟨⟨show a.length ≤ (addS b.1 (nxtI c s i)).length by omega, show (addS b.1 (nxtI c s i)).length ≤ a.length + (i + 1) by omega⟩, by show (b.2 ++ _).length = _; rw [List.length_append, h.row]; rfl, addS_at h.at'⟩
theorem RowI.all {a : List Int} {k : Nat} {s : Int} (c : Cir) (h : a[k]? = some s) : ∀ n, RowI a k s n ((List.range n).foldl (rowS c s) (a, []))
  | 0 => ⟨⟨Nat.le_refl _, Nat.le_refl _⟩, rfl, h⟩
  | n + 1 => by rw [List.range_succ, List.foldl_append]; exact (RowI.all c h n).next c
theorem room8 {n : Nat} (h : n ≤ 100000) : room n 8 = true := room_ok (by omega)
theorem room16 {n : Nat} (h : n ≤ 100000) : room n 16 = true := room_ok (by omega)
theorem room24 {n : Nat} (h : n ≤ 100000) : room n 24 = true := room_ok (by omega)

theorem lawRow {c : Cir} (hR : Right c) (t : Tbl) (o1 : Int × Int × Unit) (o2 : List (List (Int × Int))) (a : List Int) (k : Nat) (s : Int) (n : Nat) (hk : a[k]? = some s) (ha : a.length ≤ 64) (hn : n ≤ 1024) :
    Lp (fun j => SynthTables11.l0 j (k : Int) (n : Int)) (c, t, (), (), (), 0, a, o1, o2, []) (c, t, (), (), (), ((List.range n).foldl (rowS c s) (a, [])).1, o1, o2, ((List.range n).foldl (rowS c s) (a, [])).2) := by
  refine Lp.count (body := fun j => SynthTables11.l0 j (k : Int) (n : Int)) n (fun (b : List Int × List (Int × Int)) i => (c, t, (), (), (), i, b.1, o1, o2, b.2)) (rowS c s) (fun b => (c, t, (), (), (), b.1, o1, o2, b.2)) (fun i b => i ≤ n ∧ RowI a k s i b) (fun i b hi hb => ⟨?_, hi, hb.2.next c⟩) (fun b hb => ?_) (b := (a, [])) ⟨Nat.zero_le _, RowI.all c hk 0⟩
  · obtain ⟨_, hb⟩ := hb
    have h1 := hb.len
    have h2 := hb.row
    simp only [SynthTables11.l0]
    refine .yes (decide_eq_true (by omega)) (.val (rd_some' hb.at') (.val (rd_some' hb.at') (.bind (stepped_ev hR s (i : Int)) ?_)))
    have hix := index_ev b.1 (nxtI c s i) (by omega)
    have tail : Ev (fun (j : Nat) => (if room (List.length b.2 + List.length [(outI c s i, idx b.1 (nxtI c s i))]) 16 then some () else none).bind fun _ => some (Sum.inl (β := Cir × Tbl × Unit × Unit × Unit × List Int × (Int × Int × Unit) × List (List (Int × Int)) × List (Int × Int)) (c, t, (), (), (), (w64 ((i : Int) + 1)), addS b.1 (nxtI c s i), o1, o2, b.2 ++ [(outI c s i, idx b.1 (nxtI c s i))]))) (.inl (c, t, (), (), (), (i : Int) + 1, (rowS c s b i).1, o1, o2, (rowS c s b i).2)) := by
      refine .val (a := ()) ?_ (.now' ?_)
      · rw [if_pos (room16 (by rw [h2]; simp; omega))]
      · rw [w64_id (by omega) (by omega)]; rfl
    by_cases hm : nxtI c s i ∈ b.1
    · rw [if_pos hm] at hix
      refine .bind hix (.bind (a := (c, t, (), (), (), idx b.1 (nxtI c s i), addS b.1 (nxtI c s i), o1, o2, b.2)) (.no (decide_eq_false (by unfold idx; omega)) (.now' ?_)) tail)
      rw [show addS b.1 (nxtI c s i) = b.1 from if_pos hm]
    · rw [if_neg hm] at hix
      refine .bind hix (.bind (a := (c, t, (), (), (), idx b.1 (nxtI c s i), addS b.1 (nxtI c s i), o1, o2, b.2)) (.yes rfl (.val (a := ()) ?_ (.now' ?_))) tail)
      · rw [if_pos (room8 (by simp; omega))]
      · rw [show addS b.1 (nxtI c s i) = b.1 ++ [nxtI c s i] from if_neg hm, idx_none hm]; rfl
  · simp only [SynthTables11.l0]
    exact .no (by simp) (.now _)
theorem progRow {c : Cir} (hf : fault c = 0) (o0 : Int × Int × Unit) (o1 : List (List (Int × Int))) (o2 : Int × Int × Unit) (o3 : List (List (Int × Int))) (a : List Int) (m : IMap) (k : Nat) (s : Int) (n : Nat) (hk : a[k]? = some s) (ha : a.length ≤ 64) (hn : n ≤ 1024) (hm : Knows a m) :
    ∃ m', Knows ((List.range n).foldl (rowS c s) (a, [])).1 m' ∧ Lp (fun j => Table56.l0 j (n : Int)) (c, (), (), (), (), (), 0, o0, o1, o2, o3, m, a.drop k, [])
      (c, (), (), (), (), (), o0, o1, o2, o3, m', ((List.range n).foldl (rowS c s) (a, [])).1.drop k, ((List.range n).foldl (rowS c s) (a, [])).2) := by
  have key : ∀ (d i : Nat) (m : IMap), i + d = n → Knows ((List.range i).foldl (rowS c s) (a, [])).1 m →
      ∃ m', Knows ((List.range n).foldl (rowS c s) (a, [])).1 m' ∧ Lp (fun j => Table56.l0 j (n : Int)) (c, (), (), (), (), (), (i : Int), o0, o1, o2, o3, m, ((List.range i).foldl (rowS c s) (a, [])).1.drop k, ((List.range i).foldl (rowS c s) (a, [])).2)
      (c, (), (), (), (), (), o0, o1, o2, o3, m', ((List.range n).foldl (rowS c s) (a, [])).1.drop k, ((List.range n).foldl (rowS c s) (a, [])).2) := by
    intro d
    induction d with
    | zero =>
      intro i m hi hm
      have : i = n := by omega
      subst this
      refine ⟨m, hm, .done ?_⟩
      simp only [Table56.l0]
      exact .no (by simp) (.now _)
    | succ d ih =>
      intro i m hi hm
      have hb := RowI.all c hk i
      have e : (List.range (i + 1)).foldl (rowS c s) (a, []) = rowS c s ((List.range i).foldl (rowS c s) (a, [])) i := by rw [List.range_succ, List.foldl_append]; rfl
      generalize (List.range i).foldl (rowS c s) (a, []) = b at hb hm e
      have h1 := hb.len
      have h2 := hb.row
      have h3 := hb.at'
      have hlt := get_lt h3
      have hrd : (b.1.drop k)[0]? = some s := by rw [List.getElem?_drop, Nat.add_zero]; exact h3
      have hd : (addS b.1 (nxtI c s i)).drop k = if nxtI c s i ∈ b.1 then b.1.drop k else b.1.drop k ++ [nxtI c s i] := by
        unfold addS
        split
        · rfl
        · rw [List.drop_append_of_le_length (by omega)]
      have hput := hm.add (nxtI c s i)
      obtain ⟨m', hm', hl⟩ := ih (i + 1) _ (by omega) (by rw [e]; exact hput)
      refine ⟨m', hm', .step ?_ hl⟩
      rw [e]
      simp only [Table56.l0]
      refine .yes (decide_eq_true (by omega)) (.val (rd_some' (i := 0) hrd) (.val (rd_some' (i := 0) hrd) (.bind (stepR_ev c s (i : Int)) ?_)))
      have es : stepR c s (i : Int) = (outI c s i, nxtI c s i, ()) := by unfold stepR; rw [if_neg (by omega)]; rfl
      rw [es]
      show Ev (fun j => Option.bind (cond (!(Option.isSome (mget (.int .i64) (.int .i64) m (nxtI c s i)))) _ _) _) _
      refine .bind (a := (c, (), (), (), (), (), idx b.1 (nxtI c s i), o0, o1, o2, o3, putS b.1 m (nxtI c s i), (addS b.1 (nxtI c s i)).drop k, b.2)) ?_ (.val (a := ()) ?_ (.now' ?_))
      · by_cases hx : nxtI c s i ∈ b.1
        · have hg : mget (.int .i64) (.int .i64) m (nxtI c s i) = some (idx b.1 (nxtI c s i)) := (hm.get _).trans (inAt_yes hx)
          rw [if_pos hx] at hd
          rw [putS_yes hx]
          refine .no (congrArg (fun (o : Option Int) => !(Option.isSome o)) hg) (.now' ?_)
          rw [hd]
          have : Option.getD (α := Int) (mget (.int .i64) (.int .i64) m (nxtI c s i)) (0 : Int) = idx b.1 (nxtI c s i) := congrArg (fun (o : Option Int) => Option.getD o 0) hg
          rw [this]
        · have hg : mget (.int .i64) (.int .i64) m (nxtI c s i) = none := (hm.get _).trans (inAt_no hx)
          rw [if_neg hx] at hd
          rw [putS_no hx]
          refine .yes (congrArg (fun (o : Option Int) => !(Option.isSome o)) hg) (.val (a := ()) ?_ (.now' ?_))
          · rw [if_pos (room8 (by rw [List.length_drop]; simp; omega))]
          · rw [hd, idx_none hx, hm.len]
      · rw [if_pos (room16 (by rw [h2]; simp; omega))]
      · rw [w64_succ (by omega)]; rfl
  exact key n 0 m (by omega) (by simpa using hm)

/-- all states that are found, and the rows -/
theorem found {c : Cir} (hR : Right c) (hf : fault c = 0) (h4 : c.1 ≤ 4) (t : Tbl) (x0 : Int × Int × Unit) : ∀ (n k : Nat) (a : List Int) (m : IMap) (rows : List (List (Int × Int))), k + n = 65 → k ≤ a.length → a.length ≤ 64 → rows.length = k → (∀ r ∈ rows, r.length ≤ 1024) → Knows a m →
    ∃ (a' : List Int) (rows' : List (List (Int × Int))), rows'.length ≤ 100 ∧ (∀ r ∈ rows', r.length ≤ 1024) ∧
      Lp (fun j => SynthTables11.l1 j) (c, t, (), (), (k : Int), a, (c.1, (c.2.2.1.length : Int), ()), rows) (t, (), (), a', (c.1, (c.2.2.1.length : Int), ()), rows') ∧
      Lp (fun j => Table56.l1 j) (c, (), (), (), (), x0, [], (c.1, (c.2.2.1.length : Int), ()), rows, m, a.drop k)
        (if a'.length > 64 then .inr (((0, 0, []), 6, ()), ()) else .inl ((), (), x0, [], (c.1, (c.2.2.1.length : Int), ()), rows')) := by
  intro n
  induction n with
  | zero => intro k a m rows hk hka ha; omega
  | succ n ih =>
    intro k a m rows hk hka ha hr hrr hm
    by_cases hlt : k < a.length
    · have hak : a[k]? = some a[k] := List.getElem?_eq_getElem hlt
      generalize a[k] = s at hak
      have hins := hR.ins
      have hsh := shl_ins hR
      obtain ⟨N, hN, hN2⟩ : ∃ N : Nat, shlI .i64 1 c.1 = (N : Int) ∧ N ≤ 16 := by
        refine ⟨_, hsh, ?_⟩
        have : c.1.toNat ≤ 4 := by omega
        exact Nat.le_trans (Nat.pow_le_pow_right (by decide) this) (by decide)
      have hrow := RowI.all c hak N
      have h1 := lawRow hR t (c.1, (c.2.2.1.length : Int), ()) rows a k s N hak ha (by omega)
      obtain ⟨m', hm', h2⟩ := progRow hf x0 [] (c.1, (c.2.2.1.length : Int), ()) rows a m k s N hak ha (by omega) hm
      generalize (List.range N).foldl (rowS c s) (a, []) = b at hrow hm' h1 h2
      have g1 := hrow.len
      have g2 := hrow.row
      have hrr' : ∀ r ∈ rows ++ [b.2], r.length ≤ 1024 := by
        intro r hr'
        rcases List.mem_append.1 hr' with h | h
        · exact hrr r h
        · rw [List.mem_singleton.1 h]; omega
      have law1 : Ev (fun j => SynthTables11.l1 j (c, t, (), (), (k : Int), a, (c.1, (c.2.2.1.length : Int), ()), rows)) (.inl (c, t, (), (), ((k + 1 : Nat) : Int), b.1, (c.1, (c.2.2.1.length : Int), ()), rows ++ [b.2])) := by
        simp only [SynthTables11.l1]
        refine .yes (by rw [decide_eq_true (by omega : (k : Int) < (a.length : Int)), decide_eq_true (by omega : (a.length : Int) ≤ 64)]; rfl) (.val (a := (N : Int)) (by rw [if_neg (by omega), hN]) (.bind h1.ev (.val (a := ()) ?_ (.now' ?_))))
        · rw [if_pos (room24 (by rw [hr]; simp; omega))]
        · rw [w64_succ (by omega)]
      have prog1 : ∀ r, (b.1.length > 64 → r = .inr (.inr (((0, 0, []), 6, ()), ()))) → (b.1.length ≤ 64 → r = .inl (c, (), (), (), (), x0, [], (c.1, (c.2.2.1.length : Int), ()), rows ++ [b.2], m', b.1.drop (k + 1))) → Ev (fun j => Table56.l1 j (c, (), (), (), (), x0, [], (c.1, (c.2.2.1.length : Int), ()), rows, m, a.drop k)) r := by
        intro r hr1 hr2
        simp only [Table56.l1]
        refine .yes (decide_eq_true (by rw [List.length_drop]; omega)) (.val (a := (N : Int)) (by rw [if_neg (by omega), hN]) (.bind h2.ev (.val (a := ()) ?_ (.val (a := b.1.drop (k + 1)) ?_ ?_))))
        · rw [if_pos (room24 (by rw [hr]; simp; omega))]
        · have := slc_tail (l := b.1.drop k) (a := 1) (by rw [List.length_drop]; omega)
          rw [List.drop_drop] at this
          exact this
        · refine .iff (fun h => .now' (hr1 (by rw [hm'.len] at h; omega)).symm) (fun h => .now' (hr2 (by rw [hm'.len] at h; omega)).symm)
      by_cases hbig : b.1.length > 64
      · refine ⟨b.1, rows ++ [b.2], by rw [List.length_append, hr]; simp; omega, hrr', .step law1 (.done ?_), ?_⟩
        · simp only [SynthTables11.l1]
          refine .no ?_ (.now _)
          rw [decide_eq_false (by omega : ¬ (b.1.length : Int) ≤ 64)]
          cases decide (((k + 1 : Nat) : Int) < (b.1.length : Int)) <;> rfl
        · rw [if_pos hbig]
          exact .done (prog1 _ (fun _ => rfl) (fun h => absurd h (by omega)))
      · obtain ⟨a', rows', q1, q2, q3, q4⟩ := ih (k + 1) b.1 m' (rows ++ [b.2]) (by omega) (by omega) (by omega) (by rw [List.length_append, hr]; rfl) hrr' hm'
        exact ⟨a', rows', q1, q2, .step law1 q3, .step (prog1 _ (fun h => absurd h hbig) (fun _ => rfl)) q4⟩
    · have : k = a.length := by omega
      refine ⟨a, rows, by omega, hrr, .done ?_, ?_⟩
      · simp only [SynthTables11.l1]
        refine .no ?_ (.now _)
        rw [decide_eq_false (by omega : ¬ (k : Int) < (a.length : Int))]; rfl
      · rw [if_neg (by omega)]
        refine .done ?_
        simp only [Table56.l1]
        refine .no (decide_eq_false (by rw [List.length_drop]; omega)) (.now _)
end Go.Proofs.Ytjbdhaenakcclaa.St

/- More fuel, no other answer. -/
set_option linter.unusedVariables false
noncomputable section
namespace Go.Proofs.Ytjbdhaenakcclaa.Gp
open Go

def Mono {α : Type} (f : Nat → Option α) : Prop := ∀ k j v, k ≤ j → f k = some v → f j = some v
theorem Mono.ev {α : Type} {f : Nat → Option α} (h : Mono f) {n : Nat} {v : α} (e : f n = some v) : Ev f v := ⟨n, fun k hk => h n k v hk e⟩
theorem Mono.const {α : Type} (o : Option α) : Mono (fun _ => o) := fun _ _ _ _ h => h
theorem Mono.bind {α β : Type} {f : Nat → Option α} {g : Nat → α → Option β} (h : Mono f) (h2 : ∀ a, Mono (fun k => g k a)) : Mono (fun k => (f k).bind (g k)) := by
  intro k j v hk he
  obtain ⟨a, ha, hb⟩ := Option.bind_eq_some_iff.1 he
  exact Option.bind_eq_some_iff.2 ⟨a, h k j a hk ha, h2 a k j v hk hb⟩
theorem Mono.cond {α : Type} {c : Bool} {f g : Nat → Option α} (h : Mono f) (h2 : Mono g) : Mono (fun k => cond c (f k) (g k)) := by
  cases c
  · exact h2
  · exact h
theorem Mono.joined {α β : Type} {f : Nat → Option (α ⊕ β)} {g : Nat → α → Option β} (h : Mono f) (h2 : ∀ a, Mono (fun k => g k a)) : Mono (fun k => (f k).bind (joined (g k))) :=
  Mono.bind (g := fun k => Gp.joined (g k)) h (fun a => by
    cases a with
    | inl a => exact h2 a
    | inr b => exact Mono.const _)
theorem Mono.loop {S R : Type} {body : Nat → S → Option (S ⊕ R)} {s : S} (h : ∀ s, Mono (fun k => body k s)) : Mono (fun k => loopN (body k) k s) := by
  have key : ∀ (n : Nat) (k j m : Nat) (s : S) (v : R), k ≤ j → n ≤ m → loopN (body k) n s = some v → loopN (body j) m s = some v := by
    intro n
    induction n with
    | zero => intro k j m s v _ _ he; cases he
    | succ n ih =>
      intro k j m s v hk hm he
      obtain ⟨m, rfl⟩ : ∃ i, m = i + 1 := ⟨m - 1, by omega⟩
      obtain ⟨a, ha, hb⟩ := Option.bind_eq_some_iff.1 (show (body k s).bind _ = some v from he)
      refine Option.bind_eq_some_iff.2 ⟨a, h s k j a hk ha, ?_⟩
      cases a with
      | inl s' => exact ih k j m s' v hk (by omega) hb
      | inr r => exact hb
  intro k j v hk he
  exact key k k j j s v hk hk he
theorem Mono.agree {α : Type} {f g : Nat → Option α} (h : Mono f) (h2 : Mono g) : Mono (fun k => agree (f k) (g k)) := by
  intro k j v hk he
  obtain ⟨a, b⟩ := agree_some he
  show Gp.agree (f j) (g j) = some v
  rw [h k j v hk a, h2 k j v hk b]
  exact agree_self _
theorem Mono.orNil {α : Type} {n : Nat} {f g : Nat → Option α} (h : Mono f) (h2 : Mono g) : Mono (fun k => orNil n (f k) (g k)) := by
  intro k j v hk he
  obtain ⟨a, b⟩ := orNil_some he
  have h3 := h2 k j v hk a
  show Gp.orNil n (f j) (g j) = some v
  rw [orNil_same (fun e => by rw [h3, h k j v hk (b e)])]
  exact h3
theorem Mono.prod {α β γ : Type} {f : Nat → α × β → Option γ} (h : ∀ a b, Mono (fun k => f k (a, b))) : ∀ x, Mono (fun k => f k x) := fun x => by
  obtain ⟨a, b⟩ := x
  exact h a b
end Go.Proofs.Ytjbdhaenakcclaa.Gp

/- Twins of functions that the kernel can run: what they answer, the functions answer. -/
set_option linter.unusedVariables false
namespace Go.Proofs.Ytjbdhaenakcclaa.Gp
open Go

def agreeD {α : Type} [DecidableEq α] (a b : Option α) : Option α := if a = b then a else none
def orNilD {α : Type} [DecidableEq α] (n : Nat) (a b : Option α) : Option α := if n = 0 then agreeD a b else b
def Le {α : Type} (a b : Option α) : Prop := ∀ v, a = some v → b = some v
theorem Le.refl {α : Type} (a : Option α) : Le a a := fun _ h => h
theorem Le.bind {α β : Type} {f f' : Option α} {g g' : α → Option β} (h : Le f f') (h2 : ∀ a, Le (g a) (g' a)) : Le (f.bind g) (f'.bind g') := by
  intro v he
  obtain ⟨a, ha, hb⟩ := Option.bind_eq_some_iff.1 he
  exact Option.bind_eq_some_iff.2 ⟨a, h a ha, h2 a v hb⟩
theorem Le.cond {α : Type} {c : Bool} {f g f' g' : Option α} (h : Le f f') (h2 : Le g g') : Le (cond c f g) (cond c f' g') := by
  cases c
  · exact h2
  · exact h
theorem Le.joined {α β : Type} {f f' : Option (α ⊕ β)} {g g' : α → Option β} (h : Le f f') (h2 : ∀ a, Le (g a) (g' a)) : Le (f.bind (Gp.joined g)) (f'.bind (Gp.joined g')) :=
  Le.bind h (fun a => by
    cases a with
    | inl a => exact h2 a
    | inr b => exact Le.refl _)
theorem Le.none {α : Type} (b : Option α) : Le none b := fun _ h => by cases h
theorem Le.loop {S R : Type} {n m : Nat} (hn : n ≤ m) {body body' : S → Option (S ⊕ R)} (h : ∀ s, Le (body s) (body' s)) : ∀ (s : S), Le (loopN body n s) (loopN body' m s) := by
  induction n generalizing m with
  | zero => intro s v he; cases he
  | succ n ih =>
    intro s v he
    obtain ⟨m, rfl⟩ : ∃ i, m = i + 1 := ⟨m - 1, by omega⟩
    obtain ⟨a, ha, hb⟩ := Option.bind_eq_some_iff.1 (show (body s).bind _ = some v from he)
    refine Option.bind_eq_some_iff.2 ⟨a, h s a ha, ?_⟩
    cases a with
    | inl s' => exact ih (by omega) s' v hb
    | inr r => exact hb
theorem Le.ev {α : Type} {f g : Nat → Option α} (h : ∀ k j, k ≤ j → Le (f k) (g j)) {n : Nat} {v : α} (e : f n = some v) : Ev g v := ⟨n, fun k hk => h n k hk v e⟩
theorem Le.agree {α : Type} [DecidableEq α] {f g f' g' : Option α} (h : Le f f') (h2 : Le g g') : Le (agreeD f g) (Gp.agree f' g') := by
  intro v he
  unfold agreeD at he
  split at he
  · rename_i e
    have a := h v he
    have b := h2 v (e ▸ he)
    rw [a, b]
    exact agree_self _
  · cases he
theorem Le.self {α : Type} {f f' : Option α} (h : Le f f') : Le f (Gp.agree f' f') := by
  rw [agree_self]
  exact h
theorem Le.orNil {α : Type} [DecidableEq α] {n : Nat} {f g f' g' : Option α} (h : Le f f') (h2 : Le g g') : Le (orNilD n f g) (Gp.orNil n f' g') := by
  intro v he
  unfold orNilD at he
  split at he
  · rename_i e
    subst e
    have := Le.agree h h2 v he
    obtain ⟨a, b⟩ := agree_some this
    rw [orNil_zero (a.trans b.symm)]
    exact b
  · rename_i e
    rw [orNil_pos e]
    exact h2 v he
theorem Le.prod {α β γ : Type} {f f' : α × β → Option γ} (h : ∀ a b, Le (f (a, b)) (f' (a, b))) : ∀ x, Le (f x) (f' x) := fun x => by
  obtain ⟨a, b⟩ := x
  exact h a b
end Go.Proofs.Ytjbdhaenakcclaa.Gp

/- Twins of the functions, for the kernel to run. Printed by twin.py. -/
set_option linter.unusedVariables false
set_option maxRecDepth 100000
namespace Go.Proofs.Ytjbdhaenakcclaa.St
open Go Go.Proofs.Ytjbdhaenakcclaa.Gp
def inputs79.tw (k : Nat) (kind : Int) : Option (Int × Unit) :=
  cond (cond (decide (kind < 0)) true (decide (kind ≥ 8)))
    (some ((-1), ()))
    ((rd ([0, 0, 0, 1, 2, 2, 2, 3] : List Int) kind).bind fun _ =>
    (rd ([0, 0, 0, 1, 2, 2, 2, 3] : List Int) kind).bind fun t12 =>
    some (t12, ()))
theorem inputs79.le (k j : Nat) (hk_ : k ≤ j) : ∀ a0_, Le (inputs79.tw k a0_) (inputs79 j a0_) := by
  intro a0_
  unfold inputs79 inputs79.tw
  repeat' (first | with_reducible exact Le.refl _ | with_reducible refine Le.self ?_ | with_reducible refine Le.cond ?_ ?_ | with_reducible refine Le.orNil ?_ ?_ | with_reducible refine Le.agree ?_ ?_ | with_reducible refine Le.joined ?_ ?_ | with_reducible refine Le.bind ?_ ?_ | with_reducible refine Le.loop hk_ ?_ _ | with_reducible refine Le.prod ?_ | intro _ | (dsimp only) | exact Le.refl _)

def one72.l0.tw (k : Nat) (i : Int) (t13 : (Int × (Int × (Int × (Int × Int))))) (t17 : (Int × Unit)) : ((Int × ((List (Int × (Int × (Int × (Int × Int))))) × ((List Int) × ((List Int) × (List Int))))) × ((Int × (Int × (Int × (Int × Int)))) × (Unit × (Int × (List Int))))) → Option (((Int × ((List (Int × (Int × (Int × (Int × Int))))) × ((List Int) × ((List Int) × (List Int))))) × ((Int × (Int × (Int × (Int × Int)))) × (Unit × (Int × (List Int))))) ⊕ (((Int × ((List (Int × (Int × (Int × (Int × Int))))) × ((List Int) × ((List Int) × (List Int))))) × (Int × (Int × (Int × (Int × Int))))) ⊕ (Int × Unit)))
  | (c_1, g, _, t28, o1) =>
    cond (decide (t28 < (List.length ([t13.2.1, t13.2.2.1, t13.2.2.2.1] : List Int) : Int)))
      ((rd o1 t28).bind fun _ =>
      (rd o1 t28).bind fun t32 =>
      cond (cond (decide (t28 < t17.1)) (cond (decide (t32 < 0)) true (decide (t32 ≥ i))) false)
        (some (Sum.inr (Sum.inr (9, ()))))
        (cond (cond (decide (t28 ≥ t17.1)) (t32 != 0) false)
          (some (Sum.inr (Sum.inr (3, ()))))
          (some (Sum.inl (c_1, g, (), (w64 (t28 + 1)), o1)))))
      (some (Sum.inr (Sum.inl (c_1, g))))
theorem one72.l0.le (k j : Nat) (hk_ : k ≤ j) : ∀ a0_ a1_ a2_, ∀ s, Le (one72.l0.tw k a0_ a1_ a2_ s) (one72.l0 j a0_ a1_ a2_ s) := by
  intro a0_ a1_ a2_
  unfold one72.l0 one72.l0.tw
  repeat' (first | with_reducible exact Le.refl _ | with_reducible refine Le.self ?_ | with_reducible refine Le.cond ?_ ?_ | with_reducible refine Le.orNil ?_ ?_ | with_reducible refine Le.agree ?_ ?_ | with_reducible refine Le.joined ?_ ?_ | with_reducible refine Le.bind ?_ ?_ | with_reducible refine Le.loop hk_ ?_ _ | with_reducible refine Le.prod ?_ | intro _ | (dsimp only) | exact Le.refl _)

def one72.tw (k : Nat) (c : (Int × ((List (Int × (Int × (Int × (Int × Int))))) × ((List Int) × ((List Int) × (List Int)))))) (i : Int) : Option (Int × Unit) :=
  (rd c.2.1 i).bind fun t13 =>
  (inputs79.tw k t13.1).bind fun t17 =>
  cond (decide (t17.1 < 0))
    (some (1, ()))
    (Option.bind
      (loopN (one72.l0.tw k i t13 t17) k (c, t13, (), 0, ([t13.2.1, t13.2.2.1, t13.2.2.2.1] : List Int)) : Option (((Int × ((List (Int × (Int × (Int × (Int × Int))))) × ((List Int) × ((List Int) × (List Int))))) × (Int × (Int × (Int × (Int × Int))))) ⊕ (Int × Unit))) (joined fun ((c_2, g_1) : ((Int × ((List (Int × (Int × (Int × (Int × Int))))) × ((List Int) × ((List Int) × (List Int))))) × (Int × (Int × (Int × (Int × Int)))))) =>
      (rd ([2, c_2.1, (List.length c_2.2.2.2.1 : Int), 1, 1, 1, 1, 1] : List Int) g_1.1).bind fun _ =>
      (rd ([2, c_2.1, (List.length c_2.2.2.2.1 : Int), 1, 1, 1, 1, 1] : List Int) g_1.1).bind fun t62 =>
      cond (cond (decide (g_1.2.2.2.2 < 0)) true (decide (g_1.2.2.2.2 ≥ t62)))
        (some (1, ()))
        (some (0, ()))))
theorem one72.le (k j : Nat) (hk_ : k ≤ j) : ∀ a0_ a1_, Le (one72.tw k a0_ a1_) (one72 j a0_ a1_) := by
  intro a0_ a1_
  unfold one72 one72.tw
  repeat' (first | with_reducible exact Le.refl _ | with_reducible exact inputs79.le _ _ hk_ _ | with_reducible exact one72.l0.le _ _ hk_ _ _ _ | with_reducible refine Le.self ?_ | with_reducible refine Le.cond ?_ ?_ | with_reducible refine Le.orNil ?_ ?_ | with_reducible refine Le.agree ?_ ?_ | with_reducible refine Le.joined ?_ ?_ | with_reducible refine Le.bind ?_ ?_ | with_reducible refine Le.loop hk_ ?_ _ | with_reducible refine Le.prod ?_ | intro _ | (dsimp only) | exact Le.refl _)

def Grow112.tw (k : Nat) (_ : Unit) (n : Int) : Option (Unit × (List Int)) :=
  Option.bind
    (cond (decide (n < 0))
      (none)
      (some ()) : Option Unit) fun (_ : Unit) =>
  let t14 : Int := (w64 (n - (w64 (0 - 0))))
  Option.bind
    (cond (decide (t14 > 0))
      ((if (0 : Int) = 0 ∧ 0 = 0 then some () else none).bind fun _ =>
      (if 0 < t14 ∧ t14 * 8 ≤ 140737488355328 then some () else none).bind fun _ =>
      (slc (List.replicate (Int.toNat t14) 0) 0 0).bind fun t25 =>
      some ((), t25))
      (some ((), [])) : Option (Unit × (List Int))) fun ((_, o0) : (Unit × (List Int))) =>
  some ((), o0)
theorem Grow112.le (k j : Nat) (hk_ : k ≤ j) : ∀ a0_ a1_, Le (Grow112.tw k a0_ a1_) (Grow112 j a0_ a1_) := by
  intro a0_ a1_
  unfold Grow112 Grow112.tw
  repeat' (first | with_reducible exact Le.refl _ | with_reducible refine Le.self ?_ | with_reducible refine Le.cond ?_ ?_ | with_reducible refine Le.orNil ?_ ?_ | with_reducible refine Le.agree ?_ ?_ | with_reducible refine Le.joined ?_ ?_ | with_reducible refine Le.bind ?_ ?_ | with_reducible refine Le.loop hk_ ?_ _ | with_reducible refine Le.prod ?_ | intro _ | (dsimp only) | exact Le.refl _)

def Concat59.l0.tw (k : Nat) (slices : (List (List Int))) : (Int × Int) → Option ((Int × Int) ⊕ Int)
  | (size, t11) =>
    cond (decide (t11 < (List.length slices : Int)))
      ((rd slices t11).bind fun t13 =>
      let t18 : Int := (w64 (size + (List.length t13 : Int)))
      Option.bind
        (cond (decide (t18 < 0))
          (none)
          (some ()) : Option Unit) fun (_ : Unit) =>
      some (Sum.inl (t18, (w64 (t11 + 1)))))
      (some (Sum.inr size))
theorem Concat59.l0.le (k j : Nat) (hk_ : k ≤ j) : ∀ a0_, ∀ s, Le (Concat59.l0.tw k a0_ s) (Concat59.l0 j a0_ s) := by
  intro a0_
  unfold Concat59.l0 Concat59.l0.tw
  repeat' (first | with_reducible exact Le.refl _ | with_reducible refine Le.self ?_ | with_reducible refine Le.cond ?_ ?_ | with_reducible refine Le.orNil ?_ ?_ | with_reducible refine Le.agree ?_ ?_ | with_reducible refine Le.joined ?_ ?_ | with_reducible refine Le.bind ?_ ?_ | with_reducible refine Le.loop hk_ ?_ _ | with_reducible refine Le.prod ?_ | intro _ | (dsimp only) | exact Le.refl _)

def Concat59.l1.tw (k : Nat) (slices : (List (List Int))) : (Unit × (Int × (List Int))) → Option ((Unit × (Int × (List Int))) ⊕ (Unit × (List Int)))
  | (_, t27, o0) =>
    cond (decide (t27 < (List.length slices : Int)))
      ((rd slices t27).bind fun t29 =>
      (if room (List.length o0 + List.length t29) 8 then some () else none).bind fun _ =>
      some (Sum.inl ((), (w64 (t27 + 1)), (o0 ++ t29))))
      (some (Sum.inr ((), o0)))
theorem Concat59.l1.le (k j : Nat) (hk_ : k ≤ j) : ∀ a0_, ∀ s, Le (Concat59.l1.tw k a0_ s) (Concat59.l1 j a0_ s) := by
  intro a0_
  unfold Concat59.l1 Concat59.l1.tw
  repeat' (first | with_reducible exact Le.refl _ | with_reducible refine Le.self ?_ | with_reducible refine Le.cond ?_ ?_ | with_reducible refine Le.orNil ?_ ?_ | with_reducible refine Le.agree ?_ ?_ | with_reducible refine Le.joined ?_ ?_ | with_reducible refine Le.bind ?_ ?_ | with_reducible refine Le.loop hk_ ?_ _ | with_reducible refine Le.prod ?_ | intro _ | (dsimp only) | exact Le.refl _)

def Concat59.tw (k : Nat) (slices : (List (List Int))) : Option ((List Int) × Unit) :=
  Option.bind
    (loopN (Concat59.l0.tw k slices) k (0, 0) : Option Int) fun (size_1 : Int) =>
  (Grow112.tw k () size_1).bind fun t24 =>
  Option.bind
    (loopN (Concat59.l1.tw k slices) k ((), 0, t24.2) : Option (Unit × (List Int))) fun ((_, o0_1) : (Unit × (List Int))) =>
  some (o0_1, ())
theorem Concat59.le (k j : Nat) (hk_ : k ≤ j) : ∀ a0_, Le (Concat59.tw k a0_) (Concat59 j a0_) := by
  intro a0_
  unfold Concat59 Concat59.tw
  repeat' (first | with_reducible exact Le.refl _ | with_reducible exact Grow112.le _ _ hk_ _ _ | with_reducible exact Concat59.l0.le _ _ hk_ _ | with_reducible exact Concat59.l1.le _ _ hk_ _ | with_reducible refine Le.self ?_ | with_reducible refine Le.cond ?_ ?_ | with_reducible refine Le.orNil ?_ ?_ | with_reducible refine Le.agree ?_ ?_ | with_reducible refine Le.joined ?_ ?_ | with_reducible refine Le.bind ?_ ?_ | with_reducible refine Le.loop hk_ ?_ _ | with_reducible refine Le.prod ?_ | intro _ | (dsimp only) | exact Le.refl _)

def Check18.l0.tw (k : Nat) (c : (Int × ((List (Int × (Int × (Int × (Int × Int))))) × ((List Int) × ((List Int) × (List Int)))))) : ((Int × ((List (Int × (Int × (Int × (Int × Int))))) × ((List Int) × ((List Int) × (List Int))))) × Int) → Option (((Int × ((List (Int × (Int × (Int × (Int × Int))))) × ((List Int) × ((List Int) × (List Int))))) × Int) ⊕ ((Int × ((List (Int × (Int × (Int × (Int × Int))))) × ((List Int) × ((List Int) × (List Int))))) ⊕ (Int × Unit)))
  | (c_1, t45) =>
    cond (decide (t45 < (List.length c.2.1 : Int)))
      ((one72.tw k c_1 t45).bind fun t50 =>
      cond (t50.1 != 0)
        (some (Sum.inr (Sum.inr (t50.1, ()))))
        (some (Sum.inl (c_1, (w64 (t45 + 1))))))
      (some (Sum.inr (Sum.inl c_1)))
theorem Check18.l0.le (k j : Nat) (hk_ : k ≤ j) : ∀ a0_, ∀ s, Le (Check18.l0.tw k a0_ s) (Check18.l0 j a0_ s) := by
  intro a0_
  unfold Check18.l0 Check18.l0.tw
  repeat' (first | with_reducible exact Le.refl _ | with_reducible exact one72.le _ _ hk_ _ _ | with_reducible refine Le.self ?_ | with_reducible refine Le.cond ?_ ?_ | with_reducible refine Le.orNil ?_ ?_ | with_reducible refine Le.agree ?_ ?_ | with_reducible refine Le.joined ?_ ?_ | with_reducible refine Le.bind ?_ ?_ | with_reducible refine Le.loop hk_ ?_ _ | with_reducible refine Le.prod ?_ | intro _ | (dsimp only) | exact Le.refl _)

def Check18.l1.tw (k : Nat) (t60 : ((List Int) × Unit)) : ((Int × ((List (Int × (Int × (Int × (Int × Int))))) × ((List Int) × ((List Int) × (List Int))))) × Int) → Option (((Int × ((List (Int × (Int × (Int × (Int × Int))))) × ((List Int) × ((List Int) × (List Int))))) × Int) ⊕ ((Int × ((List (Int × (Int × (Int × (Int × Int))))) × ((List Int) × ((List Int) × (List Int))))) ⊕ (Int × Unit)))
  | (c_3, t62) =>
    cond (decide (t62 < (List.length t60.1 : Int)))
      ((rd t60.1 t62).bind fun t64 =>
      cond (cond (decide (t64 < 0)) true (decide (t64 ≥ (List.length c_3.2.1 : Int))))
        (some (Sum.inr (Sum.inr (4, ()))))
        (some (Sum.inl (c_3, (w64 (t62 + 1))))))
      (some (Sum.inr (Sum.inl c_3)))
theorem Check18.l1.le (k j : Nat) (hk_ : k ≤ j) : ∀ a0_, ∀ s, Le (Check18.l1.tw k a0_ s) (Check18.l1 j a0_ s) := by
  intro a0_
  unfold Check18.l1 Check18.l1.tw
  repeat' (first | with_reducible exact Le.refl _ | with_reducible refine Le.self ?_ | with_reducible refine Le.cond ?_ ?_ | with_reducible refine Le.orNil ?_ ?_ | with_reducible refine Le.agree ?_ ?_ | with_reducible refine Le.joined ?_ ?_ | with_reducible refine Le.bind ?_ ?_ | with_reducible refine Le.loop hk_ ?_ _ | with_reducible refine Le.prod ?_ | intro _ | (dsimp only) | exact Le.refl _)

def Check18.l2.tw (k : Nat) (c_4 : (Int × ((List (Int × (Int × (Int × (Int × Int))))) × ((List Int) × ((List Int) × (List Int)))))) : Int → Option (Int ⊕ (Unit ⊕ (Int × Unit)))
  | t79 =>
    cond (decide (t79 < (List.length c_4.2.2.2.2 : Int)))
      ((rd c_4.2.2.2.2 t79).bind fun t81 =>
      cond (cond (t81 != 0) (t81 != 1) false)
        (some (Sum.inr (Sum.inr (1, ()))))
        (some (Sum.inl (w64 (t79 + 1)))))
      (some (Sum.inr (Sum.inl ())))
theorem Check18.l2.le (k j : Nat) (hk_ : k ≤ j) : ∀ a0_, ∀ s, Le (Check18.l2.tw k a0_ s) (Check18.l2 j a0_ s) := by
  intro a0_
  unfold Check18.l2 Check18.l2.tw
  repeat' (first | with_reducible exact Le.refl _ | with_reducible refine Le.self ?_ | with_reducible refine Le.cond ?_ ?_ | with_reducible refine Le.orNil ?_ ?_ | with_reducible refine Le.agree ?_ ?_ | with_reducible refine Le.joined ?_ ?_ | with_reducible refine Le.bind ?_ ?_ | with_reducible refine Le.loop hk_ ?_ _ | with_reducible refine Le.prod ?_ | intro _ | (dsimp only) | exact Le.refl _)

def Check18.tw (k : Nat) (c : (Int × ((List (Int × (Int × (Int × (Int × Int))))) × ((List Int) × ((List Int) × (List Int)))))) : Option (Int × Unit) :=
  cond (cond (cond (cond (cond (decide (c.1 < 0)) true (decide (c.1 > 10))) true (decide ((List.length c.2.1 : Int) > 400))) true (decide ((List.length c.2.2.1 : Int) > 10))) true (decide ((List.length c.2.2.2.1 : Int) > 10)))
    (some (2, ()))
    (cond ((List.length c.2.2.2.2 : Int) != (List.length c.2.2.2.1 : Int))
      (some (3, ()))
      (Option.bind
        (loopN (Check18.l0.tw k c) k (c, 0) : Option ((Int × ((List (Int × (Int × (Int × (Int × Int))))) × ((List Int) × ((List Int) × (List Int))))) ⊕ (Int × Unit))) (joined fun (c_2 : (Int × ((List (Int × (Int × (Int × (Int × Int))))) × ((List Int) × ((List Int) × (List Int)))))) =>
        (Concat59.tw k [c_2.2.2.1, c_2.2.2.2.1]).bind fun t60 =>
        Option.bind
          (loopN (Check18.l1.tw k t60) k (c_2, 0) : Option ((Int × ((List (Int × (Int × (Int × (Int × Int))))) × ((List Int) × ((List Int) × (List Int))))) ⊕ (Int × Unit))) (joined fun (c_4 : (Int × ((List (Int × (Int × (Int × (Int × Int))))) × ((List Int) × ((List Int) × (List Int)))))) =>
          Option.bind
            (loopN (Check18.l2.tw k c_4) k 0 : Option (Unit ⊕ (Int × Unit))) (joined fun (_ : Unit) =>
            some (0, ()))))))
theorem Check18.le (k j : Nat) (hk_ : k ≤ j) : ∀ a0_, Le (Check18.tw k a0_) (Check18 j a0_) := by
  intro a0_
  unfold Check18 Check18.tw
  repeat' (first | with_reducible exact Le.refl _ | with_reducible exact Concat59.le _ _ hk_ _ | with_reducible exact Check18.l0.le _ _ hk_ _ | with_reducible exact Check18.l1.le _ _ hk_ _ | with_reducible exact Check18.l2.le _ _ hk_ _ | with_reducible refine Le.self ?_ | with_reducible refine Le.cond ?_ ?_ | with_reducible refine Le.orNil ?_ ?_ | with_reducible refine Le.agree ?_ ?_ | with_reducible refine Le.joined ?_ ?_ | with_reducible refine Le.bind ?_ ?_ | with_reducible refine Le.loop hk_ ?_ _ | with_reducible refine Le.prod ?_ | intro _ | (dsimp only) | exact Le.refl _)

def Start80.l0.tw (k : Nat) (t12 : (List Int)) : (Int × Int) → Option ((Int × Int) ⊕ Int)
  | (out, t14) =>
    cond (decide (t14 < (List.length t12 : Int)))
      ((rd t12 t14).bind fun t17 =>
      (if t14 < 0 then none else some (shlI .i64 (ibits .and .i64 t17 1) t14)).bind fun t23 =>
      some (Sum.inl ((ibits .or .i64 out t23), (w64 (t14 + 1)))))
      (some (Sum.inr out))
theorem Start80.l0.le (k j : Nat) (hk_ : k ≤ j) : ∀ a0_, ∀ s, Le (Start80.l0.tw k a0_ s) (Start80.l0 j a0_ s) := by
  intro a0_
  unfold Start80.l0 Start80.l0.tw
  repeat' (first | with_reducible exact Le.refl _ | with_reducible refine Le.self ?_ | with_reducible refine Le.cond ?_ ?_ | with_reducible refine Le.orNil ?_ ?_ | with_reducible refine Le.agree ?_ ?_ | with_reducible refine Le.joined ?_ ?_ | with_reducible refine Le.bind ?_ ?_ | with_reducible refine Le.loop hk_ ?_ _ | with_reducible refine Le.prod ?_ | intro _ | (dsimp only) | exact Le.refl _)

def Start80.tw (k : Nat) (c : (Int × ((List (Int × (Int × (Int × (Int × Int))))) × ((List Int) × ((List Int) × (List Int)))))) : Option (Int × Unit) :=
  (slc c.2.2.2.2 0 (mnI (List.length c.2.2.2.2 : Int) 10)).bind fun t12 =>
  Option.bind
    (loopN (Start80.l0.tw k t12) k (0, 0) : Option Int) fun (out_1 : Int) =>
  some (out_1, ())
theorem Start80.le (k j : Nat) (hk_ : k ≤ j) : ∀ a0_, Le (Start80.tw k a0_) (Start80 j a0_) := by
  intro a0_
  unfold Start80 Start80.tw
  repeat' (first | with_reducible exact Le.refl _ | with_reducible exact Start80.l0.le _ _ hk_ _ | with_reducible refine Le.self ?_ | with_reducible refine Le.cond ?_ ?_ | with_reducible refine Le.orNil ?_ ?_ | with_reducible refine Le.agree ?_ ?_ | with_reducible refine Le.joined ?_ ?_ | with_reducible refine Le.bind ?_ ?_ | with_reducible refine Le.loop hk_ ?_ _ | with_reducible refine Le.prod ?_ | intro _ | (dsimp only) | exact Le.refl _)

def values69.l0.tw (k : Nat) (c : (Int × ((List (Int × (Int × (Int × (Int × Int))))) × ((List Int) × ((List Int) × (List Int)))))) (state : Int) (in_ : Int) : (Unit × (Int × (List Int))) → Option ((Unit × (Int × (List Int))) ⊕ (Unit × (List Int)))
  | (_, t17, t13) =>
    cond (decide (t17 < (List.length c.2.1 : Int)))
      ((rd c.2.1 t17).bind fun t20 =>
      Option.bind
        (cond (t20.1 == 0)
          ((rd t13 t17).bind fun _ =>
          (rd t13 t17).bind fun _ =>
          some ((), (List.set t13 (Int.toNat t17) t20.2.2.2.2)))
          (Option.bind
            (cond (t20.1 == 1)
              ((if t20.2.2.2.2 < 0 then none else some (shrI .i64 in_ t20.2.2.2.2)).bind fun t38 =>
              (rd t13 t17).bind fun _ =>
              (rd t13 t17).bind fun _ =>
              some ((), (List.set t13 (Int.toNat t17) (ibits .and .i64 t38 1))))
              (Option.bind
                (cond (t20.1 == 2)
                  ((if t20.2.2.2.2 < 0 then none else some (shrI .i64 state t20.2.2.2.2)).bind fun t48 =>
                  (rd t13 t17).bind fun _ =>
                  (rd t13 t17).bind fun _ =>
                  some ((), (List.set t13 (Int.toNat t17) (ibits .and .i64 t48 1))))
                  (Option.bind
                    (cond (t20.1 == 3)
                      ((rd t13 t20.2.1).bind fun _ =>
                      (rd t13 t20.2.1).bind fun t59 =>
                      (rd t13 t17).bind fun _ =>
                      (rd t13 t17).bind fun _ =>
                      some ((), (List.set t13 (Int.toNat t17) (w64 (1 - t59)))))
                      (Option.bind
                        (cond (t20.1 == 4)
                          ((rd t13 t20.2.1).bind fun _ =>
                          (rd t13 t20.2.1).bind fun t70 =>
                          (rd t13 t20.2.2.1).bind fun _ =>
                          (rd t13 t20.2.2.1).bind fun t75 =>
                          (rd t13 t17).bind fun _ =>
                          (rd t13 t17).bind fun _ =>
                          some ((), (List.set t13 (Int.toNat t17) (ibits .and .i64 t70 t75))))
                          (Option.bind
                            (cond (t20.1 == 5)
                              ((rd t13 t20.2.1).bind fun _ =>
                              (rd t13 t20.2.1).bind fun t86 =>
                              (rd t13 t20.2.2.1).bind fun _ =>
                              (rd t13 t20.2.2.1).bind fun t91 =>
                              (rd t13 t17).bind fun _ =>
                              (rd t13 t17).bind fun _ =>
                              some ((), (List.set t13 (Int.toNat t17) (ibits .or .i64 t86 t91))))
                              (Option.bind
                                (cond (t20.1 == 6)
                                  ((rd t13 t20.2.1).bind fun _ =>
                                  (rd t13 t20.2.1).bind fun t102 =>
                                  (rd t13 t20.2.2.1).bind fun _ =>
                                  (rd t13 t20.2.2.1).bind fun t107 =>
                                  (rd t13 t17).bind fun _ =>
                                  (rd t13 t17).bind fun _ =>
                                  some ((), (List.set t13 (Int.toNat t17) (ibits .xor .i64 t102 t107))))
                                  (Option.bind
                                    (cond (t20.1 == 7)
                                      ((rd t13 t20.2.2.2.1).bind fun _ =>
                                      (rd t13 t20.2.2.2.1).bind fun t118 =>
                                      (rd t13 t17).bind fun _ =>
                                      (rd t13 t17).bind fun _ =>
                                      let t13_8 : (List Int) := (List.set t13 (Int.toNat t17) t118)
                                      (rd t13_8 t20.2.1).bind fun _ =>
                                      (rd t13_8 t20.2.1).bind fun t124 =>
                                      Option.bind
                                        (cond (t124 == 1)
                                          ((rd t13_8 t20.2.2.1).bind fun _ =>
                                          (rd t13_8 t20.2.2.1).bind fun t132 =>
                                          (rd t13_8 t17).bind fun _ =>
                                          (rd t13_8 t17).bind fun _ =>
                                          some ((), (List.set t13_8 (Int.toNat t17) t132)))
                                          (some ((), t13_8)) : Option (Unit × (List Int))) fun ((_, t13_10) : (Unit × (List Int))) =>
                                      some ((), t13_10))
                                      (some ((), t13)) : Option (Unit × (List Int))) fun ((_, t13_11) : (Unit × (List Int))) =>
                                  some ((), t13_11)) : Option (Unit × (List Int))) fun ((_, t13_12) : (Unit × (List Int))) =>
                              some ((), t13_12)) : Option (Unit × (List Int))) fun ((_, t13_13) : (Unit × (List Int))) =>
                          some ((), t13_13)) : Option (Unit × (List Int))) fun ((_, t13_14) : (Unit × (List Int))) =>
                      some ((), t13_14)) : Option (Unit × (List Int))) fun ((_, t13_15) : (Unit × (List Int))) =>
                  some ((), t13_15)) : Option (Unit × (List Int))) fun ((_, t13_16) : (Unit × (List Int))) =>
              some ((), t13_16)) : Option (Unit × (List Int))) fun ((_, t13_17) : (Unit × (List Int))) =>
          some ((), t13_17)) : Option (Unit × (List Int))) fun ((_, t13_18) : (Unit × (List Int))) =>
      some (Sum.inl ((), (w64 (t17 + 1)), t13_18)))
      (some (Sum.inr ((), t13)))
theorem values69.l0.le (k j : Nat) (hk_ : k ≤ j) : ∀ a0_ a1_ a2_, ∀ s, Le (values69.l0.tw k a0_ a1_ a2_ s) (values69.l0 j a0_ a1_ a2_ s) := by
  intro a0_ a1_ a2_
  unfold values69.l0 values69.l0.tw
  repeat' (first | with_reducible exact Le.refl _ | with_reducible refine Le.self ?_ | with_reducible refine Le.cond ?_ ?_ | with_reducible refine Le.orNil ?_ ?_ | with_reducible refine Le.agree ?_ ?_ | with_reducible refine Le.joined ?_ ?_ | with_reducible refine Le.bind ?_ ?_ | with_reducible refine Le.loop hk_ ?_ _ | with_reducible refine Le.prod ?_ | intro _ | (dsimp only) | exact Le.refl _)

def values69.tw (k : Nat) (c : (Int × ((List (Int × (Int × (Int × (Int × Int))))) × ((List Int) × ((List Int) × (List Int)))))) (state : Int) (in_ : Int) : Option ((List Int) × Unit) :=
  (if 0 ≤ (List.length c.2.1 : Int) ∧ (List.length c.2.1 : Int) ≤ (List.length c.2.1 : Int) ∧ (List.length c.2.1 : Int) * 8 ≤ 140737488355328 then some () else none).bind fun _ =>
  Option.bind
    (loopN (values69.l0.tw k c state in_) k ((), 0, (List.replicate (Int.toNat (List.length c.2.1 : Int)) 0)) : Option (Unit × (List Int))) fun ((_, t13_19) : (Unit × (List Int))) =>
  some (t13_19, ())
theorem values69.le (k j : Nat) (hk_ : k ≤ j) : ∀ a0_ a1_ a2_, Le (values69.tw k a0_ a1_ a2_) (values69 j a0_ a1_ a2_) := by
  intro a0_ a1_ a2_
  unfold values69 values69.tw
  repeat' (first | with_reducible exact Le.refl _ | with_reducible exact values69.l0.le _ _ hk_ _ _ _ | with_reducible refine Le.self ?_ | with_reducible refine Le.cond ?_ ?_ | with_reducible refine Le.orNil ?_ ?_ | with_reducible refine Le.agree ?_ ?_ | with_reducible refine Le.joined ?_ ?_ | with_reducible refine Le.bind ?_ ?_ | with_reducible refine Le.loop hk_ ?_ _ | with_reducible refine Le.prod ?_ | intro _ | (dsimp only) | exact Le.refl _)

def bits70.l0.tw (k : Nat) (v : (List Int)) (l : (List Int)) : (Int × Int) → Option ((Int × Int) ⊕ Int)
  | (out, t10) =>
    cond (decide (t10 < (List.length l : Int)))
      ((rd l t10).bind fun t13 =>
      (rd v t13).bind fun t18 =>
      (if t10 < 0 then none else some (shlI .i64 t18 t10)).bind fun t21 =>
      some (Sum.inl ((ibits .or .i64 out t21), (w64 (t10 + 1)))))
      (some (Sum.inr out))
theorem bits70.l0.le (k j : Nat) (hk_ : k ≤ j) : ∀ a0_ a1_, ∀ s, Le (bits70.l0.tw k a0_ a1_ s) (bits70.l0 j a0_ a1_ s) := by
  intro a0_ a1_
  unfold bits70.l0 bits70.l0.tw
  repeat' (first | with_reducible exact Le.refl _ | with_reducible refine Le.self ?_ | with_reducible refine Le.cond ?_ ?_ | with_reducible refine Le.orNil ?_ ?_ | with_reducible refine Le.agree ?_ ?_ | with_reducible refine Le.joined ?_ ?_ | with_reducible refine Le.bind ?_ ?_ | with_reducible refine Le.loop hk_ ?_ _ | with_reducible refine Le.prod ?_ | intro _ | (dsimp only) | exact Le.refl _)

def bits70.tw (k : Nat) (v : (List Int)) (l : (List Int)) : Option (Int × Unit) :=
  Option.bind
    (loopN (bits70.l0.tw k v l) k (0, 0) : Option Int) fun (out_1 : Int) =>
  some (out_1, ())
theorem bits70.le (k j : Nat) (hk_ : k ≤ j) : ∀ a0_ a1_, Le (bits70.tw k a0_ a1_) (bits70 j a0_ a1_) := by
  intro a0_ a1_
  unfold bits70 bits70.tw
  repeat' (first | with_reducible exact Le.refl _ | with_reducible exact bits70.l0.le _ _ hk_ _ _ | with_reducible refine Le.self ?_ | with_reducible refine Le.cond ?_ ?_ | with_reducible refine Le.orNil ?_ ?_ | with_reducible refine Le.agree ?_ ?_ | with_reducible refine Le.joined ?_ ?_ | with_reducible refine Le.bind ?_ ?_ | with_reducible refine Le.loop hk_ ?_ _ | with_reducible refine Le.prod ?_ | intro _ | (dsimp only) | exact Le.refl _)

def Step16.tw (k : Nat) (c : (Int × ((List (Int × (Int × (Int × (Int × Int))))) × ((List Int) × ((List Int) × (List Int)))))) (state : Int) (in_ : Int) : Option ((Int × (Int × Unit)) × Unit) :=
  (Check18.tw k c).bind fun t10 =>
  cond (t10.1 != 0)
    (some ((0, 0, ()), ()))
    ((values69.tw k c state in_).bind fun t15 =>
    (bits70.tw k t15.1 c.2.2.1).bind fun t19 =>
    (bits70.tw k t15.1 c.2.2.2.1).bind fun t23 =>
    some ((t19.1, t23.1, ()), ()))
theorem Step16.le (k j : Nat) (hk_ : k ≤ j) : ∀ a0_ a1_ a2_, Le (Step16.tw k a0_ a1_ a2_) (Step16 j a0_ a1_ a2_) := by
  intro a0_ a1_ a2_
  unfold Step16 Step16.tw
  repeat' (first | with_reducible exact Le.refl _ | with_reducible exact Check18.le _ _ hk_ _ | with_reducible exact values69.le _ _ hk_ _ _ _ | with_reducible exact bits70.le _ _ hk_ _ _ | with_reducible refine Le.self ?_ | with_reducible refine Le.cond ?_ ?_ | with_reducible refine Le.orNil ?_ ?_ | with_reducible refine Le.agree ?_ ?_ | with_reducible refine Le.joined ?_ ?_ | with_reducible refine Le.bind ?_ ?_ | with_reducible refine Le.loop hk_ ?_ _ | with_reducible refine Le.prod ?_ | intro _ | (dsimp only) | exact Le.refl _)

def Check105.l0.tw (k : Nat) (t40 : (List (Int × Int))) : ((Int × (Int × (List (List (Int × Int))))) × Int) → Option (((Int × (Int × (List (List (Int × Int))))) × Int) ⊕ ((Int × (Int × (List (List (Int × Int))))) ⊕ (((Int × (Int × (List (List (Int × Int))))) × Int) ⊕ (Unit ⊕ (Int × Unit)))))
  | (t_2, t50) =>
    cond (decide (t50 < (List.length t40 : Int)))
      ((rd t40 t50).bind fun t52 =>
      Option.bind (cond (decide (t52.1 < 0))
        (some true)
        ((if t_2.2.1 < 0 then none else some (shlI .i64 1 t_2.2.1)).bind fun t62 =>
        some (decide (t52.1 ≥ t62)))) fun t64 =>
      cond t64
        (some (Sum.inr (Sum.inr (Sum.inr (Sum.inr (1, ()))))))
        (cond (cond (decide (t52.2 < 0)) true (decide (t52.2 ≥ (List.length t_2.2.2 : Int))))
          (some (Sum.inr (Sum.inr (Sum.inr (Sum.inr (4, ()))))))
          (some (Sum.inl (t_2, (w64 (t50 + 1)))))))
      (some (Sum.inr (Sum.inl t_2)))
theorem Check105.l0.le (k j : Nat) (hk_ : k ≤ j) : ∀ a0_, ∀ s, Le (Check105.l0.tw k a0_ s) (Check105.l0 j a0_ s) := by
  intro a0_
  unfold Check105.l0 Check105.l0.tw
  repeat' (first | with_reducible exact Le.refl _ | with_reducible refine Le.self ?_ | with_reducible refine Le.cond ?_ ?_ | with_reducible refine Le.orNil ?_ ?_ | with_reducible refine Le.agree ?_ ?_ | with_reducible refine Le.joined ?_ ?_ | with_reducible refine Le.bind ?_ ?_ | with_reducible refine Le.loop hk_ ?_ _ | with_reducible refine Le.prod ?_ | intro _ | (dsimp only) | exact Le.refl _)

def Check105.l1.tw (k : Nat) (t : (Int × (Int × (List (List (Int × Int)))))) : ((Int × (Int × (List (List (Int × Int))))) × Int) → Option (((Int × (Int × (List (List (Int × Int))))) × Int) ⊕ (Unit ⊕ (Int × Unit)))
  | (t_1, t38) =>
    cond (decide (t38 < (List.length t.2.2 : Int)))
      ((rd t.2.2 t38).bind fun t40 =>
      (if t_1.1 < 0 then none else some (shlI .i64 1 t_1.1)).bind fun t46 =>
      cond ((List.length t40 : Int) != t46)
        (some (Sum.inr (Sum.inr (3, ()))))
        (Option.bind
          (loopN (Check105.l0.tw k t40) k (t_1, 0) : Option ((Int × (Int × (List (List (Int × Int))))) ⊕ (((Int × (Int × (List (List (Int × Int))))) × Int) ⊕ (Unit ⊕ (Int × Unit))))) (joined fun (t_3 : (Int × (Int × (List (List (Int × Int)))))) =>
          some (Sum.inl (t_3, (w64 (t38 + 1)))))))
      (some (Sum.inr (Sum.inl ())))
theorem Check105.l1.le (k j : Nat) (hk_ : k ≤ j) : ∀ a0_, ∀ s, Le (Check105.l1.tw k a0_ s) (Check105.l1 j a0_ s) := by
  intro a0_
  unfold Check105.l1 Check105.l1.tw
  repeat' (first | with_reducible exact Le.refl _ | with_reducible exact Check105.l0.le _ _ hk_ _ | with_reducible refine Le.self ?_ | with_reducible refine Le.cond ?_ ?_ | with_reducible refine Le.orNil ?_ ?_ | with_reducible refine Le.agree ?_ ?_ | with_reducible refine Le.joined ?_ ?_ | with_reducible refine Le.bind ?_ ?_ | with_reducible refine Le.loop hk_ ?_ _ | with_reducible refine Le.prod ?_ | intro _ | (dsimp only) | exact Le.refl _)

def Check105.tw (k : Nat) (t : (Int × (Int × (List (List (Int × Int)))))) : Option (Int × Unit) :=
  cond (cond (cond (cond (cond (decide (t.1 < 0)) true (decide (t.1 > 4))) true (decide (t.2.1 < 0))) true (decide (t.2.1 > 10))) true (decide ((List.length t.2.2 : Int) > 64)))
    (some (2, ()))
    (cond ((List.length t.2.2 : Int) == 0)
      (some (13, ()))
      (Option.bind
        (loopN (Check105.l1.tw k t) k (t, 0) : Option (Unit ⊕ (Int × Unit))) (joined fun (_ : Unit) =>
        some (0, ()))))
theorem Check105.le (k j : Nat) (hk_ : k ≤ j) : ∀ a0_, Le (Check105.tw k a0_) (Check105 j a0_) := by
  intro a0_
  unfold Check105 Check105.tw
  repeat' (first | with_reducible exact Le.refl _ | with_reducible exact Check105.l1.le _ _ hk_ _ | with_reducible refine Le.self ?_ | with_reducible refine Le.cond ?_ ?_ | with_reducible refine Le.orNil ?_ ?_ | with_reducible refine Le.agree ?_ ?_ | with_reducible refine Le.joined ?_ ?_ | with_reducible refine Le.bind ?_ ?_ | with_reducible refine Le.loop hk_ ?_ _ | with_reducible refine Le.prod ?_ | intro _ | (dsimp only) | exact Le.refl _)

def width106.l0.tw (k : Nat) (n : Int) : Int → Option (Int ⊕ Int)
  | k_ =>
    (if k_ < 0 then none else some (shlI .i64 1 k_)).bind fun t5 =>
    cond (decide (t5 < n))
      (some (Sum.inl (w64 (k_ + 1))))
      (some (Sum.inr k_))
theorem width106.l0.le (k j : Nat) (hk_ : k ≤ j) : ∀ a0_, ∀ s, Le (width106.l0.tw k a0_ s) (width106.l0 j a0_ s) := by
  intro a0_
  unfold width106.l0 width106.l0.tw
  repeat' (first | with_reducible exact Le.refl _ | with_reducible refine Le.self ?_ | with_reducible refine Le.cond ?_ ?_ | with_reducible refine Le.orNil ?_ ?_ | with_reducible refine Le.agree ?_ ?_ | with_reducible refine Le.joined ?_ ?_ | with_reducible refine Le.bind ?_ ?_ | with_reducible refine Le.loop hk_ ?_ _ | with_reducible refine Le.prod ?_ | intro _ | (dsimp only) | exact Le.refl _)

def width106.tw (k : Nat) (n : Int) : Option (Int × Unit) :=
  Option.bind
    (loopN (width106.l0.tw k n) k 0 : Option Int) fun (k__1 : Int) =>
  some (k__1, ())
theorem width106.le (k j : Nat) (hk_ : k ≤ j) : ∀ a0_, Le (width106.tw k a0_) (width106 j a0_) := by
  intro a0_
  unfold width106 width106.tw
  repeat' (first | with_reducible exact Le.refl _ | with_reducible exact width106.l0.le _ _ hk_ _ | with_reducible refine Le.self ?_ | with_reducible refine Le.cond ?_ ?_ | with_reducible refine Le.orNil ?_ ?_ | with_reducible refine Le.agree ?_ ?_ | with_reducible refine Le.joined ?_ ?_ | with_reducible refine Le.bind ?_ ?_ | with_reducible refine Le.loop hk_ ?_ _ | with_reducible refine Le.prod ?_ | intro _ | (dsimp only) | exact Le.refl _)

def put107.tw (k : Nat) (_ : Unit) (g : (Int × (Int × (Int × (Int × Int))))) (o0 : (Unit × Unit)) (o1 : (List (Int × (Int × (Int × (Int × Int)))))) (o2 : (List ((Int × (Int × (Int × (Int × Int)))) × Int))) : Option (Int × ((Unit × Unit) × ((List (Int × (Int × (Int × (Int × Int))))) × (List ((Int × (Int × (Int × (Int × Int)))) × Int))))) :=
  let t13 : (Option Int) := (mget (.st (.pair (.int .i64) (.pair (.int .i64) (.pair (.int .i64) (.pair (.int .i64) (.int .i64)))))) (.int .i64) o2 g)
  cond (Option.isSome t13)
    (some ((Option.getD (α := Int) t13 (0 : Int)), o0, o1, o2))
    ((if room (List.length o1 + List.length [g]) 40 then some () else none).bind fun _ =>
    some ((w64 ((List.length (o1 ++ [g]) : Int) - 1)), (o0.1, o0.2), (o1 ++ [g]), (mput (.st (.pair (.int .i64) (.pair (.int .i64) (.pair (.int .i64) (.pair (.int .i64) (.int .i64)))))) (.int .i64) o2 g (List.length o1 : Int))))
theorem put107.le (k j : Nat) (hk_ : k ≤ j) : ∀ a0_ a1_ a2_ a3_ a4_, Le (put107.tw k a0_ a1_ a2_ a3_ a4_) (put107 j a0_ a1_ a2_ a3_ a4_) := by
  intro a0_ a1_ a2_ a3_ a4_
  unfold put107 put107.tw
  repeat' (first | with_reducible exact Le.refl _ | with_reducible refine Le.self ?_ | with_reducible refine Le.cond ?_ ?_ | with_reducible refine Le.orNil ?_ ?_ | with_reducible refine Le.agree ?_ ?_ | with_reducible refine Le.joined ?_ ?_ | with_reducible refine Le.bind ?_ ?_ | with_reducible refine Le.loop hk_ ?_ _ | with_reducible refine Le.prod ?_ | intro _ | (dsimp only) | exact Le.refl _)

def Of1108.tw (k : Nat) (x : Int) (t1 : (Int × (Int × (List (List (Int × Int)))))) : Option ((Int × Int) × Unit) :=
  (if t1.1 < 0 then none else some (shrI .i64 x t1.1)).bind fun t8 =>
  Option.bind
    (cond (decide (t8 ≥ (List.length t1.2.2 : Int)))
      (some (t1, (), 0, 0, 0))
      (some (t1, (), t8, 0, 0)) : Option ((Int × (Int × (List (List (Int × Int))))) × (Unit × (Int × (Int × Int))))) fun ((t1_1, _, s, _) : ((Int × (Int × (List (List (Int × Int))))) × (Unit × (Int × (Int × Int))))) =>
  (rd t1_1.2.2 s).bind fun t17 =>
  (if t1_1.1 < 0 then none else some (shlI .i64 1 t1_1.1)).bind fun t22 =>
  (rd t17 (ibits .and .i64 x (w64 (t22 - 1)))).bind fun t25 =>
  some (t25, ())
theorem Of1108.le (k j : Nat) (hk_ : k ≤ j) : ∀ a0_ a1_, Le (Of1108.tw k a0_ a1_) (Of1108 j a0_ a1_) := by
  intro a0_ a1_
  unfold Of1108 Of1108.tw
  repeat' (first | with_reducible exact Le.refl _ | with_reducible refine Le.self ?_ | with_reducible refine Le.cond ?_ ?_ | with_reducible refine Le.orNil ?_ ?_ | with_reducible refine Le.agree ?_ ?_ | with_reducible refine Le.joined ?_ ?_ | with_reducible refine Le.bind ?_ ?_ | with_reducible refine Le.loop hk_ ?_ _ | with_reducible refine Le.prod ?_ | intro _ | (dsimp only) | exact Le.refl _)

def bit135.tw (k : Nat) (_ : Unit) (n : Int) (o0 : (Unit × Unit)) (o1 : (List (Int × (Int × (Int × (Int × Int)))))) (o2 : (List ((Int × (Int × (Int × (Int × Int)))) × Int))) : Option (Int × ((Unit × Unit) × ((List (Int × (Int × (Int × (Int × Int))))) × (List ((Int × (Int × (Int × (Int × Int)))) × Int))))) :=
  (put107.tw k () (0, 0, 0, 0, n) o0 o1 o2).bind fun t8 =>
  some (t8.1, t8.2.1, t8.2.2.1, t8.2.2.2)
theorem bit135.le (k j : Nat) (hk_ : k ≤ j) : ∀ a0_ a1_ a2_ a3_ a4_, Le (bit135.tw k a0_ a1_ a2_ a3_ a4_) (bit135 j a0_ a1_ a2_ a3_ a4_) := by
  intro a0_ a1_ a2_ a3_ a4_
  unfold bit135 bit135.tw
  repeat' (first | with_reducible exact Le.refl _ | with_reducible exact put107.le _ _ hk_ _ _ _ _ _ | with_reducible refine Le.self ?_ | with_reducible refine Le.cond ?_ ?_ | with_reducible refine Le.orNil ?_ ?_ | with_reducible refine Le.agree ?_ ?_ | with_reducible refine Le.joined ?_ ?_ | with_reducible refine Le.bind ?_ ?_ | with_reducible refine Le.loop hk_ ?_ _ | with_reducible refine Le.prod ?_ | intro _ | (dsimp only) | exact Le.refl _)

def constant150.tw (k : Nat) (_ : Unit) (k_ : Int) (o0 : (Unit × Unit)) (o1 : (List (Int × (Int × (Int × (Int × Int)))))) (o2 : (List ((Int × (Int × (Int × (Int × Int)))) × Int))) : Option ((Int × (Bool × Unit)) × ((Unit × Unit) × ((List (Int × (Int × (Int × (Int × Int))))) × (List ((Int × (Int × (Int × (Int × Int)))) × Int))))) :=
  (rd o1 k_).bind fun _ =>
  (rd o1 k_).bind fun t13 =>
  (rd o1 k_).bind fun _ =>
  (rd o1 k_).bind fun t21 =>
  some ((t13.2.2.2.2, (t21.1 == 0), ()), o0, o1, o2)
theorem constant150.le (k j : Nat) (hk_ : k ≤ j) : ∀ a0_ a1_ a2_ a3_ a4_, Le (constant150.tw k a0_ a1_ a2_ a3_ a4_) (constant150 j a0_ a1_ a2_ a3_ a4_) := by
  intro a0_ a1_ a2_ a3_ a4_
  unfold constant150 constant150.tw
  repeat' (first | with_reducible exact Le.refl _ | with_reducible refine Le.self ?_ | with_reducible refine Le.cond ?_ ?_ | with_reducible refine Le.orNil ?_ ?_ | with_reducible refine Le.agree ?_ ?_ | with_reducible refine Le.joined ?_ ?_ | with_reducible refine Le.bind ?_ ?_ | with_reducible refine Le.loop hk_ ?_ _ | with_reducible refine Le.prod ?_ | intro _ | (dsimp only) | exact Le.refl _)

def not138.tw (k : Nat) (_ : Unit) (a : Int) (o0 : (Unit × Unit)) (o1 : (List (Int × (Int × (Int × (Int × Int)))))) (o2 : (List ((Int × (Int × (Int × (Int × Int)))) × Int))) : Option (Int × ((Unit × Unit) × ((List (Int × (Int × (Int × (Int × Int))))) × (List ((Int × (Int × (Int × (Int × Int)))) × Int))))) :=
  (constant150.tw k () a o0 o1 o2).bind fun t11 =>
  cond t11.1.2.1
    ((bit135.tw k () (w64 (1 - t11.1.1)) t11.2.1 t11.2.2.1 t11.2.2.2).bind fun t18 =>
    some (t18.1, t18.2.1, t18.2.2.1, t18.2.2.2))
    ((rd t11.2.2.1 a).bind fun _ =>
    (rd t11.2.2.1 a).bind fun t25 =>
    cond (t25.1 == 3)
      (some (t25.2.1, t11.2.1, t11.2.2.1, t11.2.2.2))
      ((put107.tw k () (3, a, 0, 0, 0) t11.2.1 t11.2.2.1 t11.2.2.2).bind fun t34 =>
      some (t34.1, t34.2.1, t34.2.2.1, t34.2.2.2)))
theorem not138.le (k j : Nat) (hk_ : k ≤ j) : ∀ a0_ a1_ a2_ a3_ a4_, Le (not138.tw k a0_ a1_ a2_ a3_ a4_) (not138 j a0_ a1_ a2_ a3_ a4_) := by
  intro a0_ a1_ a2_ a3_ a4_
  unfold not138 not138.tw
  repeat' (first | with_reducible exact Le.refl _ | with_reducible exact put107.le _ _ hk_ _ _ _ _ _ | with_reducible exact bit135.le _ _ hk_ _ _ _ _ _ | with_reducible exact constant150.le _ _ hk_ _ _ _ _ _ | with_reducible refine Le.self ?_ | with_reducible refine Le.cond ?_ ?_ | with_reducible refine Le.orNil ?_ ?_ | with_reducible refine Le.agree ?_ ?_ | with_reducible refine Le.joined ?_ ?_ | with_reducible refine Le.bind ?_ ?_ | with_reducible refine Le.loop hk_ ?_ _ | with_reducible refine Le.prod ?_ | intro _ | (dsimp only) | exact Le.refl _)

def mux136.tw (k : Nat) (_ : Unit) (a : Int) (b : Int) (c : Int) (o0 : (Unit × Unit)) (o1 : (List (Int × (Int × (Int × (Int × Int)))))) (o2 : (List ((Int × (Int × (Int × (Int × Int)))) × Int))) : Option (Int × ((Unit × Unit) × ((List (Int × (Int × (Int × (Int × Int))))) × (List ((Int × (Int × (Int × (Int × Int)))) × Int))))) :=
  (constant150.tw k () a o0 o1 o2).bind fun t18 =>
  cond t18.1.2.1
    (cond (t18.1.1 == 1)
      (some (b, t18.2.1, t18.2.2.1, t18.2.2.2))
      (some (c, t18.2.1, t18.2.2.1, t18.2.2.2)))
    ((constant150.tw k () b t18.2.1 t18.2.2.1 t18.2.2.2).bind fun t29 =>
    (constant150.tw k () c t29.2.1 t29.2.2.1 t29.2.2.2).bind fun t35 =>
    cond (b == c)
      (some (b, t35.2.1, t35.2.2.1, t35.2.2.2))
      (cond (cond (cond t29.1.2.1 t35.1.2.1 false) (t29.1.1 == 1) false)
        (some (a, t35.2.1, t35.2.2.1, t35.2.2.2))
        (cond (cond t29.1.2.1 t35.1.2.1 false)
          ((not138.tw k () a t35.2.1 t35.2.2.1 t35.2.2.2).bind fun t60 =>
          some (t60.1, t60.2.1, t60.2.2.1, t60.2.2.2))
          ((put107.tw k () (7, a, b, c, 0) t35.2.1 t35.2.2.1 t35.2.2.2).bind fun t66 =>
          some (t66.1, t66.2.1, t66.2.2.1, t66.2.2.2)))))
theorem mux136.le (k j : Nat) (hk_ : k ≤ j) : ∀ a0_ a1_ a2_ a3_ a4_ a5_ a6_, Le (mux136.tw k a0_ a1_ a2_ a3_ a4_ a5_ a6_) (mux136 j a0_ a1_ a2_ a3_ a4_ a5_ a6_) := by
  intro a0_ a1_ a2_ a3_ a4_ a5_ a6_
  unfold mux136 mux136.tw
  repeat' (first | with_reducible exact Le.refl _ | with_reducible exact put107.le _ _ hk_ _ _ _ _ _ | with_reducible exact constant150.le _ _ hk_ _ _ _ _ _ | with_reducible exact not138.le _ _ hk_ _ _ _ _ _ | with_reducible refine Le.self ?_ | with_reducible refine Le.cond ?_ ?_ | with_reducible refine Le.orNil ?_ ?_ | with_reducible refine Le.agree ?_ ?_ | with_reducible refine Le.joined ?_ ?_ | with_reducible refine Le.bind ?_ ?_ | with_reducible refine Le.loop hk_ ?_ _ | with_reducible refine Le.prod ?_ | intro _ | (dsimp only) | exact Le.refl _)

def tree109.b.tw (r_ : Grptree109.T) (k : Nat) (_ : Unit) (vars : (List Int)) (f : (List Int)) (o0 : (Unit × Unit)) (o1 : (List (Int × (Int × (Int × (Int × Int)))))) (o2 : (List ((Int × (Int × (Int × (Int × Int)))) × Int))) : Option (Int × ((Unit × Unit) × ((List (Int × (Int × (Int × (Int × Int))))) × (List ((Int × (Int × (Int × (Int × Int)))) × Int))))) :=
  cond ((List.length vars : Int) == 0)
    ((rd f 0).bind fun t15 =>
    (bit135.tw k () t15 o0 o1 o2).bind fun t17 =>
    some (t17.1, t17.2.1, t17.2.2.1, t17.2.2.2))
    (let t20 : Int := (w64 ((List.length vars : Int) - 1))
    (slc vars 0 t20).bind fun t24 =>
    (if t20 < 0 then none else some (shlI .i64 1 t20)).bind fun t27 =>
    (slc f 0 t27).bind fun t28 =>
    (r_ () t24 t28 o0 o1 o2).bind fun t29 =>
    (slc vars 0 t20).bind fun t33 =>
    (if t20 < 0 then none else some (shlI .i64 1 t20)).bind fun t36 =>
    (slc f t36 (List.length f : Int)).bind fun t37 =>
    (r_ () t33 t37 t29.2.1 t29.2.2.1 t29.2.2.2).bind fun t38 =>
    (rd vars t20).bind fun t42 =>
    (mux136.tw k () t42 t38.1 t29.1 t38.2.1 t38.2.2.1 t38.2.2.2).bind fun t46 =>
    some (t46.1, t46.2.1, t46.2.2.1, t46.2.2.2))
theorem tree109.b.le (r_ r'_ : Grptree109.T) (h_ : ∀ a0_ a1_ a2_ a3_ a4_ a5_, Le (r_ a0_ a1_ a2_ a3_ a4_ a5_) (r'_ a0_ a1_ a2_ a3_ a4_ a5_)) (k j : Nat) (hk_ : k ≤ j) : ∀ a0_ a1_ a2_ a3_ a4_ a5_, Le (tree109.b.tw r_ k a0_ a1_ a2_ a3_ a4_ a5_) (tree109.b r'_ j a0_ a1_ a2_ a3_ a4_ a5_) := by
  intro a0_ a1_ a2_ a3_ a4_ a5_
  unfold tree109.b tree109.b.tw
  repeat' (first | with_reducible exact Le.refl _ | with_reducible exact bit135.le _ _ hk_ _ _ _ _ _ | with_reducible exact mux136.le _ _ hk_ _ _ _ _ _ _ _ | with_reducible exact h_ _ _ _ _ _ _ | with_reducible refine Le.self ?_ | with_reducible refine Le.cond ?_ ?_ | with_reducible refine Le.orNil ?_ ?_ | with_reducible refine Le.agree ?_ ?_ | with_reducible refine Le.joined ?_ ?_ | with_reducible refine Le.bind ?_ ?_ | with_reducible refine Le.loop hk_ ?_ _ | with_reducible refine Le.prod ?_ | intro _ | (dsimp only) | exact Le.refl _)

def Grptree109.tw : Nat → Grptree109.T
  | 0 => ((fun _ _ _ _ _ _ => none))
  | k + 1 => (tree109.b.tw (Grptree109.tw k) k)
theorem Grptree109.le : ∀ (k j : Nat), k ≤ j → ∀ a0_ a1_ a2_ a3_ a4_ a5_, Le (Grptree109.tw k a0_ a1_ a2_ a3_ a4_ a5_) (Grptree109 j a0_ a1_ a2_ a3_ a4_ a5_)
  | 0, _, _ => fun _ _ _ _ _ _ => Le.none _
  | k + 1, 0, h => absurd h (by omega)
  | k + 1, j + 1, h => fun a0_ a1_ a2_ a3_ a4_ a5_ => tree109.b.le _ _ (Grptree109.le k j (by omega)) k j (by omega) a0_ a1_ a2_ a3_ a4_ a5_

def tree109.tw (k : Nat) : Unit → (List Int) → (List Int) → (Unit × Unit) → (List (Int × (Int × (Int × (Int × Int))))) → (List ((Int × (Int × (Int × (Int × Int)))) × Int)) → Option (Int × ((Unit × Unit) × ((List (Int × (Int × (Int × (Int × Int))))) × (List ((Int × (Int × (Int × (Int × Int)))) × Int))))) := (Grptree109.tw k)
theorem tree109.le (k j : Nat) (hk_ : k ≤ j) : ∀ a0_ a1_ a2_ a3_ a4_ a5_, Le (tree109.tw k a0_ a1_ a2_ a3_ a4_ a5_) (tree109 j a0_ a1_ a2_ a3_ a4_ a5_) := Grptree109.le k j hk_

def swept1137.l0.tw (r_ : Grpswept1137.T) (k : Nat) (t18 : (Int × (Int × (Int × (Int × Int))))) : (Unit × ((Int × (Int × (Int × (Int × Int)))) × (Unit × (Int × (Unit × ((List Bool) × ((Unit × ((Int × ((List (Int × (Int × (Int × (Int × Int))))) × ((List Int) × ((List Int) × (List Int))))) × (Unit × Unit))) × (List Int)))))))) → Option ((Unit × ((Int × (Int × (Int × (Int × Int)))) × (Unit × (Int × (Unit × ((List Bool) × ((Unit × ((Int × ((List (Int × (Int × (Int × (Int × Int))))) × ((List Int) × ((List Int) × (List Int))))) × (Unit × Unit))) × (List Int)))))))) ⊕ (Unit × ((List Bool) × (Unit × ((Int × ((List (Int × (Int × (Int × (Int × Int))))) × ((List Int) × ((List Int) × (List Int))))) × (Unit × Unit))))))
  | (_, g, _, t28, _, o1_1, o2_1, o4) =>
    cond (decide (t28 < (List.length ([t18.2.1, t18.2.2.1, t18.2.2.2.1] : List Int) : Int)))
      ((rd o4 t28).bind fun _ =>
      (rd o4 t28).bind fun t32 =>
      Option.bind
        (cond (cond (decide (g.1 ≥ 3)) (cond (cond (t28 == 0) true (cond (t28 == 1) (decide (g.1 > 3)) false)) true (g.1 == 7)) false)
          ((r_ t32 o2_1.1 o2_1.2.1 o2_1.2.2.1 () o1_1 o2_1).bind fun t56 =>
          some ((), g, (), (), t56.2.2.1, t56.2.2.2, o4))
          (some ((), g, (), (), o1_1, o2_1, o4)) : Option (Unit × ((Int × (Int × (Int × (Int × Int)))) × (Unit × (Unit × ((List Bool) × ((Unit × ((Int × ((List (Int × (Int × (Int × (Int × Int))))) × ((List Int) × ((List Int) × (List Int))))) × (Unit × Unit))) × (List Int)))))))) fun ((_, g_1, _, _, o1_2, o2_2, o4_1) : (Unit × ((Int × (Int × (Int × (Int × Int)))) × (Unit × (Unit × ((List Bool) × ((Unit × ((Int × ((List (Int × (Int × (Int × (Int × Int))))) × ((List Int) × ((List Int) × (List Int))))) × (Unit × Unit))) × (List Int)))))))) =>
      some (Sum.inl ((), g_1, (), (w64 (t28 + 1)), (), o1_2, o2_2, o4_1)))
      (some (Sum.inr ((), o1_1, o2_1)))
theorem swept1137.l0.le (r_ r'_ : Grpswept1137.T) (h_ : ∀ a0_ a1_ a2_ a3_ a4_ a5_ a6_, Le (r_ a0_ a1_ a2_ a3_ a4_ a5_ a6_) (r'_ a0_ a1_ a2_ a3_ a4_ a5_ a6_)) (k j : Nat) (hk_ : k ≤ j) : ∀ a0_, ∀ s, Le (swept1137.l0.tw r_ k a0_ s) (swept1137.l0 r'_ j a0_ s) := by
  intro a0_
  unfold swept1137.l0 swept1137.l0.tw
  repeat' (first | with_reducible exact Le.refl _ | with_reducible exact h_ _ _ _ _ _ _ _ | with_reducible refine Le.self ?_ | with_reducible refine Le.cond ?_ ?_ | with_reducible refine Le.orNil ?_ ?_ | with_reducible refine Le.agree ?_ ?_ | with_reducible refine Le.joined ?_ ?_ | with_reducible refine Le.bind ?_ ?_ | with_reducible refine Le.loop hk_ ?_ _ | with_reducible refine Le.prod ?_ | intro _ | (dsimp only) | exact Le.refl _)

def swept1137.b.tw (r_ : Grpswept1137.T) (k : Nat) (k_ : Int) (_ : Unit) (t2 : (Int × ((List (Int × (Int × (Int × (Int × Int))))) × ((List Int) × ((List Int) × (List Int)))))) (_ : Unit) (o0 : Unit) (o1 : (List Bool)) (o2 : (Unit × ((Int × ((List (Int × (Int × (Int × (Int × Int))))) × ((List Int) × ((List Int) × (List Int))))) × (Unit × Unit)))) : Option (Unit × (Unit × ((List Bool) × (Unit × ((Int × ((List (Int × (Int × (Int × (Int × Int))))) × ((List Int) × ((List Int) × (List Int))))) × (Unit × Unit)))))) :=
  (rd o1 k_).bind fun _ =>
  (rd o1 k_).bind fun t11 =>
  cond t11
    (some ((), (), o1, o2))
    ((rd o1 k_).bind fun _ =>
    (rd o1 k_).bind fun _ =>
    (rd t2.2.1 k_).bind fun t18 =>
    Option.bind
      (loopN (swept1137.l0.tw r_ k t18) k ((), t18, (), 0, (), (List.set o1 (Int.toNat k_) true), o2, ([t18.2.1, t18.2.2.1, t18.2.2.2.1] : List Int)) : Option (Unit × ((List Bool) × (Unit × ((Int × ((List (Int × (Int × (Int × (Int × Int))))) × ((List Int) × ((List Int) × (List Int))))) × (Unit × Unit)))))) fun ((_, o1_3, o2_3) : (Unit × ((List Bool) × (Unit × ((Int × ((List (Int × (Int × (Int × (Int × Int))))) × ((List Int) × ((List Int) × (List Int))))) × (Unit × Unit)))))) =>
    some ((), (), o1_3, o2_3))
theorem swept1137.b.le (r_ r'_ : Grpswept1137.T) (h_ : ∀ a0_ a1_ a2_ a3_ a4_ a5_ a6_, Le (r_ a0_ a1_ a2_ a3_ a4_ a5_ a6_) (r'_ a0_ a1_ a2_ a3_ a4_ a5_ a6_)) (k j : Nat) (hk_ : k ≤ j) : ∀ a0_ a1_ a2_ a3_ a4_ a5_ a6_, Le (swept1137.b.tw r_ k a0_ a1_ a2_ a3_ a4_ a5_ a6_) (swept1137.b r'_ j a0_ a1_ a2_ a3_ a4_ a5_ a6_) := by
  intro a0_ a1_ a2_ a3_ a4_ a5_ a6_
  unfold swept1137.b swept1137.b.tw
  repeat' (first | with_reducible exact Le.refl _ | with_reducible exact swept1137.l0.le _ _ h_ _ _ hk_ _ | with_reducible exact h_ _ _ _ _ _ _ _ | with_reducible refine Le.self ?_ | with_reducible refine Le.cond ?_ ?_ | with_reducible refine Le.orNil ?_ ?_ | with_reducible refine Le.agree ?_ ?_ | with_reducible refine Le.joined ?_ ?_ | with_reducible refine Le.bind ?_ ?_ | with_reducible refine Le.loop hk_ ?_ _ | with_reducible refine Le.prod ?_ | intro _ | (dsimp only) | exact Le.refl _)

def Grpswept1137.tw : Nat → Grpswept1137.T
  | 0 => ((fun _ _ _ _ _ _ _ => none))
  | k + 1 => (swept1137.b.tw (Grpswept1137.tw k) k)
theorem Grpswept1137.le : ∀ (k j : Nat), k ≤ j → ∀ a0_ a1_ a2_ a3_ a4_ a5_ a6_, Le (Grpswept1137.tw k a0_ a1_ a2_ a3_ a4_ a5_ a6_) (Grpswept1137 j a0_ a1_ a2_ a3_ a4_ a5_ a6_)
  | 0, _, _ => fun _ _ _ _ _ _ _ => Le.none _
  | k + 1, 0, h => absurd h (by omega)
  | k + 1, j + 1, h => fun a0_ a1_ a2_ a3_ a4_ a5_ a6_ => swept1137.b.le _ _ (Grpswept1137.le k j (by omega)) k j (by omega) a0_ a1_ a2_ a3_ a4_ a5_ a6_

def swept1137.tw (k : Nat) : Int → Unit → (Int × ((List (Int × (Int × (Int × (Int × Int))))) × ((List Int) × ((List Int) × (List Int))))) → Unit → Unit → (List Bool) → (Unit × ((Int × ((List (Int × (Int × (Int × (Int × Int))))) × ((List Int) × ((List Int) × (List Int))))) × (Unit × Unit))) → Option (Unit × (Unit × ((List Bool) × (Unit × ((Int × ((List (Int × (Int × (Int × (Int × Int))))) × ((List Int) × ((List Int) × (List Int))))) × (Unit × Unit)))))) := (Grpswept1137.tw k)
theorem swept1137.le (k j : Nat) (hk_ : k ≤ j) : ∀ a0_ a1_ a2_ a3_ a4_ a5_ a6_, Le (swept1137.tw k a0_ a1_ a2_ a3_ a4_ a5_ a6_) (swept1137 j a0_ a1_ a2_ a3_ a4_ a5_ a6_) := Grpswept1137.le k j hk_

def swept110.l0.tw (k : Nat) (c : (Int × ((List (Int × (Int × (Int × (Int × Int))))) × ((List Int) × ((List Int) × (List Int)))))) : ((Int × ((List (Int × (Int × (Int × (Int × Int))))) × ((List Int) × ((List Int) × (List Int))))) × (Unit × (Unit × (Unit × (Int × ((Int × (Unit × (Unit × (Unit × Unit)))) × ((List (Int × (Int × (Int × (Int × Int))))) × ((List Int) × ((List Int) × ((List Int) × ((List Bool) × (Unit × (Unit × ((Int × ((List (Int × (Int × (Int × (Int × Int))))) × ((List Int) × ((List Int) × (List Int))))) × (Unit × Unit))))))))))))))) → Option (((Int × ((List (Int × (Int × (Int × (Int × Int))))) × ((List Int) × ((List Int) × (List Int))))) × (Unit × (Unit × (Unit × (Int × ((Int × (Unit × (Unit × (Unit × Unit)))) × ((List (Int × (Int × (Int × (Int × Int))))) × ((List Int) × ((List Int) × ((List Int) × ((List Bool) × (Unit × (Unit × ((Int × ((List (Int × (Int × (Int × (Int × Int))))) × ((List Int) × ((List Int) × (List Int))))) × (Unit × Unit))))))))))))))) ⊕ ((Int × ((List (Int × (Int × (Int × (Int × Int))))) × ((List Int) × ((List Int) × (List Int))))) × (Unit × (Unit × (Unit × ((Int × (Unit × (Unit × (Unit × Unit)))) × ((List (Int × (Int × (Int × (Int × Int))))) × ((List Int) × ((List Int) × ((List Int) × ((List Bool) × (Unit × (Unit × ((Int × ((List (Int × (Int × (Int × (Int × Int))))) × ((List Int) × ((List Int) × (List Int))))) × (Unit × Unit)))))))))))))))
  | (c_1, _, _, _, t25, o0, o1, o2, o3, o4, t20, _, o7) =>
    cond (decide (t25 < (List.length c.2.2.1 : Int)))
      ((rd c.2.2.1 t25).bind fun t27 =>
      (swept1137.tw k t27 o7.1 o7.2.1 o7.2.2.1 () t20 (o7.1, o7.2.1, o7.2.2.1, o7.2.2.2)).bind fun t31 =>
      some (Sum.inl (c_1, (), (), (), (w64 (t25 + 1)), o0, o1, o2, o3, o4, t31.2.2.1, (), t31.2.2.2.1, t31.2.2.2.2.1, t31.2.2.2.2.2.1, t31.2.2.2.2.2.2)))
      (some (Sum.inr (c_1, (), (), (), o0, o1, o2, o3, o4, t20, (), o7)))
theorem swept110.l0.le (k j : Nat) (hk_ : k ≤ j) : ∀ a0_, ∀ s, Le (swept110.l0.tw k a0_ s) (swept110.l0 j a0_ s) := by
  intro a0_
  unfold swept110.l0 swept110.l0.tw
  repeat' (first | with_reducible exact Le.refl _ | with_reducible exact swept1137.le _ _ hk_ _ _ _ _ _ _ _ | with_reducible refine Le.self ?_ | with_reducible refine Le.cond ?_ ?_ | with_reducible refine Le.orNil ?_ ?_ | with_reducible refine Le.agree ?_ ?_ | with_reducible refine Le.joined ?_ ?_ | with_reducible refine Le.bind ?_ ?_ | with_reducible refine Le.loop hk_ ?_ _ | with_reducible refine Le.prod ?_ | intro _ | (dsimp only) | exact Le.refl _)

def swept110.l1.tw (k : Nat) (c_2 : (Int × ((List (Int × (Int × (Int × (Int × Int))))) × ((List Int) × ((List Int) × (List Int)))))) : ((Int × ((List (Int × (Int × (Int × (Int × Int))))) × ((List Int) × ((List Int) × (List Int))))) × (Unit × (Unit × (Unit × (Int × ((Int × (Unit × (Unit × (Unit × Unit)))) × ((List (Int × (Int × (Int × (Int × Int))))) × ((List Int) × ((List Int) × ((List Int) × ((List Bool) × (Unit × (Unit × ((Int × ((List (Int × (Int × (Int × (Int × Int))))) × ((List Int) × ((List Int) × (List Int))))) × (Unit × Unit))))))))))))))) → Option (((Int × ((List (Int × (Int × (Int × (Int × Int))))) × ((List Int) × ((List Int) × (List Int))))) × (Unit × (Unit × (Unit × (Int × ((Int × (Unit × (Unit × (Unit × Unit)))) × ((List (Int × (Int × (Int × (Int × Int))))) × ((List Int) × ((List Int) × ((List Int) × ((List Bool) × (Unit × (Unit × ((Int × ((List (Int × (Int × (Int × (Int × Int))))) × ((List Int) × ((List Int) × (List Int))))) × (Unit × Unit))))))))))))))) ⊕ ((Int × ((List (Int × (Int × (Int × (Int × Int))))) × ((List Int) × ((List Int) × (List Int))))) × (Unit × (Unit × ((Int × (Unit × (Unit × (Unit × Unit)))) × ((List (Int × (Int × (Int × (Int × Int))))) × ((List Int) × ((List Int) × ((List Int) × ((List Bool) × Unit))))))))))
  | (c_3, _, _, _, t36, o0_2, o1_2, o2_2, o3_2, o4_2, t20_2, _, o7_2) =>
    cond (decide (t36 < (List.length c_2.2.2.2.1 : Int)))
      ((rd c_2.2.2.2.1 t36).bind fun t38 =>
      (swept1137.tw k t38 o7_2.1 o7_2.2.1 o7_2.2.2.1 () t20_2 (o7_2.1, o7_2.2.1, o7_2.2.2.1, o7_2.2.2.2)).bind fun t42 =>
      some (Sum.inl (c_3, (), (), (), (w64 (t36 + 1)), o0_2, o1_2, o2_2, o3_2, o4_2, t42.2.2.1, (), t42.2.2.2.1, t42.2.2.2.2.1, t42.2.2.2.2.2.1, t42.2.2.2.2.2.2)))
      (some (Sum.inr (c_3, (), (), o0_2, o1_2, o2_2, o3_2, o4_2, t20_2, ())))
theorem swept110.l1.le (k j : Nat) (hk_ : k ≤ j) : ∀ a0_, ∀ s, Le (swept110.l1.tw k a0_ s) (swept110.l1 j a0_ s) := by
  intro a0_
  unfold swept110.l1 swept110.l1.tw
  repeat' (first | with_reducible exact Le.refl _ | with_reducible exact swept1137.le _ _ hk_ _ _ _ _ _ _ _ | with_reducible refine Le.self ?_ | with_reducible refine Le.cond ?_ ?_ | with_reducible refine Le.orNil ?_ ?_ | with_reducible refine Le.agree ?_ ?_ | with_reducible refine Le.joined ?_ ?_ | with_reducible refine Le.bind ?_ ?_ | with_reducible refine Le.loop hk_ ?_ _ | with_reducible refine Le.prod ?_ | intro _ | (dsimp only) | exact Le.refl _)

def swept110.l2.tw (k : Nat) (c_4 : (Int × ((List (Int × (Int × (Int × (Int × Int))))) × ((List Int) × ((List Int) × (List Int)))))) : ((Int × ((List (Int × (Int × (Int × (Int × Int))))) × ((List Int) × ((List Int) × (List Int))))) × (Unit × (Unit × (Unit × (Unit × (Int × ((Int × (Unit × (Unit × (Unit × Unit)))) × ((List (Int × (Int × (Int × (Int × Int))))) × ((List Int) × ((List Int) × ((List Int) × ((List Bool) × (Unit × ((List Int) × ((Int × (Unit × (Unit × (Unit × (List Int))))) × ((List (Int × (Int × (Int × (Int × Int))))) × ((List Int) × (List Int)))))))))))))))))) → Option (((Int × ((List (Int × (Int × (Int × (Int × Int))))) × ((List Int) × ((List Int) × (List Int))))) × (Unit × (Unit × (Unit × (Unit × (Int × ((Int × (Unit × (Unit × (Unit × Unit)))) × ((List (Int × (Int × (Int × (Int × Int))))) × ((List Int) × ((List Int) × ((List Int) × ((List Bool) × (Unit × ((List Int) × ((Int × (Unit × (Unit × (Unit × (List Int))))) × ((List (Int × (Int × (Int × (Int × Int))))) × ((List Int) × (List Int)))))))))))))))))) ⊕ ((Int × ((List (Int × (Int × (Int × (Int × Int))))) × ((List Int) × ((List Int) × (List Int))))) × (Unit × (Unit × (Unit × ((Int × (Unit × (Unit × (Unit × Unit)))) × ((List (Int × (Int × (Int × (Int × Int))))) × ((List Int) × ((List Int) × ((List Int) × ((List Int) × ((Int × (Unit × (Unit × (Unit × (List Int))))) × ((List (Int × (Int × (Int × (Int × Int))))) × ((List Int) × (List Int)))))))))))))))
  | (c_5, _, _, _, _, t56, o0_4, o1_4, o2_4, o3_4, o4_4, t20_4, _, t47, o8, o9, o10, o11) =>
    cond (decide (t56 < (List.length c_4.2.1 : Int)))
      (Option.bind
        ((rd c_4.2.1 t56).bind fun t59 =>
        (rd t20_4 t56).bind fun _ =>
        (rd t20_4 t56).bind fun t64 =>
        cond (!t64)
          (some (c_5, (), (), (), (), o0_4, o1_4, o2_4, o3_4, o4_4, t20_4, (), t47, o8, o9, o10, o11))
          (Option.bind
            (cond (decide (t59.1 ≥ 3))
              ((rd t47 t59.2.1).bind fun _ =>
              (rd t47 t59.2.1).bind fun t73 =>
              some (c_5, (), (), (), (), (), o0_4, o1_4, o2_4, o3_4, o4_4, t20_4, (), t47, o8, o9, o10, o11, t59.1, t73, t59.2.2))
              (some (c_5, (), (), (), (), (), o0_4, o1_4, o2_4, o3_4, o4_4, t20_4, (), t47, o8, o9, o10, o11, t59)) : Option ((Int × ((List (Int × (Int × (Int × (Int × Int))))) × ((List Int) × ((List Int) × (List Int))))) × (Unit × (Unit × (Unit × (Unit × (Unit × ((Int × (Unit × (Unit × (Unit × Unit)))) × ((List (Int × (Int × (Int × (Int × Int))))) × ((List Int) × ((List Int) × ((List Int) × ((List Bool) × (Unit × ((List Int) × ((Int × (Unit × (Unit × (Unit × (List Int))))) × ((List (Int × (Int × (Int × (Int × Int))))) × ((List Int) × ((List Int) × (Int × (Int × (Int × (Int × Int))))))))))))))))))))))) fun ((c_6, _, _, _, _, _, o0_5, o1_5, o2_5, o3_5, o4_5, t20_5, _, t47_1, o8_1, o9_1, o10_1, o11_1, o12) : ((Int × ((List (Int × (Int × (Int × (Int × Int))))) × ((List Int) × ((List Int) × (List Int))))) × (Unit × (Unit × (Unit × (Unit × (Unit × ((Int × (Unit × (Unit × (Unit × Unit)))) × ((List (Int × (Int × (Int × (Int × Int))))) × ((List Int) × ((List Int) × ((List Int) × ((List Bool) × (Unit × ((List Int) × ((Int × (Unit × (Unit × (Unit × (List Int))))) × ((List (Int × (Int × (Int × (Int × Int))))) × ((List Int) × ((List Int) × (Int × (Int × (Int × (Int × Int))))))))))))))))))))))) =>
          Option.bind
            (cond (decide (o12.1 > 3))
              ((rd t47_1 o12.2.2.1).bind fun _ =>
              (rd t47_1 o12.2.2.1).bind fun t82 =>
              some (c_6, (), (), (), (), (), o0_5, o1_5, o2_5, o3_5, o4_5, t20_5, (), t47_1, o8_1, o9_1, o10_1, o11_1, o12.1, o12.2.1, t82, o12.2.2.2))
              (some (c_6, (), (), (), (), (), o0_5, o1_5, o2_5, o3_5, o4_5, t20_5, (), t47_1, o8_1, o9_1, o10_1, o11_1, o12)) : Option ((Int × ((List (Int × (Int × (Int × (Int × Int))))) × ((List Int) × ((List Int) × (List Int))))) × (Unit × (Unit × (Unit × (Unit × (Unit × ((Int × (Unit × (Unit × (Unit × Unit)))) × ((List (Int × (Int × (Int × (Int × Int))))) × ((List Int) × ((List Int) × ((List Int) × ((List Bool) × (Unit × ((List Int) × ((Int × (Unit × (Unit × (Unit × (List Int))))) × ((List (Int × (Int × (Int × (Int × Int))))) × ((List Int) × ((List Int) × (Int × (Int × (Int × (Int × Int))))))))))))))))))))))) fun ((c_7, _, _, _, _, _, o0_6, o1_6, o2_6, o3_6, o4_6, t20_6, _, t47_2, o8_2, o9_2, o10_2, o11_2, o12_1) : ((Int × ((List (Int × (Int × (Int × (Int × Int))))) × ((List Int) × ((List Int) × (List Int))))) × (Unit × (Unit × (Unit × (Unit × (Unit × ((Int × (Unit × (Unit × (Unit × Unit)))) × ((List (Int × (Int × (Int × (Int × Int))))) × ((List Int) × ((List Int) × ((List Int) × ((List Bool) × (Unit × ((List Int) × ((Int × (Unit × (Unit × (Unit × (List Int))))) × ((List (Int × (Int × (Int × (Int × Int))))) × ((List Int) × ((List Int) × (Int × (Int × (Int × (Int × Int))))))))))))))))))))))) =>
          Option.bind
            (cond (o12_1.1 == 7)
              ((rd t47_2 o12_1.2.2.2.1).bind fun _ =>
              (rd t47_2 o12_1.2.2.2.1).bind fun t91 =>
              some (c_7, (), (), (), (), (), o0_6, o1_6, o2_6, o3_6, o4_6, t20_6, (), t47_2, o8_2, o9_2, o10_2, o11_2, o12_1.1, o12_1.2.1, o12_1.2.2.1, t91, o12_1.2.2.2.2))
              (some (c_7, (), (), (), (), (), o0_6, o1_6, o2_6, o3_6, o4_6, t20_6, (), t47_2, o8_2, o9_2, o10_2, o11_2, o12_1)) : Option ((Int × ((List (Int × (Int × (Int × (Int × Int))))) × ((List Int) × ((List Int) × (List Int))))) × (Unit × (Unit × (Unit × (Unit × (Unit × ((Int × (Unit × (Unit × (Unit × Unit)))) × ((List (Int × (Int × (Int × (Int × Int))))) × ((List Int) × ((List Int) × ((List Int) × ((List Bool) × (Unit × ((List Int) × ((Int × (Unit × (Unit × (Unit × (List Int))))) × ((List (Int × (Int × (Int × (Int × Int))))) × ((List Int) × ((List Int) × (Int × (Int × (Int × (Int × Int))))))))))))))))))))))) fun ((c_8, _, _, _, _, _, o0_7, o1_7, o2_7, o3_7, o4_7, t20_7, _, t47_3, o8_3, o9_3, o10_3, o11_3, o12_2) : ((Int × ((List (Int × (Int × (Int × (Int × Int))))) × ((List Int) × ((List Int) × (List Int))))) × (Unit × (Unit × (Unit × (Unit × (Unit × ((Int × (Unit × (Unit × (Unit × Unit)))) × ((List (Int × (Int × (Int × (Int × Int))))) × ((List Int) × ((List Int) × ((List Int) × ((List Bool) × (Unit × ((List Int) × ((Int × (Unit × (Unit × (Unit × (List Int))))) × ((List (Int × (Int × (Int × (Int × Int))))) × ((List Int) × ((List Int) × (Int × (Int × (Int × (Int × Int))))))))))))))))))))))) =>
          (rd t47_3 t56).bind fun _ =>
          (rd t47_3 t56).bind fun _ =>
          (if room (List.length o9_3 + List.length [o12_2]) 40 then some () else none).bind fun _ =>
          some (c_8, (), (), (), (), o0_7, o1_7, o2_7, o3_7, o4_7, t20_7, (), (List.set t47_3 (Int.toNat t56) (List.length o9_3 : Int)), (o8_3.1, o8_3.2.1, o8_3.2.2), (o9_3 ++ [o12_2]), o10_3, o11_3)) : Option ((Int × ((List (Int × (Int × (Int × (Int × Int))))) × ((List Int) × ((List Int) × (List Int))))) × (Unit × (Unit × (Unit × (Unit × ((Int × (Unit × (Unit × (Unit × Unit)))) × ((List (Int × (Int × (Int × (Int × Int))))) × ((List Int) × ((List Int) × ((List Int) × ((List Bool) × (Unit × ((List Int) × ((Int × (Unit × (Unit × (Unit × (List Int))))) × ((List (Int × (Int × (Int × (Int × Int))))) × ((List Int) × (List Int)))))))))))))))))) fun ((c_9, _, _, _, _, o0_8, o1_8, o2_8, o3_8, o4_8, t20_8, _, t47_5, o8_4, o9_4, o10_4, o11_4) : ((Int × ((List (Int × (Int × (Int × (Int × Int))))) × ((List Int) × ((List Int) × (List Int))))) × (Unit × (Unit × (Unit × (Unit × ((Int × (Unit × (Unit × (Unit × Unit)))) × ((List (Int × (Int × (Int × (Int × Int))))) × ((List Int) × ((List Int) × ((List Int) × ((List Bool) × (Unit × ((List Int) × ((Int × (Unit × (Unit × (Unit × (List Int))))) × ((List (Int × (Int × (Int × (Int × Int))))) × ((List Int) × (List Int)))))))))))))))))) =>
      some (Sum.inl (c_9, (), (), (), (), (w64 (t56 + 1)), o0_8, o1_8, o2_8, o3_8, o4_8, t20_8, (), t47_5, o8_4, o9_4, o10_4, o11_4)))
      (some (Sum.inr (c_5, (), (), (), o0_4, o1_4, o2_4, o3_4, o4_4, t47, o8, o9, o10, o11)))
theorem swept110.l2.le (k j : Nat) (hk_ : k ≤ j) : ∀ a0_, ∀ s, Le (swept110.l2.tw k a0_ s) (swept110.l2 j a0_ s) := by
  intro a0_
  unfold swept110.l2 swept110.l2.tw
  repeat' (first | with_reducible exact Le.refl _ | with_reducible refine Le.self ?_ | with_reducible refine Le.cond ?_ ?_ | with_reducible refine Le.orNil ?_ ?_ | with_reducible refine Le.agree ?_ ?_ | with_reducible refine Le.joined ?_ ?_ | with_reducible refine Le.bind ?_ ?_ | with_reducible refine Le.loop hk_ ?_ _ | with_reducible refine Le.prod ?_ | intro _ | (dsimp only) | exact Le.refl _)

def swept110.l3.tw (k : Nat) (c_10 : (Int × ((List (Int × (Int × (Int × (Int × Int))))) × ((List Int) × ((List Int) × (List Int)))))) : ((Int × ((List (Int × (Int × (Int × (Int × Int))))) × ((List Int) × ((List Int) × (List Int))))) × (Unit × (Unit × (Unit × (Int × ((Int × (Unit × (Unit × (Unit × Unit)))) × ((List (Int × (Int × (Int × (Int × Int))))) × ((List Int) × ((List Int) × ((List Int) × ((List Int) × ((Int × (Unit × (Unit × (Unit × (List Int))))) × ((List (Int × (Int × (Int × (Int × Int))))) × ((List Int) × (List Int))))))))))))))) → Option (((Int × ((List (Int × (Int × (Int × (Int × Int))))) × ((List Int) × ((List Int) × (List Int))))) × (Unit × (Unit × (Unit × (Int × ((Int × (Unit × (Unit × (Unit × Unit)))) × ((List (Int × (Int × (Int × (Int × Int))))) × ((List Int) × ((List Int) × ((List Int) × ((List Int) × ((Int × (Unit × (Unit × (Unit × (List Int))))) × ((List (Int × (Int × (Int × (Int × Int))))) × ((List Int) × (List Int))))))))))))))) ⊕ ((Int × ((List (Int × (Int × (Int × (Int × Int))))) × ((List Int) × ((List Int) × (List Int))))) × (Unit × (Unit × (Unit × ((Int × (Unit × (Unit × (Unit × Unit)))) × ((List (Int × (Int × (Int × (Int × Int))))) × ((List Int) × ((List Int) × ((List Int) × ((List Int) × ((Int × (Unit × (Unit × (Unit × (List Int))))) × ((List (Int × (Int × (Int × (Int × Int))))) × ((List Int) × (List Int)))))))))))))))
  | (c_11, _, _, _, t109, o0_10, o1_10, o2_10, o3_10, o4_10, t47_7, o8_6, o9_6, o10_6, o11_6) =>
    cond (decide (t109 < (List.length c_10.2.2.1 : Int)))
      ((rd c_10.2.2.1 t109).bind fun t111 =>
      (rd t47_7 t111).bind fun _ =>
      (rd t47_7 t111).bind fun t118 =>
      (if room (List.length o10_6 + List.length ([t118] : List Int)) 8 then some () else none).bind fun _ =>
      some (Sum.inl (c_11, (), (), (), (w64 (t109 + 1)), o0_10, o1_10, o2_10, o3_10, o4_10, t47_7, (o8_6.1, o8_6.2.1, o8_6.2.2.1, o8_6.2.2.2), o9_6, (o10_6 ++ ([t118] : List Int)), o11_6)))
      (some (Sum.inr (c_11, (), (), (), o0_10, o1_10, o2_10, o3_10, o4_10, t47_7, o8_6, o9_6, o10_6, o11_6)))
theorem swept110.l3.le (k j : Nat) (hk_ : k ≤ j) : ∀ a0_, ∀ s, Le (swept110.l3.tw k a0_ s) (swept110.l3 j a0_ s) := by
  intro a0_
  unfold swept110.l3 swept110.l3.tw
  repeat' (first | with_reducible exact Le.refl _ | with_reducible refine Le.self ?_ | with_reducible refine Le.cond ?_ ?_ | with_reducible refine Le.orNil ?_ ?_ | with_reducible refine Le.agree ?_ ?_ | with_reducible refine Le.joined ?_ ?_ | with_reducible refine Le.bind ?_ ?_ | with_reducible refine Le.loop hk_ ?_ _ | with_reducible refine Le.prod ?_ | intro _ | (dsimp only) | exact Le.refl _)

def swept110.l4.tw (k : Nat) (c_12 : (Int × ((List (Int × (Int × (Int × (Int × Int))))) × ((List Int) × ((List Int) × (List Int)))))) : (Unit × (Unit × (Unit × (Int × ((Int × (Unit × (Unit × (Unit × Unit)))) × ((List (Int × (Int × (Int × (Int × Int))))) × ((List Int) × ((List Int) × ((List Int) × ((List Int) × ((Int × (Unit × (Unit × (Unit × (List Int))))) × ((List (Int × (Int × (Int × (Int × Int))))) × ((List Int) × (List Int)))))))))))))) → Option ((Unit × (Unit × (Unit × (Int × ((Int × (Unit × (Unit × (Unit × Unit)))) × ((List (Int × (Int × (Int × (Int × Int))))) × ((List Int) × ((List Int) × ((List Int) × ((List Int) × ((Int × (Unit × (Unit × (Unit × (List Int))))) × ((List (Int × (Int × (Int × (Int × Int))))) × ((List Int) × (List Int)))))))))))))) ⊕ (Unit × (Unit × ((Int × (Unit × (Unit × (Unit × Unit)))) × ((List (Int × (Int × (Int × (Int × Int))))) × ((List Int) × ((List Int) × ((List Int) × ((Int × (Unit × (Unit × (Unit × (List Int))))) × ((List (Int × (Int × (Int × (Int × Int))))) × ((List Int) × (List Int))))))))))))
  | (_, _, _, t126, o0_12, o1_12, o2_12, o3_12, o4_12, t47_9, o8_8, o9_8, o10_8, o11_8) =>
    cond (decide (t126 < (List.length c_12.2.2.2.1 : Int)))
      ((rd c_12.2.2.2.1 t126).bind fun t128 =>
      (rd t47_9 t128).bind fun _ =>
      (rd t47_9 t128).bind fun t135 =>
      (if room (List.length o11_8 + List.length ([t135] : List Int)) 8 then some () else none).bind fun _ =>
      some (Sum.inl ((), (), (), (w64 (t126 + 1)), o0_12, o1_12, o2_12, o3_12, o4_12, t47_9, (o8_8.1, o8_8.2.1, o8_8.2.2.1, o8_8.2.2.2.1, o8_8.2.2.2.2), o9_8, o10_8, (o11_8 ++ ([t135] : List Int)))))
      (some (Sum.inr ((), (), o0_12, o1_12, o2_12, o3_12, o4_12, o8_8, o9_8, o10_8, o11_8)))
theorem swept110.l4.le (k j : Nat) (hk_ : k ≤ j) : ∀ a0_, ∀ s, Le (swept110.l4.tw k a0_ s) (swept110.l4 j a0_ s) := by
  intro a0_
  unfold swept110.l4 swept110.l4.tw
  repeat' (first | with_reducible exact Le.refl _ | with_reducible refine Le.self ?_ | with_reducible refine Le.cond ?_ ?_ | with_reducible refine Le.orNil ?_ ?_ | with_reducible refine Le.agree ?_ ?_ | with_reducible refine Le.joined ?_ ?_ | with_reducible refine Le.bind ?_ ?_ | with_reducible refine Le.loop hk_ ?_ _ | with_reducible refine Le.prod ?_ | intro _ | (dsimp only) | exact Le.refl _)

def swept110.tw (k : Nat) (c : (Int × ((List (Int × (Int × (Int × (Int × Int))))) × ((List Int) × ((List Int) × (List Int)))))) : Option ((Int × ((List (Int × (Int × (Int × (Int × Int))))) × ((List Int) × ((List Int) × (List Int))))) × Unit) :=
  (if 0 ≤ (List.length c.2.1 : Int) ∧ (List.length c.2.1 : Int) ≤ (List.length c.2.1 : Int) ∧ (List.length c.2.1 : Int) * 1 ≤ 140737488355328 then some () else none).bind fun _ =>
  Option.bind
    (loopN (swept110.l0.tw k c) k (c, (), (), (), 0, (0, (), (), (), ()), [], [], [], [], (List.replicate (Int.toNat (List.length c.2.1 : Int)) false), (), (), c, (), ()) : Option ((Int × ((List (Int × (Int × (Int × (Int × Int))))) × ((List Int) × ((List Int) × (List Int))))) × (Unit × (Unit × (Unit × ((Int × (Unit × (Unit × (Unit × Unit)))) × ((List (Int × (Int × (Int × (Int × Int))))) × ((List Int) × ((List Int) × ((List Int) × ((List Bool) × (Unit × (Unit × ((Int × ((List (Int × (Int × (Int × (Int × Int))))) × ((List Int) × ((List Int) × (List Int))))) × (Unit × Unit))))))))))))))) fun ((c_2, _, _, _, o0_1, o1_1, o2_1, o3_1, o4_1, t20_1, _, o7_1) : ((Int × ((List (Int × (Int × (Int × (Int × Int))))) × ((List Int) × ((List Int) × (List Int))))) × (Unit × (Unit × (Unit × ((Int × (Unit × (Unit × (Unit × Unit)))) × ((List (Int × (Int × (Int × (Int × Int))))) × ((List Int) × ((List Int) × ((List Int) × ((List Bool) × (Unit × (Unit × ((Int × ((List (Int × (Int × (Int × (Int × Int))))) × ((List Int) × ((List Int) × (List Int))))) × (Unit × Unit))))))))))))))) =>
  Option.bind
    (loopN (swept110.l1.tw k c_2) k (c_2, (), (), (), 0, o0_1, o1_1, o2_1, o3_1, o4_1, t20_1, (), o7_1) : Option ((Int × ((List (Int × (Int × (Int × (Int × Int))))) × ((List Int) × ((List Int) × (List Int))))) × (Unit × (Unit × ((Int × (Unit × (Unit × (Unit × Unit)))) × ((List (Int × (Int × (Int × (Int × Int))))) × ((List Int) × ((List Int) × ((List Int) × ((List Bool) × Unit)))))))))) fun ((c_4, _, _, o0_3, o1_3, o2_3, o3_3, o4_3, t20_3, _) : ((Int × ((List (Int × (Int × (Int × (Int × Int))))) × ((List Int) × ((List Int) × (List Int))))) × (Unit × (Unit × ((Int × (Unit × (Unit × (Unit × Unit)))) × ((List (Int × (Int × (Int × (Int × Int))))) × ((List Int) × ((List Int) × ((List Int) × ((List Bool) × Unit)))))))))) =>
  (if 0 ≤ (List.length c_4.2.1 : Int) ∧ (List.length c_4.2.1 : Int) ≤ (List.length c_4.2.1 : Int) ∧ (List.length c_4.2.1 : Int) * 8 ≤ 140737488355328 then some () else none).bind fun _ =>
  Option.bind
    (loopN (swept110.l2.tw k c_4) k (c_4, (), (), (), (), 0, o0_3, o1_3, o2_3, o3_3, o4_3, t20_3, (), (List.replicate (Int.toNat (List.length c_4.2.1 : Int)) 0), (c_4.1, (), (), (), c_4.2.2.2.2), [], [], []) : Option ((Int × ((List (Int × (Int × (Int × (Int × Int))))) × ((List Int) × ((List Int) × (List Int))))) × (Unit × (Unit × (Unit × ((Int × (Unit × (Unit × (Unit × Unit)))) × ((List (Int × (Int × (Int × (Int × Int))))) × ((List Int) × ((List Int) × ((List Int) × ((List Int) × ((Int × (Unit × (Unit × (Unit × (List Int))))) × ((List (Int × (Int × (Int × (Int × Int))))) × ((List Int) × (List Int))))))))))))))) fun ((c_10, _, _, _, o0_9, o1_9, o2_9, o3_9, o4_9, t47_6, o8_5, o9_5, o10_5, o11_5) : ((Int × ((List (Int × (Int × (Int × (Int × Int))))) × ((List Int) × ((List Int) × (List Int))))) × (Unit × (Unit × (Unit × ((Int × (Unit × (Unit × (Unit × Unit)))) × ((List (Int × (Int × (Int × (Int × Int))))) × ((List Int) × ((List Int) × ((List Int) × ((List Int) × ((Int × (Unit × (Unit × (Unit × (List Int))))) × ((List (Int × (Int × (Int × (Int × Int))))) × ((List Int) × (List Int))))))))))))))) =>
  Option.bind
    (loopN (swept110.l3.tw k c_10) k (c_10, (), (), (), 0, o0_9, o1_9, o2_9, o3_9, o4_9, t47_6, o8_5, o9_5, o10_5, o11_5) : Option ((Int × ((List (Int × (Int × (Int × (Int × Int))))) × ((List Int) × ((List Int) × (List Int))))) × (Unit × (Unit × (Unit × ((Int × (Unit × (Unit × (Unit × Unit)))) × ((List (Int × (Int × (Int × (Int × Int))))) × ((List Int) × ((List Int) × ((List Int) × ((List Int) × ((Int × (Unit × (Unit × (Unit × (List Int))))) × ((List (Int × (Int × (Int × (Int × Int))))) × ((List Int) × (List Int))))))))))))))) fun ((c_12, _, _, _, o0_11, o1_11, o2_11, o3_11, o4_11, t47_8, o8_7, o9_7, o10_7, o11_7) : ((Int × ((List (Int × (Int × (Int × (Int × Int))))) × ((List Int) × ((List Int) × (List Int))))) × (Unit × (Unit × (Unit × ((Int × (Unit × (Unit × (Unit × Unit)))) × ((List (Int × (Int × (Int × (Int × Int))))) × ((List Int) × ((List Int) × ((List Int) × ((List Int) × ((Int × (Unit × (Unit × (Unit × (List Int))))) × ((List (Int × (Int × (Int × (Int × Int))))) × ((List Int) × (List Int))))))))))))))) =>
  Option.bind
    (loopN (swept110.l4.tw k c_12) k ((), (), (), 0, o0_11, o1_11, o2_11, o3_11, o4_11, t47_8, o8_7, o9_7, o10_7, o11_7) : Option (Unit × (Unit × ((Int × (Unit × (Unit × (Unit × Unit)))) × ((List (Int × (Int × (Int × (Int × Int))))) × ((List Int) × ((List Int) × ((List Int) × ((Int × (Unit × (Unit × (Unit × (List Int))))) × ((List (Int × (Int × (Int × (Int × Int))))) × ((List Int) × (List Int)))))))))))) fun ((_, _, _, _, _, _, _, o8_9, o9_9, o10_9, o11_9) : (Unit × (Unit × ((Int × (Unit × (Unit × (Unit × Unit)))) × ((List (Int × (Int × (Int × (Int × Int))))) × ((List Int) × ((List Int) × ((List Int) × ((Int × (Unit × (Unit × (Unit × (List Int))))) × ((List (Int × (Int × (Int × (Int × Int))))) × ((List Int) × (List Int)))))))))))) =>
  some ((o8_9.1, o9_9, o10_9, o11_9, o8_9.2.2.2.2), ())
theorem swept110.le (k j : Nat) (hk_ : k ≤ j) : ∀ a0_, Le (swept110.tw k a0_) (swept110 j a0_) := by
  intro a0_
  unfold swept110 swept110.tw
  repeat' (first | with_reducible exact Le.refl _ | with_reducible exact swept110.l0.le _ _ hk_ _ | with_reducible exact swept110.l1.le _ _ hk_ _ | with_reducible exact swept110.l2.le _ _ hk_ _ | with_reducible exact swept110.l3.le _ _ hk_ _ | with_reducible exact swept110.l4.le _ _ hk_ _ | with_reducible refine Le.self ?_ | with_reducible refine Le.cond ?_ ?_ | with_reducible refine Le.orNil ?_ ?_ | with_reducible refine Le.agree ?_ ?_ | with_reducible refine Le.joined ?_ ?_ | with_reducible refine Le.bind ?_ ?_ | with_reducible refine Le.loop hk_ ?_ _ | with_reducible refine Le.prod ?_ | intro _ | (dsimp only) | exact Le.refl _)

def Of54.l0.tw (k : Nat) (t : (Int × (Int × (List (List (Int × Int)))))) : ((Int × (Int × (List (List (Int × Int))))) × (Unit × (Unit × (Unit × (Int × ((Int × (Unit × (Unit × (Unit × Unit)))) × ((List (Int × (Int × (Int × (Int × Int))))) × ((List Int) × ((List Int) × ((List Int) × ((List ((Int × (Int × (Int × (Int × Int)))) × Int)) × ((Unit × Unit) × ((List (Int × (Int × (Int × (Int × Int))))) × (List Int)))))))))))))) → Option (((Int × (Int × (List (List (Int × Int))))) × (Unit × (Unit × (Unit × (Int × ((Int × (Unit × (Unit × (Unit × Unit)))) × ((List (Int × (Int × (Int × (Int × Int))))) × ((List Int) × ((List Int) × ((List Int) × ((List ((Int × (Int × (Int × (Int × Int)))) × Int)) × ((Unit × Unit) × ((List (Int × (Int × (Int × (Int × Int))))) × (List Int)))))))))))))) ⊕ ((Int × (Int × (List (List (Int × Int))))) × (Unit × (Unit × (Unit × ((Int × (Unit × (Unit × (Unit × Unit)))) × ((List (Int × (Int × (Int × (Int × Int))))) × ((List Int) × ((List Int) × ((List Int) × ((List ((Int × (Int × (Int × (Int × Int)))) × Int)) × ((Unit × Unit) × ((List (Int × (Int × (Int × (Int × Int))))) × (List Int))))))))))))))
  | (t_1, _, _, _, t32, o0, o1, o2, o3, o4, o5, o6, o7, o9) =>
    cond (decide (t32 < t.1))
      ((put107.tw k () (1, 0, 0, 0, t32) ((), ()) o7 o5).bind fun t39 =>
      (if room (List.length o9 + List.length ([t39.1] : List Int)) 8 then some () else none).bind fun _ =>
      some (Sum.inl (t_1, (), (), (), (w64 (t32 + 1)), o0, o1, o2, o3, o4, t39.2.2.2, (t39.2.1.1, t39.2.1.2), t39.2.2.1, (o9 ++ ([t39.1] : List Int)))))
      (some (Sum.inr (t_1, (), (), (), o0, o1, o2, o3, o4, o5, o6, o7, o9)))
theorem Of54.l0.le (k j : Nat) (hk_ : k ≤ j) : ∀ a0_, ∀ s, Le (Of54.l0.tw k a0_ s) (Of54.l0 j a0_ s) := by
  intro a0_
  unfold Of54.l0 Of54.l0.tw
  repeat' (first | with_reducible exact Le.refl _ | with_reducible exact put107.le _ _ hk_ _ _ _ _ _ | with_reducible refine Le.self ?_ | with_reducible refine Le.cond ?_ ?_ | with_reducible refine Le.orNil ?_ ?_ | with_reducible refine Le.agree ?_ ?_ | with_reducible refine Le.joined ?_ ?_ | with_reducible refine Le.bind ?_ ?_ | with_reducible refine Le.loop hk_ ?_ _ | with_reducible refine Le.prod ?_ | intro _ | (dsimp only) | exact Le.refl _)

def Of54.l1.tw (k : Nat) (t29 : (Int × Unit)) : ((Int × (Int × (List (List (Int × Int))))) × (Unit × (Unit × (Unit × (Int × ((Int × (Unit × (Unit × (Unit × Unit)))) × ((List (Int × (Int × (Int × (Int × Int))))) × ((List Int) × ((List Int) × ((List Int) × ((List ((Int × (Int × (Int × (Int × Int)))) × Int)) × ((Unit × Unit) × ((List (Int × (Int × (Int × (Int × Int))))) × (List Int)))))))))))))) → Option (((Int × (Int × (List (List (Int × Int))))) × (Unit × (Unit × (Unit × (Int × ((Int × (Unit × (Unit × (Unit × Unit)))) × ((List (Int × (Int × (Int × (Int × Int))))) × ((List Int) × ((List Int) × ((List Int) × ((List ((Int × (Int × (Int × (Int × Int)))) × Int)) × ((Unit × Unit) × ((List (Int × (Int × (Int × (Int × Int))))) × (List Int)))))))))))))) ⊕ ((Int × (Int × (List (List (Int × Int))))) × (Unit × (Unit × (Unit × ((Int × (Unit × (Unit × (Unit × Unit)))) × ((List (Int × (Int × (Int × (Int × Int))))) × ((List Int) × ((List Int) × ((List Int) × ((List ((Int × (Int × (Int × (Int × Int)))) × Int)) × ((Unit × Unit) × ((List (Int × (Int × (Int × (Int × Int))))) × (List Int))))))))))))))
  | (t_3, _, _, _, t44, o0_2, o1_2, o2_2, o3_2, o4_2, o5_2, o6_2, o7_2, o9_2) =>
    cond (decide (t44 < t29.1))
      ((put107.tw k () (2, 0, 0, 0, t44) ((), ()) o7_2 o5_2).bind fun t51 =>
      (if room (List.length o9_2 + List.length ([t51.1] : List Int)) 8 then some () else none).bind fun _ =>
      some (Sum.inl (t_3, (), (), (), (w64 (t44 + 1)), o0_2, o1_2, o2_2, o3_2, o4_2, t51.2.2.2, (t51.2.1.1, t51.2.1.2), t51.2.2.1, (o9_2 ++ ([t51.1] : List Int)))))
      (some (Sum.inr (t_3, (), (), (), o0_2, o1_2, o2_2, o3_2, o4_2, o5_2, o6_2, o7_2, o9_2)))
theorem Of54.l1.le (k j : Nat) (hk_ : k ≤ j) : ∀ a0_, ∀ s, Le (Of54.l1.tw k a0_ s) (Of54.l1 j a0_ s) := by
  intro a0_
  unfold Of54.l1 Of54.l1.tw
  repeat' (first | with_reducible exact Le.refl _ | with_reducible exact put107.le _ _ hk_ _ _ _ _ _ | with_reducible refine Le.self ?_ | with_reducible refine Le.cond ?_ ?_ | with_reducible refine Le.orNil ?_ ?_ | with_reducible refine Le.agree ?_ ?_ | with_reducible refine Le.joined ?_ ?_ | with_reducible refine Le.bind ?_ ?_ | with_reducible refine Le.loop hk_ ?_ _ | with_reducible refine Le.prod ?_ | intro _ | (dsimp only) | exact Le.refl _)

def Of54.l2.tw (k : Nat) (t63 : Int) (t68 : Int) : ((Int × (Int × (List (List (Int × Int))))) × (Unit × (Unit × (Unit × (((Int × (Int × (List (List (Int × Int))))) × Unit) × (Unit × (Unit × (Int × ((Int × (Unit × (Unit × (Unit × Unit)))) × ((List (Int × (Int × (Int × (Int × Int))))) × ((List Int) × ((List Int) × ((List Int) × ((List ((Int × (Int × (Int × (Int × Int)))) × Int)) × ((Unit × Unit) × ((List (Int × (Int × (Int × (Int × Int))))) × ((List Int) × ((Int × (Unit × (Unit × (Unit × Unit)))) × ((List (Int × (Int × (Int × (Int × Int))))) × ((List Int) × ((List Int) × ((List Int) × (List Int))))))))))))))))))))))) → Option (((Int × (Int × (List (List (Int × Int))))) × (Unit × (Unit × (Unit × (((Int × (Int × (List (List (Int × Int))))) × Unit) × (Unit × (Unit × (Int × ((Int × (Unit × (Unit × (Unit × Unit)))) × ((List (Int × (Int × (Int × (Int × Int))))) × ((List Int) × ((List Int) × ((List Int) × ((List ((Int × (Int × (Int × (Int × Int)))) × Int)) × ((Unit × Unit) × ((List (Int × (Int × (Int × (Int × Int))))) × ((List Int) × ((Int × (Unit × (Unit × (Unit × Unit)))) × ((List (Int × (Int × (Int × (Int × Int))))) × ((List Int) × ((List Int) × ((List Int) × (List Int))))))))))))))))))))))) ⊕ ((Int × (Int × (List (List (Int × Int))))) × (Unit × (Unit × (Unit × (((Int × (Int × (List (List (Int × Int))))) × Unit) × (Unit × (Unit × ((Int × (Unit × (Unit × (Unit × Unit)))) × ((List (Int × (Int × (Int × (Int × Int))))) × ((List Int) × ((List Int) × ((List Int) × ((List ((Int × (Int × (Int × (Int × Int)))) × Int)) × ((Unit × Unit) × ((List (Int × (Int × (Int × (Int × Int))))) × ((List Int) × ((Int × (Unit × (Unit × (Unit × Unit)))) × ((List (Int × (Int × (Int × (Int × Int))))) × ((List Int) × ((List Int) × ((List Int) × (List Int)))))))))))))))))))))))
  | (t_6, _, _, _, row_1, _, _, t69, o0_5, o1_5, o2_5, o3_5, o4_5, o5_5, o6_5, o7_5, o9_5, o10_1, o11_1, o12_1, o13_1, o14_1, o17) =>
    cond (decide (t69 < t68))
      ((Of1108.tw k t69 row_1.1).bind fun t74 =>
      Option.bind
        (cond (decide (t63 < t_6.2.1))
          ((if t63 < 0 then none else some (shrI .i64 t74.1.1 t63)).bind fun t83 =>
          let t84 : Int := (ibits .and .i64 t83 1)
          (if room (List.length o17 + List.length ([t84] : List Int)) 8 then some () else none).bind fun _ =>
          some (t_6, (), (), (), row_1, (), (), o0_5, o1_5, o2_5, o3_5, o4_5, o5_5, o6_5, o7_5, o9_5, o10_1, o11_1, o12_1, o13_1, o14_1, (o17 ++ ([t84] : List Int))))
          (let t93 : Int := (w64 (t63 - t_6.2.1))
          (if t93 < 0 then none else some (shrI .i64 t74.1.2 t93)).bind fun t94 =>
          let t95 : Int := (ibits .and .i64 t94 1)
          (if room (List.length o17 + List.length ([t95] : List Int)) 8 then some () else none).bind fun _ =>
          some (t_6, (), (), (), row_1, (), (), o0_5, o1_5, o2_5, o3_5, o4_5, o5_5, o6_5, o7_5, o9_5, o10_1, o11_1, o12_1, o13_1, o14_1, (o17 ++ ([t95] : List Int)))) : Option ((Int × (Int × (List (List (Int × Int))))) × (Unit × (Unit × (Unit × (((Int × (Int × (List (List (Int × Int))))) × Unit) × (Unit × (Unit × ((Int × (Unit × (Unit × (Unit × Unit)))) × ((List (Int × (Int × (Int × (Int × Int))))) × ((List Int) × ((List Int) × ((List Int) × ((List ((Int × (Int × (Int × (Int × Int)))) × Int)) × ((Unit × Unit) × ((List (Int × (Int × (Int × (Int × Int))))) × ((List Int) × ((Int × (Unit × (Unit × (Unit × Unit)))) × ((List (Int × (Int × (Int × (Int × Int))))) × ((List Int) × ((List Int) × ((List Int) × (List Int))))))))))))))))))))))) fun ((t_7, _, _, _, row_2, _, _, o0_6, o1_6, o2_6, o3_6, o4_6, o5_6, o6_6, o7_6, o9_6, o10_2, o11_2, o12_2, o13_2, o14_2, o17_1) : ((Int × (Int × (List (List (Int × Int))))) × (Unit × (Unit × (Unit × (((Int × (Int × (List (List (Int × Int))))) × Unit) × (Unit × (Unit × ((Int × (Unit × (Unit × (Unit × Unit)))) × ((List (Int × (Int × (Int × (Int × Int))))) × ((List Int) × ((List Int) × ((List Int) × ((List ((Int × (Int × (Int × (Int × Int)))) × Int)) × ((Unit × Unit) × ((List (Int × (Int × (Int × (Int × Int))))) × ((List Int) × ((Int × (Unit × (Unit × (Unit × Unit)))) × ((List (Int × (Int × (Int × (Int × Int))))) × ((List Int) × ((List Int) × ((List Int) × (List Int))))))))))))))))))))))) =>
      some (Sum.inl (t_7, (), (), (), row_2, (), (), (w64 (t69 + 1)), o0_6, o1_6, o2_6, o3_6, o4_6, o5_6, o6_6, o7_6, o9_6, o10_2, o11_2, o12_2, o13_2, o14_2, o17_1)))
      (some (Sum.inr (t_6, (), (), (), row_1, (), (), o0_5, o1_5, o2_5, o3_5, o4_5, o5_5, o6_5, o7_5, o9_5, o10_1, o11_1, o12_1, o13_1, o14_1, o17)))
theorem Of54.l2.le (k j : Nat) (hk_ : k ≤ j) : ∀ a0_ a1_, ∀ s, Le (Of54.l2.tw k a0_ a1_ s) (Of54.l2 j a0_ a1_ s) := by
  intro a0_ a1_
  unfold Of54.l2 Of54.l2.tw
  repeat' (first | with_reducible exact Le.refl _ | with_reducible exact Of1108.le _ _ hk_ _ _ | with_reducible refine Le.self ?_ | with_reducible refine Le.cond ?_ ?_ | with_reducible refine Le.orNil ?_ ?_ | with_reducible refine Le.agree ?_ ?_ | with_reducible refine Le.joined ?_ ?_ | with_reducible refine Le.bind ?_ ?_ | with_reducible refine Le.loop hk_ ?_ _ | with_reducible refine Le.prod ?_ | intro _ | (dsimp only) | exact Le.refl _)

def Of54.l3.tw (k : Nat) (t62 : Int) : ((Int × (Int × (List (List (Int × Int))))) × (Unit × (Unit × (Unit × (((Int × (Int × (List (List (Int × Int))))) × Unit) × (Unit × (Int × ((Int × (Unit × (Unit × (Unit × Unit)))) × ((List (Int × (Int × (Int × (Int × Int))))) × ((List Int) × ((List Int) × ((List Int) × ((List ((Int × (Int × (Int × (Int × Int)))) × Int)) × ((Unit × Unit) × ((List (Int × (Int × (Int × (Int × Int))))) × ((List Int) × ((Int × (Unit × (Unit × (Unit × Unit)))) × ((List (Int × (Int × (Int × (Int × Int))))) × ((List Int) × ((List Int) × (List Int))))))))))))))))))))) → Option (((Int × (Int × (List (List (Int × Int))))) × (Unit × (Unit × (Unit × (((Int × (Int × (List (List (Int × Int))))) × Unit) × (Unit × (Int × ((Int × (Unit × (Unit × (Unit × Unit)))) × ((List (Int × (Int × (Int × (Int × Int))))) × ((List Int) × ((List Int) × ((List Int) × ((List ((Int × (Int × (Int × (Int × Int)))) × Int)) × ((Unit × Unit) × ((List (Int × (Int × (Int × (Int × Int))))) × ((List Int) × ((Int × (Unit × (Unit × (Unit × Unit)))) × ((List (Int × (Int × (Int × (Int × Int))))) × ((List Int) × ((List Int) × (List Int))))))))))))))))))))) ⊕ (Unit × (Unit × (Unit × ((Int × (Unit × (Unit × (Unit × Unit)))) × ((List (Int × (Int × (Int × (Int × Int))))) × ((List Int) × ((List Int) × ((List Int) × ((List ((Int × (Int × (Int × (Int × Int)))) × Int)) × ((Unit × Unit) × ((List (Int × (Int × (Int × (Int × Int))))) × ((Int × (Unit × (Unit × (Unit × Unit)))) × ((List (Int × (Int × (Int × (Int × Int))))) × ((List Int) × ((List Int) × (List Int)))))))))))))))))
  | (t_5, _, _, _, row, _, t63, o0_4, o1_4, o2_4, o3_4, o4_4, o5_4, o6_4, o7_4, o9_4, o10, o11, o12, o13, o14) =>
    cond (decide (t63 < t62))
      ((if (List.length o9_4 : Int) < 0 then none else some (shlI .i64 1 (List.length o9_4 : Int))).bind fun t68 =>
      Option.bind
        (loopN (Of54.l2.tw k t63 t68) k (t_5, (), (), (), row, (), (), 0, o0_4, o1_4, o2_4, o3_4, o4_4, o5_4, o6_4, o7_4, o9_4, o10, o11, o12, o13, o14, []) : Option ((Int × (Int × (List (List (Int × Int))))) × (Unit × (Unit × (Unit × (((Int × (Int × (List (List (Int × Int))))) × Unit) × (Unit × (Unit × ((Int × (Unit × (Unit × (Unit × Unit)))) × ((List (Int × (Int × (Int × (Int × Int))))) × ((List Int) × ((List Int) × ((List Int) × ((List ((Int × (Int × (Int × (Int × Int)))) × Int)) × ((Unit × Unit) × ((List (Int × (Int × (Int × (Int × Int))))) × ((List Int) × ((Int × (Unit × (Unit × (Unit × Unit)))) × ((List (Int × (Int × (Int × (Int × Int))))) × ((List Int) × ((List Int) × ((List Int) × (List Int))))))))))))))))))))))) fun ((t_8, _, _, _, row_3, _, _, o0_7, o1_7, o2_7, o3_7, o4_7, o5_7, _, o7_7, o9_7, o10_3, o11_3, o12_3, o13_3, o14_3, o17_2) : ((Int × (Int × (List (List (Int × Int))))) × (Unit × (Unit × (Unit × (((Int × (Int × (List (List (Int × Int))))) × Unit) × (Unit × (Unit × ((Int × (Unit × (Unit × (Unit × Unit)))) × ((List (Int × (Int × (Int × (Int × Int))))) × ((List Int) × ((List Int) × ((List Int) × ((List ((Int × (Int × (Int × (Int × Int)))) × Int)) × ((Unit × Unit) × ((List (Int × (Int × (Int × (Int × Int))))) × ((List Int) × ((Int × (Unit × (Unit × (Unit × Unit)))) × ((List (Int × (Int × (Int × (Int × Int))))) × ((List Int) × ((List Int) × ((List Int) × (List Int))))))))))))))))))))))) =>
      (tree109.tw k () o9_7 o17_2 ((), ()) o7_7 o5_7).bind fun t102 =>
      Option.bind
        (cond (decide (t63 < t_8.2.1))
          ((if room (List.length o12_3 + List.length ([t102.1] : List Int)) 8 then some () else none).bind fun _ =>
          some (t_8, (), (), (), row_3, (), o0_7, o1_7, o2_7, o3_7, o4_7, t102.2.2.2, (t102.2.1.1, t102.2.1.2), t102.2.2.1, o9_7, (o10_3.1, o10_3.2.1, o10_3.2.2.1, o10_3.2.2.2), o11_3, (o12_3 ++ ([t102.1] : List Int)), o13_3, o14_3))
          (Option.bind
            (((if room (List.length o13_3 + List.length ([t102.1] : List Int)) 8 then some () else none).bind fun _ =>
                (if room (List.length o14_3 + List.length ([0] : List Int)) 8 then some () else none).bind fun _ =>
                some (t_8, (), (), (), row_3, (), o0_7, o1_7, o2_7, o3_7, o4_7, t102.2.2.2, (t102.2.1.1, t102.2.1.2), t102.2.2.1, o9_7, (o10_3.1, o10_3.2.1, o10_3.2.2.1, o10_3.2.2.2.1, o10_3.2.2.2.2), o11_3, o12_3, (o13_3 ++ ([t102.1] : List Int)), (o14_3 ++ ([0] : List Int)))) : Option ((Int × (Int × (List (List (Int × Int))))) × (Unit × (Unit × (Unit × (((Int × (Int × (List (List (Int × Int))))) × Unit) × (Unit × ((Int × (Unit × (Unit × (Unit × Unit)))) × ((List (Int × (Int × (Int × (Int × Int))))) × ((List Int) × ((List Int) × ((List Int) × ((List ((Int × (Int × (Int × (Int × Int)))) × Int)) × ((Unit × Unit) × ((List (Int × (Int × (Int × (Int × Int))))) × ((List Int) × ((Int × (Unit × (Unit × (Unit × Unit)))) × ((List (Int × (Int × (Int × (Int × Int))))) × ((List Int) × ((List Int) × (List Int))))))))))))))))))))) fun ((t_9, _, _, _, row_4, _, o0_8, o1_8, o2_8, o3_8, o4_8, o5_8, o6_8, o7_8, o9_8, o10_4, o11_4, o12_4, o13_4, o14_4) : ((Int × (Int × (List (List (Int × Int))))) × (Unit × (Unit × (Unit × (((Int × (Int × (List (List (Int × Int))))) × Unit) × (Unit × ((Int × (Unit × (Unit × (Unit × Unit)))) × ((List (Int × (Int × (Int × (Int × Int))))) × ((List Int) × ((List Int) × ((List Int) × ((List ((Int × (Int × (Int × (Int × Int)))) × Int)) × ((Unit × Unit) × ((List (Int × (Int × (Int × (Int × Int))))) × ((List Int) × ((Int × (Unit × (Unit × (Unit × Unit)))) × ((List (Int × (Int × (Int × (Int × Int))))) × ((List Int) × ((List Int) × (List Int))))))))))))))))))))) =>
          some (t_9, (), (), (), row_4, (), o0_8, o1_8, o2_8, o3_8, o4_8, o5_8, o6_8, o7_8, o9_8, o10_4, o11_4, o12_4, o13_4, o14_4)) : Option ((Int × (Int × (List (List (Int × Int))))) × (Unit × (Unit × (Unit × (((Int × (Int × (List (List (Int × Int))))) × Unit) × (Unit × ((Int × (Unit × (Unit × (Unit × Unit)))) × ((List (Int × (Int × (Int × (Int × Int))))) × ((List Int) × ((List Int) × ((List Int) × ((List ((Int × (Int × (Int × (Int × Int)))) × Int)) × ((Unit × Unit) × ((List (Int × (Int × (Int × (Int × Int))))) × ((List Int) × ((Int × (Unit × (Unit × (Unit × Unit)))) × ((List (Int × (Int × (Int × (Int × Int))))) × ((List Int) × ((List Int) × (List Int))))))))))))))))))))) fun ((t_10, _, _, _, row_5, _, o0_9, o1_9, o2_9, o3_9, o4_9, o5_9, o6_9, o7_9, o9_9, o10_5, o11_5, o12_5, o13_5, o14_5) : ((Int × (Int × (List (List (Int × Int))))) × (Unit × (Unit × (Unit × (((Int × (Int × (List (List (Int × Int))))) × Unit) × (Unit × ((Int × (Unit × (Unit × (Unit × Unit)))) × ((List (Int × (Int × (Int × (Int × Int))))) × ((List Int) × ((List Int) × ((List Int) × ((List ((Int × (Int × (Int × (Int × Int)))) × Int)) × ((Unit × Unit) × ((List (Int × (Int × (Int × (Int × Int))))) × ((List Int) × ((Int × (Unit × (Unit × (Unit × Unit)))) × ((List (Int × (Int × (Int × (Int × Int))))) × ((List Int) × ((List Int) × (List Int))))))))))))))))))))) =>
      some (Sum.inl (t_10, (), (), (), row_5, (), (w64 (t63 + 1)), o0_9, o1_9, o2_9, o3_9, o4_9, o5_9, o6_9, o7_9, o9_9, o10_5, o11_5, o12_5, o13_5, o14_5)))
      (some (Sum.inr ((), (), (), o0_4, o1_4, o2_4, o3_4, o4_4, o5_4, o6_4, o7_4, o10, o11, o12, o13, o14)))
theorem Of54.l3.le (k j : Nat) (hk_ : k ≤ j) : ∀ a0_, ∀ s, Le (Of54.l3.tw k a0_ s) (Of54.l3 j a0_ s) := by
  intro a0_
  unfold Of54.l3 Of54.l3.tw
  simp only [agree_self]
  repeat' (first | with_reducible exact Le.refl _ | with_reducible exact tree109.le _ _ hk_ _ _ _ _ _ _ | with_reducible exact Of54.l2.le _ _ hk_ _ _ | with_reducible refine Le.self ?_ | with_reducible refine Le.cond ?_ ?_ | with_reducible refine Le.orNil ?_ ?_ | with_reducible refine Le.agree ?_ ?_ | with_reducible refine Le.joined ?_ ?_ | with_reducible refine Le.bind ?_ ?_ | with_reducible refine Le.loop hk_ ?_ _ | with_reducible refine Le.prod ?_ | intro _ | (dsimp only) | exact Le.refl _)

def Of54.tw (k : Nat) (t : (Int × (Int × (List (List (Int × Int)))))) : Option (((Int × ((List (Int × (Int × (Int × (Int × Int))))) × ((List Int) × ((List Int) × (List Int))))) × (Int × Unit)) × Unit) :=
  (Check105.tw k t).bind fun t18 =>
  cond (t18.1 != 0)
    (some (((0, [], [], [], []), t18.1, ()), ()))
    ((width106.tw k (List.length t.2.2 : Int)).bind fun t29 =>
    Option.bind
      (loopN (Of54.l0.tw k t) k (t, (), (), (), 0, (0, (), (), (), ()), [], [], [], [], ([] : (List ((Int × (Int × (Int × (Int × Int)))) × Int))), ((), ()), [], []) : Option ((Int × (Int × (List (List (Int × Int))))) × (Unit × (Unit × (Unit × ((Int × (Unit × (Unit × (Unit × Unit)))) × ((List (Int × (Int × (Int × (Int × Int))))) × ((List Int) × ((List Int) × ((List Int) × ((List ((Int × (Int × (Int × (Int × Int)))) × Int)) × ((Unit × Unit) × ((List (Int × (Int × (Int × (Int × Int))))) × (List Int)))))))))))))) fun ((t_2, _, _, _, o0_1, o1_1, o2_1, o3_1, o4_1, o5_1, o6_1, o7_1, o9_1) : ((Int × (Int × (List (List (Int × Int))))) × (Unit × (Unit × (Unit × ((Int × (Unit × (Unit × (Unit × Unit)))) × ((List (Int × (Int × (Int × (Int × Int))))) × ((List Int) × ((List Int) × ((List Int) × ((List ((Int × (Int × (Int × (Int × Int)))) × Int)) × ((Unit × Unit) × ((List (Int × (Int × (Int × (Int × Int))))) × (List Int)))))))))))))) =>
    Option.bind
      (loopN (Of54.l1.tw k t29) k (t_2, (), (), (), 0, o0_1, o1_1, o2_1, o3_1, o4_1, o5_1, o6_1, o7_1, o9_1) : Option ((Int × (Int × (List (List (Int × Int))))) × (Unit × (Unit × (Unit × ((Int × (Unit × (Unit × (Unit × Unit)))) × ((List (Int × (Int × (Int × (Int × Int))))) × ((List Int) × ((List Int) × ((List Int) × ((List ((Int × (Int × (Int × (Int × Int)))) × Int)) × ((Unit × Unit) × ((List (Int × (Int × (Int × (Int × Int))))) × (List Int)))))))))))))) fun ((t_4, _, _, _, o0_3, o1_3, o2_3, o3_3, o4_3, o5_3, o6_3, o7_3, o9_3) : ((Int × (Int × (List (List (Int × Int))))) × (Unit × (Unit × (Unit × ((Int × (Unit × (Unit × (Unit × Unit)))) × ((List (Int × (Int × (Int × (Int × Int))))) × ((List Int) × ((List Int) × ((List Int) × ((List ((Int × (Int × (Int × (Int × Int)))) × Int)) × ((Unit × Unit) × ((List (Int × (Int × (Int × (Int × Int))))) × (List Int)))))))))))))) =>
    Option.bind
      (loopN (Of54.l3.tw k (w64 (t_4.2.1 + t29.1))) k (t_4, (), (), (), (t_4, ()), (), 0, o0_3, o1_3, o2_3, o3_3, o4_3, o5_3, o6_3, o7_3, o9_3, (t_4.1, (), (), (), ()), [], [], [], []) : Option (Unit × (Unit × (Unit × ((Int × (Unit × (Unit × (Unit × Unit)))) × ((List (Int × (Int × (Int × (Int × Int))))) × ((List Int) × ((List Int) × ((List Int) × ((List ((Int × (Int × (Int × (Int × Int)))) × Int)) × ((Unit × Unit) × ((List (Int × (Int × (Int × (Int × Int))))) × ((Int × (Unit × (Unit × (Unit × Unit)))) × ((List (Int × (Int × (Int × (Int × Int))))) × ((List Int) × ((List Int) × (List Int))))))))))))))))) fun ((_, _, _, _, _, _, _, _, _, _, o7_10, o10_6, _, o12_6, o13_6, o14_6) : (Unit × (Unit × (Unit × ((Int × (Unit × (Unit × (Unit × Unit)))) × ((List (Int × (Int × (Int × (Int × Int))))) × ((List Int) × ((List Int) × ((List Int) × ((List ((Int × (Int × (Int × (Int × Int)))) × Int)) × ((Unit × Unit) × ((List (Int × (Int × (Int × (Int × Int))))) × ((Int × (Unit × (Unit × (Unit × Unit)))) × ((List (Int × (Int × (Int × (Int × Int))))) × ((List Int) × ((List Int) × (List Int))))))))))))))))) =>
    (swept110.tw k (o10_6.1, o7_10, o12_6, o13_6, o14_6)).bind fun t131 =>
    cond (decide ((List.length t131.1.2.1 : Int) > 400))
      (some (((0, [], [], [], []), 6, ()), ()))
      (some ((t131.1, 0, ()), ())))
theorem Of54.le (k j : Nat) (hk_ : k ≤ j) : ∀ a0_, Le (Of54.tw k a0_) (Of54 j a0_) := by
  intro a0_
  unfold Of54 Of54.tw
  repeat' (first | with_reducible exact Le.refl _ | with_reducible exact Check105.le _ _ hk_ _ | with_reducible exact width106.le _ _ hk_ _ | with_reducible exact swept110.le _ _ hk_ _ | with_reducible exact Of54.l0.le _ _ hk_ _ | with_reducible exact Of54.l1.le _ _ hk_ _ | with_reducible exact Of54.l3.le _ _ hk_ _ | with_reducible refine Le.self ?_ | with_reducible refine Le.cond ?_ ?_ | with_reducible refine Le.orNil ?_ ?_ | with_reducible refine Le.agree ?_ ?_ | with_reducible refine Le.joined ?_ ?_ | with_reducible refine Le.bind ?_ ?_ | with_reducible refine Le.loop hk_ ?_ _ | with_reducible refine Le.prod ?_ | intro _ | (dsimp only) | exact Le.refl _)

def Run71.l0.tw (k : Nat) (in_ : (List Int)) : ((Int × ((List (Int × (Int × (Int × (Int × Int))))) × ((List Int) × ((List Int) × (List Int))))) × (Unit × (Int × (Int × (List Int))))) → Option (((Int × ((List (Int × (Int × (Int × (Int × Int))))) × ((List Int) × ((List Int) × (List Int))))) × (Unit × (Int × (Int × (List Int))))) ⊕ ((Unit × (List Int)) ⊕ (((List Int) × (Int × Unit)) × Unit)))
  | (c_1, _, s, t21, o1) =>
    cond (decide (t21 < (List.length in_ : Int)))
      ((rd in_ t21).bind fun t23 =>
      Option.bind (cond (decide (t23 < 0))
        (some true)
        ((if c_1.1 < 0 then none else some (shlI .i64 1 c_1.1)).bind fun t31 =>
        some (decide (t23 ≥ t31)))) fun t33 =>
      cond t33
        (some (Sum.inr (Sum.inr (([], 1, ()), ()))))
        ((values69.tw k c_1 s t23).bind fun t37 =>
        (bits70.tw k t37.1 c_1.2.2.1).bind fun t42 =>
        (if room (List.length o1 + List.length ([t42.1] : List Int)) 8 then some () else none).bind fun _ =>
        (bits70.tw k t37.1 c_1.2.2.2.1).bind fun t48 =>
        some (Sum.inl (c_1, (), t48.1, (w64 (t21 + 1)), (o1 ++ ([t42.1] : List Int))))))
      (some (Sum.inr (Sum.inl ((), o1))))
theorem Run71.l0.le (k j : Nat) (hk_ : k ≤ j) : ∀ a0_, ∀ s, Le (Run71.l0.tw k a0_ s) (Run71.l0 j a0_ s) := by
  intro a0_
  unfold Run71.l0 Run71.l0.tw
  repeat' (first | with_reducible exact Le.refl _ | with_reducible exact values69.le _ _ hk_ _ _ _ | with_reducible exact bits70.le _ _ hk_ _ _ | with_reducible refine Le.self ?_ | with_reducible refine Le.cond ?_ ?_ | with_reducible refine Le.orNil ?_ ?_ | with_reducible refine Le.agree ?_ ?_ | with_reducible refine Le.joined ?_ ?_ | with_reducible refine Le.bind ?_ ?_ | with_reducible refine Le.loop hk_ ?_ _ | with_reducible refine Le.prod ?_ | intro _ | (dsimp only) | exact Le.refl _)

def Run71.tw (k : Nat) (c : (Int × ((List (Int × (Int × (Int × (Int × Int))))) × ((List Int) × ((List Int) × (List Int)))))) (in_ : (List Int)) : Option (((List Int) × (Int × Unit)) × Unit) :=
  (Check18.tw k c).bind fun t13 =>
  cond (t13.1 != 0)
    (some (([], t13.1, ()), ()))
    ((Start80.tw k c).bind fun t18 =>
    Option.bind
      (loopN (Run71.l0.tw k in_) k (c, (), t18.1, 0, []) : Option ((Unit × (List Int)) ⊕ (((List Int) × (Int × Unit)) × Unit))) (joined fun ((_, o1_1) : (Unit × (List Int))) =>
      some ((o1_1, 0, ()), ())))
theorem Run71.le (k j : Nat) (hk_ : k ≤ j) : ∀ a0_ a1_, Le (Run71.tw k a0_ a1_) (Run71 j a0_ a1_) := by
  intro a0_ a1_
  unfold Run71 Run71.tw
  repeat' (first | with_reducible exact Le.refl _ | with_reducible exact Check18.le _ _ hk_ _ | with_reducible exact Start80.le _ _ hk_ _ | with_reducible exact Run71.l0.le _ _ hk_ _ | with_reducible refine Le.self ?_ | with_reducible refine Le.cond ?_ ?_ | with_reducible refine Le.orNil ?_ ?_ | with_reducible refine Le.agree ?_ ?_ | with_reducible refine Le.joined ?_ ?_ | with_reducible refine Le.bind ?_ ?_ | with_reducible refine Le.loop hk_ ?_ _ | with_reducible refine Le.prod ?_ | intro _ | (dsimp only) | exact Le.refl _)

def Equal25.l0.tw (k : Nat) (s1 : (List Int)) (s2 : (List Int)) : Int → Option (Int ⊕ (Unit ⊕ (Bool × Unit)))
  | t13 =>
    cond (decide (t13 < (List.length s1 : Int)))
      ((rd s1 t13).bind fun t18 =>
      (rd s2 t13).bind fun t22 =>
      cond (t18 != t22)
        (some (Sum.inr (Sum.inr (false, ()))))
        (some (Sum.inl (w64 (t13 + 1)))))
      (some (Sum.inr (Sum.inl ())))
theorem Equal25.l0.le (k j : Nat) (hk_ : k ≤ j) : ∀ a0_ a1_, ∀ s, Le (Equal25.l0.tw k a0_ a1_ s) (Equal25.l0 j a0_ a1_ s) := by
  intro a0_ a1_
  unfold Equal25.l0 Equal25.l0.tw
  repeat' (first | with_reducible exact Le.refl _ | with_reducible refine Le.self ?_ | with_reducible refine Le.cond ?_ ?_ | with_reducible refine Le.orNil ?_ ?_ | with_reducible refine Le.agree ?_ ?_ | with_reducible refine Le.joined ?_ ?_ | with_reducible refine Le.bind ?_ ?_ | with_reducible refine Le.loop hk_ ?_ _ | with_reducible refine Le.prod ?_ | intro _ | (dsimp only) | exact Le.refl _)

def Equal25.tw (k : Nat) (s1 : (List Int)) (s2 : (List Int)) : Option (Bool × Unit) :=
  cond ((List.length s1 : Int) != (List.length s2 : Int))
    (some (false, ()))
    (Option.bind
      (loopN (Equal25.l0.tw k s1 s2) k 0 : Option (Unit ⊕ (Bool × Unit))) (joined fun (_ : Unit) =>
      some (true, ())))
theorem Equal25.le (k j : Nat) (hk_ : k ≤ j) : ∀ a0_ a1_, Le (Equal25.tw k a0_ a1_) (Equal25 j a0_ a1_) := by
  intro a0_ a1_
  unfold Equal25 Equal25.tw
  repeat' (first | with_reducible exact Le.refl _ | with_reducible exact Equal25.l0.le _ _ hk_ _ _ | with_reducible refine Le.self ?_ | with_reducible refine Le.cond ?_ ?_ | with_reducible refine Le.orNil ?_ ?_ | with_reducible refine Le.agree ?_ ?_ | with_reducible refine Le.joined ?_ ?_ | with_reducible refine Le.bind ?_ ?_ | with_reducible refine Le.loop hk_ ?_ _ | with_reducible refine Le.prod ?_ | intro _ | (dsimp only) | exact Le.refl _)

def built55.tw (k : Nat) : Option (Bool × Unit) :=
  (Of54.tw k (1, 1, [[(0, 0), (1, 0)]])).bind fun t11 =>
  (Run71.tw k t11.1.1 ([0, 1] : List Int)).bind fun t17 =>
  Option.bind (cond (cond (t11.1.2.1 == 0) (t17.1.2.1 == 0) false)
    ((Equal25.tw k t17.1.1 ([0, 1] : List Int)).bind fun t29 =>
    some t29.1)
    (some false)) fun t30 =>
  some (t30, ())
theorem built55.le (k j : Nat) (hk_ : k ≤ j) : Le (built55.tw k) (built55 j) := by
  unfold built55 built55.tw
  repeat' (first | with_reducible exact Le.refl _ | with_reducible exact Of54.le _ _ hk_ _ | with_reducible exact Run71.le _ _ hk_ _ _ | with_reducible exact Equal25.le _ _ hk_ _ _ | with_reducible refine Le.self ?_ | with_reducible refine Le.cond ?_ ?_ | with_reducible refine Le.orNil ?_ ?_ | with_reducible refine Le.agree ?_ ?_ | with_reducible refine Le.joined ?_ ?_ | with_reducible refine Le.bind ?_ ?_ | with_reducible refine Le.loop hk_ ?_ _ | with_reducible refine Le.prod ?_ | intro _ | (dsimp only) | exact Le.refl _)

def First37.l0.tw (k : Nat) (c : (Int × ((List (Int × (Int × (Int × (Int × Int))))) × ((List Int) × ((List Int) × (List Int)))))) : (Int × Int) → Option ((Int × Int) ⊕ Int)
  | (out, t9) =>
    cond (decide (t9 < (List.length c.2.2.2.2 : Int)))
      ((rd c.2.2.2.2 t9).bind fun t12 =>
      Option.bind
        (cond (decide (t9 < 10))
          ((if t9 < 0 then none else some (shlI .i64 (ibits .and .i64 t12 1) t9)).bind fun t20 =>
          some (w64 (out + t20)))
          (some out) : Option Int) fun (out_1 : Int) =>
      some (Sum.inl (out_1, (w64 (t9 + 1)))))
      (some (Sum.inr out))
theorem First37.l0.le (k j : Nat) (hk_ : k ≤ j) : ∀ a0_, ∀ s, Le (First37.l0.tw k a0_ s) (First37.l0 j a0_ s) := by
  intro a0_
  unfold First37.l0 First37.l0.tw
  repeat' (first | with_reducible exact Le.refl _ | with_reducible refine Le.self ?_ | with_reducible refine Le.cond ?_ ?_ | with_reducible refine Le.orNil ?_ ?_ | with_reducible refine Le.agree ?_ ?_ | with_reducible refine Le.joined ?_ ?_ | with_reducible refine Le.bind ?_ ?_ | with_reducible refine Le.loop hk_ ?_ _ | with_reducible refine Le.prod ?_ | intro _ | (dsimp only) | exact Le.refl _)

def First37.tw (k : Nat) (c : (Int × ((List (Int × (Int × (Int × (Int × Int))))) × ((List Int) × ((List Int) × (List Int)))))) : Option (Int × Unit) :=
  Option.bind
    (loopN (First37.l0.tw k c) k (0, 0) : Option Int) fun (out_2 : Int) =>
  some (out_2, ())
theorem First37.le (k j : Nat) (hk_ : k ≤ j) : ∀ a0_, Le (First37.tw k a0_) (First37 j a0_) := by
  intro a0_
  unfold First37 First37.tw
  repeat' (first | with_reducible exact Le.refl _ | with_reducible exact First37.l0.le _ _ hk_ _ | with_reducible refine Le.self ?_ | with_reducible refine Le.cond ?_ ?_ | with_reducible refine Le.orNil ?_ ?_ | with_reducible refine Le.agree ?_ ?_ | with_reducible refine Le.joined ?_ ?_ | with_reducible refine Le.bind ?_ ?_ | with_reducible refine Le.loop hk_ ?_ _ | with_reducible refine Le.prod ?_ | intro _ | (dsimp only) | exact Le.refl _)

theorem built_ev : Ev (fun k => built55 k) (true, ()) := Le.ev (f := fun k => built55.tw k) built55.le (n := 60) (by kernel_rfl)
end Go.Proofs.Ytjbdhaenakcclaa.St

/- Tables of circuits: the law. No program in sight. -/
set_option linter.unusedVariables false
noncomputable section
namespace Go.Proofs.Ytjbdhaenakcclaa.St
open Go Go.Proofs.Ytjbdhaenakcclaa.Gp

theorem law (c : Cir) (hw : ∀ x ∈ c.2.2.2.2, -9223372036854775808 ≤ x ∧ x ≤ 9223372036854775807) : ∃ k, SynthTables11 k c = some (true, ()) := by
  refine Ev.ex ?_
  unfold SynthTables11
  by_cases hf : fault c ≠ 0
  · have ht : Ev (fun k => Table56 k c) (((0, 0, []), fault c, ()), ()) := by
      unfold Table56
      exact .bind (check_ev c) (.yes (bne_iff_ne.2 hf) (.now _))
    have h0 : (fault c == 0) = false := beq_false_of_ne hf
    refine .bind ht (.bind (cfault_ev c hw) (.bind (a := (c, (0, 0, []), fault c)) (.no (by rw [h0]; rfl) (.now _)) (.bind built_ev (.yes (bne_iff_ne.2 hf) (.bind built_ev (.now' ?_))))))
    simp
  have hf0 : fault c = 0 := by omega
  have hR := right_of c hf0
  by_cases h4 : c.1 > 4
  · have ht : Ev (fun k => Table56 k c) (((0, 0, []), 2, ()), ()) := by
      unfold Table56
      exact .bind (check_ev c) (.no (by rw [hf0]; rfl) (.yes (decide_eq_true h4) (.now _)))
    refine .bind ht (.bind (cfault_ev c hw) (.bind (a := (c, (0, 0, []), 2)) (.yes (by rw [hf0, decide_eq_true h4]; rfl) (.now _)) (.bind built_ev (.yes rfl (.bind built_ev (.now' ?_))))))
    simp
  · have hlen : c.2.2.2.2.length ≤ 10 := by
      have := hR.next.1
      have hx : c.2.2.2.2.length = c.2.2.2.1.length := by
        unfold fault at hf0
        split at hf0
        · omega
        · split at hf0
          · omega
          · omega
      omega
    have key : ∀ (t : Tbl), ∃ (a' : List Int) (rows' : List (List (Int × Int))), rows'.length ≤ 100 ∧ (∀ r ∈ rows', r.length ≤ 1024) ∧
      Lp (fun j => SynthTables11.l1 j) (c, t, (), (), 0, [((first c : Nat) : Int)], (c.1, (c.2.2.1.length : Int), ()), []) (t, (), (), a', (c.1, (c.2.2.1.length : Int), ()), rows') ∧
      Lp (fun j => Table56.l1 j) (c, (), (), (), (), (0, 0, ()), [], (c.1, (c.2.2.1.length : Int), ()), [], mput (.int .i64) (.int .i64) ([] : IMap) ((first c : Nat) : Int) (0 : Int), [((first c : Nat) : Int)])
        (if a'.length > 64 then .inr (((0, 0, []), 6, ()), ()) else .inl ((), (), (0, 0, ()), [], (c.1, (c.2.2.1.length : Int), ()), rows')) := by
      intro t
      exact found hR hf0 (by omega) t (0, 0, ()) 65 0 [((first c : Nat) : Int)] _ [] (by omega) (Nat.zero_le _) (by simp) rfl (fun r h => by cases h) (knows_nil.put (x := ((first c : Nat) : Int)) (by simp))
    have ht : ∀ (a' : List Int) (rows' : List (List (Int × Int))), Lp (fun j => Table56.l1 j) (c, (), (), (), (), (0, 0, ()), [], (c.1, (c.2.2.1.length : Int), ()), [], mput (.int .i64) (.int .i64) ([] : IMap) ((first c : Nat) : Int) (0 : Int), [((first c : Nat) : Int)])
        (if a'.length > 64 then .inr (((0, 0, []), 6, ()), ()) else .inl ((), (), (0, 0, ()), [], (c.1, (c.2.2.1.length : Int), ()), rows')) →
        Ev (fun k => Table56 k c) (if a'.length > 64 then (((0, 0, []), 6, ()), ()) else (((c.1, (c.2.2.1.length : Int), rows'), 0, ()), ())) := by
      intro a' rows' hp
      unfold Table56
      refine .bind (check_ev c) (.no (by rw [hf0]; rfl) (.no (decide_eq_false h4) (.bind (start_ev c) (.bind (start_ev c) ?_))))
      by_cases hb : a'.length > 64
      · rw [if_pos hb] at hp ⊢
        exact .joinR hp.ev
      · rw [if_neg hb] at hp ⊢
        exact .joinL (S := Unit) hp.ev (.now _)
    obtain ⟨a0, rows0, _, _, _, q4⟩ := key (0, 0, [])
    by_cases hb : a0.length > 64
    · have ht1 := ht a0 rows0 q4
      rw [if_pos hb] at ht1 q4
      obtain ⟨a', rows', p1, p2, p3, p4⟩ := key (0, 0, [])
      have hb' : a'.length > 64 := by
        by_cases hb' : a'.length > 64
        · exact hb'
        · rw [if_neg hb'] at p4
          exact absurd (Lp.uniq q4 p4) (by intro h; cases h)
      refine .bind ht1 (.bind (cfault_ev c hw) (.bind (a := (c, (0, 0, []), 0)) (.no (by rw [hf0, decide_eq_false h4]; rfl) (.now' (by rw [hf0]))) (.bind built_ev (.no rfl (.bind (first_ev c (by omega)) (.bind p3.ev (.yes (decide_eq_true (by omega)) (.now' ?_))))))))
      simp
    · have ht1 := ht a0 rows0 q4
      rw [if_neg hb] at ht1 q4
      obtain ⟨a', rows', p1, p2, p3, p4⟩ := key (c.1, (c.2.2.1.length : Int), rows0)
      have hb' : ¬ a'.length > 64 ∧ rows' = rows0 := by
        by_cases hb' : a'.length > 64
        · rw [if_pos hb'] at p4
          exact absurd (Lp.uniq q4 p4) (by intro h; cases h)
        · rw [if_neg hb'] at p4
          have := Lp.uniq q4 p4
          simp only [Sum.inl.injEq, Prod.mk.injEq, true_and] at this
          exact ⟨hb', this.symm⟩
      obtain ⟨hb', rfl⟩ := hb'
      refine .bind ht1 (.bind (cfault_ev c hw) (.bind (a := (c, (c.1, (c.2.2.1.length : Int), rows'), 0)) (.no (by rw [hf0, decide_eq_false h4]; rfl) (.now' (by rw [hf0]))) (.bind built_ev (.no rfl (.bind (first_ev c (by omega)) (.bind p3.ev (.no (decide_eq_false (by omega)) (.bind (a := true) ?_ (.now _)))))))))
      exact .yes rfl (.bind (same_ev (c.1, (c.2.2.1.length : Int), rows') (show rows'.length < _ by omega) (fun r h => by have := p2 r h; omega)) (.now _))
theorem synthTables (c : Cir) {p q r s : Prop} (hc : p ∧ q ∧ r ∧ s ∧ wfL (α := Int) 8 (fun (y : Int) => (Lit.int .i64 y).wf = true) c.2.2.2.2) : ∃ k, SynthTables11 k c = some (true, ()) :=
  law c (fun x hx => lit_wf (hc.2.2.2.2.2 x hx))
end Go.Proofs.Ytjbdhaenakcclaa.St

/- The row of SynthTables: synth.Table returns the reachable states of a circuit, as the reference finds them one after the other. The law returns true for every input; the input reads as it did. -/
namespace Go.Proofs.Ytjbdhaenakcclaa.synthTables
open Go.ChangeShapes Go.WideShapes Go.ChangeAt Go.RowKit Go.Proofs.Ytjbdhaenakcclaa.Gp Go.Proofs.Ytjbdhaenakcclaa.St
set_option linter.unusedVariables false
theorem own : ownKnob Try.prog.godebug = none := by kernel_rfl
theorem laidOut : laidOutB Try.prog = true := by kernel_rfl
abbrev wf3 : Int → Prop := (fun (y : Int) => (Lit.int .i64 y).wf = true)
abbrev siz3 : Int → Nat := (fun _ => 1)
theorem gd3 : Gd Try.prog 3 (.int .i64) wf3 siz3 := gd_int Try.underlying3 (by kernel_rfl)
abbrev wf51 : (Int × (Int × (Int × (Int × Int)))) → Prop := (fun (y : (Int × (Int × (Int × (Int × Int))))) => wf3 y.1 ∧ (fun (y : (Int × (Int × (Int × Int)))) => wf3 y.1 ∧ (fun (y : (Int × (Int × Int))) => wf3 y.1 ∧ (fun (y : (Int × Int)) => wf3 y.1 ∧ wf3 y.2) y.2) y.2) y.2)
abbrev siz51 : (Int × (Int × (Int × (Int × Int)))) → Nat := (fun (y : (Int × (Int × (Int × (Int × Int))))) => siz3 y.1 + (fun (y : (Int × (Int × (Int × Int)))) => siz3 y.1 + (fun (y : (Int × (Int × Int))) => siz3 y.1 + (fun (y : (Int × Int)) => siz3 y.1 + siz3 y.2) y.2) y.2) y.2)
theorem gd51 : Gd Try.prog 51 (.st (.pair (.int .i64) (.pair (.int .i64) (.pair (.int .i64) (.pair (.int .i64) (.int .i64)))))) wf51 siz51 := gd_st Try.underlying51 (by kernel_rfl) (gdf_cons (k := .int .i64) (k' := .pair (.int .i64) (.pair (.int .i64) (.pair (.int .i64) (.int .i64)))) (wf := wf3) (siz := siz3) (wf' := (fun (y : (Int × (Int × (Int × Int)))) => wf3 y.1 ∧ (fun (y : (Int × (Int × Int))) => wf3 y.1 ∧ (fun (y : (Int × Int)) => wf3 y.1 ∧ wf3 y.2) y.2) y.2)) (siz' := (fun (y : (Int × (Int × (Int × Int)))) => siz3 y.1 + (fun (y : (Int × (Int × Int))) => siz3 y.1 + (fun (y : (Int × Int)) => siz3 y.1 + siz3 y.2) y.2) y.2)) rfl gd3 (gdf_cons (k := .int .i64) (k' := .pair (.int .i64) (.pair (.int .i64) (.int .i64))) (wf := wf3) (siz := siz3) (wf' := (fun (y : (Int × (Int × Int))) => wf3 y.1 ∧ (fun (y : (Int × Int)) => wf3 y.1 ∧ wf3 y.2) y.2)) (siz' := (fun (y : (Int × (Int × Int))) => siz3 y.1 + (fun (y : (Int × Int)) => siz3 y.1 + siz3 y.2) y.2)) rfl gd3 (gdf_cons (k := .int .i64) (k' := .pair (.int .i64) (.int .i64)) (wf := wf3) (siz := siz3) (wf' := (fun (y : (Int × Int)) => wf3 y.1 ∧ wf3 y.2)) (siz' := (fun (y : (Int × Int)) => siz3 y.1 + siz3 y.2)) rfl gd3 (gdf_cons (k := .int .i64) (k' := .int .i64) (wf := wf3) (siz := siz3) (wf' := wf3) (siz' := siz3) rfl gd3 (gdf_one rfl gd3)))))
abbrev wf22 : (List (Int × (Int × (Int × (Int × Int))))) → Prop := (wfL (α := (Int × (Int × (Int × (Int × Int))))) 40 wf51)
abbrev siz22 : (List (Int × (Int × (Int × (Int × Int))))) → Nat := (sizL (α := (Int × (Int × (Int × (Int × Int))))) siz51)
theorem gd22 : Gd Try.prog 22 (.sl (.st (.pair (.int .i64) (.pair (.int .i64) (.pair (.int .i64) (.pair (.int .i64) (.int .i64))))))) wf22 siz22 := gd_sl (B := 40) Try.underlying22 (by kernel_rfl) (by kernel_rfl) (by decide) gd51
abbrev wf23 : (List Int) → Prop := (wfL (α := Int) 8 wf3)
abbrev siz23 : (List Int) → Nat := (sizL (α := Int) siz3)
theorem gd23 : Gd Try.prog 23 (.sl (.int .i64)) wf23 siz23 := gd_sl (B := 8) Try.underlying23 (by kernel_rfl) (by kernel_rfl) (by decide) gd3
abbrev wf25 : (Int × ((List (Int × (Int × (Int × (Int × Int))))) × ((List Int) × ((List Int) × (List Int))))) → Prop := (fun (y : (Int × ((List (Int × (Int × (Int × (Int × Int))))) × ((List Int) × ((List Int) × (List Int)))))) => wf3 y.1 ∧ (fun (y : ((List (Int × (Int × (Int × (Int × Int))))) × ((List Int) × ((List Int) × (List Int))))) => wf22 y.1 ∧ (fun (y : ((List Int) × ((List Int) × (List Int)))) => wf23 y.1 ∧ (fun (y : ((List Int) × (List Int))) => wf23 y.1 ∧ wf23 y.2) y.2) y.2) y.2)
abbrev siz25 : (Int × ((List (Int × (Int × (Int × (Int × Int))))) × ((List Int) × ((List Int) × (List Int))))) → Nat := (fun (y : (Int × ((List (Int × (Int × (Int × (Int × Int))))) × ((List Int) × ((List Int) × (List Int)))))) => siz3 y.1 + (fun (y : ((List (Int × (Int × (Int × (Int × Int))))) × ((List Int) × ((List Int) × (List Int))))) => siz22 y.1 + (fun (y : ((List Int) × ((List Int) × (List Int)))) => siz23 y.1 + (fun (y : ((List Int) × (List Int))) => siz23 y.1 + siz23 y.2) y.2) y.2) y.2)
theorem gd25 : Gd Try.prog 25 (.st (.pair (.int .i64) (.pair (.sl (.st (.pair (.int .i64) (.pair (.int .i64) (.pair (.int .i64) (.pair (.int .i64) (.int .i64))))))) (.pair (.sl (.int .i64)) (.pair (.sl (.int .i64)) (.sl (.int .i64))))))) wf25 siz25 := gd_st Try.underlying25 (by kernel_rfl) (gdf_cons (k := .int .i64) (k' := .pair (.sl (.st (.pair (.int .i64) (.pair (.int .i64) (.pair (.int .i64) (.pair (.int .i64) (.int .i64))))))) (.pair (.sl (.int .i64)) (.pair (.sl (.int .i64)) (.sl (.int .i64))))) (wf := wf3) (siz := siz3) (wf' := (fun (y : ((List (Int × (Int × (Int × (Int × Int))))) × ((List Int) × ((List Int) × (List Int))))) => wf22 y.1 ∧ (fun (y : ((List Int) × ((List Int) × (List Int)))) => wf23 y.1 ∧ (fun (y : ((List Int) × (List Int))) => wf23 y.1 ∧ wf23 y.2) y.2) y.2)) (siz' := (fun (y : ((List (Int × (Int × (Int × (Int × Int))))) × ((List Int) × ((List Int) × (List Int))))) => siz22 y.1 + (fun (y : ((List Int) × ((List Int) × (List Int)))) => siz23 y.1 + (fun (y : ((List Int) × (List Int))) => siz23 y.1 + siz23 y.2) y.2) y.2)) rfl gd3 (gdf_cons (k := .sl (.st (.pair (.int .i64) (.pair (.int .i64) (.pair (.int .i64) (.pair (.int .i64) (.int .i64))))))) (k' := .pair (.sl (.int .i64)) (.pair (.sl (.int .i64)) (.sl (.int .i64)))) (wf := wf22) (siz := siz22) (wf' := (fun (y : ((List Int) × ((List Int) × (List Int)))) => wf23 y.1 ∧ (fun (y : ((List Int) × (List Int))) => wf23 y.1 ∧ wf23 y.2) y.2)) (siz' := (fun (y : ((List Int) × ((List Int) × (List Int)))) => siz23 y.1 + (fun (y : ((List Int) × (List Int))) => siz23 y.1 + siz23 y.2) y.2)) rfl gd22 (gdf_cons (k := .sl (.int .i64)) (k' := .pair (.sl (.int .i64)) (.sl (.int .i64))) (wf := wf23) (siz := siz23) (wf' := (fun (y : ((List Int) × (List Int))) => wf23 y.1 ∧ wf23 y.2)) (siz' := (fun (y : ((List Int) × (List Int))) => siz23 y.1 + siz23 y.2)) rfl gd23 (gdf_cons (k := .sl (.int .i64)) (k' := .sl (.int .i64)) (wf := wf23) (siz := siz23) (wf' := wf23) (siz' := siz23) rfl gd23 (gdf_one rfl gd23)))))
set_option maxRecDepth 100000 in
set_option maxHeartbeats 1000000 in
theorem lifted (os : Os) (started : os.Started) (H : Type) (enc : TypeId × Value → H) :
    ReturnsInHanded {} Try.checked os 11 .any (Rows.synthTablesSpec.pre6 enc Try.prog Try.f11 Rows.synthTablesRow.domain false) (Rows.synthTablesSpec.post enc Try.prog Try.f11 false true false false) := by
  refine returnsInHanded_of_change_sized (C := Try.checked) own started (by kernel_rfl) Try.func11
    (ChangeSpec.witness6 (enc := enc) (C := Try.checked) false ⟨#[], #[.agg #[.int .i64 0, .slice none 0 0, .slice none 0 0, .slice none 0 0, .slice none 0 0]], []⟩ 8 (by kernel_rfl) (by kernel_rfl) (by kernel_rfl) (by kernel_rfl)) ?_
  intro W base args ds gs before hval0 hW hcnd hsz0 _
  have hsz : (DataW.weightsEach Try.prog (Try.f11.params.toList ++ Rows.synthTablesSpec.plain.varTypes Try.prog) (ds ++ gs)).all (· ≤ reachBytes) = true := hsz0
  have hval : ∀ (j : Nat) t v, Try.f11.params[j]? = some t → args[j]? = some v → Value.okWide Try.prog W .any base t v := hval0
  have hW' := hW
  obtain ⟨p, q, hA0, hV, rfl, hfz, hnd⟩ := hW
  have hA : DataW.TrodAll enc Try.prog W 0 (fun _ => true) true Try.f11.params.toList args.toList ds p := hA0
  rw [Try.params11] at hA hval hsz
  obtain ⟨v0, vs0, d0, ds0, p0, q0, hargs, rfl, rfl, h0, r0⟩ := trodAll_cons hA
  obtain ⟨rfl, rfl, rfl⟩ := trodAll_nil r0
  obtain rfl : args = #[v0] := by cases args; simp_all
  obtain ⟨rfl, rfl⟩ := trodVars_none hV
  have lt0 : ∀ x ∈ p0, x.block < W.heap.size := by obtain ⟨m, hm⟩ := h0; exact DataW.trod_lt m _ _ _ hm
  have wt0 := weights_at hsz 0 (t := 25) rfl rfl
  obtain ⟨a0, s0, wf0_, up0_⟩ := gd25.arg (hval 0 25 v0 rfl rfl) h0 wt0
  clear hA0 hval0 hsz0 hsz
  obtain ⟨k, h⟩ := St.synthTables a0 wf0_
  refine (law_calls (SynthTables11.ok k) (ds := (a0)) h (args := #[v0]) (W := W) (.cons (s0 _) (.nil))).mono fun e W' ⟨he, bel0⟩ => ?_
  have bel : Below W.heap.size W W' := bel0
  subst he
  exact ⟨_, rfl, _, _, _, [], _, [], hW', trodAll_mk1 (shut_bool Try.underlying4 _), (trodAll_cons_mk (Below.trod laidOut (by kernel_rfl) (of_decide_eq_true (by kernel_rfl)) h0 bel lt0) (trodAll_mk0)), rfl, bel.frame _, fun h => by cases h⟩
theorem over : Rows.synthTablesRow.holds Try.pinned (OpenSpec.ofChange Rows.synthTablesSpec) :=
  OpenClaim.holds_of_wide 11 Try.f11 rfl rfl rfl rfl rfl rfl rfl ⟨rfl, rfl, rfl, rfl, rfl⟩ rfl rfl rfl rfl rfl (by kernel_rfl) Try.func11 (by kernel_rfl)
    (of_decide_eq_true (by kernel_rfl)) (by unfold Func.isWrapper; first | (rw [if_pos (by decide +kernel)]; kernel_rfl) | (rw [if_neg (by decide +kernel)]; exact ⟨rfl, rfl⟩))
    (fun os started H enc _ => lifted os started H enc)
theorem proved : Rows.SynthTablesSaid := over
#print axioms proved
end Go.Proofs.Ytjbdhaenakcclaa.synthTables
namespace Go.Proofs.Ytjbdhaenakcclaa
theorem synthTables_holds : Rows.SynthTablesSaid := synthTables.proved
end Go.Proofs.Ytjbdhaenakcclaa
