/- Merged texts of one claim: a Go law, its functions without memory, and the plain law. The law returns true for every input; conditions: as the row says. -/
import Derived.Test.YtjbdhaenakcclaaRows
import Derived.ChangeArms
import Derived.OpenShut
import Derived.SizedLaws
import Derived.Deep.Slices
import Derived.Below
import Derived.WalkKit
import Derived.ProofKit
import Derived.ShutString
import Derived.ChangeOld
import Derived.Test.YtjbdhaenakcclaaCGk0
import Derived.Test.YtjbdhaenakcclaaCGk1
import Derived.Test.YtjbdhaenakcclaaCGk2
/- Circuits of gates: what is wrong with one. No program in sight. -/
set_option linter.unusedVariables false
noncomputable section
namespace Go.Proofs.Ytjbdhaenakcclaa.Gr
open Go Go.Proofs.Ytjbdhaenakcclaa.Gp

def needs (kd : Int) : Int := if kd = 3 then 1 else if kd = 4 ∨ kd = 5 ∨ kd = 6 then 2 else if kd = 7 then 3 else 0
def mostN (c : Cir) (kd : Int) : Int := if kd = 0 then 2 else if kd = 1 then c.1 else if kd = 2 then (c.2.2.2.1.length : Int) else 1
def leg (i n k x : Int) : Int := if k < n ∧ (x < 0 ∨ x ≥ i) then 9 else if k ≥ n ∧ x ≠ 0 then 3 else 0
def legs (i : Int) (g : Gate) : Int :=
  if leg i (needs g.1) 0 g.2.1 ≠ 0 then leg i (needs g.1) 0 g.2.1 else
  if leg i (needs g.1) 1 g.2.2.1 ≠ 0 then leg i (needs g.1) 1 g.2.2.1 else leg i (needs g.1) 2 g.2.2.2.1
def oneF (c : Cir) (i : Int) (g : Gate) : Int :=
  if g.1 < 0 ∨ g.1 > 7 then 1 else if legs i g ≠ 0 then legs i g else if g.2.2.2.2 < 0 ∨ g.2.2.2.2 ≥ mostN c g.1 then 1 else 0
theorem kinds {kd : Int} (h : ¬ (kd < 0 ∨ kd > 7)) : kd = 0 ∨ kd = 1 ∨ kd = 2 ∨ kd = 3 ∨ kd = 4 ∨ kd = 5 ∨ kd = 6 ∨ kd = 7 := by omega
theorem inputs_ev (kd : Int) : Ev (fun k => inputs79 k kd) (if kd < 0 ∨ kd > 7 then -1 else needs kd, ()) := by
  unfold inputs79
  have e : cond (decide (kd < 0)) true (decide (kd ≥ 8)) = decide (kd < 0 ∨ kd > 7) := by
    by_cases h : kd < 0
    · simp [h]
    · simp only [decide_eq_false h, cond_false, false_or, h]
      exact decide_eq_decide.2 (by omega)
  rw [e]
  refine .iff (fun h => .now' (by rw [if_pos h])) (fun h => ?_)
  rw [if_neg h]
  rcases kinds h with rfl | rfl | rfl | rfl | rfl | rfl | rfl | rfl <;> exact .val rfl (.val rfl (.now _))

theorem leg_step (c : Cir) (i : Int) (g : Gate) (n j x : Int) (l : List Int) (hl : l = [g.2.1, g.2.2.1, g.2.2.2.1]) (h3 : j < 3) (hx : rd l j = some x) (h0 : 0 ≤ j) :
    Ev (fun k => one72.l0 k i g (n, ()) (c, g, (), j, l)) (if leg i n j x ≠ 0 then .inr (.inr (leg i n j x, ())) else .inl (c, g, (), j + 1, l)) := by
  simp only [one72.l0]
  refine .yes (decide_eq_true (by simpa using h3)) (.val hx (.val hx ?_))
  unfold leg
  by_cases h1 : j < n ∧ (x < 0 ∨ x ≥ i)
  · refine .yes ?_ (.now' (by rw [if_pos h1]; rfl))
    rw [decide_eq_true h1.1]
    rcases h1.2 with h2 | h2
    · rw [decide_eq_true h2]; rfl
    · by_cases h4 : x < 0 <;> simp [h2, h4]
  · refine .no ?_ ?_
    · by_cases h2 : j < n
      · have h5 : ¬ (x < 0 ∨ x ≥ i) := fun h => h1 ⟨h2, h⟩
        simp only [not_or] at h5
        rw [decide_eq_true h2, decide_eq_false h5.1, decide_eq_false h5.2]; rfl
      · rw [decide_eq_false h2]; rfl
    · rw [if_neg h1]
      by_cases h2 : j ≥ n ∧ x ≠ 0
      · refine .yes ?_ (.now' (by rw [if_pos h2]; rfl))
        rw [decide_eq_true h2.1, bne_iff_ne.2 h2.2]; rfl
      · refine .no ?_ (.now' (by rw [if_neg h2, w64_id (by omega) (by omega)]; rfl))
        by_cases h4 : j ≥ n
        · have : x = 0 := by
            by_cases h5 : x = 0
            · exact h5
            · exact absurd ⟨h4, h5⟩ h2
          rw [this]; simp
        · rw [decide_eq_false h4]; rfl
theorem legs_lp {S R : Type} {body : Nat → S → Option (S ⊕ R)} {s0 s1 s2 s3 : S} {r0 r1 r2 r3 : R} {f0 f1 f2 : Int}
    (h0 : Ev (fun k => body k s0) (if f0 ≠ 0 then .inr r0 else .inl s1)) (h1 : Ev (fun k => body k s1) (if f1 ≠ 0 then .inr r1 else .inl s2)) (h2 : Ev (fun k => body k s2) (if f2 ≠ 0 then .inr r2 else .inl s3)) (h3 : Ev (fun k => body k s3) (.inr r3)) :
    Lp body s0 (if f0 ≠ 0 then r0 else if f1 ≠ 0 then r1 else if f2 ≠ 0 then r2 else r3) := by
  by_cases g0 : f0 ≠ 0
  · rw [if_pos g0] at h0 ⊢; exact .done h0
  rw [if_neg g0] at h0 ⊢
  refine .step h0 ?_
  by_cases g1 : f1 ≠ 0
  · rw [if_pos g1] at h1 ⊢; exact .done h1
  rw [if_neg g1] at h1 ⊢
  refine .step h1 ?_
  by_cases g2 : f2 ≠ 0
  · rw [if_pos g2] at h2 ⊢; exact .done h2
  rw [if_neg g2] at h2 ⊢
  exact .step h2 (.done h3)

theorem one_ev (c : Cir) (i : Int) (g : Gate) (hg : rd c.2.1 i = some g) : Ev (fun k => one72 k c i) (oneF c i g, ()) := by
  unfold one72
  refine .val hg (.bind (inputs_ev g.1) ?_)
  unfold oneF
  by_cases h : g.1 < 0 ∨ g.1 > 7
  · rw [if_pos h, if_pos h]; exact .yes rfl (.now _)
  rw [if_neg h, if_neg h]
  have hn : ¬ needs g.1 < 0 := by unfold needs; split <;> (try split) <;> (try split) <;> omega
  refine .no (decide_eq_false hn) ?_
  have hlp := legs_lp (body := fun k => one72.l0 k i g (needs g.1, ())) (s3 := (c, g, (), 3, [g.2.1, g.2.2.1, g.2.2.2.1])) (r3 := .inl (c, g))
    (leg_step c i g (needs g.1) 0 g.2.1 _ rfl (by omega) rfl (by omega)) (leg_step c i g (needs g.1) 1 g.2.2.1 _ rfl (by omega) rfl (by omega)) (leg_step c i g (needs g.1) 2 g.2.2.2.1 _ rfl (by omega) rfl (by omega))
    (by simp only [one72.l0]; exact .no rfl (.now _))
  have hr : (if leg i (needs g.1) 0 g.2.1 ≠ 0 then (.inr (leg i (needs g.1) 0 g.2.1, ()) : (Cir × Gate) ⊕ (Int × Unit)) else if leg i (needs g.1) 1 g.2.2.1 ≠ 0 then .inr (leg i (needs g.1) 1 g.2.2.1, ()) else if leg i (needs g.1) 2 g.2.2.2.1 ≠ 0 then .inr (leg i (needs g.1) 2 g.2.2.2.1, ()) else .inl (c, g)) =
      if legs i g ≠ 0 then .inr (legs i g, ()) else .inl (c, g) := by
    unfold legs
    by_cases g0 : leg i (needs g.1) 0 g.2.1 ≠ 0
    · rw [if_pos g0, if_pos g0, if_pos g0]
    · rw [if_neg g0, if_neg g0]
      by_cases g1 : leg i (needs g.1) 1 g.2.2.1 ≠ 0
      · rw [if_pos g1, if_pos g1, if_pos g1]
      · rw [if_neg g1, if_neg g1]
  rw [hr] at hlp
  by_cases hl : legs i g ≠ 0
  · rw [if_pos hl] at hlp ⊢
    exact .joinR hlp.ev
  · rw [if_neg hl] at hlp ⊢
    refine .joinL (S := Unit) hlp.ev ?_
    have hm : rd ([2, c.1, (List.length c.2.2.2.1 : Int), 1, 1, 1, 1, 1] : List Int) g.1 = some (mostN c g.1) := by
      generalize g.1 = kd at h
      rcases kinds h with rfl | rfl | rfl | rfl | rfl | rfl | rfl | rfl <;> rfl
    refine .val hm (.val hm ?_)
    by_cases h2 : g.2.2.2.2 < 0 ∨ g.2.2.2.2 ≥ mostN c g.1
    · refine .yes ?_ (.now' (by rw [if_pos h2]))
      rcases h2 with h2 | h2
      · simp [h2]
      · by_cases h4 : g.2.2.2.2 < 0 <;> simp [h2, h4]
    · refine .no ?_ (.now' (by rw [if_neg h2]))
      simp only [not_or] at h2
      rw [decide_eq_false h2.1, decide_eq_false h2.2]; rfl
end Go.Proofs.Ytjbdhaenakcclaa.Gr

/- Circuits of gates: what is wrong with one, said twice. No program in sight. -/
set_option linter.unusedVariables false
noncomputable section
namespace Go.Proofs.Ytjbdhaenakcclaa.Gr
open Go Go.Proofs.Ytjbdhaenakcclaa.Gp

def nds : List (Int × Int) := mput (.int .i64) (.int .i64) (mput (.int .i64) (.int .i64) (mput (.int .i64) (.int .i64) (mput (.int .i64) (.int .i64) (mput (.int .i64) (.int .i64) ([] : (List (Int × Int))) (3 : Int) (1 : Int)) (4 : Int) (2 : Int)) (5 : Int) (2 : Int)) (6 : Int) (2 : Int)) (7 : Int) (3 : Int)
theorem nds_get {kd : Int} (h : ¬ (kd < 0 ∨ kd > 7)) : Option.getD (α := Int) (mget (.int .i64) (.int .i64) nds kd) (0 : Int) = needs kd := by
  rcases kinds h with rfl | rfl | rfl | rfl | rfl | rfl | rfl | rfl <;> rfl
theorem most_get (c : Cir) {kd : Int} (h : ¬ (kd < 0 ∨ kd > 7)) : Option.getD (α := Int) (mget (.int .i64) (.int .i64) (mput (.int .i64) (.int .i64) (mput (.int .i64) (.int .i64) (mput (.int .i64) (.int .i64) ([] : (List (Int × Int))) (0 : Int) (1 : Int)) (1 : Int) (w64 (c.1 - 1))) (2 : Int) (w64 ((List.length c.2.2.2.1 : Int) - 1))) kd) (0 : Int) =
    if kd = 0 then 1 else if kd = 1 then w64 (c.1 - 1) else if kd = 2 then w64 ((List.length c.2.2.2.1 : Int) - 1) else 0 := by
  rcases kinds h with rfl | rfl | rfl | rfl | rfl | rfl | rfl | rfl <;> rfl

theorem leg_step2 (c : Cir) (i : Int) (g : Gate) (hi0 : 0 ≤ i) (hi1 : i ≤ 1000) (t62 : Option Int) (n j x : Int) (ht : Option.getD (α := Int) t62 (0 : Int) = n) (h3 : j < 3) (hx : rd ([g.2.1, g.2.2.1, g.2.2.2.1] : List Int) j = some x) (h0 : 0 ≤ j) :
    Ev (fun k => CircuitFault14.l0 k i g t62 (c, g, j)) (if leg i n j x ≠ 0 then .inr (.inr (.inr (.inr (leg i n j x, ())))) else .inl (c, g, j + 1)) := by
  simp only [CircuitFault14.l0, ht]
  refine .yes (decide_eq_true h3) (.val hx ?_)
  rw [w64_id (x := i - 1) (by omega) (by omega)]
  unfold leg
  by_cases h2 : j ≥ n ∧ x ≠ 0
  · have h1 : ¬ (j < n ∧ (x < 0 ∨ x ≥ i)) := fun h => by omega
    refine .yes ?_ (.now' (by rw [if_neg h1, if_pos h2]; rfl))
    rw [decide_eq_true h2.1, bne_iff_ne.2 h2.2]; rfl
  · refine .no ?_ ?_
    · by_cases h4 : j ≥ n
      · have : x = 0 := by
          by_cases h5 : x = 0
          · exact h5
          · exact absurd ⟨h4, h5⟩ h2
        rw [this]; simp
      · rw [decide_eq_false h4]; rfl
    · by_cases h1 : j < n ∧ (x < 0 ∨ x ≥ i)
      · refine .yes ?_ (.now' (by rw [if_pos h1]; rfl))
        rw [decide_eq_true h1.1]
        rcases h1.2 with h5 | h5
        · rw [decide_eq_true h5]; rfl
        · rw [decide_eq_true (show x > i - 1 by omega)]
          by_cases h4 : x < 0 <;> simp [h4]
      · refine .no ?_ (.now' (by rw [if_neg h1, if_neg h2, w64_id (by omega) (by omega)]; rfl))
        by_cases h5 : j < n
        · have h6 : ¬ (x < 0 ∨ x ≥ i) := fun h => h1 ⟨h5, h⟩
          simp only [not_or] at h6
          rw [decide_eq_true h5, decide_eq_false h6.1, decide_eq_false (by omega)]; rfl
        · rw [decide_eq_false h5]; rfl

/-- all gates -/
def gW (c : Cir) (b : Nat) (g : Gate) : Nat ⊕ (Cir ⊕ (Int × Unit)) := if oneF c b g = 0 then .inl (b + 1) else .inr (.inr (oneF c b g, ()))
def gatesW (c : Cir) : Cir ⊕ (Int × Unit) := walk (gW c) (fun _ => .inl c) c.2.1 0
theorem check_gates (c : Cir) (hl : c.2.1.length ≤ 400) : Lp (fun k => Check18.l0 k c) (c, 0) (gatesW c) := by
  refine Lp.walk (body := fun k => Check18.l0 k c) c.2.1 (fun (_ : Nat) i => (c, i)) (gW c) (fun _ => .inl c) (fun i b => b = i) (fun i g b hx hb => ⟨?_, fun b' h => ?_⟩) (fun b _ => ?_) (b := 0) rfl
  · have hi := get_lt hx
    subst hb
    simp only [Check18.l0]
    refine .yes (decide_eq_true (by omega)) (.bind (one_ev c b g (rd_some' hx)) ?_)
    unfold gW
    by_cases h : oneF c b g = 0
    · rw [if_pos h]
      refine .no (by rw [h]; rfl) (.now' ?_)
      rw [w64_id (by omega) (by omega)]
    · rw [if_neg h]
      exact .yes (bne_iff_ne.2 h) (.now _)
  · subst hb
    unfold gW at h
    split at h <;> cases h
    rfl
  · simp only [Check18.l0]
    exact .no (by simp) (.now _)
theorem fault_gates (c : Cir) (hl : c.2.1.length ≤ 400) (h0 : 0 ≤ c.1) (h1 : c.1 ≤ 10) (h2 : c.2.2.2.1.length ≤ 10) : Lp (fun k => CircuitFault14.l1 k c) (c, 0) (gatesW c) := by
  refine Lp.walk (body := fun k => CircuitFault14.l1 k c) c.2.1 (fun (_ : Nat) i => (c, i)) (gW c) (fun _ => .inl c) (fun i b => b = i) (fun i g b hx hb => ⟨?_, fun b' h => ?_⟩) (fun b _ => ?_) (b := 0) rfl
  · have hi := get_lt hx
    subst hb
    simp only [CircuitFault14.l1]
    refine .yes (decide_eq_true (by omega)) (.val (rd_some' hx) ?_)
    have e : cond (decide (g.1 < 0)) true (decide (g.1 > 7)) = decide (g.1 < 0 ∨ g.1 > 7) := by by_cases h : g.1 < 0 <;> simp [h]
    rw [e]
    unfold gW oneF
    refine .iff (fun h => .now' ?_) (fun h => ?_)
    · rw [if_pos h, if_neg (show ¬ (1 : Int) = 0 by omega)]
    rw [if_neg h]
    have hn : Option.getD (α := Int) (mget (.int .i64) (.int .i64) nds g.1) (0 : Int) = needs g.1 := nds_get h
    have hlp := legs_lp (body := fun k => CircuitFault14.l0 k b g (mget (.int .i64) (.int .i64) nds g.1)) (s3 := (c, g, 3)) (r3 := .inl (c, g))
      (leg_step2 c b g (by omega) (by omega) _ (needs g.1) 0 g.2.1 hn (by omega) rfl (by omega)) (leg_step2 c b g (by omega) (by omega) _ (needs g.1) 1 g.2.2.1 hn (by omega) rfl (by omega)) (leg_step2 c b g (by omega) (by omega) _ (needs g.1) 2 g.2.2.2.1 hn (by omega) rfl (by omega))
      (by simp only [CircuitFault14.l0]; exact .no rfl (.now _))
    have hr : (if leg b (needs g.1) 0 g.2.1 ≠ 0 then (.inr (.inr (.inr (leg b (needs g.1) 0 g.2.1, ()))) : (Cir × Gate) ⊕ ((Cir × Int) ⊕ (Cir ⊕ (Int × Unit)))) else if leg b (needs g.1) 1 g.2.2.1 ≠ 0 then .inr (.inr (.inr (leg b (needs g.1) 1 g.2.2.1, ()))) else if leg b (needs g.1) 2 g.2.2.2.1 ≠ 0 then .inr (.inr (.inr (leg b (needs g.1) 2 g.2.2.2.1, ()))) else .inl (c, g)) =
        if legs b g ≠ 0 then .inr (.inr (.inr (legs b g, ()))) else .inl (c, g) := by
      unfold legs
      by_cases g0 : leg b (needs g.1) 0 g.2.1 ≠ 0
      · rw [if_pos g0, if_pos g0, if_pos g0]
      · rw [if_neg g0, if_neg g0]
        by_cases g1 : leg b (needs g.1) 1 g.2.2.1 ≠ 0
        · rw [if_pos g1, if_pos g1, if_pos g1]
        · rw [if_neg g1, if_neg g1]
    rw [hr] at hlp
    by_cases hl : legs b g ≠ 0
    · rw [if_pos hl] at hlp ⊢
      refine .joinR (hlp.ev.to ?_)
      rw [if_neg hl]
    · rw [if_neg hl] at hlp ⊢
      refine .joinL (S := Unit) hlp.ev ?_
      dsimp only
      rw [most_get c h]
      have hm : (g.2.2.2.2 > if g.1 = 0 then 1 else if g.1 = 1 then w64 (c.1 - 1) else if g.1 = 2 then w64 ((List.length c.2.2.2.1 : Int) - 1) else 0) ↔ g.2.2.2.2 ≥ mostN c g.1 := by
        rw [w64_id (x := c.1 - 1) (by omega) (by omega), w64_id (x := (List.length c.2.2.2.1 : Int) - 1) (by omega) (by omega)]
        unfold mostN
        split <;> (try split) <;> (try split) <;> omega
      by_cases h5 : g.2.2.2.2 < 0 ∨ g.2.2.2.2 ≥ mostN c g.1
      · rw [if_pos h5, if_neg (show ¬ (1 : Int) = 0 by omega)]
        refine .yes ?_ (.now _)
        rcases h5 with h5 | h5
        · rw [decide_eq_true h5]; rfl
        · rw [decide_eq_true (hm.2 h5)]
          by_cases h4 : g.2.2.2.2 < 0 <;> simp [h4]
      · rw [if_neg h5, if_pos (rfl : (0 : Int) = 0)]
        simp only [not_or] at h5
        refine .no ?_ (.now' ?_)
        · rw [decide_eq_false h5.1, decide_eq_false (fun h => h5.2 (hm.1 h))]; rfl
        · rw [w64_id (by omega) (by omega)]
  · subst hb
    unfold gW at h
    split at h <;> cases h
    rfl
  · simp only [CircuitFault14.l1]
    exact .no (by simp) (.now _)
end Go.Proofs.Ytjbdhaenakcclaa.Gr

/- Circuits of gates: the checks are one. No program in sight. -/

set_option linter.unusedVariables false
noncomputable section
namespace Go.Proofs.Ytjbdhaenakcclaa.Gr
open Go Go.Proofs.Ytjbdhaenakcclaa.Gp

theorem walk_bad {α R : Type} (bad : α → Bool) (e fin : R) : ∀ (l : List α), walk (fun (_ : Unit) x => if bad x then (.inr e : Unit ⊕ R) else .inl ()) (fun _ => fin) l () = if l.any bad then e else fin
  | [] => rfl
  | x :: l => by
    rw [walk_cons, List.any_cons]
    cases h : bad x with
    | true => simp
    | false => simpa using walk_bad bad e fin l
def badX (c : Cir) (x : Int) : Bool := decide (x < 0 ∨ x ≥ (c.2.1.length : Int))
theorem badX_or (c : Cir) (x : Int) : cond (decide (x < 0)) true (decide (x ≥ (c.2.1.length : Int))) = badX c x := by
  unfold badX
  by_cases h : x < 0 <;> simp [h]
theorem check_range (c : Cir) (l : List Int) (hl : l.length ≤ 1000) : Lp (fun k => Check18.l1 k (l, ())) (c, 0) (if l.any (badX c) then .inr (4, ()) else .inl c) := by
  rw [← walk_bad (R := Cir ⊕ (Int × Unit))]
  refine Lp.walk (body := fun k => Check18.l1 k (l, ())) l (fun (_ : Unit) i => (c, i)) _ _ (fun _ _ => True) (fun i x b hx _ => ⟨?_, fun _ _ => trivial⟩) (fun b _ => ?_) (b := ()) trivial
  · have hi := get_lt hx
    simp only [Check18.l1]
    refine .yes (decide_eq_true (by omega)) (.val (rd_some' hx) (.cnd (fun h => .now' ?_) (fun h => .now' ?_)))
    · rw [badX_or] at h; rw [if_pos h]
    · rw [badX_or] at h; rw [h, w64_id (by omega) (by omega)]; rfl
  · simp only [Check18.l1]
    exact .no (by simp) (.now _)
theorem fault_range1 (c : Cir) (l : List Int) (o : List (List Int)) (hl : l.length ≤ 1000) : Lp (fun k => CircuitFault14.l2 k l) (c, (), 0, o) (if l.any (badX c) then .inr (.inr (.inr (4, ()))) else .inl (c, (), o)) := by
  rw [← walk_bad (R := (Cir × (Unit × (List (List Int)))) ⊕ ((Cir × (Unit × (Int × (List (List Int))))) ⊕ (Cir ⊕ (Int × Unit))))]
  refine Lp.walk (body := fun k => CircuitFault14.l2 k l) l (fun (_ : Unit) i => (c, (), i, o)) _ _ (fun _ _ => True) (fun i x b hx _ => ⟨?_, fun _ _ => trivial⟩) (fun b _ => ?_) (b := ()) trivial
  · have hi := get_lt hx
    simp only [CircuitFault14.l2]
    refine .yes (decide_eq_true (by omega)) (.val (rd_some' hx) (.cnd (fun h => .now' ?_) (fun h => .now' ?_)))
    · rw [badX_or] at h; rw [if_pos h]
    · rw [badX_or] at h; rw [h, w64_id (by omega) (by omega)]; rfl
  · simp only [CircuitFault14.l2]
    exact .no (by simp) (.now _)
theorem fault_range (c : Cir) (h1 : c.2.2.1.length ≤ 10) (h2 : c.2.2.2.1.length ≤ 10) : Lp (fun k => CircuitFault14.l3 k c) (c, (), 0, [c.2.2.1, c.2.2.2.1]) (if (c.2.2.1 ++ c.2.2.2.1).any (badX c) then .inr (4, ()) else .inl c) := by
  have r1 := fault_range1 c c.2.2.1 [c.2.2.1, c.2.2.2.1] (by omega)
  have r2 := fault_range1 c c.2.2.2.1 [c.2.2.1, c.2.2.2.1] (by omega)
  rw [List.any_append]
  cases e1 : c.2.2.1.any (badX c) with
  | true =>
    rw [e1] at r1
    refine .done ?_
    simp only [CircuitFault14.l3]
    exact .yes rfl (.val rfl (.val rfl (.joinR r1.ev)))
  | false =>
    rw [e1] at r1
    refine .step (s' := (c, (), 1, [c.2.2.1, c.2.2.2.1])) ?_ ?_
    · simp only [CircuitFault14.l3]
      exact .yes rfl (.val rfl (.val rfl (.joinL (S := Unit) r1.ev (.now' (by rw [w64_id (by omega) (by omega)]; rfl)))))
    · cases e2 : c.2.2.2.1.any (badX c) with
      | true =>
        rw [e2] at r2
        refine .done ?_
        simp only [CircuitFault14.l3]
        exact .yes rfl (.val rfl (.val rfl (.joinR r2.ev)))
      | false =>
        rw [e2] at r2
        refine .step (s' := (c, (), 2, [c.2.2.1, c.2.2.2.1])) ?_ (.done ?_)
        · simp only [CircuitFault14.l3]
          exact .yes rfl (.val rfl (.val rfl (.joinL (S := Unit) r2.ev (.now' (by rw [w64_id (by omega) (by omega)]; rfl)))))
        · simp only [CircuitFault14.l3]
          exact .no rfl (.now _)

def bad1 (x : Int) : Bool := decide (x ≠ 0 ∧ x ≠ 1)
theorem check_init (c : Cir) (hl : c.2.2.2.2.length ≤ 1000) : Lp (fun k => Check18.l2 k c) 0 (if c.2.2.2.2.any bad1 then .inr (1, ()) else .inl ()) := by
  rw [← walk_bad (R := Unit ⊕ (Int × Unit))]
  refine Lp.walk (body := fun k => Check18.l2 k c) c.2.2.2.2 (fun (_ : Unit) i => i) _ _ (fun _ _ => True) (fun i x b hx _ => ⟨?_, fun _ _ => trivial⟩) (fun b _ => ?_) (b := ()) trivial
  · have hi := get_lt hx
    simp only [Check18.l2]
    have e : cond (x != 0) (x != 1) false = bad1 x := by
      unfold bad1
      by_cases h0 : x = 0 <;> by_cases h1 : x = 1 <;> simp [h0, h1]
    refine .yes (decide_eq_true (by omega)) (.val (rd_some' hx) (.cnd (fun h => .now' ?_) (fun h => .now' ?_)))
    · rw [e] at h; rw [if_pos h]
    · rw [e] at h; rw [h, w64_id (by omega) (by omega)]; rfl
  · simp only [Check18.l2]
    exact .no (by simp) (.now _)
theorem wrap_zero {m : Nat} (h : m < 18446744073709551616) (h0 : IntKind.wrap .i64 (m : Int) = 0) : m = 0 := by
  have e : (2 : Int) ^ (64 - 1) = 9223372036854775808 := by decide
  have e2 : (2 : Int) ^ 64 = 18446744073709551616 := by decide
  simp only [IntKind.wrap, IntKind.signed, IntKind.bits, Bool.true_and, decide_eq_true_eq, e, e2] at h0
  split at h0 <;> omega
theorem andNot_bad {x : Int} (h0 : -9223372036854775808 ≤ x) (h1 : x ≤ 9223372036854775807) : (ibits .andNot .i64 x 1 != 0) = bad1 x := by
  have e : ibits .andNot .i64 x 1 = IntKind.wrap .i64 (((BitVec.ofInt 64 x &&& ~~~ BitVec.ofInt 64 1).toNat : Nat) : Int) := rfl
  unfold bad1
  by_cases hx : x = 0
  · subst hx; rfl
  by_cases hx1 : x = 1
  · subst hx1; rfl
  rw [show decide (x ≠ 0 ∧ x ≠ 1) = true from decide_eq_true ⟨hx, hx1⟩, bne_iff_ne]
  intro hz
  rw [e] at hz
  have hn := wrap_zero (BitVec.isLt _) hz
  have h3 : BitVec.ofInt 64 x = BitVec.ofInt 64 x &&& BitVec.ofInt 64 1 := by
    have hz : BitVec.ofInt 64 x &&& ~~~ BitVec.ofInt 64 1 = 0#64 := BitVec.eq_of_toNat_eq hn
    apply BitVec.eq_of_getLsbD_eq
    intro i hi
    have := congrArg (fun v => BitVec.getLsbD v i) hz
    simp only [BitVec.getLsbD_and, BitVec.getLsbD_not, BitVec.getLsbD_zero, hi, decide_true, Bool.true_and] at this
    rw [BitVec.getLsbD_and]
    cases h4 : (BitVec.ofInt 64 x).getLsbD i <;> cases h5 : (BitVec.ofInt 64 1).getLsbD i <;> simp_all
  have h4 : (BitVec.ofInt 64 x).toNat ≤ 1 := by
    rw [h3, BitVec.toNat_and]
    exact Nat.le_trans Nat.and_le_right (by decide)
  rw [BitVec.toNat_ofInt] at h4
  have e2 : ((2 ^ 64 : Nat) : Int) = 18446744073709551616 := by decide
  rw [e2] at h4
  omega
theorem fault_init (c : Cir) (hl : c.2.2.2.2.length ≤ 1000) (hw : ∀ x ∈ c.2.2.2.2, -9223372036854775808 ≤ x ∧ x ≤ 9223372036854775807) : Lp (fun k => CircuitFault14.l4 k c) 0 (if c.2.2.2.2.any bad1 then .inr (1, ()) else .inl ()) := by
  rw [← walk_bad (R := Unit ⊕ (Int × Unit))]
  refine Lp.walk (body := fun k => CircuitFault14.l4 k c) c.2.2.2.2 (fun (_ : Unit) i => i) _ _ (fun _ _ => True) (fun i x b hx _ => ⟨?_, fun _ _ => trivial⟩) (fun b _ => ?_) (b := ()) trivial
  · have hi := get_lt hx
    simp only [CircuitFault14.l4]
    have e := andNot_bad (hw x (get_mem hx)).1 (hw x (get_mem hx)).2
    refine .yes (decide_eq_true (by omega)) (.val (rd_some' hx) (.cnd (fun h => .now' ?_) (fun h => .now' ?_)))
    · rw [e] at h; rw [if_pos h]
    · rw [e] at h; rw [h, w64_id (by omega) (by omega)]; rfl
  · simp only [CircuitFault14.l4]
    exact .no (by simp) (.now _)

def large (c : Cir) : Bool := decide (c.1 < 0 ∨ c.1 > 10 ∨ c.2.1.length > 400 ∨ c.2.2.1.length > 10 ∨ c.2.2.2.1.length > 10)
theorem large_or (c : Cir) : cond (cond (cond (cond (decide (c.1 < 0)) true (decide (c.1 > 10))) true (decide ((List.length c.2.1 : Int) > 400))) true (decide ((List.length c.2.2.1 : Int) > 10))) true (decide ((List.length c.2.2.2.1 : Int) > 10)) = large c := by
  have e : ∀ a b : Bool, cond a true b = (a || b) := fun a b => by cases a <;> rfl
  simp only [e, large, ← Bool.decide_or]
  exact decide_eq_decide.2 (by omega)
def rest (c : Cir) : Int := if (c.2.2.1 ++ c.2.2.2.1).any (badX c) then 4 else if c.2.2.2.2.any bad1 then 1 else 0
def fault (c : Cir) : Int := if large c then 2 else if c.2.2.2.2.length ≠ c.2.2.2.1.length then 3 else match gatesW c with | .inr e => e.1 | .inl _ => rest c
theorem gatesW_inl (c : Cir) {a : Cir} (h : gatesW c = .inl a) : a = c := by
  have : ∀ (l : List Gate) (b : Nat), walk (gW c) (fun _ => (.inl c : Cir ⊕ (Int × Unit))) l b = .inl a → a = c := by
    intro l
    induction l with
    | nil => intro b h; exact (Sum.inl.inj h).symm
    | cons x l ih =>
      intro b h
      rw [walk_cons] at h
      unfold gW at h
      split at h
      · rename_i b' hb
        exact ih _ h
      · rename_i r hr
        split at hr
        · cases hr
        · cases hr; cases h
  exact this _ _ h
theorem ne_len (c : Cir) : ((List.length c.2.2.2.2 : Int) != (List.length c.2.2.2.1 : Int)) = decide (c.2.2.2.2.length ≠ c.2.2.2.1.length) := by
  rw [Bool.eq_iff_iff, bne_iff_ne, decide_eq_true_iff]; omega
end Go.Proofs.Ytjbdhaenakcclaa.Gr

/- Circuits of gates: the checks are one. No program in sight. -/
set_option linter.unusedVariables false
noncomputable section
namespace Go.Proofs.Ytjbdhaenakcclaa.Gr
open Go Go.Proofs.Ytjbdhaenakcclaa.Gp

theorem room_small {n : Nat} (h : n ≤ 1000) : room n 8 = true := room_ok (by omega)
theorem concat_ev (a b : List Int) (h : a.length + b.length ≤ 1000) : Ev (fun k => Concat59 k [a, b]) (a ++ b, ()) := by
  unfold Concat59
  refine .bind (a := (((a.length + b.length : Nat) : Int))) (Lp.ev ?_) (.bind (a := ((), [])) ?_ (.bind (a := ((), a ++ b)) (Lp.ev ?_) (.now _)))
  · refine Lp.step (s' := ((a.length : Int), 1)) ?_ (Lp.step (s' := (((a.length + b.length : Nat) : Int), 2)) ?_ (Lp.done ?_))
    · simp only [Concat59.l0]
      refine .yes (by simp) (.val (a := a) rfl ?_)
      simp only [w64_id (x := 0 + (a.length : Int)) (by omega) (by omega)]
      refine .val (a := ()) ?_ (.now' ?_)
      · rw [decide_eq_false (by omega)]; rfl
      · simp [w64_id]
    · simp only [Concat59.l0]
      refine .yes (by simp) (.val (a := b) rfl ?_)
      simp only [w64_id (x := (a.length : Int) + (b.length : Int)) (by omega) (by omega)]
      refine .val (a := ()) ?_ (.now' ?_)
      · rw [decide_eq_false (by omega)]; rfl
      · simp [w64_id]
    · simp only [Concat59.l0]
      exact .no (by simp) (.now _)
  · generalize hn : a.length + b.length = n
    have hn' : n ≤ 1000 := hn ▸ h
    unfold Grow112
    have e : w64 ((n : Int) - w64 (0 - 0)) = n := by
      rw [show w64 (0 - 0) = 0 from w64_id (by omega) (by omega), w64_id (by omega) (by omega)]; omega
    refine .val (a := ()) ?_ ?_
    · rw [decide_eq_false (by omega)]; rfl
    · simp only [e]
      refine .bind (a := ((), [])) ?_ (.now _)
      refine .iff (fun h1 => ?_) (fun _ => .now _)
      refine .val (a := ()) (by simp) (.val (a := ()) (by rw [if_pos ⟨h1, by omega⟩]) (.val (a := []) ?_ (.now _)))
      rw [show ((0 : Int)) = ((0 : Nat) : Int) from rfl, slc_ok (Nat.le_refl _) (Nat.zero_le _)]
      rfl
  · refine Lp.step (s' := ((), 1, a)) ?_ (Lp.step (s' := ((), 2, a ++ b)) ?_ (Lp.done ?_))
    · simp only [Concat59.l1]
      refine .yes (by simp) (.val (a := a) rfl (.val (a := ()) ?_ (.now' ?_)))
      · simp [room_small (n := a.length) (by omega)]
      · simp [w64_id]
    · simp only [Concat59.l1]
      refine .yes (by simp) (.val (a := b) rfl (.val (a := ()) ?_ (.now' ?_)))
      · simp [room_small (n := a.length + b.length) (by omega)]
      · simp [w64_id]
    · simp only [Concat59.l1]
      exact .no (by simp) (.now _)


theorem small_of {c : Cir} (h : large c = false) : 0 ≤ c.1 ∧ c.1 ≤ 10 ∧ c.2.1.length ≤ 400 ∧ c.2.2.1.length ≤ 10 ∧ c.2.2.2.1.length ≤ 10 := by
  unfold large at h
  have := of_decide_eq_false h
  omega
theorem check_ev (c : Cir) : Ev (fun k => Check18 k c) (fault c, ()) := by
  unfold Check18
  refine .cnd (fun h => ?_) (fun h => ?_)
  · rw [large_or] at h
    exact .now' (by unfold fault; rw [if_pos h])
  rw [large_or] at h
  obtain ⟨s0, s1, s2, s3, s4⟩ := small_of h
  refine .cnd (fun h2 => ?_) (fun h2 => ?_)
  · rw [ne_len] at h2
    exact .now' (by unfold fault; rw [h, if_neg (by simp), if_pos (of_decide_eq_true h2)])
  rw [ne_len] at h2
  have h2 := of_decide_eq_false h2
  have hf : fault c = match gatesW c with | .inr e => e.1 | .inl _ => rest c := by
    unfold fault; rw [h, if_neg (by simp), if_neg h2] <;> (cases gatesW c <;> rfl)
  have hi : c.2.2.2.2.length ≤ 10 := by
    by_cases h3 : c.2.2.2.2.length = c.2.2.2.1.length
    · omega
    · exact absurd h3 h2
  refine .join (check_gates c s2).ev (fun a ha => ?_) (fun r hr => ?_)
  · obtain rfl := gatesW_inl c ha
    rw [ha] at hf
    rw [hf]
    refine .bind (concat_ev a.2.2.1 a.2.2.2.1 (by omega)) ?_
    have h1 := check_range a (a.2.2.1 ++ a.2.2.2.1) (by rw [List.length_append]; omega)
    have h3 := check_init a (by omega)
    unfold rest
    cases e1 : (a.2.2.1 ++ a.2.2.2.1).any (badX a) with
    | true => rw [e1] at h1; exact .joinR h1.ev
    | false =>
      rw [e1] at h1
      refine .joinL (S := Unit) h1.ev ?_
      cases e2 : a.2.2.2.2.any bad1 with
      | true => rw [e2] at h3; exact .joinR h3.ev
      | false => rw [e2] at h3; exact .joinL (S := Unit) (a := ()) h3.ev (.now _)
  · rw [hf, hr]
theorem cfault_ev (c : Cir) (hw : ∀ x ∈ c.2.2.2.2, -9223372036854775808 ≤ x ∧ x ≤ 9223372036854775807) : Ev (fun k => CircuitFault14 k c) (fault c, ()) := by
  unfold CircuitFault14
  refine .cnd (fun h => ?_) (fun h => ?_)
  · rw [large_or] at h
    exact .now' (by unfold fault; rw [if_pos h])
  rw [large_or] at h
  obtain ⟨s0, s1, s2, s3, s4⟩ := small_of h
  refine .cnd (fun h2 => ?_) (fun h2 => ?_)
  · rw [ne_len] at h2
    exact .now' (by unfold fault; rw [h, if_neg (by simp), if_pos (of_decide_eq_true h2)])
  rw [ne_len] at h2
  have h2 := of_decide_eq_false h2
  have hf : fault c = match gatesW c with | .inr e => e.1 | .inl _ => rest c := by
    unfold fault; rw [h, if_neg (by simp), if_neg h2] <;> (cases gatesW c <;> rfl)
  have hi : c.2.2.2.2.length ≤ 10 := by
    by_cases h3 : c.2.2.2.2.length = c.2.2.2.1.length
    · omega
    · exact absurd h3 h2
  refine .join (fault_gates c s2 s0 s1 s4).ev (fun a ha => ?_) (fun r hr => ?_)
  · obtain rfl := gatesW_inl c ha
    rw [ha] at hf
    rw [hf]
    have h1 := fault_range a s3 s4
    have h3 := fault_init a (by omega) hw
    unfold rest
    cases e1 : (a.2.2.1 ++ a.2.2.2.1).any (badX a) with
    | true => rw [e1] at h1; exact .joinR h1.ev
    | false =>
      rw [e1] at h1
      refine .joinL (S := Unit) h1.ev ?_
      cases e2 : a.2.2.2.2.any bad1 with
      | true => rw [e2] at h3; exact .joinR h3.ev
      | false => rw [e2] at h3; exact .joinL (S := Unit) (a := ()) h3.ev (.now _)
  · rw [hf, hr]

/-- a right circuit -/
structure Right (c : Cir) : Prop where
  ins : 0 ≤ c.1 ∧ c.1 ≤ 10
  gates : c.2.1.length ≤ 400
  outs : c.2.2.1.length ≤ 10 ∧ ∀ x ∈ c.2.2.1, 0 ≤ x ∧ x < (c.2.1.length : Int)
  next : c.2.2.2.1.length ≤ 10 ∧ ∀ x ∈ c.2.2.2.1, 0 ≤ x ∧ x < (c.2.1.length : Int)
  gate : ∀ (i : Nat) (g : Gate), c.2.1[i]? = some g → oneF c i g = 0
theorem right_of (c : Cir) (h : fault c = 0) : Right c := by
  unfold fault at h
  split at h
  · omega
  rename_i hl
  have hl : large c = false := by simpa using hl
  obtain ⟨s0, s1, s2, s3, s4⟩ := small_of hl
  split at h
  · omega
  have hone : ∀ (l : List Gate) (b : Nat), (∀ r, walk (gW c) (fun _ => (.inl c : Cir ⊕ (Int × Unit))) l b = .inr r → r.1 ≠ 0) ∧ ((∃ a, walk (gW c) (fun _ => (.inl c : Cir ⊕ (Int × Unit))) l b = .inl a) → ∀ (i : Nat) (g : Gate), l[i]? = some g → oneF c ((b + i : Nat) : Int) g = 0) := by
    intro l
    induction l with
    | nil => intro b; exact ⟨fun r hr => (by cases hr), fun _ i g hg => (by simp at hg)⟩
    | cons x l ih =>
      intro b
      rw [walk_cons]
      unfold gW
      by_cases h0 : oneF c b x = 0
      · rw [if_pos h0]
        refine ⟨(ih (b + 1)).1, fun ha i g hg => ?_⟩
        cases i with
        | zero =>
          have : x = g := by simpa using hg
          rw [← this]; exact h0
        | succ i =>
          have := (ih (b + 1)).2 ha i g (by simpa using hg)
          rwa [show b + 1 + i = b + (i + 1) by omega] at this
      · rw [if_neg h0]
        exact ⟨fun r hr => (by cases hr; exact h0), fun ⟨a, ha⟩ => (by cases ha)⟩
  cases hg : gatesW c with
  | inr r =>
    rw [hg] at h
    exact absurd h ((hone c.2.1 0).1 r hg)
  | inl a =>
    rw [hg] at h
    have h : rest c = 0 := h
    unfold rest at h
    split at h
    · omega
    rename_i hr
    have hr : ∀ x ∈ c.2.2.1 ++ c.2.2.2.1, 0 ≤ x ∧ x < (c.2.1.length : Int) := by
      intro x hx
      have : (c.2.2.1 ++ c.2.2.2.1).any (badX c) = false := by simpa using hr
      rw [List.any_eq_false] at this
      have := this x hx
      unfold badX at this
      simp only [decide_eq_true_eq] at this
      omega
    exact ⟨⟨s0, s1⟩, s2, ⟨s3, fun x hx => hr x (List.mem_append_left _ hx)⟩, ⟨s4, fun x hx => hr x (List.mem_append_right _ hx)⟩, fun i g hgi => by
      have := (hone c.2.1 0).2 ⟨a, hg⟩ i g hgi
      rwa [Nat.zero_add] at this⟩
end Go.Proofs.Ytjbdhaenakcclaa.Gr

/- Circuits of gates: the values of all gates. No program in sight. -/
set_option linter.unusedVariables false
noncomputable section
namespace Go.Proofs.Ytjbdhaenakcclaa.Gr
open Go Go.Proofs.Ytjbdhaenakcclaa.Gp

/-- the value of a gate behind others -/
def valG (st inn : Int) (v : List Nat) (g : Gate) : Nat :=
  if g.1 = 0 then g.2.2.2.2.toNat else
  if g.1 = 1 then bitOf (shrI .i64 inn g.2.2.2.2) else
  if g.1 = 2 then bitOf (shrI .i64 st g.2.2.2.2) else
  if g.1 = 3 then 1 - v.getD g.2.1.toNat 0 else
  if g.1 = 4 then v.getD g.2.1.toNat 0 &&& v.getD g.2.2.1.toNat 0 else
  if g.1 = 5 then v.getD g.2.1.toNat 0 ||| v.getD g.2.2.1.toNat 0 else
  if g.1 = 6 then v.getD g.2.1.toNat 0 ^^^ v.getD g.2.2.1.toNat 0 else
  if v.getD g.2.1.toNat 0 = 1 then v.getD g.2.2.1.toNat 0 else v.getD g.2.2.2.1.toNat 0
def vS (st inn : Int) (v : List Nat) (g : Gate) : List Nat := v ++ [valG st inn v g]
def vals (st inn : Int) (l : List Gate) : List Nat := l.foldl (vS st inn) []
theorem vals_snoc (st inn : Int) (l : List Gate) (g : Gate) : vals st inn (l ++ [g]) = vals st inn l ++ [valG st inn (vals st inn l) g] := by
  unfold vals; rw [List.foldl_append]; rfl
theorem vals_len (st inn : Int) (l : List Gate) : (vals st inn l).length = l.length := by
  have : ∀ (l : List Gate) (v : List Nat), (l.foldl (vS st inn) v).length = v.length + l.length := by
    intro l
    induction l with
    | nil => intro v; rfl
    | cons x l ih => intro v; rw [List.foldl_cons, ih]; simp [vS]; omega
  unfold vals; rw [this]; simp
theorem leg_ok {i n k x : Int} (h : leg i n k x = 0) (hk : k < n) : 0 ≤ x ∧ x < i := by
  unfold leg at h
  split at h
  · omega
  · rename_i h1
    by_cases h2 : x < 0 ∨ x ≥ i
    · exact absurd ⟨hk, h2⟩ h1
    · omega
/-- what a right gate's parts are -/
theorem gate_ok {c : Cir} {i : Int} {g : Gate} (h : oneF c i g = 0) : ¬ (g.1 < 0 ∨ g.1 > 7) ∧ (0 < needs g.1 → 0 ≤ g.2.1 ∧ g.2.1 < i) ∧ (1 < needs g.1 → 0 ≤ g.2.2.1 ∧ g.2.2.1 < i) ∧ (2 < needs g.1 → 0 ≤ g.2.2.2.1 ∧ g.2.2.2.1 < i) ∧ 0 ≤ g.2.2.2.2 ∧ g.2.2.2.2 < mostN c g.1 := by
  unfold oneF at h
  split at h
  · omega
  rename_i hk
  split at h
  · omega
  rename_i hl
  have hl : legs i g = 0 := by
    by_cases h0 : legs i g = 0
    · exact h0
    · exact absurd h0 hl
  split at h
  · omega
  rename_i hN
  unfold legs at hl
  split at hl
  · rename_i h0; exact absurd hl h0
  rename_i h0
  split at hl
  · rename_i h1; exact absurd hl h1
  rename_i h1
  have h0 : leg i (needs g.1) 0 g.2.1 = 0 := by
    by_cases h : leg i (needs g.1) 0 g.2.1 = 0
    · exact h
    · exact absurd h h0
  have h1 : leg i (needs g.1) 1 g.2.2.1 = 0 := by
    by_cases h : leg i (needs g.1) 1 g.2.2.1 = 0
    · exact h
    · exact absurd h h1
  exact ⟨hk, leg_ok h0, leg_ok h1, leg_ok hl, by omega, by omega⟩
theorem bits2 {a b : Nat} (ha : a ≤ 1) (hb : b ≤ 1) : (a &&& b) ≤ 1 ∧ (a ||| b) ≤ 1 ∧ (a ^^^ b) ≤ 1 := by
  have : ∀ a < 2, ∀ b < 2, (a &&& b) ≤ 1 ∧ (a ||| b) ≤ 1 ∧ (a ^^^ b) ≤ 1 := by decide
  exact this a (by omega) b (by omega)
theorem getD_le {v : List Nat} (h : ∀ b ∈ v, b ≤ 1) (j : Nat) : v.getD j 0 ≤ 1 := by
  rw [List.getD_eq_getElem?_getD]
  cases hj : v[j]? with
  | none => simp
  | some b => exact h b (get_mem hj)
theorem valG_le {c : Cir} {i : Int} {g : Gate} (hg : oneF c i g = 0) (st inn : Int) {v : List Nat} (h : ∀ b ∈ v, b ≤ 1) : valG st inn v g ≤ 1 := by
  obtain ⟨_, _, _, _, h0, h1⟩ := gate_ok hg
  have b2 := bits2 (getD_le h g.2.1.toNat) (getD_le h g.2.2.1.toNat)
  unfold valG
  split
  · rename_i hk; rw [hk] at h1; have : mostN c 0 = 2 := rfl; omega
  split
  · exact (bit_and _).2
  split
  · exact (bit_and _).2
  split
  · omega
  split
  · exact b2.1
  split
  · exact b2.2.1
  split
  · exact b2.2.2
  split
  · exact getD_le h _
  · exact getD_le h _

def ints (v : List Nat) : List Int := v.map (fun (b : Nat) => (b : Int))
/-- what the row holds behind the values that are known -/
def rowOf (v : List Nat) (n : Nat) : List Int := ints v ++ List.replicate (n - v.length) 0
theorem rowOf_at {v : List Nat} {n j : Nat} (h : j < v.length) : (rowOf v n)[j]? = some ((v.getD j 0 : Nat) : Int) := by
  unfold rowOf ints
  rw [List.getElem?_append_left (by simpa using h), List.getElem?_map, List.getD_eq_getElem?_getD, List.getElem?_eq_getElem h]
  rfl
theorem rowOf_next {v : List Nat} {n : Nat} (h : v.length < n) : (rowOf v n)[v.length]? = some 0 := by
  unfold rowOf ints
  rw [List.getElem?_append_right (by simp), List.length_map, Nat.sub_self, List.getElem?_replicate, if_pos (by omega)]
theorem rowOf_set {v : List Nat} {n : Nat} (h : v.length < n) (x : Nat) : (rowOf v n).set v.length (x : Int) = rowOf (v ++ [x]) n := by
  unfold rowOf ints
  rw [List.set_append_right _ _ (by simp), List.length_map, Nat.sub_self, List.map_append, List.length_append, List.append_assoc]
  congr 1
  obtain ⟨m, hm⟩ : ∃ m, n - v.length = m + 1 := ⟨n - v.length - 1, by omega⟩
  rw [hm, show n - (v.length + [x].length) = m by simp; omega]
  rfl
theorem rd_z {l : List Int} {z : Int} {x : Int} (h0 : 0 ≤ z) (h : l[z.toNat]? = some x) : rd l z = some x := rd_at (i := z.toNat) (by omega) h
end Go.Proofs.Ytjbdhaenakcclaa.Gr

/- Circuits of gates: the values of all gates, forwards. No program in sight. -/
set_option linter.unusedVariables false
noncomputable section
namespace Go.Proofs.Ytjbdhaenakcclaa.Gr
open Go Go.Proofs.Ytjbdhaenakcclaa.Gp

theorem int_bit {a : Nat} (h : a ≤ 1) : a < 9223372036854775808 := by omega
theorem values_step (c : Cir) (st inn : Int) (i : Nat) (g : Gate) (b : List Nat) (hx : c.2.1[i]? = some g) (hg : oneF c i g = 0) (hb : b.length = i) (h1 : ∀ x ∈ b, x ≤ 1) (hn : c.2.1.length ≤ 400) :
    Ev (fun k => values69.l0 k c st inn ((), (i : Int), rowOf b c.2.1.length)) (.inl ((), (i : Int) + 1, rowOf (vS st inn b g) c.2.1.length)) := by
  have hi := get_lt hx
  obtain ⟨hk, hA, hB, hC, hN0, hN1⟩ := gate_ok hg
  have hne : (rowOf b c.2.1.length)[i]? = some 0 := by rw [← hb]; exact rowOf_next (by omega)
  have hr : rd (rowOf b c.2.1.length) (i : Int) = some 0 := rd_some' hne
  have hlen : i < (rowOf b c.2.1.length).length := get_lt hne
  have hset : ∀ x : Nat, (rowOf b c.2.1.length).set (Int.toNat (i : Int)) (x : Int) = rowOf (b ++ [x]) c.2.1.length := fun x => by
    rw [Int.toNat_natCast, ← hb]; exact rowOf_set (by omega) x
  have hget : ∀ z : Int, 0 ≤ z → z < (i : Int) → rd (rowOf b c.2.1.length) z = some ((b.getD z.toNat 0 : Nat) : Int) := fun z h0 h2 => rd_z h0 (rowOf_at (by omega))
  simp only [values69.l0]
  refine .yes (decide_eq_true (by omega)) (.val (rd_some' hx) (.bind (a := ((), rowOf (vS st inn b g) c.2.1.length)) ?_ (.now' (by rw [w64_id (by omega) (by omega)]))))
  obtain ⟨kd, A, B, C, N⟩ := g
  have lA := getD_le h1 A.toNat
  have lB := getD_le h1 B.toNat
  have lC := getD_le h1 C.toNat
  dsimp only at hk hA hB hC hN0 hN1 ⊢
  rcases kinds hk with rfl | rfl | rfl | rfl | rfl | rfl | rfl | rfl
  · refine .yes rfl (.val hr (.val hr (.now' ?_)))
    rw [show N = ((N.toNat : Nat) : Int) by omega, hset]; rfl
  · refine .no rfl (.bind (a := ((), _)) (.yes rfl (.val (a := shrI .i64 inn N) (by rw [if_neg (by omega)]) (.val hr (.val hr (.now' ?_))))) (.now _))
    rw [(bit_and _).1, hset]; rfl
  · refine .no rfl (.bind (a := ((), _)) (.no rfl (.bind (a := ((), _)) (.yes rfl (.val (a := shrI .i64 st N) (by rw [if_neg (by omega)]) (.val hr (.val hr (.now' ?_))))) (.now _))) (.now _))
    rw [(bit_and _).1, hset]; rfl
  · have a1 := hget A (hA (by decide)).1 (hA (by decide)).2
    refine .no rfl (.bind (a := ((), _)) (.no rfl (.bind (a := ((), _)) (.no rfl (.bind (a := ((), _)) (.yes rfl (.val a1 (.val a1 (.val hr (.val hr (.now' ?_)))))) (.now _))) (.now _))) (.now _))
    rw [w64_id (by omega) (by omega), show (1 : Int) - ((b.getD A.toNat 0 : Nat) : Int) = ((1 - b.getD A.toNat 0 : Nat) : Int) by omega, hset]; rfl
  · have a1 := hget A (hA (by decide)).1 (hA (by decide)).2
    have a2 := hget B (hB (by decide)).1 (hB (by decide)).2
    refine .no rfl (.bind (a := ((), _)) (.no rfl (.bind (a := ((), _)) (.no rfl (.bind (a := ((), _)) (.no rfl (.bind (a := ((), _)) (.yes rfl (.val a1 (.val a1 (.val a2 (.val a2 (.val hr (.val hr (.now' ?_)))))))) (.now _))) (.now _))) (.now _))) (.now _))
    rw [ibits_and (int_bit lA) (int_bit lB), hset]; rfl
  · have a1 := hget A (hA (by decide)).1 (hA (by decide)).2
    have a2 := hget B (hB (by decide)).1 (hB (by decide)).2
    refine .no rfl (.bind (a := ((), _)) (.no rfl (.bind (a := ((), _)) (.no rfl (.bind (a := ((), _)) (.no rfl (.bind (a := ((), _)) (.no rfl (.bind (a := ((), _)) (.yes rfl (.val a1 (.val a1 (.val a2 (.val a2 (.val hr (.val hr (.now' ?_)))))))) (.now _))) (.now _))) (.now _))) (.now _))) (.now _))
    rw [ibits_or (int_bit lA) (int_bit lB), hset]; rfl
  · have a1 := hget A (hA (by decide)).1 (hA (by decide)).2
    have a2 := hget B (hB (by decide)).1 (hB (by decide)).2
    refine .no rfl (.bind (a := ((), _)) (.no rfl (.bind (a := ((), _)) (.no rfl (.bind (a := ((), _)) (.no rfl (.bind (a := ((), _)) (.no rfl (.bind (a := ((), _)) (.no rfl (.bind (a := ((), _)) (.yes rfl (.val a1 (.val a1 (.val a2 (.val a2 (.val hr (.val hr (.now' ?_)))))))) (.now _))) (.now _))) (.now _))) (.now _))) (.now _))) (.now _))
    rw [ibits_xor (int_bit lA) (int_bit lB), hset]; rfl
  · have a1 := hget A (hA (by decide)).1 (hA (by decide)).2
    have a2 := hget B (hB (by decide)).1 (hB (by decide)).2
    have a3 := hget C (hC (by decide)).1 (hC (by decide)).2
    have hA' := hA (by decide)
    have hB' := hB (by decide)
    have b1 : ∀ x : Int, rd ((rowOf b c.2.1.length).set (Int.toNat (i : Int)) x) A = some ((b.getD A.toNat 0 : Nat) : Int) := fun x => by
      refine rd_z hA'.1 ?_
      rw [Int.toNat_natCast, List.getElem?_set_ne (by omega)]
      exact rowOf_at (by omega)
    have b2 : ∀ x : Int, rd ((rowOf b c.2.1.length).set (Int.toNat (i : Int)) x) B = some ((b.getD B.toNat 0 : Nat) : Int) := fun x => by
      refine rd_z hB'.1 ?_
      rw [Int.toNat_natCast, List.getElem?_set_ne (by omega)]
      exact rowOf_at (by omega)
    have b3 : ∀ x : Int, rd ((rowOf b c.2.1.length).set (Int.toNat (i : Int)) x) (i : Int) = some x := fun x => by
      rw [Int.toNat_natCast]
      exact rd_some' (List.getElem?_set_self hlen)
    refine .no rfl (.bind (a := ((), _)) (.no rfl (.bind (a := ((), _)) (.no rfl (.bind (a := ((), _)) (.no rfl (.bind (a := ((), _)) (.no rfl (.bind (a := ((), _)) (.no rfl (.bind (a := ((), _)) (.no rfl (.bind (a := ((), _)) (.yes rfl (.val a3 (.val a3 (.val hr (.val hr (.val (b1 _) (.val (b1 _) (.bind (a := ((), _)) ?_ (.now _))))))))) (.now _))) (.now _))) (.now _))) (.now _))) (.now _))) (.now _))) (.now _))
    by_cases hv : b.getD A.toNat 0 = 1
    · refine .yes (by rw [hv]; rfl) (.val (b2 _) (.val (b2 _) (.val (b3 _) (.val (b3 _) (.now' ?_)))))
      rw [List.set_set, hset]
      show ((), rowOf (b ++ [_]) _) = ((), rowOf (b ++ [valG st inn b (7, A, B, C, N)]) _)
      rw [show valG st inn b (7, A, B, C, N) = b.getD B.toNat 0 from if_pos hv]
    · refine .no (by rw [beq_eq_false_iff_ne]; omega) (.now' ?_)
      rw [hset]
      show ((), rowOf (b ++ [_]) _) = ((), rowOf (b ++ [valG st inn b (7, A, B, C, N)]) _)
      rw [show valG st inn b (7, A, B, C, N) = b.getD C.toNat 0 from if_neg hv]

theorem vals_le {c : Cir} (hR : Right c) (st inn : Int) : ∀ (i : Nat), i ≤ c.2.1.length → ∀ x ∈ vals st inn (c.2.1.take i), x ≤ 1
  | 0, _, x, hx => by simp [vals] at hx
  | i + 1, h, x, hx => by
    have ih := vals_le hR st inn i (by omega)
    have hg := List.getElem?_eq_getElem (show i < c.2.1.length by omega)
    rw [List.take_add_one, hg, Option.toList_some, vals_snoc, List.mem_append] at hx
    rcases hx with hx | hx
    · exact ih x hx
    · rw [List.mem_singleton] at hx
      rw [hx]
      exact valG_le (hR.gate i _ hg) st inn ih
theorem values_ev {c : Cir} (hR : Right c) (st inn : Int) : Ev (fun k => values69 k c st inn) (ints (vals st inn c.2.1), ()) := by
  unfold values69
  refine .val (a := ()) (by rw [if_pos ⟨by omega, by omega, by have := hR.gates; omega⟩]) (.bind (a := ((), rowOf (vals st inn c.2.1) c.2.1.length)) (Lp.ev ?_) (.now' ?_))
  · refine Lp.fold (body := fun k => values69.l0 k c st inn) c.2.1 (fun b i => ((), i, rowOf b c.2.1.length)) (vS st inn) (fun b => ((), rowOf b c.2.1.length)) (fun i b => b = vals st inn (c.2.1.take i)) (fun i g b hx hb => ⟨?_, ?_⟩) (fun b _ => ?_) (b := []) rfl
    · have hi := get_lt hx
      exact values_step c st inn i g b hx (hR.gate i g hx) (by rw [hb, vals_len, List.length_take]; omega) (by rw [hb]; exact vals_le hR st inn i (by omega)) hR.gates
    · rw [List.take_add_one, hx, Option.toList_some, vals_snoc, ← hb]; rfl
    · simp only [values69.l0]
      exact .no (by simp) (.now _)
  · unfold rowOf
    rw [vals_len, Nat.sub_self]
    simp
end Go.Proofs.Ytjbdhaenakcclaa.Gr

/- Circuits of gates: the value of a gate, backwards, with what is known already. No program in sight. -/
set_option linter.unusedVariables false
noncomputable section
namespace Go.Proofs.Ytjbdhaenakcclaa.Gr
open Go Go.Proofs.Ytjbdhaenakcclaa.Gp

theorem Ev.succ {α : Type} {f : Nat → Option α} {v : α} (h : Ev (fun k => f (k + 1)) v) : Ev f v := by
  obtain ⟨n, h⟩ := h
  refine ⟨n + 1, fun k hk => ?_⟩
  obtain ⟨j, rfl⟩ : ∃ j, k = j + 1 := ⟨k - 1, by omega⟩
  exact h j (by omega)

/-- the value of the j-th -/
def V (c : Cir) (st inn : Int) (j : Nat) : Nat := (vals st inn c.2.1).getD j 0
theorem vals_app (st inn : Int) (l1 l2 : List Gate) : ∃ t, vals st inn (l1 ++ l2) = vals st inn l1 ++ t := by
  have : ∀ (l : List Gate) (v : List Nat), ∃ t, l.foldl (vS st inn) v = v ++ t := by
    intro l
    induction l with
    | nil => intro v; exact ⟨[], by simp⟩
    | cons x l ih =>
      intro v
      obtain ⟨t, ht⟩ := ih (vS st inn v x)
      exact ⟨[valG st inn v x] ++ t, by rw [List.foldl_cons, ht]; unfold vS; rw [List.append_assoc]⟩
  unfold vals
  rw [List.foldl_append]
  exact this l2 _
theorem V_pre (c : Cir) (st inn : Int) {i j : Nat} (hj : j < i) (hi : i ≤ c.2.1.length) : (vals st inn (c.2.1.take i)).getD j 0 = V c st inn j := by
  obtain ⟨t, ht⟩ := vals_app st inn (c.2.1.take i) (c.2.1.drop i)
  rw [List.take_append_drop] at ht
  unfold V
  rw [ht, List.getD_eq_getElem?_getD, List.getD_eq_getElem?_getD, List.getElem?_append_left (by rw [vals_len, List.length_take]; omega)]
theorem V_at (c : Cir) (st inn : Int) {i : Nat} {g : Gate} (h : c.2.1[i]? = some g) : V c st inn i = valG st inn (vals st inn (c.2.1.take i)) g := by
  have hi := get_lt h
  rw [← V_pre c st inn (Nat.lt_succ_self i) (by omega), List.take_add_one, h, Option.toList_some, vals_snoc, List.getD_eq_getElem?_getD, List.getElem?_append_right (by rw [vals_len, List.length_take]; omega)]
  have : i - (vals st inn (c.2.1.take i)).length = 0 := by rw [vals_len, List.length_take]; omega
  rw [this]; rfl
theorem V_le {c : Cir} (hR : Right c) (st inn : Int) (j : Nat) : V c st inn j ≤ 1 := by
  have := vals_le hR st inn c.2.1.length (Nat.le_refl _)
  rw [List.take_length] at this
  exact getD_le this j

theorem b_xor1 {a : Nat} (h : a ≤ 1) : ibits .xor .i64 (a : Int) 1 = ((1 - a : Nat) : Int) := by
  have : a = 0 ∨ a = 1 := by omega
  rcases this with rfl | rfl <;> rfl
theorem b_mn {a b : Nat} (h : a ≤ 1) (h2 : b ≤ 1) : mnI (a : Int) (b : Int) = ((a &&& b : Nat) : Int) := by
  have h : a = 0 ∨ a = 1 := by omega
  have h2 : b = 0 ∨ b = 1 := by omega
  rcases h with rfl | rfl <;> rcases h2 with rfl | rfl <;> rfl
theorem b_mx {a b : Nat} (h : a ≤ 1) (h2 : b ≤ 1) : mxI (a : Int) (b : Int) = ((a ||| b : Nat) : Int) := by
  have h : a = 0 ∨ a = 1 := by omega
  have h2 : b = 0 ∨ b = 1 := by omega
  rcases h with rfl | rfl <;> rcases h2 with rfl | rfl <;> rfl
theorem b_xor {a b : Nat} (h : a ≤ 1) (h2 : b ≤ 1) : Int.tmod (w64 ((a : Int) + (b : Int))) 2 = ((a ^^^ b : Nat) : Int) := by
  have h : a = 0 ∨ a = 1 := by omega
  have h2 : b = 0 ∨ b = 1 := by omega
  rcases h with rfl | rfl <;> rcases h2 with rfl | rfl <;> rfl

abbrev Map := List (Int × Int)
def RightM (c : Cir) (st inn : Int) (m : Map) : Prop := ∀ (k x : Int), mget (.int .i64) (.int .i64) m k = some x → ∃ j : Nat, k = j ∧ j < c.2.1.length ∧ x = ((V c st inn j : Nat) : Int)
theorem RightM.put {c : Cir} {st inn : Int} {m : Map} (h : RightM c st inn m) {i : Nat} (hi : i < c.2.1.length) : RightM c st inn (mput (.int .i64) (.int .i64) m (i : Int) ((V c st inn i : Nat) : Int)) := by
  intro k x hx
  have hx := (mget_mput (kk := .int .i64) (kv := .int .i64) rfl).symm.trans hx
  by_cases he : eqB (.int .i64) k (i : Int) = true
  · have : k = (i : Int) := (eqB_iff (k := .int .i64) rfl).1 he
    have hx := (if_pos he).symm.trans hx
    exact ⟨i, this, hi, (Option.some.inj hx).symm⟩
  · exact h k x ((if_neg he).symm.trans hx)
theorem RightM.nil (c : Cir) (st inn : Int) : RightM c st inn [] := fun k x h => by cases h

theorem value_ev {c : Cir} (hR : Right c) (st inn : Int) : ∀ (n i : Nat), i < n → i < c.2.1.length → ∀ m, RightM c st inn m → ∃ m', RightM c st inn m' ∧ Ev (fun k => Value19 k c st inn (i : Int) () m) (((V c st inn i : Nat) : Int), m') := by
  intro n
  induction n with
  | zero => intro i h; omega
  | succ n ih =>
    intro i hin hi m hm
    obtain ⟨g, hx⟩ : ∃ g, c.2.1[i]? = some g := ⟨_, List.getElem?_eq_getElem hi⟩
    have call : ∀ (z : Int), 0 ≤ z → z < (i : Int) → ∀ m, RightM c st inn m → ∃ m', RightM c st inn m' ∧ Ev (fun k => (GrpValue19 k).1 z c st inn () () m) (((V c st inn z.toNat : Nat) : Int), (), m') := by
      intro z h0 h1 m hm
      obtain ⟨m', r, e⟩ := ih z.toNat (by omega) (by omega) m hm
      refine ⟨m', r, Ev.succ ?_⟩
      rw [show ((z.toNat : Nat) : Int) = z by omega] at e
      exact .bind e (.now _)
    cases hk : mget (.int .i64) (.int .i64) m (i : Int) with
    | some x =>
      obtain ⟨j, e, _, rfl⟩ := hm _ _ hk
      have : j = i := by omega
      subst this
      refine ⟨m, hm, Ev.succ ?_⟩
      show Ev (fun k => Value19.b (GrpValue19 k) k c st inn (j : Int) () m) _
      simp only [Value19.b, hk]
      exact .yes rfl (.now _)
    | none =>
      have hgo := hR.gate i g hx
      obtain ⟨hkd, hA, hB, hC, hN0, hN1⟩ := gate_ok hgo
      have hV := V_at c st inn hx
      have pre : ∀ z : Int, 0 ≤ z → z < (i : Int) → (vals st inn (c.2.1.take i)).getD z.toNat 0 = V c st inn z.toNat := fun z h0 h1 => V_pre c st inn (by omega) (by omega)
      have le := V_le hR st inn
      obtain ⟨kd, A, B, C, N⟩ := g
      dsimp only at hkd hA hB hC hN0 hN1
      have start : ∀ m', RightM c st inn m' → (Ev (fun k => (Value19.b (GrpValue19 k) k c st inn (i : Int) () m)) (((V c st inn i : Nat) : Int), mput (.int .i64) (.int .i64) m' (i : Int) ((V c st inn i : Nat) : Int))) →
          ∃ m', RightM c st inn m' ∧ Ev (fun k => Value19 k c st inn (i : Int) () m) (((V c st inn i : Nat) : Int), m') := fun m' h e => ⟨_, h.put hi, Ev.succ e⟩
      rcases kinds hkd with rfl | rfl | rfl | rfl | rfl | rfl | rfl | rfl
      · have hv : ((V c st inn i : Nat) : Int) = N := by rw [hV]; show ((N.toNat : Nat) : Int) = N; omega
        refine start m hm ?_
        simp only [Value19.b, hk]
        refine .no rfl (.val (rd_some' hx) (.bind (a := ((), ((V c st inn i : Nat) : Int), m, ())) ?_ (.now _)))
        exact .yes rfl (.now' (by rw [hv]))
      · have hv : ((V c st inn i : Nat) : Int) = ibits .and .i64 (shrI .i64 inn N) 1 := by rw [hV, (bit_and _).1]; rfl
        refine start m hm ?_
        simp only [Value19.b, hk]
        refine .no rfl (.val (rd_some' hx) (.bind (a := ((), ((V c st inn i : Nat) : Int), m, ())) ?_ (.now _)))
        refine .no rfl (.bind (a := (st, inn, (), ((1 : Int), A, B, C, N), (c, st, inn, (), ()), true, m, ())) (.yes rfl (.now _)) ?_)
        dsimp only
        refine .bind (a := ((), ((V c st inn i : Nat) : Int), m, ())) (.yes rfl (.val (a := shrI .i64 inn N) ?_ (.now' (by rw [hv])))) (.now _)
        exact if_neg (by omega)
      · have hv : ((V c st inn i : Nat) : Int) = ibits .and .i64 (shrI .i64 st N) 1 := by rw [hV, (bit_and _).1]; rfl
        refine start m hm ?_
        simp only [Value19.b, hk]
        refine .no rfl (.val (rd_some' hx) (.bind (a := ((), ((V c st inn i : Nat) : Int), m, ())) ?_ (.now _)))
        refine .no rfl (.bind (a := (st, inn, (), ((2 : Int), A, B, C, N), (c, st, inn, (), ()), true, m, ())) (.no rfl (.now _)) ?_)
        dsimp only
        refine .bind (a := ((), ((V c st inn i : Nat) : Int), m, ())) (.yes rfl (.val (a := shrI .i64 st N) ?_ (.now' (by rw [hv])))) (.now _)
        exact if_neg (by omega)
      · skip
        obtain ⟨m1, r1, e1⟩ := call A (hA (by decide)).1 (hA (by decide)).2 m hm
        have pA := pre A (hA (by decide)).1 (hA (by decide)).2
        have hv : ((V c st inn i : Nat) : Int) = ibits .xor .i64 ((V c st inn A.toNat : Nat) : Int) 1 := by
          rw [hV, b_xor1 (le _), ← pA]; rfl
        refine start m1 r1 ?_
        simp only [Value19.b, hk]
        refine .no rfl (.val (rd_some' hx) (.bind (a := ((), ((V c st inn i : Nat) : Int), m1, ())) ?_ (.now _)))
        refine .no rfl (.bind (a := (st, inn, (), ((3 : Int), A, B, C, N), (c, st, inn, (), ()), false, m, ())) (.no rfl (.now _)) ?_)
        dsimp only
        refine .bind (a := ((), ((V c st inn i : Nat) : Int), m1, ())) (.no rfl (.bind (a := ((), ((V c st inn i : Nat) : Int), m1, ())) (.yes rfl (.bind e1 (.now' (by rw [hv])))) (.now _))) (.now _)
      · skip
        obtain ⟨m1, r1, e1⟩ := call A (hA (by decide)).1 (hA (by decide)).2 m hm
        have pA := pre A (hA (by decide)).1 (hA (by decide)).2
        obtain ⟨m2, r2, e2⟩ := call B (hB (by decide)).1 (hB (by decide)).2 m1 r1
        have pB := pre B (hB (by decide)).1 (hB (by decide)).2
        have hv : ((V c st inn i : Nat) : Int) = mnI ((V c st inn A.toNat : Nat) : Int) ((V c st inn B.toNat : Nat) : Int) := by
          rw [hV, b_mn (le _) (le _), ← pA, ← pB]; rfl
        refine start m2 r2 ?_
        simp only [Value19.b, hk]
        refine .no rfl (.val (rd_some' hx) (.bind (a := ((), ((V c st inn i : Nat) : Int), m2, ())) ?_ (.now _)))
        refine .no rfl (.bind (a := (st, inn, (), ((4 : Int), A, B, C, N), (c, st, inn, (), ()), false, m, ())) (.no rfl (.now _)) ?_)
        dsimp only
        refine .bind (a := ((), ((V c st inn i : Nat) : Int), m2, ())) (.no rfl (.bind (a := ((), ((V c st inn i : Nat) : Int), m2, ())) (.no rfl (.bind (a := ((), ((V c st inn i : Nat) : Int), m2, ())) (.yes rfl (.bind e1 (.bind e2 (.now' (by rw [hv]))))) (.now _))) (.now _))) (.now _)
      · skip
        obtain ⟨m1, r1, e1⟩ := call A (hA (by decide)).1 (hA (by decide)).2 m hm
        have pA := pre A (hA (by decide)).1 (hA (by decide)).2
        obtain ⟨m2, r2, e2⟩ := call B (hB (by decide)).1 (hB (by decide)).2 m1 r1
        have pB := pre B (hB (by decide)).1 (hB (by decide)).2
        have hv : ((V c st inn i : Nat) : Int) = mxI ((V c st inn A.toNat : Nat) : Int) ((V c st inn B.toNat : Nat) : Int) := by
          rw [hV, b_mx (le _) (le _), ← pA, ← pB]; rfl
        refine start m2 r2 ?_
        simp only [Value19.b, hk]
        refine .no rfl (.val (rd_some' hx) (.bind (a := ((), ((V c st inn i : Nat) : Int), m2, ())) ?_ (.now _)))
        refine .no rfl (.bind (a := (st, inn, (), ((5 : Int), A, B, C, N), (c, st, inn, (), ()), false, m, ())) (.no rfl (.now _)) ?_)
        dsimp only
        refine .bind (a := ((), ((V c st inn i : Nat) : Int), m2, ())) (.no rfl (.bind (a := ((), ((V c st inn i : Nat) : Int), m2, ())) (.no rfl (.bind (a := ((), ((V c st inn i : Nat) : Int), m2, ())) (.no rfl (.bind (a := ((), ((V c st inn i : Nat) : Int), m2, ())) (.yes rfl (.bind e1 (.bind e2 (.now' (by rw [hv]))))) (.now _))) (.now _))) (.now _))) (.now _)
      · skip
        obtain ⟨m1, r1, e1⟩ := call A (hA (by decide)).1 (hA (by decide)).2 m hm
        have pA := pre A (hA (by decide)).1 (hA (by decide)).2
        obtain ⟨m2, r2, e2⟩ := call B (hB (by decide)).1 (hB (by decide)).2 m1 r1
        have pB := pre B (hB (by decide)).1 (hB (by decide)).2
        have hv : ((V c st inn i : Nat) : Int) = Int.tmod (w64 (((V c st inn A.toNat : Nat) : Int) + ((V c st inn B.toNat : Nat) : Int))) 2 := by
          rw [hV, b_xor (le _) (le _), ← pA, ← pB]; rfl
        refine start m2 r2 ?_
        simp only [Value19.b, hk]
        refine .no rfl (.val (rd_some' hx) (.bind (a := ((), ((V c st inn i : Nat) : Int), m2, ())) ?_ (.now _)))
        refine .no rfl (.bind (a := (st, inn, (), ((6 : Int), A, B, C, N), (c, st, inn, (), ()), false, m, ())) (.no rfl (.now _)) ?_)
        dsimp only
        refine .bind (a := ((), ((V c st inn i : Nat) : Int), m2, ())) (.no rfl (.bind (a := ((), ((V c st inn i : Nat) : Int), m2, ())) (.no rfl (.bind (a := ((), ((V c st inn i : Nat) : Int), m2, ())) (.no rfl (.bind (a := ((), ((V c st inn i : Nat) : Int), m2, ())) (.no rfl (.bind (a := ((), ((V c st inn i : Nat) : Int), m2, ())) (.yes rfl (.bind e1 (.bind e2 (.now' (by rw [hv]))))) (.now _))) (.now _))) (.now _))) (.now _))) (.now _)
      · obtain ⟨m1, r1, e1⟩ := call C (hC (by decide)).1 (hC (by decide)).2 m hm
        obtain ⟨m2, r2, e2⟩ := call A (hA (by decide)).1 (hA (by decide)).2 m1 r1
        have pA := pre A (hA (by decide)).1 (hA (by decide)).2
        have pB := pre B (hB (by decide)).1 (hB (by decide)).2
        have pC := pre C (hC (by decide)).1 (hC (by decide)).2
        by_cases hva : V c st inn A.toNat = 1
        · obtain ⟨m3, r3, e3⟩ := call B (hB (by decide)).1 (hB (by decide)).2 m2 r2
          have hv : V c st inn i = V c st inn B.toNat := by
            rw [hV, ← pB]
            exact if_pos (pA.trans hva)
          refine start m3 r3 ?_
          simp only [Value19.b, hk]
          refine .no rfl (.val (rd_some' hx) (.bind (a := ((), ((V c st inn i : Nat) : Int), m3, ())) ?_ (.now _)))
          refine .no rfl (.bind (a := (st, inn, (), ((7 : Int), A, B, C, N), (c, st, inn, (), ()), false, m, ())) (.no rfl (.now _)) ?_)
          dsimp only
          refine .bind (a := ((), ((V c st inn i : Nat) : Int), m3, ())) (.no rfl (.bind (a := ((), ((V c st inn i : Nat) : Int), m3, ())) (.no rfl (.bind (a := ((), ((V c st inn i : Nat) : Int), m3, ())) (.no rfl (.bind (a := ((), ((V c st inn i : Nat) : Int), m3, ())) (.no rfl (.bind (a := ((), ((V c st inn i : Nat) : Int), m3, ())) (.no rfl (.bind (a := ((), ((V c st inn i : Nat) : Int), m3, ())) (.yes rfl (.bind e1 (.bind e2 (.bind (a := ((), ((V c st inn i : Nat) : Int), m3, ())) (.yes ?_ (.bind e3 (.now' (by rw [hv])))) (.now _))))) (.now _))) (.now _))) (.now _))) (.now _))) (.now _))) (.now _)
          exact decide_eq_true (by show ((V c st inn A.toNat : Nat) : Int) > 0; rw [hva]; decide)
        · have hv : V c st inn i = V c st inn C.toNat := by
            rw [hV, ← pC]
            exact if_neg (fun h => hva (pA.symm.trans h))
          refine start m2 r2 ?_
          simp only [Value19.b, hk]
          refine .no rfl (.val (rd_some' hx) (.bind (a := ((), ((V c st inn i : Nat) : Int), m2, ())) ?_ (.now _)))
          refine .no rfl (.bind (a := (st, inn, (), ((7 : Int), A, B, C, N), (c, st, inn, (), ()), false, m, ())) (.no rfl (.now _)) ?_)
          dsimp only
          refine .bind (a := ((), ((V c st inn i : Nat) : Int), m2, ())) (.no rfl (.bind (a := ((), ((V c st inn i : Nat) : Int), m2, ())) (.no rfl (.bind (a := ((), ((V c st inn i : Nat) : Int), m2, ())) (.no rfl (.bind (a := ((), ((V c st inn i : Nat) : Int), m2, ())) (.no rfl (.bind (a := ((), ((V c st inn i : Nat) : Int), m2, ())) (.no rfl (.bind (a := ((), ((V c st inn i : Nat) : Int), m2, ())) (.yes rfl (.bind e1 (.bind e2 (.bind (a := ((), ((V c st inn i : Nat) : Int), m2, ())) (.no ?_ (.now' (by rw [hv]))) (.now _))))) (.now _))) (.now _))) (.now _))) (.now _))) (.now _))) (.now _)
          have := le A.toNat
          exact decide_eq_false (by show ¬ ((V c st inn A.toNat : Nat) : Int) > 0; omega)
end Go.Proofs.Ytjbdhaenakcclaa.Gr

/- Circuits of gates: steps. No program in sight. -/
set_option linter.unusedVariables false
noncomputable section
namespace Go.Proofs.Ytjbdhaenakcclaa.Gr
open Go Go.Proofs.Ytjbdhaenakcclaa.Gp

/-- the values of the gates that are named, joined -/
def line (c : Cir) (st inn : Int) (l : List Int) : List Nat := l.map (fun x => V c st inn x.toNat)
theorem line_le {c : Cir} (hR : Right c) (st inn : Int) (l : List Int) : ∀ b ∈ line c st inn l, b ≤ 1 := by
  intro b hb
  obtain ⟨x, _, rfl⟩ := List.mem_map.1 hb
  exact V_le hR st inn _
def InG (c : Cir) (l : List Int) : Prop := l.length ≤ 10 ∧ ∀ x ∈ l, 0 ≤ x ∧ x < (c.2.1.length : Int)
theorem bits_ev {c : Cir} (hR : Right c) (st inn : Int) (l : List Int) (hl : InG c l) : Ev (fun k => bits70 k (ints (vals st inn c.2.1)) l) (((pk (line c st inn l) : Nat) : Int), ()) := by
  unfold bits70
  refine .bind (a := ((pk (line c st inn l) : Nat) : Int)) (Lp.ev ?_) (.now _)
  have := Lp.fold (body := fun k => bits70.l0 k (ints (vals st inn c.2.1)) l) l (fun (m : List Nat) i => ((pk m : Int), i)) (fun m x => m ++ [V c st inn x.toNat]) (fun m => (pk m : Int)) (fun i m => m = line c st inn (l.take i)) (fun i x m hx hm => ⟨?_, ?_⟩) (fun m _ => ?_) (b := []) rfl
  · rw [foldl_snoc, List.nil_append] at this
    exact this
  · have hi := get_lt hx
    have hll := hl.1
    obtain ⟨x0, x1⟩ := hl.2 x (get_mem hx)
    have hlen : m.length = i := by rw [hm]; unfold line; rw [List.length_map, List.length_take]; omega
    have hlt : pk m < 2 ^ i := by rw [← hlen]; exact pk_lt m (by rw [hm]; exact line_le hR st inn _)
    have hv : rd (ints (vals st inn c.2.1)) x = some ((V c st inn x.toNat : Nat) : Int) := by
      refine rd_z x0 ?_
      unfold ints V
      rw [List.getElem?_map, List.getD_eq_getElem?_getD, List.getElem?_eq_getElem (show x.toNat < (vals st inn c.2.1).length by rw [vals_len]; omega)]
      rfl
    simp only [bits70.l0]
    refine .yes (decide_eq_true (by omega)) (.val (rd_some' hx) (.val hv (.val (a := shlI .i64 ((V c st inn x.toNat : Nat) : Int) (i : Int)) ?_ (.now' ?_))))
    · rw [if_neg (by omega)]
    · rw [or_bit hlt (V_le hR st inn _) (by omega), pk_snoc, hlen, w64_id (by omega) (by omega)]
  · rw [hm, take_snoc hx]; unfold line; rw [List.map_append]; rfl
  · simp only [bits70.l0]
    exact .no (by simp) (.now _)

theorem line_lp {c : Cir} (hR : Right c) (st inn : Int) (w : Nat) (hw : w < 2) (l : List Int) (hl : InG c l) (o2 : List (List Int)) : ∀ (suf pre : List Int) (m : Map) (o1 : List Int), l = pre ++ suf → RightM c st inn m → o1.length = 2 → o1[w]? = some ((pk (line c st inn pre) : Nat) : Int) →
    ∃ m' o1', RightM c st inn m' ∧ o1'.length = 2 ∧ o1'[w]? = some ((pk (line c st inn l) : Nat) : Int) ∧ (∀ j, j ≠ w → o1'[j]? = o1[j]?) ∧
      Lp (fun k => Stepped20.l0 k st inn (w : Int) l) (c, (), (), (), (pre.length : Int), m, o1, o2) (c, (), (), (), m', o1', o2) := by
  intro suf
  induction suf with
  | nil =>
    intro pre m o1 h hm ho hp
    rw [List.append_nil] at h
    subst h
    refine ⟨m, o1, hm, ho, hp, fun _ _ => rfl, .done ?_⟩
    simp only [Stepped20.l0]
    exact .no (by simp) (.now _)
  | cons x suf ih =>
    intro pre m o1 h hm ho hp
    have hx : l[pre.length]? = some x := by rw [h]; simp
    have hi := get_lt hx
    have hll := hl.1
    obtain ⟨x0, x1⟩ := hl.2 x (get_mem hx)
    obtain ⟨m', r, e⟩ := value_ev hR st inn c.2.1.length x.toNat (by omega) (by omega) m hm
    rw [show ((x.toNat : Nat) : Int) = x by omega] at e
    have hlen : (line c st inn pre).length = pre.length := by unfold line; rw [List.length_map]
    have hlt : pk (line c st inn pre) < 2 ^ pre.length := by
      have := pk_lt _ (line_le hR st inn pre)
      rwa [hlen] at this
    have hpk : pk (line c st inn (pre ++ [x])) = pk (line c st inn pre) + V c st inn x.toNat * 2 ^ pre.length := by
      unfold line
      rw [List.map_append, List.map_singleton, pk_snoc, List.length_map]
    obtain ⟨m2, o', g1, g2, g3, g4, g5⟩ := ih (pre ++ [x]) m' (o1.set w ((pk (line c st inn (pre ++ [x])) : Nat) : Int)) (by rw [h]; simp) r (by rw [List.length_set]; exact ho) (List.getElem?_set_self (by omega))
    refine ⟨m2, o', g1, g2, g3, fun j hj => by rw [g4 j hj, List.getElem?_set_ne (Ne.symm hj)], .step ?_ g5⟩
    simp only [Stepped20.l0]
    refine .yes (decide_eq_true (by omega)) (.val (rd_some' hx) (.val (a := ()) (if_pos ⟨by omega, by omega⟩) (.val (rd_some' hp) (.bind e (.val (a := shlI .i64 ((V c st inn x.toNat : Nat) : Int) (pre.length : Int)) (if_neg (by omega)) (.val (a := ()) (if_pos ⟨by omega, by omega⟩) (.val (rd_some' hp) (.now' ?_))))))))
    rw [add_bit hlt (V_le hR st inn _) (by omega), w64_id (by omega) (by omega), ← hpk, List.length_append]
    simp

theorem stepped_ev {c : Cir} (hR : Right c) (st inn : Int) : Ev (fun k => Stepped20 k c st inn) ((((pk (line c st inn c.2.2.1) : Nat) : Int), ((pk (line c st inn c.2.2.2.1) : Nat) : Int), ()), ()) := by
  unfold Stepped20
  obtain ⟨m1, o1, a1, a2, a3, a4, a5⟩ := line_lp hR st inn 0 (by omega) c.2.2.1 hR.outs [c.2.2.1, c.2.2.2.1] c.2.2.1 [] [] [0, 0] rfl (.nil c st inn) rfl rfl
  obtain ⟨m2, o2, b1, b2, b3, b4, b5⟩ := line_lp hR st inn 1 (by omega) c.2.2.2.1 hR.next [c.2.2.1, c.2.2.2.1] c.2.2.2.1 [] m1 o1 rfl a1 a2 (by rw [a4 1 (by omega)]; rfl)
  have h0 : o2[0]? = some ((pk (line c st inn c.2.2.1) : Nat) : Int) := by rw [b4 0 (by omega)]; exact a3
  refine .bind (a := ((), o2)) (Lp.ev ?_) ?_
  · refine Lp.step (s' := (c, (), (), (), 1, m1, o1, [c.2.2.1, c.2.2.2.1])) ?_ (Lp.step (s' := (c, (), (), (), 2, m2, o2, [c.2.2.1, c.2.2.2.1])) ?_ (Lp.done ?_))
    · simp only [Stepped20.l1]
      exact .yes rfl (.val rfl (.val rfl (.bind a5.ev (.now' (by rw [w64_id (by omega) (by omega)]; rfl)))))
    · simp only [Stepped20.l1]
      exact .yes rfl (.val rfl (.val rfl (.bind b5.ev (.now' (by rw [w64_id (by omega) (by omega)]; rfl)))))
    · simp only [Stepped20.l1]
      exact .no rfl (.now _)
  · exact .val rfl (.val (rd_at (i := 0) rfl h0) (.val rfl (.val (rd_at (i := 1) rfl b3) (.now _))))
end Go.Proofs.Ytjbdhaenakcclaa.Gr

/- What an argument of a law reads as, kind by kind. -/
set_option linter.unusedVariables false
noncomputable section
namespace Go.Proofs.Ytjbdhaenakcclaa.Gp
open Go Go.ChangeShapes Go.WideShapes Go.RowKit

/-- the input's memory, all of it frozen -/
def memH (W : World) : Hp := fun b => W.heap[b]?

structure Gd (P : Program) (t : TypeId) (k : K) (wf : k.den → Prop) (siz : k.den → Nat) : Prop where
  cells : P.cellsOf t = k.w
  one : k.one = true
  pur : k.pur = true
  val : ∀ {W : World} {r : Reach} {base : Nat} {v : Value}, Value.okWide P W r base t v → v = k.mk v.cells.toList
  read : ∀ {H : Type} {enc : TypeId × Value → H} {W : World} {base : Nat} {spare : Nat → Bool} {held : Bool} {fuel : Nat} {cs : List Value} {x : DataW H × List MemPlace},
    DataW.trod enc P W base spare held fuel t cs = some x → (∀ n ∈ x.1.weights P t, n ≤ reachBytes) → ∃ y, (∀ L, Lv (memH W) L k y cs) ∧ wf y ∧ siz y ≤ Rows.uptoBulk x.1

variable {P : Program}

theorem str_len {s : ByteArray} : s.data.toList.length = s.size := Array.length_toList
theorem gd_int {t : TypeId} {k : IntKind} (hu : P.underlying t = some (.int k)) (hc : P.cellsOf t = 1) : Gd P t (.int k) (fun (y : Int) => (Lit.int k y).wf = true) (fun _ => 1) :=
  ⟨hc, rfl, rfl, fun h => by obtain ⟨n, rfl⟩ := okWide_int hu h; rfl, fun h _ => by
    obtain ⟨n, rfl, rfl, hw⟩ := DataW.trod_int hu h
    exact ⟨n, fun _ => rfl, hw, by simp [Rows.uptoBulk]⟩⟩
theorem gd_bool {t : TypeId} (hu : P.underlying t = some .bool) (hc : P.cellsOf t = 1) : Gd P t .bool (fun _ => True) (fun _ => 1) :=
  ⟨hc, rfl, rfl, fun h => by
    simp only [Value.okWide, hu, Cell.okWide] at h
    rename_i v
    cases v <;> first | rfl | (simp_all [Cell.ok]; done), fun h _ => by
    obtain ⟨n, rfl, rfl⟩ := DataW.trod_bool hu h
    exact ⟨n, fun _ => rfl, trivial, by simp [Rows.uptoBulk]⟩⟩
theorem gd_str {t : TypeId} (hu : P.underlying t = some .string) (hc : P.cellsOf t = 1) : Gd P t .str (fun (y : ByteArray) => y.size ≤ 140737488351232) (fun (y : ByteArray) => y.size + 1) :=
  ⟨hc, rfl, rfl, fun h => by
    simp only [Value.okWide, hu, Cell.okWide] at h
    rename_i v
    cases v <;> first | rfl | (simp_all [Cell.ok]; done), fun h hw => by
    obtain ⟨s, rfl, rfl, _⟩ := DataW.trod_string hu h
    refine ⟨s, fun _ => rfl, ?_, ?_⟩
    · have := hw s.data.toList.length (by simp [DataW.weights])
      rw [str_len] at this
      exact this
    · simp only [Rows.uptoBulk]
      rw [str_len]
      omega⟩

theorem weights_all {H : Type} {e : TypeId} {n : Nat} : ∀ {l : List (DataW H)} {d : DataW H}, d ∈ l → n ∈ d.weights P e → n ∈ DataW.weightsAll P e l
  | x :: r, d, hd, hn => by
    rw [DataW.weightsAll]
    rcases List.mem_cons.1 hd with rfl | hd
    · exact List.mem_append_left _ hn
    · exact List.mem_append_right _ (weights_all hd hn)
theorem buildL {α : Type} {H : Type} {wf : α → Prop} {siz : α → Nat} : ∀ (es : List (DataW H × List MemPlace)) (p : Nat → α → Prop),
    (∀ i x, es[i]? = some x → ∃ y, p i y ∧ wf y ∧ siz y ≤ Rows.uptoBulk x.1) →
    ∃ ys : List α, ys.length = es.length ∧ (∀ j y, ys[j]? = some y → p j y ∧ wf y) ∧ (ys.map siz).sum ≤ Rows.uptoBulkAll (es.map (·.1))
  | [], _, _ => ⟨[], rfl, fun j y h => by simp at h, by simp⟩
  | x :: r, p, h => by
    obtain ⟨y, hp, hw, hs⟩ := h 0 x rfl
    obtain ⟨ys, hl, hy, hsum⟩ := buildL r (fun i => p (i + 1)) (fun i x hx => h (i + 1) x (by simpa using hx))
    refine ⟨y :: ys, by simp [hl], fun j z hz => ?_, ?_⟩
    · cases j with
      | zero => simp only [List.getElem?_cons_zero, Option.some.injEq] at hz; subst hz; exact ⟨hp, hw⟩
      | succ j => exact hy j z (by simpa using hz)
    · simp only [List.map_cons, List.sum_cons, Rows.uptoBulkAll]
      omega

def sizL {α : Type} (siz : α → Nat) (l : List α) : Nat := (l.map siz).sum + 1
def wfL {α : Type} (B : Nat) (wf : α → Prop) (l : List α) : Prop := l.length * B ≤ 140737488351232 ∧ ∀ y ∈ l, wf y

theorem LvL_mk {α : Type} {R : α → List Value → Prop} {w : Nat} {C : List Value} : ∀ {ys : List α} {o : Nat}, (∀ j y, ys[j]? = some y → ∃ c : List Value, c.length = w ∧ R y c ∧ ∀ i u, c[i]? = some u → C[o + (j * w + i)]? = some u) →
    LvL R ys ((C.drop o).take (ys.length * w))
  | [], o, h => by simp [LvL]
  | y :: ys, o, h => by
    obtain ⟨c, hc, hr, hu⟩ := h 0 y rfl
    have e : (C.drop o).take w = c := by
      apply List.ext_getElem?
      intro i
      rw [cut_get]
      by_cases hi : i < w
      · rw [if_pos hi]
        have hi' : i < c.length := by omega
        have := hu i c[i] (List.getElem?_eq_getElem hi')
        rw [Nat.zero_mul, Nat.zero_add] at this
        rw [this, List.getElem?_eq_getElem hi']
      · rw [if_neg hi, List.getElem?_eq_none (by omega)]
    refine ⟨c, (C.drop (o + w)).take (ys.length * w), ?_, hr, LvL_mk (fun j z hz => ?_)⟩
    · rw [List.length_cons, Nat.add_mul, Nat.one_mul, Nat.add_comm (ys.length * w) w, List.take_add, e, List.drop_drop]
    · obtain ⟨c', h1, h2, h3⟩ := h (j + 1) z hz
      refine ⟨c', h1, h2, fun i u hi => ?_⟩
      have := h3 i u hi
      rw [Nat.add_mul, Nat.one_mul] at this
      rw [show o + w + (j * w + i) = o + (j * w + w + i) by omega]
      exact this

theorem gd_sl {t e : TypeId} {k : K} {wf : k.den → Prop} {siz : k.den → Nat} {B : Nat} (hu : P.underlying t = some (.slice e)) (hc : P.cellsOf t = 1) (hB : P.bytesOf e = B) (hk : 0 < k.w) (r : Gd P e k wf siz) :
    Gd P t (.sl k) (wfL (α := k.den) B wf) (sizL (α := k.den) siz) :=
  ⟨hc, rfl, r.pur, fun h => by obtain ⟨a, len, cap, rfl⟩ := okWide_slice hu h; rfl, fun {H enc W base spare held fuel cs x} h hw => by
    rcases DataW.trod_slice hu h with ⟨rfl, rfl⟩ | ⟨a, len, cap, elems, rest, n, _, rfl, rfl, hb, hl, hm, hlen, hel, _, _⟩
    · exact ⟨([] : List k.den), fun L => ⟨r.pur, none, 0, rfl, Nat.le_refl _, fun hn => absurd rfl hn⟩, ⟨by simp, fun y hy => by simp at hy⟩, by simp [sizL, Rows.uptoBulk]⟩
    · simp only [DataW.weights, hu] at hw
      have hw1 : (elems.length + rest.length) * B ≤ 140737488351232 := by
        have := hw ((elems.length + rest.length) * B) (by simp [hB])
        exact this
      obtain ⟨ys, hyl, hyp, hys⟩ := buildL (wf := wf) (siz := siz) elems (fun i y => ∃ c : List Value, c.length = k.w ∧ (∀ L, Lv (memH W) L k y c) ∧ ∀ j u, c[j]? = some u → W.cell? (a.add (i * k.w + j)) = some u) (fun i z hz => by
        have hi : i < len := by
          have := (List.getElem?_eq_some_iff.1 hz).1
          omega
        have h1 := hel i hi
        rw [hz] at h1
        obtain ⟨c, hc1, hc2⟩ := Option.bind_eq_some_iff.1 h1
        obtain ⟨y, hK, hwf, hsz⟩ := r.read hc2 (fun q hq => hw q (List.mem_cons_of_mem _ (List.mem_append_left _ (weights_all (List.mem_map.2 ⟨z, List.mem_of_getElem? hz, rfl⟩) hq))))
        obtain ⟨_, hcl, hcell⟩ := World.cells?_some hc1
        refine ⟨y, ⟨c, Lv_len (hK default), hK, fun j u hu => ?_⟩, hwf, hsz⟩
        have hj : j < P.cellsOf e := by
          have := (List.getElem?_eq_some_iff.1 hu).1
          omega
        have h3 := hcell j hj
        rw [Go.Deep.add_add, r.cells] at h3
        rw [h3]
        exact hu)
      refine ⟨ys, fun L => ⟨r.pur, some a, cap, by rw [hyl, hlen], by omega, fun hn => ?_⟩, ⟨?_, fun y hy => ?_⟩, ?_⟩
      · have hn : ys.length ≠ 0 := hn
        obtain ⟨y, hy⟩ : ∃ y, ys[0]? = some y := ⟨ys[0]'(by omega), List.getElem?_eq_getElem (by omega)⟩
        obtain ⟨c, c1, c2, c3⟩ := (hyp 0 y hy).1
        obtain ⟨u, hu0⟩ : ∃ u, c[0]? = some u := ⟨c[0]'(by omega), List.getElem?_eq_getElem (by omega)⟩
        have hcell := c3 0 u hu0
        rw [Nat.zero_mul, Nat.zero_add, show a.add 0 = a from rfl] at hcell
        unfold World.cell? at hcell
        split at hcell
        · rename_i C ee zz hblk
          split at hcell
          · cases hcell
          · rename_i hsp
            have hsp : a.spot = none := by cases hs : a.spot with | none => rfl | some q => rw [hs] at hsp; exact absurd rfl hsp
            refine ⟨a.block, a.off, C, ee, zz, by cases a; simp only at hsp; rw [hsp], hblk, LvL_mk (C := C.toList) (fun j y hy => ?_)⟩
            obtain ⟨c, c1, c2, c3⟩ := (hyp j y hy).1
            refine ⟨c, c1, c2 L, fun i u hi => ?_⟩
            have h5 := c3 i u hi
            have hadd : (a.add (j * k.w + i)).block = a.block ∧ (a.add (j * k.w + i)).off = a.off + (j * k.w + i) ∧ (a.add (j * k.w + i)).spot = none := by
              unfold Addr.add
              split
              · rename_i h0; exact ⟨rfl, by omega, hsp⟩
              · exact ⟨rfl, rfl, rfl⟩
            unfold World.cell? at h5
            rw [hadd.1, hblk, hadd.2.1, hadd.2.2] at h5
            rw [Array.getElem?_toList]
            exact h5
        · cases hcell
      · rw [hyl]
        exact Nat.le_trans (Nat.mul_le_mul_right _ (Nat.le_add_right _ _)) hw1
      · obtain ⟨j, hj⟩ := List.mem_iff_getElem?.1 hy
        exact (hyp j y hj).2
      · simp only [sizL, Rows.uptoBulk]
        omega⟩

/-- fields in line, from cell 'off' on -/
structure GdF (P : Program) (off : Nat) (fs : List Field) (k : K) (wf : k.den → Prop) (siz : k.den → Nat) : Prop where
  pur : k.pur = true
  read : ∀ {H : Type} {enc : TypeId × Value → H} {W : World} {base : Nat} {spare : Nat → Bool} {held : Bool} {fuel : Nat} {cs : List Value} {xs : List (DataW H × List MemPlace)},
    cs.length = off + k.w → xs.length = fs.length →
    (∀ (i : Nat) (f : Field), fs[i]? = some f → DataW.trod enc P W base spare held fuel f.type ((cs.drop f.offset).take (P.cellsOf f.type)) = xs[i]?) →
    (∀ n ∈ DataW.weightsEach P (fs.map (·.type)) (xs.map (·.1)), n ≤ reachBytes) →
    ∃ y, (∀ L, Lv (memH W) L k y (cs.drop off)) ∧ wf y ∧ siz y ≤ Rows.uptoBulkAll (xs.map (·.1))

theorem gdf_nil {off : Nat} : GdF P off [] .unit (fun _ => True) (fun _ => 0) :=
  ⟨rfl, fun {H enc W base spare held fuel cs xs} hl hxl hx hw => ⟨(), fun L => by
    show cs.drop off = []
    exact List.drop_eq_nil_of_le (by rw [hl]; exact Nat.le_refl _), trivial, Nat.zero_le _⟩⟩
theorem gdf_cons {off : Nat} {f : Field} {fs : List Field} {k k' : K} {wf : k.den → Prop} {wf' : k'.den → Prop} {siz : k.den → Nat} {siz' : k'.den → Nat} (ho : f.offset = off) (r : Gd P f.type k wf siz)
    (rs : GdF P (off + k.w) fs k' wf' siz') : GdF P off (f :: fs) (.pair k k') (fun (y : k.den × k'.den) => wf y.1 ∧ wf' y.2) (fun (y : k.den × k'.den) => siz y.1 + siz' y.2) := by
  refine ⟨by simp only [K.pur, r.pur, rs.pur]; rfl, ?_⟩
  intro H enc W base spare held fuel cs xs hl hxl hx hw
  have hl' : cs.length = off + (k.w + k'.w) := hl
  match xs, hxl with
  | x :: xs, hxl =>
    have h := hx 0 f rfl
    rw [ho, r.cells] at h
    simp only [List.getElem?_cons_zero] at h
    obtain ⟨y, h1, h2, h3⟩ := r.read h (fun n hn => hw n (by simp [DataW.weightsEach, hn]))
    obtain ⟨z, g1, g2, g3⟩ := rs.read (enc := enc) (W := W) (base := base) (spare := spare) (held := held) (fuel := fuel) (cs := cs) (xs := xs) (by omega) (by simpa using hxl)
      (fun i g hg => by simpa using hx (i + 1) g (by simpa using hg)) (fun n hn => hw n (by simp only [List.map_cons, DataW.weightsEach]; exact List.mem_append_right _ hn))
    refine ⟨(y, z), fun L => ⟨(cs.drop off).take k.w, cs.drop (off + k.w), ?_, h1 L, g1 L⟩, ⟨h2, g2⟩, ?_⟩
    · rw [← List.drop_drop]
      exact (List.take_append_drop _ _).symm
    · simp only [List.map_cons, Rows.uptoBulkAll]
      omega
theorem gdf_one {off : Nat} {f : Field} {k : K} {wf : k.den → Prop} {siz : k.den → Nat} (ho : f.offset = off) (r : Gd P f.type k wf siz) : GdF P off [f] k wf siz := by
  refine ⟨r.pur, ?_⟩
  intro H enc W base spare held fuel cs xs hl hxl hx hw
  match xs, hxl with
  | [x], hxl =>
    have h := hx 0 f rfl
    rw [ho, r.cells] at h
    simp only [List.getElem?_cons_zero] at h
    have e : (cs.drop off).take k.w = cs.drop off := List.take_of_length_le (by rw [List.length_drop, hl]; omega)
    rw [e] at h
    obtain ⟨y, h1, h2, h3⟩ := r.read h (fun n hn => hw n (by simp [DataW.weightsEach, hn]))
    refine ⟨y, h1, h2, ?_⟩
    simp only [List.map_cons, List.map_nil, Rows.uptoBulkAll]
    omega
theorem gd_st {t : TypeId} {fs : Array Field} {k : K} {wf : k.den → Prop} {siz : k.den → Nat} (hu : P.underlying t = some (.struct fs)) (hc : P.cellsOf t = k.w) (r : GdF P 0 fs.toList k wf siz) : Gd P t (.st k) wf siz :=
  ⟨hc, rfl, r.pur, fun h => by
    simp only [Value.okWide, hu] at h
    obtain ⟨cs, rfl, _⟩ := h
    rfl, fun h hw => by
    obtain ⟨xs, n, _, rfl, hl, hxl, hx⟩ := DataW.trod_struct hu h
    obtain ⟨y, h1, h2, h3⟩ := r.read (by rw [hl, hc]; omega) (by rw [hxl]; simp) (fun i f hf => hx i f (by simpa using hf)) (fun n hn => hw n (by simp only [DataW.weights, hu]; exact hn))
    refine ⟨y, h1, h2, ?_⟩
    simp only [Rows.uptoBulk]
    omega⟩

/-- an argument -/
theorem Gd.arg {t : TypeId} {k : K} {wf : k.den → Prop} {siz : k.den → Nat} (r : Gd P t k wf siz) {H : Type} {enc : TypeId × Value → H} {W : World} {base : Nat} {spare : Nat → Bool} {held : Bool} {rr : Reach} {b2 : Nat} {v : Value} {x : DataW H} {ps : List MemPlace}
    (hval : Value.okWide P W rr b2 t v) (h : DataW.Trod enc P W base spare held t v x ps) (hw : ∀ n ∈ x.weights P t, n ≤ reachBytes) : ∃ y : k.den, (∀ L, SR (memH W) L ⟨k, y⟩ v) ∧ wf y ∧ siz y ≤ Rows.uptoBulk x := by
  obtain ⟨fuel, hf⟩ := h
  obtain ⟨y, h1, h2, h3⟩ := r.read hf hw
  refine ⟨y, fun L => ?_, h2, h3⟩
  rw [r.val hval]
  exact SR_mk (h1 L)

def noLoc : Ls := fun _ => default
theorem law_calls {fuel : Nat} {f : FuncId} {params : List K} {run : Nat → HL params → HL (List.map (·.toK) ([] : List OK)) → Option (K.bool.den × HL (List.map (·.toK) ([] : List OK)))} (hs : SoundAt P fuel ⟨f, params, [], .bool, [], [], run⟩) {ds : HL params}
    (hr : run fuel ds () = some (true, ())) {args : Array Value} {W : World} (hv : SRs (memH W) noLoc (unpackL params ds) args.toList) : Calls P f args W (fun e W' => e = .returned (.bool true) ∧ Below W.heap.size W W') := by
  have hno : ∀ b, ¬ Own (assoc O.dead (objsFrom 0 ([] : List OK) ())) noLoc b := fun b ⟨i, hi, _⟩ => hi
  refine Calls.mono (hs.2 ds () (true, ()) hr args W (memH W) noLoc hv ⟨fun i => trivial, fun b o h => h, fun i hi => hi.elim, fun i j hi => hi.elim⟩ (fun i hi => by cases hi)) fun e W' hh => ?_
  obtain ⟨v, H', L', rfl, h1, _, _, hp⟩ := hh
  have h1 : SR H' L' ⟨.bool, true⟩ v := h1
  refine ⟨by rw [bool_at h1], hp.fr.os, hp.fr.tape, hp.fr.output, hp.fr.size, fun b hb => hp.fr.same b hb (hno b)⟩
/-- The weights of one argument. -/
theorem weights_at {H : Type} {ts : List TypeId} {ds : List (DataW H)} (hsz : (DataW.weightsEach P ts ds).all (· ≤ reachBytes) = true) (j : Nat) {t : TypeId} {d : DataW H} (ht : ts[j]? = some t) (hd : ds[j]? = some d) :
    ∀ n ∈ d.weights P t, n ≤ reachBytes := fun n hn => by
  have := List.all_eq_true.1 hsz n (DataW.weights_mem_each ht hd n hn)
  simpa using this

/-- The bulk of one argument. -/
theorem bulk_at {H : Type} {l : List (DataW H)} (hk : Rows.uptoSmall H l = true) {d : DataW H} (hd : d ∈ l) : Rows.uptoBulk d ≤ 1048576 := by
  have h : Rows.uptoBulkAll l ≤ 1048576 := of_decide_eq_true hk
  have key : ∀ {l : List (DataW H)}, d ∈ l → Rows.uptoBulk d ≤ Rows.uptoBulkAll l := by
    intro l
    induction l with
    | nil => intro h; simp at h
    | cons x r ih =>
      intro h
      simp only [Rows.uptoBulkAll]
      rcases List.mem_cons.1 h with rfl | h
      · omega
      · have := ih h
        omega
  exact Nat.le_trans (key hd) h
end Go.Proofs.Ytjbdhaenakcclaa.Gp

/- Circuits of gates: the law. No program in sight. -/
set_option linter.unusedVariables false
noncomputable section
namespace Go.Proofs.Ytjbdhaenakcclaa.Gr
open Go Go.Proofs.Ytjbdhaenakcclaa.Gp

/-- one step: the state, and what came out so far -/
def stepS (c : Cir) (b : Int × List Int) (x : Int) : Int × List Int := (((pk (line c b.1 x c.2.2.2.1) : Nat) : Int), b.2 ++ [((pk (line c b.1 x c.2.2.1) : Nat) : Int)])
def ran (c : Cir) (l : List Int) : List Int := (l.foldl (stepS c) ((first c : Int), [])).2
def badIn (c : Cir) (x : Int) : Bool := decide (x < 0 ∨ x ≥ ((2 ^ c.1.toNat : Nat) : Int))
theorem room1 {n : Nat} (h : n * 8 ≤ 140737488351232 + 8) : room n 8 = true := room_ok (by omega)
theorem shl_ins {c : Cir} (hR : Right c) : shlI .i64 1 c.1 = ((2 ^ c.1.toNat : Nat) : Int) := by
  obtain ⟨h0, h1⟩ := hR.ins
  obtain ⟨j, hj⟩ : ∃ j : Nat, c.1 = (j : Int) := ⟨c.1.toNat, by omega⟩
  rw [hj, shlI_one (by omega), Int.toNat_natCast]
theorem foldl_len8 (c : Cir) : ∀ (l : List Int) (b : Int × List Int), (l.foldl (stepS c) b).2.length = b.2.length + l.length
  | [], b => rfl
  | x :: l, b => by rw [List.foldl_cons, foldl_len8 c l]; simp [stepS]; omega
def runW (c : Cir) (b : Int × List Int) (x : Int) : (Int × List Int) ⊕ ((Unit × (List Int)) ⊕ (((List Int) × (Int × Unit)) × Unit)) := if badIn c x then .inr (.inr (([], 1, ()), ())) else .inl (stepS c b x)
theorem walk_run (c : Cir) : ∀ (l : List Int) (b : Int × List Int), walk (runW c) (fun b => .inl ((), b.2)) l b = if l.any (badIn c) then .inr (([], 1, ()), ()) else .inl ((), (l.foldl (stepS c) b).2)
  | [], b => rfl
  | x :: l, b => by
    rw [walk_cons, List.any_cons, List.foldl_cons]
    cases h : badIn c x with
    | true =>
      rw [show runW c b x = .inr (.inr (([], 1, ()), ())) by unfold runW; rw [h]; rfl]
      rfl
    | false =>
      rw [show runW c b x = .inl (stepS c b x) by unfold runW; rw [h]; rfl]
      exact walk_run c l (stepS c b x)
def res (c : Cir) (l : List Int) : List Int × Int × Unit := if fault c ≠ 0 then ([], fault c, ()) else if l.any (badIn c) then ([], 1, ()) else (ran c l, 0, ())
theorem bad_ev {c : Cir} (hR : Right c) (x : Int) : Ev (fun (_ : Nat) => cond (decide (x < 0)) (some true) ((if c.1 < 0 then none else some (shlI .i64 1 c.1)).bind fun t31 => some (decide (x ≥ t31)))) (badIn c x) := by
  have h0 := hR.ins
  refine .iff (fun h => .now' ?_) (fun h => .val (a := ((2 ^ c.1.toNat : Nat) : Int)) (by rw [if_neg (by omega), shl_ins hR]) (.now' ?_))
  · unfold badIn; rw [decide_eq_true (.inl h)]
  · unfold badIn; exact decide_eq_decide.2 (by omega)
theorem run_ev (c : Cir) (l : List Int) (hl : l.length * 8 ≤ 140737488351232) : Ev (fun k => Run71 k c l) (res c l, ()) := by
  unfold Run71 res
  refine .bind (check_ev c) ?_
  by_cases hf : fault c ≠ 0
  · rw [if_pos hf]
    exact .yes (bne_iff_ne.2 hf) (.now _)
  rw [if_neg hf]
  have hf0 : fault c = 0 := by omega
  have hR := right_of c hf0
  refine .no (by rw [hf0]; rfl) (.bind (start_ev c) ?_)
  have hw : Lp (fun k => Run71.l0 k l) (c, (), (first c : Int), 0, []) (walk (runW c) (fun b => .inl ((), b.2)) l ((first c : Int), [])) := by
    refine Lp.walk (body := fun k => Run71.l0 k l) l (fun (b : Int × List Int) i => (c, (), b.1, i, b.2)) (runW c) (fun b => .inl ((), b.2)) (fun i b => b.2.length = i) (fun i x b hx hb => ⟨?_, fun b' h => ?_⟩) (fun b _ => ?_) (b := ((first c : Int), [])) rfl
    · have hi := get_lt hx
      simp only [Run71.l0]
      refine .yes (decide_eq_true (by omega)) (.val (rd_some' hx) (.bind (bad_ev hR x) ?_))
      unfold runW
      refine .cnd (fun h => .now' ?_) (fun h => ?_)
      · rw [if_pos h]
      · rw [if_neg (by simp [h])]
        refine .bind (values_ev hR b.1 x) (.bind (bits_ev hR b.1 x _ hR.outs) (.val (a := ()) ?_ (.bind (bits_ev hR b.1 x _ hR.next) (.now' ?_))))
        · rw [if_pos (room1 (by rw [hb]; show (i + 1) * 8 ≤ _; omega))]
        · rw [w64_id (by omega) (by omega)]; rfl
    · unfold runW at h
      split at h <;> cases h
      simp [stepS, hb]
    · simp only [Run71.l0]
      exact .no (by simp) (.now _)
  rw [walk_run] at hw
  by_cases hb : l.any (badIn c) = true
  · rw [if_pos hb] at hw ⊢
    exact .joinR hw.ev
  · rw [if_neg hb] at hw ⊢
    exact .joinL (S := Unit) hw.ev (.now _)

theorem equal_ev (l : List Int) (hl : l.length * 8 ≤ 140737488351232) : Ev (fun k => Equal25 k l l) (true, ()) := by
  unfold Equal25
  refine .no (by simp) (.joinL (S := Unit) (a := ()) (Lp.ev ?_) (.now _))
  refine Lp.fold (body := fun k => Equal25.l0 k l l) l (fun (_ : Unit) i => i) (fun _ _ => ()) (fun _ => (.inl () : Unit ⊕ (Bool × Unit))) (fun _ _ => True) (fun i x b hx _ => ⟨?_, trivial⟩) (fun b _ => ?_) (b := ()) trivial
  · have hi := get_lt hx
    simp only [Equal25.l0]
    refine .yes (decide_eq_true (by omega)) (.val (rd_some' hx) (.val (rd_some' hx) (.no (by simp) (.now' ?_))))
    rw [w64_id (by omega) (by omega)]
  · simp only [Equal25.l0]
    exact .no (by simp) (.now _)
def c0 : Cir := (0, [(2, 0, 0, 0, 0), (3, 0, 0, 0, 0)], [0], [1], [0])
theorem res0 : res c0 [0, 0, 0] = ([0, 1, 0], 0, ()) := by decide +kernel
theorem gated_ev : Ev (fun k => gated17 k) (true, ()) := by
  unfold gated17
  have h := run_ev c0 [0, 0, 0] (by decide)
  rw [res0] at h
  refine .bind h (.bind (a := true) ?_ (.now _))
  exact .yes rfl (.bind (equal_ev [0, 1, 0] (by decide)) (.now _))

end Go.Proofs.Ytjbdhaenakcclaa.Gr

/- Circuits of gates: the law of the checks. No program in sight. -/
set_option linter.unusedVariables false
noncomputable section
namespace Go.Proofs.Ytjbdhaenakcclaa.Gr
open Go Go.Proofs.Ytjbdhaenakcclaa.Gp

def valuesR (c : Cir) (st inn : Int) : List Int × Int × Unit := if fault c ≠ 0 then ([], fault c, ()) else (ints (vals st inn c.2.1), 0, ())
def stepR (c : Cir) (st inn : Int) : Int × Int × Unit := if fault c ≠ 0 then (0, 0, ()) else (((pk (line c st inn c.2.2.1) : Nat) : Int), ((pk (line c st inn c.2.2.2.1) : Nat) : Int), ())
theorem valuesR_ev (c : Cir) (st inn : Int) : Ev (fun k => Values15 k c st inn) (valuesR c st inn, ()) := by
  unfold Values15 valuesR
  refine .bind (check_ev c) ?_
  by_cases hf : fault c ≠ 0
  · rw [if_pos hf]
    exact .yes (bne_iff_ne.2 hf) (.now _)
  · rw [if_neg hf]
    have hf0 : fault c = 0 := by omega
    exact .no (by rw [hf0]; rfl) (.bind (values_ev (right_of c hf0) st inn) (.now _))
theorem stepR_ev (c : Cir) (st inn : Int) : Ev (fun k => Step16 k c st inn) (stepR c st inn, ()) := by
  unfold Step16 stepR
  refine .bind (check_ev c) ?_
  by_cases hf : fault c ≠ 0
  · rw [if_pos hf]
    exact .yes (bne_iff_ne.2 hf) (.now _)
  · rw [if_neg hf]
    have hf0 : fault c = 0 := by omega
    have hR := right_of c hf0
    exact .no (by rw [hf0]; rfl) (.bind (values_ev hR st inn) (.bind (bits_ev hR st inn _ hR.outs) (.bind (bits_ev hR st inn _ hR.next) (.now _))))
theorem ints_at (c : Cir) (st inn : Int) {i : Nat} (h : i < c.2.1.length) : (ints (vals st inn c.2.1))[i]? = some ((V c st inn i : Nat) : Int) := by
  unfold ints V
  rw [List.getElem?_map, List.getD_eq_getElem?_getD, List.getElem?_eq_getElem (show i < (vals st inn c.2.1).length by rw [vals_len]; omega)]
  rfl
theorem ints_len (c : Cir) (st inn : Int) : (ints (vals st inn c.2.1)).length = c.2.1.length := by unfold ints; rw [List.length_map, vals_len]
theorem all_lp {c : Cir} (hR : Right c) (st inn : Int) (x : Int × Unit) : ∀ (n i : Nat) (m : Map), i + n = c.2.1.length → RightM c st inn m → Lp (fun k => GateChecks3.l0 k st inn ((ints (vals st inn c.2.1), x), ())) (c, (), (i : Int), m) (.inl c) := by
  intro n
  induction n with
  | zero =>
    intro i m h hm
    refine .done ?_
    simp only [GateChecks3.l0]
    exact .no (decide_eq_false (by rw [ints_len]; omega)) (.now _)
  | succ n ih =>
    intro i m h hm
    have hg := hR.gates
    obtain ⟨m', r, e⟩ := value_ev hR st inn c.2.1.length i (by omega) (by omega) m hm
    refine .step (s' := (c, (), ((i + 1 : Nat) : Int), m')) ?_ (ih (i + 1) m' (by omega) r)
    simp only [GateChecks3.l0]
    refine .yes (decide_eq_true (by rw [ints_len]; omega)) (.val (rd_some' (ints_at c st inn (by omega))) (.bind e (.no (by simp) (.now' ?_))))
    rw [w64_succ (by omega)]
theorem law (c : Cir) (st inn : Int) (hw : ∀ x ∈ c.2.2.2.2, -9223372036854775808 ≤ x ∧ x ≤ 9223372036854775807) : ∃ k, GateChecks3 k c st inn = some (true, ()) := by
  refine Ev.ex ?_
  unfold GateChecks3
  refine .bind (cfault_ev c hw) (.bind (valuesR_ev c st inn) (.bind (stepR_ev c st inn) (.bind gated_ev (.bind (a := false) (.no rfl (.bind (check_ev c) (.now' (by simp)))) ?_))))
  by_cases hf : fault c ≠ 0
  · have h1 : valuesR c st inn = ([], fault c, ()) := if_pos hf
    have h2 : stepR c st inn = (0, 0, ()) := if_pos hf
    rw [h1, h2]
    refine .no (by simp) (.yes (bne_iff_ne.2 hf) (.now' rfl))
  · have h1 : valuesR c st inn = (ints (vals st inn c.2.1), 0, ()) := if_neg hf
    have h2 : stepR c st inn = (((pk (line c st inn c.2.2.1) : Nat) : Int), ((pk (line c st inn c.2.2.2.1) : Nat) : Int), ()) := if_neg hf
    have hf0 : fault c = 0 := by omega
    have hR := right_of c hf0
    rw [h1, h2, hf0]
    refine .no rfl (.no rfl (.no ?_ (.joinL (S := Unit) (a := c) (all_lp hR st inn _ c.2.1.length 0 [] (by omega) (.nil c st inn)).ev (.bind (stepped_ev hR st inn) (.now' ?_)))))
    · show (((ints (vals st inn c.2.1)).length : Int) != (c.2.1.length : Int)) = false
      rw [ints_len]; simp
    · simp
theorem gateChecks (c : Cir) (st inn : Int) {p q r s t u : Prop} (hc : p ∧ q ∧ r ∧ s ∧ wfL (α := Int) 8 (fun (y : Int) => (Lit.int .i64 y).wf = true) c.2.2.2.2) (_ : t) (_ : u) : ∃ k, GateChecks3 k c st inn = some (true, ()) :=
  law c st inn (fun x hx => lit_wf (hc.2.2.2.2.2 x hx))
end Go.Proofs.Ytjbdhaenakcclaa.Gr

/- The row of GateChecks: Check, Values and Step return what the reference says for all circuits, states and inputs. The law returns true for every input; the input reads as it did. -/
namespace Go.Proofs.Ytjbdhaenakcclaa.gateChecks
open Go.ChangeShapes Go.WideShapes Go.ChangeAt Go.RowKit Go.Proofs.Ytjbdhaenakcclaa.Gp Go.Proofs.Ytjbdhaenakcclaa.Gr
set_option linter.unusedVariables false
theorem own : ownKnob Try.prog.godebug = none := by kernel_rfl
theorem laidOut : laidOutB Try.prog = true := by kernel_rfl
abbrev wf3 : Int → Prop := (fun (y : Int) => (Lit.int .i64 y).wf = true)
abbrev siz3 : Int → Nat := (fun _ => 1)
theorem gd3 : Gd Try.prog 3 (.int .i64) wf3 siz3 := gd_int Try.underlying3 (by kernel_rfl)
abbrev wf51 : (Int × (Int × (Int × (Int × Int)))) → Prop := (fun (y : (Int × (Int × (Int × (Int × Int))))) => wf3 y.1 ∧ (fun (y : (Int × (Int × (Int × Int)))) => wf3 y.1 ∧ (fun (y : (Int × (Int × Int))) => wf3 y.1 ∧ (fun (y : (Int × Int)) => wf3 y.1 ∧ wf3 y.2) y.2) y.2) y.2)
abbrev siz51 : (Int × (Int × (Int × (Int × Int)))) → Nat := (fun (y : (Int × (Int × (Int × (Int × Int))))) => siz3 y.1 + (fun (y : (Int × (Int × (Int × Int)))) => siz3 y.1 + (fun (y : (Int × (Int × Int))) => siz3 y.1 + (fun (y : (Int × Int)) => siz3 y.1 + siz3 y.2) y.2) y.2) y.2)
theorem gd51 : Gd Try.prog 51 (.st (.pair (.int .i64) (.pair (.int .i64) (.pair (.int .i64) (.pair (.int .i64) (.int .i64)))))) wf51 siz51 := gd_st Try.underlying51 (by kernel_rfl) (gdf_cons (k := .int .i64) (k' := .pair (.int .i64) (.pair (.int .i64) (.pair (.int .i64) (.int .i64)))) (wf := wf3) (siz := siz3) (wf' := (fun (y : (Int × (Int × (Int × Int)))) => wf3 y.1 ∧ (fun (y : (Int × (Int × Int))) => wf3 y.1 ∧ (fun (y : (Int × Int)) => wf3 y.1 ∧ wf3 y.2) y.2) y.2)) (siz' := (fun (y : (Int × (Int × (Int × Int)))) => siz3 y.1 + (fun (y : (Int × (Int × Int))) => siz3 y.1 + (fun (y : (Int × Int)) => siz3 y.1 + siz3 y.2) y.2) y.2)) rfl gd3 (gdf_cons (k := .int .i64) (k' := .pair (.int .i64) (.pair (.int .i64) (.int .i64))) (wf := wf3) (siz := siz3) (wf' := (fun (y : (Int × (Int × Int))) => wf3 y.1 ∧ (fun (y : (Int × Int)) => wf3 y.1 ∧ wf3 y.2) y.2)) (siz' := (fun (y : (Int × (Int × Int))) => siz3 y.1 + (fun (y : (Int × Int)) => siz3 y.1 + siz3 y.2) y.2)) rfl gd3 (gdf_cons (k := .int .i64) (k' := .pair (.int .i64) (.int .i64)) (wf := wf3) (siz := siz3) (wf' := (fun (y : (Int × Int)) => wf3 y.1 ∧ wf3 y.2)) (siz' := (fun (y : (Int × Int)) => siz3 y.1 + siz3 y.2)) rfl gd3 (gdf_cons (k := .int .i64) (k' := .int .i64) (wf := wf3) (siz := siz3) (wf' := wf3) (siz' := siz3) rfl gd3 (gdf_one rfl gd3)))))
abbrev wf22 : (List (Int × (Int × (Int × (Int × Int))))) → Prop := (wfL (α := (Int × (Int × (Int × (Int × Int))))) 40 wf51)
abbrev siz22 : (List (Int × (Int × (Int × (Int × Int))))) → Nat := (sizL (α := (Int × (Int × (Int × (Int × Int))))) siz51)
theorem gd22 : Gd Try.prog 22 (.sl (.st (.pair (.int .i64) (.pair (.int .i64) (.pair (.int .i64) (.pair (.int .i64) (.int .i64))))))) wf22 siz22 := gd_sl (B := 40) Try.underlying22 (by kernel_rfl) (by kernel_rfl) (by decide) gd51
abbrev wf23 : (List Int) → Prop := (wfL (α := Int) 8 wf3)
abbrev siz23 : (List Int) → Nat := (sizL (α := Int) siz3)
theorem gd23 : Gd Try.prog 23 (.sl (.int .i64)) wf23 siz23 := gd_sl (B := 8) Try.underlying23 (by kernel_rfl) (by kernel_rfl) (by decide) gd3
abbrev wf25 : (Int × ((List (Int × (Int × (Int × (Int × Int))))) × ((List Int) × ((List Int) × (List Int))))) → Prop := (fun (y : (Int × ((List (Int × (Int × (Int × (Int × Int))))) × ((List Int) × ((List Int) × (List Int)))))) => wf3 y.1 ∧ (fun (y : ((List (Int × (Int × (Int × (Int × Int))))) × ((List Int) × ((List Int) × (List Int))))) => wf22 y.1 ∧ (fun (y : ((List Int) × ((List Int) × (List Int)))) => wf23 y.1 ∧ (fun (y : ((List Int) × (List Int))) => wf23 y.1 ∧ wf23 y.2) y.2) y.2) y.2)
abbrev siz25 : (Int × ((List (Int × (Int × (Int × (Int × Int))))) × ((List Int) × ((List Int) × (List Int))))) → Nat := (fun (y : (Int × ((List (Int × (Int × (Int × (Int × Int))))) × ((List Int) × ((List Int) × (List Int)))))) => siz3 y.1 + (fun (y : ((List (Int × (Int × (Int × (Int × Int))))) × ((List Int) × ((List Int) × (List Int))))) => siz22 y.1 + (fun (y : ((List Int) × ((List Int) × (List Int)))) => siz23 y.1 + (fun (y : ((List Int) × (List Int))) => siz23 y.1 + siz23 y.2) y.2) y.2) y.2)
theorem gd25 : Gd Try.prog 25 (.st (.pair (.int .i64) (.pair (.sl (.st (.pair (.int .i64) (.pair (.int .i64) (.pair (.int .i64) (.pair (.int .i64) (.int .i64))))))) (.pair (.sl (.int .i64)) (.pair (.sl (.int .i64)) (.sl (.int .i64))))))) wf25 siz25 := gd_st Try.underlying25 (by kernel_rfl) (gdf_cons (k := .int .i64) (k' := .pair (.sl (.st (.pair (.int .i64) (.pair (.int .i64) (.pair (.int .i64) (.pair (.int .i64) (.int .i64))))))) (.pair (.sl (.int .i64)) (.pair (.sl (.int .i64)) (.sl (.int .i64))))) (wf := wf3) (siz := siz3) (wf' := (fun (y : ((List (Int × (Int × (Int × (Int × Int))))) × ((List Int) × ((List Int) × (List Int))))) => wf22 y.1 ∧ (fun (y : ((List Int) × ((List Int) × (List Int)))) => wf23 y.1 ∧ (fun (y : ((List Int) × (List Int))) => wf23 y.1 ∧ wf23 y.2) y.2) y.2)) (siz' := (fun (y : ((List (Int × (Int × (Int × (Int × Int))))) × ((List Int) × ((List Int) × (List Int))))) => siz22 y.1 + (fun (y : ((List Int) × ((List Int) × (List Int)))) => siz23 y.1 + (fun (y : ((List Int) × (List Int))) => siz23 y.1 + siz23 y.2) y.2) y.2)) rfl gd3 (gdf_cons (k := .sl (.st (.pair (.int .i64) (.pair (.int .i64) (.pair (.int .i64) (.pair (.int .i64) (.int .i64))))))) (k' := .pair (.sl (.int .i64)) (.pair (.sl (.int .i64)) (.sl (.int .i64)))) (wf := wf22) (siz := siz22) (wf' := (fun (y : ((List Int) × ((List Int) × (List Int)))) => wf23 y.1 ∧ (fun (y : ((List Int) × (List Int))) => wf23 y.1 ∧ wf23 y.2) y.2)) (siz' := (fun (y : ((List Int) × ((List Int) × (List Int)))) => siz23 y.1 + (fun (y : ((List Int) × (List Int))) => siz23 y.1 + siz23 y.2) y.2)) rfl gd22 (gdf_cons (k := .sl (.int .i64)) (k' := .pair (.sl (.int .i64)) (.sl (.int .i64))) (wf := wf23) (siz := siz23) (wf' := (fun (y : ((List Int) × (List Int))) => wf23 y.1 ∧ wf23 y.2)) (siz' := (fun (y : ((List Int) × (List Int))) => siz23 y.1 + siz23 y.2)) rfl gd23 (gdf_cons (k := .sl (.int .i64)) (k' := .sl (.int .i64)) (wf := wf23) (siz := siz23) (wf' := wf23) (siz' := siz23) rfl gd23 (gdf_one rfl gd23)))))
set_option maxRecDepth 100000 in
set_option maxHeartbeats 1000000 in
theorem lifted (os : Os) (started : os.Started) (H : Type) (enc : TypeId × Value → H) :
    ReturnsInHanded {} Try.checked os 3 .any (Rows.gateChecksSpec.pre6 enc Try.prog Try.f3 Rows.gateChecksRow.domain false) (Rows.gateChecksSpec.post enc Try.prog Try.f3 false true false false) := by
  refine returnsInHanded_of_change_sized (C := Try.checked) own started (by kernel_rfl) Try.func3
    (ChangeSpec.witness6 (enc := enc) (C := Try.checked) false ⟨#[], #[.agg #[.int .i64 0, .slice none 0 0, .slice none 0 0, .slice none 0 0, .slice none 0 0], .int .i64 0, .int .i64 0], []⟩ 8 (by kernel_rfl) (by kernel_rfl) (by kernel_rfl) (by kernel_rfl)) ?_
  intro W base args ds gs before hval0 hW hcnd hsz0 _
  have hsz : (DataW.weightsEach Try.prog (Try.f3.params.toList ++ Rows.gateChecksSpec.plain.varTypes Try.prog) (ds ++ gs)).all (· ≤ reachBytes) = true := hsz0
  have hval : ∀ (j : Nat) t v, Try.f3.params[j]? = some t → args[j]? = some v → Value.okWide Try.prog W .any base t v := hval0
  have hW' := hW
  obtain ⟨p, q, hA0, hV, rfl, hfz, hnd⟩ := hW
  have hA : DataW.TrodAll enc Try.prog W 0 (fun _ => true) true Try.f3.params.toList args.toList ds p := hA0
  rw [Try.params3] at hA hval hsz
  obtain ⟨v0, vs0, d0, ds0, p0, q0, hargs, rfl, rfl, h0, r0⟩ := trodAll_cons hA
  obtain ⟨v1, vs1, d1, ds1, p1, q1, rfl, rfl, rfl, h1, r1⟩ := trodAll_cons r0
  obtain ⟨v2, vs2, d2, ds2, p2, q2, rfl, rfl, rfl, h2, r2⟩ := trodAll_cons r1
  obtain ⟨rfl, rfl, rfl⟩ := trodAll_nil r2
  obtain rfl : args = #[v0, v1, v2] := by cases args; simp_all
  obtain ⟨rfl, rfl⟩ := trodVars_none hV
  have lt0 : ∀ x ∈ p0, x.block < W.heap.size := by obtain ⟨m, hm⟩ := h0; exact DataW.trod_lt m _ _ _ hm
  have wt0 := weights_at hsz 0 (t := 25) rfl rfl
  obtain ⟨a0, s0, wf0_, up0_⟩ := gd25.arg (hval 0 25 v0 rfl rfl) h0 wt0
  have lt1 : ∀ x ∈ p1, x.block < W.heap.size := by obtain ⟨m, hm⟩ := h1; exact DataW.trod_lt m _ _ _ hm
  have wt1 := weights_at hsz 1 (t := 3) rfl rfl
  obtain ⟨a1, s1, wf1_, up1_⟩ := gd3.arg (hval 1 3 v1 rfl rfl) h1 wt1
  have lt2 : ∀ x ∈ p2, x.block < W.heap.size := by obtain ⟨m, hm⟩ := h2; exact DataW.trod_lt m _ _ _ hm
  have wt2 := weights_at hsz 2 (t := 3) rfl rfl
  obtain ⟨a2, s2, wf2_, up2_⟩ := gd3.arg (hval 2 3 v2 rfl rfl) h2 wt2
  clear hA0 hval0 hsz0 hsz
  obtain ⟨k, h⟩ := Gr.gateChecks a0 a1 a2 wf0_ wf1_ wf2_
  refine (law_calls (GateChecks3.ok k) (ds := (a0, a1, a2)) h (args := #[v0, v1, v2]) (W := W) (.cons (s0 _) (.cons (s1 _) (.cons (s2 _) (.nil))))).mono fun e W' ⟨he, bel0⟩ => ?_
  have bel : Below W.heap.size W W' := bel0
  subst he
  exact ⟨_, rfl, _, _, _, [], _, [], hW', trodAll_mk1 (shut_bool Try.underlying4 _), (trodAll_cons_mk (Below.trod laidOut (by kernel_rfl) (of_decide_eq_true (by kernel_rfl)) h0 bel lt0) (trodAll_cons_mk (Below.trod laidOut (by kernel_rfl) (of_decide_eq_true (by kernel_rfl)) h1 bel lt1) (trodAll_cons_mk (Below.trod laidOut (by kernel_rfl) (of_decide_eq_true (by kernel_rfl)) h2 bel lt2) (trodAll_mk0)))), rfl, bel.frame _, fun h => by cases h⟩
theorem over : Rows.gateChecksRow.holds Try.pinned (OpenSpec.ofChange Rows.gateChecksSpec) :=
  OpenClaim.holds_of_wide 3 Try.f3 rfl rfl rfl rfl rfl rfl rfl ⟨rfl, rfl, rfl, rfl, rfl⟩ rfl rfl rfl rfl rfl (by kernel_rfl) Try.func3 (by kernel_rfl)
    (of_decide_eq_true (by kernel_rfl)) (by unfold Func.isWrapper; first | (rw [if_pos (by decide +kernel)]; kernel_rfl) | (rw [if_neg (by decide +kernel)]; exact ⟨rfl, rfl⟩))
    (fun os started H enc _ => lifted os started H enc)
theorem proved : Rows.GateChecksSaid := over
#print axioms proved
end Go.Proofs.Ytjbdhaenakcclaa.gateChecks
namespace Go.Proofs.Ytjbdhaenakcclaa
theorem gateChecks_holds : Rows.GateChecksSaid := gateChecks.proved
end Go.Proofs.Ytjbdhaenakcclaa
