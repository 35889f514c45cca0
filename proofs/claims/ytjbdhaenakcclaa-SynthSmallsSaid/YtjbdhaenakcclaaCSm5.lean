/- Merged texts of one claim: a Go law, its functions without memory, and the plain law. The law returns true for every input; conditions: as the row says. -/
import Derived.Test.YtjbdhaenakcclaaCSm0
import Derived.Test.YtjbdhaenakcclaaCSm1
import Derived.Test.YtjbdhaenakcclaaCSm2
import Derived.Test.YtjbdhaenakcclaaCSm3
import Derived.Test.YtjbdhaenakcclaaCSm4
/- Smaller circuits: swept, and what is left after it. No program in sight. -/
set_option linter.unusedVariables false
set_option maxRecDepth 100000
noncomputable section
namespace Go.Proofs.Ytjbdhaenakcclaa.St
open Go Go.Proofs.Ytjbdhaenakcclaa.Gp

/-- a gate with its operands' new numbers, told by the table -/
def renG (to : List Int) (g : Gate) : Gate := (g.1, (if g.1 ≥ 3 then toF to g.2.1 else g.2.1), (if g.1 > 3 then toF to g.2.2.1 else g.2.2.1), (if g.1 = 7 then toF to g.2.2.2.1 else g.2.2.2.1), g.2.2.2.2)
section
variable {ins : Int} {nx : Nat}
structure Ren2 (ins : Int) (nx : Nat) (gs : List Gate) (S : List Bool) (i : Nat) (to : List Int) (out : List Gate) : Prop extends Ren ins nx gs S i to out where
  src : ∀ (r : Nat) (y : Gate), out[r]? = some y → ∃ j g, j < i ∧ onAt S j ∧ gs[j]? = some g ∧ to[j]? = some (r : Int) ∧ y = renG to g
  dst : ∀ j, j < i → onAt S j → ∃ (r : Nat) (g : Gate), to[j]? = some ((r : Nat) : Int) ∧ r < out.length ∧ gs[j]? = some g ∧ out[r]? = some (renG to g)
  inj : ∀ (j j' : Nat) (r : Int), j < i → j' < i → onAt S j → onAt S j' → to[j]? = some r → to[j']? = some r → j = j'
theorem Ren2.skip {gs : List Gate} {S : List Bool} {i : Nat} {to : List Int} {out : List Gate} (h : Ren2 ins nx gs S i to out) (hoff : ¬ onAt S i) : Ren2 ins nx gs S (i + 1) to out := by
  refine ⟨h.toRen.skip hoff, fun r y hy => ?_, fun j hj hon => ?_, fun j j' r hj hj' hon hon' => ?_⟩
  · obtain ⟨j, g, h1, h2⟩ := h.src r y hy
    exact ⟨j, g, by omega, h2⟩
  · exact h.dst j (by have : j ≠ i := fun e => hoff (e ▸ hon); omega) hon
  · exact h.inj j j' r (by have : j ≠ i := fun e => hoff (e ▸ hon); omega) (by have : j' ≠ i := fun e => hoff (e ▸ hon'); omega) hon hon'
theorem renG_set {to : List Int} {i : Nat} {v : Int} {g : Gate} (h : ∀ x, Leg g x → 0 ≤ x ∧ x < (i : Int)) : renG (to.set i v) g = renG to g := by
  have key : ∀ x, Leg g x → toF (to.set i v) x = toF to x := fun x hx => by
    have := h x hx
    unfold toF
    rw [List.getD_eq_getElem?_getD, List.getD_eq_getElem?_getD, List.getElem?_set_ne (by omega)]
  have e0 : (if g.1 ≥ 3 then toF (to.set i v) g.2.1 else g.2.1) = if g.1 ≥ 3 then toF to g.2.1 else g.2.1 := by
    by_cases h3 : g.1 ≥ 3
    · rw [if_pos h3, if_pos h3, key _ (.inl ⟨h3, rfl⟩)]
    · rw [if_neg h3, if_neg h3]
  have e1 : (if g.1 > 3 then toF (to.set i v) g.2.2.1 else g.2.2.1) = if g.1 > 3 then toF to g.2.2.1 else g.2.2.1 := by
    by_cases h3 : g.1 > 3
    · rw [if_pos h3, if_pos h3, key _ (.inr (.inl ⟨h3, rfl⟩))]
    · rw [if_neg h3, if_neg h3]
  have e2 : (if g.1 = 7 then toF (to.set i v) g.2.2.2.1 else g.2.2.2.1) = if g.1 = 7 then toF to g.2.2.2.1 else g.2.2.2.1 := by
    by_cases h3 : g.1 = 7
    · rw [if_pos h3, if_pos h3, key _ (.inr (.inr ⟨h3, rfl⟩))]
    · rw [if_neg h3, if_neg h3]
  unfold renG
  rw [e0, e1, e2]
theorem Leg.low {gs : List Gate} (hG : Good ins nx gs) {j : Nat} {g : Gate} (hg : gs[j]? = some g) {x : Int} (h : Leg g x) : 0 ≤ x ∧ x < (j : Int) := by
  obtain ⟨hkd, q0, q1, q2, _, _⟩ := gate_ok (hG j g hg)
  obtain ⟨d0, d1, d2⟩ := needs_of hkd
  rcases h with ⟨h1, rfl⟩ | ⟨h1, rfl⟩ | ⟨h1, rfl⟩
  · exact q0 (d0 h1)
  · exact q1 (d1 h1)
  · exact q2 (d2 h1)
theorem toF_rd {to : List Int} {x a : Int} (h : rd to x = some a) : toF to x = a := by
  unfold rd at h
  unfold toF
  rw [List.getD_eq_getElem?_getD]
  split at h
  · rw [h]; rfl
  · cases h
theorem New.ren {gs out : List Gate} {to : List Int} {g : Gate} {a b d : Int} (h : New gs out to g a b d) : (g.1, a, b, d, g.2.2.2.2) = renG to g := by
  have e0 : a = (if g.1 ≥ 3 then toF to g.2.1 else g.2.1) := by
    by_cases h3 : g.1 ≥ 3
    · rw [if_pos h3, toF_rd (h.a3 h3).1]
    · rw [if_neg h3, h.a0 h3]
  have e1 : b = (if g.1 > 3 then toF to g.2.2.1 else g.2.2.1) := by
    by_cases h3 : g.1 > 3
    · rw [if_pos h3, toF_rd (h.b4 h3).1]
    · rw [if_neg h3, h.b0 h3]
  have e2 : d = (if g.1 = 7 then toF to g.2.2.2.1 else g.2.2.2.1) := by
    by_cases h3 : g.1 = 7
    · rw [if_pos h3, toF_rd (h.d7 h3).1]
    · rw [if_neg h3, h.d0 h3]
  unfold renG
  rw [← e0, ← e1, ← e2]
theorem Ren2.add {gs : List Gate} {S : List Bool} {i : Nat} {to : List Int} {out : List Gate} {g : Gate} {a b d : Int} (h : Ren2 ins nx gs S i to out) (hgs : Good ins nx gs) (hg : gs[i]? = some g) (hon : onAt S i) (hn : New gs out to g a b d) : Ren2 ins nx gs S (i + 1) (to.set i (out.length : Int)) (out ++ [(g.1, a, b, d, g.2.2.2.2)]) := by
  have hi := get_lt hg
  have ht := h.tolen
  have hlow : ∀ j y, gs[j]? = some y → j ≤ i → renG (to.set i (out.length : Int)) y = renG to y := fun j y hy hj => renG_set (fun x hx => by
    have := hx.low hgs hy
    omega)
  refine ⟨h.toRen.add hgs hg hn, fun r y hy => ?_, fun j hj hon => ?_, fun j j' r hj hj' hon1 hon' hr hr' => ?_⟩
  · by_cases hr : r < out.length
    · rw [List.getElem?_append_left hr] at hy
      obtain ⟨j, g', h1, h2, h3, h4, h5⟩ := h.src r y hy
      exact ⟨j, g', by omega, h2, h3, by rw [List.getElem?_set_ne (by omega)]; exact h4, by rw [hlow j g' h3 (by omega)]; exact h5⟩
    · have : r = out.length := by
        have := get_lt hy
        rw [List.length_append, List.length_singleton] at this
        omega
      subst this
      rw [List.getElem?_append_right (Nat.le_refl _), Nat.sub_self] at hy
      cases hy
      exact ⟨i, g, by omega, hon, hg, by rw [List.getElem?_set_self (by omega)], by rw [hlow i g hg (Nat.le_refl _)]; exact hn.ren⟩
  · by_cases hji : j = i
    · subst hji
      exact ⟨out.length, g, by rw [List.getElem?_set_self (by omega)], by simp, hg, by rw [hlow j g hg (Nat.le_refl _), ← hn.ren]; simp⟩
    · obtain ⟨r, g', e1, e2, e3, e4⟩ := h.dst j (by omega) hon
      exact ⟨r, g', by rw [List.getElem?_set_ne (fun e => hji e.symm)]; exact e1, by rw [List.length_append, List.length_singleton]; omega, e3, by rw [hlow j g' e3 (by omega), List.getElem?_append_left e2]; exact e4⟩
  · by_cases e : j = i
    · by_cases e' : j' = i
      · rw [e, e']
      · subst e
        rw [List.getElem?_set_self (by omega)] at hr
        rw [List.getElem?_set_ne (fun e => e' e.symm)] at hr'
        cases hr
        obtain ⟨r, g', e1, e2, _⟩ := h.dst j' (by omega) hon'
        rw [hr'] at e1
        cases e1
        omega
    · rw [List.getElem?_set_ne (fun h => e h.symm)] at hr
      by_cases e' : j' = i
      · subst e'
        rw [List.getElem?_set_self (by omega)] at hr'
        cases hr'
        obtain ⟨r, g', e1, e2, _⟩ := h.dst j (by omega) hon1
        rw [hr] at e1
        cases e1
        omega
      · rw [List.getElem?_set_ne (fun h => e' h.symm)] at hr'
        exact h.inj j j' r (by omega) (by omega) hon1 hon' hr hr'
end
theorem renum2 {c : Cir} (hG : Good c.1 c.2.2.2.1.length c.2.1) (hl : c.2.1.length ≤ 100000) {S : List Bool} (hS : S.length = c.2.1.length) (hK : Kept c.2.1 S (fun _ => False)) (o0 : E0) (o1 : List Gate) (o2 o3 o4 : List Int) (o8 : E8) (o10 o11 : List Int) : ∀ (n i : Nat) (to : List Int) (out : List Gate), i + n = c.2.1.length → Ren2 c.1 c.2.2.2.1.length c.2.1 S i to out →
    ∃ to' out', Ren2 c.1 c.2.2.2.1.length c.2.1 S c.2.1.length to' out' ∧ Lp (fun k => swept110.l2 k c) (c, (), (), (), (), (i : Int), o0, o1, o2, o3, o4, S, (), to, o8, out, o10, o11) (c, (), (), (), o0, o1, o2, o3, o4, to', o8, out', o10, o11) := by
  intro n
  induction n with
  | zero =>
    intro i to out hi hR
    have : i = c.2.1.length := by omega
    subst this
    refine ⟨to, out, hR, .done ?_⟩
    simp only [swept110.l2]
    exact .no (by simp) (.now _)
  | succ n ih =>
    intro i to out hi hR
    have hg : c.2.1[i]? = some c.2.1[i] := List.getElem?_eq_getElem (by omega)
    generalize c.2.1[i]'(by omega) = g at hg
    have hs : S[i]? = some S[i] := List.getElem?_eq_getElem (by omega)
    generalize S[i]'(by omega) = b at hs
    have hw : w64 ((i : Int) + 1) = ((i + 1 : Nat) : Int) := w64_succ (by omega)
    cases b with
    | false =>
      obtain ⟨to', out', r, e⟩ := ih (i + 1) to out (by omega) (hR.skip (fun h => by unfold onAt at h; rw [hs] at h; cases h))
      refine ⟨to', out', r, .step ?_ e⟩
      simp only [swept110.l2]
      refine .yes (decide_eq_true (by omega)) (.bind (a := (c, (), (), (), (), o0, o1, o2, o3, o4, S, (), to, o8, out, o10, o11)) (.val (rd_some' hg) (.val (rd_some' hs) (.val (rd_some' hs) (.yes rfl (.now _))))) (.now' ?_))
      rw [hw]
    | true =>
      obtain ⟨a, b, d, hn⟩ := new_of hR.toRen hK hG hg hs
      obtain ⟨to', out', r, e⟩ := ih (i + 1) (to.set i (out.length : Int)) (out ++ [(g.1, a, b, d, g.2.2.2.2)]) (by omega) (hR.add hG hg hs hn)
      refine ⟨to', out', r, .step ?_ e⟩
      have hol := hR.outlen
      have hto := hR.tolen
      have hti : to[i]? = some to[i] := List.getElem?_eq_getElem (by omega)
      simp only [swept110.l2]
      refine .yes (decide_eq_true (by omega)) (.bind (a := (c, (), (), (), (), o0, o1, o2, o3, o4, S, (), to.set i (out.length : Int), o8, out ++ [(g.1, a, b, d, g.2.2.2.2)], o10, o11)) (.val (rd_some' hg) (.val (rd_some' hs) (.val (rd_some' hs) (.no rfl ?_)))) (.now' ?_))
      · refine .bind (a := (c, (), (), (), (), (), o0, o1, o2, o3, o4, S, (), to, o8, out, o10, o11, (g.1, a, g.2.2.1, g.2.2.2.1, g.2.2.2.2))) ?_ (.bind (a := (c, (), (), (), (), (), o0, o1, o2, o3, o4, S, (), to, o8, out, o10, o11, (g.1, a, b, g.2.2.2.1, g.2.2.2.2))) ?_ (.bind (a := (c, (), (), (), (), (), o0, o1, o2, o3, o4, S, (), to, o8, out, o10, o11, (g.1, a, b, d, g.2.2.2.2))) ?_ ?_))
        · by_cases h3 : g.1 ≥ 3
          · exact .yes (decide_eq_true h3) (.val (hn.a3 h3).1 (.val (hn.a3 h3).1 (.now _)))
          · refine .no (decide_eq_false h3) (.now' ?_)
            rw [hn.a0 h3]
        · by_cases h3 : g.1 > 3
          · exact .yes (decide_eq_true h3) (.val (hn.b4 h3).1 (.val (hn.b4 h3).1 (.now _)))
          · refine .no (decide_eq_false h3) (.now' ?_)
            rw [hn.b0 h3]
        · by_cases h3 : g.1 = 7
          · exact .yes (by simpa using h3) (.val (hn.d7 h3).1 (.val (hn.d7 h3).1 (.now _)))
          · refine .no (beq_false_of_ne h3) (.now' ?_)
            rw [hn.d0 h3]
        · refine .val (rd_some' hti) (.val (rd_some' hti) (.val (a := ()) ?_ (.now' ?_)))
          · rw [if_pos (room_ok (by simp only [List.length_cons, List.length_nil]; omega))]
          · rw [Int.toNat_natCast]
      · rw [hw]
/-- every gate is asked for: by the list, or by a gate behind it -/
def Need (gs : List Gate) (l : List Int) : Prop := ∀ r, r < gs.length → (r : Int) ∈ l ∨ ∃ (j : Nat) (g : Gate), r < j ∧ gs[j]? = some g ∧ Leg g (r : Int)
theorem renG_leg {to : List Int} {g : Gate} {x : Int} (h : Leg g x) : Leg (renG to g) (toF to x) := by
  rcases h with ⟨h1, rfl⟩ | ⟨h1, rfl⟩ | ⟨h1, rfl⟩
  · exact .inl ⟨h1, (if_pos h1).symm⟩
  · exact .inr (.inl ⟨h1, (if_pos h1).symm⟩)
  · exact .inr (.inr ⟨h1, (if_pos h1).symm⟩)
theorem toF_at {to : List Int} {x : Int} {r : Int} (h : to[x.toNat]? = some r) : toF to x = r := by
  unfold toF
  rw [List.getD_eq_getElem?_getD, h]; rfl
theorem ext5 {g h : Gate} (h0 : g.1 = h.1) (h1 : g.2.1 = h.2.1) (h2 : g.2.2.1 = h.2.2.1) (h3 : g.2.2.2.1 = h.2.2.2.1) (h4 : g.2.2.2.2 = h.2.2.2.2) : g = h := by
  obtain ⟨a, b, c, d, e⟩ := g
  obtain ⟨a', b', c', d', e'⟩ := h
  simp only at h0 h1 h2 h3 h4
  subst h0 h1 h2 h3 h4
  rfl
theorem left_of {ins : Int} {nx : Nat} {gs : List Gate} {S : List Bool} {to : List Int} {out : List Gate} (hG : Good ins nx gs) (hS : S.length = gs.length) (hR : Ren2 ins nx gs S gs.length to out) (hK : Kept gs S (fun _ => False)) (hU : gs.Nodup) (hNC : NC gs) {l : List Int}
    (hon : ∀ x ∈ l, (0 ≤ x ∧ x < (gs.length : Int)) ∧ onAt S x.toNat) (hless : ∀ j, onAt S j → ∃ x ∈ l, Dn gs x.toNat j) : out.Nodup ∧ NC out ∧ Need out (l.map (toF to)) := by
  have leg : ∀ {j : Nat} {g : Gate} {x : Int}, gs[j]? = some g → onAt S j → Leg g x → ∃ (r : Nat) (y : Gate), toF to x = (r : Int) ∧ r < out.length ∧ gs[x.toNat]? = some y ∧ out[r]? = some (renG to y) := fun {j g x} hg hj hx => by
    have hlt := get_lt hg
    have h1 := hx.low hG hg
    obtain ⟨r, y, e1, e2, e3, e4⟩ := hR.dst x.toNat (by omega) (hK.leg hj hg hx)
    exact ⟨r, y, toF_at e1, e2, e3, e4⟩
  have same : ∀ {j j' : Nat} {g g' : Gate} {x x' : Int}, gs[j]? = some g → gs[j']? = some g' → onAt S j → onAt S j' → Leg g x → Leg g' x' → toF to x = toF to x' → x = x' := fun {j j' g g' x x'} hg hg' hj hj' hx hx' he => by
    have hlt := get_lt hg
    have hlt' := get_lt hg'
    have h1 := hx.low hG hg
    have h1' := hx'.low hG hg'
    obtain ⟨r, y, e1, e2, _⟩ := hR.dst x.toNat (by omega) (hK.leg hj hg hx)
    obtain ⟨r', y', e1', e2', _⟩ := hR.dst x'.toNat (by omega) (hK.leg hj' hg' hx')
    rw [toF_at e1, toF_at e1'] at he
    rw [he] at e1
    have := hR.inj x.toNat x'.toNat _ (by omega) (by omega) (hK.leg hj hg hx) (hK.leg hj' hg' hx') e1 e1'
    omega
  refine ⟨?_, fun r y hy => ?_, fun r hr => ?_⟩
  · rw [List.Nodup, List.pairwise_iff_getElem]
    intro r r' hr hr' hlt he
    obtain ⟨j, g, a1, a2, a3, a4, a5⟩ := hR.src r _ (List.getElem?_eq_getElem hr)
    obtain ⟨j', g', b1, b2, b3, b4, b5⟩ := hR.src r' _ (List.getElem?_eq_getElem hr')
    have e : renG to g = renG to g' := by rw [← a5, ← b5]; exact he
    have f0' : (renG to g).1 = (renG to g').1 := congrArg (fun (z : Gate) => z.1) e
    have f0 : g.1 = g'.1 := f0'
    have f1 : (if g.1 ≥ 3 then toF to g.2.1 else g.2.1) = (if g'.1 ≥ 3 then toF to g'.2.1 else g'.2.1) := congrArg (fun (z : Gate) => z.2.1) e
    have f2 : (if g.1 > 3 then toF to g.2.2.1 else g.2.2.1) = (if g'.1 > 3 then toF to g'.2.2.1 else g'.2.2.1) := congrArg (fun (z : Gate) => z.2.2.1) e
    have f3 : (if g.1 = 7 then toF to g.2.2.2.1 else g.2.2.2.1) = (if g'.1 = 7 then toF to g'.2.2.2.1 else g'.2.2.2.1) := congrArg (fun (z : Gate) => z.2.2.2.1) e
    have f4' : (renG to g).2.2.2.2 = (renG to g').2.2.2.2 := congrArg (fun (z : Gate) => z.2.2.2.2) e
    have f4 : g.2.2.2.2 = g'.2.2.2.2 := f4'
    have hgg : g = g' := by
      refine ext5 f0 ?_ ?_ ?_ f4
      · by_cases h : g.1 ≥ 3
        · rw [if_pos h, if_pos (f0 ▸ h)] at f1
          exact same a3 b3 a2 b2 (.inl ⟨h, rfl⟩) (.inl ⟨f0 ▸ h, rfl⟩) f1
        · rwa [if_neg h, if_neg (f0 ▸ h)] at f1
      · by_cases h : g.1 > 3
        · rw [if_pos h, if_pos (f0 ▸ h)] at f2
          exact same a3 b3 a2 b2 (.inr (.inl ⟨h, rfl⟩)) (.inr (.inl ⟨f0 ▸ h, rfl⟩)) f2
        · rwa [if_neg h, if_neg (f0 ▸ h)] at f2
      · by_cases h : g.1 = 7
        · rw [if_pos h, if_pos (f0 ▸ h)] at f3
          exact same a3 b3 a2 b2 (.inr (.inr ⟨h, rfl⟩)) (.inr (.inr ⟨f0 ▸ h, rfl⟩)) f3
        · rwa [if_neg h, if_neg (f0 ▸ h)] at f3
    subst hgg
    have hjj : j = j' := by
      have h1 := (List.getElem?_eq_some_iff.1 a3).2
      have h2 := (List.getElem?_eq_some_iff.1 b3).2
      have hp := List.pairwise_iff_getElem.1 hU
      rcases Nat.lt_trichotomy j j' with h | h | h
      · exact absurd (h1.trans h2.symm) (hp j j' a1 b1 h)
      · exact h
      · exact absurd (h2.trans h1.symm) (hp j' j b1 a1 h)
    subst hjj
    rw [a4] at b4
    cases b4
    omega
  · obtain ⟨j, g, a1, a2, a3, a4, rfl⟩ := hR.src r y hy
    have n1 := hNC j g a3
    have go : ∀ {x : Int}, Leg g x → NoK gs x → NoK out (toF to x) := fun {x} hx hn z hz => by
      obtain ⟨q, y', e1, e2, e3, e4⟩ := leg a3 a2 hx
      rw [e1, Int.toNat_natCast, e4] at hz
      cases hz
      exact hn y' e3
    refine ⟨fun h3 => ?_, fun h4 => ?_⟩
    · have h3 : g.1 ≥ 3 := h3
      show NoK out (if g.1 ≥ 3 then toF to g.2.1 else g.2.1)
      rw [if_pos h3]
      exact go (.inl ⟨h3, rfl⟩) (n1.1 h3)
    · have h4 : g.1 = 4 ∨ g.1 = 5 ∨ g.1 = 6 := h4
      show NoK out (if g.1 > 3 then toF to g.2.2.1 else g.2.2.1)
      rw [if_pos (by omega)]
      exact go (.inr (.inl ⟨by omega, rfl⟩)) (n1.2 h4)
  · obtain ⟨j, g, a1, a2, a3, a4, a5⟩ := hR.src r _ (List.getElem?_eq_getElem hr)
    obtain ⟨x, hx, hd⟩ := hless j a2
    obtain ⟨hx0, hx1⟩ := hon x hx
    rcases hd.last hK hx1 with e | ⟨i, g', z, b1, b2, b3, b4⟩
    · refine .inl (List.mem_map.2 ⟨x, hx, ?_⟩)
      subst e
      exact toF_at a4
    · subst b4
      obtain ⟨q, y', e1, e2, e3, e4⟩ := hR.dst i (get_lt b1) b2
      rw [b1] at e3
      cases e3
      have hl := renG_leg (to := to) b3
      rw [toF_at a4] at hl
      have := hl.low hR.good e4
      exact .inr ⟨q, _, by omega, e4, hl⟩
theorem swept2 {c : Cir} (hG : Good c.1 c.2.2.2.1.length c.2.1) (hl : c.2.1.length ≤ 100000) (ho : c.2.2.1.length ≤ 1000 ∧ ∀ x ∈ c.2.2.1, 0 ≤ x ∧ x < (c.2.1.length : Int)) (hn : c.2.2.2.1.length ≤ 1000 ∧ ∀ x ∈ c.2.2.2.1, 0 ≤ x ∧ x < (c.2.1.length : Int)) (hU : c.2.1.Nodup) (hNC : NC c.2.1) :
    ∃ (gs' : List Gate) (to : List Int), gs'.length ≤ c.2.1.length ∧ Good c.1 c.2.2.2.1.length gs' ∧ gs'.Nodup ∧ NC gs' ∧ Need gs' ((c.2.2.1 ++ c.2.2.2.1).map (toF to)) ∧ (∀ x ∈ c.2.2.1 ++ c.2.2.2.1, ∃ r : Nat, r < gs'.length ∧ toF to x = (r : Int) ∧ ∀ st inn, val gs' st inn r = val c.2.1 st inn x.toNat) ∧
      Ev (fun k => swept110 k c) ((c.1, gs', c.2.2.1.map (toF to), c.2.2.2.1.map (toF to), c.2.2.2.2), ()) := by
  have hone : ∀ (i : Nat) (g : Gate), c.2.1[i]? = some g → oneF c i g = 0 := fun i g h => (oneF_cc c [] i g).symm.trans (hG i g h)
  have hw : ∀ {i : Nat}, i ≤ 1000 → w64 ((i : Int) + 1) = ((i + 1 : Nat) : Int) := fun h => w64_succ (by omega)
  obtain ⟨S1, m1, k1, on1, w1, v1⟩ := marks_more hone (body := fun k => swept110.l0 k c) (R := Cir × Unit × Unit × Unit × E0 × List Gate × List Int × List Int × List Int × List Bool × Unit × FarU) c.2.2.1 ho.2 (fun i S => (c, (), (), (), i, (0, (), (), (), ()), [], [], [], [], S, (), (), c, (), ()))
    (fun i x S S' hx hv => by
      have hi := get_lt hx
      simp only [swept110.l0]
      refine .yes (decide_eq_true (by omega)) (.val (rd_some' hx) (.bind hv (.now' ?_)))
      rw [hw (by omega)])
    (fun S => (c, (), (), (), (0, (), (), (), ()), [], [], [], [], S, (), ((), c, (), ())))
    (fun S => by
      simp only [swept110.l0]
      exact .no (by simp) (.now _)) c.2.2.1 [] rfl (List.replicate c.2.1.length false) (by simp) (kept0 _ _)
  obtain ⟨S2, m2, k2, on2, w2, v2⟩ := marks_more hone (body := fun k => swept110.l1 k c) (R := Cir × Unit × Unit × E0 × List Gate × List Int × List Int × List Int × List Bool × Unit) c.2.2.2.1 hn.2 (fun i S => (c, (), (), (), i, (0, (), (), (), ()), [], [], [], [], S, (), (), c, (), ()))
    (fun i x S S' hx hv => by
      have hi := get_lt hx
      simp only [swept110.l1]
      refine .yes (decide_eq_true (by omega)) (.val (rd_some' hx) (.bind hv (.now' ?_)))
      rw [hw (by omega)])
    (fun S => (c, (), (), (0, (), (), (), ()), [], [], [], [], S, ()))
    (fun S => by
      simp only [swept110.l1]
      exact .no (by simp) (.now _)) c.2.2.2.1 [] rfl S1 (m1.len.trans (by simp)) k1
  have hS2 : S2.length = c.2.1.length := m2.len.trans (m1.len.trans (by simp))
  obtain ⟨to, gs', hR, v3⟩ := renum2 hG hl hS2 k2 (0, (), (), (), ()) [] [] [] [] (c.1, (), (), (), c.2.2.2.2) [] [] c.2.1.length 0 (List.replicate c.2.1.length 0) [] (by omega)
    ⟨⟨by simp, Nat.le_refl _, fun i g h => by simp at h, fun j hj => by omega⟩, fun r y hy => by simp at hy, fun j hj => by omega, fun j j' r hj => by omega⟩
  have hto := hR.tolen
  have hin : ∀ x : Int, 0 ≤ x ∧ x < (c.2.1.length : Int) → 0 ≤ x ∧ x.toNat < to.length := fun x h => ⟨h.1, by omega⟩
  have v4 : Lp (fun k => swept110.l3 k c) (c, (), (), (), 0, (0, (), (), (), ()), [], [], [], [], to, (c.1, (), (), (), c.2.2.2.2), gs', [], []) (c, (), (), (), (0, (), (), (), ()), [], [], [], [], to, (c.1, (), (), (), c.2.2.2.2), gs', c.2.2.1.map (toF to), []) :=
    outs_lp (c := c) (to := to) c.2.2.1 ho.1 (fun x hx => hin x (ho.2 x hx)) (body := fun k => swept110.l3 k c) (fun o i => (c, (), (), (), i, (0, (), (), (), ()), [], [], [], [], to, (c.1, (), (), (), c.2.2.2.2), gs', o, []))
      (fun o => (c, (), (), (), (0, (), (), (), ()), [], [], [], [], to, (c.1, (), (), (), c.2.2.2.2), gs', o, []))
      (fun i x r o hi ho' hx hr => by
        have hi := get_lt hx
        simp only [swept110.l3]
        refine .yes (decide_eq_true (by omega)) (.val (rd_some' hx) (.val hr (.val hr (.val (a := ()) ?_ (.now' ?_)))))
        · rw [if_pos (room_ok (by simp only [List.length_cons, List.length_nil]; omega))]
        · rw [w64_id (by omega) (by omega)])
      (fun o => by
        simp only [swept110.l3]
        exact .no (by simp) (.now _))
  have v5 : Lp (fun k => swept110.l4 k c) ((), (), (), 0, (0, (), (), (), ()), [], [], [], [], to, (c.1, (), (), (), c.2.2.2.2), gs', c.2.2.1.map (toF to), []) ((), (), (0, (), (), (), ()), [], [], [], [], (c.1, (), (), (), c.2.2.2.2), gs', c.2.2.1.map (toF to), c.2.2.2.1.map (toF to)) :=
    outs_lp (c := c) (to := to) c.2.2.2.1 hn.1 (fun x hx => hin x (hn.2 x hx)) (body := fun k => swept110.l4 k c) (fun o i => ((), (), (), i, (0, (), (), (), ()), [], [], [], [], to, (c.1, (), (), (), c.2.2.2.2), gs', c.2.2.1.map (toF to), o))
      (fun o => ((), (), (0, (), (), (), ()), [], [], [], [], (c.1, (), (), (), c.2.2.2.2), gs', c.2.2.1.map (toF to), o))
      (fun i x r o hi ho' hx hr => by
        have hi := get_lt hx
        simp only [swept110.l4]
        refine .yes (decide_eq_true (by omega)) (.val (rd_some' hx) (.val hr (.val hr (.val (a := ()) ?_ (.now' ?_)))))
        · rw [if_pos (room_ok (by simp only [List.length_cons, List.length_nil]; omega))]
        · rw [w64_id (by omega) (by omega)])
      (fun o => by
        simp only [swept110.l4]
        exact .no (by simp) (.now _))
  have hon : ∀ x ∈ c.2.2.1 ++ c.2.2.2.1, (0 ≤ x ∧ x < (c.2.1.length : Int)) ∧ onAt S2 x.toNat := fun x hx => by
    rcases List.mem_append.1 hx with hx | hx
    · exact ⟨ho.2 x hx, m2.on _ (on1 x hx)⟩
    · exact ⟨hn.2 x hx, on2 x hx⟩
  have hless : ∀ j, onAt S2 j → ∃ x ∈ c.2.2.1 ++ c.2.2.2.1, Dn c.2.1 x.toNat j := fun j hj => by
    rcases w2 j hj with hj | ⟨x, hx, hd⟩
    · rcases w1 j hj with hj | ⟨x, hx, hd⟩
      · unfold onAt at hj
        rw [List.getElem?_replicate] at hj
        split at hj <;> cases hj
      · exact ⟨x, List.mem_append_left _ hx, hd⟩
    · exact ⟨x, List.mem_append_right _ hx, hd⟩
  obtain ⟨a1, a2, a3⟩ := left_of hG hS2 hR k2 hU hNC hon hless
  refine ⟨gs', to, hR.outlen, hR.good, a1, a2, a3, fun x hx => ?_, ?_⟩
  · have hx2 : (0 ≤ x ∧ x < (c.2.1.length : Int)) ∧ onAt S2 x.toNat := by
      rcases List.mem_append.1 hx with hx | hx
      · exact ⟨ho.2 x hx, m2.on _ (on1 x hx)⟩
      · exact ⟨hn.2 x hx, on2 x hx⟩
    obtain ⟨r, e1, e2, e3⟩ := hR.at' x.toNat (by have := hx2.1; omega) hx2.2
    exact ⟨r, e2, by unfold toF; rw [List.getD_eq_getElem?_getD, e1]; rfl, e3⟩
  · unfold swept110
    refine .val (a := ()) (by rw [if_pos (by omega)]) (.bind (v1.ev.of fun k => by rw [Int.toNat_natCast]; rfl) (.bind v2.ev (.val (a := ()) (by rw [if_pos (by omega)]) (.bind (v3.ev.of fun k => by rw [Int.toNat_natCast]; rfl) (.bind v4.ev (.bind v5.ev (.now _)))))))
end Go.Proofs.Ytjbdhaenakcclaa.St

/- Smaller circuits: a gate made again. No program in sight. -/
set_option linter.unusedVariables false
set_option maxRecDepth 100000
noncomputable section
namespace Go.Proofs.Ytjbdhaenakcclaa.St
open Go Go.Proofs.Ytjbdhaenakcclaa.Gp

/-- the values at the gates that a table names -/
def atv (gs : List Gate) (st inn : Int) (tb : List Int) : List Nat := tb.map (fun r => val gs st inn r.toNat)
theorem atv_at {gs : List Gate} {st inn : Int} {tb : List Int} {i r : Nat} (h : tb[i]? = some (r : Int)) : (atv gs st inn tb).getD i 0 = val gs st inn r := by
  unfold atv
  rw [List.getD_eq_getElem?_getD, List.getElem?_map, h]
  rfl
section
variable {ins : Int} {nx : Nat}
theorem again2 {gs : List Gate} {m : GMap} (h : Mk gs m) (hG : Good ins nx gs) (hN : NC gs) (hl : gs.length ≤ 100000) {g : Gate} {tb : List Int} (hk : ¬ (g.1 < 0 ∨ g.1 > 7)) (hat : ∀ x, Leg g x → 0 ≤ x ∧ ∃ r : Nat, tb[x.toNat]? = some (r : Int) ∧ r < gs.length)
    (hlow : g.1 < 3 → oneF (cc ins nx []) (gs.length : Int) g = 0) : Does2 ins nx gs (fun k => again111 k () g tb ((), ()) gs m) ((), ()) 1 (fun st inn => valG st inn (atv gs st inn tb) g) := by
  obtain ⟨kd, a, b, d, n⟩ := g
  have rdat : ∀ {x : Int} {r : Nat}, 0 ≤ x → tb[x.toNat]? = some (r : Int) → rd tb x = some (r : Int) := fun {x r} h0 hx => by
    unfold rd
    rw [if_pos h0, hx]
  have low : kd < 3 → Does2 ins nx gs (fun k => put107 k () (kd, a, b, d, n) ((), ()) gs m) ((), ()) 1 (fun st inn => valG st inn (atv gs st inn tb) (kd, a, b, d, n)) := fun h3 => by
    obtain ⟨gs', m', r, hm, hN', he⟩ := put2 h hG hN hl ((), ()) (hlow h3) (nc_low h3)
    refine ⟨gs', m', r, hm.to (Nat.le_refl _) (fun st inn => ?_), hN', he⟩
    unfold valG
    have hk : ¬ (kd < 0 ∨ kd > 7) := hk
    rcases (show kd = 0 ∨ kd = 1 ∨ kd = 2 by omega) with rfl | rfl | rfl <;> rfl
  have kk : kd = 0 ∨ kd = 1 ∨ kd = 2 ∨ kd = 3 ∨ kd = 4 ∨ kd = 5 ∨ kd = 6 ∨ kd = 7 := kinds hk
  unfold again111
  rcases kk with rfl | rfl | rfl | rfl | rfl | rfl | rfl | rfl
  · obtain ⟨gs', m', r, hm, hN', he⟩ := low (by decide)
    exact ⟨gs', m', r, hm, hN', .no rfl (.bind (a := ((), (0, a, b, d, n), false, ((), ()), gs, m)) (.no rfl (.now _)) (.no rfl (.no rfl (.no rfl (.bind he (.now _))))))⟩
  · obtain ⟨gs', m', r, hm, hN', he⟩ := low (by decide)
    exact ⟨gs', m', r, hm, hN', .no rfl (.bind (a := ((), (1, a, b, d, n), false, ((), ()), gs, m)) (.no rfl (.now _)) (.no rfl (.no rfl (.no rfl (.bind he (.now _))))))⟩
  · obtain ⟨gs', m', r, hm, hN', he⟩ := low (by decide)
    exact ⟨gs', m', r, hm, hN', .no rfl (.bind (a := ((), (2, a, b, d, n), false, ((), ()), gs, m)) (.no rfl (.now _)) (.no rfl (.no rfl (.no rfl (.bind he (.now _))))))⟩
  · obtain ⟨h0, p, hp, hpl⟩ := hat a (.inl ⟨by show (3 : Int) ≥ 3; decide, rfl⟩)
    obtain ⟨gs', m', r, hm, hN', he⟩ := not2 h hG hN hl ((), ()) hpl
    refine ⟨gs', m', r, hm.to (Nat.le_refl _) (fun st inn => ?_), hN', .yes rfl (.val (rdat h0 hp) (.bind he (.now _)))⟩
    show _ = 1 - (atv gs st inn tb).getD a.toNat 0
    rw [atv_at hp]
  · obtain ⟨h0, p, hp, hpl⟩ := hat a (.inl ⟨by show (4 : Int) ≥ 3; decide, rfl⟩)
    obtain ⟨h1, q, hq, hql⟩ := hat b (.inr (.inl ⟨by show (4 : Int) > 3; decide, rfl⟩))
    obtain ⟨gs', m', r, hm, hN', he⟩ := both2 h hG hN hl (.inl rfl) hpl hql
    refine ⟨gs', m', r, hm.to (Nat.le_refl _) (fun st inn => ?_), hN', .no rfl (.bind (a := ((), (4, a, b, d, n), true, ((), ()), gs, m)) (.yes rfl (.now _)) (.yes rfl (.val (rdat h0 hp) (.val (rdat h1 hq) (.bind he (.now _))))))⟩
    show _ = (atv gs st inn tb).getD a.toNat 0 &&& (atv gs st inn tb).getD b.toNat 0
    rw [atv_at hp, atv_at hq]; rfl
  · obtain ⟨h0, p, hp, hpl⟩ := hat a (.inl ⟨by show (5 : Int) ≥ 3; decide, rfl⟩)
    obtain ⟨h1, q, hq, hql⟩ := hat b (.inr (.inl ⟨by show (5 : Int) > 3; decide, rfl⟩))
    obtain ⟨gs', m', r, hm, hN', he⟩ := both2 h hG hN hl (.inr rfl) hpl hql
    refine ⟨gs', m', r, hm.to (Nat.le_refl _) (fun st inn => ?_), hN', .no rfl (.bind (a := ((), (5, a, b, d, n), true, ((), ()), gs, m)) (.no rfl (.now _)) (.yes rfl (.val (rdat h0 hp) (.val (rdat h1 hq) (.bind he (.now _))))))⟩
    show _ = (atv gs st inn tb).getD a.toNat 0 ||| (atv gs st inn tb).getD b.toNat 0
    rw [atv_at hp, atv_at hq]; rfl
  · obtain ⟨h0, p, hp, hpl⟩ := hat a (.inl ⟨by show (6 : Int) ≥ 3; decide, rfl⟩)
    obtain ⟨h1, q, hq, hql⟩ := hat b (.inr (.inl ⟨by show (6 : Int) > 3; decide, rfl⟩))
    obtain ⟨gs', m', r, hm, hN', he⟩ := xor2 h hG hN hl hpl hql
    refine ⟨gs', m', r, hm.to (Nat.le_refl _) (fun st inn => ?_), hN', .no rfl (.bind (a := ((), (6, a, b, d, n), false, ((), ()), gs, m)) (.no rfl (.now _)) (.no rfl (.yes rfl (.val (rdat h0 hp) (.val (rdat h1 hq) (.bind he (.now _)))))))⟩
    show _ = (atv gs st inn tb).getD a.toNat 0 ^^^ (atv gs st inn tb).getD b.toNat 0
    rw [atv_at hp, atv_at hq]; rfl
  · obtain ⟨h0, p, hp, hpl⟩ := hat a (.inl ⟨by show (7 : Int) ≥ 3; decide, rfl⟩)
    obtain ⟨h1, q, hq, hql⟩ := hat b (.inr (.inl ⟨by show (7 : Int) > 3; decide, rfl⟩))
    obtain ⟨h2, u, hu, hul⟩ := hat d (.inr (.inr ⟨rfl, rfl⟩))
    obtain ⟨gs', m', r, hm, hN', he⟩ := mux2 h hG hN hl ((), ()) hpl hql hul
    refine ⟨gs', m', r, hm.to (Nat.le_refl _) (fun st inn => ?_), hN', .no rfl (.bind (a := ((), (7, a, b, d, n), false, ((), ()), gs, m)) (.no rfl (.now _)) (.no rfl (.no rfl (.yes rfl (.val (rdat h0 hp) (.val (rdat h1 hq) (.val (rdat h2 hu) (.bind he (.now _)))))))))⟩
    show _ = if (atv gs st inn tb).getD a.toNat 0 = 1 then (atv gs st inn tb).getD b.toNat 0 else (atv gs st inn tb).getD d.toNat 0
    rw [atv_at hp, atv_at hq, atv_at hu]
end
end Go.Proofs.Ytjbdhaenakcclaa.St

/- Circuits of gates: what hangs on what. No program in sight. -/
set_option linter.unusedVariables false
set_option maxRecDepth 100000
noncomputable section
namespace Go.Proofs.Ytjbdhaenakcclaa.St.Us
open Go Go.Proofs.Ytjbdhaenakcclaa.Gp

def legsL (g : Gate) : List Int := ([g.2.1, g.2.2.1, g.2.2.2.1] : List Int).take (needs g.1).toNat
def flopL (c : Cir) (g : Gate) : List Int := if g.1 = 2 then [c.2.2.2.1.getD g.2.2.2.2.toNat 0] else []
def kids (c : Cir) (g : Gate) : List Int := legsL g ++ flopL c g
def okx (c : Cir) (x : Int) : Prop := 0 ≤ x ∧ x < (c.2.1.length : Int)
theorem needs4 (k : Int) : needs k = 0 ∨ needs k = 1 ∨ needs k = 2 ∨ needs k = 3 := by
  unfold needs
  by_cases h1 : k = 3
  · rw [if_pos h1]; exact .inr (.inl rfl)
  · rw [if_neg h1]
    by_cases h2 : k = 4 ∨ k = 5 ∨ k = 6
    · rw [if_pos h2]; exact .inr (.inr (.inl rfl))
    · rw [if_neg h2]
      by_cases h3 : k = 7
      · rw [if_pos h3]; exact .inr (.inr (.inr rfl))
      · rw [if_neg h3]; exact .inl rfl
theorem legs_mem {g : Gate} {x : Int} (h : x ∈ legsL g) : (0 < needs g.1 ∧ x = g.2.1) ∨ (1 < needs g.1 ∧ x = g.2.2.1) ∨ (2 < needs g.1 ∧ x = g.2.2.2.1) := by
  unfold legsL at h
  rcases needs4 g.1 with e | e | e | e <;> rw [e] at h ⊢
  · simp at h
  · simp at h; exact .inl ⟨by decide, h⟩
  · simp at h
    rcases h with h | h
    · exact .inl ⟨by decide, h⟩
    · exact .inr (.inl ⟨by decide, h⟩)
  · simp at h
    rcases h with h | h | h
    · exact .inl ⟨by decide, h⟩
    · exact .inr (.inl ⟨by decide, h⟩)
    · exact .inr (.inr ⟨by decide, h⟩)
theorem legs_lt {c : Cir} (hR : Right c) {k : Nat} {g : Gate} (hg : c.2.1[k]? = some g) : ∀ x ∈ legsL g, 0 ≤ x ∧ x < (k : Int) := by
  obtain ⟨_, a1, a2, a3, _⟩ := gate_ok (hR.gate k g hg)
  intro x hx
  rcases legs_mem hx with ⟨h, rfl⟩ | ⟨h, rfl⟩ | ⟨h, rfl⟩
  · exact a1 h
  · exact a2 h
  · exact a3 h
theorem flop_at {c : Cir} (hR : Right c) {k : Nat} {g : Gate} (hg : c.2.1[k]? = some g) (h2 : g.1 = 2) : rd c.2.2.2.1 g.2.2.2.2 = some (c.2.2.2.1.getD g.2.2.2.2.toNat 0) ∧ okx c (c.2.2.2.1.getD g.2.2.2.2.toNat 0) := by
  obtain ⟨_, _, _, _, b0, b1⟩ := gate_ok (hR.gate k g hg)
  have b1 : g.2.2.2.2 < (c.2.2.2.1.length : Int) := by
    have e : mostN c g.1 = (c.2.2.2.1.length : Int) := by
      unfold mostN
      rw [if_neg (by omega), if_neg (by omega), if_pos h2]
    rw [e] at b1
    exact b1
  have hlt : g.2.2.2.2.toNat < c.2.2.2.1.length := by omega
  have he : c.2.2.2.1[g.2.2.2.2.toNat]? = some (c.2.2.2.1.getD g.2.2.2.2.toNat 0) := by
    rw [List.getD_eq_getElem?_getD, List.getElem?_eq_getElem hlt]; rfl
  exact ⟨rd_z b0 he, hR.next.2 _ (List.mem_of_getElem? he)⟩
theorem kids_ok {c : Cir} (hR : Right c) {k : Nat} {g : Gate} (hg : c.2.1[k]? = some g) : ∀ x ∈ kids c g, okx c x := by
  intro x hx
  have hk := get_lt hg
  rcases List.mem_append.1 hx with hx | hx
  · have := legs_lt hR hg x hx
    exact ⟨this.1, by omega⟩
  · unfold flopL at hx
    by_cases h2 : g.1 = 2
    · rw [if_pos h2] at hx
      rw [List.mem_singleton.1 hx]
      exact (flop_at hR hg h2).2
    · rw [if_neg h2] at hx; cases hx

/-- ways -/
inductive Pth (c : Cir) : Int → Int → Prop where
  | here {x : Int} : Pth c x x
  | kid {k : Nat} {g : Gate} {y z : Int} : c.2.1[k]? = some g → y ∈ kids c g → Pth c y z → Pth c (k : Int) z
/-- how many are not there -/
def U (p : Nat → Bool) : Nat → Nat
  | 0 => 0
  | n + 1 => U p n + (if p n = true then 0 else 1)
theorem U_le {p q : Nat → Bool} : ∀ {n : Nat}, (∀ j, j < n → p j = true → q j = true) → U q n ≤ U p n
  | 0, _ => Nat.le_refl _
  | n + 1, h => by
    have ih := U_le (n := n) (fun j hj => h j (by omega))
    unfold U
    by_cases h1 : p n = true
    · rw [if_pos h1, if_pos (h n (by omega) h1)]; omega
    · rw [if_neg h1]
      split <;> omega
theorem U_lt {p q : Nat → Bool} : ∀ {n : Nat}, (∀ j, j < n → p j = true → q j = true) → (∃ j, j < n ∧ q j = true ∧ p j = false) → U q n < U p n
  | 0, _, ⟨j, hj, _⟩ => by omega
  | n + 1, h, ⟨j, hj, h1, h2⟩ => by
    unfold U
    by_cases hjn : j = n
    · subst hjn
      have := U_le (n := j) (fun i hi => h i (by omega))
      rw [if_pos h1, if_neg (by rw [h2]; decide)]
      omega
    · have ih := U_lt (n := n) (fun i hi => h i (by omega)) ⟨j, by omega, h1, h2⟩
      by_cases h3 : p n = true
      · rw [if_pos h3, if_pos (h n (by omega) h3)]; omega
      · rw [if_neg h3]
        split <;> omega

def mkd (s : List Bool) (j : Nat) : Bool := s.getD j false
/-- from these on, all is marked -/
structure DfsL (c : Cir) (s s' : List Bool) (ks : List Int) : Prop where
  len : s'.length = s.length
  mono : ∀ j, mkd s j = true → mkd s' j = true
  at_ : ∀ x ∈ ks, mkd s' x.toNat = true
  new : ∀ j, mkd s' j = true → mkd s j = false → (∃ x ∈ ks, Pth c x (j : Int)) ∧ ∀ g, c.2.1[j]? = some g → ∀ y ∈ kids c g, mkd s' y.toNat = true
theorem DfsL.nil {c : Cir} {s : List Bool} : DfsL c s s [] := ⟨rfl, fun _ h => h, fun x hx => (by cases hx), fun j h1 h2 => (by rw [h1] at h2; cases h2)⟩
theorem DfsL.app {c : Cir} {s s1 s2 : List Bool} {ks ls : List Int} (h : DfsL c s s1 ks) (h2 : DfsL c s1 s2 ls) : DfsL c s s2 (ks ++ ls) := by
  refine ⟨h2.len.trans h.len, fun j hj => h2.mono j (h.mono j hj), fun x hx => ?_, fun j h3 h4 => ?_⟩
  · rcases List.mem_append.1 hx with hx | hx
    · exact h2.mono _ (h.at_ x hx)
    · exact h2.at_ x hx
  · cases h5 : mkd s1 j with
    | true =>
      obtain ⟨⟨x, hx, hp⟩, hc⟩ := h.new j h5 h4
      exact ⟨⟨x, List.mem_append_left _ hx, hp⟩, fun g hg y hy => h2.mono _ (hc g hg y hy)⟩
    | false =>
      obtain ⟨⟨x, hx, hp⟩, hc⟩ := h2.new j h3 h5
      exact ⟨⟨x, List.mem_append_right _ hx, hp⟩, hc⟩
theorem mkd_set {s : List Bool} {i : Nat} (hi : i < s.length) (j : Nat) : mkd (s.set i true) j = if j = i then true else mkd s j := by
  unfold mkd
  rw [List.getD_eq_getElem?_getD, List.getD_eq_getElem?_getD, List.getElem?_set]
  by_cases h : i = j
  · subst h; rw [if_pos rfl, if_pos hi, if_pos rfl]; rfl
  · rw [if_neg h, if_neg (fun e => h e.symm)]
theorem DfsL.top {c : Cir} {s s' : List Bool} {i : Nat} {g : Gate} (hi : i < s.length) (hg : c.2.1[i]? = some g) (h : DfsL c (s.set i true) s' (kids c g)) : DfsL c s s' [(i : Int)] := by
  refine ⟨h.len.trans (by rw [List.length_set]), fun j hj => h.mono j ?_, fun x hx => ?_, fun j h3 h4 => ?_⟩
  · rw [mkd_set hi]; split <;> first | rfl | exact hj
  · rw [List.mem_singleton.1 hx]
    refine h.mono _ ?_
    rw [mkd_set hi, if_pos (by omega)]
  · by_cases hj : j = i
    · subst hj
      refine ⟨⟨_, List.mem_singleton.2 rfl, .here⟩, fun g' hg' y hy => ?_⟩
      rw [hg] at hg'
      cases hg'
      exact h.at_ y hy
    · obtain ⟨⟨x, hx, hp⟩, hc⟩ := h.new j h3 (by rw [mkd_set hi, if_neg hj]; exact h4)
      exact ⟨⟨_, List.mem_singleton.2 rfl, .kid hg hx hp⟩, hc⟩
theorem mkd_at {s : List Bool} {i : Nat} (hi : i < s.length) : s[i]? = some (mkd s i) := by
  unfold mkd
  rw [List.getD_eq_getElem?_getD, List.getElem?_eq_getElem hi]; rfl
abbrev Env := Unit × Cir × Unit × Unit
/-- the claim for all states of at most m that are not marked -/
def DfsAt (c : Cir) (m : Nat) : Prop := ∀ s : List Bool, s.length = c.2.1.length → U (mkd s) c.2.1.length ≤ m → ∀ x, okx c x → ∃ s', DfsL c s s' [x] ∧ Ev (fun k => Used178 k x () c () () s ((), c, (), ())) ((), (), s', ((), c, (), ()))
theorem kids_lp {c : Cir} {m : Nat} (ih : DfsAt c m) (g : Gate) (ks : List Int) (hks : ks.length ≤ 1000) : ∀ (suf pre : List Int) (s : List Bool), ks = pre ++ suf → (∀ x ∈ suf, okx c x) → s.length = c.2.1.length → U (mkd s) c.2.1.length ≤ m →
    ∃ s', DfsL c s s' suf ∧ Lp (fun k => Used178.l0 (GrpUsed178 k) k (ks.length : Int)) (c, (), g, (), (pre.length : Int), (), s, ((), c, (), ()), ks) (c, (), g, (), s', ((), c, (), ())) := by
  intro suf
  induction suf with
  | nil =>
    intro pre s h _ _ _
    rw [List.append_nil] at h
    subst h
    refine ⟨s, .nil, .done ?_⟩
    simp only [Used178.l0]
    exact .no (by simp) (.now _)
  | cons x suf ih2 =>
    intro pre s h hok hs hU
    obtain ⟨s1, d1, e1⟩ := ih s hs hU x (hok x (List.mem_cons_self ..))
    obtain ⟨s2, d2, e2⟩ := ih2 (pre ++ [x]) s1 (by rw [h]; simp) (fun y hy => hok y (List.mem_cons_of_mem _ hy)) (d1.len.trans hs) (Nat.le_trans (U_le (fun j _ hj => d1.mono j hj)) hU)
    have hx : ks[pre.length]? = some x := by rw [h]; simp
    have hlt := get_lt hx
    refine ⟨s2, d1.app d2, .step ?_ e2⟩
    simp only [Used178.l0]
    refine .yes (decide_eq_true (by omega)) (.val (rd_some' hx) (.val (rd_some' hx) (.bind (show Ev (fun k => GrpUsed178 k x () c () () s ((), c, (), ())) _ from e1) (.now' ?_))))
    rw [w64_succ (by omega)]
    simp
theorem dfs {c : Cir} (hR : Right c) : ∀ m, DfsAt c m := by
  intro m
  induction m with
  | zero =>
    intro s hs hU x hx
    obtain ⟨i, rfl⟩ : ∃ i : Nat, x = (i : Int) := ⟨x.toNat, by unfold okx at hx; omega⟩
    have hi : i < s.length := by unfold okx at hx; omega
    have hm : mkd s i = true := by
      cases h : mkd s i with
      | true => rfl
      | false =>
        have := U_lt (p := mkd s) (q := fun _ => true) (n := c.2.1.length) (fun _ _ _ => rfl) ⟨i, by omega, rfl, h⟩
        omega
    refine ⟨s, ⟨rfl, fun _ h => h, fun y hy => by rw [List.mem_singleton.1 hy]; exact hm, fun j h1 h2 => by rw [h1] at h2; cases h2⟩, Ev.succ ?_⟩
    have hr := rd_some' (mkd_at hi)
    show Ev (fun k => Used178.b (GrpUsed178 k) k (i : Int) () c () () s ((), c, (), ())) _
    unfold Used178.b
    exact .val hr (.val hr (.yes hm (.now _)))
  | succ m ih =>
    intro s hs hU x hx
    obtain ⟨i, rfl⟩ : ∃ i : Nat, x = (i : Int) := ⟨x.toNat, by unfold okx at hx; omega⟩
    have hi : i < s.length := by unfold okx at hx; omega
    have hr := rd_some' (mkd_at hi)
    cases hm : mkd s i with
    | true =>
      rw [hm] at hr
      refine ⟨s, ⟨rfl, fun _ h => h, fun y hy => by rw [List.mem_singleton.1 hy]; exact hm, fun j h1 h2 => by rw [h1] at h2; cases h2⟩, Ev.succ ?_⟩
      show Ev (fun k => Used178.b (GrpUsed178 k) k (i : Int) () c () () s ((), c, (), ())) _
      unfold Used178.b
      exact .val hr (.val hr (.yes rfl (.now _)))
    | false =>
      rw [hm] at hr
      obtain ⟨g, hg⟩ : ∃ g, c.2.1[i]? = some g := ⟨c.2.1[i]'(by omega), List.getElem?_eq_getElem _⟩
      have hk := (gate_ok (hR.gate i g hg)).1
      have hs1 : (s.set i true).length = c.2.1.length := by rw [List.length_set]; exact hs
      have hU1 : U (mkd (s.set i true)) c.2.1.length ≤ m := by
        have := U_lt (p := mkd s) (q := mkd (s.set i true)) (n := c.2.1.length) (fun j _ hj => by rw [mkd_set hi]; split <;> first | rfl | exact hj) ⟨i, by omega, by rw [mkd_set hi, if_pos rfl], hm⟩
        omega
      have hko := kids_ok hR hg
      have hll : (legsL g).length ≤ 3 := by
        unfold legsL
        rw [List.length_take]
        simp only [List.length_cons, List.length_nil]
        omega
      obtain ⟨s1, d1, e1⟩ := kids_lp ih g (legsL g) (by omega) (legsL g) [] (s.set i true) rfl (fun y hy => hko y (List.mem_append_left _ hy)) hs1 hU1
      have hUs1 : U (mkd s1) c.2.1.length ≤ m := Nat.le_trans (U_le (fun j _ hj => d1.mono j hj)) hU1
      obtain ⟨s2, d2, e2⟩ : ∃ s2, DfsL c s1 s2 (flopL c g) ∧ Ev (fun k => (cond (g.1 == 2)
        ((rd c.2.2.2.1 g.2.2.2.2).bind fun t48 =>
        (GrpUsed178 k t48 () c () () s1 ((), c, (), ())).bind fun t50 =>
        some ((), t50.2.2.1, t50.2.2.2))
        (some ((), s1, ((), c, (), ()))) : Option (Unit × ((List Bool) × Env)))) ((), s2, ((), c, (), ())) := by
        unfold flopL
        by_cases h2 : g.1 = 2
        · obtain ⟨q1, q2⟩ := flop_at hR hg h2
          obtain ⟨s2, d2, e2⟩ := ih s1 (d1.len.trans hs1) hUs1 _ q2
          rw [if_pos h2]
          exact ⟨s2, d2, .yes (by simpa using h2) (.val q1 (.bind (show Ev (fun k => GrpUsed178 k _ () c () () s1 ((), c, (), ())) _ from e2) (.now _)))⟩
        · rw [if_neg h2]
          exact ⟨s1, .nil, .no (by simpa using h2) (.now _)⟩
      refine ⟨s2, DfsL.top hi hg (d1.app d2), Ev.succ ?_⟩
      show Ev (fun k => Used178.b (GrpUsed178 k) k (i : Int) () c () () s ((), c, (), ())) _
      unfold Used178.b
      refine .val hr (.val hr (.no rfl (.val hr (.val hr (.val (rd_some' hg) (.bind (a := (c, (), g, (), ((legsL g).length : Int), 0, (), s.set i true, ((), c, (), ()), legsL g)) ?_ (.bind e1.ev (.bind e2 (.now _)))))))))
      refine Ev.of (f := fun k => (inputs79 k g.1).bind fun t29 => (slc ([g.2.1, g.2.2.1, g.2.2.2.1] : List Int) 0 t29.1).bind fun t30 => some (c, (), g, (), (List.length t30 : Int), 0, (), s.set i true, ((), c, (), ()), t30)) ?_ (fun k => agree_self _)
      refine .bind (inputs_ev g.1) (.val (a := legsL g) ?_ (.now _))
      rw [if_neg hk]
      have e : needs g.1 = ((needs g.1).toNat : Int) := by rcases needs4 g.1 with e | e | e | e <;> rw [e] <;> rfl
      rw [e]
      have : slc ([g.2.1, g.2.2.1, g.2.2.2.1] : List Int) ((0 : Nat) : Int) ((needs g.1).toNat : Int) = _ := slc_ok (Nat.zero_le _) (by simp only [List.length_cons, List.length_nil]; rcases needs4 g.1 with e | e | e | e <;> rw [e] <;> decide)
      exact this

/-- what an output hangs on -/
def Rch (c : Cir) (j : Nat) : Prop := ∃ x ∈ c.2.2.1, Pth c x (j : Int)
theorem pth_closed {c : Cir} {p : Int → Prop} (hc : ∀ (k : Nat) g, c.2.1[k]? = some g → p (k : Int) → ∀ y ∈ kids c g, p y) {x z : Int} (h : Pth c x z) : p x → p z := by
  induction h with
  | here => exact id
  | kid hg hy _ ih => exact fun hp => ih (hc _ _ hg hp _ hy)
open Classical in
def uL (c : Cir) : List Int := ((List.range c.2.1.length).filter (fun j => decide (Rch c j))).map (fun (j : Nat) => (j : Int))
theorem collect (p : Nat → Bool) : ∀ (l : List Nat) (o : List Int), l.foldl (fun o j => if p j = true then o ++ [(j : Int)] else o) o = o ++ (l.filter p).map (fun (j : Nat) => (j : Int))
  | [], o => by simp
  | j :: l, o => by
    rw [List.foldl_cons, collect p l]
    by_cases h : p j = true
    · rw [if_pos h, List.filter_cons_of_pos h]; simp
    · rw [if_neg h, List.filter_cons_of_neg h]
open Classical in
theorem uL_of {c : Cir} {p : Nat → Bool} (h : ∀ j, j < c.2.1.length → (p j = true ↔ Rch c j)) : ((List.range c.2.1.length).filter p).map (fun (j : Nat) => (j : Int)) = uL c := by
  unfold uL
  congr 1
  apply List.filter_congr
  intro j hj
  rw [Bool.eq_iff_iff, decide_eq_true_iff]
  exact h j (List.mem_range.1 hj)
theorem outs_lp {c : Cir} (hR : Right c) : ∀ (suf pre : List Int) (s : List Bool), c.2.2.1 = pre ++ suf → s.length = c.2.1.length → ∃ s', DfsL c s s' suf ∧ Lp (fun k => Used29.l0 k c) ((), (), (pre.length : Int), s, (), (), c, (), ()) ((), s', ()) := by
  intro suf
  induction suf with
  | nil =>
    intro pre s h _
    rw [List.append_nil] at h
    refine ⟨s, .nil, .done ?_⟩
    simp only [Used29.l0]
    exact .no (by rw [h]; simp) (.now _)
  | cons x suf ih2 =>
    intro pre s h hs
    have hx : c.2.2.1[pre.length]? = some x := by rw [h]; simp
    have hlt := get_lt hx
    have h10 := hR.outs.1
    obtain ⟨s1, d1, e1⟩ := dfs hR (U (mkd s) c.2.1.length) s hs (Nat.le_refl _) x (hR.outs.2 x (get_mem hx))
    obtain ⟨s2, d2, e2⟩ := ih2 (pre ++ [x]) s1 (by rw [h]; simp) (d1.len.trans hs)
    refine ⟨s2, d1.app d2, .step ?_ e2⟩
    simp only [Used29.l0]
    refine .yes (decide_eq_true (by omega)) (.val (rd_some' hx) (.bind e1 (.now' ?_)))
    rw [w64_succ (by omega)]
    simp
theorem used_ev (c : Cir) : Ev (fun k => Used29 k c) ((if fault c ≠ 0 then [] else uL c, fault c, ()), ()) := by
  unfold Used29
  refine .bind (check_ev c) ?_
  by_cases hf : fault c ≠ 0
  · rw [if_pos hf]
    exact .yes (bne_iff_ne.2 hf) (.now _)
  rw [if_neg hf]
  have hf0 : fault c = 0 := by omega
  have hR := right_of c hf0
  have hn := hR.gates
  obtain ⟨s, d, e⟩ := outs_lp hR c.2.2.1 [] (List.replicate c.2.1.length false) rfl (by simp)
  have hs : s.length = c.2.1.length := d.len.trans (by simp)
  have hm0 : ∀ j, mkd (List.replicate c.2.1.length false) j = false := fun j => by
    unfold mkd
    rw [List.getD_eq_getElem?_getD, List.getElem?_replicate]
    split <;> rfl
  have hiff : ∀ j, j < c.2.1.length → (mkd s j = true ↔ Rch c j) := by
    intro j _
    constructor
    · exact fun h => (d.new j h (hm0 j)).1
    · rintro ⟨x, hx, hp⟩
      have := pth_closed (p := fun y => mkd s y.toNat = true) (fun k g hg hk y hy => (d.new k (by simpa using hk) (hm0 k)).2 g hg y hy) hp (d.at_ x hx)
      simpa using this
  refine .no (by rw [hf0]; rfl) (.val (a := ()) (if_pos ⟨by omega, by omega, by omega⟩) (.bind (a := ((), s, ())) (by rw [Int.toNat_natCast]; exact e.ev) (.bind (a := ((), uL c)) (Lp.ev ?_) (.now' (by rw [hf0])))))
  have hc := Lp.count (body := fun k => Used29.l1 k s) c.2.1.length (fun (o : List Int) i => ((), (), i, s, o)) (fun o j => if mkd s j = true then o ++ [(j : Int)] else o) (fun o => ((), o)) (fun i o => o.length ≤ i) (fun i o hi ho => ⟨?_, ?_⟩) (fun b _ => ?_) (b := []) (Nat.zero_le _)
  · rw [collect, List.nil_append, uL_of hiff] at hc
    exact hc
  · have hr := rd_some' (mkd_at (s := s) (i := i) (by omega))
    have hw2 : w64 ((i : Int) + 1) = (i : Int) + 1 := w64_id (by omega) (by omega)
    simp only [Used29.l1]
    refine .yes (decide_eq_true (by omega)) (.val hr (.val hr ?_))
    by_cases hm : mkd s i = true
    · rw [if_pos hm]
      refine .bind (.yes hm (.val (a := ()) (if_pos (room_ok ?_)) (.now ((), (), s, o ++ [(i : Int)])))) (.now' (by rw [hw2]))
      show (o.length + 1) * 8 ≤ _
      omega
    · rw [if_neg hm]
      exact .bind (.no (by simpa using hm) (.now ((), (), s, o))) (.now' (by rw [hw2]))
  · split
    · rw [List.length_append]; simp; omega
    · omega
  · simp only [Used29.l1]
    exact .no (decide_eq_false (by omega)) (.now _)
end Go.Proofs.Ytjbdhaenakcclaa.St.Us

/- Tables: what is wrong with one (out of the law of EqualCerts). No program in sight. -/
set_option linter.unusedVariables false
noncomputable section
namespace Go.Proofs.Ytjbdhaenakcclaa.St
open Go Go.Proofs.Ytjbdhaenakcclaa.Gp

abbrev Tab := Int × (Int × List (List (Int × Int)))
structure SmallT (t : Tab) : Prop where
  ins : 0 ≤ t.1 ∧ t.1 ≤ 4
  outs : 0 ≤ t.2.1 ∧ t.2.1 ≤ 10
  rows : t.2.2.length ≤ 64
/-- a right table -/
structure RightT (t : Tab) : Prop extends SmallT t where
  some : 0 < t.2.2.length
  row : ∀ l ∈ t.2.2, l.length = 2 ^ t.1.toNat
  cell : ∀ l ∈ t.2.2, ∀ r ∈ l, 0 ≤ r.1 ∧ r.1 < ((2 ^ t.2.1.toNat : Nat) : Int) ∧ 0 ≤ r.2 ∧ r.2 < (t.2.2.length : Int)
end Go.Proofs.Ytjbdhaenakcclaa.St

/- Circuits from tables: numbers and their bits, rows, how many flip-flops. No program in sight. -/
set_option linter.unusedVariables false
noncomputable section
namespace Go.Proofs.Ytjbdhaenakcclaa.St
open Go Go.Proofs.Ytjbdhaenakcclaa.Gp

theorem bitOf_nat (m : Nat) (h : m < 9223372036854775808) : bitOf (m : Int) = m % 2 := by
  unfold bitOf
  have := ibits_and (a := m) (b := 1) h (by decide)
  rw [show ibits .and .i64 (m : Int) 1 = ((m &&& 1 : Nat) : Int) from this, Int.toNat_natCast, Nat.and_one_is_mod]
theorem bit_at (m j : Nat) (h : m < 9223372036854775808) (hj : j ≤ 64) : bitOf (shrI .i64 (m : Int) (j : Int)) = m / 2 ^ j % 2 := by
  rw [shrI_nat hj, bitOf_nat _ (Nat.lt_of_le_of_lt (Nat.div_le_self m _) h)]
/-- the cell for a state and an input -/
def cell (t : Tab) (x : Nat) : Int × Int := (t.2.2.getD (if x / 2 ^ t.1.toNat ≥ t.2.2.length then 0 else x / 2 ^ t.1.toNat) []).getD (x % 2 ^ t.1.toNat) (0, 0)
end Go.Proofs.Ytjbdhaenakcclaa.St

/- Circuits from tables: the maker's rounds. No program in sight. -/
set_option linter.unusedVariables false
set_option maxRecDepth 100000
noncomputable section
namespace Go.Proofs.Ytjbdhaenakcclaa.St
open Go Go.Proofs.Ytjbdhaenakcclaa.Gp

theorem Lp.countI {β S R : Type} {body : Nat → S → Option (S ⊕ R)} (n : Nat) (st : β → Int → S) (fin : β → R) (Inv : Nat → β → Prop)
    (hs : ∀ i b, i < n → Inv i b → ∃ b', Inv (i + 1) b' ∧ Ev (fun k => body k (st b (i : Int))) (.inl (st b' ((i + 1 : Nat) : Int)))) (hd : ∀ b, Inv n b → Ev (fun k => body k (st b (n : Int))) (.inr (fin b))) {b : β} (h0 : Inv 0 b) : ∃ b', Inv n b' ∧ Gp.Lp body (st b 0) (fin b') := by
  have key : ∀ (d i : Nat) (b : β), i + d = n → Inv i b → ∃ b', Inv n b' ∧ Gp.Lp body (st b (i : Int)) (fin b') := by
    intro d
    induction d with
    | zero =>
      intro i b h hi
      have : i = n := by omega
      subst this
      exact ⟨b, hi, .done (hd b hi)⟩
    | succ d ih =>
      intro i b h hi
      obtain ⟨b1, h1, e1⟩ := hs i b (by omega) hi
      obtain ⟨b2, h2, e2⟩ := ih (i + 1) b1 (by omega) h1
      exact ⟨b2, h2, .step e1 e2⟩
  exact key n 0 b (by omega) h0
/-- what a variable says -/
def FV (I j : Nat) (st inn : Int) : Nat := if j < I then bitOf (shrI .i64 inn (j : Int)) else bitOf (shrI .i64 st ((j - I : Nat) : Int))
section
variable {ins : Int} {nx : Nat}
structure Vars (ins : Int) (nx : Nat) (I : Nat) (gs : List Gate) (m : GMap) (vs : List Nat) : Prop where
  map : Mk gs m
  good : Good ins nx gs
  len : gs.length ≤ vs.length
  at' : ∀ j v, vs[j]? = some v → v < gs.length ∧ ∀ st inn, val gs st inn v = FV I j st inn
theorem Vars.add {I : Nat} {gs : List Gate} {m : GMap} {vs : List Nat} (h : Vars ins nx I gs m vs) {g : Gate} (hg : oneF (cc ins nx []) (gs.length : Int) g = 0) (hv : ∀ st inn, valG st inn (vals st inn gs) g = FV I vs.length st inn) : Vars ins nx I (addG gs g) (putM gs m g) (vs ++ [gs.idxOf g]) := by
  have o := Md.put h.map h.good hg
  have hl := o.len
  have hm := o.more
  refine ⟨o.map, o.good, by have := h.len; rw [List.length_append, List.length_singleton]; omega, fun j v hj => ?_⟩
  by_cases hlt : j < vs.length
  · rw [List.getElem?_append_left hlt] at hj
    obtain ⟨h1, h2⟩ := h.at' j v hj
    exact ⟨by omega, fun st inn => (o.keep st inn h1).trans (h2 st inn)⟩
  · have hjl := get_lt hj
    rw [List.length_append, List.length_singleton] at hjl
    have : j = vs.length := by omega
    subst this
    rw [List.getElem?_append_right (Nat.le_refl _), Nat.sub_self] at hj
    cases hj
    exact ⟨o.lt, fun st inn => (o.val st inn).trans (hv st inn)⟩
end
end Go.Proofs.Ytjbdhaenakcclaa.St

/- Smaller circuits: the flip-flops that are left. No program in sight. -/
set_option linter.unusedVariables false
set_option maxRecDepth 100000
noncomputable section
namespace Go.Proofs.Ytjbdhaenakcclaa.St
open Go Go.Proofs.Ytjbdhaenakcclaa.Gp Go.Proofs.Ytjbdhaenakcclaa.St.Us

/-- is the gate there the flip-flop n? -/
def isF (c : Cir) (n : Int) (x : Int) : Bool := match c.2.1[x.toNat]? with
  | some g => cond (g.1 == 2) (g.2.2.2.2 == n) false
  | none => false
def hasF (c : Cir) (n : Nat) : Bool := (uL c).any (isF c (n : Int))
def fls (c : Cir) (n : Nat) : List Int := ((List.range n).filter (hasF c)).map (fun (j : Nat) => (j : Int))
def iniOf (c : Cir) (fl : List Int) : List Int := fl.map (fun n => c.2.2.2.2.getD n.toNat 0)
theorem fls_succ (c : Cir) (n : Nat) : fls c (n + 1) = if hasF c n = true then fls c n ++ [(n : Int)] else fls c n := by
  unfold fls
  rw [List.range_succ, List.filter_append, List.map_append]
  cases h : hasF c n <;> simp [h]
theorem fls_mem {c : Cir} {n : Nat} {x : Int} (h : x ∈ fls c n) : ∃ j : Nat, x = (j : Int) ∧ j < n ∧ hasF c j = true := by
  obtain ⟨j, hj, rfl⟩ := List.mem_map.1 h
  obtain ⟨h1, h2⟩ := List.mem_filter.1 hj
  exact ⟨j, rfl, List.mem_range.1 h1, h2⟩
theorem mem_fls {c : Cir} {n j : Nat} (h : j < n) (hf : hasF c j = true) : (j : Int) ∈ fls c n := List.mem_map.2 ⟨j, List.mem_filter.2 ⟨List.mem_range.2 h, hf⟩, rfl⟩
theorem fls_len (c : Cir) (n : Nat) : (fls c n).length ≤ n := by
  unfold fls
  rw [List.length_map]
  exact Nat.le_trans (List.length_filter_le _ _) (by rw [List.length_range]; exact Nat.le_refl _)
theorem uL_mem {c : Cir} {x : Int} : x ∈ uL c ↔ ∃ j : Nat, x = (j : Int) ∧ j < c.2.1.length ∧ Rch c j := by
  unfold uL
  constructor
  · intro h
    obtain ⟨j, hj, rfl⟩ := List.mem_map.1 h
    obtain ⟨h1, h2⟩ := List.mem_filter.1 hj
    exact ⟨j, rfl, List.mem_range.1 h1, by simpa using h2⟩
  · rintro ⟨j, rfl, h1, h2⟩
    exact List.mem_map.2 ⟨j, List.mem_filter.2 ⟨List.mem_range.2 h1, by simpa using h2⟩, rfl⟩
theorem uL_len (c : Cir) : (uL c).length ≤ c.2.1.length := by
  unfold uL
  rw [List.length_map]
  exact Nat.le_trans (List.length_filter_le _ _) (by rw [List.length_range]; exact Nat.le_refl _)
theorem uL_lt (c : Cir) : (uL c).Pairwise (· < ·) := by
  unfold uL
  refine List.Pairwise.map _ (fun a b (h : a < b) => (by omega : (a : Int) < (b : Int))) ((List.pairwise_lt_range).filter _)
theorem init_eq {c : Cir} (hf : fault c = 0) : c.2.2.2.2.length = c.2.2.2.1.length := by
  unfold fault at hf
  split at hf
  · omega
  · split at hf
    · omega
    · rename_i h; omega
abbrev Fs := IMap × List Int
theorem flop_in {c : Cir} (hR : Right c) (hf : fault c = 0) (u : (List Int × Int × Unit) × Unit) (hu : u.1.1 = uL c) {n : Nat} (hn : n < c.2.2.2.1.length) (o0 : E0) (o1 : List Gate) (o2 o3 o4 : List Int) (o6 : E0) (o7 : List Gate) (o8 o9 : List Int) {m : IMap} {ini : List Int} (hk : Knows (fls c n) m) (hi : ini = iniOf c (fls c n)) :
    ∃ m' ini', (Knows (fls c (n + 1)) m' ∧ ini' = iniOf c (fls c (n + 1))) ∧ Gp.Lp (fun k => Small58.l0 k u (n : Int)) (c, (), (), (), 0, o0, o1, o2, o3, o4, m, o6, o7, o8, o9, ini) (c, (), (), (), o0, o1, o2, o3, o4, m', o6, o7, o8, o9, ini') := by
  have hlen := uL_len c
  have hgl := hR.gates
  have hnl := hR.next.1
  have hfl := fls_len c n
  have hno : (n : Int) ∉ fls c n := fun h => by
    obtain ⟨j, e, h1, _⟩ := fls_mem h
    omega
  have hin : c.2.2.2.2[n]? = some (c.2.2.2.2.getD n 0) := by
    rw [List.getD_eq_getElem?_getD, List.getElem?_eq_getElem (by rw [init_eq hf]; exact hn)]; rfl
  obtain ⟨b', hb, e⟩ := Lp.countI (body := fun k => Small58.l0 k u (n : Int)) (uL c).length (fun (b : Fs) i => (c, (), (), (), i, o0, o1, o2, o3, o4, b.1, o6, o7, o8, o9, b.2)) (fun b => (c, (), (), (), o0, o1, o2, o3, o4, b.1, o6, o7, o8, o9, b.2))
    (fun i b => Knows (if ((uL c).take i).any (isF c (n : Int)) then fls c n ++ [(n : Int)] else fls c n) b.1 ∧ b.2 = iniOf c (if ((uL c).take i).any (isF c (n : Int)) then fls c n ++ [(n : Int)] else fls c n))
    (fun i b hi hb => by
      obtain ⟨h1, h2⟩ := hb
      have hx : (uL c)[i]? = some (uL c)[i] := List.getElem?_eq_getElem hi
      generalize (uL c)[i] = x at hx
      obtain ⟨j, rfl, hj, _⟩ := uL_mem.1 (get_mem hx)
      have hg : c.2.1[j]? = some c.2.1[j] := List.getElem?_eq_getElem hj
      generalize c.2.1[j] = g at hg
      have hF : isF c (n : Int) (j : Int) = cond (g.1 == 2) (g.2.2.2.2 == (n : Int)) false := by
        unfold isF
        rw [Int.toNat_natCast, hg]
      have ht : ((uL c).take (i + 1)).any (isF c (n : Int)) = (((uL c).take i).any (isF c (n : Int)) || isF c (n : Int) (j : Int)) := by
        rw [List.take_add_one, hx, List.any_append]; simp
      have hx' : u.1.1[i]? = some (j : Int) := by rw [hu]; exact hx
      have hiu : i < u.1.1.length := by rw [hu]; exact hi
      have hw : w64 ((i : Int) + 1) = ((i + 1 : Nat) : Int) := w64_succ (by omega)
      by_cases hq : isF c (n : Int) (j : Int) = true
      · by_cases hp : ((uL c).take i).any (isF c (n : Int)) = true
        · refine ⟨b, ?_, ?_⟩
          · rw [ht, hp]
            rw [hp] at h1 h2
            exact ⟨h1, h2⟩
          rw [if_pos hp] at h1
          have hm : (!(Option.isSome (mget (.int .i64) (.int .i64) b.1 (n : Int)))) = false := by
            rw [show mget (.int .i64) (.int .i64) b.1 (n : Int) = some (idx (fls c n ++ [(n : Int)]) (n : Int)) from (h1.get _).trans (inAt_yes (by simp))]; rfl
          simp only [Small58.l0]
          refine .yes (decide_eq_true (by omega)) (.val (rd_some' hx') (.val (rd_some' hg) (.bind (a := (c, (), (), (), o0, o1, o2, o3, o4, b.1, o6, o7, o8, o9, b.2)) (.yes (hF.symm.trans hq) (.bind (a := (c, (), (), (), o0, o1, o2, o3, o4, b.1, o6, o7, o8, o9, b.2)) (.no hm (.now _)) (.now _))) (.now' (by rw [hw])))))
        · have hp' : ((uL c).take i).any (isF c (n : Int)) = false := by simpa using hp
          rw [hp'] at h1 h2
          have h1 : Knows (fls c n) b.1 := h1
          have h2 : b.2 = iniOf c (fls c n) := h2
          have hln : b.1.length = b.2.length := by rw [h1.len, h2]; unfold iniOf; rw [List.length_map]
          refine ⟨(mput (.int .i64) (.int .i64) b.1 (n : Int) (b.2.length : Int), b.2 ++ [c.2.2.2.2.getD n 0]), ?_, ?_⟩
          · rw [ht, hp', hq]
            refine ⟨?_, ?_⟩
            · have := h1.put hno
              rw [hln] at this
              exact this
            · show b.2 ++ [c.2.2.2.2.getD n 0] = iniOf c (fls c n ++ [(n : Int)])
              rw [h2]; unfold iniOf; simp
          · have hm : (!(Option.isSome (mget (.int .i64) (.int .i64) b.1 (n : Int)))) = true := by
              rw [show mget (.int .i64) (.int .i64) b.1 (n : Int) = none from (h1.get _).trans (inAt_no hno)]; rfl
            have hb2 : b.2.length ≤ n := by rw [← hln, h1.len]; exact hfl
            simp only [Small58.l0]
            refine .yes (decide_eq_true (by omega)) (.val (rd_some' hx') (.val (rd_some' hg) (.bind (a := (c, (), (), (), o0, o1, o2, o3, o4, mput (.int .i64) (.int .i64) b.1 (n : Int) (b.2.length : Int), o6, o7, o8, o9, b.2 ++ [c.2.2.2.2.getD n 0])) (.yes (hF.symm.trans hq) (.bind (a := (c, (), (), (), o0, o1, o2, o3, o4, mput (.int .i64) (.int .i64) b.1 (n : Int) (b.2.length : Int), o6, o7, o8, o9, b.2 ++ [c.2.2.2.2.getD n 0])) (.yes hm (.val (rd_some' hin) (.val (a := ()) (if_pos (room_ok (by simp only [List.length_cons, List.length_nil]; omega))) (.now _)))) (.now _))) (.now' (by rw [hw])))))
      · have hq' : isF c (n : Int) (j : Int) = false := by simpa using hq
        refine ⟨b, by rw [ht, hq', Bool.or_false]; exact ⟨h1, h2⟩, ?_⟩
        simp only [Small58.l0]
        refine .yes (decide_eq_true (by omega)) (.val (rd_some' hx') (.val (rd_some' hg) (.bind (a := (c, (), (), (), o0, o1, o2, o3, o4, b.1, o6, o7, o8, o9, b.2)) (.no (hF.symm.trans hq') (.now _)) (.now' (by rw [hw]))))))
    (fun b _ => by
      simp only [Small58.l0]
      exact .no (decide_eq_false (by rw [hu]; omega)) (.now _)) (b := (m, ini)) ⟨hk, hi⟩
  refine ⟨b'.1, b'.2, ?_, e⟩
  rw [fls_succ]
  unfold hasF
  rw [List.take_length] at hb
  exact hb
theorem flops {c : Cir} (hR : Right c) (hf : fault c = 0) (u : (List Int × Int × Unit) × Unit) (hu : u.1.1 = uL c) (o0 : E0) (o1 : List Gate) (o2 o3 o4 : List Int) (o6 : E0) (o7 : List Gate) (o8 o9 : List Int) :
    ∃ m, Knows (fls c c.2.2.2.1.length) m ∧ Gp.Lp (fun k => Small58.l1 k c u) (c, (), (), (), 0, o0, o1, o2, o3, o4, [], o6, o7, o8, o9, []) (c, (), (), (), o0, o1, o2, o3, o4, m, o6, o7, o8, o9, iniOf c (fls c c.2.2.2.1.length)) := by
  have hnl := hR.next.1
  obtain ⟨b', ⟨h1, h2⟩, e⟩ := Lp.countI (body := fun k => Small58.l1 k c u) c.2.2.2.1.length (fun (b : Fs) i => (c, (), (), (), i, o0, o1, o2, o3, o4, b.1, o6, o7, o8, o9, b.2)) (fun b => (c, (), (), (), o0, o1, o2, o3, o4, b.1, o6, o7, o8, o9, b.2))
    (fun i b => Knows (fls c i) b.1 ∧ b.2 = iniOf c (fls c i))
    (fun i b hi hb => by
      obtain ⟨m', ini', hb', e⟩ := flop_in hR hf u hu hi o0 o1 o2 o3 o4 o6 o7 o8 o9 hb.1 hb.2
      refine ⟨(m', ini'), hb', ?_⟩
      simp only [Small58.l1]
      refine .yes (decide_eq_true (by omega)) (.bind e.ev (.now' ?_))
      rw [w64_succ (by omega)])
    (fun b _ => by
      simp only [Small58.l1]
      exact .no (by simp) (.now _)) (b := ([], [])) ⟨knows_nil, rfl⟩
  rw [h2] at e
  exact ⟨b'.1, h1, e⟩
end Go.Proofs.Ytjbdhaenakcclaa.St

/- Smaller circuits: all gates that are used, made again. No program in sight. -/
set_option linter.unusedVariables false
set_option maxRecDepth 100000
noncomputable section
namespace Go.Proofs.Ytjbdhaenakcclaa.St
open Go Go.Proofs.Ytjbdhaenakcclaa.Gp Go.Proofs.Ytjbdhaenakcclaa.St.Us

theorem pth_snoc {c : Cir} {x z : Int} (h : Pth c x z) : ∀ {k : Nat} {g : Gate} {y : Int}, z = (k : Int) → c.2.1[k]? = some g → y ∈ kids c g → Pth c x y := by
  induction h with
  | here => exact fun {k g y} hz hg hy => hz ▸ .kid hg hy .here
  | kid hg' hy' _ ih => exact fun {k g y} hz hg hy => .kid hg' hy' (ih hz hg hy)
theorem leg_kid {c : Cir} {g : Gate} {x : Int} (hk : ¬ (g.1 < 0 ∨ g.1 > 7)) (h : Leg g x) : x ∈ kids c g := by
  refine List.mem_append_left _ ?_
  obtain ⟨kd, a, b, d, n⟩ := g
  have kk : kd = 0 ∨ kd = 1 ∨ kd = 2 ∨ kd = 3 ∨ kd = 4 ∨ kd = 5 ∨ kd = 6 ∨ kd = 7 := kinds hk
  have h : (kd ≥ 3 ∧ x = a) ∨ (kd > 3 ∧ x = b) ∨ (kd = 7 ∧ x = d) := h
  have e3 : legsL (3, a, b, d, n) = [a] := rfl
  have e4 : legsL (4, a, b, d, n) = [a, b] := rfl
  have e5 : legsL (5, a, b, d, n) = [a, b] := rfl
  have e6 : legsL (6, a, b, d, n) = [a, b] := rfl
  have e7 : legsL (7, a, b, d, n) = [a, b, d] := rfl
  rcases kk with rfl | rfl | rfl | rfl | rfl | rfl | rfl | rfl
  · omega
  · omega
  · omega
  · rw [e3]; simp; omega
  · rw [e4]; simp; omega
  · rw [e5]; simp; omega
  · rw [e6]; simp; omega
  · rw [e7]; simp; omega
theorem uL_kid {c : Cir} (hR : Right c) {k : Nat} {g : Gate} (hk : (k : Int) ∈ uL c) (hg : c.2.1[k]? = some g) {y : Int} (hy : y ∈ kids c g) : y ∈ uL c := by
  obtain ⟨j, e, h1, o, ho, hp⟩ := uL_mem.1 hk
  have hyo := kids_ok hR hg y hy
  obtain ⟨z, rfl⟩ : ∃ z : Nat, y = (z : Int) := ⟨y.toNat, by have := hyo.1; omega⟩
  have : j = k := by omega
  subst this
  exact uL_mem.2 ⟨z, rfl, by have := hyo.2; omega, o, ho, pth_snoc hp rfl hg hy⟩
theorem uL_out {c : Cir} (hR : Right c) {x : Int} (h : x ∈ c.2.2.1) : x ∈ uL c := by
  have := hR.outs.2 x h
  obtain ⟨z, rfl⟩ : ∃ z : Nat, x = (z : Int) := ⟨x.toNat, by omega⟩
  exact uL_mem.2 ⟨z, rfl, by omega, _, h, .here⟩
theorem uL_before {c : Cir} {j : Nat} {x y : Int} (hx : (uL c)[j]? = some x) (hy : y ∈ uL c) (hlt : y < x) : ∃ i, i < j ∧ (uL c)[i]? = some y := by
  obtain ⟨i, hi⟩ := List.getElem?_of_mem hy
  refine ⟨i, ?_, hi⟩
  obtain ⟨a1, a2⟩ := List.getElem?_eq_some_iff.1 hx
  obtain ⟨b1, b2⟩ := List.getElem?_eq_some_iff.1 hi
  have hp := List.pairwise_iff_getElem.1 (uL_lt c)
  rcases Nat.lt_trichotomy i j with h | h | h
  · exact h
  · subst h
    rw [hx] at hi
    cases hi
    omega
  · have := hp j i a1 b1 h
    rw [a2, b2] at this
    omega
/-- the state of the smaller circuit -/
def RelF (fl : List Int) (st st' : Int) : Prop := ∀ (i : Nat) (n : Int), fl[i]? = some n → bitOf (shrI .i64 st' (i : Int)) = bitOf (shrI .i64 st n)
def newG (fl : List Int) (g : Gate) : Gate := if g.1 = 2 then (g.1, g.2.1, g.2.2.1, g.2.2.2.1, idx fl g.2.2.2.2) else g
theorem needs_low {kd : Int} (h : kd < 3) : needs kd = 0 := by
  unfold needs
  rw [if_neg (by omega), if_neg (by omega), if_neg (by omega)]
theorem low_form {c : Cir} {i : Int} {g : Gate} (h : oneF c i g = 0) (h3 : g.1 < 3) : g.2.1 = 0 ∧ g.2.2.1 = 0 ∧ g.2.2.2.1 = 0 := by
  obtain ⟨a, b, d⟩ := gate_legs h
  rw [needs_low h3] at a b d
  exact ⟨leg_none a (by decide), leg_none b (by decide), leg_none d (by decide)⟩
theorem new_kind (fl : List Int) (g : Gate) : (newG fl g).1 = g.1 := by
  unfold newG
  split <;> rfl
theorem new_leg {fl : List Int} {g : Gate} {x : Int} (h : Leg (newG fl g) x) : Leg g x := by
  unfold newG at h
  split at h
  · exact h
  · exact h
theorem new_low {c : Cir} {i : Int} {g : Gate} {fl : List Int} (h : oneF c i g = 0) (h3 : g.1 < 3) (hm : g.1 = 2 → g.2.2.2.2 ∈ fl) (j : Int) : oneF (cc c.1 fl.length []) j (newG fl g) = 0 := by
  obtain ⟨a, b, d⟩ := low_form h h3
  obtain ⟨hkd, _, _, _, n0, n1⟩ := gate_ok h
  have hz : ∀ x : Int, x = 0 → ∀ k : Int, k ≥ 0 → leg j (needs g.1) k x = 0 := fun x hx k hk => by rw [hx]; exact leg_zero (by rw [needs_low h3]; exact hk)
  unfold newG
  by_cases h2 : g.1 = 2
  · rw [if_pos h2]
    refine one_zero hkd (hz _ a 0 (by decide)) (hz _ b 1 (by decide)) (hz _ d 2 (by decide)) ?_
    have := List.idxOf_lt_length_iff.2 (hm h2)
    show 0 ≤ idx fl g.2.2.2.2 ∧ idx fl g.2.2.2.2 < mostN (cc c.1 fl.length []) g.1
    unfold mostN idx
    rw [if_neg (by omega), if_neg (by omega), if_pos h2]
    show _ ∧ _ < ((List.replicate fl.length 0).length : Int)
    rw [List.length_replicate]
    omega
  · rw [if_neg h2]
    refine one_zero hkd (hz _ a 0 (by decide)) (hz _ b 1 (by decide)) (hz _ d 2 (by decide)) ⟨n0, ?_⟩
    unfold mostN at n1 ⊢
    by_cases h0 : g.1 = 0
    · rw [if_pos h0] at n1 ⊢; exact n1
    · rw [if_neg h0] at n1 ⊢
      rw [if_pos (by omega)] at n1 ⊢
      exact n1
theorem new_val {fl : List Int} {g : Gate} {st st' inn : Int} {v v' : List Nat} (hk : ¬ (g.1 < 0 ∨ g.1 > 7)) (hm : g.1 = 2 → g.2.2.2.2 ∈ fl) (hr : RelF fl st st') (hv : ∀ x, Leg g x → v'.getD x.toNat 0 = v.getD x.toNat 0) : valG st' inn v' (newG fl g) = valG st inn v g := by
  obtain ⟨kd, a, b, d, n⟩ := g
  have kk : kd = 0 ∨ kd = 1 ∨ kd = 2 ∨ kd = 3 ∨ kd = 4 ∨ kd = 5 ∨ kd = 6 ∨ kd = 7 := kinds hk
  have v0 : kd ≥ 3 → v'.getD a.toNat 0 = v.getD a.toNat 0 := fun h => hv a (.inl ⟨h, rfl⟩)
  have v1 : kd > 3 → v'.getD b.toNat 0 = v.getD b.toNat 0 := fun h => hv b (.inr (.inl ⟨h, rfl⟩))
  have v2 : kd = 7 → v'.getD d.toNat 0 = v.getD d.toNat 0 := fun h => hv d (.inr (.inr ⟨h, rfl⟩))
  rcases kk with rfl | rfl | rfl | rfl | rfl | rfl | rfl | rfl
  · rfl
  · rfl
  · have hn : n ∈ fl := hm rfl
    have hlt := List.idxOf_lt_length_iff.2 hn
    have := hr (fl.idxOf n) n (by rw [List.getElem?_eq_getElem hlt, List.getElem_idxOf])
    exact this
  · show 1 - v'.getD a.toNat 0 = 1 - v.getD a.toNat 0
    rw [v0 (by decide)]
  · show v'.getD a.toNat 0 &&& v'.getD b.toNat 0 = v.getD a.toNat 0 &&& v.getD b.toNat 0
    rw [v0 (by decide), v1 (by decide)]
  · show v'.getD a.toNat 0 ||| v'.getD b.toNat 0 = v.getD a.toNat 0 ||| v.getD b.toNat 0
    rw [v0 (by decide), v1 (by decide)]
  · show v'.getD a.toNat 0 ^^^ v'.getD b.toNat 0 = v.getD a.toNat 0 ^^^ v.getD b.toNat 0
    rw [v0 (by decide), v1 (by decide)]
  · show (if v'.getD a.toNat 0 = 1 then v'.getD b.toNat 0 else v'.getD d.toNat 0) = if v.getD a.toNat 0 = 1 then v.getD b.toNat 0 else v.getD d.toNat 0
    rw [v0 (by decide), v1 (by decide), v2 rfl]
abbrev Sm := GMap × List Gate × List Int
structure Rnd (c : Cir) (fl : List Int) (j : Nat) (b : Sm) : Prop where
  map : Mk b.2.1 b.1
  good : Good c.1 fl.length b.2.1
  nc : NC b.2.1
  len : b.2.1.length ≤ j
  tbl : b.2.2.length = c.2.1.length
  at' : ∀ (i x : Nat), i < j → (uL c)[i]? = some (x : Int) → ∃ r : Nat, b.2.2[x]? = some (r : Int) ∧ r < b.2.1.length ∧ ∀ st st' inn, RelF fl st st' → val b.2.1 st' inn r = val c.2.1 st inn x
theorem flop_of {c : Cir} (hR : Right c) {x : Nat} {g : Gate} (hx : (x : Int) ∈ uL c) (hg : c.2.1[x]? = some g) (h2 : g.1 = 2) : g.2.2.2.2 ∈ fls c c.2.2.2.1.length := by
  obtain ⟨_, _, _, _, n0, n1⟩ := gate_ok (hR.gate x g hg)
  unfold mostN at n1
  rw [if_neg (by omega), if_neg (by omega), if_pos h2] at n1
  obtain ⟨n, hn⟩ : ∃ n : Nat, g.2.2.2.2 = (n : Int) := ⟨g.2.2.2.2.toNat, by omega⟩
  rw [hn]
  refine mem_fls (by omega) (List.any_eq_true.2 ⟨_, hx, ?_⟩)
  unfold isF
  rw [Int.toNat_natCast, hg]
  show cond (g.1 == 2) (g.2.2.2.2 == (n : Int)) false = true
  rw [h2, hn]
  simp
theorem good_c {c : Cir} (hR : Right c) : Good c.1 c.2.2.2.1.length c.2.1 := fun i g hg => (oneF_cc c [] i g).trans (hR.gate i g hg)
theorem rounds {c : Cir} (hR : Right c) (u : (List Int × Int × Unit) × Unit) (hu : u.1.1 = uL c) {m : IMap} (hm : Knows (fls c c.2.2.2.1.length) m) (o0 : E0) (o1 : List Gate) (o2 o3 o4 : List Int) (o6 : E0) (o7 : List Gate) (o8 o9 o10 : List Int) (x12 : Unit × Unit) :
    ∃ b, Rnd c (fls c c.2.2.2.1.length) (uL c).length b ∧ Gp.Lp (fun k => Small58.l2 k u) (c, (), (), (), (), (), 0, o0, o1, o2, o3, o4, m, o6, o7, o8, o9, o10, [], ((), ()), [], List.replicate c.2.1.length 0) (c, (), (), (), (), (), o0, o1, o2, o3, o4, m, o6, o7, o8, o9, o10, b.1, ((), ()), b.2.1, b.2.2) := by
  have hlen := uL_len c
  have hgl := hR.gates
  have hGc := good_c hR
  obtain ⟨b', hb, e⟩ := Lp.countI (body := fun k => Small58.l2 k u) (uL c).length (fun (b : Sm) i => (c, (), (), (), (), (), i, o0, o1, o2, o3, o4, m, o6, o7, o8, o9, o10, b.1, ((), ()), b.2.1, b.2.2)) (fun b => (c, (), (), (), (), (), o0, o1, o2, o3, o4, m, o6, o7, o8, o9, o10, b.1, ((), ()), b.2.1, b.2.2))
    (fun j b => Rnd c (fls c c.2.2.2.1.length) j b)
    (fun j b hj hb => by
      have hx : (uL c)[j]? = some (uL c)[j] := List.getElem?_eq_getElem hj
      generalize (uL c)[j] = x at hx
      have hxm := get_mem hx
      obtain ⟨x, rfl, hxl, _⟩ := uL_mem.1 hxm
      have hg : c.2.1[x]? = some c.2.1[x] := List.getElem?_eq_getElem hxl
      generalize c.2.1[x] = g at hg
      have hone := hR.gate x g hg
      obtain ⟨hkd, _⟩ := gate_ok hone
      have hfl : g.1 = 2 → g.2.2.2.2 ∈ fls c c.2.2.2.1.length := flop_of hR hxm hg
      have hlegs : ∀ y, Leg g y → 0 ≤ y ∧ ∃ r : Nat, b.2.2[y.toNat]? = some (r : Int) ∧ r < b.2.1.length ∧ ∀ st st' inn, RelF (fls c c.2.2.2.1.length) st st' → val b.2.1 st' inn r = val c.2.1 st inn y.toNat := fun y hy => by
        have h1 := hy.low hGc hg
        obtain ⟨z, rfl⟩ : ∃ z : Nat, y = (z : Int) := ⟨y.toNat, by omega⟩
        obtain ⟨i, hi, hy'⟩ := uL_before hx (uL_kid hR hxm hg (leg_kid hkd hy)) h1.2
        exact ⟨h1.1, hb.at' i z hi hy'⟩
      obtain ⟨gs', m', r, hM, hN', he⟩ := again2 (nx := (fls c c.2.2.2.1.length).length) hb.map hb.good hb.nc (by have := hb.len; omega) (g := newG (fls c c.2.2.2.1.length) g) (tb := b.2.2) (by rw [new_kind]; exact hkd)
        (fun y hy => by
          obtain ⟨h0, r, h1, h2, _⟩ := hlegs y (new_leg hy)
          exact ⟨h0, r, h1, h2⟩)
        (fun h3 => new_low hone (by rw [new_kind] at h3; exact h3) hfl _)
      have hbt := hb.tbl
      have hat : b.2.2[x]? = some b.2.2[x] := List.getElem?_eq_getElem (by omega)
      refine ⟨(m', gs', b.2.2.set x (r : Int)), ⟨hM.map, hM.good, hN', by have := hM.len; have := hb.len; show gs'.length ≤ j + 1; omega, by show (b.2.2.set x (r : Int)).length = _; rw [List.length_set]; exact hbt, fun i y hi hy => ?_⟩, ?_⟩
      · by_cases hyx : y = x
        · subst hyx
          refine ⟨r, by show (b.2.2.set y (r : Int))[y]? = _; rw [List.getElem?_set_self (by omega)], hM.lt, fun st st' inn hr => ?_⟩
          show val gs' st' inn r = _
          rw [hM.val, val_at hGc hg]
          refine new_val hkd hfl hr (fun z hz => ?_)
          obtain ⟨h0, q, h1, h2, h3⟩ := hlegs z hz
          rw [atv_at h1, h3 st st' inn hr]
          rfl
        · have hij : i < j := by
            rcases Nat.lt_or_ge i j with h | h
            · exact h
            · have : i = j := by omega
              subst this
              rw [hx] at hy
              cases hy
              exact absurd rfl hyx
          obtain ⟨q, h1, h2, h3⟩ := hb.at' i y hij hy
          refine ⟨q, by show (b.2.2.set x (r : Int))[y]? = _; rw [List.getElem?_set_ne (fun e => hyx e.symm)]; exact h1, by have := hM.more; show q < gs'.length; omega, fun st st' inn hr => ?_⟩
          show val gs' st' inn q = _
          rw [hM.keep st' inn h2]
          exact h3 st st' inn hr
      · have hx' : u.1.1[j]? = some (x : Int) := by rw [hu]; exact hx
        have hju : j < u.1.1.length := by rw [hu]; exact hj
        have hw : w64 ((j : Int) + 1) = ((j + 1 : Nat) : Int) := w64_succ (by omega)
        simp only [Small58.l2]
        refine .yes (decide_eq_true (by omega)) (.val (rd_some' hx') (.val (rd_some' hg) (.bind (a := (c, (), (), (), (), (), (), o0, o1, o2, o3, o4, m, o6, o7, o8, o9, o10, b.1, ((), ()), b.2.1, b.2.2, newG (fls c c.2.2.2.1.length) g)) ?_ (.bind he (.val (rd_some' hat) (.val (rd_some' hat) (.now' ?_)))))))
        · by_cases h2 : g.1 = 2
          · have e2 : mget (.int .i64) (.int .i64) m g.2.2.2.2 = some (idx (fls c c.2.2.2.1.length) g.2.2.2.2) := (hm.get _).trans (inAt_yes (hfl h2))
            refine .yes (by rw [h2]; rfl) (.now' ?_)
            unfold newG
            rw [if_pos h2]
            exact congrArg (fun (z : Option Int) => (c, (), (), (), (), (), (), o0, o1, o2, o3, o4, m, o6, o7, o8, o9, o10, b.1, ((), ()), b.2.1, b.2.2, g.1, g.2.1, g.2.2.1, g.2.2.2.1, z.getD 0)) e2
          · refine .no (beq_false_of_ne h2) (.now' ?_)
            unfold newG
            rw [if_neg h2]
        · rw [hw, Int.toNat_natCast])
    (fun b _ => by
      simp only [Small58.l2]
      exact .no (decide_eq_false (by rw [hu]; omega)) (.now _)) (b := ([], [], List.replicate c.2.1.length 0)) ⟨mk_nil, fun i g h => by simp at h, fun i g h => by simp at h, Nat.le_refl _, by simp, fun i x hi => by omega⟩
  exact ⟨b', hb, e⟩
end Go.Proofs.Ytjbdhaenakcclaa.St

/- Smaller circuits: what Small returns. No program in sight. -/
set_option linter.unusedVariables false
set_option maxRecDepth 100000
noncomputable section
namespace Go.Proofs.Ytjbdhaenakcclaa.St
open Go Go.Proofs.Ytjbdhaenakcclaa.Gp Go.Proofs.Ytjbdhaenakcclaa.St.Us

def flc (c : Cir) : List Int := fls c c.2.2.2.1.length
def nxtAt (c : Cir) (n : Int) : Int := c.2.2.2.1.getD n.toNat 0
theorem hasF_next {c : Cir} (hR : Right c) {n : Nat} (hn : n < c.2.2.2.1.length) (h : hasF c n = true) : nxtAt c (n : Int) ∈ uL c := by
  obtain ⟨x, hx, hF⟩ := List.any_eq_true.1 h
  obtain ⟨j, rfl, hj, _⟩ := uL_mem.1 hx
  have hg : c.2.1[j]? = some c.2.1[j] := List.getElem?_eq_getElem hj
  generalize c.2.1[j] = g at hg
  unfold isF at hF
  rw [Int.toNat_natCast, hg] at hF
  have hF : cond (g.1 == 2) (g.2.2.2.2 == (n : Int)) false = true := hF
  have h2 : g.1 = 2 := by
    by_cases h2 : g.1 = 2
    · exact h2
    · rw [beq_false_of_ne h2] at hF; cases hF
  rw [h2] at hF
  have hn' : g.2.2.2.2 = (n : Int) := by simpa using hF
  refine uL_kid hR hx hg (List.mem_append_right _ ?_)
  unfold flopL nxtAt
  rw [if_pos h2, hn']
  simp
theorem next_in {c : Cir} (hR : Right c) {n : Nat} (hn : n < c.2.2.2.1.length) : c.2.2.2.1[n]? = some (nxtAt c (n : Int)) ∧ 0 ≤ nxtAt c (n : Int) ∧ nxtAt c (n : Int) < (c.2.1.length : Int) := by
  have h : c.2.2.2.1[n]? = some (nxtAt c (n : Int)) := by
    unfold nxtAt
    rw [Int.toNat_natCast, List.getD_eq_getElem?_getD, List.getElem?_eq_getElem hn]; rfl
  exact ⟨h, hR.next.2 _ (get_mem h)⟩
theorem nexts {c : Cir} (hR : Right c) {m : IMap} (hm : Knows (flc c) m) {tb : List Int} (ht : tb.length = c.2.1.length) (o0 : E0) (o1 : List Gate) (o2 o3 o4 : List Int) (o6 : E0) (o8 o10 : List Int) (gs : List Gate) :
    Gp.Lp (fun k => Small58.l4 k c) ((), (), (), (), 0, o0, o1, o2, o3, o4, m, o6, o8, [], o10, gs, tb) ((), (), o0, o1, o2, o3, o4, o6, o8, (flc c).map (fun n => toF tb (nxtAt c n)), o10, gs) := by
  have hnl := hR.next.1
  obtain ⟨b', hb, e⟩ := Lp.countI (body := fun k => Small58.l4 k c) c.2.2.2.1.length (fun (b : List Int) i => ((), (), (), (), i, o0, o1, o2, o3, o4, m, o6, o8, b, o10, gs, tb)) (fun b => ((), (), o0, o1, o2, o3, o4, o6, o8, b, o10, gs))
    (fun i b => b = (fls c i).map (fun n => toF tb (nxtAt c n)))
    (fun i b hi hb => by
      obtain ⟨e1, e2, e3⟩ := next_in hR hi
      generalize hz : nxtAt c (i : Int) = z at e1 e2 e3
      obtain ⟨y, rfl⟩ : ∃ y : Nat, z = (y : Int) := ⟨z.toNat, by omega⟩
      have hty : tb[y]? = some (toF tb (y : Int)) := by
        unfold toF
        rw [Int.toNat_natCast, List.getD_eq_getElem?_getD, List.getElem?_eq_getElem (by omega)]; rfl
      have hw : w64 ((i : Int) + 1) = ((i + 1 : Nat) : Int) := w64_succ (by omega)
      have hfl := fls_len c i
      have hbl : b.length ≤ i := by rw [hb, List.length_map]; exact hfl
      cases hF : hasF c i with
      | true =>
        have hs : Option.isSome (mget (.int .i64) (.int .i64) m (i : Int)) = true := by
          rw [show mget (.int .i64) (.int .i64) m (i : Int) = some (idx (flc c) (i : Int)) from (hm.get _).trans (inAt_yes (mem_fls hi hF))]; rfl
        refine ⟨b ++ [toF tb (y : Int)], by rw [hb, fls_succ, if_pos hF, List.map_append, List.map_singleton, hz], ?_⟩
        simp only [Small58.l4]
        refine .yes (decide_eq_true (by omega)) (.val (rd_some' e1) (.bind (a := ((), (), (), (), o0, o1, o2, o3, o4, m, o6, o8, b ++ [toF tb (y : Int)], o10, gs, tb)) (.yes hs (.val (rd_some' hty) (.val (rd_some' hty) (.val (a := ()) (if_pos (room_ok (by simp only [List.length_cons, List.length_nil]; omega))) (.now _))))) (.now' (by rw [hw]))))
      | false =>
        have hs : Option.isSome (mget (.int .i64) (.int .i64) m (i : Int)) = false := by
          rw [show mget (.int .i64) (.int .i64) m (i : Int) = none from (hm.get _).trans (inAt_no (fun h => by
            obtain ⟨j, e, _, h2⟩ := fls_mem h
            have : i = j := by omega
            subst this
            rw [hF] at h2; cases h2))]; rfl
        refine ⟨b, by rw [hb, fls_succ, if_neg (by rw [hF]; decide)], ?_⟩
        simp only [Small58.l4]
        exact .yes (decide_eq_true (by omega)) (.val (rd_some' e1) (.bind (a := ((), (), (), (), o0, o1, o2, o3, o4, m, o6, o8, b, o10, gs, tb)) (.no hs (.now _)) (.now' (by rw [hw])))))
    (fun b _ => by
      simp only [Small58.l4]
      exact .no (by simp) (.now _)) (b := []) rfl
  rw [hb] at e
  exact e
structure Sml (c d : Cir) : Prop where
  ins : d.1 = c.1
  one : Good d.1 d.2.2.2.1.length d.2.1
  outs : d.2.2.1.length = c.2.2.1.length
  gl : d.2.1.length ≤ c.2.1.length
  nl : d.2.2.2.1.length = (flc c).length
  init : d.2.2.2.2 = iniOf c (flc c)
  dif : d.2.1.Nodup
  nc : NC d.2.1
  need : Need d.2.1 (d.2.2.1 ++ d.2.2.2.1)
  out : ∀ (i : Nat) (x : Int), c.2.2.1[i]? = some x → ∃ r : Nat, d.2.2.1[i]? = some (r : Int) ∧ r < d.2.1.length ∧ ∀ st st' inn, RelF (flc c) st st' → val d.2.1 st' inn r = val c.2.1 st inn x.toNat
  nxt : ∀ (i : Nat) (n : Int), (flc c)[i]? = some n → ∃ r : Nat, d.2.2.2.1[i]? = some (r : Int) ∧ r < d.2.1.length ∧ ∀ st st' inn, RelF (flc c) st st' → val d.2.1 st' inn r = val c.2.1 st inn (nxtAt c n).toNat
theorem small_ev {c : Cir} (hf : fault c = 0) : ∃ d, Sml c d ∧ Ev (fun k => Small58 k c) ((d, 0, ()), ()) := by
  have hR := right_of c hf
  have hol := hR.outs
  have hnl := hR.next
  have hgl := hR.gates
  have hul := uL_len c
  have hu := used_ev c
  rw [if_neg (by omega), hf] at hu
  obtain ⟨m, hm, e1⟩ := flops hR hf ((uL c, 0, ()), ()) rfl (0, (), (), (), ()) [] [] [] [] (c.1, (), (), (), ()) [] [] []
  obtain ⟨b, hb, e2⟩ := rounds hR ((uL c, 0, ()), ()) rfl hm (0, (), (), (), ()) [] [] [] [] (c.1, (), (), (), ()) [] [] [] (iniOf c (flc c)) ((), ())
  have hbt := hb.tbl
  have hbl := hb.len
  have at0 : ∀ x ∈ uL c, ∃ r : Nat, toF b.2.2 x = (r : Int) ∧ r < b.2.1.length ∧ ∀ st st' inn, RelF (flc c) st st' → val b.2.1 st' inn r = val c.2.1 st inn x.toNat := fun x hx => by
    obtain ⟨j, rfl, _⟩ := uL_mem.1 hx
    obtain ⟨i, hi⟩ := List.getElem?_of_mem hx
    obtain ⟨r, h1, h2, h3⟩ := hb.at' i j (get_lt hi) hi
    exact ⟨r, toF_at (by rw [Int.toNat_natCast]; exact h1), h2, h3⟩
  have e3 : Gp.Lp (fun k => Small58.l3 k c) (c, (), (), (), (), 0, (0, (), (), (), ()), [], [], [], [], m, (c.1, (), (), (), ()), [], [], iniOf c (flc c), b.2.1, b.2.2) (c, (), (), (), (), (0, (), (), (), ()), [], [], [], [], m, (c.1, (), (), (), ()), c.2.2.1.map (toF b.2.2), [], iniOf c (flc c), b.2.1, b.2.2) := by
    exact St.outs_lp (c := c) (to := b.2.2) c.2.2.1 (by omega) (fun x hx => by have := hol.2 x hx; omega) (body := fun k => Small58.l3 k c) (fun o i => (c, (), (), (), (), i, (0, (), (), (), ()), [], [], [], [], m, (c.1, (), (), (), ()), o, [], iniOf c (flc c), b.2.1, b.2.2))
      (fun o => (c, (), (), (), (), (0, (), (), (), ()), [], [], [], [], m, (c.1, (), (), (), ()), o, [], iniOf c (flc c), b.2.1, b.2.2))
      (fun i x r o hi ho' hx hr => by
        have hi := get_lt hx
        simp only [Small58.l3]
        refine .yes (decide_eq_true (by omega)) (.val (rd_some' hx) (.val hr (.val hr (.val (a := ()) ?_ (.now' ?_)))))
        · rw [if_pos (room_ok (by simp only [List.length_cons, List.length_nil]; omega))]
        · rw [w64_id (by omega) (by omega)])
      (fun o => by
        simp only [Small58.l3]
        exact .no (by simp) (.now _))
  have e4 := nexts hR hm hbt (0, (), (), (), ()) [] [] [] [] (c.1, (), (), (), ()) (c.2.2.1.map (toF b.2.2)) (iniOf c (flc c)) b.2.1
  have hfl := fls_len c c.2.2.2.1.length
  have hfl' : (flc c).length ≤ c.2.2.2.1.length := hfl
  have hn0 : ((flc c).map (fun n => toF b.2.2 (nxtAt c n))).length = (flc c).length := List.length_map _
  have hnx : ∀ n ∈ flc c, nxtAt c n ∈ uL c := fun n hn => by
    obtain ⟨j, rfl, h1, h2⟩ := fls_mem hn
    exact hasF_next hR h1 h2
  have hin : ∀ x ∈ uL c, 0 ≤ toF b.2.2 x ∧ toF b.2.2 x < (b.2.1.length : Int) := fun x hx => by
    obtain ⟨r, h1, h2, _⟩ := at0 x hx
    rw [h1]
    omega
  obtain ⟨gs', to, s1, s2, s3, s4, s5, s6, e5⟩ := swept2 (c := (c.1, b.2.1, c.2.2.1.map (toF b.2.2), (flc c).map (fun n => toF b.2.2 (nxtAt c n)), iniOf c (flc c))) (by
      show Good c.1 ((flc c).map (fun n => toF b.2.2 (nxtAt c n))).length b.2.1
      rw [hn0]
      exact hb.good) (by show b.2.1.length ≤ 100000; omega)
    ⟨by show (c.2.2.1.map (toF b.2.2)).length ≤ 1000; rw [List.length_map]; omega, fun x hx => by
      obtain ⟨y, hy, rfl⟩ := List.mem_map.1 (show x ∈ c.2.2.1.map (toF b.2.2) from hx)
      exact hin y (uL_out hR hy)⟩
    ⟨by show ((flc c).map (fun n => toF b.2.2 (nxtAt c n))).length ≤ 1000; rw [hn0]; omega, fun x hx => by
      obtain ⟨y, hy, rfl⟩ := List.mem_map.1 (show x ∈ (flc c).map (fun n => toF b.2.2 (nxtAt c n)) from hx)
      exact hin _ (hnx y hy)⟩ hb.map.dif hb.nc
  refine ⟨(c.1, gs', (c.2.2.1.map (toF b.2.2)).map (toF to), ((flc c).map (fun n => toF b.2.2 (nxtAt c n))).map (toF to), iniOf c (flc c)), ⟨rfl, ?_, ?_, ?_, ?_, rfl, s3, s4, ?_, fun i x hx => ?_, fun i n hn => ?_⟩, ?_⟩
  · show Good c.1 (((flc c).map (fun n => toF b.2.2 (nxtAt c n))).map (toF to)).length gs'
    rw [List.length_map]
    exact s2
  · show ((c.2.2.1.map (toF b.2.2)).map (toF to)).length = _
    rw [List.length_map, List.length_map]
  · show gs'.length ≤ c.2.1.length
    have : gs'.length ≤ b.2.1.length := s1
    omega
  · show (((flc c).map (fun n => toF b.2.2 (nxtAt c n))).map (toF to)).length = _
    rw [List.length_map, hn0]
  · rw [← List.map_append]
    exact s5
  · obtain ⟨r, h1, h2, h3⟩ := at0 x (uL_out hR (get_mem hx))
    obtain ⟨q, k1, k2, k3⟩ := s6 (toF b.2.2 x) (List.mem_append_left _ (List.mem_map.2 ⟨x, get_mem hx, rfl⟩))
    refine ⟨q, ?_, k1, fun st st' inn hr => ?_⟩
    · show ((c.2.2.1.map (toF b.2.2)).map (toF to))[i]? = _
      rw [List.getElem?_map, List.getElem?_map, hx]
      exact congrArg some k2
    · have := k3 st' inn
      rw [h1, Int.toNat_natCast] at this
      exact this.trans (h3 st st' inn hr)
  · obtain ⟨r, h1, h2, h3⟩ := at0 _ (hnx n (get_mem hn))
    obtain ⟨q, k1, k2, k3⟩ := s6 (toF b.2.2 (nxtAt c n)) (List.mem_append_right _ (List.mem_map.2 ⟨n, get_mem hn, rfl⟩))
    refine ⟨q, ?_, k1, fun st st' inn hr => ?_⟩
    · show (((flc c).map (fun n => toF b.2.2 (nxtAt c n))).map (toF to))[i]? = _
      rw [List.getElem?_map, List.getElem?_map, hn]
      exact congrArg some k2
    · have := k3 st' inn
      rw [h1, Int.toNat_natCast] at this
      exact this.trans (h3 st st' inn hr)
  · unfold Small58
    refine .bind hu (.no rfl (.bind e1.ev (.val (a := ()) (if_pos ⟨by omega, by omega, by omega⟩) (.bind (e2.ev.of fun k => by rw [Int.toNat_natCast]; rfl) (.bind e3.ev (.bind e4.ev (.bind e5 (.now _))))))))
theorem small_bad {c : Cir} (hf : fault c ≠ 0) : Ev (fun k => Small58 k c) (((0, [], [], [], []), fault c, ()), ()) := by
  have hu := used_ev c
  unfold Small58
  exact .bind hu (.yes (bne_iff_ne.2 hf) (.now _))
end Go.Proofs.Ytjbdhaenakcclaa.St

/- Smaller circuits: the smaller circuit does what the other does. No program in sight. -/
set_option linter.unusedVariables false
set_option maxRecDepth 100000
noncomputable section
namespace Go.Proofs.Ytjbdhaenakcclaa.St
open Go Go.Proofs.Ytjbdhaenakcclaa.Gp Go.Proofs.Ytjbdhaenakcclaa.St.Us

theorem gates_nil {c : Cir} (h : ∀ (i : Nat) (g : Gate), c.2.1[i]? = some g → oneF c i g = 0) : gatesW c = .inl c := by
  have : ∀ (l : List Gate) (b : Nat), (∀ (i : Nat) (g : Gate), l[i]? = some g → oneF c ((b + i : Nat) : Int) g = 0) → walk (gW c) (fun _ => (.inl c : Cir ⊕ (Int × Unit))) l b = .inl c := by
    intro l
    induction l with
    | nil => intro b _; rfl
    | cons x l ih =>
      intro b hb
      have h0 : oneF c (b : Int) x = 0 := hb 0 x rfl
      rw [walk_cons, show gW c b x = .inl (b + 1) by unfold gW; rw [if_pos h0]]
      exact ih (b + 1) (fun i g hg => by
        have := hb (i + 1) g (by simpa using hg)
        rw [show b + 1 + i = b + (i + 1) by omega]
        exact this)
  exact this c.2.1 0 (fun i g hg => by rw [Nat.zero_add]; exact h i g hg)
theorem pk_at : ∀ (l : List Nat), (∀ b ∈ l, b ≤ 1) → ∀ i, i < l.length → pk l / 2 ^ i % 2 = l.getD i 0
  | [], _, i, h => by simp at h
  | b :: l, hb, 0, _ => by
    have : b ≤ 1 := hb b List.mem_cons_self
    show (b + 2 * pk l) / 2 ^ 0 % 2 = b
    rw [Nat.pow_zero, Nat.div_one]
    omega
  | b :: l, hb, i + 1, h => by
    have h1 : b ≤ 1 := hb b List.mem_cons_self
    have ih := pk_at l (fun x hx => hb x (List.mem_cons_of_mem _ hx)) i (by simpa using h)
    show (b + 2 * pk l) / 2 ^ (i + 1) % 2 = l.getD i 0
    rw [Nat.pow_succ, Nat.mul_comm (2 ^ i) 2, ← Nat.div_div_eq_div_mul, show (b + 2 * pk l) / 2 = pk l by omega]
    exact ih
theorem pk_bit {l : List Nat} (hb : ∀ b ∈ l, b ≤ 1) (hl : l.length ≤ 10) {i : Nat} (hi : i < l.length) : bitOf (shrI .i64 ((pk l : Nat) : Int) (i : Int)) = l.getD i 0 := by
  have h1 := pk_lt l hb
  have h2 : 2 ^ l.length ≤ 2 ^ 10 := Nat.pow_le_pow_right (by decide) hl
  have h3 : (2 : Nat) ^ 10 = 1024 := by decide
  rw [bit_at (pk l) i (by omega) (by omega)]
  exact pk_at l hb i hi
theorem flc_at {c : Cir} {i : Nat} {n : Int} (h : (flc c)[i]? = some n) : ∃ j : Nat, n = (j : Int) ∧ j < c.2.2.2.1.length ∧ i < (flc c).length := by
  obtain ⟨j, e, h1, _⟩ := fls_mem (get_mem h)
  exact ⟨j, e, h1, get_lt h⟩
theorem flc_len (c : Cir) : (flc c).length ≤ c.2.2.2.1.length := fls_len c _
section
variable {c d : Cir}
theorem Sml.outs_in (h : Sml c d) : ∀ x ∈ d.2.2.1, 0 ≤ x ∧ x < (d.2.1.length : Int) := fun x hx => by
  obtain ⟨i, hi⟩ := List.getElem?_of_mem hx
  have hil := get_lt hi
  have hlen := h.outs
  obtain ⟨r, e, hr, _⟩ := h.out i _ (List.getElem?_eq_getElem (by omega))
  rw [hi] at e
  cases e
  omega
theorem Sml.next_in (h : Sml c d) : ∀ x ∈ d.2.2.2.1, 0 ≤ x ∧ x < (d.2.1.length : Int) := fun x hx => by
  obtain ⟨i, hi⟩ := List.getElem?_of_mem hx
  have hil := get_lt hi
  have hlen := h.nl
  obtain ⟨r, e, hr, _⟩ := h.nxt i _ (List.getElem?_eq_getElem (by omega))
  rw [hi] at e
  cases e
  omega
theorem Sml.okd (h : Sml c d) (hf : fault c = 0) : fault d = 0 := by
  have hR := right_of c hf
  have i0 := hR.ins
  have g0 := hR.gates
  have o0 := hR.outs.1
  have n0 := hR.next.1
  have fl := flc_len c
  have h1 : large d = false := by
    unfold large
    refine decide_eq_false ?_
    have := h.ins
    have := h.outs
    have := h.nl
    have := h.gl
    omega
  have h2 : d.2.2.2.2.length = d.2.2.2.1.length := by
    rw [h.init, h.nl]
    unfold iniOf
    rw [List.length_map]
  have hrest : rest c = 0 := by
    unfold fault at hf
    split at hf
    · omega
    · split at hf
      · omega
      · rw [gates_nil hR.gate] at hf
        exact hf
  have hbad : c.2.2.2.2.any bad1 = false := by
    unfold rest at hrest
    split at hrest
    · omega
    · split at hrest
      · omega
      · rename_i hh
        simpa using hh
  unfold fault
  rw [h1, if_neg (by decide), if_neg (by omega), gates_nil (fun i g hg => (oneF_cc d [] i g).symm.trans (h.one i g hg))]
  show rest d = 0
  unfold rest
  have hb : (d.2.2.1 ++ d.2.2.2.1).any (badX d) = false := by
    rw [List.any_eq_false]
    intro x hx
    have : 0 ≤ x ∧ x < (d.2.1.length : Int) := by
      rcases List.mem_append.1 hx with hx | hx
      · exact h.outs_in x hx
      · exact h.next_in x hx
    unfold badX
    rw [decide_eq_false (by omega)]
    decide
  have hi : d.2.2.2.2.any bad1 = false := by
    rw [h.init, List.any_eq_false]
    intro x hx
    unfold iniOf at hx
    obtain ⟨n, hn, rfl⟩ := List.mem_map.1 hx
    rw [List.getD_eq_getElem?_getD]
    cases hq : c.2.2.2.2[n.toNat]? with
    | none => decide
    | some y => exact List.any_eq_false.1 hbad y (get_mem hq)
  rw [hb, hi]
  rfl
theorem Sml.outs_line (h : Sml c d) {st st' : Int} (hr : RelF (flc c) st st') (inn : Int) : line d st' inn d.2.2.1 = line c st inn c.2.2.1 := by
  unfold line
  refine List.ext_getElem? fun i => ?_
  rw [List.getElem?_map, List.getElem?_map]
  cases hx : c.2.2.1[i]? with
  | none =>
    have : d.2.2.1[i]? = none := by
      rw [List.getElem?_eq_none_iff] at hx ⊢
      have := h.outs
      omega
    rw [this, Option.map_none, Option.map_none]
  | some x =>
    obtain ⟨r, e, _, hv⟩ := h.out i x hx
    have e2 : V d st' inn (r : Int).toNat = V c st inn x.toNat := by
      rw [Int.toNat_natCast]
      exact hv st st' inn hr
    rw [e, Option.map_some, Option.map_some, e2]
theorem Sml.next_rel (h : Sml c d) (hf : fault c = 0) {st st' : Int} (hr : RelF (flc c) st st') (inn : Int) : RelF (flc c) ((pk (line c st inn c.2.2.2.1) : Nat) : Int) ((pk (line d st' inn d.2.2.2.1) : Nat) : Int) := by
  have hR := right_of c hf
  have hRd := right_of d (h.okd hf)
  intro i n hn
  obtain ⟨j, rfl, hj, hi⟩ := flc_at hn
  obtain ⟨r, e, _, hv⟩ := h.nxt i _ hn
  have n0 := hR.next.1
  have n1 := hRd.next.1
  have hil := get_lt e
  have l1 : (line c st inn c.2.2.2.1).length = c.2.2.2.1.length := List.length_map _
  have l2 : (line d st' inn d.2.2.2.1).length = d.2.2.2.1.length := List.length_map _
  rw [pk_bit (line_le hR st inn _) (by omega) (by omega), pk_bit (line_le hRd st' inn _) (by omega) (by omega)]
  unfold line
  rw [List.getD_eq_getElem?_getD, List.getD_eq_getElem?_getD, List.getElem?_map, List.getElem?_map, e, (St.next_in hR hj).1]
  have e2 : V d st' inn (r : Int).toNat = V c st inn (nxtAt c (j : Int)).toNat := by
    rw [Int.toNat_natCast]
    exact hv st st' inn hr
  rw [Option.map_some, Option.map_some, Option.getD_some, Option.getD_some, e2]
theorem Sml.first_rel (h : Sml c d) (hf : fault c = 0) : RelF (flc c) ((first c : Nat) : Int) ((first d : Nat) : Int) := by
  have hR := right_of c hf
  have n0 := hR.next.1
  have hin := init_eq hf
  have fl := flc_len c
  intro i n hn
  obtain ⟨j, rfl, hj, hi⟩ := flc_at hn
  have hil : (iniOf c (flc c)).length = (flc c).length := List.length_map _
  have l1 : ((c.2.2.2.2.take 10).map bitOf).length = c.2.2.2.2.length := by rw [List.length_map, List.length_take]; omega
  have l2 : (((iniOf c (flc c)).take 10).map bitOf).length = (flc c).length := by rw [List.length_map, List.length_take, hil]; omega
  unfold first
  rw [h.init, pk_bit (bits_ok _) (by omega) (by omega), pk_bit (bits_ok _) (by omega) (by omega), List.take_of_length_le (by omega), List.take_of_length_le (by omega)]
  rw [List.getD_eq_getElem?_getD, List.getD_eq_getElem?_getD, List.getElem?_map, List.getElem?_map]
  unfold iniOf
  rw [List.getElem?_map, hn]
  have hjj : c.2.2.2.2[j]? = some (c.2.2.2.2.getD j 0) := by rw [List.getD_eq_getElem?_getD, List.getElem?_eq_getElem (by omega)]; rfl
  rw [hjj]
  rfl
theorem Sml.ranEq (h : Sml c d) (hf : fault c = 0) (l : List Int) : ran d l = ran c l := by
  have key : ∀ (l : List Int) (s s' : Int) (o : List Int), RelF (flc c) s s' → (l.foldl (stepS d) (s', o)).2 = (l.foldl (stepS c) (s, o)).2 := by
    intro l
    induction l with
    | nil => exact fun _ _ _ _ => rfl
    | cons x l ih =>
      intro s s' o hr
      rw [List.foldl_cons, List.foldl_cons]
      unfold stepS
      show (l.foldl (stepS d) (_, o ++ [((pk (line d s' x d.2.2.1) : Nat) : Int)])).2 = _
      rw [h.outs_line hr x]
      exact ih _ _ _ (h.next_rel hf hr x)
  exact key l _ _ [] (h.first_rel hf)
end
end Go.Proofs.Ytjbdhaenakcclaa.St

/- Smaller circuits: the law's own loops. No program in sight. -/
set_option linter.unusedVariables false
set_option maxRecDepth 100000
noncomputable section
namespace Go.Proofs.Ytjbdhaenakcclaa.St
open Go Go.Proofs.Ytjbdhaenakcclaa.Gp Go.Proofs.Ytjbdhaenakcclaa.St.Us

abbrev BM := List (Int × Bool)
def putB (m : BM) (x : Int) : BM := mput (.int .i64) .bool m x true
def onM (m : BM) (x : Int) : Prop := mget (.int .i64) .bool m x = some true
theorem onM_put (m : BM) (y : Int) : onM (putB m y) y := mget_self (kk := .int .i64) (kv := .bool) rfl
theorem onM_keep {m : BM} {x : Int} (y : Int) (h : onM m x) : onM (putB m y) x := by
  by_cases e : x = y
  · subst e; exact onM_put m x
  · exact (mget_other (kk := .int .i64) (kv := .bool) rfl e).trans h
theorem index_no {gs : List Gate} {g : Gate} (hl : gs.length ≤ 100000) (h : g ∉ gs) : Ev (fun k => Index113 k gs g) (-1, ()) := by
  have : Gp.Lp (fun k => Index113.l0 k gs) (g, (0 : Int)) (.inl ()) := by
    refine Lp.fold (body := fun k => Index113.l0 k gs) gs (fun (_ : Unit) i => (g, i)) (fun _ _ => ()) (fun _ => .inl ()) (fun _ _ => True) (fun i x b hx _ => ⟨?_, trivial⟩) (fun b _ => ?_) (b := ()) trivial
    · have hi := get_lt hx
      have hne : eqB gK g x = false := by
        cases he : eqB gK g x with
        | false => rfl
        | true => exact absurd ((eqB_iff (k := gK) rfl).1 he ▸ get_mem hx) h
      simp only [Index113.l0]
      refine .yes (decide_eq_true (by omega)) (.val (rd_some' hx) (.no ?_ (.now' ?_)))
      · show xor false (eqB gK g x) = false
        rw [hne]; rfl
      · rw [w64_id (by omega) (by omega)]
    · simp only [Index113.l0]
      exact .no (by simp) (.now _)
  unfold Index113
  exact .joinL (S := Unit) this.ev (.now _)
theorem contains_no {gs : List Gate} {g : Gate} (hl : gs.length ≤ 100000) (h : g ∉ gs) : Ev (fun k => Contains60 k gs g) (false, ()) := by
  unfold Contains60
  exact .bind (index_no hl h) (.now _)
theorem constant_no {c : Cir} {x : Int} (h0 : 0 ≤ x ∧ x < (c.2.1.length : Int)) (h : NoK c.2.1 x) : Ev (fun k => constant61 k c x) (false, ()) := by
  have hg : c.2.1[x.toNat]? = some c.2.1[x.toNat] := List.getElem?_eq_getElem (by omega)
  generalize c.2.1[x.toNat]'(by omega) = g at hg
  have hn := h g hg
  unfold constant61
  exact .val (rd_at (i := x.toNat) (by omega) hg) (.now' (by rw [beq_false_of_ne hn]))
abbrev St1 := Cir × Cir × Unit × Gate × BM
theorem marks_ev (c d : Cir) (g : Gate) (m : BM) (hk : ¬ (g.1 < 0 ∨ g.1 > 7)) : ∃ m', (∀ x, onM m x → onM m' x) ∧ (∀ x, Leg g x → onM m' x) ∧ Ev (fun (_ : Nat) => (cond (g.1 == 3)
            (some (c, d, (), g, (mput (.int .i64) .bool m g.2.1 true)))
            (Option.bind
              (cond (g.1 == 7)
                (some (c, d, (), g, (mput (.int .i64) .bool (mput (.int .i64) .bool (mput (.int .i64) .bool m g.2.1 true) g.2.2.1 true) g.2.2.2.1 true)))
                (Option.bind
                  (cond (decide (g.1 > 3))
                    (some (c, d, (), g, (mput (.int .i64) .bool (mput (.int .i64) .bool m g.2.1 true) g.2.2.1 true)))
                    (some (c, d, (), g, m)) : Option St1) fun ((c_4, d_3, _, g, o1_3) : St1) =>
                some (c_4, d_3, (), g, o1_3)) : Option St1) fun ((c_5, d_4, _, g_1, o1_4) : St1) =>
            some (c_5, d_4, (), g_1, o1_4)) : Option St1)) (c, d, (), g, m') := by
  by_cases h3 : g.1 = 3
  · refine ⟨putB m g.2.1, fun x hx => onM_keep _ hx, fun x hx => ?_, .yes (by rw [h3]; rfl) (.now _)⟩
    rcases hx with ⟨_, rfl⟩ | ⟨h, _⟩ | ⟨h, _⟩
    · exact onM_put _ _
    · omega
    · omega
  · by_cases h7 : g.1 = 7
    · refine ⟨putB (putB (putB m g.2.1) g.2.2.1) g.2.2.2.1, fun x hx => onM_keep _ (onM_keep _ (onM_keep _ hx)), fun x hx => ?_, .no (beq_false_of_ne h3) (.bind (a := (c, d, (), g, putB (putB (putB m g.2.1) g.2.2.1) g.2.2.2.1)) (.yes (by rw [h7]; rfl) (.now _)) (.now _))⟩
      rcases hx with ⟨_, rfl⟩ | ⟨_, rfl⟩ | ⟨_, rfl⟩
      · exact onM_keep _ (onM_keep _ (onM_put _ _))
      · exact onM_keep _ (onM_put _ _)
      · exact onM_put _ _
    · by_cases h4 : g.1 > 3
      · refine ⟨putB (putB m g.2.1) g.2.2.1, fun x hx => onM_keep _ (onM_keep _ hx), fun x hx => ?_, .no (beq_false_of_ne h3) (.bind (a := (c, d, (), g, putB (putB m g.2.1) g.2.2.1)) (.no (beq_false_of_ne h7) (.bind (a := (c, d, (), g, putB (putB m g.2.1) g.2.2.1)) (.yes (decide_eq_true h4) (.now _)) (.now _))) (.now _))⟩
        rcases hx with ⟨_, rfl⟩ | ⟨_, rfl⟩ | ⟨h, _⟩
        · exact onM_keep _ (onM_put _ _)
        · exact onM_put _ _
        · omega
      · refine ⟨m, fun x hx => hx, fun x hx => ?_, .no (beq_false_of_ne h3) (.bind (a := (c, d, (), g, m)) (.no (beq_false_of_ne h7) (.bind (a := (c, d, (), g, m)) (.no (decide_eq_false h4) (.now _)) (.now _))) (.now _))⟩
        rcases hx with ⟨h, _⟩ | ⟨h, _⟩ | ⟨h, _⟩ <;> omega
section
variable {c d : Cir}
theorem Sml.check (h : Sml c d) (hR : Right d) : ∀ (n : Nat), n ≤ d.2.1.length → ∀ m : BM, (∀ x ∈ d.2.2.1 ++ d.2.2.2.1, onM m x) → (∀ (j : Nat) (g : Gate), n ≤ j → d.2.1[j]? = some g → ∀ x, Leg g x → onM m x) → Gp.Lp (fun k => SynthSmalls12.l1 k) (c, d, (), (n : Int) - 1, m) (.inl (c, d)) := by
  intro n
  have hgl := hR.gates
  induction n with
  | zero =>
    intro _ m _ _
    refine .done ?_
    simp only [SynthSmalls12.l1]
    exact .no (by decide) (.now _)
  | succ n ih =>
    intro hn m h1 h2
    rw [show ((n + 1 : Nat) : Int) - 1 = (n : Int) by omega]
    have hg : d.2.1[n]? = some d.2.1[n] := List.getElem?_eq_getElem (by omega)
    have hnot : d.2.1[n] ∉ d.2.1.take n := fun hm => by
      obtain ⟨i, hi⟩ := List.getElem?_of_mem hm
      have hil := get_lt hi
      rw [List.length_take] at hil
      rw [List.getElem?_take_of_lt (by omega), List.getElem?_eq_getElem (by omega)] at hi
      exact List.pairwise_iff_getElem.1 h.dif i n (by omega) (by omega) (by omega) (Option.some.inj hi)
    generalize d.2.1[n] = g at hg hnot
    have hone := hR.gate n g hg
    obtain ⟨hkd, _⟩ := gate_ok hone
    obtain ⟨m', k1, k2, kev⟩ := marks_ev c d g m hkd
    have on : onM m (n : Int) := by
      rcases h.need n (by omega) with hx | ⟨j, g', hj, hg', hl⟩
      · exact h1 _ hx
      · exact h2 j g' hj hg' _ hl
    have on' : (!(Option.getD (α := Bool) (mget (.int .i64) .bool m (n : Int)) false)) = false := by rw [show mget (.int .i64) .bool m (n : Int) = some true from on]; rfl
    have hlow : ∀ x, Leg g x → 0 ≤ x ∧ x < (n : Int) := fun x hx => hx.low (good_c hR) hg
    have nc := h.nc n g hg
    have s1 : slc d.2.1 0 (n : Int) = some (d.2.1.take n) := (slc_ok (a := 0) (b := n) (by omega) (by omega)).trans (by rw [List.drop_zero])
    refine .step (s' := (c, d, (), (n : Int) - 1, m')) ?_ (ih (by omega) m' (fun x hx => k1 x (h1 x hx)) (fun j g' hj hg' x hx => ?_))
    · simp only [SynthSmalls12.l1]
      refine .yes (decide_eq_true (by omega)) (.val (rd_some' hg) (.bind (a := false) (.no on' (.val s1 (.bind (contains_no (by rw [List.length_take]; omega) hnot) (.now _)))) (.no rfl (.bind (a := (c, d, (), g, m')) ?_ (.bind (a := false) ?_ (.bind (a := false) (.no rfl (.bind (a := false) ?_ (.now _))) (.no rfl (.now' ?_))))))))
      · exact kev
      · by_cases h3 : g.1 ≥ 3
        · have hl : 0 ≤ g.2.1 ∧ g.2.1 < (n : Int) := hlow _ (.inl ⟨h3, rfl⟩)
          exact .yes (decide_eq_true h3) (.bind (constant_no (c := d) (x := g.2.1) ⟨hl.1, by omega⟩ (nc.1 h3)) (.now _))
        · exact .no (decide_eq_false h3) (.now _)
      · by_cases h4 : g.1 = 4 ∨ g.1 = 5 ∨ g.1 = 6
        · have hl : 0 ≤ g.2.2.1 ∧ g.2.2.1 < (n : Int) := hlow _ (.inr (.inl ⟨by omega, rfl⟩))
          refine .yes ?_ (.bind (constant_no (c := d) (x := g.2.2.1) ⟨hl.1, by omega⟩ (nc.2 h4)) (.now _))
          rcases h4 with h4 | h4 | h4 <;> rw [h4] <;> rfl
        · refine .no ?_ (.now _)
          rw [beq_false_of_ne (fun e => h4 (.inl e)), beq_false_of_ne (fun e => h4 (.inr (.inl e))), beq_false_of_ne (fun e => h4 (.inr (.inr e)))]
          rfl
      · rw [w64_id (by omega) (by omega)]
    · by_cases hjn : j = n
      · subst hjn
        rw [hg] at hg'
        cases hg'
        exact k2 x hx
      · exact k1 x (h2 j g' (by omega) hg' x hx)
theorem first_marks (c d : Cir) (l : List Int) (hl : l.length ≤ 1000) (t : List Int × Unit) (ht : t.1 = l) : ∃ m : BM, (∀ x ∈ l, onM m x) ∧ Gp.Lp (fun k => SynthSmalls12.l0 k t) (c, d, (), 0, []) (c, d, (), m) := by
  obtain ⟨m, hm, e⟩ := Lp.countI (body := fun k => SynthSmalls12.l0 k t) l.length (fun (m : BM) i => (c, d, (), i, m)) (fun m => (c, d, (), m)) (fun i m => ∀ x ∈ l.take i, onM m x)
    (fun i m hi hm => by
      have hx : t.1[i]? = some l[i] := by rw [ht]; exact List.getElem?_eq_getElem hi
      have hit : i < t.1.length := by rw [ht]; exact hi
      refine ⟨putB m l[i], fun x hx => ?_, ?_⟩
      · rw [List.take_add_one, List.getElem?_eq_getElem hi] at hx
        rcases List.mem_append.1 hx with hx | hx
        · exact onM_keep _ (hm x hx)
        · have : x = l[i] := by simpa using hx
          rw [this]
          exact onM_put _ _
      · simp only [SynthSmalls12.l0]
        refine .yes (decide_eq_true (by omega)) (.val (rd_some' hx) (.now' ?_))
        rw [w64_succ (by omega)]
        rfl)
    (fun m _ => by
      simp only [SynthSmalls12.l0]
      exact .no (decide_eq_false (by rw [ht]; omega)) (.now _)) (b := []) (fun x hx => by simp at hx)
  exact ⟨m, fun x hx => hm x (by rw [List.take_length]; exact hx), e⟩
theorem masked (c d : Cir) (hc : 0 ≤ c.1) (l : List Int) (hl : l.length ≤ 1000) : ∃ M : List Int, M.length = l.length ∧ Gp.Lp (fun k => SynthSmalls12.l2 k l) (c, d, (), 0, []) (c, d, (), M) := by
  obtain ⟨M, hM, e⟩ := Lp.countI (body := fun k => SynthSmalls12.l2 k l) l.length (fun (m : List Int) i => (c, d, (), i, m)) (fun m => (c, d, (), m)) (fun i m => m.length = i)
    (fun i m hi hm => by
      have hx : l[i]? = some l[i] := List.getElem?_eq_getElem hi
      refine ⟨m ++ [ibits .and .i64 l[i] (w64 (shlI .i64 1 c.1 - 1))], by rw [List.length_append, List.length_singleton, hm], ?_⟩
      simp only [SynthSmalls12.l2]
      refine .yes (decide_eq_true (by omega)) (.val (rd_some' hx) (.val (if_neg (by omega)) (.val (a := ()) (if_pos (room_ok (by simp only [List.length_cons, List.length_nil]; omega))) (.now' ?_))))
      rw [w64_succ (by omega)])
    (fun m _ => by
      simp only [SynthSmalls12.l2]
      exact .no (by simp) (.now _)) (b := []) rfl
  exact ⟨M, hM, e⟩
theorem answered_ev {c : Cir} (hR : Right c) (hi : c.2.2.2.2.length ≤ 1000) (l : List Int) (hl : l.length ≤ 1000) : Ev (fun k => Answered62 k c l) (ran c l, ()) := by
  have hlp := Lp.fold (body := fun k => Answered62.l0 k l) l (fun (b : Int × List Int) i => (c, b.1, (), i, b.2)) (stepS c) (fun b => ((), b.2)) (fun i b => b.2.length = i) (fun i x b hx hb => ⟨by
      have hi := get_lt hx
      simp only [Answered62.l0]
      refine .yes (decide_eq_true (by omega)) (.val (rd_some' hx) (.bind (stepped_ev hR b.1 x) (.val (a := ()) (if_pos (room_ok (by simp only [List.length_cons, List.length_nil]; omega))) (.now' ?_))))
      rw [w64_id (by omega) (by omega)]
      rfl, by unfold stepS; simp [hb]⟩) (fun b _ => by
      simp only [Answered62.l0]
      exact .no (by simp) (.now _)) (b := ((first c : Int), [])) rfl
  unfold Answered62
  exact .bind (first_ev c (by omega)) (.bind hlp.ev (.now _))
end
end Go.Proofs.Ytjbdhaenakcclaa.St

/- Shortest words that tell two machines apart: words, and a search round by round. No program in sight. -/
set_option linter.unusedVariables false
noncomputable section
namespace Go.Proofs.Ytjbdhaenakcclaa.St
open Go Go.Proofs.Ytjbdhaenakcclaa.Gp

abbrev Pr := Int × Int
def cod (w : List Nat) : Nat := w.foldl (fun c i => c * 17 + i) 1
theorem cod_snoc (w : List Nat) (i : Nat) : cod (w ++ [i]) = cod w * 17 + i := by unfold cod; rw [List.foldl_append]; rfl
theorem snoc_ind {p : List Nat → Prop} (h0 : p []) (h1 : ∀ w i, p w → p (w ++ [i])) (w : List Nat) : p w := by
  have : ∀ (n : Nat) (w : List Nat), w.length = n → p w := by
    intro n
    induction n with
    | zero => intro w h; rw [List.length_eq_zero_iff.1 h]; exact h0
    | succ n ih =>
      intro w h
      rcases List.eq_nil_or_concat w with rfl | ⟨u, i, hc⟩
      · cases h
      · rw [List.concat_eq_append] at hc
        subst hc
        exact h1 u i (ih u (by simpa using h))
  exact this w.length w rfl
/-- the number of a word of a given length -/
def vl (w : List Nat) : Nat := w.foldl (fun c i => c * 17 + i) 0
theorem fold_lin (w : List Nat) : ∀ c : Nat, w.foldl (fun c i => c * 17 + i) c = c * 17 ^ w.length + vl w := by
  induction w with
  | nil => intro c; simp [vl]
  | cons x w ih =>
    intro c
    unfold vl
    rw [List.foldl_cons, List.foldl_cons, ih, ih (0 * 17 + x), List.length_cons, Nat.pow_succ, Nat.zero_mul, Nat.zero_add, Nat.add_mul]
    rw [Nat.mul_assoc, Nat.mul_comm 17, Nat.add_assoc]
theorem cod_vl (w : List Nat) : cod w = 17 ^ w.length + vl w := by unfold cod; rw [fold_lin, Nat.one_mul]
theorem vl_cons (i : Nat) (w : List Nat) : vl (i :: w) = i * 17 ^ w.length + vl w := by
  show w.foldl _ (0 * 17 + i) = _
  rw [fold_lin, Nat.zero_mul, Nat.zero_add]
theorem vl_lt : ∀ (w : List Nat), (∀ i ∈ w, i < 17) → vl w < 17 ^ w.length
  | [], _ => by simp [vl]
  | x :: w, h => by
    have ih := vl_lt w (fun i hi => h i (by simp [hi]))
    have hx := h x (by simp)
    rw [vl_cons, List.length_cons, Nat.pow_succ]
    have : x * 17 ^ w.length ≤ 16 * 17 ^ w.length := Nat.mul_le_mul_right _ (by omega)
    omega
theorem cod_len {u v : List Nat} (hu : ∀ i ∈ u, i < 17) (h : u.length < v.length) : cod u < cod v := by
  have h1 := vl_lt u hu
  rw [cod_vl, cod_vl]
  have h2 : 17 ^ (u.length + 1) ≤ 17 ^ v.length := Nat.pow_le_pow_right (by decide) h
  rw [Nat.pow_succ] at h2
  omega

section
variable (dl : Pr → Nat → Pr) (df : Pr → Nat → Bool) (B : Nat)
def go (p : Pr) (w : List Nat) : Pr := w.foldl dl p
theorem go_snoc (p : Pr) (w : List Nat) (i : Nat) : go dl p (w ++ [i]) = dl (go dl p w) i := by unfold go; rw [List.foldl_append]; rfl
/-- a word whose last letter tells them apart -/
def Tells (p : Pr) (w : List Nat) : Prop := ∃ u j, w = u ++ [j] ∧ (∀ i ∈ u, i < B) ∧ j < B ∧ df (go dl p u) j = true
theorem Tells.cons {p : Pr} {j : Nat} {w : List Nat} (h : Tells dl df B p (j :: w)) : j < B ∧ ((w = [] ∧ df p j = true) ∨ Tells dl df B (dl p j) w) := by
  obtain ⟨u, i, e, h1, h2, h3⟩ := h
  cases u with
  | nil =>
    simp only [List.nil_append, List.cons.injEq] at e
    obtain ⟨rfl, rfl⟩ := e
    exact ⟨h2, .inl ⟨rfl, h3⟩⟩
  | cons x u =>
    simp only [List.cons_append, List.cons.injEq] at e
    obtain ⟨rfl, rfl⟩ := e
    exact ⟨h1 j (by simp), .inr ⟨u, i, rfl, fun y hy => h1 y (by simp [hy]), h2, h3⟩⟩
theorem Tells.of_cons {p : Pr} {j : Nat} {w : List Nat} (hj : j < B) (h : Tells dl df B (dl p j) w) : Tells dl df B p (j :: w) := by
  obtain ⟨u, i, rfl, h1, h2, h3⟩ := h
  exact ⟨j :: u, i, rfl, fun y hy => by
    rcases List.mem_cons.1 hy with rfl | hy
    · exact hj
    · exact h1 y hy, h2, h3⟩
theorem Tells.lets {p : Pr} {w : List Nat} (h : Tells dl df B p w) : ∀ i ∈ w, i < B := by
  obtain ⟨u, j, rfl, h1, h2, h3⟩ := h
  intro i hi
  rcases List.mem_append.1 hi with hi | hi
  · exact h1 i hi
  · rw [List.mem_singleton.1 hi]; exact h2
theorem Tells.pos {p : Pr} {w : List Nat} (h : Tells dl df B p w) : 1 ≤ w.length := by
  obtain ⟨u, j, rfl, _⟩ := h
  simp
def Least (p : Pr) (w : List Nat) : Prop := Tells dl df B p w ∧ ∀ w', Tells dl df B p w' → cod w ≤ cod w'
def Done (k i k' i' : Nat) : Prop := k' < k ∨ (k' = k ∧ i' < i)
structure Bfs (s : Pr) (Dom : Pr → Prop) (P : List Pr) (Ws : List (List Nat)) (k i : Nat) : Prop where
  len : Ws.length = P.length
  dif : P.Nodup
  dom : ∀ p ∈ P, Dom p
  p0 : P[0]? = some s
  w0 : Ws[0]? = some []
  reach : ∀ (b : Nat) (w : List Nat), Ws[b]? = some w → P[b]? = some (go dl s w) ∧ (∀ j ∈ w, j < B) ∧ w.length ≤ b
  sorted : ∀ (b b' : Nat) (w w' : List Nat), b < b' → Ws[b]? = some w → Ws[b']? = some w' → cod w < cod w'
  top : ∀ (b : Nat) (w wk : List Nat), Ws[b]? = some w → Ws[k]? = some wk → cod w < cod wk * 17 + i
  proc : ∀ (k' i' : Nat) (p : Pr) (w : List Nat), Done k i k' i' → i' < B → P[k']? = some p → Ws[k']? = some w → df p i' = false ∧ ∃ (b : Nat) (wb : List Nat), P[b]? = some (dl p i') ∧ Ws[b]? = some wb ∧ cod wb ≤ cod w * 17 + i'
variable {dl df B}
theorem Bfs.old {s : Pr} {Dom : Pr → Prop} {P : List Pr} {Ws : List (List Nat)} {k i : Nat} (h : Bfs dl df B s Dom P Ws k i) {p : Pr} {w : List Nat} (hp : P[k]? = some p) (hw : Ws[k]? = some w) (hd : df p i = false) (hq : dl p i ∈ P) : Bfs dl df B s Dom P Ws k (i + 1) := by
  refine ⟨h.len, h.dif, h.dom, h.p0, h.w0, h.reach, h.sorted, fun b w' wk h1 h2 => by have := h.top b w' wk h1 h2; omega, fun k' i' p' w' hD hi hp' hw' => ?_⟩
  by_cases hold : Done k i k' i'
  · exact h.proc k' i' p' w' hold hi hp' hw'
  · have : k' = k ∧ i' = i := by unfold Done at hD hold; omega
    obtain ⟨rfl, rfl⟩ := this
    rw [hp] at hp'
    rw [hw] at hw'
    cases hp'
    cases hw'
    obtain ⟨b, hb⟩ := List.getElem?_of_mem hq
    have hbl : b < Ws.length := by rw [h.len]; exact get_lt hb
    have hwb := List.getElem?_eq_getElem hbl
    exact ⟨hd, b, _, hb, hwb, Nat.le_of_lt (h.top b _ _ hwb hw)⟩
theorem Bfs.new {s : Pr} {Dom : Pr → Prop} {P : List Pr} {Ws : List (List Nat)} {k i : Nat} (h : Bfs dl df B s Dom P Ws k i) (hdom : ∀ p i, Dom p → i < B → Dom (dl p i)) (hi : i < B) {p : Pr} {w : List Nat} (hp : P[k]? = some p) (hw : Ws[k]? = some w) (hd : df p i = false) (hq : dl p i ∉ P) : Bfs dl df B s Dom (P ++ [dl p i]) (Ws ++ [w ++ [i]]) k (i + 1) := by
  have hk := get_lt hp
  have hkw := get_lt hw
  have hlen := h.len
  have at1 : ∀ {b : Nat} {q : Pr}, P[b]? = some q → (P ++ [dl p i])[b]? = some q := fun hb => by rw [List.getElem?_append_left (get_lt hb)]; exact hb
  have at2 : ∀ {b : Nat} {q : List Nat}, Ws[b]? = some q → (Ws ++ [w ++ [i]])[b]? = some q := fun hb => by rw [List.getElem?_append_left (get_lt hb)]; exact hb
  have inv2 : ∀ {b : Nat} {q : List Nat}, (Ws ++ [w ++ [i]])[b]? = some q → Ws[b]? = some q ∨ (b = Ws.length ∧ q = w ++ [i]) := by
    intro b q hb
    by_cases hlt : b < Ws.length
    · rw [List.getElem?_append_left hlt] at hb; exact .inl hb
    · have := get_lt hb
      rw [List.length_append, List.length_singleton] at this
      have e : b = Ws.length := by omega
      subst e
      rw [List.getElem?_append_right (Nat.le_refl _), Nat.sub_self] at hb
      cases hb
      exact .inr ⟨rfl, rfl⟩
  obtain ⟨r1, r2, r3⟩ := h.reach k w hw
  have hgo : go dl s w = p := by rw [hp] at r1; exact (Option.some.inj r1).symm
  refine ⟨by rw [List.length_append, List.length_append, h.len]; rfl, ?_, fun q hq' => ?_, at1 h.p0, at2 h.w0, fun b q hb => ?_, fun b b' x x' hlt hb hb' => ?_, fun b x wk hb hk' => ?_, fun k' i' p' w' hD hi' hp' hw' => ?_⟩
  · rw [List.nodup_append]
    exact ⟨h.dif, by simp, fun a ha b hb => by rw [List.mem_singleton.1 hb]; exact fun e => hq (e ▸ ha)⟩
  · rcases List.mem_append.1 hq' with hq' | hq'
    · exact h.dom q hq'
    · rw [List.mem_singleton.1 hq']; exact hdom p i (h.dom p (get_mem hp)) hi
  · rcases inv2 hb with hb | ⟨rfl, rfl⟩
    · obtain ⟨a1, a2, a3⟩ := h.reach b q hb
      exact ⟨at1 a1, a2, a3⟩
    · refine ⟨?_, fun j hj => ?_, ?_⟩
      · rw [go_snoc, hgo, h.len, List.getElem?_append_right (Nat.le_refl _), Nat.sub_self]; rfl
      · rcases List.mem_append.1 hj with hj | hj
        · exact r2 j hj
        · rw [List.mem_singleton.1 hj]; exact hi
      · rw [List.length_append, List.length_singleton]; omega
  · rcases inv2 hb with hb | ⟨rfl, rfl⟩
    · rcases inv2 hb' with hb' | ⟨rfl, rfl⟩
      · exact h.sorted b b' x x' hlt hb hb'
      · rw [cod_snoc]; exact h.top b x w hb hw
    · have := get_lt hb'
      rw [List.length_append, List.length_singleton] at this
      omega
  · have hk2 : wk = w := by
      have := at2 hw
      rw [hk'] at this
      exact Option.some.inj this
    subst hk2
    rcases inv2 hb with hb | ⟨rfl, rfl⟩
    · have := h.top b x wk hb hw; omega
    · rw [cod_snoc]; omega
  · have hk'lt : k' < P.length := by unfold Done at hD; omega
    have hp'' : P[k']? = some p' := by rwa [List.getElem?_append_left hk'lt] at hp'
    have hw'' : Ws[k']? = some w' := by rwa [List.getElem?_append_left (by omega)] at hw'
    by_cases hold : Done k i k' i'
    · obtain ⟨a1, b, wb, a2, a3, a4⟩ := h.proc k' i' p' w' hold hi' hp'' hw''
      exact ⟨a1, b, wb, at1 a2, at2 a3, a4⟩
    · have : k' = k ∧ i' = i := by unfold Done at hD hold; omega
      obtain ⟨rfl, rfl⟩ := this
      rw [hp] at hp''
      rw [hw] at hw''
      cases hp''
      cases hw''
      refine ⟨hd, P.length, w ++ [i'], ?_, ?_, by rw [cod_snoc]; exact Nat.le_refl _⟩
      · rw [List.getElem?_append_right (Nat.le_refl _), Nat.sub_self]; rfl
      · rw [← h.len, List.getElem?_append_right (Nat.le_refl _), Nat.sub_self]; rfl
theorem Bfs.row {s : Pr} {Dom : Pr → Prop} {P : List Pr} {Ws : List (List Nat)} {k : Nat} (hB : B ≤ 16) (h : Bfs dl df B s Dom P Ws k B) : Bfs dl df B s Dom P Ws (k + 1) 0 := by
  refine ⟨h.len, h.dif, h.dom, h.p0, h.w0, h.reach, h.sorted, fun b w wk hb hk => ?_, fun k' i' p w hD hi hp hw => ?_⟩
  · have hk1 : k < Ws.length := by have := get_lt hk; omega
    have hwk := List.getElem?_eq_getElem hk1
    have h1 := h.top b w _ hb hwk
    have h2 := h.sorted k (k + 1) _ _ (by omega) hwk hk
    omega
  · refine h.proc k' i' p w ?_ hi hp hw
    unfold Done at hD ⊢
    omega
/-- a word's way: within what is done, or beyond -/
theorem Bfs.trace {s : Pr} {Dom : Pr → Prop} {P : List Pr} {Ws : List (List Nat)} {k i : Nat} (hB : B ≤ 16) (h : Bfs dl df B s Dom P Ws k i) (hi : i ≤ 16) : ∀ v : List Nat, (∀ j ∈ v, j < B) →
    (∃ (b : Nat) (w : List Nat), P[b]? = some (go dl s v) ∧ Ws[b]? = some w ∧ cod w ≤ cod v) ∨ (∃ wk : List Nat, Ws[k]? = some wk ∧ cod wk * 17 + i ≤ cod v) := by
  intro v
  refine snoc_ind (p := fun v => (∀ j ∈ v, j < B) → (∃ (b : Nat) (w : List Nat), P[b]? = some (go dl s v) ∧ Ws[b]? = some w ∧ cod w ≤ cod v) ∨ (∃ wk : List Nat, Ws[k]? = some wk ∧ cod wk * 17 + i ≤ cod v)) ?_ ?_ v
  · intro _
    exact .inl ⟨0, [], h.p0, h.w0, Nat.le_refl _⟩
  · intro v j ih hv
    have hj := hv j (by simp)
    rw [cod_snoc, go_snoc]
    rcases ih (fun x hx => hv x (by simp [hx])) with ⟨b, w, e1, e2, e3⟩ | ⟨wk, e1, e2⟩
    · by_cases hD : Done k i b j
      · obtain ⟨_, b2, wb, f1, f2, f3⟩ := h.proc b j _ w hD hj e1 e2
        exact .inl ⟨b2, wb, f1, f2, by omega⟩
      · right
        have hb := get_lt e2
        by_cases hbk : b = k
        · subst hbk
          exact ⟨w, e2, by unfold Done at hD; omega⟩
        · have hkb : k < b := by unfold Done at hD; omega
          have hk1 := List.getElem?_eq_getElem (show k < Ws.length by omega)
          have := h.sorted k b _ w hkb hk1 e2
          exact ⟨_, hk1, by omega⟩
    · exact .inr ⟨wk, e1, by omega⟩
theorem Bfs.none {s : Pr} {Dom : Pr → Prop} {P : List Pr} {Ws : List (List Nat)} {k : Nat} (hB : B ≤ 16) (h : Bfs dl df B s Dom P Ws k 0) (hk : P.length ≤ k) : ∀ w, ¬ Tells dl df B s w := by
  rintro w ⟨u, j, rfl, h1, h2, h3⟩
  rcases h.trace hB (by omega) u h1 with ⟨b, wb, e1, e2, e3⟩ | ⟨wk, e1, e2⟩
  · have := (h.proc b j _ wb (.inl (by have := get_lt e1; omega)) h2 e1 e2).1
    rw [h3] at this
    cases this
  · have := get_lt e1
    have := h.len
    omega
end
end Go.Proofs.Ytjbdhaenakcclaa.St

/- Shortest words that tell two machines apart: how far each pair is from a difference. No program in sight. -/
set_option linter.unusedVariables false
noncomputable section
namespace Go.Proofs.Ytjbdhaenakcclaa.St
open Go Go.Proofs.Ytjbdhaenakcclaa.Gp

def sumF (g : Pr → Nat) : List Pr → Nat
  | [] => 0
  | p :: l => g p + sumF g l
theorem sum_eq {g g' : Pr → Nat} : ∀ {l : List Pr}, (∀ x ∈ l, g' x = g x) → sumF g' l = sumF g l
  | [], _ => rfl
  | p :: l, h => by
    unfold sumF
    rw [h p (by simp), sum_eq (fun x hx => h x (by simp [hx]))]
theorem sum_upd {g g' : Pr → Nat} {p : Pr} (h : ∀ x, x ≠ p → g' x = g x) : ∀ {l : List Pr}, l.Nodup → p ∈ l → sumF g' l + g p = sumF g l + g' p
  | [], _, hp => by cases hp
  | x :: l, nd, hp => by
    rw [List.nodup_cons] at nd
    unfold sumF
    by_cases hx : x = p
    · subst hx
      rw [sum_eq (fun y hy => h y (fun e => nd.1 (e ▸ hy)))]
      omega
    · have ih := sum_upd h nd.2 ((List.mem_cons.1 hp).resolve_left (fun e => hx e.symm))
      rw [h x hx]
      omega
abbrev Fr := Pr → Option Nat
def nF : Option Nat → Nat | none => 1 | some _ => 0
def vF : Option Nat → Nat | none => 100 | some d => d
theorem nsum_le (F : Fr) : ∀ l : List Pr, sumF (fun x => nF (F x)) l ≤ l.length
  | [] => Nat.le_refl _
  | p :: l => by
    have := nsum_le F l
    have h : nF (F p) ≤ 1 := by cases F p <;> simp [nF]
    show nF (F p) + _ ≤ l.length + 1
    omega
def updF (F : Fr) (p : Pr) (d : Nat) : Fr := fun x => if x = p then some d else F x
theorem updF_same {F : Fr} {p : Pr} {d : Nat} : updF F p d p = some d := if_pos rfl
theorem updF_other {F : Fr} {p x : Pr} {d : Nat} (h : x ≠ p) : updF F p d x = F x := if_neg h
theorem first_ex (P : Nat → Bool) : ∀ (B : Nat), (∃ i, i < B ∧ P i = true) → ∃ i, i < B ∧ P i = true ∧ ∀ j, j < i → P j = false
  | 0, ⟨i, h, _⟩ => by omega
  | B + 1, ⟨i, h, hp⟩ => by
    by_cases hB : ∃ i, i < B ∧ P i = true
    · obtain ⟨i, h1, h2, h3⟩ := first_ex P B hB
      exact ⟨i, by omega, h2, h3⟩
    · have hi : i = B := by
        by_cases h2 : i < B
        · exact absurd ⟨i, h2, hp⟩ hB
        · omega
      subst hi
      refine ⟨i, by omega, hp, fun j hj => ?_⟩
      cases hpj : P j with
      | false => rfl
      | true => exact absurd ⟨j, hj, hpj⟩ hB
section
variable (dl : Pr → Nat → Pr) (df : Pr → Nat → Bool) (B : Nat)
structure Far (l : List Pr) (F : Fr) : Prop where
  keys : ∀ (p : Pr) (d : Nat), F p = some d → p ∈ l
  snd : ∀ (p : Pr) (d : Nat), F p = some d → ∃ w : List Nat, w.length = d ∧ Tells dl df B p w
  bnd : ∀ (p : Pr) (d : Nat), F p = some d → d + sumF (fun x => nF (F x)) l ≤ l.length
theorem far0 (l : List Pr) : Far dl df B l (fun _ => none) := ⟨fun p d h => (by cases h), fun p d h => (by cases h), fun p d h => (by cases h)⟩
/-- how far, by one letter -/
def cand (F : Fr) (p : Pr) (i : Nat) : Option Nat := if df p i = true then some 1 else (F (dl p i)).map (· + 1)
def Fix (l : List Pr) (F : Fr) : Prop := ∀ p ∈ l, ∀ i, i < B → ∀ d, cand dl df F p i = some d → ∃ o, F p = some o ∧ o ≤ d
variable {dl df B}
theorem Far.le {l : List Pr} {F : Fr} (h : Far dl df B l F) {p : Pr} {d : Nat} (hd : F p = some d) : d ≤ l.length := by have := h.bnd p d hd; omega
theorem Far.upd {l : List Pr} {F : Fr} (h : Far dl df B l F) (nd : l.Nodup) (hl : l.length ≤ 64) {p : Pr} (hp : p ∈ l) {i d : Nat} (hi : i < B) (hc : cand dl df F p i = some d) (hb : ∀ o, F p = some o → d < o) :
    Far dl df B l (updF F p d) ∧ sumF (fun x => vF (updF F p d x)) l < sumF (fun x => vF (F x)) l := by
  have en := sum_upd (g := fun x => nF (F x)) (g' := fun x => nF (updF F p d x)) (p := p) (fun x hx => by simp only [updF_other hx]) nd hp
  have ev := sum_upd (g := fun x => vF (F x)) (g' := fun x => vF (updF F p d x)) (p := p) (fun x hx => by simp only [updF_other hx]) nd hp
  simp only [updF_same] at en ev
  have n0 : nF (some d) = 0 := rfl
  have v0 : vF (some d) = d := rfl
  have nle := nsum_le F l
  -- the bound of the new one
  have hd1 : d + sumF (fun x => nF (updF F p d x)) l ≤ l.length := by
    cases hF : F p with
    | some o =>
      have := hb o hF
      have h2 := h.bnd p o hF
      rw [hF] at en
      have : nF (some o) = 0 := rfl
      omega
    | none =>
      rw [hF] at en
      have e1 : nF none = 1 := rfl
      unfold cand at hc
      split at hc
      · cases hc; omega
      · obtain ⟨e, he, rfl⟩ := Option.map_eq_some_iff.1 hc
        have := h.bnd _ e he
        omega
  refine ⟨⟨fun x e hx => ?_, fun x e hx => ?_, fun x e hx => ?_⟩, ?_⟩
  · by_cases hxp : x = p
    · rw [hxp]; exact hp
    · rw [updF_other hxp] at hx; exact h.keys x e hx
  · by_cases hxp : x = p
    · subst hxp
      rw [updF_same] at hx
      cases hx
      unfold cand at hc
      split at hc
      · rename_i hdf
        cases hc
        exact ⟨[i], rfl, [], i, rfl, fun j hj => (by cases hj), hi, hdf⟩
      · obtain ⟨e, he, rfl⟩ := Option.map_eq_some_iff.1 hc
        obtain ⟨w, h1, h2⟩ := h.snd _ e he
        exact ⟨i :: w, by rw [List.length_cons, h1], h2.of_cons dl df B hi⟩
    · rw [updF_other hxp] at hx; exact h.snd x e hx
  · by_cases hxp : x = p
    · subst hxp
      rw [updF_same] at hx
      cases hx
      exact hd1
    · rw [updF_other hxp] at hx
      have := h.bnd x e hx
      omega
  · cases hF : F p with
    | some o =>
      have := hb o hF
      rw [hF] at ev
      have : vF (some o) = o := rfl
      omega
    | none =>
      rw [hF] at ev
      have : vF none = 100 := rfl
      omega
theorem far_min {l : List Pr} {F : Fr} (hx : Fix dl df B l F) (hcl : ∀ p ∈ l, ∀ i, i < B → dl p i ∈ l) : ∀ (w : List Nat) (p : Pr), p ∈ l → Tells dl df B p w → ∃ d, F p = some d ∧ d ≤ w.length
  | [], p, hp, ht => by have := ht.pos dl df B; simp at this
  | j :: w, p, hp, ht => by
    obtain ⟨hj, h⟩ := ht.cons dl df B
    by_cases hdf : df p j = true
    · obtain ⟨o, h1, h2⟩ := hx p hp j hj 1 (if_pos hdf)
      exact ⟨o, h1, by rw [List.length_cons]; omega⟩
    · rcases h with ⟨_, h⟩ | h
      · exact absurd h hdf
      · obtain ⟨e, e1, e2⟩ := far_min hx hcl w (dl p j) (hcl p hp j hj) h
        obtain ⟨o, h1, h2⟩ := hx p hp j hj (e + 1) (by unfold cand; rw [if_neg hdf, e1]; rfl)
        exact ⟨o, h1, by rw [List.length_cons]; omega⟩
theorem far_none {l : List Pr} {F : Fr} (hx : Fix dl df B l F) (hcl : ∀ p ∈ l, ∀ i, i < B → dl p i ∈ l) {p : Pr} (hp : p ∈ l) (h : F p = none) : ∀ w, ¬ Tells dl df B p w := fun w ht => by
  obtain ⟨d, h1, _⟩ := far_min hx hcl w p hp ht
  rw [h] at h1
  cases h1
/-- the next letter of the way out -/
theorem far_one {l : List Pr} {F : Fr} (h : Far dl df B l F) {p : Pr} (hF : F p = some 1) : ∃ i, i < B ∧ df p i = true ∧ ∀ j, j < i → df p j = false := by
  obtain ⟨w, h1, h2⟩ := h.snd p 1 hF
  obtain ⟨j, rfl⟩ := List.length_eq_one_iff.1 h1
  obtain ⟨hj, h3⟩ := h2.cons dl df B
  rcases h3 with ⟨_, h3⟩ | h3
  · exact first_ex (df p) B ⟨j, hj, h3⟩
  · have := h3.pos dl df B; simp at this
theorem far_more {l : List Pr} {F : Fr} (h : Far dl df B l F) (hx : Fix dl df B l F) (hcl : ∀ p ∈ l, ∀ i, i < B → dl p i ∈ l) {p : Pr} {d : Nat} (hp : p ∈ l) (hF : F p = some (d + 2)) : (∀ i, i < B → df p i = false) ∧ ∃ i, i < B ∧ F (dl p i) = some (d + 1) ∧ ∀ j, j < i → F (dl p j) ≠ some (d + 1) := by
  have h0 : ∀ i, i < B → df p i = false := by
    intro i hi
    cases hdf : df p i with
    | false => rfl
    | true =>
      obtain ⟨o, h1, h2⟩ := hx p hp i hi 1 (if_pos hdf)
      rw [hF] at h1
      cases h1
      omega
  refine ⟨h0, ?_⟩
  obtain ⟨w, h1, h2⟩ := h.snd p (d + 2) hF
  cases w with
  | nil => simp at h1
  | cons j w =>
    obtain ⟨hj, h3⟩ := h2.cons dl df B
    rcases h3 with ⟨_, h3⟩ | h3
    · rw [h0 j hj] at h3; cases h3
    · obtain ⟨e, e1, e2⟩ := far_min hx hcl w (dl p j) (hcl p hp j hj) h3
      obtain ⟨o, g1, g2⟩ := hx p hp j hj (e + 1) (by unfold cand; rw [if_neg (by rw [h0 j hj]; decide), e1]; rfl)
      rw [hF] at g1
      cases g1
      have he : e = d + 1 := by simp only [List.length_cons] at h1; omega
      subst he
      obtain ⟨i, i1, i2, i3⟩ := first_ex (fun i => decide (F (dl p i) = some (d + 1))) B ⟨j, hj, decide_eq_true e1⟩
      exact ⟨i, i1, of_decide_eq_true i2, fun j hj => of_decide_eq_false (i3 j hj)⟩
/-- the least word of a length -/
def Best (p : Pr) (d : Nat) (w : List Nat) : Prop := w.length = d ∧ Tells dl df B p w ∧ ∀ w', w'.length = d → Tells dl df B p w' → vl w ≤ vl w'
theorem best_one {p : Pr} {i : Nat} (hi : i < B) (hd : df p i = true) (hf : ∀ j, j < i → df p j = false) : Best (dl := dl) (df := df) (B := B) p 1 [i] := by
  refine ⟨rfl, ⟨[], i, rfl, fun j hj => (by cases hj), hi, hd⟩, fun w' h1 h2 => ?_⟩
  obtain ⟨j, rfl⟩ := List.length_eq_one_iff.1 h1
  obtain ⟨hj, h3⟩ := h2.cons dl df B
  rcases h3 with ⟨_, h3⟩ | h3
  · rw [vl_cons, vl_cons]
    have : i ≤ j := by
      by_cases hij : j < i
      · rw [hf j hij] at h3; cases h3
      · omega
    simp only [List.length_nil, Nat.pow_zero, Nat.mul_one]
    omega
  · have := h3.pos dl df B; simp at this
theorem best_more (hB : B ≤ 16) {l : List Pr} {F : Fr} (h : Far dl df B l F) (hx : Fix dl df B l F) (hcl : ∀ p ∈ l, ∀ i, i < B → dl p i ∈ l) {p : Pr} {d i : Nat} {w : List Nat} (hp : p ∈ l) (hF : F p = some (d + 2)) (hi : i < B) (h0 : ∀ i, i < B → df p i = false) (hf : ∀ j, j < i → F (dl p j) ≠ some (d + 1)) (hw : Best (dl := dl) (df := df) (B := B) (dl p i) (d + 1) w) : Best (dl := dl) (df := df) (B := B) p (d + 2) (i :: w) := by
  obtain ⟨w1, w2, w3⟩ := hw
  refine ⟨by rw [List.length_cons, w1], w2.of_cons dl df B hi, fun w' h1 h2 => ?_⟩
  cases w' with
  | nil => simp at h1
  | cons j r =>
    have hr : r.length = d + 1 := by simpa using h1
    obtain ⟨hj, h3⟩ := h2.cons dl df B
    rcases h3 with ⟨_, h3⟩ | h3
    · rw [h0 j hj] at h3; cases h3
    rw [vl_cons, vl_cons, w1, hr]
    by_cases hij : j = i
    · subst hij
      have := w3 r hr h3
      omega
    · have hlt : i < j := by
        by_cases hji : j < i
        · exfalso
          obtain ⟨e, e1, e2⟩ := far_min hx hcl r (dl p j) (hcl p hp j hj) h3
          obtain ⟨o, g1, g2⟩ := hx p hp j hj (e + 1) (by unfold cand; rw [if_neg (by rw [h0 j hj]; decide), e1]; rfl)
          rw [hF] at g1
          cases g1
          have he : e = d + 1 := by omega
          subst he
          exact hf j hji e1
        · omega
      have hv := vl_lt w (fun x hx' => by have := w2.lets dl df B x hx'; omega)
      rw [w1] at hv
      have : (i + 1) * 17 ^ (d + 1) ≤ j * 17 ^ (d + 1) := Nat.mul_le_mul_right _ hlt
      rw [Nat.add_mul, Nat.one_mul] at this
      omega
theorem best_least (hB : B ≤ 16) {l : List Pr} {F : Fr} (h : Far dl df B l F) (hx : Fix dl df B l F) (hcl : ∀ p ∈ l, ∀ i, i < B → dl p i ∈ l) {p : Pr} {d : Nat} {w : List Nat} (hp : p ∈ l) (hF : F p = some d) (hw : Best (dl := dl) (df := df) (B := B) p d w) : Least dl df B p w := by
  obtain ⟨w1, w2, w3⟩ := hw
  refine ⟨w2, fun w' ht => ?_⟩
  obtain ⟨e, e1, e2⟩ := far_min hx hcl w' p hp ht
  rw [hF] at e1
  cases e1
  by_cases he : w'.length = d
  · have := w3 w' he ht
    rw [cod_vl, cod_vl, w1, he]
    omega
  · exact Nat.le_of_lt (cod_len (fun x hx' => by have := w2.lets dl df B x hx'; omega) (by omega))
end
end Go.Proofs.Ytjbdhaenakcclaa.St

/- Tables of circuits: states found one after the other. No program in sight. -/
set_option linter.unusedVariables false
noncomputable section
namespace Go.Proofs.Ytjbdhaenakcclaa.St
open Go Go.Proofs.Ytjbdhaenakcclaa.Gp

def outI (c : Cir) (s : Int) (i : Nat) : Int := (pk (line c s (i : Int) c.2.2.1) : Nat)
def nxtI (c : Cir) (s : Int) (i : Nat) : Int := (pk (line c s (i : Int) c.2.2.2.1) : Nat)
theorem addS_len (l : List Int) (x : Int) : l.length ≤ (addS l x).length ∧ (addS l x).length ≤ l.length + 1 := by
  unfold addS
  split
  · omega
  · rw [List.length_append, List.length_singleton]; omega
theorem addS_at {l : List Int} {x : Int} {k : Nat} {s : Int} (h : l[k]? = some s) : (addS l x)[k]? = some s := by
  unfold addS
  split
  · exact h
  · rw [List.getElem?_append_left (get_lt h)]; exact h
/-- one input more of a state's row -/
def rowS (c : Cir) (s : Int) (b : List Int × List (Int × Int)) (i : Nat) : List Int × List (Int × Int) := (addS b.1 (nxtI c s i), b.2 ++ [(outI c s i, idx b.1 (nxtI c s i))])
structure RowI (a : List Int) (k : Nat) (s : Int) (i : Nat) (b : List Int × List (Int × Int)) : Prop where
  len : a.length ≤ b.1.length ∧ b.1.length ≤ a.length + i
  row : b.2.length = i
  at' : b.1[k]? = some s
theorem RowI.next {a : List Int} {k : Nat} {s : Int} {i : Nat} {b : List Int × List (Int × Int)} (c : Cir) (h : RowI a k s i b) : RowI a k s (i + 1) (rowS c s b i) := by
  have := addS_len b.1 (nxtI c s i)
  have := h.len
  exact ⟨⟨show a.length ≤ (addS b.1 (nxtI c s i)).length by omega, show (addS b.1 (nxtI c s i)).length ≤ a.length + (i + 1) by omega⟩, by show (b.2 ++ _).length = _; rw [List.length_append, h.row]; rfl, addS_at h.at'⟩
theorem RowI.all {a : List Int} {k : Nat} {s : Int} (c : Cir) (h : a[k]? = some s) : ∀ n, RowI a k s n ((List.range n).foldl (rowS c s) (a, []))
  | 0 => ⟨⟨Nat.le_refl _, Nat.le_refl _⟩, rfl, h⟩
  | n + 1 => by rw [List.range_succ, List.foldl_append]; exact (RowI.all c h n).next c
end Go.Proofs.Ytjbdhaenakcclaa.St

/- Go functions as plain Lean functions, and their contracts. -/
set_option linter.unusedVariables false
set_option maxRecDepth 100000
noncomputable section
namespace Go.Proofs.Ytjbdhaenakcclaa.St
open Go Go.Proofs.Ytjbdhaenakcclaa.Gp
end Go.Proofs.Ytjbdhaenakcclaa.St

/- Go functions as plain Lean functions, and their contracts. -/
set_option linter.unusedVariables false
set_option maxRecDepth 100000
noncomputable section
namespace Go.Proofs.Ytjbdhaenakcclaa.St
open Go Go.Proofs.Ytjbdhaenakcclaa.Gp
end Go.Proofs.Ytjbdhaenakcclaa.St

/- Shortest words that tell two circuits apart: the program's search. No program in sight. -/
set_option linter.unusedVariables false
set_option maxRecDepth 100000
noncomputable section
namespace Go.Proofs.Ytjbdhaenakcclaa.St
open Go Go.Proofs.Ytjbdhaenakcclaa.Gp

theorem intsLen (l : List Nat) : (ints l).length = l.length := List.length_map ..
theorem intsSnoc (l : List Nat) (x : Nat) : ints l ++ [(x : Int)] = ints (l ++ [x]) := by simp [ints]
def dlC (a b : Cir) (p : Pr) (i : Nat) : Pr := (nxtI a p.1 i, nxtI b p.2 i)
def dfC (a b : Cir) (p : Pr) (i : Nat) : Bool := outI a p.1 i != outI b p.2 i
def DomC (a b : Cir) (p : Pr) : Prop := ∃ x y : Nat, p = ((x : Int), (y : Int)) ∧ x < 2 ^ a.2.2.2.1.length ∧ y < 2 ^ b.2.2.2.1.length
theorem nxt_in {c : Cir} (hR : Right c) (st : Int) (i : Nat) : ∃ x : Nat, nxtI c st i = (x : Int) ∧ x < 2 ^ c.2.2.2.1.length := by
  refine ⟨_, rfl, ?_⟩
  have := pk_lt (line c st (i : Int) c.2.2.2.1) (line_le hR st (i : Int) _)
  rwa [show (line c st (i : Int) c.2.2.2.1).length = c.2.2.2.1.length from List.length_map ..] at this
theorem dom_step {a b : Cir} (ha : Right a) (hb : Right b) (p : Pr) (i : Nat) : DomC a b (dlC a b p i) := by
  obtain ⟨x, hx, h1⟩ := nxt_in ha p.1 i
  obtain ⟨y, hy, h2⟩ := nxt_in hb p.2 i
  exact ⟨x, y, by unfold dlC; rw [hx, hy], h1, h2⟩
theorem nodup_lt : ∀ (n : Nat) (l : List Nat), l.Nodup → (∀ x ∈ l, x < n) → l.length ≤ n
  | 0, l, _, h => by
    cases l with
    | nil => exact Nat.le_refl _
    | cons x l => exact absurd (h x (by simp)) (by omega)
  | n + 1, l, nd, h => by
    by_cases hn : n ∈ l
    · have h1 := nodup_lt n (l.erase n) (nd.erase n) (fun x hx => by
        have := (List.Nodup.mem_erase_iff nd).1 hx
        have := h x this.2
        omega)
      rw [List.length_erase_of_mem hn] at h1
      omega
    · have := nodup_lt n l nd (fun x hx => by
        have := h x hx
        have : x ≠ n := fun e => hn (e ▸ hx)
        omega)
      omega
theorem dom_len {a b : Cir} (hf : a.2.2.2.1.length + b.2.2.2.1.length ≤ 6) {l : List Pr} (nd : l.Nodup) (hd : ∀ p ∈ l, DomC a b p) : l.length ≤ 64 := by
  have key := nodup_lt 64 (l.map fun p => p.1.toNat + 2 ^ a.2.2.2.1.length * p.2.toNat) ?_ ?_
  · rwa [List.length_map] at key
  · unfold List.Nodup
    rw [List.pairwise_map]
    refine List.Pairwise.imp_of_mem ?_ nd
    intro p q hp hq hne he
    obtain ⟨x, y, rfl, h1, h2⟩ := hd p hp
    obtain ⟨x', y', rfl, h3, h4⟩ := hd q hq
    simp only [Int.toNat_natCast] at he
    have hpos : 0 < 2 ^ a.2.2.2.1.length := Nat.pow_pos (by decide)
    have e1 : x = x' := by
      have := congrArg (· % 2 ^ a.2.2.2.1.length) he
      simp only [Nat.add_mul_mod_self_left] at this
      rwa [Nat.mod_eq_of_lt h1, Nat.mod_eq_of_lt h3] at this
    subst e1
    have e2 : y = y' := Nat.eq_of_mul_eq_mul_left hpos (by omega)
    subst e2
    exact hne rfl
  · intro z hz
    obtain ⟨p, hp, rfl⟩ := List.mem_map.1 hz
    obtain ⟨x, y, rfl, h1, h2⟩ := hd p hp
    simp only [Int.toNat_natCast]
    have : (2 : Nat) ^ (a.2.2.2.1.length + b.2.2.2.1.length) ≤ 2 ^ 6 := Nat.pow_le_pow_right (by decide) hf
    rw [Nat.pow_add] at this
    have h6 : (2 : Nat) ^ 6 = 64 := by decide
    have hm : 2 ^ a.2.2.2.1.length * (y + 1) ≤ 2 ^ a.2.2.2.1.length * 2 ^ b.2.2.2.1.length := Nat.mul_le_mul_left _ h2
    rw [Nat.mul_add, Nat.mul_one] at hm
    omega
-- the map of words
def pl (p : Pr) : List Int := [p.1, p.2]
theorem pl_inj {p q : Pr} (h : pl p = pl q) : p = q := by
  obtain ⟨x, y⟩ := p
  obtain ⟨x', y'⟩ := q
  simp only [pl, List.cons.injEq, and_true] at h
  rw [h.1, h.2]
abbrev WMap := List (List Int × List Int)
abbrev aK : K := .arr 2 (.int .i64)
abbrev sK : K := .sl (.int .i64)
structure Way (P : List Pr) (Ws : List (List Nat)) (m : WMap) : Prop where
  get : ∀ (b : Nat) (p : Pr) (w : List Nat), P[b]? = some p → Ws[b]? = some w → mget aK sK m (pl p) = some (ints w)
  non : ∀ p : Pr, p ∉ P → mget aK sK m (pl p) = none
theorem Way.add {P : List Pr} {Ws : List (List Nat)} {m : WMap} (h : Way P Ws m) (hl : Ws.length = P.length) {q : Pr} (hq : q ∉ P) (w : List Nat) : Way (P ++ [q]) (Ws ++ [w]) (mput aK sK m (pl q) (ints w)) := by
  refine ⟨fun b p x hb hx => ?_, fun p hp => ?_⟩
  · by_cases hlt : b < P.length
    · rw [List.getElem?_append_left hlt] at hb
      rw [List.getElem?_append_left (by omega)] at hx
      have hne : p ≠ q := fun e => hq (e ▸ get_mem hb)
      exact (mget_other (kk := aK) (kv := sK) rfl (fun e => hne (pl_inj e))).trans (h.get b p x hb hx)
    · have := get_lt hb
      rw [List.length_append, List.length_singleton] at this
      have e : b = P.length := by omega
      subst e
      rw [List.getElem?_append_right (Nat.le_refl _), Nat.sub_self] at hb
      rw [← hl, List.getElem?_append_right (Nat.le_refl _), Nat.sub_self] at hx
      cases hb
      cases hx
      exact mget_self (kk := aK) (kv := sK) rfl
  · have hpq : p ≠ q := fun e => hp (by simp [e])
    exact (mget_other (kk := aK) (kv := sK) rfl (fun e => hpq (pl_inj e))).trans (h.non p (fun hm => hp (by simp [hm])))
abbrev FoundC := (List Int × Bool × Int × Unit) × Unit
def hit (w : List Nat) : FoundC := ((ints w, true, 0, ()), ())
section
variable {a b : Cir}
end
end Go.Proofs.Ytjbdhaenakcclaa.St

/- Shortest words that tell two circuits apart: the program's whole search. No program in sight. -/
set_option linter.unusedVariables false
set_option maxRecDepth 100000
noncomputable section
namespace Go.Proofs.Ytjbdhaenakcclaa.St
open Go Go.Proofs.Ytjbdhaenakcclaa.Gp

section
variable {a b : Cir}
def startC (a b : Cir) : Pr := (((first a : Nat) : Int), ((first b : Nat) : Int))
theorem first_lt {c : Cir} (hf : fault c = 0) : first c < 2 ^ c.2.2.2.1.length := by
  have hR := right_of c hf
  have hx : c.2.2.2.2.length = c.2.2.2.1.length := by
    unfold fault at hf
    split at hf
    · omega
    · split at hf
      · omega
      · omega
  have h10 := hR.next.1
  unfold first
  have := pk_lt ((c.2.2.2.2.take 10).map bitOf) (bits_ok _)
  rw [List.length_map, List.length_take, hx, Nat.min_eq_right h10] at this
  exact this
theorem start_dom (ha : fault a = 0) (hb : fault b = 0) : DomC a b (startC a b) := ⟨first a, first b, rfl, first_lt ha, first_lt hb⟩
end
end Go.Proofs.Ytjbdhaenakcclaa.St

/- Shortest words that tell two circuits apart: the reference's pairs and distances. No program in sight. -/
set_option linter.unusedVariables false
set_option maxRecDepth 100000
noncomputable section
namespace Go.Proofs.Ytjbdhaenakcclaa.St
open Go Go.Proofs.Ytjbdhaenakcclaa.Gp

abbrev pK : K := .st (.pair (.int .i64) (.int .i64))
abbrev BMap := List (Pr × Bool)
abbrev FMap := List (Pr × Int)
def bAt (P : List Pr) (q : Pr) : Option Bool := if q ∈ P then some true else none
structure Seen (P : List Pr) (m : BMap) : Prop where
  get : ∀ q : Pr, mget pK .bool m q = bAt P q
theorem Seen.add {P : List Pr} {m : BMap} (h : Seen P m) (q : Pr) : Seen (P ++ [q]) (mput pK .bool m q true) := ⟨fun x => by
  by_cases hx : x = q
  · subst hx
    have e : bAt (P ++ [x]) x = some true := if_pos (by simp)
    exact (mget_self (kk := pK) (kv := .bool) rfl).trans e.symm
  · refine (mget_other (kk := pK) (kv := .bool) rfl hx).trans ((h.get x).trans ?_)
    unfold bAt
    by_cases hm : x ∈ P
    · rw [if_pos hm, if_pos (by simp [hm])]
    · rw [if_neg hm, if_neg (by simp [hm, hx])]⟩
theorem box_ev {c : Cir} (hR : Right c) (s : Int) (i : Nat) : Ev (fun k => circuitBox1123 k s (i : Int) c) ((outI c s i, nxtI c s i, ()), ()) := by
  unfold circuitBox1123
  exact .bind (stepped_ev hR s (i : Int)) (.now _)
section
variable {a b : Cir}
structure Clos (a b : Cir) (B : Nat) (s : Pr) (P : List Pr) (k i : Nat) : Prop where
  dif : P.Nodup
  dom : ∀ p ∈ P, DomC a b p
  p0 : P[0]? = some s
  proc : ∀ (k' i' : Nat) (p : Pr), Done k i k' i' → i' < B → P[k']? = some p → dlC a b p i' ∈ P
theorem rowR (hRa : Right a) (hRb : Right b) (hf : a.2.2.2.1.length + b.2.2.2.1.length ≤ 6) {B : Nat} (hB : B ≤ 16) {s : Pr} {k : Nat} : ∀ (n i : Nat) (P : List Pr) (m : BMap), i + n = B → Clos a b B s P k i → Seen P m → ∀ p, P[k]? = some p →
    ∃ P' m', Clos a b B s P' k B ∧ Seen P' m' ∧ P.length ≤ P'.length ∧ Gp.Lp (fun j => shortest82.l0 j (k : Int) (B : Int)) ((a, ()), (b, ()), (), (), (i : Int), P, m) ((a, ()), (b, ()), (), (), P', m') := by
  intro n
  induction n with
  | zero =>
    intro i P m hi h hm p hp
    have : i = B := by omega
    subst this
    refine ⟨P, m, h, hm, Nat.le_refl _, .done ?_⟩
    simp only [shortest82.l0]
    exact .no (by simp) (.now _)
  | succ n ih =>
    intro i P m hi h hm p hp
    have hPl := dom_len hf h.dif h.dom
    have hk := get_lt hp
    have hww : w64 ((i : Int) + 1) = ((i + 1 : Nat) : Int) := w64_succ (by omega)
    by_cases hq : dlC a b p i ∈ P
    · have hg : Option.getD (α := Bool) (mget pK .bool m (dlC a b p i)) false = true := congrArg (fun (o : Option Bool) => Option.getD o false) ((hm.get _).trans (if_pos hq))
      obtain ⟨P', m', e1, e2, e3, e4⟩ := ih (i + 1) P m (by omega) ⟨h.dif, h.dom, h.p0, fun k' i' p' hD hi' hp' => by
        by_cases hold : Done k i k' i'
        · exact h.proc k' i' p' hold hi' hp'
        · have : k' = k ∧ i' = i := by unfold Done at hD hold; omega
          obtain ⟨rfl, rfl⟩ := this
          rw [hp] at hp'
          cases hp'
          exact hq⟩ hm p hp
      refine ⟨P', m', e1, e2, e3, .step ?_ e4⟩
      simp only [shortest82.l0]
      refine .yes (decide_eq_true (by omega)) (.val (rd_some' hp) (.val (rd_some' hp) (.bind (box_ev hRa p.1 i) (.val (rd_some' hp) (.val (rd_some' hp) (.bind (box_ev hRb p.2 i) (.bind (a := ((a, ()), (b, ()), (), (), P, m)) (.no (congrArg (fun (x : Bool) => !x) hg) (.now _)) (.now' ?_))))))))
      rw [hww]
    · have hg : Option.getD (α := Bool) (mget pK .bool m (dlC a b p i)) false = false := congrArg (fun (o : Option Bool) => Option.getD o false) ((hm.get _).trans (if_neg hq))
      have hp' : (P ++ [dlC a b p i])[k]? = some p := by rw [List.getElem?_append_left hk]; exact hp
      obtain ⟨P', m', e1, e2, e3, e4⟩ := ih (i + 1) (P ++ [dlC a b p i]) (mput pK .bool m (dlC a b p i) true) (by omega) ⟨by
        rw [List.nodup_append]
        exact ⟨h.dif, by simp, fun x hx y hy => by rw [List.mem_singleton.1 hy]; exact fun e => hq (e ▸ hx)⟩, fun x hx => by
        rcases List.mem_append.1 hx with hx | hx
        · exact h.dom x hx
        · rw [List.mem_singleton.1 hx]; exact dom_step hRa hRb p i, by rw [List.getElem?_append_left (get_lt h.p0)]; exact h.p0, fun k' i' q hD hi' hq' => by
        have hk'lt : k' < P.length := by unfold Done at hD; omega
        rw [List.getElem?_append_left hk'lt] at hq'
        by_cases hold : Done k i k' i'
        · exact List.mem_append_left _ (h.proc k' i' q hold hi' hq')
        · have : k' = k ∧ i' = i := by unfold Done at hD hold; omega
          obtain ⟨rfl, rfl⟩ := this
          rw [hp] at hq'
          cases hq'
          simp⟩ (hm.add _) p hp'
      refine ⟨P', m', e1, e2, by rw [List.length_append] at e3; omega, .step ?_ e4⟩
      simp only [shortest82.l0]
      refine .yes (decide_eq_true (by omega)) (.val (rd_some' hp) (.val (rd_some' hp) (.bind (box_ev hRa p.1 i) (.val (rd_some' hp) (.val (rd_some' hp) (.bind (box_ev hRb p.2 i) (.bind (a := ((a, ()), (b, ()), (), (), P ++ [dlC a b p i], mput pK .bool m (dlC a b p i) true)) (.yes (congrArg (fun (x : Bool) => !x) hg) (.val (a := ()) ?_ (.now _))) (.now' ?_))))))))
      · rw [if_pos (room_ok (by simp only [List.length_cons, List.length_nil]; omega))]
      · rw [hww]
structure Closed (a b : Cir) (B : Nat) (s : Pr) (l : List Pr) : Prop where
  dif : l.Nodup
  len : l.length ≤ 64
  st : s ∈ l
  cl : ∀ p ∈ l, ∀ i, i < B → dlC a b p i ∈ l
theorem searchS (hRa : Right a) (hRb : Right b) (hf : a.2.2.2.1.length + b.2.2.2.1.length ≤ 6) {B : Nat} (hB : B ≤ 16) (hsh : shlI .i64 1 a.1 = (B : Int)) {s : Pr} : ∀ (n k : Nat) (P : List Pr) (m : BMap), k + n = 65 → k ≤ P.length → Clos a b B s P k 0 → Seen P m →
    ∃ l, Closed a b B s l ∧ Gp.Lp (fun j => shortest82.l1 j a.1) ((a, ()), (b, ()), (), (), (k : Int), P, m) ((a, ()), (b, ()), (), l) := by
  have hins := hRa.ins
  intro n
  induction n with
  | zero =>
    intro k P m hk hkP h hm
    have := dom_len hf h.dif h.dom
    omega
  | succ n ih =>
    intro k P m hk hkP h hm
    have hPl := dom_len hf h.dif h.dom
    by_cases hlt : k < P.length
    · have hp : P[k]? = some P[k] := List.getElem?_eq_getElem hlt
      generalize P[k]'hlt = p at hp
      obtain ⟨P', m', e1, e2, e3, e4⟩ := rowR hRa hRb hf hB B 0 P m (by omega) h hm p hp
      obtain ⟨l, f1, f2⟩ := ih (k + 1) P' m' (by omega) (by omega) ⟨e1.dif, e1.dom, e1.p0, fun k' i' q hD hi hq => e1.proc k' i' q (by unfold Done at hD ⊢; omega) hi hq⟩ e2
      refine ⟨l, f1, .step ?_ f2⟩
      simp only [shortest82.l1]
      refine .yes (decide_eq_true (by omega)) (.val (a := (B : Int)) (by rw [if_neg (by omega), hsh]) (.bind e4.ev (.now' ?_)))
      rw [w64_succ (by omega)]
    · refine ⟨P, ⟨h.dif, hPl, get_mem h.p0, fun p hp i hi => ?_⟩, .done ?_⟩
      · obtain ⟨j, hj⟩ := List.getElem?_of_mem hp
        exact h.proc j i p (.inl (by have := get_lt hj; omega)) hi hj
      · simp only [shortest82.l1]
        exact .no (decide_eq_false (by omega)) (.now _)
-- distances
structure Dist (F : Fr) (m : FMap) : Prop where
  get : ∀ p : Pr, mget pK (.int .i64) m p = (F p).map fun d => (d : Int)
theorem Dist.upd {F : Fr} {m : FMap} (h : Dist F m) (p : Pr) (d : Nat) : Dist (updF F p d) (mput pK (.int .i64) m p (d : Int)) := ⟨fun x => by
  by_cases hx : x = p
  · subst hx
    rw [updF_same]
    exact mget_self (kk := pK) (kv := .int .i64) rfl
  · rw [updF_other hx]
    exact (mget_other (kk := pK) (kv := .int .i64) rfl hx).trans (h.get x)⟩
abbrev FarC (a b : Cir) (B : Nat) := Far (dlC a b) (dfC a b) B
def checkC (a b : Cir) (F : Fr) (p : Pr) (i : Nat) : Prop := ∀ d, cand (dlC a b) (dfC a b) F p i = some d → ∃ o, F p = some o ∧ o ≤ d
def sumV (F : Fr) (l : List Pr) : Nat := sumF (fun x => vF (F x)) l
/-- within a pass over all pairs -/
structure Pass (a b : Cir) (B : Nat) (l : List Pr) (F0 : Fr) (k i : Nat) (F : Fr) (ch : Bool) : Prop where
  far : FarC a b B l F
  le : sumV F l ≤ sumV F0 l
  yes : ch = true → sumV F l < sumV F0 l
  no : ch = false → F = F0 ∧ ∀ (k' i' : Nat) (p : Pr), Done k i k' i' → i' < B → l[k']? = some p → checkC a b F0 p i'
abbrev S2 := (Cir × Unit) × (Cir × Unit) × Unit × Unit × Bool × Pr × Unit × List Pr × FMap
theorem relax (hRa : Right a) (hRb : Right b) {B : Nat} (hB : B ≤ 16) {s : Pr} {l : List Pr} (hl : Closed a b B s l) {F0 F : Fr} {k i : Nat} {ch : Bool} {m : FMap} (h : Pass a b B l F0 k i F ch) (hm : Dist F m) (hi : i < B) {p : Pr} (hp : l[k]? = some p) :
    ∃ F' ch' m', Pass a b B l F0 k (i + 1) F' ch' ∧ Dist F' m' ∧ Ev (fun j => shortest82.l2 j (B : Int) ((a, ()), (b, ()), (), (), ch, p, (), (i : Int), l, m)) (.inl ((a, ()), (b, ()), (), (), ch', p, (), ((i + 1 : Nat) : Int), l, m')) := by
  have hpl := get_mem hp
  have hww : w64 ((i : Int) + 1) = ((i + 1 : Nat) : Int) := w64_succ (by omega)
  have keep : (ch = false → checkC a b F p i) → Pass a b B l F0 k (i + 1) F ch := fun hc => ⟨h.far, h.le, h.yes, fun hch => by
    obtain ⟨hF, hd⟩ := h.no hch
    refine ⟨hF, fun k' i' q hD hi' hq => ?_⟩
    by_cases hold : Done k i k' i'
    · exact hd k' i' q hold hi' hq
    · have : k' = k ∧ i' = i := by unfold Done at hD hold; omega
      obtain ⟨rfl, rfl⟩ := this
      rw [hp] at hq
      cases hq
      rw [← hF]
      exact hc hch⟩
  -- what follows once the distance is known
  have tail : ∀ d : Nat, cand (dlC a b) (dfC a b) F p i = some d → d ≤ 65 → ∃ F' ch' m', Pass a b B l F0 k (i + 1) F' ch' ∧ Dist F' m' ∧
      Ev (fun (_ : Nat) => (Option.bind (cond (cond (!(Option.isSome (mget pK (.int .i64) m p))) true (decide ((d : Int) < (Option.getD (α := Int) (mget pK (.int .i64) m p) (0 : Int)))))
        (some ((a, ()), (b, ()), (), (), true, p, (), l, (mput pK (.int .i64) m p (d : Int))))
        (some ((a, ()), (b, ()), (), (), ch, p, (), l, m))) fun ((a_10, b_10, _, _, changed_3, p_2, _, o0_9, o1_8) : S2) => some (a_10, b_10, (), (), changed_3, p_2, (), o0_9, o1_8) : Option S2)) ((a, ()), (b, ()), (), (), ch', p, (), l, m') := by
    intro d hc hd65
    cases hF : F p with
    | none =>
      have hg : mget pK (.int .i64) m p = none := (hm.get p).trans (by rw [hF]; rfl)
      obtain ⟨f1, f2⟩ := h.far.upd hl.dif hl.len hpl hi hc (fun o ho => by rw [hF] at ho; cases ho)
      refine ⟨updF F p d, true, _, ⟨f1, by have := h.le; unfold sumV at *; omega, fun _ => by have := h.le; unfold sumV at *; omega, fun e => by cases e⟩, hm.upd p d, .bind (.yes ?_ (.now _)) (.now _)⟩
      have : Option.isSome (mget pK (.int .i64) m p) = false := congrArg (fun (o : Option Int) => o.isSome) hg
      rw [this]; rfl
    | some o =>
      have hg : mget pK (.int .i64) m p = some (o : Int) := (hm.get p).trans (by rw [hF]; rfl)
      have g1 : Option.isSome (mget pK (.int .i64) m p) = true := congrArg (fun (o : Option Int) => o.isSome) hg
      have g2 : Option.getD (α := Int) (mget pK (.int .i64) m p) (0 : Int) = (o : Int) := congrArg (fun (o : Option Int) => Option.getD o 0) hg
      by_cases hlt : d < o
      · obtain ⟨f1, f2⟩ := h.far.upd hl.dif hl.len hpl hi hc (fun o' ho => by rw [hF] at ho; cases ho; exact hlt)
        refine ⟨updF F p d, true, _, ⟨f1, by have := h.le; unfold sumV at *; omega, fun _ => by have := h.le; unfold sumV at *; omega, fun e => by cases e⟩, hm.upd p d, .bind (.yes ?_ (.now _)) (.now _)⟩
        rw [g1, g2, decide_eq_true (by omega)]; rfl
      · refine ⟨F, ch, m, keep (fun _ d' hd' => ?_), hm, .bind (.no ?_ (.now _)) (.now _)⟩
        · rw [hc] at hd'
          cases hd'
          exact ⟨o, hF, by omega⟩
        · rw [g1, g2, decide_eq_false (by omega)]; rfl
  cases hd : dfC a b p i with
  | true =>
    have hc : cand (dlC a b) (dfC a b) F p i = some 1 := if_pos hd
    have hne : (outI a p.1 i == outI b p.2 i) = false := by
      unfold dfC at hd
      simpa using hd
    obtain ⟨F', ch', m', t1, t2, t3⟩ := tail 1 hc (by decide)
    refine ⟨F', ch', m', t1, t2, ?_⟩
    simp only [shortest82.l2]
    refine .yes (decide_eq_true (by omega)) (.bind (.bind (box_ev hRa p.1 i) (.bind (box_ev hRb p.2 i) (.joinL (S := Unit) (.no hne (.now _)) t3))) (.now' ?_))
    rw [hww]
  | false =>
    have heq : (outI a p.1 i == outI b p.2 i) = true := by
      unfold dfC at hd
      simpa using hd
    have hdn : ¬ dfC a b p i = true := by rw [hd]; decide
    cases hq : F (dlC a b p i) with
    | none =>
      have hg : mget pK (.int .i64) m (dlC a b p i) = none := (hm.get _).trans (by rw [hq]; rfl)
      refine ⟨F, ch, m, keep (fun _ d hc => ?_), hm, ?_⟩
      · unfold cand at hc
        rw [if_neg hdn, hq] at hc
        cases hc
      · simp only [shortest82.l2]
        refine .yes (decide_eq_true (by omega)) (.bind (.bind (box_ev hRa p.1 i) (.bind (box_ev hRb p.2 i) (.joinR (.yes heq (.yes (congrArg (fun (o : Option Int) => !o.isSome) hg) (.now _)))))) (.now' ?_))
        rw [hww]
    | some e =>
      have hg : mget pK (.int .i64) m (dlC a b p i) = some (e : Int) := (hm.get _).trans (by rw [hq]; rfl)
      have he := h.far.le hq
      have hle := hl.len
      have hc : cand (dlC a b) (dfC a b) F p i = some (e + 1) := by unfold cand; rw [if_neg hdn, hq]; rfl
      obtain ⟨F', ch', m', t1, t2, t3⟩ := tail (e + 1) hc (by omega)
      have hge : w64 ((Option.getD (α := Int) (mget pK (.int .i64) m (dlC a b p i)) (0 : Int)) + 1) = ((e + 1 : Nat) : Int) := by
        have : Option.getD (α := Int) (mget pK (.int .i64) m (dlC a b p i)) (0 : Int) = (e : Int) := congrArg (fun (o : Option Int) => Option.getD o 0) hg
        rw [this, w64_succ (by omega)]
      refine ⟨F', ch', m', t1, t2, ?_⟩
      simp only [shortest82.l2]
      refine .yes (decide_eq_true (by omega)) (.bind (.bind (box_ev hRa p.1 i) (.bind (box_ev hRb p.2 i) (.joinL (S := Unit) (a := ((a, ()), (b, ()), (), (), p, ((e + 1 : Nat) : Int), (), l, m)) (.yes heq (.no (congrArg (fun (o : Option Int) => !o.isSome) hg) (.now' ?_))) t3))) (.now' ?_))
      · have e2 : w64 ((Option.getD (α := Int) (mget pK (.int .i64) m (nxtI a p.1 i, nxtI b p.2 i)) (0 : Int)) + 1) = ((e + 1 : Nat) : Int) := hge
        exact congrArg (fun (z : Int) => (Sum.inl ((a, ()), (b, ()), (), (), p, z, (), l, m) : ((Cir × Unit) × (Cir × Unit) × Unit × Unit × Pr × Int × Unit × List Pr × FMap) ⊕ S2)) e2
      · rw [hww]
end
end Go.Proofs.Ytjbdhaenakcclaa.St

/- Shortest words that tell two circuits apart: the reference's answer. No program in sight. -/
set_option linter.unusedVariables false
set_option maxRecDepth 100000
noncomputable section
namespace Go.Proofs.Ytjbdhaenakcclaa.St
open Go Go.Proofs.Ytjbdhaenakcclaa.Gp

theorem Dist.no {F : Fr} {m : FMap} (h : Dist F m) {p : Pr} (hF : F p = none) : Option.isSome (mget pK (.int .i64) m p) = false := by
  have hg : mget pK (.int .i64) m p = none := (h.get p).trans (by rw [hF]; rfl)
  exact congrArg (fun (o : Option Int) => o.isSome) hg
theorem Dist.is {F : Fr} {m : FMap} (h : Dist F m) {p : Pr} {d : Nat} (hF : F p = some d) : Option.isSome (mget pK (.int .i64) m p) = true := by
  have hg : mget pK (.int .i64) m p = some (d : Int) := (h.get p).trans (by rw [hF]; rfl)
  exact congrArg (fun (o : Option Int) => o.isSome) hg
theorem Dist.at {F : Fr} {m : FMap} (h : Dist F m) {p : Pr} {d : Nat} (hF : F p = some d) : Option.getD (α := Int) (mget pK (.int .i64) m p) (0 : Int) = (d : Int) := by
  have hg : mget pK (.int .i64) m p = some (d : Int) := (h.get p).trans (by rw [hF]; rfl)
  exact congrArg (fun (o : Option Int) => Option.getD o 0) hg
section
variable {a b : Cir}
theorem rowF2 (hRa : Right a) (hRb : Right b) {B : Nat} (hB : B ≤ 16) {s : Pr} {l : List Pr} (hl : Closed a b B s l) {F0 : Fr} {k : Nat} {p : Pr} (hp : l[k]? = some p) : ∀ (n i : Nat) (F : Fr) (ch : Bool) (m : FMap), i + n = B → Pass a b B l F0 k i F ch → Dist F m →
    ∃ F' ch' m', Pass a b B l F0 k B F' ch' ∧ Dist F' m' ∧ Gp.Lp (fun j => shortest82.l2 j (B : Int)) ((a, ()), (b, ()), (), (), ch, p, (), (i : Int), l, m) ((a, ()), (b, ()), (), (), ch', (), l, m') := by
  intro n
  induction n with
  | zero =>
    intro i F ch m hi h hm
    have : i = B := by omega
    subst this
    refine ⟨F, ch, m, h, hm, .done ?_⟩
    simp only [shortest82.l2]
    exact .no (by simp) (.now _)
  | succ n ih =>
    intro i F ch m hi h hm
    obtain ⟨F1, ch1, m1, h1, hm1, e1⟩ := relax hRa hRb hB hl h hm (by omega) hp
    obtain ⟨F2, ch2, m2, h2, hm2, e2⟩ := ih (i + 1) F1 ch1 m1 (by omega) h1 hm1
    exact ⟨F2, ch2, m2, h2, hm2, .step e1 e2⟩
theorem passF (hRa : Right a) (hRb : Right b) {B : Nat} (hB : B ≤ 16) (hsh : shlI .i64 1 a.1 = (B : Int)) {s : Pr} {l : List Pr} (hl : Closed a b B s l) {F0 : Fr} : ∀ (n k : Nat) (F : Fr) (ch : Bool) (m : FMap), k + n = l.length → Pass a b B l F0 k 0 F ch → Dist F m →
    ∃ F' ch' m', Pass a b B l F0 l.length 0 F' ch' ∧ Dist F' m' ∧ Gp.Lp (fun j => shortest82.l3 j a.1 l) ((a, ()), (b, ()), (), (), ch, (), (k : Int), l, m) ((a, ()), (b, ()), (), (), ch', l, m') := by
  have hins := hRa.ins
  have hlen := hl.len
  intro n
  induction n with
  | zero =>
    intro k F ch m hk h hm
    have : k = l.length := by omega
    subst this
    refine ⟨F, ch, m, h, hm, .done ?_⟩
    simp only [shortest82.l3]
    exact .no (by simp) (.now _)
  | succ n ih =>
    intro k F ch m hk h hm
    have hp : l[k]? = some l[k] := List.getElem?_eq_getElem (by omega)
    generalize l[k]'(by omega) = p at hp
    obtain ⟨F1, ch1, m1, h1, hm1, e1⟩ := rowF2 hRa hRb hB hl hp B 0 F ch m (by omega) h hm
    have h1' : Pass a b B l F0 (k + 1) 0 F1 ch1 := ⟨h1.far, h1.le, h1.yes, fun hc => by
      obtain ⟨g1, g2⟩ := h1.no hc
      exact ⟨g1, fun k' i' q hD hi' hq => g2 k' i' q (by unfold Done at hD ⊢; omega) hi' hq⟩⟩
    obtain ⟨F2, ch2, m2, h2, hm2, e2⟩ := ih (k + 1) F1 ch1 m1 (by omega) h1' hm1
    refine ⟨F2, ch2, m2, h2, hm2, .step ?_ e2⟩
    simp only [shortest82.l3]
    refine .yes (decide_eq_true (by omega)) (.val (rd_some' hp) (.val (rd_some' hp) (.val (a := (B : Int)) (by rw [if_neg (by omega), hsh]) (.bind e1.ev (.now' ?_)))))
    rw [w64_succ (by omega)]
/-- until nothing changes -/
theorem fixF (hRa : Right a) (hRb : Right b) {B : Nat} (hB : B ≤ 16) (hsh : shlI .i64 1 a.1 = (B : Int)) {s : Pr} {l : List Pr} (hl : Closed a b B s l) : ∀ (n : Nat) (F : Fr) (m : FMap), sumV F l < n → FarC a b B l F → Dist F m →
    ∃ F' m', FarC a b B l F' ∧ Fix (dlC a b) (dfC a b) B l F' ∧ Dist F' m' ∧ Gp.Lp (fun j => shortest82.l4 j a.1) ((a, ()), (b, ()), (), (), true, l, m) ((a, ()), (b, ()), (), m') := by
  intro n
  induction n with
  | zero => intro F m h; omega
  | succ n ih =>
    intro F m hn h hm
    obtain ⟨F1, ch1, m1, h1, hm1, e1⟩ := passF hRa hRb hB hsh hl (F0 := F) l.length 0 F false m (by omega) ⟨h, Nat.le_refl _, fun e => (by cases e), fun _ => ⟨rfl, fun k' i' p hD => by unfold Done at hD; omega⟩⟩ hm
    have hs : Ev (fun j => shortest82.l4 j a.1 ((a, ()), (b, ()), (), (), true, l, m)) (.inl ((a, ()), (b, ()), (), (), ch1, l, m1)) := by
      simp only [shortest82.l4]
      exact .yes rfl (.bind e1.ev (.now _))
    cases ch1 with
    | true =>
      have := h1.yes rfl
      obtain ⟨F2, m2, g1, g2, g3, g4⟩ := ih F1 m1 (by omega) h1.far hm1
      exact ⟨F2, m2, g1, g2, g3, .step hs g4⟩
    | false =>
      obtain ⟨hF, hc⟩ := h1.no rfl
      refine ⟨F1, m1, h1.far, fun p hp i hi d hd => ?_, hm1, .step hs (.done ?_)⟩
      · obtain ⟨k, hk⟩ := List.getElem?_of_mem hp
        have := hc k i p (.inl (get_lt hk)) hi hk
        rw [hF] at hd ⊢
        exact this d hd
      · simp only [shortest82.l4]
        exact .no rfl (.now _)
abbrev ToldV := (List Int × Bool × Unit) × Unit
def told (w : List Nat) : ToldV := ((ints w, true, ()), ())
abbrev S6 := (Cir × Unit) × (Cir × Unit) × Unit × Unit × Unit × FMap × Pr × List Int
/-- letters that lead nowhere -/
theorem skip5 (hRa : Right a) (hRb : Right b) {B : Nat} (hB : B ≤ 16) {F : Fr} {m : FMap} (hm : Dist F m) {p : Pr} {d : Nat} (hd : F p = some d) (hd1 : 1 ≤ d) (hd2 : d ≤ 100) (o : List Int) {i : Nat} (hi : i ≤ B) (h : ∀ j, j < i → ¬ (dfC a b p j = true ∧ d = 1) ∧ ¬ (dfC a b p j = false ∧ F (dlC a b p j) = some (d - 1))) {r : S6 ⊕ (S6 ⊕ ToldV)}
    (he : Gp.Lp (fun k => shortest82.l5 k (B : Int)) ((a, ()), (b, ()), (), (), (), (i : Int), m, p, o) r) : ∀ (n j : Nat), j + n = i → Gp.Lp (fun k => shortest82.l5 k (B : Int)) ((a, ()), (b, ()), (), (), (), (j : Int), m, p, o) r := by
  intro n
  induction n with
  | zero => intro j hj; rw [show j = i by omega]; exact he
  | succ n ih =>
    intro j hj
    obtain ⟨h1, h2⟩ := h j (by omega)
    refine .step ?_ (ih (j + 1) (by omega))
    have hgp : Option.getD (α := Int) (mget pK (.int .i64) m p) (0 : Int) = (d : Int) := hm.at hd
    have hgq := hm.get (dlC a b p j)
    simp only [shortest82.l5]
    refine .yes (decide_eq_true (by omega)) (.bind (box_ev hRa p.1 j) (.bind (box_ev hRb p.2 j) (.no ?_ (.no ?_ (.now' ?_)))))
    · show cond (dfC a b p j) (Option.getD (α := Int) (mget pK (.int .i64) m p) (0 : Int) == 1) false = false
      rw [hgp]
      cases hdf : dfC a b p j with
      | false => rfl
      | true => exact beq_false_of_ne (fun e => h1 ⟨hdf, by omega⟩)
    · show cond (cond (outI a p.1 j == outI b p.2 j) (Option.isSome (mget pK (.int .i64) m (dlC a b p j))) false) (Option.getD (α := Int) (mget pK (.int .i64) m (dlC a b p j)) (0 : Int) == w64 (Option.getD (α := Int) (mget pK (.int .i64) m p) (0 : Int) - 1)) false = false
      rw [hgp]
      cases hdf : dfC a b p j with
      | true =>
        have hne : (outI a p.1 j == outI b p.2 j) = false := by unfold dfC at hdf; simpa using hdf
        rw [hne]; rfl
      | false =>
        have heq : (outI a p.1 j == outI b p.2 j) = true := by unfold dfC at hdf; simpa using hdf
        rw [heq]
        cases hF : F (dlC a b p j) with
        | none =>
          have : Option.isSome (mget pK (.int .i64) m (dlC a b p j)) = false := hm.no hF
          rw [this]; rfl
        | some e =>
          have g1 : Option.isSome (mget pK (.int .i64) m (dlC a b p j)) = true := hm.is hF
          have g2 : Option.getD (α := Int) (mget pK (.int .i64) m (dlC a b p j)) (0 : Int) = (e : Int) := hm.at hF
          rw [g1, g2, w64_id (by omega) (by omega)]
          exact beq_false_of_ne (fun he => h2 ⟨hdf, by rw [hF]; exact congrArg some (by omega)⟩)
    · rw [w64_succ (by omega)]
theorem greedy (hRa : Right a) (hRb : Right b) {B : Nat} (hB : B ≤ 16) (hsh : shlI .i64 1 a.1 = (B : Int)) {s : Pr} {l : List Pr} (hl : Closed a b B s l) {F : Fr} {m : FMap} (hF : FarC a b B l F) (hx : Fix (dlC a b) (dfC a b) B l F) (hm : Dist F m) : ∀ (d : Nat) (p : Pr) (o : List Nat), p ∈ l → F p = some (d + 1) → o.length + d ≤ 500 →
    ∃ w, Best (dl := dlC a b) (df := dfC a b) (B := B) p (d + 1) w ∧ Gp.Lp (fun k => shortest82.l6 k a.1) ((a, ()), (b, ()), (), (), (), m, p, ints o) (told (o ++ w)) := by
  have hins := hRa.ins
  intro d
  induction d with
  | zero =>
    intro p o hp hd ho
    obtain ⟨i, i1, i2, i3⟩ := far_one hF hd
    refine ⟨[i], best_one i1 i2 i3, .done ?_⟩
    have hgp : Option.getD (α := Int) (mget pK (.int .i64) m p) (0 : Int) = 1 := hm.at hd
    have hend : Gp.Lp (fun k => shortest82.l5 k (B : Int)) ((a, ()), (b, ()), (), (), (), (i : Int), m, p, ints o) (.inr (.inr (told (o ++ [i])))) := by
      refine .done ?_
      simp only [shortest82.l5]
      refine .yes (decide_eq_true (by omega)) (.bind (box_ev hRa p.1 i) (.bind (box_ev hRb p.2 i) (.yes ?_ (.val (a := ()) ?_ (.now' ?_)))))
      · show cond (dfC a b p i) (Option.getD (α := Int) (mget pK (.int .i64) m p) (0 : Int) == 1) false = true
        rw [hgp, i2]; rfl
      · rw [if_pos (room_ok (by rw [intsLen]; simp only [List.length_cons, List.length_nil]; omega))]
      · unfold told
        rw [← intsSnoc]
    have hlp := skip5 hRa hRb hB hm hd (Nat.le_refl _) (by decide) (ints o) (i := i) (by omega) (fun j hj => ⟨fun h => (by rw [i3 j hj] at h; cases h.1), fun h => (by
      obtain ⟨w, h1, h2⟩ := hF.snd _ _ h.2
      have := h2.pos (dlC a b) (dfC a b) B
      omega)⟩) hend i 0 (by omega)
    simp only [shortest82.l6]
    exact .val (a := (B : Int)) (by rw [if_neg (by omega), hsh]) (.joinR hlp.ev)
  | succ d ih =>
    intro p o hp hd ho
    have hle := hF.le hd
    have hlen := hl.len
    obtain ⟨h0, i, i1, i2, i3⟩ := far_more hF hx hl.cl hp hd
    have hq := hl.cl p hp i i1
    obtain ⟨w, w1, w2⟩ := ih (dlC a b p i) (o ++ [i]) hq i2 (by rw [List.length_append, List.length_singleton]; omega)
    refine ⟨i :: w, best_more hB hF hx hl.cl hp hd i1 h0 i3 w1, ?_⟩
    have hgp : Option.getD (α := Int) (mget pK (.int .i64) m p) (0 : Int) = ((d + 2 : Nat) : Int) := hm.at hd
    have hgq := hm.get (dlC a b p i)
    have g1 : Option.isSome (mget pK (.int .i64) m (dlC a b p i)) = true := hm.is i2
    have g2 : Option.getD (α := Int) (mget pK (.int .i64) m (dlC a b p i)) (0 : Int) = ((d + 1 : Nat) : Int) := hm.at i2
    have heq : (outI a p.1 i == outI b p.2 i) = true := by have := h0 i i1; unfold dfC at this; simpa using this
    have hend : Gp.Lp (fun k => shortest82.l5 k (B : Int)) ((a, ()), (b, ()), (), (), (), (i : Int), m, p, ints o) (.inl ((a, ()), (b, ()), (), (), (), m, dlC a b p i, ints (o ++ [i]))) := by
      refine .done ?_
      simp only [shortest82.l5]
      refine .yes (decide_eq_true (by omega)) (.bind (box_ev hRa p.1 i) (.bind (box_ev hRb p.2 i) (.no ?_ (.yes ?_ (.val (a := ()) ?_ (.now' ?_))))))
      · show cond (dfC a b p i) _ false = false
        rw [h0 i i1]; rfl
      · show cond (cond (outI a p.1 i == outI b p.2 i) (Option.isSome (mget pK (.int .i64) m (dlC a b p i))) false) (Option.getD (α := Int) (mget pK (.int .i64) m (dlC a b p i)) (0 : Int) == w64 (Option.getD (α := Int) (mget pK (.int .i64) m p) (0 : Int) - 1)) false = true
        rw [heq, g1, g2, hgp, w64_id (by omega) (by omega), show ((d + 2 : Nat) : Int) - 1 = ((d + 1 : Nat) : Int) by omega]
        simp
      · rw [if_pos (room_ok (by rw [intsLen]; simp only [List.length_cons, List.length_nil]; omega))]
      · rw [← intsSnoc]; rfl
    have hlp := skip5 hRa hRb hB hm hd (by omega) (by omega) (ints o) (i := i) (by omega) (fun j hj => ⟨fun h => (by omega), fun h => i3 j hj h.2⟩) hend i 0 (by omega)
    rw [show o ++ i :: w = (o ++ [i]) ++ w by simp]
    refine .step ?_ w2
    simp only [shortest82.l6]
    exact .val (a := (B : Int)) (by rw [if_neg (by omega), hsh]) (.joinL (S := Unit) hlp.ev (.now _))
theorem sumV_le (F : Fr) (h : ∀ p d, F p = some d → d ≤ 100) : ∀ l : List Pr, sumV F l ≤ 100 * l.length
  | [] => Nat.le_refl _
  | p :: l => by
    have := sumV_le F h l
    have hv : vF (F p) ≤ 100 := by
      cases hF : F p with
      | none => exact Nat.le_refl _
      | some d => exact h p d hF
    show vF (F p) + sumV F l ≤ 100 * (l.length + 1)
    omega
theorem told_ev (hRa : Right a) (hRb : Right b) (hda : DomC a b (startC a b)) (hia : a.2.2.2.2.length ≤ 1000) (hib : b.2.2.2.2.length ≤ 1000) (hf : a.2.2.2.1.length + b.2.2.2.1.length ≤ 6) {B : Nat} (hB : B ≤ 16) (hsh : shlI .i64 1 a.1 = (B : Int)) :
    (∃ w, Least (dlC a b) (dfC a b) B (startC a b) w ∧ Ev (fun k => ToldCircuits34 k a b) (told w)) ∨
    ((∀ w, ¬ Tells (dlC a b) (dfC a b) B (startC a b) w) ∧ Ev (fun k => ToldCircuits34 k a b) (([], false, ()), ())) := by
  have hseen : Seen [startC a b] (mput pK .bool ([] : BMap) (startC a b) true) := Seen.add (P := []) (m := []) ⟨fun q => rfl⟩ (startC a b)
  obtain ⟨l, hl, e1⟩ := searchS hRa hRb hf hB hsh 65 0 [startC a b] _ (by omega) (Nat.zero_le _) ⟨by simp, fun p hp => by rw [List.mem_singleton.1 hp]; exact hda, rfl, fun k' i' p hD => by unfold Done at hD; omega⟩ hseen
  obtain ⟨F, m, hF, hx, hm, e2⟩ := fixF hRa hRb hB hsh hl (100 * l.length + 1) (fun _ => none) [] (by have := sumV_le (fun _ => none) (fun p d h => by cases h) l; omega) (far0 _ _ _ l) ⟨fun p => rfl⟩
  have pre : ∀ {r : ToldV}, Ev (fun k => (cond (!(Option.isSome (mget pK (.int .i64) m (startC a b)))) (some (([], false, ()), ())) (loopN (shortest82.l6 k a.1) k ((a, ()), (b, ()), (), (), (), m, startC a b, [])) : Option ToldV)) r → Ev (fun k => ToldCircuits34 k a b) r := by
    intro r hr
    unfold ToldCircuits34 circuitBox83
    refine .val rfl (.val rfl (.bind (first_ev a (by omega)) (.bind (first_ev b (by omega)) (.bind (a := r) ?_ (.now _)))))
    unfold shortest82
    exact .bind e1.ev (.bind e2.ev hr)
  cases hs : F (startC a b) with
  | none =>
    refine .inr ⟨far_none hx hl.cl hl.st hs, pre (.yes ?_ (.now _))⟩
    have : Option.isSome (mget pK (.int .i64) m (startC a b)) = false := hm.no hs
    rw [this]; rfl
  | some d =>
    have hd1 : 1 ≤ d := by
      obtain ⟨w, h1, h2⟩ := hF.snd _ _ hs
      have := h2.pos (dlC a b) (dfC a b) B
      omega
    obtain ⟨d', rfl⟩ : ∃ d', d = d' + 1 := ⟨d - 1, by omega⟩
    have hle := hF.le hs
    have hlen := hl.len
    obtain ⟨w, w1, w2⟩ := greedy hRa hRb hB hsh hl hF hx hm d' (startC a b) [] hl.st hs (by simp only [List.length_nil]; omega)
    refine .inl ⟨w, best_least hB hF hx hl.cl hl.st hs w1, pre (.no ?_ w2.ev)⟩
    have : Option.isSome (mget pK (.int .i64) m (startC a b)) = true := hm.is hs
    rw [this]; rfl
end
end Go.Proofs.Ytjbdhaenakcclaa.St

/- More fuel, no other answer. -/
set_option linter.unusedVariables false
noncomputable section
namespace Go.Proofs.Ytjbdhaenakcclaa.Gp
open Go

def Mono {α : Type} (f : Nat → Option α) : Prop := ∀ k j v, k ≤ j → f k = some v → f j = some v
theorem Mono.ev {α : Type} {f : Nat → Option α} (h : Mono f) {n : Nat} {v : α} (e : f n = some v) : Ev f v := ⟨n, fun k hk => h n k v hk e⟩
theorem Mono.const {α : Type} (o : Option α) : Mono (fun _ => o) := fun _ _ _ _ h => h
theorem Mono.bind {α β : Type} {f : Nat → Option α} {g : Nat → α → Option β} (h : Mono f) (h2 : ∀ a, Mono (fun k => g k a)) : Mono (fun k => (f k).bind (g k)) := by
  intro k j v hk he
  obtain ⟨a, ha, hb⟩ := Option.bind_eq_some_iff.1 he
  exact Option.bind_eq_some_iff.2 ⟨a, h k j a hk ha, h2 a k j v hk hb⟩
theorem Mono.cond {α : Type} {c : Bool} {f g : Nat → Option α} (h : Mono f) (h2 : Mono g) : Mono (fun k => cond c (f k) (g k)) := by
  cases c
  · exact h2
  · exact h
theorem Mono.joined {α β : Type} {f : Nat → Option (α ⊕ β)} {g : Nat → α → Option β} (h : Mono f) (h2 : ∀ a, Mono (fun k => g k a)) : Mono (fun k => (f k).bind (joined (g k))) :=
  Mono.bind (g := fun k => Gp.joined (g k)) h (fun a => by
    cases a with
    | inl a => exact h2 a
    | inr b => exact Mono.const _)
theorem Mono.loop {S R : Type} {body : Nat → S → Option (S ⊕ R)} {s : S} (h : ∀ s, Mono (fun k => body k s)) : Mono (fun k => loopN (body k) k s) := by
  have key : ∀ (n : Nat) (k j m : Nat) (s : S) (v : R), k ≤ j → n ≤ m → loopN (body k) n s = some v → loopN (body j) m s = some v := by
    intro n
    induction n with
    | zero => intro k j m s v _ _ he; cases he
    | succ n ih =>
      intro k j m s v hk hm he
      obtain ⟨m, rfl⟩ : ∃ i, m = i + 1 := ⟨m - 1, by omega⟩
      obtain ⟨a, ha, hb⟩ := Option.bind_eq_some_iff.1 (show (body k s).bind _ = some v from he)
      refine Option.bind_eq_some_iff.2 ⟨a, h s k j a hk ha, ?_⟩
      cases a with
      | inl s' => exact ih k j m s' v hk (by omega) hb
      | inr r => exact hb
  intro k j v hk he
  exact key k k j j s v hk hk he
theorem Mono.agree {α : Type} {f g : Nat → Option α} (h : Mono f) (h2 : Mono g) : Mono (fun k => agree (f k) (g k)) := by
  intro k j v hk he
  obtain ⟨a, b⟩ := agree_some he
  show Gp.agree (f j) (g j) = some v
  rw [h k j v hk a, h2 k j v hk b]
  exact agree_self _
theorem Mono.orNil {α : Type} {n : Nat} {f g : Nat → Option α} (h : Mono f) (h2 : Mono g) : Mono (fun k => orNil n (f k) (g k)) := by
  intro k j v hk he
  obtain ⟨a, b⟩ := orNil_some he
  have h3 := h2 k j v hk a
  show Gp.orNil n (f j) (g j) = some v
  rw [orNil_same (fun e => by rw [h3, h k j v hk (b e)])]
  exact h3
theorem Mono.prod {α β γ : Type} {f : Nat → α × β → Option γ} (h : ∀ a b, Mono (fun k => f k (a, b))) : ∀ x, Mono (fun k => f k x) := fun x => by
  obtain ⟨a, b⟩ := x
  exact h a b
end Go.Proofs.Ytjbdhaenakcclaa.Gp

/- Twins of functions that the kernel can run: what they answer, the functions answer. -/
set_option linter.unusedVariables false
namespace Go.Proofs.Ytjbdhaenakcclaa.Gp
open Go

def agreeD {α : Type} [DecidableEq α] (a b : Option α) : Option α := if a = b then a else none
def orNilD {α : Type} [DecidableEq α] (n : Nat) (a b : Option α) : Option α := if n = 0 then agreeD a b else b
def Le {α : Type} (a b : Option α) : Prop := ∀ v, a = some v → b = some v
theorem Le.refl {α : Type} (a : Option α) : Le a a := fun _ h => h
theorem Le.bind {α β : Type} {f f' : Option α} {g g' : α → Option β} (h : Le f f') (h2 : ∀ a, Le (g a) (g' a)) : Le (f.bind g) (f'.bind g') := by
  intro v he
  obtain ⟨a, ha, hb⟩ := Option.bind_eq_some_iff.1 he
  exact Option.bind_eq_some_iff.2 ⟨a, h a ha, h2 a v hb⟩
theorem Le.cond {α : Type} {c : Bool} {f g f' g' : Option α} (h : Le f f') (h2 : Le g g') : Le (cond c f g) (cond c f' g') := by
  cases c
  · exact h2
  · exact h
theorem Le.joined {α β : Type} {f f' : Option (α ⊕ β)} {g g' : α → Option β} (h : Le f f') (h2 : ∀ a, Le (g a) (g' a)) : Le (f.bind (Gp.joined g)) (f'.bind (Gp.joined g')) :=
  Le.bind h (fun a => by
    cases a with
    | inl a => exact h2 a
    | inr b => exact Le.refl _)
theorem Le.none {α : Type} (b : Option α) : Le none b := fun _ h => by cases h
theorem Le.loop {S R : Type} {n m : Nat} (hn : n ≤ m) {body body' : S → Option (S ⊕ R)} (h : ∀ s, Le (body s) (body' s)) : ∀ (s : S), Le (loopN body n s) (loopN body' m s) := by
  induction n generalizing m with
  | zero => intro s v he; cases he
  | succ n ih =>
    intro s v he
    obtain ⟨m, rfl⟩ : ∃ i, m = i + 1 := ⟨m - 1, by omega⟩
    obtain ⟨a, ha, hb⟩ := Option.bind_eq_some_iff.1 (show (body s).bind _ = some v from he)
    refine Option.bind_eq_some_iff.2 ⟨a, h s a ha, ?_⟩
    cases a with
    | inl s' => exact ih (by omega) s' v hb
    | inr r => exact hb
theorem Le.ev {α : Type} {f g : Nat → Option α} (h : ∀ k j, k ≤ j → Le (f k) (g j)) {n : Nat} {v : α} (e : f n = some v) : Ev g v := ⟨n, fun k hk => h n k hk v e⟩
theorem Le.agree {α : Type} [DecidableEq α] {f g f' g' : Option α} (h : Le f f') (h2 : Le g g') : Le (agreeD f g) (Gp.agree f' g') := by
  intro v he
  unfold agreeD at he
  split at he
  · rename_i e
    have a := h v he
    have b := h2 v (e ▸ he)
    rw [a, b]
    exact agree_self _
  · cases he
theorem Le.self {α : Type} {f f' : Option α} (h : Le f f') : Le f (Gp.agree f' f') := by
  rw [agree_self]
  exact h
theorem Le.orNil {α : Type} [DecidableEq α] {n : Nat} {f g f' g' : Option α} (h : Le f f') (h2 : Le g g') : Le (orNilD n f g) (Gp.orNil n f' g') := by
  intro v he
  unfold orNilD at he
  split at he
  · rename_i e
    subst e
    have := Le.agree h h2 v he
    obtain ⟨a, b⟩ := agree_some this
    rw [orNil_zero (a.trans b.symm)]
    exact b
  · rename_i e
    rw [orNil_pos e]
    exact h2 v he
theorem Le.prod {α β γ : Type} {f f' : α × β → Option γ} (h : ∀ a b, Le (f (a, b)) (f' (a, b))) : ∀ x, Le (f x) (f' x) := fun x => by
  obtain ⟨a, b⟩ := x
  exact h a b
end Go.Proofs.Ytjbdhaenakcclaa.Gp
