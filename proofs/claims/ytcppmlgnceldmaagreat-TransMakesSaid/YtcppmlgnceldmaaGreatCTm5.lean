/- Merged texts of one claim: a Go law, its functions without memory, and the plain law. The law returns true for every input; conditions: as the row says. -/
import Derived.Test.YtcppmlgnceldmaaGreatRows
import Derived.ChangeArms
import Derived.OpenShut
import Derived.SizedLaws
import Derived.Deep.Slices
import Derived.Below
import Derived.WalkKit
import Derived.ProofKit
import Derived.ShutString
import Derived.ChangeOld
import Derived.Test.YtcppmlgnceldmaaGreatCTm0
import Derived.Test.YtcppmlgnceldmaaGreatCTm1
import Derived.Test.YtcppmlgnceldmaaGreatCTm2
import Derived.Test.YtcppmlgnceldmaaGreatCTm3
import Derived.Test.YtcppmlgnceldmaaGreatCTm4
/- What is known of registers: the reference's steps. No program in sight. -/
set_option linter.unusedVariables false
set_option maxRecDepth 100000
noncomputable section
namespace Go.Proofs.YtcppmlgnceldmaaGreat.Fl
open Go Go.Proofs.YtcppmlgnceldmaaGreat.Gp

theorem joined_inl {α β : Type} {g : α → Option β} (a : α) : joined g (.inl a) = g a := rfl
theorem joined_inr {α β : Type} {g : α → Option β} (r : β) : joined g (.inr r) = some r := rfl
section
variable {A : Rg} {b : Vals} {o1 : Vals}
theorem step_r (h : RelR A b) (hA : Inv A) {s : Stp4} (hs : OkS s) (h24 : s.1 ≠ 24) : ∃ b', RelR (stepA A s) b' ∧ Ev (fun k => step135 k () s (b, ()) o1) ((), (b', ()), o1) := by
  obtain ⟨d, to, fr, n⟩ := s
  have hto : 0 ≤ to ∧ to < 9 := hs.to h24
  have hfr : 0 ≤ fr ∧ fr < 9 := hs.fr h24
  obtain ⟨i, rfl⟩ : ∃ i : Nat, to = (i : Int) := ⟨to.toNat, by omega⟩
  obtain ⟨j, rfl⟩ : ∃ j : Nat, fr = (j : Int) := ⟨fr.toNat, by omega⟩
  have hi : i < 9 := by omega
  have hj : j < 9 := by omega
  have hd : 0 ≤ d ∧ d < 25 := hs.d
  have h24 : d ≠ 24 := h24
  have wt := get_r (o1 := o1) h hA hi
  have wf := get_r (o1 := o1) h hA hj
  have hl := h.len
  have ri := h.lo i hi
  have rj := h.lo j hj
  have flag : ∀ {A1 : Rg} {b1 : Vals}, RelR A1 b1 → ∃ b', RelR (setA A1 4 none) b' ∧ Ev (fun k => put93' k () 4 (0, false) (b1, ()) o1) ((), (b', ()), o1) := fun h1 => put93'_r (o1 := o1) h1 (i := 4) (by decide) (v := none) (fun n hn => by cases hn)
  have unk : ∃ b', RelR (setA A i none) b' ∧ Ev (fun k => put93' k () (i : Int) (0, false) (b, ()) o1) ((), (b', ()), o1) := put93'_r (o1 := o1) h hi (v := none) (fun n hn => by cases hn)
  have dflt : ∃ b', RelR (setA (setA A i none) 4 none) b' ∧ Ev (fun k => (get96 k () (i : Int) (b, ()) o1).bind fun y => (get96 k () (j : Int) y.2.1 y.2.2).bind fun y => (put93' k () (i : Int) (0, false) y.2.1 y.2.2).bind fun y => (put93' k () 4 (0, false) y.2.1 y.2.2).bind fun t => (some ((), t.2.1, t.2.2) : Option (Unit × (WalkU × Vals)))) ((), (b', ()), o1) := by
    obtain ⟨r1, g1, g2⟩ := unk
    obtain ⟨r2, g3, g4⟩ := flag g1
    exact ⟨r2, g3, .bind wt (.bind wf (.bind g2 (.bind g4 (.now _))))⟩
  have hh : d = 0 ∨ d = 1 ∨ d = 2 ∨ d = 3 ∨ d = 4 ∨ d = 5 ∨ d = 6 ∨ d = 7 ∨ d = 8 ∨ d = 9 ∨ d = 10 ∨ d = 11 ∨ d = 12 ∨ d = 13 ∨ d = 14 ∨ d = 15 ∨ d = 16 ∨ d = 17 ∨ d = 18 ∨ d = 19 ∨ d = 20 ∨ d = 21 ∨ d = 22 ∨ d = 23 := by omega
  rcases hh with rfl | rfl | rfl | rfl | rfl | rfl | rfl | rfl | rfl | rfl | rfl | rfl | rfl | rfl | rfl | rfl | rfl | rfl | rfl | rfl | rfl | rfl | rfl | rfl <;> simp only [step135, agree_self, Int.reduceBEq, cond_true, cond_false, Option.bind_some, Option.bind_assoc, joined_inl, joined_inr, w2 hi, w2 hj, w21 hi, w21 hj]
  · exact ⟨b, h, .bind wt (.bind wf (.now _))⟩
  · have hw : wdN i = wdN j := hs.move rfl
    have qj : b[2 * j + 1]? = some b[2 * j + 1] := List.getElem?_eq_getElem (by omega)
    have qi : b[2 * i + 1]? = some b[2 * i + 1] := List.getElem?_eq_getElem (by omega)
    generalize b[2 * j + 1] = y at qj
    generalize b[2 * i + 1] = z at qi
    refine ⟨(b.set (2 * i) (eR (A j).1)).set (2 * i + 1) y, h.put hi (x := A j) (by rw [List.length_set, List.length_set]; exact hl) (by rw [List.getElem?_set_ne (by omega), List.getElem?_set_self (by omega)]) (fun e => ?_) (fun q j1 j2 => by rw [List.getElem?_set_ne (fun e => j2 e.symm), List.getElem?_set_ne (fun e => j1 e.symm)]), .bind wt (.bind wf (.val (two_in hj) (.val (rd_some' rj) (.val (two1_in hj) (.val (rd_some' qj) (.val (two_in hi) (.val (rd_some' ri) (.val (two1_in hi) (.val (a := z) ?_ (.now' ?_))))))))))⟩
    · rw [List.getElem?_set_self (by rw [List.length_set]; omega)]
      have := h.hi j hj (hw ▸ e)
      rw [qj] at this
      exact this
    · rw [Int.toNat_natCast]
      exact rd_some' (by rw [List.getElem?_set_ne (by omega)]; exact qi)
    · rw [Int.toNat_natCast, Int.toNat_natCast]
  · have hlit : 0 ≤ n ∧ n ≤ cond (wd (i : Int)) 65535 255 := hs.lit rfl
    have hn : n < 65536 := by
      have := hlit.2
      cases hw : wd (i : Int) <;> rw [hw] at this <;> simp at this <;> omega
    obtain ⟨b', g1, g2⟩ := put93'_r (o1 := o1) h hi (v := some n.toNat) (fun m hm => by cases hm; omega)
    have en : eR (some n.toNat) = (n % 65536, true) := by show (((n.toNat : Nat) : Int), true) = _; rw [show ((n.toNat : Nat) : Int) = n % 65536 by omega]
    rw [en] at g2
    exact ⟨b', g1, .bind wt (.bind wf (.bind (known_ev (x := n) (by omega) (bits := 16) (M := 65536) (.inr ⟨rfl, rfl⟩)) (.bind g2 (.now _))))⟩
  · obtain ⟨b', g1, g2⟩ := flag h
    exact ⟨b', g1, .bind wt (.bind wf (.bind g2 (.now _)))⟩
  · exact dflt
  · exact dflt
  · obtain ⟨b', g1, g2⟩ := flag h
    exact ⟨b', g1, .bind wt (.bind wf (.bind g2 (.now _)))⟩
  · exact dflt
  · exact dflt
  · exact dflt
  · obtain ⟨M, bits, hM, hbit⟩ : ∃ M bits : Int, cond (wdN i) 16 8 = bits ∧ (bits = 8 ∧ M = 256 ∧ wdN i = false ∨ bits = 16 ∧ M = 65536 ∧ wdN i = true) := by
      cases wdN i with
      | true => exact ⟨65536, 16, rfl, .inr ⟨rfl, rfl, rfl⟩⟩
      | false => exact ⟨256, 8, rfl, .inl ⟨rfl, rfl, rfl⟩⟩
    have hMb : bits = 8 ∧ M = 256 ∨ bits = 16 ∧ M = 65536 := by
      rcases hbit with ⟨a, b, _⟩ | ⟨a, b, _⟩
      · exact .inl ⟨a, b⟩
      · exact .inr ⟨a, b⟩
    have hsz := size_r hi
    rw [hM] at hsz
    have eD : Ev (fun k => then129'''' k bits ((), ()) [eR (wholeA A i)] (1)) (eR ((wholeA A i).map fun n => (((n : Int) + (1)) % M).toNat), 1) := by
      cases hwh : wholeA A i with
      | none => exact (thenE_1 bits (1)).1 none rfl
      | some n =>
        have := whole_lt hA hwh
        have hw : w64 ((n : Int) + (1)) = (n : Int) + (1) := w64_id (by omega) (by omega)
        have hk := known_ev (x := (n : Int) + (1)) (by omega) hMb
        rw [← hw] at hk
        refine ((thenE_1 bits (1)).2 n _ hk).to ?_
        rw [hw]
        show ((((n : Int) + (1)) % M, true), _) = (((((((n : Int) + (1)) % M).toNat : Nat) : Int), true), _)
        rw [Int.toNat_of_nonneg (Int.emod_nonneg _ (by omega))]
    obtain ⟨b', g1, g2⟩ := put93'_r (o1 := o1) h hi (v := (wholeA A i).map fun n => (((n : Int) + (1)) % M).toNat) (fun n hn => by
      cases hwh : wholeA A i with
      | none => rw [hwh] at hn; cases hn
      | some m =>
        rw [hwh] at hn; cases hn
        show (((m : Int) + (1)) % M).toNat < 65536
        rcases hMb with ⟨_, rfl⟩ | ⟨_, rfl⟩ <;> omega)
    have g1 := add_congr hbit g1
    show ∃ b', RelR (if wdN i = true then addA A i (1) else setA (addA A i (1)) 4 none) b' ∧ _
    cases hw : wdN i with
    | true => exact ⟨b', g1, .bind wt (.bind wf (.bind hsz (.bind eD (.bind (wideR_ev hi) (.bind g2 (.bind (a := ((b', ()), o1)) (.no (by rw [hw]; rfl) (.now _)) (.now _)))))))⟩
    | false =>
      obtain ⟨b2, g3, g4⟩ := flag g1
      exact ⟨b2, g3, .bind wt (.bind wf (.bind hsz (.bind eD (.bind (wideR_ev hi) (.bind g2 (.bind (a := ((b2, ()), o1)) (.yes (by rw [hw]; rfl) (.bind g4 (.now _))) (.now _)))))))⟩
  · obtain ⟨M, bits, hM, hbit⟩ : ∃ M bits : Int, cond (wdN i) 16 8 = bits ∧ (bits = 8 ∧ M = 256 ∧ wdN i = false ∨ bits = 16 ∧ M = 65536 ∧ wdN i = true) := by
      cases wdN i with
      | true => exact ⟨65536, 16, rfl, .inr ⟨rfl, rfl, rfl⟩⟩
      | false => exact ⟨256, 8, rfl, .inl ⟨rfl, rfl, rfl⟩⟩
    have hMb : bits = 8 ∧ M = 256 ∨ bits = 16 ∧ M = 65536 := by
      rcases hbit with ⟨a, b, _⟩ | ⟨a, b, _⟩
      · exact .inl ⟨a, b⟩
      · exact .inr ⟨a, b⟩
    have hsz := size_r hi
    rw [hM] at hsz
    have eD : Ev (fun k => then129'''' k bits ((), ()) [eR (wholeA A i)] (-1)) (eR ((wholeA A i).map fun n => (((n : Int) + (-1)) % M).toNat), -1) := by
      cases hwh : wholeA A i with
      | none => exact (thenE_1 bits (-1)).1 none rfl
      | some n =>
        have := whole_lt hA hwh
        have hw : w64 ((n : Int) + (-1)) = (n : Int) + (-1) := w64_id (by omega) (by omega)
        have hk := known_ev (x := (n : Int) + (-1)) (by omega) hMb
        rw [← hw] at hk
        refine ((thenE_1 bits (-1)).2 n _ hk).to ?_
        rw [hw]
        show ((((n : Int) + (-1)) % M, true), _) = (((((((n : Int) + (-1)) % M).toNat : Nat) : Int), true), _)
        rw [Int.toNat_of_nonneg (Int.emod_nonneg _ (by omega))]
    obtain ⟨b', g1, g2⟩ := put93'_r (o1 := o1) h hi (v := (wholeA A i).map fun n => (((n : Int) + (-1)) % M).toNat) (fun n hn => by
      cases hwh : wholeA A i with
      | none => rw [hwh] at hn; cases hn
      | some m =>
        rw [hwh] at hn; cases hn
        show (((m : Int) + (-1)) % M).toNat < 65536
        rcases hMb with ⟨_, rfl⟩ | ⟨_, rfl⟩ <;> omega)
    have g1 := add_congr hbit g1
    show ∃ b', RelR (if wdN i = true then addA A i (-1) else setA (addA A i (-1)) 4 none) b' ∧ _
    cases hw : wdN i with
    | true => exact ⟨b', g1, .bind wt (.bind wf (.bind hsz (.bind eD (.bind (wideR_ev hi) (.bind g2 (.bind (a := ((b', ()), o1)) (.no (by rw [hw]; rfl) (.now _)) (.now _)))))))⟩
    | false =>
      obtain ⟨b2, g3, g4⟩ := flag g1
      exact ⟨b2, g3, .bind wt (.bind wf (.bind hsz (.bind eD (.bind (wideR_ev hi) (.bind g2 (.bind (a := ((b2, ()), o1)) (.yes (by rw [hw]; rfl) (.bind g4 (.now _))) (.now _)))))))⟩
  · exact dflt
  · exact dflt
  · exact dflt
  · exact dflt
  · obtain ⟨b', g1, g2⟩ := flag h
    exact ⟨b', g1, .bind wt (.bind wf (.bind g2 (.now _)))⟩
  · obtain ⟨b', g1, g2⟩ := flag h
    exact ⟨b', g1, .bind wt (.bind wf (.bind g2 (.now _)))⟩
  · have hw2 : wdN j = false := (hs.wb (.inl rfl)).2
    have ew : wholeA A j = (A j).1 := by unfold wholeA; rw [if_neg (by rw [hw2]; decide)]
    rw [show w64 (w64 (((2 * i : Nat) : Int) + 18) - 18) = ((2 * i : Nat) : Int) by rw [w64_id (x := ((2 * i : Nat) : Int) + 18) (by omega) (by omega), w64_id (by omega) (by omega)]; omega]
    rw [ew] at wf
    refine ⟨b.set (2 * i) (eR (A j).1), h.put hi (x := ((A j).1, (A i).2)) (by rw [List.length_set]; exact hl) (by rw [List.getElem?_set_self (by omega)]) (fun e => by rw [List.getElem?_set_ne (by omega)]; exact h.hi i hi e) (fun q j1 _ => by rw [List.getElem?_set_ne (fun e => j1 e.symm)]), .bind wt (.bind wf (.val (two_in hi) (.val (rd_some' ri) (.now' ?_))))⟩
    rw [Int.toNat_natCast]
  · have hw2 : wdN j = false := (hs.wb (.inr (.inl rfl))).2
    have ew : wholeA A j = (A j).1 := by unfold wholeA; rw [if_neg (by rw [hw2]; decide)]
    rw [show w64 (w64 (((2 * i : Nat) : Int) + 19) - 18) = ((2 * i + 1 : Nat) : Int) by rw [w64_id (x := ((2 * i : Nat) : Int) + 19) (by omega) (by omega), w64_id (by omega) (by omega)]; omega]
    rw [ew] at wf
    refine ⟨b.set (2 * i + 1) (eR (A j).1), h.put hi (x := ((A i).1, (A j).1)) (by rw [List.length_set]; exact hl) (by rw [List.getElem?_set_ne (by omega)]; exact ri) (fun _ => by rw [List.getElem?_set_self (by omega)]) (fun q _ j2 => by rw [List.getElem?_set_ne (fun e => j2 e.symm)]), .bind wt (.bind wf (.val (two1_in hi) (.val (rd_some' (h.hi i hi (hs.wb (.inr (.inl rfl))).1)) (.now' ?_))))⟩
    rw [Int.toNat_natCast]
  · have hw : wdN i = false := (hs.bw (.inl rfl)).1
    rw [show w64 (w64 (((2 * j : Nat) : Int) + 20) - 20) = ((2 * j : Nat) : Int) by rw [w64_id (x := ((2 * j : Nat) : Int) + 20) (by omega) (by omega), w64_id (by omega) (by omega)]; omega]
    obtain ⟨b', g1, g2⟩ := put93'_r (o1 := o1) h hi (v := (A j).1) (fun n hn => by have := (hA j).1 n hn; omega)
    refine ⟨b', g1.congr (A' := putA A i ((A j).1, some 0)) (fun q hq => ?_) (fun q hq hwq => ?_), .bind wt (.bind wf (.val (two_in hj) (.val (rd_some' rj) (.bind g2 (.now _)))))⟩
    · unfold setA putA
      by_cases e : q = i
      · rw [if_pos e, if_pos e]
        cases hx : (A j).1 with
        | none => rfl
        | some m =>
          have := (hA j).1 m hx
          show some (m % 256) = some m
          rw [Nat.mod_eq_of_lt this]
      · rw [if_neg e, if_neg e]
    · unfold setA putA
      by_cases e : q = i
      · subst e; rw [hw] at hwq; cases hwq
      · rw [if_neg e, if_neg e]
  · have hw : wdN i = false := (hs.bw (.inr rfl)).1
    rw [show w64 (w64 (((2 * j : Nat) : Int) + 21) - 20) = ((2 * j + 1 : Nat) : Int) by rw [w64_id (x := ((2 * j : Nat) : Int) + 21) (by omega) (by omega), w64_id (by omega) (by omega)]; omega]
    obtain ⟨b', g1, g2⟩ := put93'_r (o1 := o1) h hi (v := (A j).2) (fun n hn => by have := (hA j).2 n hn; omega)
    refine ⟨b', g1.congr (A' := putA A i ((A j).2, some 0)) (fun q hq => ?_) (fun q hq hwq => ?_), .bind wt (.bind wf (.val (two1_in hj) (.val (rd_some' (h.hi j hj (hs.bw (.inr rfl)).2)) (.bind g2 (.now _)))))⟩
    · unfold setA putA
      by_cases e : q = i
      · rw [if_pos e, if_pos e]
        cases hx : (A j).2 with
        | none => rfl
        | some m =>
          have := (hA j).2 m hx
          show some (m % 256) = some m
          rw [Nat.mod_eq_of_lt this]
      · rw [if_neg e, if_neg e]
    · unfold setA putA
      by_cases e : q = i
      · subst e; rw [hw] at hwq; cases hwq
      · rw [if_neg e, if_neg e]
  · have hw2 : wdN j = false := (hs.wb (.inr (.inr (.inl rfl)))).2
    show ∃ b', RelR (match wholeA A i, wholeA A j with | some _, some c => addA A i ((c : Int)) | _, _ => setA A i none) b' ∧ _
    cases hti : wholeA A i with
    | none =>
      rw [hti] at wt
      obtain ⟨b', g1, g2⟩ := unk
      exact ⟨b', g1, .bind wt (.bind wf (.bind ((thenF_2 16).1 none _ (.inl rfl)) (.bind g2 (.now _))))⟩
    | some a =>
      rw [hti] at wt
      have ha := whole_lt hA hti
      cases htj : wholeA A j with
      | none =>
        rw [htj] at wf
        obtain ⟨b', g1, g2⟩ := unk
        exact ⟨b', g1, .bind wt (.bind wf (.bind ((thenF_2 16).1 (some a) none (.inr rfl)) (.bind g2 (.now _))))⟩
      | some c =>
        rw [htj] at wf
        have hc := narrow_lt hA hw2 htj
        have hw : w64 ((a : Int) + (c : Int)) = (a : Int) + (c : Int) := w64_id (by omega) (by omega)
        have hk := known_ev (x := (a : Int) + (c : Int)) (by omega) (bits := 16) (M := 65536) (.inr ⟨rfl, rfl⟩)
        rw [← hw] at hk
        obtain ⟨b', g1, g2⟩ := put93'_r (o1 := o1) h hi (v := some (((a : Int) + (c : Int)) % 65536).toNat) (fun m hm => by cases hm; omega)
        have eA : addA A i ((c : Int)) = setA A i (some (((a : Int) + (c : Int)) % 65536).toNat) := by unfold addA; rw [hti]; rfl
        have ev : eR (some (((a : Int) + (c : Int)) % 65536).toNat) = (((a : Int) + (c : Int)) % 65536, true) := by
          show ((((((a : Int) + (c : Int)) % 65536).toNat : Nat) : Int), true) = _
          rw [Int.toNat_of_nonneg (by omega)]
        rw [ev] at g2
        have hk := (thenF_2 16).2 a c _ hk
        rw [hw] at hk
        exact ⟨b', by show RelR (addA A i _) b'; rw [eA]; exact g1, .bind wt (.bind wf (.bind hk (.bind g2 (.now _))))⟩
  · have hw2 : wdN j = false := (hs.wb (.inr (.inr (.inr rfl)))).2
    show ∃ b', RelR (match wholeA A i, wholeA A j with | some _, some c => addA A i (sgn c) | _, _ => setA A i none) b' ∧ _
    cases hti : wholeA A i with
    | none =>
      rw [hti] at wt
      obtain ⟨b', g1, g2⟩ := unk
      exact ⟨b', g1, .bind wt (.bind wf (.bind ((thenG_2 16).1 none _ (.inl rfl)) (.bind g2 (.now _))))⟩
    | some a =>
      rw [hti] at wt
      have ha := whole_lt hA hti
      cases htj : wholeA A j with
      | none =>
        rw [htj] at wf
        obtain ⟨b', g1, g2⟩ := unk
        exact ⟨b', g1, .bind wt (.bind wf (.bind ((thenG_2 16).1 (some a) none (.inr rfl)) (.bind g2 (.now _))))⟩
      | some c =>
        rw [htj] at wf
        have hc := narrow_lt hA hw2 htj
        have hsg : -128 ≤ sgn c ∧ sgn c ≤ 255 := by unfold sgn; split <;> omega
        have hw : w64 ((a : Int) + (if (c : Int) > 127 then w64 ((c : Int) - 256) else (c : Int))) = (a : Int) + sgn c := by
          unfold sgn
          by_cases h1 : (c : Int) > 127
          · rw [if_pos h1, if_pos (by omega), w64_id (x := (c : Int) - 256) (by omega) (by omega), w64_id (by omega) (by omega)]
          · rw [if_neg h1, if_neg (by omega), w64_id (by omega) (by omega)]
        have hk := known_ev (x := (a : Int) + sgn c) (by omega) (bits := 16) (M := 65536) (.inr ⟨rfl, rfl⟩)
        rw [← hw] at hk
        obtain ⟨b', g1, g2⟩ := put93'_r (o1 := o1) h hi (v := some (((a : Int) + sgn c) % 65536).toNat) (fun m hm => by cases hm; omega)
        have eA : addA A i (sgn c) = setA A i (some (((a : Int) + sgn c) % 65536).toNat) := by unfold addA; rw [hti]; rfl
        have ev : eR (some (((a : Int) + sgn c) % 65536).toNat) = (((a : Int) + sgn c) % 65536, true) := by
          show ((((((a : Int) + sgn c) % 65536).toNat : Nat) : Int), true) = _
          rw [Int.toNat_of_nonneg (by omega)]
        rw [ev] at g2
        have hk := (thenG_2 16).2 a c _ hk
        rw [hw] at hk
        exact ⟨b', by show RelR (addA A i _) b'; rw [eA]; exact g1, .bind wt (.bind wf (.bind hk (.bind g2 (.now _))))⟩
end
end Go.Proofs.YtcppmlgnceldmaaGreat.Fl

/- What is known of registers: the reference's ends. No program in sight. -/
set_option linter.unusedVariables false
set_option maxRecDepth 100000
noncomputable section
namespace Go.Proofs.YtcppmlgnceldmaaGreat.Fl
open Go Go.Proofs.YtcppmlgnceldmaaGreat.Gp

abbrev Wk := Vals × Vals
def RelW (e : End) (y : Wk) : Prop := RelR e.1 y.1 ∧ y.2 = e.2.map eR
abbrev Br := Vals × Vals × List Wk
structure RelBR (b : Ab) (y : Br) : Prop where
  reg : RelR b.1 y.1
  psh : y.2.1 = b.2.1.map eR
  out : All2 RelW b.2.2 y.2.2
theorem clone134_ev (s : Vals) (h : s.length ≤ 1000) : Ev (fun k => Clone134 k s) ((), s) := by
  unfold Clone134
  have e : (if room (0 + List.length s) 16 then some () else none : Option Unit) = some () := if_pos (room_ok (by omega))
  refine Ev.const ?_
  rw [orNil_same (fun h0 => ?_)]
  · show Option.bind _ _ = _
    rw [e]; rfl
  · have := List.length_eq_zero_iff.1 h0
    subst this
    rw [e]; rfl
theorem steps_r {code : Cod} {n : Nat} (hn : n ≤ 100) {c : Cyc} (hc : OkC c) {b : Ab} (h1 : b.2.1.length ≤ n + 1) (h2 : b.2.2.length ≤ 6 * n) (h3 : Inv b.1) (h4 : ∀ e ∈ b.2.2, Inv e.1 ∧ e.2.length ≤ 1000) {y : Br} (hy : RelBR b y) :
    ∃ y', RelBR (c.2.2.2.foldl stA b) y' ∧ Gp.Lp (fun k => finish95.l0 k c) (code, (), (), 0, (y.1, ()), y.2.1, y.2.2) (code, (), (), (y'.1, ()), y'.2.1, y'.2.2) := by
  have hcl := hc.len
  obtain ⟨y', hy', e⟩ := Lp.countI (body := fun k => finish95.l0 k c) c.2.2.2.length (fun (y : Br) i => (code, (), (), i, (y.1, ()), y.2.1, y.2.2)) (fun y => (code, (), (), (y.1, ()), y.2.1, y.2.2))
    (fun i y => RelBR ((c.2.2.2.take i).foldl stA b) y)
    (fun i y hi hy => by
      have hx : c.2.2.2[i]? = some c.2.2.2[i] := List.getElem?_eq_getElem hi
      have hs := hc.steps _ (get_mem hx)
      generalize c.2.2.2[i] = s at hx hs
      have htk : (c.2.2.2.take i).length ≤ 6 := by rw [List.length_take]; omega
      obtain ⟨g1, g2, g3, g4⟩ := steps_ok (n := n) (m := 6) hn (Nat.le_refl _) (c.2.2.2.take i) b h1 (by omega) h3 h4
      rw [List.take_add_one, hx, Option.toList_some, List.foldl_append]
      show ∃ y', RelBR (stA ((c.2.2.2.take i).foldl stA b) s) y' ∧ _
      generalize (c.2.2.2.take i).foldl stA b = B at hy g1 g2 g3 g4
      have hol := hy.out.len
      have hpl : y.2.1.length ≤ 1000 := by rw [hy.psh, List.length_map]; omega
      unfold stA
      simp only [finish95.l0]
      by_cases h24 : s.1 = 24
      · rw [if_pos h24]
        refine ⟨(y.1, y.2.1, y.2.2 ++ [(y.1, y.2.1)]), ⟨hy.reg, hy.psh, hy.out.snoc ⟨hy.reg, hy.psh⟩⟩, .yes (decide_eq_true (by omega)) (.val (rd_some' hx) (.bind (a := (code, (), (), (y.1, ()), y.2.1, y.2.2 ++ [(y.1, y.2.1)])) (.yes (by rw [h24]; rfl) (.bind (clone134_ev _ hpl) (.val (a := ()) (if_pos (room_ok (by simp only [List.length_cons, List.length_nil]; omega))) (.now _)))) (.now' ?_)))⟩
        rw [w64_succ (by omega)]
      · rw [if_neg h24]
        obtain ⟨r', q1, q2⟩ := step_r (o1 := y.2.1) hy.reg g3 hs h24
        refine ⟨(r', y.2.1, y.2.2), ⟨q1, hy.psh, hy.out⟩, .yes (decide_eq_true (by omega)) (.val (rd_some' hx) (.bind (a := (code, (), (), (r', ()), y.2.1, y.2.2)) (.no (beq_false_of_ne h24) (.bind q2 (.now _))) (.now' ?_)))⟩
        rw [w64_succ (by omega)])
    (fun y _ => by
      simp only [finish95.l0]
      exact .no (by simp) (.now _)) (b := y) hy
  rw [List.take_length] at hy'
  exact ⟨y', hy', e⟩
theorem ends_r {code : Cod} (hd : OkD code) {l : List Cyc} (hl : OkL l) {A : Rg} (hA : Inv A) {r : Vals} (hr : RelR A r) : ∃ o, All2 RelW (endsA code l A) o ∧ Ev (fun k => finish95 k code l (r, ())) (o, ()) := by
  have h8 := hl.len
  obtain ⟨y, hy, e⟩ := Lp.countI (body := fun k => finish95.l1 k l) l.length (fun (y : Br) i => (code, (), (), i, (y.1, ()), y.2.1, y.2.2)) (fun y => ((), (), (y.1, ()), y.2.1, y.2.2))
    (fun i y => RelBR ((l.take i).foldl (cyA code) (A, [], [])) y)
    (fun i y hi hy => by
      have hx : l[i]? = some l[i] := List.getElem?_eq_getElem hi
      have hc := hl.ok _ (get_mem hx)
      generalize l[i] = c at hx hc
      have hok : OkB i ((l.take i).foldl (cyA code) (A, [], [])) := by
        have := OkB.run (code := code) (l.take i) (n := 0) (by rw [List.length_take]; omega) (okB0 hA) (fun c hc => hl.ok c (List.mem_of_mem_take hc))
        rwa [Nat.zero_add, List.length_take, Nat.min_eq_left (by omega)] at this
      rw [List.take_add_one, hx, Option.toList_some, List.foldl_append]
      show ∃ y', RelBR (cyA code ((l.take i).foldl (cyA code) (A, [], [])) c) y' ∧ _
      generalize (l.take i).foldl (cyA code) (A, [], []) = B at hy hok
      have hbl := hok.psh
      obtain ⟨k1, k2, k3⟩ := cyB_ok (code := code) hok c
      have hB : ∃ y1, RelBR (cyB code B c) y1 ∧ y1.2.2 = y.2.2 ∧ Ev (fun k => cycle133 k () code c (y.1, ()) y.2.1) ((), (y1.1, ()), y1.2.1) := by
        unfold cyB
        by_cases h0 : c.1 ≠ 0
        · rw [if_pos h0]
          obtain ⟨r', q1, q2⟩ := cycle_r (P := B.2.1) hd hy.reg hok.inv hc (by omega) h0
          rw [← hy.psh] at q2
          exact ⟨(r', _, y.2.2), ⟨q1, rfl, hy.out⟩, rfl, q2⟩
        · rw [if_neg h0]
          have h0 : c.1 = 0 := by omega
          refine ⟨y, hy, rfl, ?_⟩
          unfold cycle133
          exact .yes (by rw [h0]; rfl) (.now _)
      obtain ⟨y1, hy1, e0, e1⟩ := hB
      obtain ⟨y2, hy2, e2⟩ := steps_r (code := code) (n := i) (by omega) hc k1 (by rw [k2]; exact hok.len) k3 (by rw [k2]; exact hok.all) hy1
      rw [e0] at e2
      refine ⟨y2, hy2, ?_⟩
      simp only [finish95.l1]
      refine .yes (decide_eq_true (by omega)) (.val (rd_some' hx) (.bind e1 (.bind e2.ev (.now' ?_))))
      rw [w64_succ (by omega)])
    (fun y _ => by
      simp only [finish95.l1]
      exact .no (by simp) (.now _)) (b := (r, [], [])) ⟨hr, rfl, .nil⟩
  rw [List.take_length] at hy
  have hb := run_okB (code := code) hl hA
  have hbl := hb.len
  refine ⟨y.2.2 ++ [(y.1, y.2.1)], hy.out.snoc ⟨hy.reg, hy.psh⟩, ?_⟩
  unfold finish95
  refine .bind e.ev (.val (a := ()) (if_pos (room_ok ?_)) (.now _))
  have hol : y.2.2.length = (runA code l A).2.2.length := hy.out.len
  simp only [List.length_cons, List.length_nil]
  omega
theorem getW_r {A : Rg} {y : Wk} (h : RelR A y.1) (hA : Inv A) {i : Nat} (hi : i < 9) : Ev (fun k => get96' k () (i : Int) y) (eR (wholeA A i), y) := by
  have h1 := h.lo i hi
  obtain ⟨b1, b2⟩ := hA i
  unfold get96' wholeA
  simp only [w2 hi, w21 hi]
  refine .bind (wideR_ev hi) ?_
  cases hw : wdN i with
  | false => exact .yes rfl (.val (two_in hi) (.val (rd_some' h1) (.now _)))
  | true =>
    have h2 := h.hi i hi hw
    refine .no rfl (.val (two_in hi) (.val (rd_some' h1) (.val (two1_in hi) (.val (rd_some' h2) ?_))))
    rw [if_pos rfl]
    cases e1 : (A i).1 with
    | none => exact .bind ((thenC_2 16).1 none _ (.inl rfl)) (.now _)
    | some l =>
      cases e2 : (A i).2 with
      | none => exact .bind ((thenC_2 16).1 (some l) none (.inr rfl)) (.now _)
      | some hh =>
        have hl1 := b1 l e1
        have hl2 := b2 hh e2
        have hw3 : w64 ((l : Int) + w64 (256 * (hh : Int))) = ((l + 256 * hh : Nat) : Int) := by
          rw [w64_id (x := 256 * (hh : Int)) (by omega) (by omega), w64_id (by omega) (by omega)]; omega
        have hk := known_ev (x := ((l + 256 * hh : Nat) : Int)) (by omega) (bits := 16) (M := 65536) (.inr ⟨rfl, rfl⟩)
        rw [show ((l + 256 * hh : Nat) : Int) % 65536 = ((l + 256 * hh : Nat) : Int) by omega, ← hw3] at hk
        refine .bind ((thenC_2 16).2 l hh _ hk) (.now' ?_)
        rw [hw3]; rfl
abbrev vK : K := .st (.pair (.int .i64) .bool)
theorem eR_eq {v : Option Nat} {b : Nat} : (xor false (eqB vK (eR v) ((b : Int), true))) = decide (v = some b) := by
  have h : eqB vK (eR v) ((b : Int), true) = true ↔ eR v = ((b : Int), true) := eqB_iff (k := vK) rfl
  have h2 : eR v = ((b : Int), true) ↔ v = some b := by
    cases v with
    | none =>
      refine ⟨fun h => ?_, fun h => (by cases h)⟩
      have : false = true := congrArg Prod.snd h
      cases this
    | some n =>
      constructor
      · intro h
        have : (n : Int) = (b : Int) := congrArg Prod.fst h
        rw [show n = b by omega]
      · intro h; cases h; rfl
  cases he : eqB vK (eR v) ((b : Int), true) with
  | true => rw [decide_eq_true (h2.1 (h.1 he))]; rfl
  | false => rw [decide_eq_false (fun e => by rw [h.2 (h2.2 e)] at he; cases he)]; rfl
theorem callR_ev {P : Psh} {y : Wk} (hy : y.2 = P.map eR) (hl : P.length ≤ 1000) {back : Nat} (hb : back < 65536) {R : Type} {g : Nat → Bool → Option R} {v : R} (hg : Ev (fun k => g k (callE back P)) v) :
    Ev (fun k => Option.bind (cond (decide ((List.length y.2 : Int) > 1))
        ((rd y.2 (w64 ((List.length y.2 : Int) - 2))).bind fun t74 =>
        (known94 k (quoI .i64 ((back : Nat) : Int) 256) 8).bind fun t78 =>
        some (xor false (eqB (.st (.pair (.int .i64) .bool)) t74 t78.1)))
        (some false)) fun t80 =>
      Option.bind (cond t80
        ((rd y.2 (w64 ((List.length y.2 : Int) - 1))).bind fun t86 =>
        (known94 k ((back : Nat) : Int) 8).bind fun t89 =>
        some (xor false (eqB (.st (.pair (.int .i64) .bool)) t86 t89.1)))
        (some false)) (g k)) v := by
  have hyl : y.2.length = P.length := by rw [hy, List.length_map]
  have hk1 := known_ev (x := ((back / 256 : Nat) : Int)) (by omega) (bits := 8) (M := 256) (.inl ⟨rfl, rfl⟩)
  rw [show ((back / 256 : Nat) : Int) % 256 = ((back / 256 : Nat) : Int) by omega, ← quo256n hb] at hk1
  rw [quo256n hb] at hk1
  have hk2 := known_ev (x := ((back : Nat) : Int)) (by omega) (bits := 8) (M := 256) (.inl ⟨rfl, rfl⟩)
  rw [show ((back : Nat) : Int) % 256 = ((back % 256 : Nat) : Int) by omega] at hk2
  rw [quo256n hb]
  by_cases h2 : P.length ≥ 2
  · have e1 : P[P.length - 2]? = some P[P.length - 2] := List.getElem?_eq_getElem (by omega)
    have e2 : P[P.length - 1]? = some P[P.length - 1] := List.getElem?_eq_getElem (by omega)
    generalize P[P.length - 2] = p at e1
    generalize P[P.length - 1] = q at e2
    have r1 : rd y.2 (w64 ((List.length y.2 : Int) - 2)) = some (eR p) := by
      rw [hyl, w64_id (by omega) (by omega)]
      exact rd_at (i := P.length - 2) (by omega) (by rw [hy, List.getElem?_map, e1]; rfl)
    have r2 : rd y.2 (w64 ((List.length y.2 : Int) - 1)) = some (eR q) := by
      rw [hyl, w64_id (by omega) (by omega)]
      exact rd_at (i := P.length - 1) (by omega) (by rw [hy, List.getElem?_map, e2]; rfl)
    have hc : callE back P = (decide (p = some (back / 256)) && decide (q = some (back % 256))) := by
      unfold callE
      rw [e1, e2, ← Bool.decide_and]
      refine decide_eq_decide.2 ⟨fun h => ⟨Option.some.inj h.2.1, Option.some.inj h.2.2⟩, fun h => ⟨h2, by rw [h.1], by rw [h.2]⟩⟩
    refine .bind (a := decide (p = some (back / 256))) (.yes (decide_eq_true (by omega)) (.val r1 (.bind hk1 (.now' eR_eq)))) ?_
    refine .bind (a := callE back P) ?_ hg
    rw [hc]
    cases decide (p = some (back / 256)) with
    | true => exact .yes rfl (.val r2 (.bind hk2 (.now' (by rw [Bool.true_and]; exact eR_eq))))
    | false => exact .no rfl (.now _)
  · have hc : callE back P = false := decide_eq_false (fun h => h2 h.1)
    rw [hc] at hg
    exact .bind (a := false) (.no (decide_eq_false (by omega)) (.now _)) (.bind (a := false) (.no rfl (.now _)) hg)
end Go.Proofs.YtcppmlgnceldmaaGreat.Fl

/- Sorted without doubles: by sorting, and by looking through all numbers. No program in sight. -/
set_option linter.unusedVariables false
set_option maxRecDepth 100000
noncomputable section
namespace Go.Proofs.YtcppmlgnceldmaaGreat.Fl
open Go Go.Proofs.YtcppmlgnceldmaaGreat.Gp

theorem strict_eq : ∀ {l m : List Int}, l.Pairwise (· < ·) → m.Pairwise (· < ·) → (∀ x, x ∈ l ↔ x ∈ m) → l = m
  | [], [], _, _, _ => rfl
  | [], b :: m, _, _, h => by have := (h b).2 List.mem_cons_self; cases this
  | a :: l, [], _, _, h => by have := (h a).1 List.mem_cons_self; cases this
  | a :: l, b :: m, h1, h2, h => by
    rw [List.pairwise_cons] at h1 h2
    have hab : a = b := by
      have h3 := (h a).1 List.mem_cons_self
      have h4 := (h b).2 List.mem_cons_self
      rcases List.mem_cons.1 h3 with e | e
      · exact e
      · rcases List.mem_cons.1 h4 with e2 | e2
        · exact e2.symm
        · have := h2.1 a e
          have := h1.1 b e2
          omega
    subst hab
    rw [strict_eq h1.2 h2.2 (fun x => ?_)]
    constructor
    · intro hx
      rcases List.mem_cons.1 ((h x).1 (List.mem_cons_of_mem _ hx)) with e | e
      · have := h1.1 x hx; omega
      · exact e
    · intro hx
      rcases List.mem_cons.1 ((h x).2 (List.mem_cons_of_mem _ hx)) with e | e
      · have := h2.1 x hx; omega
      · exact e
theorem nodup_le : ∀ {l m : List Int}, l.Nodup → (∀ x ∈ l, x ∈ m) → l.length ≤ m.length
  | [], m, _, _ => Nat.zero_le _
  | a :: l, m, h1, h2 => by
    rw [List.nodup_cons] at h1
    have ha : a ∈ m := h2 a List.mem_cons_self
    have := nodup_le (l := l) (m := m.erase a) h1.2 (fun x hx => (List.mem_erase_of_ne (a := x) (b := a) (fun e => h1.1 (by rw [← e]; exact hx))).2 (h2 x (List.mem_cons_of_mem _ hx)))
    rw [List.length_erase_of_mem ha] at this
    have hp : 0 < m.length := List.length_pos_of_mem ha
    rw [List.length_cons]
    omega
theorem at_bang {l : List Int} {i : Nat} (h : i < l.length) : l.toArray[i]! = l[i] := by
  rw [getElem!_pos l.toArray i (by simpa using h)]; simp
theorem comp_strict {l : List Int} (h : l.Pairwise (· ≤ ·)) : (compI l).Pairwise (· < ·) := by
  have hp := List.pairwise_iff_getElem.1 h
  show (Lib.compactUpTo l.toArray l.length).Pairwise (· < ·)
  unfold Lib.compactUpTo
  rw [List.pairwise_map]
  have hs : ((List.range l.length).filter (Lib.keeps l.toArray)).Pairwise (· < ·) := List.pairwise_lt_range.filter _
  refine hs.imp_of_mem (fun {i j} hi hj hij => ?_)
  obtain ⟨hi1, _⟩ := List.mem_filter.1 hi
  obtain ⟨hj1, hj2⟩ := List.mem_filter.1 hj
  have hi1 := List.mem_range.1 hi1
  have hj1 := List.mem_range.1 hj1
  have hk : j = 0 ∨ l.toArray[j]! ≠ l.toArray[j - 1]! := by
    unfold Lib.keeps at hj2
    exact of_decide_eq_true hj2
  rw [at_bang hi1, at_bang hj1]
  rw [at_bang hj1, at_bang (show j - 1 < l.length by omega)] at hk
  have hne := hk.resolve_left (by omega)
  have h1 : l[i] ≤ l[j - 1] := by
    rcases Nat.lt_or_ge i (j - 1) with q | q
    · exact hp i (j - 1) hi1 (by omega) q
    · have : i = j - 1 := by omega
      subst this; exact Int.le_refl _
  have h2 : l[j - 1] ≤ l[j] := hp (j - 1) j (by omega) hj1 (by omega)
  omega
theorem comp_mem {l : List Int} {x : Int} : x ∈ compI l ↔ x ∈ l := by
  show x ∈ Lib.compactUpTo l.toArray l.length ↔ x ∈ l
  unfold Lib.compactUpTo
  constructor
  · intro h
    obtain ⟨j, hj, rfl⟩ := List.mem_map.1 h
    have hj1 := List.mem_range.1 (List.mem_filter.1 hj).1
    rw [at_bang hj1]
    exact List.getElem_mem hj1
  · intro h
    obtain ⟨j, hj⟩ := List.getElem?_of_mem h
    have key : ∀ (n j : Nat), j = n → l[j]? = some x → x ∈ ((List.range l.length).filter (Lib.keeps l.toArray)).map (l.toArray[·]!) := by
      intro n
      induction n using Nat.strongRecOn with
      | ind n ih =>
        intro j hjn hj
        have hjl := get_lt hj
        have hx : l[j] = x := by rw [List.getElem?_eq_getElem hjl] at hj; exact Option.some.inj hj
        by_cases hk : Lib.keeps l.toArray j = true
        · exact List.mem_map.2 ⟨j, List.mem_filter.2 ⟨List.mem_range.2 hjl, hk⟩, by rw [at_bang hjl, hx]⟩
        · have hk' : ¬ (j = 0 ∨ l.toArray[j]! ≠ l.toArray[j - 1]!) := fun h => hk (by unfold Lib.keeps; exact decide_eq_true h)
          have h0 : j ≠ 0 := fun e => hk' (.inl e)
          have he : l.toArray[j]! = l.toArray[j - 1]! := by
            by_cases e : l.toArray[j]! = l.toArray[j - 1]!
            · exact e
            · exact absurd (.inr e) hk'
          rw [at_bang hjl, at_bang (show j - 1 < l.length by omega), hx] at he
          exact ih (j - 1) (by omega) (j - 1) rfl (by rw [List.getElem?_eq_getElem (by omega), ← he])
    exact key j j rfl hj
/-- the numbers below n that stand in a list -/
def preL (to : List Int) (n : Nat) : List Int := ((List.range n).filter (fun (j : Nat) => decide ((j : Int) ∈ to))).map (fun (j : Nat) => (j : Int))
theorem preL_succ (to : List Int) (n : Nat) : preL to (n + 1) = if (n : Int) ∈ to then preL to n ++ [(n : Int)] else preL to n := by
  unfold preL
  rw [List.range_succ, List.filter_append, List.map_append]
  by_cases h : (n : Int) ∈ to
  · rw [if_pos h]; simp [h]
  · rw [if_neg h]; simp [h]
theorem preL_mem {to : List Int} {n : Nat} {x : Int} : x ∈ preL to n ↔ ∃ j : Nat, x = (j : Int) ∧ j < n ∧ (j : Int) ∈ to := by
  unfold preL
  constructor
  · intro h
    obtain ⟨j, hj, rfl⟩ := List.mem_map.1 h
    obtain ⟨h1, h2⟩ := List.mem_filter.1 hj
    exact ⟨j, rfl, List.mem_range.1 h1, of_decide_eq_true h2⟩
  · rintro ⟨j, rfl, h1, h2⟩
    exact List.mem_map.2 ⟨j, List.mem_filter.2 ⟨List.mem_range.2 h1, decide_eq_true h2⟩, rfl⟩
theorem preL_strict (to : List Int) (n : Nat) : (preL to n).Pairwise (· < ·) := by
  unfold preL
  exact List.Pairwise.map _ (fun a b (h : a < b) => (by omega : (a : Int) < (b : Int))) (List.pairwise_lt_range.filter _)
theorem preL_nodup (to : List Int) (n : Nat) : (preL to n).Nodup := (preL_strict to n).imp (fun h => by omega)
theorem preL_le (to : List Int) (n : Nat) : (preL to n).length ≤ to.length := nodup_le (preL_nodup to n) (fun x hx => by obtain ⟨j, rfl, _, h⟩ := preL_mem.1 hx; exact h)
/-- all found: nothing comes any more -/
theorem preL_full {to : List Int} {n : Nat} (h : (preL to n).length = to.length) : ∀ m, n ≤ m → preL to m = preL to n := by
  intro m hm
  induction m with
  | zero => rw [show n = 0 by omega]
  | succ m ih =>
    rcases Nat.lt_or_ge m n with q | q
    · rw [show m + 1 = n by omega]
    · have := ih q
      rw [preL_succ]
      by_cases hx : (m : Int) ∈ to
      · have h1 := preL_le to (m + 1)
        rw [preL_succ, if_pos hx, List.length_append, List.length_singleton, this] at h1
        omega
      · rw [if_neg hx]; exact this
theorem comp_sort {to : List Int} (h : ∀ x ∈ to, 0 ≤ x ∧ x < 65536) : compI (sortI to) = preL to 65536 := by
  have hs : (sortI to).Pairwise (· ≤ ·) := by
    have := List.pairwise_mergeSort (le := fun x y : Int => decide (x ≤ y)) (fun a b c h1 h2 => by simp at h1 h2 ⊢; omega) (fun a b => by simp; omega) to
    exact this.imp (fun h => by simpa using h)
  refine strict_eq (comp_strict hs) (preL_strict _ _) (fun x => ?_)
  rw [comp_mem, preL_mem]
  unfold sortI
  rw [List.mem_mergeSort]
  constructor
  · intro hx
    obtain ⟨h0, h1⟩ := h x hx
    exact ⟨x.toNat, by omega, by omega, by rw [Int.toNat_of_nonneg h0]; exact hx⟩
  · rintro ⟨j, rfl, _, hj⟩
    exact hj
-- the reference's look through all numbers
theorem index_lp (l : List Int) (x : Int) (hl : l.length ≤ 100000) : ∃ r : Unit ⊕ (Int × Unit), Gp.Lp (fun k => Index137.l0 k l x) 0 r ∧ (match r with | .inl _ => x ∉ l | .inr v => x ∈ l ∧ 0 ≤ v.1) := by
  have key : ∀ (suf pre : List Int), l = pre ++ suf → x ∉ pre → ∃ r : Unit ⊕ (Int × Unit), Gp.Lp (fun k => Index137.l0 k l x) (pre.length : Int) r ∧ (match r with | .inl _ => x ∉ l | .inr v => x ∈ l ∧ 0 ≤ v.1) := by
    intro suf
    induction suf with
    | nil =>
      intro pre h hx
      rw [List.append_nil] at h
      subst h
      refine ⟨.inl (), .done ?_, hx⟩
      simp only [Index137.l0]
      exact .no (by simp) (.now _)
    | cons y suf ih =>
      intro pre h hx
      have hy : l[pre.length]? = some y := by rw [h]; simp
      have hi := get_lt hy
      by_cases hxy : x = y
      · refine ⟨.inr ((pre.length : Int), ()), .done ?_, by rw [h, hxy]; simp, by show (0 : Int) ≤ (pre.length : Int); omega⟩
        simp only [Index137.l0]
        exact .yes (decide_eq_true (by omega)) (.val (rd_some' hy) (.yes (by rw [hxy]; simp) (.now _)))
      · obtain ⟨r, e, p⟩ := ih (pre ++ [y]) (by rw [h]; simp) (by simp [hx, hxy])
        rw [List.length_append, List.length_singleton] at e
        refine ⟨r, .step ?_ e, p⟩
        simp only [Index137.l0]
        refine .yes (decide_eq_true (by omega)) (.val (rd_some' hy) (.no (beq_false_of_ne hxy) (.now' ?_)))
        rw [w64_succ (by omega)]
  exact key l [] rfl (by simp)
theorem contains_ev (l : List Int) (x : Int) (hl : l.length ≤ 100000) : Ev (fun k => Contains97 k l x) (decide (x ∈ l), ()) := by
  obtain ⟨r, e, p⟩ := index_lp l x hl
  unfold Contains97 Index137
  cases r with
  | inl u =>
    have p : x ∉ l := p
    rw [decide_eq_false p]
    exact .bind (a := (-1, ())) (.joinL (S := Unit) e.ev (.now _)) (.now _)
  | inr v =>
    have p : x ∈ l ∧ 0 ≤ v.1 := p
    rw [decide_eq_true p.1]
    refine .bind (a := v) (.joinR e.ev) (.now' ?_)
    rw [decide_eq_true p.2]
abbrev O3 := Int × Unit × Bool × Bool
theorem look_lp (o1 : O3) (o2 : List Int) (o3 : O3) {to : List Int} (hl : to.length ≤ 1000) : Gp.Lp (fun k => way58.l1 k) ((), (), (), 0, o1, o2, o3, [], to) ((), (), o1, o2, o3, preL to 65536) := by
  have key : ∀ (d n : Nat), n + d = 65536 → Gp.Lp (fun k => way58.l1 k) ((), (), (), (n : Int), o1, o2, o3, preL to n, to) ((), (), o1, o2, o3, preL to 65536) := by
    intro d
    induction d with
    | zero =>
      intro n hn
      have : n = 65536 := by omega
      subst this
      refine .done ?_
      simp only [way58.l1]
      exact .no (by decide) (.now _)
    | succ d ih =>
      intro n hn
      have hw : w64 ((n : Int) + 1) = ((n + 1 : Nat) : Int) := w64_succ (by omega)
      have hle := preL_le to n
      have hb : Ev (fun k => (cond (decide ((n : Int) ∈ to), ()).1
          ((if room (List.length (preL to n) + List.length ([(n : Int)] : List Int)) 8 then some () else none).bind fun _ =>
          some ((), (), (), o1, o2, (o3.1, o3.2.1, o3.2.2), (preL to n ++ ([(n : Int)] : List Int)), to))
          (some ((), (), (), o1, o2, o3, preL to n, to)) : Option (Unit × (Unit × (Unit × (O3 × (List Int × (O3 × (List Int × List Int)))))))) ) ((), (), (), o1, o2, o3, preL to (n + 1), to) := by
        rw [preL_succ]
        by_cases h : (n : Int) ∈ to
        · rw [if_pos h]
          exact .yes (decide_eq_true h) (.val (a := ()) (if_pos (room_ok (by simp only [List.length_cons, List.length_nil]; omega))) (.now _))
        · rw [if_neg h]
          exact .no (decide_eq_false h) (.now _)
      by_cases hf : (preL to (n + 1)).length = to.length
      · have := preL_full hf 65536 (by omega)
        rw [this]
        refine .done ?_
        simp only [way58.l1]
        refine .yes (decide_eq_true (by omega)) (.bind (contains_ev to (n : Int) (by omega)) (.bind hb (.yes ?_ (.now _))))
        show ((List.length (preL to (n + 1)) : Int) == (List.length to : Int)) = true
        rw [hf]; simp
      · refine .step ?_ (ih (n + 1) (by omega))
        simp only [way58.l1]
        refine .yes (decide_eq_true (by omega)) (.bind (contains_ev to (n : Int) (by omega)) (.bind hb (.no ?_ (.now' (by rw [hw])))))
        exact beq_false_of_ne (by show (List.length (preL to (n + 1)) : Int) ≠ (List.length to : Int); omega)
  have := key 65536 0 rfl
  rwa [show preL to 0 = [] from rfl] at this
end Go.Proofs.YtcppmlgnceldmaaGreat.Fl

/- What an instruction leads to: the reference's answer. No program in sight. -/
set_option linter.unusedVariables false
set_option maxRecDepth 100000
noncomputable section
namespace Go.Proofs.YtcppmlgnceldmaaGreat.Fl
open Go Go.Proofs.YtcppmlgnceldmaaGreat.Gp

theorem size_rd {m : Int} (h : 0 ≤ m ∧ m ≤ 8) : rd ([0, 1, 1, 1, 2, 2, 2, 1, 1] : List Int) m = some (sizeV m : Int) := by
  have : m = 0 ∨ m = 1 ∨ m = 2 ∨ m = 3 ∨ m = 4 ∨ m = 5 ∨ m = 6 ∨ m = 7 ∨ m = 8 := by omega
  rcases this with rfl | rfl | rfl | rfl | rfl | rfl | rfl | rfl | rfl <;> rfl
theorem way_r {code : Cod} (hd : OkD code) {x : Ins} (hx : OkI x) {addr : Int} (ha : 0 ≤ addr ∧ addr < 65536) {A : Rg} (hA : Inv A) {r : Vals} (hr : RelR A r) :
    ∃ o, All2 RelW (ends1 code x addr A) o ∧ Ev (fun k => way58 k code x addr r) ((wayA code x addr A, o, ()), ()) := by
  have hs := sizeV_le x.2.2.1
  have hv : ∀ n, pc1 addr = some n → n < 65536 := fun n hn => by unfold pc1 at hn; cases hn; omega
  obtain ⟨b1, hset, e1⟩ := put93_r hr (i := 7) (by decide) hv
  have ep : eR (pc1 addr) = ((addr + 1) % 65536, true) := by unfold pc1; show (((((addr + 1) % 65536).toNat : Nat) : Int), true) = _; rw [Int.toNat_of_nonneg (by omega)]
  rw [ep] at e1
  obtain ⟨o, ho, e2⟩ := ends_r hd hx.cyc (hA.set 7 (pc1 addr)) hset
  obtain ⟨hlen, hall⟩ := ends_ok (code := code) hx.cyc (hA.set 7 (pc1 addr))
  have hbk : backN x addr < 65536 := by unfold backN; omega
  have hback : (addr + (1 + (sizeV x.2.2.1 : Int))) % 65536 = (backN x addr : Int) := by unfold backN; omega
  have hw1 : w64 (addr + 1) = addr + 1 := w64_id (by omega) (by omega)
  have hw2 : w64 (1 + (sizeV x.2.2.1 : Int)) = 1 + (sizeV x.2.2.1 : Int) := w64_id (by omega) (by omega)
  have hw3 : w64 (addr + (1 + (sizeV x.2.2.1 : Int))) = addr + (1 + (sizeV x.2.2.1 : Int)) := w64_id (by omega) (by omega)
  refine ⟨o, ho, ?_⟩
  have hol := ho.len
  show Ev _ (((1 + (sizeV x.2.2.1 : Int), compI (sortI (toL (endsA code x.2.2.2 (setA A 7 (pc1 addr))))), openL (endsA code x.2.2.2 (setA A 7 (pc1 addr))), callL (backN x addr) (endsA code x.2.2.2 (setA A 7 (pc1 addr)))), o, ()), ())
  change All2 RelW (endsA code x.2.2.2 (setA A 7 (pc1 addr))) o at ho
  generalize endsA code x.2.2.2 (setA A 7 (pc1 addr)) = E at ho hol hlen hall
  have htl := toL_len E
  obtain ⟨y, hy, e3⟩ := Lp.countI (body := fun k => way58.l0 k ((((backN x addr : Nat) : Int), true), ()) (o, ())) E.length (fun (y : Lst) i => ((), (), (), i, (0, (), false, false), [], (1 + (sizeV x.2.2.1 : Int), (), y.1, y.2.1), [], y.2.2)) (fun y => ((), (), (), (0, (), false, false), [], (1 + (sizeV x.2.2.1 : Int), (), y.1, y.2.1), [], y.2.2))
    (fun i y => y = (openL (E.take i), callL (backN x addr) (E.take i), toL (E.take i)))
    (fun i y hi hy => by
      have hE : E[i]? = some E[i] := List.getElem?_eq_getElem hi
      obtain ⟨hinv, hpl⟩ := hall _ (get_mem hE)
      generalize E[i] = e at hE hinv hpl
      have hq : o[i]? = some o[i] := List.getElem?_eq_getElem (by rw [ho.len]; exact hi)
      obtain ⟨q1, q2⟩ := ho.at' i e _ hE hq
      have hil : i < o.length := get_lt hq
      generalize o[i] = z at hq q1 q2
      have hpc := getW_r q1 hinv (i := 7) (by decide)
      have htk := toL_len (E.take i)
      rw [List.length_take] at htk
      refine ⟨_, rfl, ?_⟩
      have t1 : openL (E.take (i + 1)) = (openL (E.take i) || (pcA e).isNone) := by
        unfold openL
        rw [List.take_add_one, hE, List.any_append]; simp
      have t2 : callL (backN x addr) (E.take (i + 1)) = (callL (backN x addr) (E.take i) || callE (backN x addr) e.2) := by
        unfold callL
        rw [List.take_add_one, hE, List.any_append]; simp
      have t3 : toL (E.take (i + 1)) = toL (E.take i) ++ pcL (pcA e) := by
        rw [List.take_add_one, hE, Option.toList_some, toL_snoc]
      rw [t1, t2, t3, hy]
      simp only [way58.l0]
      have hw : w64 ((i : Int) + 1) = ((i + 1 : Nat) : Int) := w64_succ (by omega)
      have tail : ∀ (op : Bool) (to : List Int), Ev (fun k => Option.bind (cond (decide ((List.length z.2 : Int) > 1))
            ((rd z.2 (w64 ((List.length z.2 : Int) - 2))).bind fun t74 =>
            (known94 k (quoI .i64 ((backN x addr : Nat) : Int) 256) 8).bind fun t78 =>
            some (xor false (eqB (.st (.pair (.int .i64) .bool)) t74 t78.1)))
            (some false)) fun t80 =>
          Option.bind (cond t80
            ((rd z.2 (w64 ((List.length z.2 : Int) - 1))).bind fun t86 =>
            (known94 k ((backN x addr : Nat) : Int) 8).bind fun t89 =>
            some (xor false (eqB (.st (.pair (.int .i64) .bool)) t86 t89.1)))
            (some false)) fun t79 =>
          Option.bind
            (cond t79
              (some ((), (), (), ((0 : Int), (), false, false), ([] : List Int), (1 + (sizeV x.2.2.1 : Int), (), op, true), ([] : List Int), to))
              (some ((), (), (), (0, (), false, false), [], (1 + (sizeV x.2.2.1 : Int), (), op, callL (backN x addr) (E.take i)), [], to)) : Option (Unit × (Unit × (Unit × (O3 × (List Int × (O3 × (List Int × List Int)))))))) fun ((_, _, _, o1_2, o2_2, o3_2, o4_2, o8_2) : (Unit × (Unit × (Unit × (O3 × (List Int × (O3 × (List Int × List Int)))))))) =>
          (some (Sum.inl ((), (), (), (w64 ((i : Int) + 1)), o1_2, o2_2, o3_2, o4_2, o8_2)) : Option ((Unit × (Unit × (Unit × (Int × (O3 × (List Int × (O3 × (List Int × List Int)))))))) ⊕ (Unit × (Unit × (Unit × (O3 × (List Int × (O3 × (List Int × List Int)))))))))) 
          (.inl ((), (), (), ((i + 1 : Nat) : Int), (0, (), false, false), [], (1 + (sizeV x.2.2.1 : Int), (), op, callL (backN x addr) (E.take i) || callE (backN x addr) e.2), [], to)) := fun op to => by
        refine callR_ev q2 hpl hbk ?_
        rw [hw]
        cases callE (backN x addr) e.2 with
        | true => rw [Bool.or_true]; exact .bind (.yes rfl (.now _)) (.now _)
        | false => rw [Bool.or_false]; exact .bind (.no rfl (.now _)) (.now _)
      refine .yes (decide_eq_true (by show (i : Int) < (o.length : Int); omega)) (.val (rd_some' hq) (.bind hpc ?_))
      cases hp : pcA e with
      | none =>
        have hp' : wholeA e.1 7 = none := hp
        rw [hp']
        refine .bind (a := ((), (), (), (), (0, (), false, false), [], (1 + (sizeV x.2.2.1 : Int), (), true, callL (backN x addr) (E.take i)), [], toL (E.take i), z)) (.no rfl (.now _)) ?_
        have := tail true (toL (E.take i))
        rw [show (openL (E.take i) || (none : Option Nat).isNone) = true by simp, show pcL none = [] from rfl, List.append_nil]
        exact this
      | some n =>
        have hp' : wholeA e.1 7 = some n := hp
        rw [hp']
        refine .bind (a := ((), (), (), (), (0, (), false, false), [], (1 + (sizeV x.2.2.1 : Int), (), openL (E.take i), callL (backN x addr) (E.take i)), [], toL (E.take i) ++ [(n : Int)], z)) (.yes rfl (.val (a := ()) (if_pos (room_ok (by simp only [List.length_cons, List.length_nil]; omega))) (.now _))) ?_
        have := tail (openL (E.take i)) (toL (E.take i) ++ [(n : Int)])
        rw [show (openL (E.take i) || (some n).isNone) = openL (E.take i) by simp]
        exact this)
    (fun y _ => by
      simp only [way58.l0]
      exact .no (decide_eq_false (by show ¬ ((E.length : Nat) : Int) < (o.length : Int); omega)) (.now _)) (b := (false, false, [])) rfl
  rw [List.take_length] at hy
  have hto : ∀ z ∈ toL E, 0 ≤ z ∧ z < 65536 := fun z hz => by
    unfold toL at hz
    obtain ⟨e, he, hz⟩ := List.mem_filterMap.1 hz
    cases hp : pcA e with
    | none => rw [hp] at hz; cases hz
    | some n =>
      rw [hp] at hz
      cases hz
      have := whole_lt (hall e he).1 hp
      show (0 : Int) ≤ (n : Int) ∧ (n : Int) < 65536
      omega
  have e4 := look_lp (0, (), false, false) [] (1 + (sizeV x.2.2.1 : Int), (), openL E, callL (backN x addr) E) (to := toL E) (by omega)
  unfold way58 operands49
  refine .bind (.now _) (.bind (a := (((addr + 1) % 65536, true), ())) ?_ (.bind e1 (.val (size_rd hx.mode) ?_)))
  · rw [hw1]
    exact known_ev (x := addr + 1) (by omega) (bits := 16) (M := 65536) (.inr ⟨rfl, rfl⟩)
  · rw [hw2, hw3]
    refine .bind (a := ((((backN x addr : Nat) : Int), true), ())) ?_ (.bind e2 (.bind e3.ev ?_))
    · have := known_ev (x := addr + (1 + (sizeV x.2.2.1 : Int))) (by omega) (bits := 16) (M := 65536) (.inr ⟨rfl, rfl⟩)
      rw [hback] at this
      exact this
    · rw [hy, comp_sort hto]
      exact .bind e4.ev (.now _)
theorem with_lp {c : Cpu} (hc : Wc c) (op : Int) (o0 : Int × ByteArray × Int × Unit) : ∀ (suf pre : List Ins), c.2.1 = pre ++ suf → Gp.Lp (fun k => with50.l0 k c op) ((), (pre.length : Int), o0) (match suf.find? (fun x => x.1 == op) with | some x => .inr ((x, true, ()), ()) | none => .inl ((), o0)) := by
  have hl := hc.len
  intro suf
  induction suf with
  | nil =>
    intro pre h
    rw [List.append_nil] at h
    refine .done ?_
    simp only [with50.l0]
    exact .no (by rw [h]; simp) (.now _)
  | cons x suf ih =>
    intro pre h
    have hx : c.2.1[pre.length]? = some x := by rw [h]; simp
    have hi := get_lt hx
    cases he : x.1 == op with
    | true =>
      rw [List.find?_cons_of_pos (by exact he)]
      refine .done ?_
      simp only [with50.l0]
      exact .yes (decide_eq_true (by omega)) (.val (rd_some' hx) (.yes he (.now _)))
    | false =>
      rw [List.find?_cons_of_neg (by rw [he]; decide)]
      have := ih (pre ++ [x]) (by rw [h]; simp)
      rw [List.length_append, List.length_singleton] at this
      refine .step ?_ this
      simp only [with50.l0]
      refine .yes (decide_eq_true (by omega)) (.val (rd_some' hx) (.no he (.now' ?_)))
      rw [w64_succ (by omega)]
theorem with_ev {c : Cpu} (hc : Wc c) (op : Int) : Ev (fun k => with50 k c op) (findR c op, ()) := by
  have := with_lp hc op (0, ByteArray.mk #[], 0, ()) c.2.1 [] rfl
  unfold with50 findR findI
  cases h : c.2.1.find? (fun x => x.1 == op) with
  | none =>
    rw [h] at this
    exact .joinL (S := Unit) this.ev (.now _)
  | some x =>
    rw [h] at this
    exact .joinR this.ev
theorem starts_r {c : Cpu} (hc : Wc c) {code : Cod} (hp : OkP c code) (hd : OkD code) {addr : Int} (ha : -9223372036854775808 ≤ addr ∧ addr ≤ 9223372036854775807) : Ev (fun k => starts57 k c code addr) (begunR c code addr, ()) := by
  have hl := hd.len
  have hb := hd.base
  have hw : w64 (code.1 + (code.2.1.length : Int)) = code.1 + (code.2.1.length : Int) := w64_id (by omega) (by omega)
  by_cases hin : code.1 ≤ addr ∧ addr < code.1 + (code.2.1.length : Int)
  · have h1 : atI code addr = some (code.2.1.getD (addr - code.1).toNat 0).toNat := if_pos ⟨by omega, hin.1, hin.2⟩
    have hg : code.2.1[(addr - code.1).toNat]? = some (code.2.1.getD (addr - code.1).toNat 0) := by
      rw [List.getD_eq_getElem?_getD, List.getElem?_eq_getElem (by omega)]; rfl
    have hby := hd.byte _ (get_mem hg)
    generalize code.2.1.getD (addr - code.1).toNat 0 = y at hg hby h1
    have hy : w64 y = y := w64_id (by omega) (by omega)
    have hw2 : w64 (addr - code.1) = addr - code.1 := w64_id (by omega) (by omega)
    have hop : ((y.toNat : Nat) : Int) = y := Int.toNat_of_nonneg hby.1
    have c1 : cond (decide (addr < code.1)) true (decide (addr ≥ (w64 (code.1 + (code.2.1.length : Int))))) = false := by
      rw [hw, decide_eq_false (by omega)]
      exact decide_eq_false (by omega)
    have hf := with_ev hc y
    have hrd : rd code.2.1 (w64 (addr - code.1)) = some y := by rw [hw2]; exact rd_at (i := (addr - code.1).toNat) (by omega) hg
    have e1 : ∀ z : Ins × Bool × Unit, findR c y = z → Ev (fun k => (rd code.2.1 (w64 (addr - code.1))).bind fun t39 => agree
        ((with50 k c (w64 t39)).bind fun t42 => some (code, (), t42.1.1, t42.1.2.1, 0, (ByteArray.mk #[]), 0, ()))
        ((with50 k c (w64 t39)).bind fun t42_1 => (some (code, (), t42_1.1.1, t42_1.1.2.1, 0, (ByteArray.mk #[]), 0, ()) : Option (Cod × (Unit × (Ins × (Bool × (Int × (ByteArray × (Int × Unit))))))))))
        (code, (), z.1, z.2.1, 0, ByteArray.mk #[], 0, ()) := fun z hz => by
      rw [hz] at hf
      refine .val hrd ?_
      rw [hy]
      exact Ev.agr (.bind hf (.now _)) (.bind hf (.now _))
    unfold starts57 operands49
    cases h2 : findI c y with
    | none =>
      have eB : begunR c code addr = (none4, 4, ()) := by unfold begunR; rw [h1]; simp only [hop, h2]
      have eF : findR c y = (none4, false, ()) := by unfold findR; rw [h2]
      rw [eB]
      exact .bind (.now _) (.no c1 (.bind (e1 _ eF) (.yes rfl (.now _))))
    | some x =>
      have eF : findR c y = (x, true, ()) := by unfold findR; rw [h2]
      have hx := hp.ins x (findI_mem h2)
      have hs := sizeV_le x.2.2.1
      have hw3 : w64 (addr + (sizeV x.2.2.1 : Int)) = addr + (sizeV x.2.2.1 : Int) := w64_id (by omega) (by omega)
      refine .bind (.now _) (.no c1 (.bind (e1 _ eF) (.no rfl (.val (size_rd hx.mode) ?_))))
      rw [hw3, hw]
      by_cases h3 : addr + (sizeV x.2.2.1 : Int) ≥ code.1 + (code.2.1.length : Int)
      · have e3 : atI code (addr + (sizeV x.2.2.1 : Int)) = none := if_neg (fun h => by omega)
        have eB : begunR c code addr = (none4, 13, ()) := by unfold begunR; rw [h1]; simp only [hop, h2]; rw [e3]
        rw [eB]
        exact .yes (decide_eq_true h3) (.now _)
      · have e3 : ∃ n, atI code (addr + (sizeV x.2.2.1 : Int)) = some n := ⟨_, if_pos ⟨by omega, by omega, by omega⟩⟩
        obtain ⟨n, e3⟩ := e3
        have eB : begunR c code addr = (x, 0, ()) := by unfold begunR; rw [h1]; simp only [hop, h2]; rw [e3]
        rw [eB]
        exact .no (decide_eq_false h3) (.now _)
  · have h1 : atI code addr = none := if_neg (fun h => hin ⟨h.2.1, h.2.2⟩)
    have eB : begunR c code addr = (none4, 19, ()) := by unfold begunR; rw [h1]
    rw [eB]
    unfold starts57 operands49
    refine .bind (.now _) (.yes ?_ (.now _))
    rw [hw]
    by_cases h2 : addr < code.1
    · rw [decide_eq_true h2]; rfl
    · rw [decide_eq_false h2]
      exact decide_eq_true (by omega)
def bank0 : Vals := [(0, false), (0, false), (0, false), (0, false), (0, false), (0, false), (0, false), (0, false), (0, false), (0, false), (0, false), (0, false), (0, false), (0, false), (0, false), (0, false), (0, false), (0, false)]
theorem bank0_rel : RelR A0 bank0 := by
  have key : ∀ j, j < 18 → bank0[j]? = some (0, false) := fun j hj => by
    have : j = 0 ∨ j = 1 ∨ j = 2 ∨ j = 3 ∨ j = 4 ∨ j = 5 ∨ j = 6 ∨ j = 7 ∨ j = 8 ∨ j = 9 ∨ j = 10 ∨ j = 11 ∨ j = 12 ∨ j = 13 ∨ j = 14 ∨ j = 15 ∨ j = 16 ∨ j = 17 := by omega
    rcases this with rfl | rfl | rfl | rfl | rfl | rfl | rfl | rfl | rfl | rfl | rfl | rfl | rfl | rfl | rfl | rfl | rfl | rfl <;> rfl
  exact ⟨rfl, fun i hi => key _ (by omega), fun i hi _ => key _ (by omega)⟩
theorem nextW_r {c : Cpu} (hc : Wc c) {code : Cod} (hp : OkP c code) (hd : OkD code) {addr : Int} (ha : -9223372036854775808 ≤ addr ∧ addr ≤ 9223372036854775807) : Ev (fun k => NextWay21 k c code addr) (nextR c code addr, ()) := by
  have hb := starts_r hc hp hd ha
  have hbo := begun_ok hp hd (addr := addr)
  unfold NextWay21 nextR
  refine .bind hb ?_
  generalize begunR c code addr = b at hbo
  by_cases h : b.2.1 ≠ 0
  · rw [if_pos h]
    exact .yes (bne_iff_ne.2 h) (.now _)
  · rw [if_neg h]
    have h : b.2.1 = 0 := by omega
    obtain ⟨hx, h1⟩ := hbo h
    obtain ⟨o, ho, el⟩ := way_r hd hx h1 inv0 bank0_rel
    exact .no (by rw [h]; rfl) (.bind el (.now _))
end Go.Proofs.YtcppmlgnceldmaaGreat.Fl

/- More fuel, no other answer: the functions. Printed by mono.py. -/
set_option linter.unusedVariables false
set_option maxRecDepth 100000
noncomputable section
namespace Go.Proofs.YtcppmlgnceldmaaGreat.Fl
open Go Go.Proofs.YtcppmlgnceldmaaGreat.Gp
theorem Name32.l0.mono : ∀ a0_, ∀ s, Mono (fun k => Name32.l0 k a0_ s) := by
  intro a0_
  unfold Name32.l0
  repeat' (first | exact Mono.const _ | with_reducible refine Mono.cond ?_ ?_ | with_reducible refine Mono.orNil ?_ ?_ | with_reducible refine Mono.agree ?_ ?_ | with_reducible refine Mono.joined ?_ ?_ | with_reducible refine Mono.bind ?_ ?_ | with_reducible refine Mono.loop ?_ | with_reducible refine Mono.prod ?_ | intro _ | (dsimp only))

theorem Name32.mono : ∀ a0_, Mono (fun k => Name32 k a0_) := by
  intro a0_
  unfold Name32
  repeat' (first | exact Mono.const _ | with_reducible exact Name32.l0.mono _ | with_reducible refine Mono.cond ?_ ?_ | with_reducible refine Mono.orNil ?_ ?_ | with_reducible refine Mono.agree ?_ ?_ | with_reducible refine Mono.joined ?_ ?_ | with_reducible refine Mono.bind ?_ ?_ | with_reducible refine Mono.loop ?_ | with_reducible refine Mono.prod ?_ | intro _ | (dsimp only))

theorem Size33.mono : ∀ a0_, Mono (fun k => Size33 k a0_) := by
  intro a0_
  unfold Size33
  repeat' (first | exact Mono.const _ | with_reducible refine Mono.cond ?_ ?_ | with_reducible refine Mono.orNil ?_ ?_ | with_reducible refine Mono.agree ?_ ?_ | with_reducible refine Mono.joined ?_ ?_ | with_reducible refine Mono.bind ?_ ?_ | with_reducible refine Mono.loop ?_ | with_reducible refine Mono.prod ?_ | intro _ | (dsimp only))

theorem Check135.mono : ∀ a0_ a1_, Mono (fun k => Check135 k a0_ a1_) := by
  intro a0_ a1_
  unfold Check135
  repeat' (first | exact Mono.const _ | with_reducible refine Mono.cond ?_ ?_ | with_reducible refine Mono.orNil ?_ ?_ | with_reducible refine Mono.agree ?_ ?_ | with_reducible refine Mono.joined ?_ ?_ | with_reducible refine Mono.bind ?_ ?_ | with_reducible refine Mono.loop ?_ | with_reducible refine Mono.prod ?_ | intro _ | (dsimp only))

theorem IndexFunc42.l0.mono : ∀ a0_, ∀ s, Mono (fun k => IndexFunc42.l0 k a0_ s) := by
  intro a0_
  unfold IndexFunc42.l0
  repeat' (first | exact Mono.const _ | with_reducible exact Check135.mono _ _ | with_reducible refine Mono.cond ?_ ?_ | with_reducible refine Mono.orNil ?_ ?_ | with_reducible refine Mono.agree ?_ ?_ | with_reducible refine Mono.joined ?_ ?_ | with_reducible refine Mono.bind ?_ ?_ | with_reducible refine Mono.loop ?_ | with_reducible refine Mono.prod ?_ | intro _ | (dsimp only))

theorem IndexFunc42.mono : ∀ a0_ a1_, Mono (fun k => IndexFunc42 k a0_ a1_) := by
  intro a0_ a1_
  unfold IndexFunc42
  repeat' (first | exact Mono.const _ | with_reducible exact IndexFunc42.l0.mono _ | with_reducible refine Mono.cond ?_ ?_ | with_reducible refine Mono.orNil ?_ ?_ | with_reducible refine Mono.agree ?_ ?_ | with_reducible refine Mono.joined ?_ ?_ | with_reducible refine Mono.bind ?_ ?_ | with_reducible refine Mono.loop ?_ | with_reducible refine Mono.prod ?_ | intro _ | (dsimp only))

theorem ContainsFunc34.mono : ∀ a0_ a1_, Mono (fun k => ContainsFunc34 k a0_ a1_) := by
  intro a0_ a1_
  unfold ContainsFunc34
  repeat' (first | exact Mono.const _ | with_reducible exact IndexFunc42.mono _ _ | with_reducible refine Mono.cond ?_ ?_ | with_reducible refine Mono.orNil ?_ ?_ | with_reducible refine Mono.agree ?_ ?_ | with_reducible refine Mono.joined ?_ ?_ | with_reducible refine Mono.bind ?_ ?_ | with_reducible refine Mono.loop ?_ | with_reducible refine Mono.prod ?_ | intro _ | (dsimp only))

theorem register101.mono : ∀ a0_, Mono (fun k => register101 k a0_) := by
  intro a0_
  unfold register101
  repeat' (first | exact Mono.const _ | with_reducible refine Mono.cond ?_ ?_ | with_reducible refine Mono.orNil ?_ ?_ | with_reducible refine Mono.agree ?_ ?_ | with_reducible refine Mono.joined ?_ ?_ | with_reducible refine Mono.bind ?_ ?_ | with_reducible refine Mono.loop ?_ | with_reducible refine Mono.prod ?_ | intro _ | (dsimp only))

theorem Wide102.mono : ∀ a0_, Mono (fun k => Wide102 k a0_) := by
  intro a0_
  unfold Wide102
  repeat' (first | exact Mono.const _ | with_reducible refine Mono.cond ?_ ?_ | with_reducible refine Mono.orNil ?_ ?_ | with_reducible refine Mono.agree ?_ ?_ | with_reducible refine Mono.joined ?_ ?_ | with_reducible refine Mono.bind ?_ ?_ | with_reducible refine Mono.loop ?_ | with_reducible refine Mono.prod ?_ | intro _ | (dsimp only))

theorem uses138.mono : ∀ a0_, Mono (fun k => uses138 k a0_) := by
  intro a0_
  unfold uses138
  repeat' (first | exact Mono.const _ | with_reducible refine Mono.cond ?_ ?_ | with_reducible refine Mono.orNil ?_ ?_ | with_reducible refine Mono.agree ?_ ?_ | with_reducible refine Mono.joined ?_ ?_ | with_reducible refine Mono.bind ?_ ?_ | with_reducible refine Mono.loop ?_ | with_reducible refine Mono.prod ?_ | intro _ | (dsimp only))

theorem fits139.mono : ∀ a0_ a1_, Mono (fun k => fits139 k a0_ a1_) := by
  intro a0_ a1_
  unfold fits139
  repeat' (first | exact Mono.const _ | with_reducible exact register101.mono _ | with_reducible exact Wide102.mono _ | with_reducible refine Mono.cond ?_ ?_ | with_reducible refine Mono.orNil ?_ ?_ | with_reducible refine Mono.agree ?_ ?_ | with_reducible refine Mono.joined ?_ ?_ | with_reducible refine Mono.bind ?_ ?_ | with_reducible refine Mono.loop ?_ | with_reducible refine Mono.prod ?_ | intro _ | (dsimp only))

theorem step103.mono : ∀ a0_, Mono (fun k => step103 k a0_) := by
  intro a0_
  unfold step103
  repeat' (first | exact Mono.const _ | with_reducible exact register101.mono _ | with_reducible exact Wide102.mono _ | with_reducible exact uses138.mono _ | with_reducible exact fits139.mono _ _ | with_reducible refine Mono.cond ?_ ?_ | with_reducible refine Mono.orNil ?_ ?_ | with_reducible refine Mono.agree ?_ ?_ | with_reducible refine Mono.joined ?_ ?_ | with_reducible refine Mono.bind ?_ ?_ | with_reducible refine Mono.loop ?_ | with_reducible refine Mono.prod ?_ | intro _ | (dsimp only))

theorem cycle73.l0.mono : ∀ a0_, ∀ s, Mono (fun k => cycle73.l0 k a0_ s) := by
  intro a0_
  unfold cycle73.l0
  repeat' (first | exact Mono.const _ | with_reducible exact step103.mono _ | with_reducible refine Mono.cond ?_ ?_ | with_reducible refine Mono.orNil ?_ ?_ | with_reducible refine Mono.agree ?_ ?_ | with_reducible refine Mono.joined ?_ ?_ | with_reducible refine Mono.bind ?_ ?_ | with_reducible refine Mono.loop ?_ | with_reducible refine Mono.prod ?_ | intro _ | (dsimp only))

theorem cycle73.mono : ∀ a0_, Mono (fun k => cycle73 k a0_) := by
  intro a0_
  unfold cycle73
  repeat' (first | exact Mono.const _ | with_reducible exact register101.mono _ | with_reducible exact Wide102.mono _ | with_reducible exact cycle73.l0.mono _ | with_reducible refine Mono.cond ?_ ?_ | with_reducible refine Mono.orNil ?_ ?_ | with_reducible refine Mono.agree ?_ ?_ | with_reducible refine Mono.joined ?_ ?_ | with_reducible refine Mono.bind ?_ ?_ | with_reducible refine Mono.loop ?_ | with_reducible refine Mono.prod ?_ | intro _ | (dsimp only))

theorem cycles36.l0.mono : ∀ a0_, ∀ s, Mono (fun k => cycles36.l0 k a0_ s) := by
  intro a0_
  unfold cycles36.l0
  repeat' (first | exact Mono.const _ | with_reducible exact cycle73.mono _ | with_reducible refine Mono.cond ?_ ?_ | with_reducible refine Mono.orNil ?_ ?_ | with_reducible refine Mono.agree ?_ ?_ | with_reducible refine Mono.joined ?_ ?_ | with_reducible refine Mono.bind ?_ ?_ | with_reducible refine Mono.loop ?_ | with_reducible refine Mono.prod ?_ | intro _ | (dsimp only))

theorem cycles36.mono : ∀ a0_, Mono (fun k => cycles36 k a0_) := by
  intro a0_
  unfold cycles36
  repeat' (first | exact Mono.const _ | with_reducible exact cycles36.l0.mono _ | with_reducible refine Mono.cond ?_ ?_ | with_reducible refine Mono.orNil ?_ ?_ | with_reducible refine Mono.agree ?_ ?_ | with_reducible refine Mono.joined ?_ ?_ | with_reducible refine Mono.bind ?_ ?_ | with_reducible refine Mono.loop ?_ | with_reducible refine Mono.prod ?_ | intro _ | (dsimp only))

theorem operand37.l0.mono : ∀ a0_, ∀ s, Mono (fun k => operand37.l0 k a0_ s) := by
  intro a0_
  unfold operand37.l0
  repeat' (first | exact Mono.const _ | with_reducible refine Mono.cond ?_ ?_ | with_reducible refine Mono.orNil ?_ ?_ | with_reducible refine Mono.agree ?_ ?_ | with_reducible refine Mono.joined ?_ ?_ | with_reducible refine Mono.bind ?_ ?_ | with_reducible refine Mono.loop ?_ | with_reducible refine Mono.prod ?_ | intro _ | (dsimp only))

theorem operand37.mono : ∀ a0_, Mono (fun k => operand37 k a0_) := by
  intro a0_
  unfold operand37
  repeat' (first | exact Mono.const _ | with_reducible exact operand37.l0.mono _ | with_reducible refine Mono.cond ?_ ?_ | with_reducible refine Mono.orNil ?_ ?_ | with_reducible refine Mono.agree ?_ ?_ | with_reducible refine Mono.joined ?_ ?_ | with_reducible refine Mono.bind ?_ ?_ | with_reducible refine Mono.loop ?_ | with_reducible refine Mono.prod ?_ | intro _ | (dsimp only))

theorem Check8.l0.mono : ∀ a0_, ∀ s, Mono (fun k => Check8.l0 k a0_ s) := by
  intro a0_
  unfold Check8.l0
  repeat' (first | exact Mono.const _ | with_reducible exact Name32.mono _ | with_reducible exact Size33.mono _ | with_reducible exact ContainsFunc34.mono _ _ | with_reducible exact cycles36.mono _ | with_reducible exact operand37.mono _ | with_reducible refine Mono.cond ?_ ?_ | with_reducible refine Mono.orNil ?_ ?_ | with_reducible refine Mono.agree ?_ ?_ | with_reducible refine Mono.joined ?_ ?_ | with_reducible refine Mono.bind ?_ ?_ | with_reducible refine Mono.loop ?_ | with_reducible refine Mono.prod ?_ | intro _ | (dsimp only))

theorem Check8.l1.mono : ∀ a0_, ∀ s, Mono (fun k => Check8.l1 k a0_ s) := by
  intro a0_
  unfold Check8.l1
  repeat' (first | exact Mono.const _ | with_reducible exact cycles36.mono _ | with_reducible refine Mono.cond ?_ ?_ | with_reducible refine Mono.orNil ?_ ?_ | with_reducible refine Mono.agree ?_ ?_ | with_reducible refine Mono.joined ?_ ?_ | with_reducible refine Mono.bind ?_ ?_ | with_reducible refine Mono.loop ?_ | with_reducible refine Mono.prod ?_ | intro _ | (dsimp only))

theorem Check8.mono : ∀ a0_, Mono (fun k => Check8 k a0_) := by
  intro a0_
  unfold Check8
  repeat' (first | exact Mono.const _ | with_reducible exact Name32.mono _ | with_reducible exact Check8.l0.mono _ | with_reducible exact Check8.l1.mono _ | with_reducible refine Mono.cond ?_ ?_ | with_reducible refine Mono.orNil ?_ ?_ | with_reducible refine Mono.agree ?_ ?_ | with_reducible refine Mono.joined ?_ ?_ | with_reducible refine Mono.bind ?_ ?_ | with_reducible refine Mono.loop ?_ | with_reducible refine Mono.prod ?_ | intro _ | (dsimp only))

theorem FlowFault17.mono : ∀ a0_ a1_, Mono (fun k => FlowFault17 k a0_ a1_) := by
  intro a0_ a1_
  unfold FlowFault17
  repeat' (first | exact Mono.const _ | with_reducible exact Check8.mono _ | with_reducible refine Mono.cond ?_ ?_ | with_reducible refine Mono.orNil ?_ ?_ | with_reducible refine Mono.agree ?_ ?_ | with_reducible refine Mono.joined ?_ ?_ | with_reducible refine Mono.bind ?_ ?_ | with_reducible refine Mono.loop ?_ | with_reducible refine Mono.prod ?_ | intro _ | (dsimp only))

theorem two118.mono : ∀ a0_ a1_ a2_, Mono (fun k => two118 k a0_ a1_ a2_) := by
  intro a0_ a1_ a2_
  unfold two118
  repeat' (first | exact Mono.const _ | with_reducible refine Mono.cond ?_ ?_ | with_reducible refine Mono.orNil ?_ ?_ | with_reducible refine Mono.agree ?_ ?_ | with_reducible refine Mono.joined ?_ ?_ | with_reducible refine Mono.bind ?_ ?_ | with_reducible refine Mono.loop ?_ | with_reducible refine Mono.prod ?_ | intro _ | (dsimp only))

theorem one119.mono : ∀ a0_ a1_, Mono (fun k => one119 k a0_ a1_) := by
  intro a0_ a1_
  unfold one119
  repeat' (first | exact Mono.const _ | with_reducible refine Mono.cond ?_ ?_ | with_reducible refine Mono.orNil ?_ ?_ | with_reducible refine Mono.agree ?_ ?_ | with_reducible refine Mono.joined ?_ ?_ | with_reducible refine Mono.bind ?_ ?_ | with_reducible refine Mono.loop ?_ | with_reducible refine Mono.prod ?_ | intro _ | (dsimp only))

theorem zero178.mono : Mono (fun k => zero178 k) := by
  unfold zero178
  repeat' (first | exact Mono.const _ | with_reducible refine Mono.cond ?_ ?_ | with_reducible refine Mono.orNil ?_ ?_ | with_reducible refine Mono.agree ?_ ?_ | with_reducible refine Mono.joined ?_ ?_ | with_reducible refine Mono.bind ?_ ?_ | with_reducible refine Mono.loop ?_ | with_reducible refine Mono.prod ?_ | intro _ | (dsimp only))

theorem rd81.mono : ∀ a0_ a1_ a2_ a3_, Mono (fun k => rd81 k a0_ a1_ a2_ a3_) := by
  intro a0_ a1_ a2_ a3_
  unfold rd81
  repeat' (first | exact Mono.const _ | with_reducible refine Mono.cond ?_ ?_ | with_reducible refine Mono.orNil ?_ ?_ | with_reducible refine Mono.agree ?_ ?_ | with_reducible refine Mono.joined ?_ ?_ | with_reducible refine Mono.bind ?_ ?_ | with_reducible refine Mono.loop ?_ | with_reducible refine Mono.prod ?_ | intro _ | (dsimp only))

theorem no117.mono : ∀ a0_, Mono (fun k => no117 k a0_) := by
  intro a0_
  unfold no117
  repeat' (first | exact Mono.const _ | with_reducible refine Mono.cond ?_ ?_ | with_reducible refine Mono.orNil ?_ ?_ | with_reducible refine Mono.agree ?_ ?_ | with_reducible refine Mono.joined ?_ ?_ | with_reducible refine Mono.bind ?_ ?_ | with_reducible refine Mono.loop ?_ | with_reducible refine Mono.prod ?_ | intro _ | (dsimp only))

theorem rd81'.mono : ∀ a0_ a1_ a2_, Mono (fun k => rd81' k a0_ a1_ a2_) := by
  intro a0_ a1_ a2_
  unfold rd81'
  repeat' (first | exact Mono.const _ | with_reducible refine Mono.cond ?_ ?_ | with_reducible refine Mono.orNil ?_ ?_ | with_reducible refine Mono.agree ?_ ?_ | with_reducible refine Mono.joined ?_ ?_ | with_reducible refine Mono.bind ?_ ?_ | with_reducible refine Mono.loop ?_ | with_reducible refine Mono.prod ?_ | intro _ | (dsimp only))

theorem jump82.mono : ∀ a0_, Mono (fun k => jump82 k a0_) := by
  intro a0_
  unfold jump82
  repeat' (first | exact Mono.const _ | with_reducible exact two118.mono _ _ _ | with_reducible refine Mono.cond ?_ ?_ | with_reducible refine Mono.orNil ?_ ?_ | with_reducible refine Mono.agree ?_ ?_ | with_reducible refine Mono.joined ?_ ?_ | with_reducible refine Mono.bind ?_ ?_ | with_reducible refine Mono.loop ?_ | with_reducible refine Mono.prod ?_ | intro _ | (dsimp only))

theorem lead150.mono : ∀ a0_, Mono (fun k => lead150 k a0_) := by
  intro a0_
  unfold lead150
  repeat' (first | exact Mono.const _ | with_reducible exact two118.mono _ _ _ | with_reducible exact zero178.mono | with_reducible exact rd81.mono _ _ _ _ | with_reducible exact no117.mono _ | with_reducible exact rd81'.mono _ _ _ | with_reducible exact jump82.mono _ | with_reducible refine Mono.cond ?_ ?_ | with_reducible refine Mono.orNil ?_ ?_ | with_reducible refine Mono.agree ?_ ?_ | with_reducible refine Mono.joined ?_ ?_ | with_reducible refine Mono.bind ?_ ?_ | with_reducible refine Mono.loop ?_ | with_reducible refine Mono.prod ?_ | intro _ | (dsimp only))

theorem rd81''.mono : ∀ a0_ a1_ a2_, Mono (fun k => rd81'' k a0_ a1_ a2_) := by
  intro a0_ a1_ a2_
  unfold rd81''
  repeat' (first | exact Mono.const _ | with_reducible refine Mono.cond ?_ ?_ | with_reducible refine Mono.orNil ?_ ?_ | with_reducible refine Mono.agree ?_ ?_ | with_reducible refine Mono.joined ?_ ?_ | with_reducible refine Mono.bind ?_ ?_ | with_reducible refine Mono.loop ?_ | with_reducible refine Mono.prod ?_ | intro _ | (dsimp only))

theorem reads149.mono : ∀ a0_ a1_, Mono (fun k => reads149 k a0_ a1_) := by
  intro a0_ a1_
  unfold reads149
  repeat' (first | exact Mono.const _ | with_reducible exact lead150.mono _ | with_reducible exact rd81''.mono _ _ _ | with_reducible refine Mono.cond ?_ ?_ | with_reducible refine Mono.orNil ?_ ?_ | with_reducible refine Mono.agree ?_ ?_ | with_reducible refine Mono.joined ?_ ?_ | with_reducible refine Mono.bind ?_ ?_ | with_reducible refine Mono.loop ?_ | with_reducible refine Mono.prod ?_ | intro _ | (dsimp only))

theorem add116.mono : ∀ a0_ a1_ a2_ a3_ a4_ a5_, Mono (fun k => add116 k a0_ a1_ a2_ a3_ a4_ a5_) := by
  intro a0_ a1_ a2_ a3_ a4_ a5_
  unfold add116
  repeat' (first | exact Mono.const _ | with_reducible refine Mono.cond ?_ ?_ | with_reducible refine Mono.orNil ?_ ?_ | with_reducible refine Mono.agree ?_ ?_ | with_reducible refine Mono.joined ?_ ?_ | with_reducible refine Mono.bind ?_ ?_ | with_reducible refine Mono.loop ?_ | with_reducible refine Mono.prod ?_ | intro _ | (dsimp only))

theorem loads112.l0.mono : ∀ a0_ a1_ a2_, ∀ s, Mono (fun k => loads112.l0 k a0_ a1_ a2_ s) := by
  intro a0_ a1_ a2_
  unfold loads112.l0
  repeat' (first | exact Mono.const _ | with_reducible exact two118.mono _ _ _ | with_reducible exact one119.mono _ _ | with_reducible exact reads149.mono _ _ | with_reducible exact add116.mono _ _ _ _ _ _ | with_reducible refine Mono.cond ?_ ?_ | with_reducible refine Mono.orNil ?_ ?_ | with_reducible refine Mono.agree ?_ ?_ | with_reducible refine Mono.joined ?_ ?_ | with_reducible refine Mono.bind ?_ ?_ | with_reducible refine Mono.loop ?_ | with_reducible refine Mono.prod ?_ | intro _ | (dsimp only))

theorem loads112.mono : ∀ a0_ a1_ a2_ a3_ a4_ a5_, Mono (fun k => loads112 k a0_ a1_ a2_ a3_ a4_ a5_) := by
  intro a0_ a1_ a2_ a3_ a4_ a5_
  unfold loads112
  repeat' (first | exact Mono.const _ | with_reducible exact loads112.l0.mono _ _ _ | with_reducible refine Mono.cond ?_ ?_ | with_reducible refine Mono.orNil ?_ ?_ | with_reducible refine Mono.agree ?_ ?_ | with_reducible refine Mono.joined ?_ ?_ | with_reducible refine Mono.bind ?_ ?_ | with_reducible refine Mono.loop ?_ | with_reducible refine Mono.prod ?_ | intro _ | (dsimp only))

theorem wr120.mono : ∀ a0_ a1_ a2_, Mono (fun k => wr120 k a0_ a1_ a2_) := by
  intro a0_ a1_ a2_
  unfold wr120
  repeat' (first | exact Mono.const _ | with_reducible refine Mono.cond ?_ ?_ | with_reducible refine Mono.orNil ?_ ?_ | with_reducible refine Mono.agree ?_ ?_ | with_reducible refine Mono.joined ?_ ?_ | with_reducible refine Mono.bind ?_ ?_ | with_reducible refine Mono.loop ?_ | with_reducible refine Mono.prod ?_ | intro _ | (dsimp only))

theorem stores113.l0.mono : ∀ a0_ a1_ a2_, ∀ s, Mono (fun k => stores113.l0 k a0_ a1_ a2_ s) := by
  intro a0_ a1_ a2_
  unfold stores113.l0
  repeat' (first | exact Mono.const _ | with_reducible exact lead150.mono _ | with_reducible exact add116.mono _ _ _ _ _ _ | with_reducible exact wr120.mono _ _ _ | with_reducible refine Mono.cond ?_ ?_ | with_reducible refine Mono.orNil ?_ ?_ | with_reducible refine Mono.agree ?_ ?_ | with_reducible refine Mono.joined ?_ ?_ | with_reducible refine Mono.bind ?_ ?_ | with_reducible refine Mono.loop ?_ | with_reducible refine Mono.prod ?_ | intro _ | (dsimp only))

theorem stores113.mono : ∀ a0_ a1_ a2_ a3_ a4_ a5_, Mono (fun k => stores113 k a0_ a1_ a2_ a3_ a4_ a5_) := by
  intro a0_ a1_ a2_ a3_ a4_ a5_
  unfold stores113
  repeat' (first | exact Mono.const _ | with_reducible exact stores113.l0.mono _ _ _ | with_reducible refine Mono.cond ?_ ?_ | with_reducible refine Mono.orNil ?_ ?_ | with_reducible refine Mono.agree ?_ ?_ | with_reducible refine Mono.joined ?_ ?_ | with_reducible refine Mono.bind ?_ ?_ | with_reducible refine Mono.loop ?_ | with_reducible refine Mono.prod ?_ | intro _ | (dsimp only))

theorem joins114.l0.mono : ∀ a0_ a1_ a2_ a3_, ∀ s, Mono (fun k => joins114.l0 k a0_ a1_ a2_ a3_ s) := by
  intro a0_ a1_ a2_ a3_
  unfold joins114.l0
  repeat' (first | exact Mono.const _ | with_reducible exact two118.mono _ _ _ | with_reducible exact reads149.mono _ _ | with_reducible exact add116.mono _ _ _ _ _ _ | with_reducible refine Mono.cond ?_ ?_ | with_reducible refine Mono.orNil ?_ ?_ | with_reducible refine Mono.agree ?_ ?_ | with_reducible refine Mono.joined ?_ ?_ | with_reducible refine Mono.bind ?_ ?_ | with_reducible refine Mono.loop ?_ | with_reducible refine Mono.prod ?_ | intro _ | (dsimp only))

theorem joins114.mono : ∀ a0_ a1_ a2_ a3_ a4_ a5_ a6_, Mono (fun k => joins114 k a0_ a1_ a2_ a3_ a4_ a5_ a6_) := by
  intro a0_ a1_ a2_ a3_ a4_ a5_ a6_
  unfold joins114
  repeat' (first | exact Mono.const _ | with_reducible exact joins114.l0.mono _ _ _ _ | with_reducible refine Mono.cond ?_ ?_ | with_reducible refine Mono.orNil ?_ ?_ | with_reducible refine Mono.agree ?_ ?_ | with_reducible refine Mono.joined ?_ ?_ | with_reducible refine Mono.bind ?_ ?_ | with_reducible refine Mono.loop ?_ | with_reducible refine Mono.prod ?_ | intro _ | (dsimp only))

theorem turns115.l0.mono : ∀ a0_ a1_ a2_, ∀ s, Mono (fun k => turns115.l0 k a0_ a1_ a2_ s) := by
  intro a0_ a1_ a2_
  unfold turns115.l0
  repeat' (first | exact Mono.const _ | with_reducible exact one119.mono _ _ | with_reducible exact no117.mono _ | with_reducible exact lead150.mono _ | with_reducible exact rd81''.mono _ _ _ | with_reducible exact add116.mono _ _ _ _ _ _ | with_reducible exact wr120.mono _ _ _ | with_reducible refine Mono.cond ?_ ?_ | with_reducible refine Mono.orNil ?_ ?_ | with_reducible refine Mono.agree ?_ ?_ | with_reducible refine Mono.joined ?_ ?_ | with_reducible refine Mono.bind ?_ ?_ | with_reducible refine Mono.loop ?_ | with_reducible refine Mono.prod ?_ | intro _ | (dsimp only))

theorem turns115.mono : ∀ a0_ a1_ a2_ a3_ a4_ a5_, Mono (fun k => turns115 k a0_ a1_ a2_ a3_ a4_ a5_) := by
  intro a0_ a1_ a2_ a3_ a4_ a5_
  unfold turns115
  repeat' (first | exact Mono.const _ | with_reducible exact turns115.l0.mono _ _ _ | with_reducible refine Mono.cond ?_ ?_ | with_reducible refine Mono.orNil ?_ ?_ | with_reducible refine Mono.agree ?_ ?_ | with_reducible refine Mono.joined ?_ ?_ | with_reducible refine Mono.bind ?_ ?_ | with_reducible refine Mono.loop ?_ | with_reducible refine Mono.prod ?_ | intro _ | (dsimp only))

theorem memory78.l0.mono : ∀ s, Mono (fun k => memory78.l0 k s) := by
  unfold memory78.l0
  repeat' (first | exact Mono.const _ | with_reducible exact joins114.mono _ _ _ _ _ _ _ | with_reducible refine Mono.cond ?_ ?_ | with_reducible refine Mono.orNil ?_ ?_ | with_reducible refine Mono.agree ?_ ?_ | with_reducible refine Mono.joined ?_ ?_ | with_reducible refine Mono.bind ?_ ?_ | with_reducible refine Mono.loop ?_ | with_reducible refine Mono.prod ?_ | intro _ | (dsimp only))

theorem memory78.mono : ∀ a0_ a1_ a2_, Mono (fun k => memory78 k a0_ a1_ a2_) := by
  intro a0_ a1_ a2_
  unfold memory78
  repeat' (first | exact Mono.const _ | with_reducible exact loads112.mono _ _ _ _ _ _ | with_reducible exact stores113.mono _ _ _ _ _ _ | with_reducible exact joins114.mono _ _ _ _ _ _ _ | with_reducible exact turns115.mono _ _ _ _ _ _ | with_reducible exact memory78.l0.mono | with_reducible refine Mono.cond ?_ ?_ | with_reducible refine Mono.orNil ?_ ?_ | with_reducible refine Mono.agree ?_ ?_ | with_reducible refine Mono.joined ?_ ?_ | with_reducible refine Mono.bind ?_ ?_ | with_reducible refine Mono.loop ?_ | with_reducible refine Mono.prod ?_ | intro _ | (dsimp only))

theorem alone79.l0.mono : ∀ s, Mono (fun k => alone79.l0 k s) := by
  unfold alone79.l0
  repeat' (first | exact Mono.const _ | with_reducible exact two118.mono _ _ _ | with_reducible exact one119.mono _ _ | with_reducible exact no117.mono _ | with_reducible exact add116.mono _ _ _ _ _ _ | with_reducible refine Mono.cond ?_ ?_ | with_reducible refine Mono.orNil ?_ ?_ | with_reducible refine Mono.agree ?_ ?_ | with_reducible refine Mono.joined ?_ ?_ | with_reducible refine Mono.bind ?_ ?_ | with_reducible refine Mono.loop ?_ | with_reducible refine Mono.prod ?_ | intro _ | (dsimp only))

theorem alone79.mono : ∀ a0_ a1_ a2_, Mono (fun k => alone79 k a0_ a1_ a2_) := by
  intro a0_ a1_ a2_
  unfold alone79
  repeat' (first | exact Mono.const _ | with_reducible exact two118.mono _ _ _ | with_reducible exact one119.mono _ _ | with_reducible exact no117.mono _ | with_reducible exact rd81''.mono _ _ _ | with_reducible exact add116.mono _ _ _ _ _ _ | with_reducible exact wr120.mono _ _ _ | with_reducible exact alone79.l0.mono | with_reducible refine Mono.cond ?_ ?_ | with_reducible refine Mono.orNil ?_ ?_ | with_reducible refine Mono.agree ?_ ?_ | with_reducible refine Mono.joined ?_ ?_ | with_reducible refine Mono.bind ?_ ?_ | with_reducible refine Mono.loop ?_ | with_reducible refine Mono.prod ?_ | intro _ | (dsimp only))

theorem jump82'.mono : ∀ a0_, Mono (fun k => jump82' k a0_) := by
  intro a0_
  unfold jump82'
  repeat' (first | exact Mono.const _ | with_reducible exact two118.mono _ _ _ | with_reducible refine Mono.cond ?_ ?_ | with_reducible refine Mono.orNil ?_ ?_ | with_reducible refine Mono.agree ?_ ?_ | with_reducible refine Mono.joined ?_ ?_ | with_reducible refine Mono.bind ?_ ?_ | with_reducible refine Mono.loop ?_ | with_reducible refine Mono.prod ?_ | intro _ | (dsimp only))

theorem ways80.l0.mono : ∀ s, Mono (fun k => ways80.l0 k s) := by
  unfold ways80.l0
  repeat' (first | exact Mono.const _ | with_reducible exact two118.mono _ _ _ | with_reducible exact no117.mono _ | with_reducible exact rd81''.mono _ _ _ | with_reducible exact add116.mono _ _ _ _ _ _ | with_reducible refine Mono.cond ?_ ?_ | with_reducible refine Mono.orNil ?_ ?_ | with_reducible refine Mono.agree ?_ ?_ | with_reducible refine Mono.joined ?_ ?_ | with_reducible refine Mono.bind ?_ ?_ | with_reducible refine Mono.loop ?_ | with_reducible refine Mono.prod ?_ | intro _ | (dsimp only))

theorem ways80.mono : ∀ a0_ a1_ a2_, Mono (fun k => ways80 k a0_ a1_ a2_) := by
  intro a0_ a1_ a2_
  unfold ways80
  repeat' (first | exact Mono.const _ | with_reducible exact two118.mono _ _ _ | with_reducible exact rd81''.mono _ _ _ | with_reducible exact add116.mono _ _ _ _ _ _ | with_reducible exact wr120.mono _ _ _ | with_reducible exact jump82'.mono _ | with_reducible exact ways80.l0.mono | with_reducible refine Mono.cond ?_ ?_ | with_reducible refine Mono.orNil ?_ ?_ | with_reducible refine Mono.agree ?_ ?_ | with_reducible refine Mono.joined ?_ ?_ | with_reducible refine Mono.bind ?_ ?_ | with_reducible refine Mono.loop ?_ | with_reducible refine Mono.prod ?_ | intro _ | (dsimp only))

theorem answers83.mono : ∀ a0_ a1_, Mono (fun k => answers83 k a0_ a1_) := by
  intro a0_ a1_
  unfold answers83
  repeat' (first | exact Mono.const _ | with_reducible exact two118.mono _ _ _ | with_reducible exact no117.mono _ | with_reducible exact rd81''.mono _ _ _ | with_reducible exact wr120.mono _ _ _ | with_reducible exact jump82'.mono _ | with_reducible refine Mono.cond ?_ ?_ | with_reducible refine Mono.orNil ?_ ?_ | with_reducible refine Mono.agree ?_ ?_ | with_reducible refine Mono.joined ?_ ?_ | with_reducible refine Mono.bind ?_ ?_ | with_reducible refine Mono.loop ?_ | with_reducible refine Mono.prod ?_ | intro _ | (dsimp only))

theorem Cpu39.mono : Mono (fun k => Cpu39 k) := by
  unfold Cpu39
  repeat' (first | exact Mono.const _ | with_reducible exact jump82.mono _ | with_reducible exact rd81''.mono _ _ _ | with_reducible exact memory78.mono _ _ _ | with_reducible exact alone79.mono _ _ _ | with_reducible exact ways80.mono _ _ _ | with_reducible exact answers83.mono _ _ | with_reducible refine Mono.cond ?_ ?_ | with_reducible refine Mono.orNil ?_ ?_ | with_reducible refine Mono.agree ?_ ?_ | with_reducible refine Mono.joined ?_ ?_ | with_reducible refine Mono.bind ?_ ?_ | with_reducible refine Mono.loop ?_ | with_reducible refine Mono.prod ?_ | intro _ | (dsimp only))

end Go.Proofs.YtcppmlgnceldmaaGreat.Fl

/- What an argument of a law reads as, kind by kind. -/
set_option linter.unusedVariables false
noncomputable section
namespace Go.Proofs.YtcppmlgnceldmaaGreat.Gp
open Go Go.ChangeShapes Go.WideShapes Go.RowKit

/-- the input's memory, all of it frozen -/
def memH (W : World) : Hp := fun b => W.heap[b]?

structure Gd (P : Program) (t : TypeId) (k : K) (wf : k.den → Prop) (siz : k.den → Nat) : Prop where
  cells : P.cellsOf t = k.w
  one : k.one = true
  pur : k.pur = true
  val : ∀ {W : World} {r : Reach} {base : Nat} {v : Value}, Value.okWide P W r base t v → v = k.mk v.cells.toList
  read : ∀ {H : Type} {enc : TypeId × Value → H} {W : World} {base : Nat} {spare : Nat → Bool} {held : Bool} {fuel : Nat} {cs : List Value} {x : DataW H × List MemPlace},
    DataW.trod enc P W base spare held fuel t cs = some x → (∀ n ∈ x.1.weights P t, n ≤ reachBytes) → ∃ y, (∀ L, Lv (memH W) L k y cs) ∧ wf y ∧ siz y ≤ Rows.uptoBulk x.1

variable {P : Program}

theorem str_len {s : ByteArray} : s.data.toList.length = s.size := Array.length_toList
theorem gd_int {t : TypeId} {k : IntKind} (hu : P.underlying t = some (.int k)) (hc : P.cellsOf t = 1) : Gd P t (.int k) (fun (y : Int) => (Lit.int k y).wf = true) (fun _ => 1) :=
  ⟨hc, rfl, rfl, fun h => by obtain ⟨n, rfl⟩ := okWide_int hu h; rfl, fun h _ => by
    obtain ⟨n, rfl, rfl, hw⟩ := DataW.trod_int hu h
    exact ⟨n, fun _ => rfl, hw, by simp [Rows.uptoBulk]⟩⟩
theorem gd_str {t : TypeId} (hu : P.underlying t = some .string) (hc : P.cellsOf t = 1) : Gd P t .str (fun (y : ByteArray) => y.size ≤ 140737488351232) (fun (y : ByteArray) => y.size + 1) :=
  ⟨hc, rfl, rfl, fun h => by
    simp only [Value.okWide, hu, Cell.okWide] at h
    rename_i v
    cases v <;> first | rfl | (simp_all [Cell.ok]; done), fun h hw => by
    obtain ⟨s, rfl, rfl, _⟩ := DataW.trod_string hu h
    refine ⟨s, fun _ => rfl, ?_, ?_⟩
    · have := hw s.data.toList.length (by simp [DataW.weights])
      rw [str_len] at this
      exact this
    · simp only [Rows.uptoBulk]
      rw [str_len]
      omega⟩

theorem weights_all {H : Type} {e : TypeId} {n : Nat} : ∀ {l : List (DataW H)} {d : DataW H}, d ∈ l → n ∈ d.weights P e → n ∈ DataW.weightsAll P e l
  | x :: r, d, hd, hn => by
    rw [DataW.weightsAll]
    rcases List.mem_cons.1 hd with rfl | hd
    · exact List.mem_append_left _ hn
    · exact List.mem_append_right _ (weights_all hd hn)
theorem buildL {α : Type} {H : Type} {wf : α → Prop} {siz : α → Nat} : ∀ (es : List (DataW H × List MemPlace)) (p : Nat → α → Prop),
    (∀ i x, es[i]? = some x → ∃ y, p i y ∧ wf y ∧ siz y ≤ Rows.uptoBulk x.1) →
    ∃ ys : List α, ys.length = es.length ∧ (∀ j y, ys[j]? = some y → p j y ∧ wf y) ∧ (ys.map siz).sum ≤ Rows.uptoBulkAll (es.map (·.1))
  | [], _, _ => ⟨[], rfl, fun j y h => by simp at h, by simp⟩
  | x :: r, p, h => by
    obtain ⟨y, hp, hw, hs⟩ := h 0 x rfl
    obtain ⟨ys, hl, hy, hsum⟩ := buildL r (fun i => p (i + 1)) (fun i x hx => h (i + 1) x (by simpa using hx))
    refine ⟨y :: ys, by simp [hl], fun j z hz => ?_, ?_⟩
    · cases j with
      | zero => simp only [List.getElem?_cons_zero, Option.some.injEq] at hz; subst hz; exact ⟨hp, hw⟩
      | succ j => exact hy j z (by simpa using hz)
    · simp only [List.map_cons, List.sum_cons, Rows.uptoBulkAll]
      omega

def sizL {α : Type} (siz : α → Nat) (l : List α) : Nat := (l.map siz).sum + 1
def wfL {α : Type} (B : Nat) (wf : α → Prop) (l : List α) : Prop := l.length * B ≤ 140737488351232 ∧ ∀ y ∈ l, wf y

theorem LvL_mk {α : Type} {R : α → List Value → Prop} {w : Nat} {C : List Value} : ∀ {ys : List α} {o : Nat}, (∀ j y, ys[j]? = some y → ∃ c : List Value, c.length = w ∧ R y c ∧ ∀ i u, c[i]? = some u → C[o + (j * w + i)]? = some u) →
    LvL R ys ((C.drop o).take (ys.length * w))
  | [], o, h => by simp [LvL]
  | y :: ys, o, h => by
    obtain ⟨c, hc, hr, hu⟩ := h 0 y rfl
    have e : (C.drop o).take w = c := by
      apply List.ext_getElem?
      intro i
      rw [cut_get]
      by_cases hi : i < w
      · rw [if_pos hi]
        have hi' : i < c.length := by omega
        have := hu i c[i] (List.getElem?_eq_getElem hi')
        rw [Nat.zero_mul, Nat.zero_add] at this
        rw [this, List.getElem?_eq_getElem hi']
      · rw [if_neg hi, List.getElem?_eq_none (by omega)]
    refine ⟨c, (C.drop (o + w)).take (ys.length * w), ?_, hr, LvL_mk (fun j z hz => ?_)⟩
    · rw [List.length_cons, Nat.add_mul, Nat.one_mul, Nat.add_comm (ys.length * w) w, List.take_add, e, List.drop_drop]
    · obtain ⟨c', h1, h2, h3⟩ := h (j + 1) z hz
      refine ⟨c', h1, h2, fun i u hi => ?_⟩
      have := h3 i u hi
      rw [Nat.add_mul, Nat.one_mul] at this
      rw [show o + w + (j * w + i) = o + (j * w + w + i) by omega]
      exact this

theorem gd_sl {t e : TypeId} {k : K} {wf : k.den → Prop} {siz : k.den → Nat} {B : Nat} (hu : P.underlying t = some (.slice e)) (hc : P.cellsOf t = 1) (hB : P.bytesOf e = B) (hk : 0 < k.w) (r : Gd P e k wf siz) :
    Gd P t (.sl k) (wfL (α := k.den) B wf) (sizL (α := k.den) siz) :=
  ⟨hc, rfl, r.pur, fun h => by obtain ⟨a, len, cap, rfl⟩ := okWide_slice hu h; rfl, fun {H enc W base spare held fuel cs x} h hw => by
    rcases DataW.trod_slice hu h with ⟨rfl, rfl⟩ | ⟨a, len, cap, elems, rest, n, _, rfl, rfl, hb, hl, hm, hlen, hel, _, _⟩
    · exact ⟨([] : List k.den), fun L => ⟨r.pur, none, 0, rfl, Nat.le_refl _, fun hn => absurd rfl hn⟩, ⟨by simp, fun y hy => by simp at hy⟩, by simp [sizL, Rows.uptoBulk]⟩
    · simp only [DataW.weights, hu] at hw
      have hw1 : (elems.length + rest.length) * B ≤ 140737488351232 := by
        have := hw ((elems.length + rest.length) * B) (by simp [hB])
        exact this
      obtain ⟨ys, hyl, hyp, hys⟩ := buildL (wf := wf) (siz := siz) elems (fun i y => ∃ c : List Value, c.length = k.w ∧ (∀ L, Lv (memH W) L k y c) ∧ ∀ j u, c[j]? = some u → W.cell? (a.add (i * k.w + j)) = some u) (fun i z hz => by
        have hi : i < len := by
          have := (List.getElem?_eq_some_iff.1 hz).1
          omega
        have h1 := hel i hi
        rw [hz] at h1
        obtain ⟨c, hc1, hc2⟩ := Option.bind_eq_some_iff.1 h1
        obtain ⟨y, hK, hwf, hsz⟩ := r.read hc2 (fun q hq => hw q (List.mem_cons_of_mem _ (List.mem_append_left _ (weights_all (List.mem_map.2 ⟨z, List.mem_of_getElem? hz, rfl⟩) hq))))
        obtain ⟨_, hcl, hcell⟩ := World.cells?_some hc1
        refine ⟨y, ⟨c, Lv_len (hK default), hK, fun j u hu => ?_⟩, hwf, hsz⟩
        have hj : j < P.cellsOf e := by
          have := (List.getElem?_eq_some_iff.1 hu).1
          omega
        have h3 := hcell j hj
        rw [Go.Deep.add_add, r.cells] at h3
        rw [h3]
        exact hu)
      refine ⟨ys, fun L => ⟨r.pur, some a, cap, by rw [hyl, hlen], by omega, fun hn => ?_⟩, ⟨?_, fun y hy => ?_⟩, ?_⟩
      · have hn : ys.length ≠ 0 := hn
        obtain ⟨y, hy⟩ : ∃ y, ys[0]? = some y := ⟨ys[0]'(by omega), List.getElem?_eq_getElem (by omega)⟩
        obtain ⟨c, c1, c2, c3⟩ := (hyp 0 y hy).1
        obtain ⟨u, hu0⟩ : ∃ u, c[0]? = some u := ⟨c[0]'(by omega), List.getElem?_eq_getElem (by omega)⟩
        have hcell := c3 0 u hu0
        rw [Nat.zero_mul, Nat.zero_add, show a.add 0 = a from rfl] at hcell
        unfold World.cell? at hcell
        split at hcell
        · rename_i C ee zz hblk
          split at hcell
          · cases hcell
          · rename_i hsp
            have hsp : a.spot = none := by cases hs : a.spot with | none => rfl | some q => rw [hs] at hsp; exact absurd rfl hsp
            refine ⟨a.block, a.off, C, ee, zz, by cases a; simp only at hsp; rw [hsp], hblk, LvL_mk (C := C.toList) (fun j y hy => ?_)⟩
            obtain ⟨c, c1, c2, c3⟩ := (hyp j y hy).1
            refine ⟨c, c1, c2 L, fun i u hi => ?_⟩
            have h5 := c3 i u hi
            have hadd : (a.add (j * k.w + i)).block = a.block ∧ (a.add (j * k.w + i)).off = a.off + (j * k.w + i) ∧ (a.add (j * k.w + i)).spot = none := by
              unfold Addr.add
              split
              · rename_i h0; exact ⟨rfl, by omega, hsp⟩
              · exact ⟨rfl, rfl, rfl⟩
            unfold World.cell? at h5
            rw [hadd.1, hblk, hadd.2.1, hadd.2.2] at h5
            rw [Array.getElem?_toList]
            exact h5
        · cases hcell
      · rw [hyl]
        exact Nat.le_trans (Nat.mul_le_mul_right _ (Nat.le_add_right _ _)) hw1
      · obtain ⟨j, hj⟩ := List.mem_iff_getElem?.1 hy
        exact (hyp j y hj).2
      · simp only [sizL, Rows.uptoBulk]
        omega⟩

/-- fields in line, from cell 'off' on -/
structure GdF (P : Program) (off : Nat) (fs : List Field) (k : K) (wf : k.den → Prop) (siz : k.den → Nat) : Prop where
  pur : k.pur = true
  read : ∀ {H : Type} {enc : TypeId × Value → H} {W : World} {base : Nat} {spare : Nat → Bool} {held : Bool} {fuel : Nat} {cs : List Value} {xs : List (DataW H × List MemPlace)},
    cs.length = off + k.w → xs.length = fs.length →
    (∀ (i : Nat) (f : Field), fs[i]? = some f → DataW.trod enc P W base spare held fuel f.type ((cs.drop f.offset).take (P.cellsOf f.type)) = xs[i]?) →
    (∀ n ∈ DataW.weightsEach P (fs.map (·.type)) (xs.map (·.1)), n ≤ reachBytes) →
    ∃ y, (∀ L, Lv (memH W) L k y (cs.drop off)) ∧ wf y ∧ siz y ≤ Rows.uptoBulkAll (xs.map (·.1))

theorem gdf_cons {off : Nat} {f : Field} {fs : List Field} {k k' : K} {wf : k.den → Prop} {wf' : k'.den → Prop} {siz : k.den → Nat} {siz' : k'.den → Nat} (ho : f.offset = off) (r : Gd P f.type k wf siz)
    (rs : GdF P (off + k.w) fs k' wf' siz') : GdF P off (f :: fs) (.pair k k') (fun (y : k.den × k'.den) => wf y.1 ∧ wf' y.2) (fun (y : k.den × k'.den) => siz y.1 + siz' y.2) := by
  refine ⟨by simp only [K.pur, r.pur, rs.pur]; rfl, ?_⟩
  intro H enc W base spare held fuel cs xs hl hxl hx hw
  have hl' : cs.length = off + (k.w + k'.w) := hl
  match xs, hxl with
  | x :: xs, hxl =>
    have h := hx 0 f rfl
    rw [ho, r.cells] at h
    simp only [List.getElem?_cons_zero] at h
    obtain ⟨y, h1, h2, h3⟩ := r.read h (fun n hn => hw n (by simp [DataW.weightsEach, hn]))
    obtain ⟨z, g1, g2, g3⟩ := rs.read (enc := enc) (W := W) (base := base) (spare := spare) (held := held) (fuel := fuel) (cs := cs) (xs := xs) (by omega) (by simpa using hxl)
      (fun i g hg => by simpa using hx (i + 1) g (by simpa using hg)) (fun n hn => hw n (by simp only [List.map_cons, DataW.weightsEach]; exact List.mem_append_right _ hn))
    refine ⟨(y, z), fun L => ⟨(cs.drop off).take k.w, cs.drop (off + k.w), ?_, h1 L, g1 L⟩, ⟨h2, g2⟩, ?_⟩
    · rw [← List.drop_drop]
      exact (List.take_append_drop _ _).symm
    · simp only [List.map_cons, Rows.uptoBulkAll]
      omega
theorem gdf_one {off : Nat} {f : Field} {k : K} {wf : k.den → Prop} {siz : k.den → Nat} (ho : f.offset = off) (r : Gd P f.type k wf siz) : GdF P off [f] k wf siz := by
  refine ⟨r.pur, ?_⟩
  intro H enc W base spare held fuel cs xs hl hxl hx hw
  match xs, hxl with
  | [x], hxl =>
    have h := hx 0 f rfl
    rw [ho, r.cells] at h
    simp only [List.getElem?_cons_zero] at h
    have e : (cs.drop off).take k.w = cs.drop off := List.take_of_length_le (by rw [List.length_drop, hl]; omega)
    rw [e] at h
    obtain ⟨y, h1, h2, h3⟩ := r.read h (fun n hn => hw n (by simp [DataW.weightsEach, hn]))
    refine ⟨y, h1, h2, ?_⟩
    simp only [List.map_cons, List.map_nil, Rows.uptoBulkAll]
    omega
theorem gd_st {t : TypeId} {fs : Array Field} {k : K} {wf : k.den → Prop} {siz : k.den → Nat} (hu : P.underlying t = some (.struct fs)) (hc : P.cellsOf t = k.w) (r : GdF P 0 fs.toList k wf siz) : Gd P t (.st k) wf siz :=
  ⟨hc, rfl, r.pur, fun h => by
    simp only [Value.okWide, hu] at h
    obtain ⟨cs, rfl, _⟩ := h
    rfl, fun h hw => by
    obtain ⟨xs, n, _, rfl, hl, hxl, hx⟩ := DataW.trod_struct hu h
    obtain ⟨y, h1, h2, h3⟩ := r.read (by rw [hl, hc]; omega) (by rw [hxl]; simp) (fun i f hf => hx i f (by simpa using hf)) (fun n hn => hw n (by simp only [DataW.weights, hu]; exact hn))
    refine ⟨y, h1, h2, ?_⟩
    simp only [Rows.uptoBulk]
    omega⟩

/-- an argument -/
theorem Gd.arg {t : TypeId} {k : K} {wf : k.den → Prop} {siz : k.den → Nat} (r : Gd P t k wf siz) {H : Type} {enc : TypeId × Value → H} {W : World} {base : Nat} {spare : Nat → Bool} {held : Bool} {rr : Reach} {b2 : Nat} {v : Value} {x : DataW H} {ps : List MemPlace}
    (hval : Value.okWide P W rr b2 t v) (h : DataW.Trod enc P W base spare held t v x ps) (hw : ∀ n ∈ x.weights P t, n ≤ reachBytes) : ∃ y : k.den, (∀ L, SR (memH W) L ⟨k, y⟩ v) ∧ wf y ∧ siz y ≤ Rows.uptoBulk x := by
  obtain ⟨fuel, hf⟩ := h
  obtain ⟨y, h1, h2, h3⟩ := r.read hf hw
  refine ⟨y, fun L => ?_, h2, h3⟩
  rw [r.val hval]
  exact SR_mk (h1 L)

def noLoc : Ls := fun _ => default
theorem law_calls {fuel : Nat} {f : FuncId} {params : List K} {run : Nat → HL params → HL (List.map (·.toK) ([] : List OK)) → Option (K.bool.den × HL (List.map (·.toK) ([] : List OK)))} (hs : SoundAt P fuel ⟨f, params, [], .bool, [], [], run⟩) {ds : HL params}
    (hr : run fuel ds () = some (true, ())) {args : Array Value} {W : World} (hv : SRs (memH W) noLoc (unpackL params ds) args.toList) : Calls P f args W (fun e W' => e = .returned (.bool true) ∧ Below W.heap.size W W') := by
  have hno : ∀ b, ¬ Own (assoc O.dead (objsFrom 0 ([] : List OK) ())) noLoc b := fun b ⟨i, hi, _⟩ => hi
  refine Calls.mono (hs.2 ds () (true, ()) hr args W (memH W) noLoc hv ⟨fun i => trivial, fun b o h => h, fun i hi => hi.elim, fun i j hi => hi.elim⟩ (fun i hi => by cases hi)) fun e W' hh => ?_
  obtain ⟨v, H', L', rfl, h1, _, _, hp⟩ := hh
  have h1 : SR H' L' ⟨.bool, true⟩ v := h1
  refine ⟨by rw [bool_at h1], hp.fr.os, hp.fr.tape, hp.fr.output, hp.fr.size, fun b hb => hp.fr.same b hb (hno b)⟩
/-- The weights of one argument. -/
theorem weights_at {H : Type} {ts : List TypeId} {ds : List (DataW H)} (hsz : (DataW.weightsEach P ts ds).all (· ≤ reachBytes) = true) (j : Nat) {t : TypeId} {d : DataW H} (ht : ts[j]? = some t) (hd : ds[j]? = some d) :
    ∀ n ∈ d.weights P t, n ≤ reachBytes := fun n hn => by
  have := List.all_eq_true.1 hsz n (DataW.weights_mem_each ht hd n hn)
  simpa using this

end Go.Proofs.YtcppmlgnceldmaaGreat.Gp

/- What an instruction leads to: the law. No program in sight. -/
set_option linter.unusedVariables false
set_option maxRecDepth 100000
noncomputable section
namespace Go.Proofs.YtcppmlgnceldmaaGreat.Fl
open Go Go.Proofs.YtcppmlgnceldmaaGreat.Gp

theorem Ev.one {α : Type} {f : Nat → Option α} {v w : α} (h : Ev f v) (h2 : Ev f w) : v = w := by
  obtain ⟨n, h⟩ := h
  obtain ⟨m, h2⟩ := h2
  have a := h (max n m) (by omega)
  rw [h2 (max n m) (by omega)] at a
  exact (Option.some.inj a).symm
def cpuV : Cpu := match Cpu39 20 with | some v => v.1 | none => (ByteArray.mk #[], [], [], [], [])
def isS {α : Type} (o : Option α) : Bool := match o with | some _ => true | none => false
theorem isS_some {α : Type} {o : Option α} (h : isS o = true) : ∃ v, o = some v := by
  cases o with
  | none => cases h
  | some v => exact ⟨v, rfl⟩
theorem cpu_isS : isS (Cpu39 20) = true := by kernel_rfl
theorem cpu_ev : Ev (fun k => Cpu39 k) (cpuV, ()) := by
  obtain ⟨v, hv⟩ := isS_some cpu_isS
  have e : cpuV = v.1 := by unfold cpuV; rw [hv]
  rw [e]
  exact Mono.ev Cpu39.mono hv
def wcycB (l : List Cyc) : Bool := Nat.ble (l.length * 48) 140737488351232 && l.all (fun y => Nat.ble (y.2.2.2.length * 32) 140737488351232)
def wcB (c : Cpu) : Bool := Nat.ble (c.2.1.length * 56) 140737488351232 && c.2.1.all (fun x => wcycB x.2.2.2) && wcycB c.2.2.1 && wcycB c.2.2.2.1 && wcycB c.2.2.2.2
theorem wcyc_of {l : List Cyc} (h : wcycB l = true) : Wcyc l := by
  unfold wcycB at h
  simp only [Bool.and_eq_true] at h
  exact ⟨Nat.le_of_ble_eq_true h.1, fun y hy => Nat.le_of_ble_eq_true (List.all_eq_true.1 h.2 y hy)⟩
theorem wc_of {c : Cpu} (h : wcB c = true) : Wc c := by
  unfold wcB at h
  simp only [Bool.and_eq_true] at h
  exact ⟨Nat.le_of_ble_eq_true h.1.1.1.1, fun x hx => wcyc_of (List.all_eq_true.1 h.1.1.1.2 x hx), wcyc_of h.1.1.2, wcyc_of h.1.2, wcyc_of h.2⟩
theorem cpu_wcB : wcB cpuV = true := by kernel_rfl
theorem cpu_wc : Wc cpuV := wc_of cpu_wcB
-- instructions by their names
def isN (name : ByteArray) (mode : Int) (x : Ins) : Bool := cond (streq x.2.1 name) (x.2.2.1 == mode) false
theorem nidx_lp {c : Cpu} (hc : Wc c) (name : ByteArray) (mode : Int) : ∀ (suf pre : List Ins), c.2.1 = pre ++ suf → ∃ r, Lp (fun k => IndexFunc42''.l0 k c.2.1) ((name, mode, ()), (pre.length : Int)) r ∧
    (match suf.find? (isN name mode) with | none => r = .inl () | some x => ∃ j : Nat, r = .inr ((j : Int), ()) ∧ c.2.1[j]? = some x) := by
  have hl := hc.len
  intro suf
  induction suf with
  | nil =>
    intro pre h
    rw [List.append_nil] at h
    refine ⟨.inl (), .done ?_, rfl⟩
    simp only [IndexFunc42''.l0]
    exact .no (decide_eq_false (by rw [h]; omega)) (.now _)
  | cons x suf ih =>
    intro pre h
    have hx : c.2.1[pre.length]? = some x := by rw [h]; simp
    have hlt := get_lt hx
    cases hp : isN name mode x with
    | true =>
      refine ⟨.inr ((pre.length : Int), ()), .done ?_, ?_⟩
      · simp only [IndexFunc42''.l0]
        refine .yes (decide_eq_true (by omega)) (.val (rd_some' hx) (.bind (a := (true, ())) (.const ?_) (.yes rfl (.now _))))
        show some (isN name mode x, ()) = _
        rw [hp]
      · rw [List.find?_cons_of_pos (by exact hp)]
        exact ⟨pre.length, rfl, hx⟩
    | false =>
      obtain ⟨r, h1, h2⟩ := ih (pre ++ [x]) (by rw [h]; simp)
      refine ⟨r, .step ?_ h1, ?_⟩
      · simp only [IndexFunc42''.l0]
        refine .yes (decide_eq_true (by omega)) (.val (rd_some' hx) (.bind (a := (false, ())) (.const ?_) (.no rfl (.now' ?_))))
        · show some (isN name mode x, ()) = _
          rw [hp]
        · rw [w64_succ (by omega)]; simp
      · rw [List.find?_cons_of_neg (by rw [hp]; decide)]
        exact h2
def namedR (c : Cpu) (name : ByteArray) (mode : Int) : Ins × Bool × Unit := match c.2.1.find? (isN name mode) with | some x => (x, true, ()) | none => (none4, false, ())
theorem named_ev {c : Cpu} (hc : Wc c) (name : ByteArray) (mode : Int) : Ev (fun k => Named84 k c name mode) (namedR c name mode, ()) := by
  unfold Named84 IndexFunc42''
  obtain ⟨r, h1, h2⟩ := nidx_lp hc name mode c.2.1 [] rfl
  unfold namedR
  cases hf : c.2.1.find? (isN name mode) with
  | none =>
    rw [hf] at h2
    subst h2
    exact .bind (.joinL (S := Unit) h1.ev (.now _)) (.yes rfl (.now _))
  | some x =>
    rw [hf] at h2
    obtain ⟨j, rfl, hj⟩ := h2
    exact .bind (.joinR h1.ev) (.no (decide_eq_false (by show ¬ (j : Int) < 0; omega)) (.val (rd_some' hj) (.bind (copy_ev x (hc.ins x (get_mem hj))) (.now _))))
theorem wrap8 (x : Int) : 0 ≤ IntKind.wrap .u8 x ∧ IntKind.wrap .u8 x < 256 := by
  have e2 : (2 : Int) ^ 8 = 256 := by decide
  simp only [IntKind.wrap, IntKind.signed, IntKind.bits, Bool.false_and, e2]
  constructor
  · simp; omega
  · simp; omega
def nopB : List Int := [IntKind.wrap .u8 (namedR cpuV (ByteArray.mk #[110, 111, 112]) 0).1.1, IntKind.wrap .u8 (namedR cpuV (ByteArray.mk #[106, 109, 112]) 4).1.1, 0, 2]
theorem nop_ev : Ev (fun k => nop40 k) ((512, nopB, []), ()) := by
  unfold nop40
  exact .bind cpu_ev (.bind (named_ev cpu_wc _ _) (.bind cpu_ev (.bind (named_ev cpu_wc _ _) (.now _))))
theorem lit8 {k : Int} (h : (Lit.int .u8 k).wf = true) : 0 ≤ k ∧ k < 256 := by
  simp [Lit.wf, IntKind.min, IntKind.max, IntKind.signed, IntKind.bits] at h
  omega
abbrev WfCpu (c : Cpu) : Prop := (c.1.size ≤ 140737488351232) ∧ wfL (α := Ins) 56 (fun x => (Lit.int .i64 x.1).wf = true ∧ x.2.1.size ≤ 140737488351232 ∧ (Lit.int .i64 x.2.2.1).wf = true ∧ wfL (α := Cyc) 48 (fun y => (Lit.int .i64 y.1).wf = true ∧ (Lit.int .i64 y.2.1).wf = true ∧ (Lit.int .i64 y.2.2.1).wf = true ∧ wfL (α := Stp4) 32 (fun z => (Lit.int .i64 z.1).wf = true ∧ (Lit.int .i64 z.2.1).wf = true ∧ (Lit.int .i64 z.2.2.1).wf = true ∧ (Lit.int .i64 z.2.2.2).wf = true) y.2.2.2) x.2.2.2) c.2.1 ∧
    wfL (α := Cyc) 48 (fun y => (Lit.int .i64 y.1).wf = true ∧ (Lit.int .i64 y.2.1).wf = true ∧ (Lit.int .i64 y.2.2.1).wf = true ∧ wfL (α := Stp4) 32 (fun z => (Lit.int .i64 z.1).wf = true ∧ (Lit.int .i64 z.2.1).wf = true ∧ (Lit.int .i64 z.2.2.1).wf = true ∧ (Lit.int .i64 z.2.2.2).wf = true) y.2.2.2) c.2.2.1 ∧
    wfL (α := Cyc) 48 (fun y => (Lit.int .i64 y.1).wf = true ∧ (Lit.int .i64 y.2.1).wf = true ∧ (Lit.int .i64 y.2.2.1).wf = true ∧ wfL (α := Stp4) 32 (fun z => (Lit.int .i64 z.1).wf = true ∧ (Lit.int .i64 z.2.1).wf = true ∧ (Lit.int .i64 z.2.2.1).wf = true ∧ (Lit.int .i64 z.2.2.2).wf = true) y.2.2.2) c.2.2.2.1 ∧
    wfL (α := Cyc) 48 (fun y => (Lit.int .i64 y.1).wf = true ∧ (Lit.int .i64 y.2.1).wf = true ∧ (Lit.int .i64 y.2.2.1).wf = true ∧ wfL (α := Stp4) 32 (fun z => (Lit.int .i64 z.1).wf = true ∧ (Lit.int .i64 z.2.1).wf = true ∧ (Lit.int .i64 z.2.2.1).wf = true ∧ (Lit.int .i64 z.2.2.2).wf = true) y.2.2.2) c.2.2.2.2
theorem wc_row {c : Cpu} (h : WfCpu c) : Wc c ∧ Wn c := by
  obtain ⟨h1, h2, h3, h4, h5⟩ := h
  exact ⟨⟨h2.1, fun x hx => ⟨(h2.2 x hx).2.2.2.1, fun y hy => ((h2.2 x hx).2.2.2.2 y hy).2.2.2.1⟩, ⟨h3.1, fun y hy => (h3.2 y hy).2.2.2.1⟩, ⟨h4.1, fun y hy => (h4.2 y hy).2.2.2.1⟩, ⟨h5.1, fun y hy => (h5.2 y hy).2.2.2.1⟩⟩, h1, fun x hx => (h2.2 x hx).2.1⟩
def wnB (c : Cpu) : Bool := Nat.ble c.1.size 140737488351232 && c.2.1.all (fun x => Nat.ble x.2.1.size 140737488351232)
theorem wn_of {c : Cpu} (h : wnB c = true) : Wn c := by
  unfold wnB at h
  rw [Bool.and_eq_true, List.all_eq_true] at h
  exact ⟨Nat.le_of_ble_eq_true h.1, fun x hx => Nat.le_of_ble_eq_true (h.2 x hx)⟩
theorem cpu_wn : Wn cpuV := wn_of (by kernel_rfl)
def nopC : Cod := (512, nopB, [])
theorem nop_okd : OkD nopC := by
  refine ⟨by show nopB.length ≤ 65536; decide, ⟨by show (0 : Int) ≤ 512; decide, by show (512 : Int) ≤ 65536 - (nopB.length : Int); have : nopB.length = 4 := rfl; omega⟩, fun x hx => ?_⟩
  have hx : x ∈ nopB := hx
  unfold nopB at hx
  simp only [List.mem_cons, List.not_mem_nil, or_false] at hx
  rcases hx with rfl | rfl | rfl | rfl
  · exact wrap8 _
  · exact wrap8 _
  · decide
  · decide
def isZ (o : Option (Int × Unit)) : Bool := match o with | some v => v.1 == 0 | none => false
theorem cpu_isZ : isZ (FlowFault17 400 cpuV nopC) = true := by kernel_rfl
theorem cpu_okp : OkP cpuV nopC ∧ Ev (fun k => Check20 k cpuV nopC) (0, ()) := by
  obtain ⟨e, h1, h2, h3⟩ := fault_ok cpu_wc cpu_wn nopC
  have : e = 0 := by
    have hz := cpu_isZ
    cases hv : FlowFault17 400 cpuV nopC with
    | none => rw [hv] at hz; cases hz
    | some v =>
      rw [hv] at hz
      have hz : v.1 = 0 := by simpa [isZ] using hz
      have := Ev.one h1 (Mono.ev (FlowFault17.mono _ _) hv)
      rw [← hz, ← this]
  subst this
  exact ⟨h3 rfl, h2⟩
theorem wayA_len {code : Cod} {x : Ins} (hx : OkI x) (addr : Int) {A : Rg} (hA : Inv A) : (wayA code x addr A).2.1.length ≤ 100000 := by
  obtain ⟨hlen, _⟩ := ends_ok (code := code) hx.cyc (hA.set 7 (pc1 addr))
  have h1 := toL_len (ends1 code x addr A)
  have h2 : (ends1 code x addr A).length ≤ 60 := hlen
  have h3 := sortI_len (toL (ends1 code x addr A))
  show (compI (sortI (toL (ends1 code x addr A)))).length ≤ 100000
  have : (compI (sortI (toL (ends1 code x addr A)))).length ≤ (sortI (toL (ends1 code x addr A))).length := by
    show (Lib.compactUpTo _ _).length ≤ _
    unfold Lib.compactUpTo
    rw [List.length_map]
    exact Nat.le_trans (List.length_filter_le _ _) (by rw [List.length_range]; exact Nat.le_refl _)
  omega
theorem nextR_len {c : Cpu} {code : Cod} (hp : OkP c code) (hd : OkD code) (addr : Int) : (nextR c code addr).1.2.1.length ≤ 100000 := by
  have hbo := begun_ok hp hd (addr := addr)
  unfold nextR
  by_cases h : (begunR c code addr).2.1 ≠ 0
  · rw [if_pos h]; exact Nat.zero_le _
  · rw [if_neg h]
    exact wayA_len (hbo (by omega)).1 addr inv0
end Go.Proofs.YtcppmlgnceldmaaGreat.Fl

/- Go functions as plain Lean functions, and their contracts. -/
set_option linter.unusedVariables false
set_option maxRecDepth 100000
noncomputable section
namespace Go.Proofs.YtcppmlgnceldmaaGreat.Fl
open Go Go.Proofs.YtcppmlgnceldmaaGreat.Gp
end Go.Proofs.YtcppmlgnceldmaaGreat.Fl

/- Blocks: equality of moves, the moves of an instruction, whether it leads away. No program in sight. -/
set_option linter.unusedVariables false
set_option maxRecDepth 100000
noncomputable section
namespace Go.Proofs.YtcppmlgnceldmaaGreat.Fl
open Go Go.Proofs.YtcppmlgnceldmaaGreat.Gp

abbrev Mv := Bool × Int × Int × Int × List Stp4
instance decS : DecidableEq Stp4 := fun a b => instDecidableEqProd a b
instance decL : DecidableEq (List Stp4) := instDecidableEqList
instance decA : DecidableEq (Int × List Stp4) := fun a b => instDecidableEqProd a b
instance decB : DecidableEq (Int × Int × List Stp4) := fun a b => instDecidableEqProd a b
instance decC : DecidableEq (Int × Int × Int × List Stp4) := fun a b => instDecidableEqProd a b
instance decM : DecidableEq (Bool × Int × Int × Int × List Stp4) := fun a b => instDecidableEqProd a b
abbrev Blk := Int × List Int × Int × Bool × List Mv
theorem eq_walk {α : Type} [DecidableEq α] : ∀ (s1 s2 : List α), s1.length = s2.length →
    walk (fun (_ : Unit) (p : α × α) => if p.1 = p.2 then Sum.inl () else Sum.inr (Sum.inr (false, ()))) (fun _ => Sum.inl ()) (s1.zip s2) () = (if s1 = s2 then Sum.inl () else Sum.inr (false, ()) : Unit ⊕ (Bool × Unit))
  | [], [], _ => by simp [walk]
  | x :: s1, y :: s2, h => by
    have ih := eq_walk s1 s2 (by simpa using h)
    rw [List.zip_cons_cons, walk_cons]
    by_cases hxy : x = y
    · subst hxy
      simp only [if_true, List.cons.injEq, true_and]
      exact ih
    · simp [hxy]
theorem zip_get {α : Type} {s1 s2 : List α} {i : Nat} {p : α × α} (h : (s1.zip s2)[i]? = some p) : s1[i]? = some p.1 ∧ s2[i]? = some p.2 := by
  rw [List.getElem?_zip_eq_some] at h
  exact h
theorem eqI_ev (s1 s2 : List Int) (hl : s1.length ≤ 9000000000000000000) : Ev (fun k => Equal56 k s1 s2) (decide (s1 = s2), ()) := by
  unfold Equal56
  by_cases hlen : s1.length = s2.length
  · refine .no (by rw [hlen]; simp) ?_
    have : Gp.Lp (fun k => Equal56.l0 k s1 s2) (0 : Int) (walk (fun (_ : Unit) (p : Int × Int) => if p.1 = p.2 then Sum.inl () else Sum.inr (Sum.inr (false, ()))) (fun _ => Sum.inl ()) (s1.zip s2) ()) := by
      refine Lp.walk (body := fun k => Equal56.l0 k s1 s2) (s1.zip s2) (fun (_ : Unit) i => i) _ _ (fun _ _ => True) (fun i x b hx _ => ⟨?_, fun _ _ => trivial⟩) (fun b _ => ?_) trivial
      · obtain ⟨h1, h2⟩ := zip_get hx
        have hi := get_lt h1
        simp only [Equal56.l0]
        refine .yes (decide_eq_true (by omega)) (.val (rd_some' h1) (.val (rd_some' h2) ?_))
        by_cases h : x.1 = x.2
        · rw [if_pos h]
          refine .no (by rw [h]; simp) (.now' ?_)
          rw [w64_id (by omega) (by omega)]
        · rw [if_neg h]
          exact .yes (bne_iff_ne.2 h) (.now _)
      · simp only [Equal56.l0]
        refine .no (decide_eq_false ?_) (.now _)
        rw [List.length_zip, hlen, Nat.min_self]; omega
    rw [eq_walk s1 s2 hlen] at this
    by_cases h : s1 = s2
    · rw [if_pos h] at this
      exact .joinL (S := Unit) this.ev (.now' (by rw [decide_eq_true h]))
    · rw [if_neg h] at this
      rw [decide_eq_false h]
      exact .joinR this.ev
  · refine .yes (bne_iff_ne.2 (by omega)) (.now' ?_)
    rw [decide_eq_false (fun h => hlen (by rw [h]))]
theorem eqI_ev' (s1 s2 : List Int) (hl : s1.length ≤ 9000000000000000000) : Ev (fun k => Equal41 k s1 s2) (decide (s1 = s2), ()) := eqI_ev s1 s2 hl
theorem eqS_ev (s1 s2 : List Stp4) (hl : s1.length ≤ 9000000000000000000) : Ev (fun k => Equal69 k s1 s2) (decide (s1 = s2), ()) := by
  unfold Equal69
  by_cases hlen : s1.length = s2.length
  · refine .no (by rw [hlen]; simp) ?_
    have : Gp.Lp (fun k => Equal69.l0 k s1 s2) (0 : Int) (walk (fun (_ : Unit) (p : Stp4 × Stp4) => if p.1 = p.2 then Sum.inl () else Sum.inr (Sum.inr (false, ()))) (fun _ => Sum.inl ()) (s1.zip s2) ()) := by
      refine Lp.walk (body := fun k => Equal69.l0 k s1 s2) (s1.zip s2) (fun (_ : Unit) i => i) _ _ (fun _ _ => True) (fun i x b hx _ => ⟨?_, fun _ _ => trivial⟩) (fun b _ => ?_) trivial
      · obtain ⟨h1, h2⟩ := zip_get hx
        have hi := get_lt h1
        simp only [Equal69.l0]
        refine .yes (decide_eq_true (by omega)) (.val (rd_some' h1) (.val (rd_some' h2) ?_))
        have he : ∀ u v : Stp4, eqB (.st (.pair (.int .i64) (.pair (.int .i64) (.pair (.int .i64) (.int .i64))))) u v = decide (u = v) := fun u v => @eqB_dec (.st (.pair (.int .i64) (.pair (.int .i64) (.pair (.int .i64) (.int .i64))))) rfl u v (decS u v)
        by_cases h : x.1 = x.2
        · rw [if_pos h]
          refine .no (by rw [he, decide_eq_true h]; rfl) (.now' ?_)
          rw [w64_id (by omega) (by omega)]
        · rw [if_neg h]
          exact .yes (by rw [he, decide_eq_false h]; rfl) (.now _)
      · simp only [Equal69.l0]
        refine .no (decide_eq_false ?_) (.now _)
        rw [List.length_zip, hlen, Nat.min_self]; omega
    rw [eq_walk s1 s2 hlen] at this
    by_cases h : s1 = s2
    · rw [if_pos h] at this
      exact .joinL (S := Unit) this.ev (.now' (by rw [decide_eq_true h]))
    · rw [if_neg h] at this
      rw [decide_eq_false h]
      exact .joinR this.ev
  · refine .yes (bne_iff_ne.2 (by omega)) (.now' ?_)
    rw [decide_eq_false (fun h => hlen (by rw [h]))]
theorem sameM_ev (x y : Mv) (hl : x.2.2.2.2.length ≤ 9000000000000000000) : Ev (fun k => sameMoves199 k x y) (decide (x = y), ()) := by
  obtain ⟨a1, a2, a3, a4, a5⟩ := x
  obtain ⟨b1, b2, b3, b4, b5⟩ := y
  unfold sameMoves199
  cases hc : (cond (cond (cond (xor false (a1 == b1)) (a2 == b2) false) (a3 == b3) false) (a4 == b4) false) with
  | true =>
    refine .bind (a := decide (a5 = b5)) (.yes rfl (.bind (eqS_ev a5 b5 hl) (.now _))) (.now' ?_)
    have : a1 = b1 ∧ a2 = b2 ∧ a3 = b3 ∧ a4 = b4 := by
      cases h1 : (a1 == b1) <;> cases h2 : (a2 == b2) <;> cases h3 : (a3 == b3) <;> cases h4 : (a4 == b4) <;> simp [h1, h2, h3, h4] at hc <;> exact ⟨by simpa using h1, by simpa using h2, by simpa using h3, by simpa using h4⟩
    obtain ⟨rfl, rfl, rfl, rfl⟩ := this
    simp
  | false =>
    refine .bind (a := false) (.no rfl (.now _)) (.now' ?_)
    rw [decide_eq_false]
    intro h
    simp only [Prod.mk.injEq] at h
    obtain ⟨rfl, rfl, rfl, rfl, rfl⟩ := h
    simp at hc
theorem eqM_ev (s1 s2 : List Mv) (hl : s1.length ≤ 9000000000000000000) (hs : ∀ x ∈ s1, x.2.2.2.2.length ≤ 9000000000000000000) : Ev (fun k => EqualFunc64 k s1 s2 ()) (decide (s1 = s2), ()) := by
  unfold EqualFunc64
  by_cases hlen : s1.length = s2.length
  · refine .no (by rw [hlen]; simp) ?_
    have : Gp.Lp (fun k => EqualFunc64.l0 k s1 s2) ((), (0 : Int)) (walk (fun (_ : Unit) (p : Mv × Mv) => if p.1 = p.2 then Sum.inl () else Sum.inr (Sum.inr (false, ()))) (fun _ => Sum.inl ()) (s1.zip s2) ()) := by
      refine Lp.walk (body := fun k => EqualFunc64.l0 k s1 s2) (s1.zip s2) (fun (_ : Unit) i => ((), i)) _ _ (fun _ _ => True) (fun i x b hx _ => ⟨?_, fun _ _ => trivial⟩) (fun b _ => ?_) trivial
      · obtain ⟨h1, h2⟩ := zip_get hx
        have hi := get_lt h1
        simp only [EqualFunc64.l0]
        refine .yes (decide_eq_true (by omega)) (.val (rd_some' h1) (.val (rd_some' h2) (.bind (sameM_ev _ _ (hs _ (get_mem h1))) ?_)))
        by_cases h : x.1 = x.2
        · rw [if_pos h]
          refine .no (by simp [h]) (.now' ?_)
          rw [w64_id (by omega) (by omega)]
        · rw [if_neg h]
          exact .yes (by simp [h]) (.now _)
      · simp only [EqualFunc64.l0]
        refine .no (decide_eq_false ?_) (.now _)
        rw [List.length_zip, hlen, Nat.min_self]; omega
    rw [eq_walk s1 s2 hlen] at this
    by_cases h : s1 = s2
    · rw [if_pos h] at this
      exact .joinL (S := Unit) this.ev (.now' (by rw [decide_eq_true h]))
    · rw [if_neg h] at this
      rw [decide_eq_false h]
      exact .joinR this.ev
  · refine .yes (bne_iff_ne.2 (by omega)) (.now' ?_)
    rw [decide_eq_false (fun h => hlen (by rw [h]))]
theorem eqM_ev' (s1 s2 : List Mv) (hl : s1.length ≤ 9000000000000000000) (hs : ∀ x ∈ s1, x.2.2.2.2.length ≤ 9000000000000000000) : Ev (fun k => EqualFunc64' k s1 s2 ()) (decide (s1 = s2), ()) := eqM_ev s1 s2 hl hs
theorem sameB_ev (a : Blk) (hl : a.2.1.length ≤ 9000000000000000000) (hm : a.2.2.2.2.length ≤ 9000000000000000000) (hs : ∀ x ∈ a.2.2.2.2, x.2.2.2.2.length ≤ 9000000000000000000) : Ev (fun k => SameBlock26 k a a) (true, ()) := by
  unfold SameBlock26 sameMoves63
  refine .bind (a := true) (.yes ?_ (.bind (eqI_ev' _ _ hl) (.now' (by simp)))) (.bind (a := true) (.yes rfl (.bind (.bind (eqM_ev _ _ hm hs) (.now _)) (.now' (by simp)))) (.now _))
  cases a.2.2.2.1 <;> simp
-- the moves of an instruction
def movesI (x : Ins) : List Mv := (true, 1, 0, 0, []) :: x.2.2.2.map (fun y => (false, y.1, y.2.1, y.2.2.1, y.2.2.2))
theorem movesI_len {x : Ins} (hx : OkI x) : (movesI x).length ≤ 9 := by
  have := hx.cyc.len
  show (x.2.2.2.map _).length + 1 ≤ 9
  rw [List.length_map]; omega
theorem movesI_steps {x : Ins} (hx : OkI x) : ∀ y ∈ movesI x, y.2.2.2.2.length ≤ 6 := by
  intro y hy
  unfold movesI at hy
  rcases List.mem_cons.1 hy with rfl | hy
  · exact Nat.zero_le _
  · obtain ⟨z, hz, rfl⟩ := List.mem_map.1 hy
    exact (hx.cyc.ok z hz).len
theorem clonesM_ev (s : List Stp4) (h : s.length * 32 ≤ 140737488351232) : Ev (fun k => Clone98' k s) (s, ()) := by
  unfold Clone98'
  have e : (if room (0 + List.length s) 32 then some () else none : Option Unit) = some () := if_pos (room_ok (by omega))
  refine Ev.const ?_
  rw [orNil_same (fun h0 => ?_)]
  · show Option.bind _ _ = _
    rw [e]; rfl
  · have := List.length_eq_zero_iff.1 h0
    subst this
    rw [e]; rfl
theorem movesL {body : Nat → Unit × Int × List Mv → Option ((Unit × Int × List Mv) ⊕ (Unit × List Mv))} (l : List Cyc) (hl : l.length ≤ 8) (o : List Mv) (ho : o.length ≤ 1)
    (hs : ∀ (i : Nat) y (o : List Mv), l[i]? = some y → o.length ≤ 9 → Ev (fun k => body k ((), (i : Int), o)) (.inl ((), (i : Int) + 1, o ++ [(false, y.1, y.2.1, y.2.2.1, y.2.2.2)])))
    (hd : ∀ o, Ev (fun k => body k ((), (l.length : Int), o)) (.inr ((), o))) : Gp.Lp body ((), 0, o) ((), o ++ l.map (fun y => (false, y.1, y.2.1, y.2.2.1, y.2.2.2))) := by
  have := Lp.fold (body := body) l (fun (b : List Mv) i => ((), i, b)) (fun b y => b ++ [(false, y.1, y.2.1, y.2.2.1, y.2.2.2)]) (fun b => ((), b)) (fun i b => b.length ≤ 1 + i)
    (fun i x b hx hb => by
      have hi := get_lt hx
      exact ⟨hs i x b hx (by omega), by simp; omega⟩) (fun b hb => hd b) (b := o) (by omega)
  rw [foldl_snoc (fun (y : Cyc) => ((false, y.1, y.2.1, y.2.2.1, y.2.2.2) : Mv))] at this
  exact this
theorem moves_p {x : Ins} (hx : OkI x) : Ev (fun k => moves59 k x) (movesI x, ()) := by
  have hl := hx.cyc.len
  unfold moves59
  refine .bind (Lp.ev (movesL x.2.2.2 hl [(true, 1, 0, 0, [])] (Nat.le_refl _) (fun i y o hy ho => ?_) (fun o => ?_))) (.now _)
  · have hi := get_lt hy
    have hst := (hx.cyc.ok y (get_mem hy)).len
    simp only [moves59.l0]
    refine .yes (decide_eq_true (by omega)) (.val (rd_some' hy) (.bind (clonesM_ev _ (by omega)) (.val (if_pos (room_ok (by simp; omega))) (.now' ?_))))
    rw [w64_id (by omega) (by omega)]
  · simp only [moves59.l0]
    exact .no (decide_eq_false (by omega)) (.now _)
theorem moves_r {x : Ins} (hx : OkI x) : Ev (fun k => moves61 k x) (movesI x, ()) := by
  have hl := hx.cyc.len
  unfold moves61
  refine .bind (Lp.ev (movesL x.2.2.2 hl [(true, 1, 0, 0, [])] (Nat.le_refl _) (fun i y o hy ho => ?_) (fun o => ?_))) (.now _)
  · have hi := get_lt hy
    simp only [moves61.l0]
    refine .yes (decide_eq_true (by omega)) (.val (rd_some' hy) (.val (if_pos (room_ok (by simp; omega))) (.now' ?_)))
    rw [w64_id (by omega) (by omega)]
  · simp only [moves61.l0]
    exact .no (decide_eq_false (by omega)) (.now _)
end Go.Proofs.YtcppmlgnceldmaaGreat.Fl

/- Blocks: whether an instruction leads away; a row of bytes as instructions; what both checks say. No program in sight. -/
set_option linter.unusedVariables false
set_option maxRecDepth 100000
noncomputable section
namespace Go.Proofs.YtcppmlgnceldmaaGreat.Fl
open Go Go.Proofs.YtcppmlgnceldmaaGreat.Gp

def lenI (x : Ins) : Nat := 1 + sizeV x.2.2.1
theorem lenI_le (x : Ins) : 1 ≤ lenI x ∧ lenI x ≤ 3 := by
  have := sizeV_le x.2.2.1
  unfold lenI; omega
/-- whether the instruction of some bytes leads elsewhere -/
def awayA (c : Cpu) (at_ : Int) (b : List Int) : Bool := (nextR c (at_, b, []) at_).1.2.2.1 || !decide ((nextR c (at_, b, []) at_).1.2.1 = [(at_ + (nextR c (at_, b, []) at_).1.1) % 65536])
theorem nextR_size {c : Cpu} {code : Cod} (addr : Int) : 0 ≤ (nextR c code addr).1.1 ∧ (nextR c code addr).1.1 ≤ 3 := by
  unfold nextR
  split
  · show (0 : Int) ≤ 0 ∧ (0 : Int) ≤ 3
    decide
  · have := sizeV_le (begunR c code addr).1.2.2.1
    show 0 ≤ 1 + (sizeV _ : Int) ∧ 1 + (sizeV _ : Int) ≤ 3
    omega
/-- a right piece of a program -/
structure Piece (c : Cpu) (at_ : Int) (b : List Int) : Prop where
  p : OkP c (at_, b, [])
  d : OkD (at_, b, [])
  small : b.length ≤ 3
theorem check0 {c : Cpu} (hc : Wc c) (hn : Wn c) (h8 : Ev (fun k => Check8 k c) (0, ())) {at_ : Int} {b : List Int} (h : Piece c at_ b) : Ev (fun k => Check20 k c (at_, b, [])) (0, ()) := by
  have hb := h.p.base
  have hs := h.small
  have hb : 0 ≤ at_ ∧ at_ ≤ 65536 - (b.length : Int) := hb
  unfold Check20
  refine .bind h8 (.no rfl (.no (decide_eq_false ?_) (.no ?_ (.now _))))
  · show ¬ ((b.length : Int) > 4096)
    omega
  · show cond (decide (at_ < 0)) true (decide (at_ > w64 (65536 - (b.length : Int)))) = false
    rw [w64_id (by omega) (by omega), decide_eq_false (by omega)]
    exact decide_eq_false (by omega)
theorem away_p {c : Cpu} (hc : Wc c) (hn : Wn c) (h8 : Ev (fun k => Check8 k c) (0, ())) {at_ : Int} {b : List Int} (h : Piece c at_ b) : Ev (fun k => away60 k c at_ b) (awayA c at_ b, ()) := by
  have hb : 0 ≤ at_ ∧ at_ ≤ 65536 - (b.length : Int) := h.p.base
  have hN := next_p hc h.p h.d (addr := at_) ⟨by omega, by omega⟩ (check0 hc hn h8 h)
  have hsz := nextR_size (c := c) (code := (at_, b, [])) at_
  have hlen := nextR_len h.p h.d at_
  unfold awayA
  generalize nextR c (at_, b, []) at_ = z at hN hsz hlen
  have hw : w64 (at_ + z.1.1) = at_ + z.1.1 := w64_id (by omega) (by omega)
  have hL : Ev (fun k => Low70 k (w64 (at_ + z.1.1)) 16) ((at_ + z.1.1) % 65536, ()) := by rw [hw]; exact low16_ev _
  unfold away60
  refine .bind hN ?_
  cases ho : z.1.2.2.1 with
  | true => exact .bind (a := true) (.yes rfl (.now _)) (.now' (by simp))
  | false =>
    refine .bind (a := !decide (z.1.2.1 = [(at_ + z.1.1) % 65536])) (.no rfl (.bind hL (.bind (eqI_ev _ _ (by show z.1.2.1.length ≤ _; omega)) (.now _)))) (.now' (by simp))
theorem rd0 {l : List Int} {y : Int} : (rd (y :: l) 0 : Option Int) = some y := rfl
theorem away_r {c : Cpu} (hc : Wc c) {code : Cod} (hp : OkP c code) (hd : OkD code) {at_ : Int} (ha : 0 ≤ at_ ∧ at_ < 65536) {x : Ins} (hb : begunR c code at_ = (x, 0, ())) {k n : Nat} (hk : at_ - code.1 = k) (hn : n = lenI x) (hkn : k + n ≤ code.2.1.length)
    (h : Piece c at_ ((code.2.1.drop k).take n)) : Ev (fun q => away62 q c code at_) (awayA c at_ ((code.2.1.drop k).take n), ()) := by
  have hx : OkI x := by
    have := begun_ok hp hd (addr := at_) (by rw [hb])
    rw [hb] at this
    exact this.1
  have hst := starts_r hc hp hd (addr := at_) ⟨by omega, by omega⟩
  rw [hb] at hst
  have hN := nextW_r hc h.p h.d (addr := at_) ⟨by omega, by omega⟩
  have hsz := nextR_size (c := c) (code := (at_, (code.2.1.drop k).take n, [])) at_
  have hl := hd.len
  have hcl : slc code.2.1 (k : Int) (((k + n : Nat) : Int)) = some ((code.2.1.drop k).take n) := by
    rw [slc_ok (by omega) hkn]
    congr 1
    rw [List.drop_take]
    congr 1
    omega
  have hw1 : w64 (at_ - code.1) = (k : Int) := by rw [hk]; exact w64_id (by omega) (by omega)
  have hw2 : w64 (w64 ((k : Int) + 1) + (sizeV x.2.2.1 : Int)) = ((k + n : Nat) : Int) := by
    have := sizeV_le x.2.2.1
    unfold lenI at hn
    rw [w64_id (x := (k : Int) + 1) (by omega) (by omega), w64_id (by omega) (by omega)]
    omega
  unfold awayA
  generalize nextR c (at_, (code.2.1.drop k).take n, []) at_ = z at hN hsz
  unfold away62 operands49
  refine .bind (.now _) (.bind hst (.bind (a := z.1) (.val (size_rd hx.mode) ?_) ?_))
  · show Ev (fun q => (slc code.2.1 (w64 (at_ - code.1)) (w64 (w64 (w64 (at_ - code.1) + 1) + (sizeV x.2.2.1 : Int)))).bind _) _
    rw [hw1, hw2]
    exact .val hcl (Ev.agr (.bind hN (.now _)) (.bind hN (.now _)))
  · cases ho : z.1.2.2.1 with
    | true => exact .bind (a := true) (.yes (by simp) (.now _)) (.now' (by simp))
    | false =>
      by_cases h1 : z.1.2.1.length = 1
      · obtain ⟨y, hy⟩ := List.length_eq_one_iff.1 h1
        rw [hy]
        refine .bind (a := !decide ([y] = [(at_ + z.1.1) % 65536])) (.no (by simp) (.val rd0 (.now' ?_))) (.now' (by simp))
        rw [w64_id (by omega) (by omega), Int.tmod_eq_emod_of_nonneg (by omega)]
        by_cases he : y = (at_ + z.1.1) % 65536
        · rw [he]; simp
        · rw [decide_eq_false (by simpa using he)]
          exact bne_iff_ne.2 he
      · refine .bind (a := true) (.yes ?_ (.now _)) (.now' ?_)
        · show cond false true ((z.1.2.1.length : Int) != 1) = true
          exact bne_iff_ne.2 (by omega)
        · rw [decide_eq_false (fun e => h1 (by rw [e]; rfl))]; rfl
end Go.Proofs.YtcppmlgnceldmaaGreat.Fl

/- Blocks: a row of bytes as instructions; what the program's check says. No program in sight. -/
set_option linter.unusedVariables false
set_option maxRecDepth 100000
noncomputable section
namespace Go.Proofs.YtcppmlgnceldmaaGreat.Fl
open Go Go.Proofs.YtcppmlgnceldmaaGreat.Gp

def tot (xs : List Ins) : Nat := (xs.map lenI).sum
theorem tot_snoc (xs : List Ins) (x : Ins) : tot (xs ++ [x]) = tot xs + lenI x := by simp [tot]
theorem tot_take {xs : List Ins} {i : Nat} {x : Ins} (h : xs[i]? = some x) : tot (xs.take (i + 1)) = tot (xs.take i) + lenI x := by
  rw [List.take_add_one, h]
  exact tot_snoc _ _
theorem tot_mono (xs : List Ins) (i : Nat) : tot (xs.take i) ≤ tot xs := by
  have e : tot (xs.take i ++ xs.drop i) = tot (xs.take i) + tot (xs.drop i) := by unfold tot; rw [List.map_append, List.sum_append]
  rw [List.take_append_drop] at e
  omega
theorem tot_le {xs : List Ins} : tot xs ≤ 3 * xs.length := by
  induction xs with
  | nil => exact Nat.le_refl _
  | cons x xs ih =>
    have := (lenI_le x).2
    have e : tot (x :: xs) = lenI x + tot xs := by simp [tot]
    rw [e, List.length_cons]; omega
def step1 (c : Cpu) (left : List Int) : Ins ⊕ Int := match left with
  | [] => .inr 13
  | op :: l => match findI c op with
    | none => .inr 4
    | some x => if lenI x > l.length + 1 then .inr 13 else .inl x
theorem step1_inl {c : Cpu} {left : List Int} {x : Ins} (h : step1 c left = .inl x) : ∃ op l, left = op :: l ∧ findI c op = some x ∧ lenI x ≤ left.length := by
  cases left with
  | nil => cases h
  | cons op l =>
    refine ⟨op, l, rfl, ?_⟩
    unfold step1 at h
    cases hf : findI c op with
    | none => simp only [hf] at h; cases h
    | some y =>
      simp only [hf] at h
      split at h
      · cases h
      · cases h
        exact ⟨rfl, by rw [List.length_cons]; omega⟩
theorem step1_mk {c : Cpu} {op : Int} {l : List Int} {x : Ins} (h : findI c op = some x) (hl : lenI x ≤ l.length + 1) : step1 c (op :: l) = .inl x := by
  unfold step1
  simp only [h]
  exact if_neg (by omega)
theorem step1_app {c : Cpu} {l m : List Int} {x : Ins} (h : step1 c l = .inl x) : step1 c (l ++ m) = .inl x := by
  obtain ⟨op, l, rfl, h1, h2⟩ := step1_inl h
  rw [List.cons_append]
  refine step1_mk h1 ?_
  rw [List.length_append]
  rw [List.length_cons] at h2
  omega
def parseB (c : Cpu) (bytes : List Int) : Nat → List Ins → List Ins ⊕ Int
  | 0, xs => .inl xs
  | n + 1, xs => match step1 c (bytes.drop (tot xs)) with
    | .inr e => .inr e
    | .inl x => parseB c bytes n (xs ++ [x])
/-- .. right so far -/
structure Parsed (c : Cpu) (bytes : List Int) (xs : List Ins) : Prop where
  len : tot xs ≤ bytes.length
  at' : ∀ i x, xs[i]? = some x → step1 c (bytes.drop (tot (xs.take i))) = .inl x
theorem parsed_nil {c : Cpu} {bytes : List Int} : Parsed c bytes [] := ⟨Nat.zero_le _, fun i x h => by simp at h⟩
theorem parsed_snoc {c : Cpu} {bytes : List Int} {xs : List Ins} {x : Ins} (h : Parsed c bytes xs) (hx : step1 c (bytes.drop (tot xs)) = .inl x) : Parsed c bytes (xs ++ [x]) := by
  refine ⟨?_, fun i y hy => ?_⟩
  · obtain ⟨op, l, _, _, h3⟩ := step1_inl hx
    have := h.len
    rw [List.length_drop] at h3
    rw [tot_snoc]; omega
  · by_cases hi : i < xs.length
    · rw [List.getElem?_append_left hi] at hy
      rw [List.take_append_of_le_length (by omega)]
      exact h.at' i y hy
    · have hlt := get_lt hy
      simp at hlt
      have : i = xs.length := by omega
      subst this
      simp at hy
      subst hy
      rw [List.take_left]
      exact hx
theorem parse_ok {c : Cpu} {bytes : List Int} : ∀ {n : Nat} {xs ys : List Ins}, Parsed c bytes xs → parseB c bytes n xs = .inl ys → Parsed c bytes ys ∧ ys.length = xs.length + n
  | 0, xs, ys, h, e => by cases e; exact ⟨h, rfl⟩
  | n + 1, xs, ys, h, e => by
    unfold parseB at e
    cases hs : step1 c (bytes.drop (tot xs)) with
    | inr v => rw [hs] at e; cases e
    | inl x =>
      rw [hs] at e
      obtain ⟨h1, h2⟩ := parse_ok (parsed_snoc h hs) e
      exact ⟨h1, by rw [h2]; simp; omega⟩
theorem parse_of {c : Cpu} {bytes : List Int} {xs : List Ins} (h : Parsed c bytes xs) : ∀ n i, i + n = xs.length → parseB c bytes n (xs.take i) = .inl xs
  | 0, i, e => by
    rw [List.take_of_length_le (by omega)]; rfl
  | n + 1, i, e => by
    have hi : i < xs.length := by omega
    have hx : xs[i]? = some xs[i] := List.getElem?_eq_getElem hi
    unfold parseB
    rw [h.at' i _ hx]
    have := parse_of h n (i + 1) (by omega)
    rw [List.take_add_one, hx] at this
    exact this
theorem parsed_ok {c : Cpu} (hi : ∀ x ∈ c.2.1, OkI x) {bytes : List Int} {xs : List Ins} (h : Parsed c bytes xs) : ∀ x ∈ xs, OkI x := by
  intro x hx
  obtain ⟨i, hxi⟩ := List.mem_iff_getElem?.1 hx
  obtain ⟨op, l, _, h2, _⟩ := step1_inl (h.at' i x hxi)
  exact hi x (findI_mem h2)
def movs (xs : List Ins) : List Mv := xs.flatMap movesI
theorem movs_snoc (xs : List Ins) (x : Ins) : movs (xs ++ [x]) = movs xs ++ movesI x := by simp [movs]
theorem movs_len {xs : List Ins} (h : ∀ x ∈ xs, OkI x) : (movs xs).length ≤ 9 * xs.length := by
  induction xs with
  | nil => exact Nat.le_refl _
  | cons x xs ih =>
    have h1 := movesI_len (h x (List.mem_cons_self ..))
    have h2 := ih fun y hy => h y (List.mem_cons_of_mem _ hy)
    have e : movs (x :: xs) = movesI x ++ movs xs := rfl
    rw [e, List.length_append, List.length_cons]; omega
theorem movs_steps {xs : List Ins} (h : ∀ x ∈ xs, OkI x) : ∀ y ∈ movs xs, y.2.2.2.2.length ≤ 6 := by
  intro y hy
  obtain ⟨x, hx, hy⟩ := List.mem_flatMap.1 hy
  exact movesI_steps (h x hx) y hy
/-- whether the i-th leads elsewhere -/
def awf (c : Cpu) (base : Int) (bytes : List Int) (xs : List Ins) (i : Nat) : Bool :=
  awayA c (base + (tot (xs.take i) : Int)) ((bytes.drop (tot (xs.take i))).take (match xs[i]? with | some x => lenI x | none => 0))
theorem awf_at {c : Cpu} {base : Int} {bytes : List Int} {xs : List Ins} {i : Nat} {x : Ins} (h : xs[i]? = some x) : awf c base bytes xs i = awayA c (base + (tot (xs.take i) : Int)) ((bytes.drop (tot (xs.take i))).take (lenI x)) := by
  unfold awf
  rw [h]
def endV (f : Nat → Bool) (size : Nat) (last : Bool) : Nat → Nat → Int
  | 0, _ => 0
  | n + 1, i => if f i = (last && decide (i + 1 = size)) then endV f size last n (i + 1) else 7
theorem endV_zero {f : Nat → Bool} {size : Nat} {last : Bool} (h : ∀ i, i < size → f i = (last && decide (i + 1 = size))) : ∀ n i, i + n = size → endV f size last n i = 0
  | 0, _, _ => rfl
  | n + 1, i, e => by
    unfold endV
    rw [if_pos (h i (by omega))]
    exact endV_zero h n (i + 1) (by omega)
/-- what both checks say of a block, once the processor is right -/
def checkV (c : Cpu) (b : Blk) : Int :=
  if b.2.2.1 < 1 ∨ b.2.2.1 > 64 then 2
  else if b.1 < 0 ∨ b.1 > 65536 - (b.2.1.length : Int) then 1
  else match parseB c b.2.1 b.2.2.1.toNat [] with
    | .inr e => e
    | .inl xs => if tot xs < b.2.1.length then 3 else if b.2.2.2.2 = movs xs then endV (awf c b.1 b.2.1 xs) xs.length b.2.2.2.1 xs.length 0 else 12
/-- what is known of a block that is walked -/
structure Base (c : Cpu) (b : Blk) : Prop where
  ins : ∀ x ∈ c.2.1, OkI x
  at' : 0 ≤ b.1 ∧ b.1 ≤ 65536 - (b.2.1.length : Int)
  byte : ∀ x ∈ b.2.1, 0 ≤ x ∧ x < 256
theorem piece_of {c : Cpu} {b : Blk} (h : Base c b) {t n : Nat} (hn : n ≤ 3) (ht : t + n ≤ b.2.1.length) : Piece c (b.1 + (t : Int)) ((b.2.1.drop t).take n) := by
  have ha := h.at'
  have hl : ((b.2.1.drop t).take n).length = n := by rw [List.length_take, List.length_drop]; omega
  have hb : 0 ≤ b.1 + (t : Int) ∧ b.1 + (t : Int) ≤ 65536 - (((b.2.1.drop t).take n).length : Int) := by rw [hl]; omega
  refine ⟨⟨h.ins, ?_, hb⟩, ⟨?_, hb, fun x hx => h.byte x (List.mem_of_mem_drop (List.mem_of_mem_take hx))⟩, by omega⟩
  · show ((b.2.1.drop t).take n).length ≤ 65536; omega
  · show ((b.2.1.drop t).take n).length ≤ 65536; omega
theorem parsed_next {c : Cpu} {bytes : List Int} {xs : List Ins} (h : Parsed c bytes xs) {i : Nat} {x : Ins} (hx : xs[i]? = some x) : tot (xs.take i) + lenI x ≤ bytes.length := by
  have h1 := tot_take hx
  have h2 := tot_mono xs (i + 1)
  have := h.len
  omega
theorem find_b {c : Cpu} (hc : Wc c) {b : Blk} (h : Base c b) {t : Nat} {op : Int} {l : List Int} (e : b.2.1.drop t = op :: l) : w64 op = op := by
  have := h.byte op (List.mem_of_mem_drop (by rw [e]; exact List.mem_cons_self ..))
  exact w64_id (by omega) (by omega)
theorem ended_p {c : Cpu} (hc : Wc c) (hn : Wn c) (h8 : Ev (fun k => Check8 k c) (0, ())) {b : Blk} (h : Base c b) {xs : List Ins} (hp : Parsed c b.2.1 xs) (hs : b.2.2.1 = (xs.length : Int)) (hxl : xs.length ≤ 64) :
    Ev (fun k => ended66 k c b) (endV (awf c b.1 b.2.1 xs) xs.length b.2.2.2.1 xs.length 0, ()) := by
  have ha := h.at'
  have key : ∀ n i, i + n = xs.length → Gp.Lp (fun k => ended66.l0 k b) (c, b, b.1 + (tot (xs.take i) : Int), b.2.1.drop (tot (xs.take i)), (i : Int))
      (if endV (awf c b.1 b.2.1 xs) xs.length b.2.2.2.1 n i = 0 then .inl () else .inr (endV (awf c b.1 b.2.1 xs) xs.length b.2.2.2.1 n i, ())) := by
    intro n
    induction n with
    | zero =>
      intro i hi
      refine .done ?_
      simp only [ended66.l0]
      exact .no (decide_eq_false (by rw [hs]; omega)) (.now _)
    | succ n ih =>
      intro i hi
      have hx : xs[i]? = some xs[i] := List.getElem?_eq_getElem (by omega)
      generalize xs[i] = x at hx
      obtain ⟨op, l, e1, e2, e3⟩ := step1_inl (hp.at' i x hx)
      have hnx := parsed_next hp hx
      have hox := parsed_ok h.ins hp x (get_mem hx)
      have hl3 := (lenI_le x).2
      have htm := tot_mono xs i
      have hpl := hp.len
      have hw := find_b hc h e1
      have hf := find_ev hc op
      rw [show findR c op = (x, true, ()) from by unfold findR; rw [e2]] at hf
      have haw := away_p hc hn h8 (piece_of h (n := lenI x) hl3 hnx)
      have hw1 : w64 (1 + (sizeV x.2.2.1 : Int)) = (lenI x : Int) := by unfold lenI; have := sizeV_le x.2.2.1; rw [w64_id (by omega) (by omega)]; omega
      have hS : slc (b.2.1.drop (tot (xs.take i))) 0 (lenI x : Int) = some ((b.2.1.drop (tot (xs.take i))).take (lenI x)) := by
        have := slc_ok (l := b.2.1.drop (tot (xs.take i))) (a := 0) (b := lenI x) (by omega) e3
        simpa using this
      have hT : slc (b.2.1.drop (tot (xs.take i))) (lenI x : Int) ((b.2.1.drop (tot (xs.take i))).length : Int) = some (b.2.1.drop (tot (xs.take (i + 1)))) := by
        rw [slc_tail e3, List.drop_drop, tot_take hx]
      have hrd : rd (b.2.1.drop (tot (xs.take i))) 0 = some op := by rw [e1]; rfl
      rw [← awf_at hx] at haw
      have hsz : b.2.2.1 - 1 = (xs.length : Int) - 1 := by rw [hs]
      have hcond : cond b.2.2.2.1 ((i : Int) == w64 (b.2.2.1 - 1)) false = (b.2.2.2.1 && decide (i + 1 = xs.length)) := by
        rw [hsz, w64_id (by omega) (by omega)]
        cases b.2.2.2.1 with
        | false => rfl
        | true =>
          show ((i : Int) == (xs.length : Int) - 1) = (true && decide (i + 1 = xs.length))
          by_cases hq : i + 1 = xs.length
          · rw [decide_eq_true hq]; exact beq_iff_eq.2 (by omega)
          · rw [decide_eq_false hq]; exact beq_false_of_ne (by omega)
      have hbody : ∀ {v : (Cpu × Blk × Int × List Int × Int) ⊕ (Unit ⊕ (Int × Unit))}, (if awf c b.1 b.2.1 xs i = (b.2.2.2.1 && decide (i + 1 = xs.length)) then v = .inl (c, b, b.1 + (tot (xs.take (i + 1)) : Int), b.2.1.drop (tot (xs.take (i + 1))), ((i + 1 : Nat) : Int)) else v = .inr (.inr (7, ()))) →
          Ev (fun k => ended66.l0 k b (c, b, b.1 + (tot (xs.take i) : Int), b.2.1.drop (tot (xs.take i)), (i : Int))) v := by
        intro v hv
        simp only [ended66.l0]
        refine .yes (decide_eq_true (by rw [hs]; omega)) (.bind (a := (c, b, x)) (.val hrd ?_) (.bind (size_ev hox.mode) ?_))
        · rw [hw]
          exact Ev.agr (.bind hf (.now _)) (.bind hf (.now _))
        · show Ev (fun k => (slc (b.2.1.drop (tot (xs.take i))) 0 (w64 (1 + (sizeV x.2.2.1 : Int)))).bind _) v
          rw [hw1]
          refine .val hS (.bind haw ?_)
          rw [hcond]
          by_cases hq : awf c b.1 b.2.1 xs i = (b.2.2.2.1 && decide (i + 1 = xs.length))
          · rw [if_pos hq] at hv
            refine .no (by rw [hq]; simp) (.val hT (.now' ?_))
            rw [hv, w64_id (by omega) (by omega), w64_id (by omega) (by omega), tot_take hx]
            congr 4
            omega
          · rw [if_neg hq] at hv
            refine .yes ?_ (.now' hv.symm)
            show xor true (awf c b.1 b.2.1 xs i == (b.2.2.2.1 && decide (i + 1 = xs.length))) = true
            rw [beq_false_of_ne hq]; rfl
      unfold endV
      by_cases hq : awf c b.1 b.2.1 xs i = (b.2.2.2.1 && decide (i + 1 = xs.length))
      · rw [if_pos hq]
        exact .step (hbody (by rw [if_pos hq])) (ih (i + 1) (by omega))
      · rw [if_neg hq]
        exact .done (hbody (by rw [if_neg hq]; rfl))
  have h0 := key xs.length 0 (by omega)
  rw [List.take_zero] at h0
  have e0 : b.1 + ((tot [] : Nat) : Int) = b.1 := by show b.1 + ((0 : Nat) : Int) = b.1; omega
  have e1 : b.2.1.drop (tot []) = b.2.1 := rfl
  rw [e0, e1] at h0
  unfold ended66
  generalize endV (awf c b.1 b.2.1 xs) xs.length b.2.2.2.1 xs.length 0 = v at h0
  by_cases hv : v = 0
  · rw [if_pos hv] at h0
    exact .joinL (S := Unit) h0.ev (.now' (by rw [hv]))
  · rw [if_neg hv] at h0
    exact .joinR h0.ev
theorem step1_ne {c : Cpu} {left : List Int} {e : Int} (h : step1 c left = .inr e) : e ≠ 0 := by
  unfold step1 at h
  cases left with
  | nil => cases h; decide
  | cons op l =>
    simp only at h
    cases hf : findI c op with
    | none => rw [hf] at h; cases h; decide
    | some x =>
      rw [hf] at h
      simp only at h
      split at h
      · cases h; decide
      · cases h
theorem parse_p {c : Cpu} (hc : Wc c) {b : Blk} (h : Base c b) (N : Nat) (hN : b.2.2.1 = (N : Int)) (hN64 : N ≤ 64) : ∀ n (xs : List Ins), Parsed c b.2.1 xs → xs.length + n = N →
    Gp.Lp (fun k => Check27.l0 k b) (c, b, b.2.1.drop (tot xs), (), (xs.length : Int), movs xs)
      (match parseB c b.2.1 n xs with | .inl ys => .inl (c, b, b.2.1.drop (tot ys), (), movs ys) | .inr e => .inr (e, ())) := by
  intro n
  induction n with
  | zero =>
    intro xs hp hx
    refine .done ?_
    simp only [Check27.l0]
    exact .no (decide_eq_false (by rw [hN]; omega)) (.now _)
  | succ n ih =>
    intro xs hp hx
    have hlt : decide ((xs.length : Int) < b.2.2.1) = true := decide_eq_true (by rw [hN]; omega)
    have hok := parsed_ok h.ins hp
    have hml := movs_len hok
    have ha := h.at'
    unfold parseB
    cases hd : b.2.1.drop (tot xs) with
    | nil =>
      refine .done ?_
      simp only [Check27.l0]
      exact .yes hlt (.yes rfl (.now _))
    | cons op l =>
      have hw := find_b hc h hd
      have hf := find_ev hc op
      have hll : l.length + 1 ≤ 65536 := by
        have := congrArg List.length hd
        rw [List.length_drop, List.length_cons] at this
        omega
      have hrd : rd (op :: l) 0 = some op := rfl
      have hnz : ((List.length (op :: l) : Int) == 0) = false := beq_false_of_ne (by rw [List.length_cons]; omega)
      cases h2 : findI c op with
      | none =>
        rw [show findR c op = (none4, false, ()) from by unfold findR; rw [h2]] at hf
        have hs : step1 c (op :: l) = .inr 4 := by unfold step1; simp only [h2]
        rw [hs]
        refine .done ?_
        simp only [Check27.l0]
        refine .yes hlt (.no hnz (.bind (a := (c, b, (), none4, false, movs xs)) (.val hrd ?_) (.yes rfl (.now _))))
        rw [hw]
        exact Ev.agr (.bind hf (.now _)) (.bind hf (.now _))
      | some x =>
        rw [show findR c op = (x, true, ()) from by unfold findR; rw [h2]] at hf
        have hox := h.ins x (findI_mem h2)
        have hl3 := lenI_le x
        have hw1 : w64 (1 + (sizeV x.2.2.1 : Int)) = (lenI x : Int) := by unfold lenI; have := sizeV_le x.2.2.1; rw [w64_id (by omega) (by omega)]; omega
        by_cases hlen : lenI x > l.length + 1
        · have hs : step1 c (op :: l) = .inr 13 := by unfold step1; simp only [h2]; exact if_pos hlen
          rw [hs]
          refine .done ?_
          simp only [Check27.l0]
          refine .yes hlt (.no hnz (.bind (a := (c, b, (), x, true, movs xs)) (.val hrd ?_) (.no rfl (.bind (size_ev hox.mode) ?_))))
          · rw [hw]
            exact Ev.agr (.bind hf (.now _)) (.bind hf (.now _))
          · show Ev (fun k => cond (decide (w64 (1 + (sizeV x.2.2.1 : Int)) > _)) _ _) _
            rw [hw1]
            exact .yes (decide_eq_true (by rw [List.length_cons]; omega)) (.now _)
        · have hs : step1 c (op :: l) = .inl x := step1_mk h2 (by omega)
          have hsd : step1 c (b.2.1.drop (tot xs)) = .inl x := by rw [hd]; exact hs
          rw [hs]
          refine .step ?_ (ih (xs ++ [x]) (parsed_snoc hp hsd) (by simp; omega))
          have hm := movesI_len hox
          simp only [Check27.l0]
          refine .yes hlt (.no hnz (.bind (a := (c, b, (), x, true, movs xs)) (.val hrd ?_) (.no rfl (.bind (size_ev hox.mode) ?_))))
          · rw [hw]
            exact Ev.agr (.bind hf (.now _)) (.bind hf (.now _))
          · show Ev (fun k => cond (decide (w64 (1 + (sizeV x.2.2.1 : Int)) > _)) _ _) _
            rw [hw1]
            have hT : slc (op :: l) (lenI x : Int) ((op :: l).length : Int) = some (b.2.1.drop (tot (xs ++ [x]))) := by
              rw [slc_tail (by rw [List.length_cons]; omega), tot_snoc, ← List.drop_drop, hd]
            refine .no (decide_eq_false (by rw [List.length_cons]; omega)) (.val hT (.bind (moves_p hox) (.val (if_pos (room_ok (by show ((movs xs).length + (movesI x).length) * 56 ≤ _; omega))) (.now' ?_))))
            rw [w64_id (by omega) (by omega), movs_snoc]
            simp
theorem check_p {c : Cpu} (hc : Wc c) (hn : Wn c) (h8 : Ev (fun k => Check8 k c) (0, ())) (hi : ∀ x ∈ c.2.1, OkI x) {b : Blk} (hby : ∀ x ∈ b.2.1, 0 ≤ x ∧ x < 256) (hbl : b.2.1.length ≤ 4611686018427387904) (hml : b.2.2.2.2.length ≤ 9000000000000000000) (hms : ∀ x ∈ b.2.2.2.2, x.2.2.2.2.length ≤ 9000000000000000000) :
    Ev (fun k => Check27 k c b) (checkV c b, ()) := by
  unfold Check27 checkV
  refine .bind h8 (.no rfl ?_)
  by_cases h1 : b.2.2.1 < 1 ∨ b.2.2.1 > 64
  · rw [if_pos h1]
    refine .yes ?_ (.now _)
    by_cases h : b.2.2.1 < 1
    · rw [decide_eq_true h]; rfl
    · rw [decide_eq_false h]; exact decide_eq_true (h1.resolve_left h)
  · rw [if_neg h1]
    refine .no (by rw [decide_eq_false (fun h => h1 (.inl h))]; exact decide_eq_false (fun h => h1 (.inr h))) ?_
    rw [w64_id (by omega) (by omega)]
    by_cases h2 : b.1 < 0 ∨ b.1 > 65536 - (b.2.1.length : Int)
    · rw [if_pos h2]
      refine .yes ?_ (.now _)
      by_cases h : b.1 < 0
      · rw [decide_eq_true h]; rfl
      · rw [decide_eq_false h]; exact decide_eq_true (h2.resolve_left h)
    · rw [if_neg h2]
      refine .no (by rw [decide_eq_false (fun h => h2 (.inl h))]; exact decide_eq_false (fun h => h2 (.inr h))) ?_
      have hB : Base c b := ⟨hi, by omega, hby⟩
      have hNn : b.2.2.1 = ((b.2.2.1.toNat : Nat) : Int) := by omega
      have hP := parse_p hc hB b.2.2.1.toNat hNn (by omega) b.2.2.1.toNat [] parsed_nil (by simp)
      cases hq : parseB c b.2.1 b.2.2.1.toNat [] with
      | inr e =>
        rw [hq] at hP
        exact .joinR hP.ev
      | inl xs =>
        rw [hq] at hP
        obtain ⟨hpx, hlx⟩ := parse_ok parsed_nil hq
        have hok := parsed_ok hi hpx
        have hlx : xs.length = b.2.2.1.toNat := by rw [hlx]; simp
        have hmv := movs_len hok
        refine .joinL (S := Unit) hP.ev ?_
        have hdl : (b.2.1.drop (tot xs)).length = b.2.1.length - tot xs := List.length_drop
        have hpl := hpx.len
        by_cases h3 : tot xs < b.2.1.length
        · simp only [if_pos h3]
          exact .yes (decide_eq_true (by rw [hdl]; omega)) (.now _)
        · simp only [if_neg h3]
          refine .no (decide_eq_false (by rw [hdl]; omega)) (.bind (eqM_ev' _ _ hml hms) ?_)
          by_cases h4 : b.2.2.2.2 = movs xs
          · simp only [if_pos h4]
            exact .no (by rw [decide_eq_true h4]; rfl) (.bind (ended_p hc hn h8 hB hpx (by omega) (by omega)) (.now _))
          · simp only [if_neg h4]
            exact .yes (by rw [decide_eq_false h4]; rfl) (.now _)
end Go.Proofs.YtcppmlgnceldmaaGreat.Fl

/- Go functions as plain Lean functions, and their contracts. -/
set_option linter.unusedVariables false
set_option maxRecDepth 100000
noncomputable section
namespace Go.Proofs.YtcppmlgnceldmaaGreat.Fl
open Go Go.Proofs.YtcppmlgnceldmaaGreat.Gp
end Go.Proofs.YtcppmlgnceldmaaGreat.Fl

/- Blocks: what the reference's check says, and that it says the same. No program in sight. -/
set_option linter.unusedVariables false
set_option maxRecDepth 100000
noncomputable section
namespace Go.Proofs.YtcppmlgnceldmaaGreat.Fl
open Go Go.Proofs.YtcppmlgnceldmaaGreat.Gp

abbrev codB (b : Blk) : Cod := (b.1, b.2.1, [])
theorem at_t {b : Blk} (h0 : 0 ≤ b.1) {t : Nat} (ht : t < b.2.1.length) : atI (codB b) (b.1 + (t : Int)) = some (b.2.1.getD t 0).toNat := by
  unfold atI
  rw [if_pos ⟨by omega, by show b.1 ≤ _; omega, by show b.1 + (t : Int) < b.1 + (b.2.1.length : Int); omega⟩]
  congr 2
  show b.2.1.getD (b.1 + (t : Int) - b.1).toNat 0 = _
  congr 1
  omega
theorem at_o {b : Blk} {t : Nat} (ht : b.2.1.length ≤ t) : atI (codB b) (b.1 + (t : Int)) = none := by
  unfold atI
  exact if_neg (fun h => by have : b.1 + (t : Int) < b.1 + (b.2.1.length : Int) := h.2.2; omega)
theorem drop_get {l m : List Int} {t : Nat} {op : Int} (h : l.drop t = op :: m) : t < l.length ∧ l.getD t 0 = op := by
  have h1 : t < l.length := by
    rcases Nat.lt_or_ge t l.length with h2 | h2
    · exact h2
    · rw [List.drop_eq_nil_of_le h2] at h; cases h
  refine ⟨h1, ?_⟩
  rw [List.drop_eq_getElem_cons h1] at h
  cases h
  rw [List.getD_eq_getElem?_getD, List.getElem?_eq_getElem h1]; rfl
theorem begun_inl {c : Cpu} {b : Blk} (h : Base c b) {t : Nat} {x : Ins} (hs : step1 c (b.2.1.drop t) = .inl x) : begunR c (codB b) (b.1 + (t : Int)) = (x, 0, ()) := by
  obtain ⟨op, l, e1, e2, e3⟩ := step1_inl hs
  obtain ⟨g1, g2⟩ := drop_get e1
  have ho := h.byte op (List.mem_of_mem_drop (by rw [e1]; exact List.mem_cons_self ..))
  have h0 := h.at'.1
  unfold begunR
  rw [at_t h0 g1, g2]
  have : ((op.toNat : Nat) : Int) = op := Int.toNat_of_nonneg ho.1
  simp only [this, e2]
  rw [List.length_drop] at e3
  unfold lenI at e3
  rw [show b.1 + (t : Int) + (sizeV x.2.2.1 : Int) = b.1 + ((t + sizeV x.2.2.1 : Nat) : Int) by omega, at_t h0 (by omega)]
theorem begun_inr {c : Cpu} {b : Blk} (h : Base c b) {t : Nat} {e : Int} (hs : step1 c (b.2.1.drop t) = .inr e) : ∃ e', begunR c (codB b) (b.1 + (t : Int)) = (none4, e', ()) ∧ (if e' = 19 then 13 else e') = e := by
  have h0 := h.at'.1
  unfold begunR
  cases hd : b.2.1.drop t with
  | nil =>
    rw [hd] at hs
    cases hs
    have : b.2.1.length ≤ t := List.drop_eq_nil_iff.1 hd
    rw [at_o this]
    exact ⟨19, rfl, rfl⟩
  | cons op l =>
    obtain ⟨g1, g2⟩ := drop_get hd
    have ho := h.byte op (List.mem_of_mem_drop (by rw [hd]; exact List.mem_cons_self ..))
    have hop : ((op.toNat : Nat) : Int) = op := Int.toNat_of_nonneg ho.1
    rw [at_t h0 g1, g2]
    simp only [hop]
    rw [hd] at hs
    unfold step1 at hs
    cases hf : findI c op with
    | none =>
      simp only [hf] at hs
      cases hs
      exact ⟨4, rfl, rfl⟩
    | some x =>
      simp only [hf] at hs
      split at hs
      · cases hs
        rename_i hl
        have hdl := congrArg List.length hd
        rw [List.length_drop, List.length_cons] at hdl
        unfold lenI at hl
        simp only
        rw [show b.1 + (t : Int) + (sizeV x.2.2.1 : Int) = b.1 + ((t + sizeV x.2.2.1 : Nat) : Int) by omega, at_o (by omega)]
        exact ⟨13, rfl, rfl⟩
      · cases hs
end Go.Proofs.YtcppmlgnceldmaaGreat.Fl

/- Blocks: how they are made; the laws. No program in sight. -/
set_option linter.unusedVariables false
set_option maxRecDepth 100000
noncomputable section
namespace Go.Proofs.YtcppmlgnceldmaaGreat.Fl
open Go Go.Proofs.YtcppmlgnceldmaaGreat.Gp

abbrev MkS := List Ins × List Int × Bool
def makeB (c : Cpu) (bytes : List Int) (t0 : Nat) (addr : Int) : Nat → List Ins → List Int → Bool → MkS
  | 0, xs, bs, last => (xs, bs, last)
  | n + 1, xs, bs, last => if last then (xs, bs, last) else match step1 c (bytes.drop (t0 + bs.length)) with
    | .inr _ => (xs, bs, last)
    | .inl x => makeB c bytes t0 addr n (xs ++ [x]) (bs ++ (bytes.drop (t0 + bs.length)).take (lenI x)) (awayA c (addr + (bs.length : Int)) ((bytes.drop (t0 + bs.length)).take (lenI x)))
structure Made (c : Cpu) (code : Cod) (t0 : Nat) (addr : Int) (xs : List Ins) (bs : List Int) (last : Bool) : Prop where
  tot : tot xs = bs.length
  pars : Parsed c bs xs
  len : xs.length ≤ 64
  mem : ∀ y ∈ bs, y ∈ code.2.1
  fits : t0 + bs.length ≤ code.2.1.length
  aw : ∀ i, i < xs.length → awf c addr bs xs i = (last && decide (i + 1 = xs.length))
theorem made_nil {c : Cpu} {code : Cod} {t0 : Nat} {addr : Int} (h : t0 ≤ code.2.1.length) : Made c code t0 addr [] [] false :=
  ⟨rfl, parsed_nil, Nat.zero_le _, (fun y hy => by cases hy), h, fun i hi => absurd hi (Nat.not_lt_zero _)⟩
theorem parsed_app {c : Cpu} {bs m : List Int} {xs : List Ins} (h : Parsed c bs xs) : Parsed c (bs ++ m) xs := by
  refine ⟨by rw [List.length_append]; have := h.len; omega, fun i x hx => ?_⟩
  have := parsed_next h hx
  rw [List.drop_append_of_le_length (by omega)]
  exact step1_app (h.at' i x hx)
theorem awf_app {c : Cpu} {base : Int} {bs m : List Int} {xs : List Ins} (h : Parsed c bs xs) {i : Nat} {x : Ins} (hx : xs[i]? = some x) : awf c base (bs ++ m) xs i = awf c base bs xs i := by
  have := parsed_next h hx
  rw [awf_at hx, awf_at hx, List.drop_append_of_le_length (by omega), List.take_append_of_le_length (by rw [List.length_drop]; omega)]
theorem awf_snoc {c : Cpu} {base : Int} {bs : List Int} {xs : List Ins} {x : Ins} {i : Nat} (h : i < xs.length) : awf c base bs (xs ++ [x]) i = awf c base bs xs i := by
  have hx : xs[i]? = some xs[i] := List.getElem?_eq_getElem h
  have hx2 : (xs ++ [x])[i]? = some xs[i] := by rw [List.getElem?_append_left h]; exact hx
  rw [awf_at hx, awf_at hx2, List.take_append_of_le_length (by omega)]
theorem made_snoc {c : Cpu} {code : Cod} {t0 : Nat} {addr : Int} {xs : List Ins} {bs : List Int} (h : Made c code t0 addr xs bs false) (hl : xs.length < 64) {x : Ins} (hs : step1 c (code.2.1.drop (t0 + bs.length)) = .inl x) :
    Made c code t0 addr (xs ++ [x]) (bs ++ (code.2.1.drop (t0 + bs.length)).take (lenI x)) (awayA c (addr + (bs.length : Int)) ((code.2.1.drop (t0 + bs.length)).take (lenI x))) := by
  obtain ⟨op, l, e1, e2, e3⟩ := step1_inl hs
  have hl3 := lenI_le x
  have hsl : ((code.2.1.drop (t0 + bs.length)).take (lenI x)).length = lenI x := by rw [List.length_take]; omega
  have hs2 : step1 c ((code.2.1.drop (t0 + bs.length)).take (lenI x)) = .inl x := by
    rw [e1] at hsl ⊢
    obtain ⟨n, hn⟩ : ∃ n, lenI x = n + 1 := ⟨lenI x - 1, by omega⟩
    rw [hn, List.take_succ_cons] at hsl ⊢
    rw [List.length_cons] at hsl
    exact step1_mk e2 (by omega)
  have hd : (bs ++ (code.2.1.drop (t0 + bs.length)).take (lenI x)).drop (Fl.tot xs) = (code.2.1.drop (t0 + bs.length)).take (lenI x) := by rw [h.tot, List.drop_left]
  rw [List.length_drop] at e3
  have hpx : Parsed c (bs ++ (code.2.1.drop (t0 + bs.length)).take (lenI x)) (xs ++ [x]) := parsed_snoc (parsed_app h.pars) (by rw [hd]; exact hs2)
  refine ⟨?_, hpx, by simp; omega, fun y hy => ?_, ?_, fun i hi => ?_⟩
  · rw [tot_snoc, List.length_append, hsl, h.tot]
  · rcases List.mem_append.1 hy with hy | hy
    · exact h.mem y hy
    · exact List.mem_of_mem_drop (List.mem_of_mem_take hy)
  · rw [List.length_append, hsl]; omega
  · by_cases hix : i < xs.length
    · have hx : xs[i]? = some xs[i] := List.getElem?_eq_getElem hix
      rw [awf_snoc hix, awf_app h.pars hx, h.aw i hix]
      rw [decide_eq_false (p := i + 1 = (xs ++ [x]).length) (by simp; omega), Bool.and_false]; rfl
    · have hi2 : i = xs.length := by simp at hi; omega
      subst hi2
      rw [awf_at (x := x) (by simp), List.take_left, h.tot, List.drop_left]
      rw [decide_eq_true (p := xs.length + 1 = (xs ++ [x]).length) (by simp), Bool.and_true, List.take_of_length_le (by omega)]
theorem makeB_made {c : Cpu} {code : Cod} {t0 : Nat} {addr : Int} : ∀ n xs bs last, xs.length + n = 64 → Made c code t0 addr xs bs last →
    Made c code t0 addr (makeB c code.2.1 t0 addr n xs bs last).1 (makeB c code.2.1 t0 addr n xs bs last).2.1 (makeB c code.2.1 t0 addr n xs bs last).2.2 ∧ xs.length ≤ (makeB c code.2.1 t0 addr n xs bs last).1.length
  | 0, xs, bs, last, e, h => ⟨h, Nat.le_refl _⟩
  | n + 1, xs, bs, last, e, h => by
    unfold makeB
    cases last with
    | true => exact ⟨h, Nat.le_refl _⟩
    | false =>
      rw [if_neg (by decide)]
      cases hs : step1 c (code.2.1.drop (t0 + bs.length)) with
      | inr e => exact ⟨h, Nat.le_refl _⟩
      | inl x =>
        obtain ⟨h1, h2⟩ := makeB_made n _ _ _ (by simp; omega) (made_snoc h (by omega) hs)
        refine ⟨h1, Nat.le_trans ?_ h2⟩
        simp
abbrev codK (code : Cod) : Blk := (code.1, code.2.1, 0, false, [])
theorem base_c {c : Cpu} {code : Cod} (hp : OkP c code) (hd : OkD code) : Base c (codK code) := ⟨hp.ins, hp.base, hd.byte⟩
theorem begun_c {c : Cpu} {code : Cod} (a : Int) : begunR c code a = begunR c (codB (codK code)) a := rfl
abbrev ZS := Int × Unit × Int × Bool × Unit
theorem make_lp {c : Cpu} (hc : Wc c) (hn : Wn c) (h8 : Ev (fun k => Check8 k c) (0, ())) {code : Cod} (hp : OkP c code) (hd : OkD code) (h0 : Ev (fun k => Check20 k c code) (0, ())) {t0 : Nat} {addr : Int} (ha : addr = code.1 + (t0 : Int)) (o0 : ZS) :
    ∀ n xs bs last, xs.length + n = 64 → Made c code t0 addr xs bs last →
      Gp.Lp (fun k => Make23.l0 k addr) (c, code, (), (), o0, (addr, (), (xs.length : Int), last, ()), bs, movs xs)
        ((), (), o0, (addr, (), ((makeB c code.2.1 t0 addr n xs bs last).1.length : Int), (makeB c code.2.1 t0 addr n xs bs last).2.2, ()), (makeB c code.2.1 t0 addr n xs bs last).2.1, movs (makeB c code.2.1 t0 addr n xs bs last).1) ∧
      Gp.Lp (fun k => Block24.l0 k) (addr + (bs.length : Int), c, code, (), (), o0, (addr, (), (xs.length : Int), last, ()), bs, movs xs)
        ((), (), o0, (addr, (), ((makeB c code.2.1 t0 addr n xs bs last).1.length : Int), (makeB c code.2.1 t0 addr n xs bs last).2.2, ()), (makeB c code.2.1 t0 addr n xs bs last).2.1, movs (makeB c code.2.1 t0 addr n xs bs last).1) := by
  have hb := hd.base
  have hcl := hd.len
  have hB := base_c hp hd
  intro n
  induction n with
  | zero =>
    intro xs bs last hx hm
    refine ⟨.done ?_, .done ?_⟩
    · simp only [Make23.l0]
      exact .no (by rw [decide_eq_false (by omega)]; rfl) (.now _)
    · simp only [Block24.l0]
      exact .no (by rw [decide_eq_false (by omega)]; rfl) (.now _)
  | succ n ih =>
    intro xs bs last hx hm
    have hlt : decide ((xs.length : Int) < 64) = true := decide_eq_true (by omega)
    unfold makeB
    cases last with
    | true =>
      refine ⟨.done ?_, .done ?_⟩
      · simp only [Make23.l0]
        exact .no (by rw [hlt]; rfl) (.now _)
      · simp only [Block24.l0]
        exact .no (by rw [hlt]; rfl) (.now _)
    | false =>
      rw [if_neg (by decide)]
      have hcnd : cond (decide ((xs.length : Int) < 64)) (!false) false = true := by rw [hlt]; rfl
      have hfit := hm.fits
      have hxl := hm.len
      have htot := hm.tot
      have ht := @tot_le xs
      have hat : addr + (bs.length : Int) = code.1 + ((t0 + bs.length : Nat) : Int) := by rw [ha]; omega
      have hwa : w64 (addr + (bs.length : Int)) = addr + (bs.length : Int) := w64_id (by omega) (by omega)
      have hN := next_p hc hp hd (addr := addr + (bs.length : Int)) ⟨by omega, by omega⟩ h0
      have hS := starts_r hc hp hd (addr := addr + (bs.length : Int)) ⟨by omega, by omega⟩
      have hW := nextW_r hc hp hd (addr := addr + (bs.length : Int)) ⟨by omega, by omega⟩
      have hok := parsed_ok hp.ins hm.pars
      have hml := movs_len hok
      cases hs : step1 c (code.2.1.drop (t0 + bs.length)) with
      | inr e =>
        obtain ⟨e', he', hee⟩ := begun_inr hB (t := t0 + bs.length) hs
        have hbg : begunR c code (addr + (bs.length : Int)) = (none4, e', ()) := by rw [begun_c, hat]; exact he'
        have hne : e' ≠ 0 := fun h => step1_ne hs (by rw [← hee, h]; rfl)
        have hnx : nextR c code (addr + (bs.length : Int)) = (zeroW, e', ()) := by unfold nextR; rw [hbg]; exact if_pos hne
        rw [hnx] at hN
        rw [hbg] at hS
        refine ⟨.done ?_, .done ?_⟩
        · simp only [Make23.l0]
          refine .yes hcnd ?_
          rw [hwa]
          exact .bind hN (.yes (bne_iff_ne.2 hne) (.now _))
        · simp only [Block24.l0]
          exact .yes hcnd (.bind hS (.yes (bne_iff_ne.2 hne) (.now _)))
      | inl x =>
        obtain ⟨op, l, e1, e2, e3⟩ := step1_inl hs
        have hl3 := lenI_le x
        have hox := hp.ins x (findI_mem e2)
        have hmi := movesI_len hox
        have hbg : begunR c code (addr + (bs.length : Int)) = (x, 0, ()) := by rw [begun_c, hat]; exact begun_inl hB (t := t0 + bs.length) hs
        have hnx : nextR c code (addr + (bs.length : Int)) = (wayA code x (addr + (bs.length : Int)) A0, 0, ()) := by unfold nextR; rw [hbg]; exact if_neg (by simp)
        rw [hnx] at hN hW
        rw [hbg] at hS
        have hwsz : (wayA code x (addr + (bs.length : Int)) A0).1 = (lenI x : Int) := by show 1 + (sizeV x.2.2.1 : Int) = _; unfold lenI; omega
        rw [List.length_drop] at e3
        have hk : addr + (bs.length : Int) - code.1 = ((t0 + bs.length : Nat) : Int) := by omega
        have hwk : w64 (addr + (bs.length : Int) - code.1) = ((t0 + bs.length : Nat) : Int) := by rw [hk]; exact w64_id (by omega) (by omega)
        have hwe : w64 (((t0 + bs.length : Nat) : Int) + (lenI x : Int)) = ((t0 + bs.length + lenI x : Nat) : Int) := by rw [w64_id (by omega) (by omega)]; omega
        have hsl : slc code.2.1 ((t0 + bs.length : Nat) : Int) ((t0 + bs.length + lenI x : Nat) : Int) = some ((code.2.1.drop (t0 + bs.length)).take (lenI x)) := by
          rw [slc_ok (by omega) (by omega), List.drop_take]
          congr 2
          omega
        have hpc := piece_of hB (t := t0 + bs.length) (n := lenI x) hl3.2 (by show t0 + bs.length + lenI x ≤ code.2.1.length; omega)
        have hpc : Piece c (addr + (bs.length : Int)) ((code.2.1.drop (t0 + bs.length)).take (lenI x)) := by rw [hat]; exact hpc
        have hA := away_p hc hn h8 hpc
        have hR := away_r hc hp hd (at_ := addr + (bs.length : Int)) (by omega) hbg (k := t0 + bs.length) (n := lenI x) hk rfl (by omega) hpc
        have hgl : ((code.2.1.drop (t0 + bs.length)).take (lenI x)).length = lenI x := by rw [List.length_take, List.length_drop]; omega
        have hop := drop_get e1
        have hrd : rd code.2.1 ((t0 + bs.length : Nat) : Int) = some op := by
          rw [rd_nat, List.getElem?_eq_getElem hop.1]
          have := hop.2
          rw [List.getD_eq_getElem?_getD, List.getElem?_eq_getElem hop.1] at this
          exact congrArg some this
        have hf := find_ev hc op
        rw [show findR c op = (x, true, ()) from by unfold findR; rw [e2]] at hf
        have hw : w64 op = op := find_b hc hB e1
        obtain ⟨i1, i2⟩ := ih (xs ++ [x]) (bs ++ (code.2.1.drop (t0 + bs.length)).take (lenI x)) _ (by simp; omega) (made_snoc hm (by omega) hs)
        have hsz1 : w64 ((xs.length : Int) + 1) = (((xs ++ [x]).length : Nat) : Int) := by rw [w64_id (by omega) (by omega)]; simp
        refine ⟨.step ?_ i1, .step ?_ i2⟩
        · simp only [Make23.l0]
          refine .yes hcnd ?_
          rw [hwa]
          refine .bind hN (.no rfl ?_)
          rw [hwk]
          refine .bind (a := (c, code, (), (), wayA code x (addr + (bs.length : Int)) A0, x, o0, (addr, (), (xs.length : Int), false, ()), bs, movs xs)) (.val hrd ?_) ?_
          · rw [hw]
            exact Ev.agr (.bind hf (.now _)) (.bind hf (.now _))
          · show Ev (fun k => (slc code.2.1 ((t0 + bs.length : Nat) : Int) (w64 (((t0 + bs.length : Nat) : Int) + (wayA code x (addr + (bs.length : Int)) A0).1))).bind _) _
            rw [hwsz, hwe]
            refine .val hsl (.val (if_pos (room_ok ?_)) (.bind (moves_p hox) (.val (if_pos (room_ok ?_)) (.val hsl (.bind hA (.now' ?_))))))
            · show (bs.length + ((code.2.1.drop (t0 + bs.length)).take (lenI x)).length) * 1 ≤ _
              rw [hgl]; omega
            · show ((movs xs).length + (movesI x).length) * 56 ≤ _
              omega
            · rw [hsz1, movs_snoc]
        · simp only [Block24.l0]
          refine .yes hcnd (.bind hS (.no rfl (.bind hW ?_)))
          show Ev (fun k => (slc code.2.1 (w64 (addr + (bs.length : Int) - code.1)) (w64 (w64 (addr + (bs.length : Int) - code.1) + (wayA code x (addr + (bs.length : Int)) A0).1))).bind _) _
          rw [hwk, hwsz, hwe]
          refine .val hsl (.val (if_pos (room_ok ?_)) (.bind (moves_r hox) (.val (if_pos (room_ok ?_)) (.bind hR (.now' ?_)))))
          · show (bs.length + ((code.2.1.drop (t0 + bs.length)).take (lenI x)).length) * 1 ≤ _
            rw [hgl]; omega
          · show ((movs xs).length + (movesI x).length) * 56 ≤ _
            omega
          · have hbs : (((bs ++ (code.2.1.drop (t0 + bs.length)).take (lenI x)).length : Nat) : Int) = (bs.length : Int) + (lenI x : Int) := by rw [List.length_append, hgl]; omega
            rw [hsz1, movs_snoc, hbs, w64_id (by omega) (by omega), Int.add_assoc]
def zeroB : Blk := (0, [], 0, false, [])
def mkT (code : Cod) (addr : Int) : Nat := (addr - code.1).toNat
def mkR (c : Cpu) (code : Cod) (addr : Int) : MkS := makeB c code.2.1 (mkT code addr) addr 64 [] [] false
def mkV (c : Cpu) (code : Cod) (addr : Int) : Blk := (addr, (mkR c code addr).2.1, ((mkR c code addr).1.length : Int), (mkR c code addr).2.2, movs (mkR c code addr).1)
def makeV (c : Cpu) (code : Cod) (addr : Int) : Blk × Int × Unit := if (begunR c code addr).2.1 ≠ 0 then (zeroB, (begunR c code addr).2.1, ()) else (mkV c code addr, 0, ())
theorem begun_in {c : Cpu} {code : Cod} {addr : Int} (h : (begunR c code addr).2.1 = 0) : code.1 ≤ addr ∧ addr < code.1 + (code.2.1.length : Int) := by
  unfold begunR at h
  cases h1 : atI code addr with
  | none => rw [h1] at h; cases h
  | some n =>
    unfold atI at h1
    split at h1
    · rename_i g
      exact g.2
    · cases h1
theorem make_both {c : Cpu} (hc : Wc c) (hn : Wn c) (h8 : Ev (fun k => Check8 k c) (0, ())) {code : Cod} (hp : OkP c code) (hd : OkD code) {addr : Int} (ha : -9223372036854775808 ≤ addr ∧ addr ≤ 9223372036854775807) (h0 : Ev (fun k => Check20 k c code) (0, ())) :
    Ev (fun k => Make23 k c code addr) (makeV c code addr, ()) ∧ Ev (fun k => Block24 k c code addr) (makeV c code addr, ()) := by
  have hN := next_p hc hp hd ha h0
  have hS := starts_r hc hp hd ha
  have hb := hd.base
  unfold makeV Make23 Block24
  by_cases he : (begunR c code addr).2.1 ≠ 0
  · rw [if_pos he]
    have hnx : nextR c code addr = (zeroW, (begunR c code addr).2.1, ()) := by unfold nextR; exact if_pos he
    rw [hnx] at hN
    exact ⟨.bind hN (.yes (bne_iff_ne.2 he) (.now _)), .bind hS (.yes (bne_iff_ne.2 he) (.now _))⟩
  · rw [if_neg he]
    have he : (begunR c code addr).2.1 = 0 := by omega
    obtain ⟨g1, g2⟩ := begun_in he
    have hnx : (nextR c code addr).2.1 = 0 := by unfold nextR; rw [if_neg (by omega)]
    obtain ⟨l1, l2⟩ := make_lp hc hn h8 hp hd h0 (t0 := mkT code addr) (addr := addr) (by unfold mkT; omega) (0, (), 0, false, ()) 64 [] [] false rfl (made_nil (by unfold mkT; omega))
    have e0 : addr + ((([] : List Int).length : Nat) : Int) = addr := by show addr + ((0 : Nat) : Int) = addr; omega
    rw [e0] at l2
    exact ⟨.bind hN (.no (by rw [hnx]; rfl) (.bind l1.ev (.now _))), .bind hS (.no (by rw [he]; rfl) (.bind l2.ev (.now _)))⟩
theorem made_check {c : Cpu} {code : Cod} (hp : OkP c code) (hd : OkD code) {addr : Int} (he : (begunR c code addr).2.1 = 0) : checkV c (mkV c code addr) = 0 ∧ (mkV c code addr).2.1.length ≤ 65536 ∧ (∀ x ∈ (mkV c code addr).2.1, 0 ≤ x ∧ x < 256) ∧ (mkV c code addr).2.2.2.2.length ≤ 576 ∧ (∀ x ∈ (mkV c code addr).2.2.2.2, x.2.2.2.2.length ≤ 6) := by
  have hb := hd.base
  have hcl := hd.len
  obtain ⟨g1, g2⟩ := begun_in he
  have ht0 : addr = code.1 + (mkT code addr : Int) := by unfold mkT; omega
  obtain ⟨hM, _⟩ := makeB_made (c := c) (code := code) (t0 := mkT code addr) (addr := addr) 64 [] [] false rfl (made_nil (by unfold mkT; omega))
  have hne : 1 ≤ (mkR c code addr).1.length := by
    have hB := base_c hp hd
    unfold mkR makeB
    rw [if_neg (by decide)]
    cases hs : step1 c (code.2.1.drop (mkT code addr + ([] : List Int).length)) with
    | inr e =>
      obtain ⟨e', he', hee⟩ := begun_inr hB (t := mkT code addr) hs
      have : begunR c code (code.1 + (mkT code addr : Int)) = (none4, e', ()) := he'
      rw [← ht0] at this
      rw [this] at he
      have he : e' = 0 := he
      exact absurd (by rw [← hee, he]; rfl) (step1_ne hs)
    | inl x =>
      have := (makeB_made (c := c) (code := code) (t0 := mkT code addr) (addr := addr) 63 ([] ++ [x]) _ _ rfl (made_snoc (made_nil (by unfold mkT; omega)) (by decide) hs)).2
      simpa using this
  have hM : Made c code (mkT code addr) addr (mkR c code addr).1 (mkR c code addr).2.1 (mkR c code addr).2.2 := hM
  unfold mkV
  generalize mkR c code addr = z at hM hne
  have hf := hM.fits
  have hl := hM.len
  have hok := parsed_ok hp.ins hM.pars
  have hml := movs_len hok
  refine ⟨?_, by show z.2.1.length ≤ 65536; omega, fun x hx => hd.byte x (hM.mem x hx), by show (movs z.1).length ≤ 576; omega, movs_steps hok⟩
  unfold checkV
  rw [if_neg (by show ¬ ((z.1.length : Int) < 1 ∨ (z.1.length : Int) > 64); omega), if_neg (by show ¬ (addr < 0 ∨ addr > 65536 - (z.2.1.length : Int)); omega)]
  have hpz : parseB c z.2.1 ((z.1.length : Int)).toNat [] = .inl z.1 := by
    have := parse_of hM.pars z.1.length 0 (by omega)
    rw [List.take_zero] at this
    rw [Int.toNat_natCast]
    exact this
  show (match parseB c z.2.1 ((z.1.length : Int)).toNat [] with | .inr e => e | .inl xs => if tot xs < z.2.1.length then 3 else if movs z.1 = movs xs then endV (awf c addr z.2.1 xs) xs.length z.2.2 xs.length 0 else 12) = 0
  rw [hpz]
  show (if tot z.1 < z.2.1.length then 3 else if movs z.1 = movs z.1 then endV (awf c addr z.2.1 z.1) z.1.length z.2.2 z.1.length 0 else 12) = (0 : Int)
  rw [if_neg (by have := hM.tot; omega), if_pos rfl]
  exact endV_zero hM.aw _ _ (by omega)
theorem check8_of {c : Cpu} (hc : Wc c) (hn : Wn c) {code : Cod} (h0 : Ev (fun k => Check20 k c code) (0, ())) : Ev (fun k => Check8 k c) (0, ()) ∧ ∀ x ∈ c.2.1, OkI x := by
  obtain ⟨v, hv, hp⟩ := check_ok hc hn
  by_cases h : v.1 = 0
  · have : v = (0, ()) := by obtain ⟨v1, v2⟩ := v; cases v2; have h : v1 = 0 := h; rw [h]
    subst this
    exact ⟨hv, hp rfl⟩
  · have : Ev (fun k => Check20 k c code) (v.1, ()) := by
      unfold Check20
      exact .bind hv (.yes (bne_iff_ne.2 h) (.now _))
    have := Ev.one this h0
    exact absurd (congrArg Prod.fst this) h
def madeB : Bool := (begunR cpuV nopC 512).2.1 == 0 && (mkV cpuV nopC 512).2.2.1 == 2 && (mkV cpuV nopC 512).2.2.2.1 && (mkV cpuV nopC 512).2.2.2.2.length == 5
theorem made_true : madeB = true := by kernel_rfl
theorem made_ev : Ev (fun k => made25 k) (true, ()) := by
  obtain ⟨hp, h0⟩ := cpu_okp
  have h8 := (check8_of cpu_wc cpu_wn h0).1
  have hM := (make_both cpu_wc cpu_wn h8 hp nop_okd (addr := 512) ⟨by decide, by decide⟩ h0).1
  have hl := made_true
  unfold madeB at hl
  rw [Bool.and_eq_true, Bool.and_eq_true, Bool.and_eq_true] at hl
  obtain ⟨⟨⟨l1, l2⟩, l3⟩, l4⟩ := hl
  have l1 : (begunR cpuV nopC 512).2.1 = 0 := by simpa using l1
  have l2 : (mkV cpuV nopC 512).2.2.1 = 2 := by simpa using l2
  have l4 : (mkV cpuV nopC 512).2.2.2.2.length = 5 := by simpa using l4
  have e : makeV cpuV nopC 512 = (mkV cpuV nopC 512, 0, ()) := by unfold makeV; exact if_neg (by omega)
  rw [e] at hM
  unfold made25
  refine .bind cpu_ev (.bind nop_ev (.bind hM (.now' ?_)))
  show (cond (cond (cond (0 == 0) ((mkV cpuV nopC 512).2.2.1 == 2) false) (mkV cpuV nopC 512).2.2.2.1 false) (((mkV cpuV nopC 512).2.2.2.2.length : Int) == 5) false, ()) = (true, ())
  rw [l2, l3, l4]
  rfl
theorem law_makes (c : Cpu) (code : Cod) (addr : Int) (hc : Wc c) (hn : Wn c) (hb : ∀ x ∈ code.2.1, 0 ≤ x ∧ x < 256) (ha : -9223372036854775808 ≤ addr ∧ addr ≤ 9223372036854775807) : ∃ k, TransMakes5 k c code addr = some (true, ()) := by
  refine Ev.ex ?_
  obtain ⟨e, h1, h2, h3⟩ := fault_ok hc hn code
  unfold TransMakes5
  by_cases he : e = 0
  · subst he
    have hp := h3 rfl
    have hd : OkD code := ⟨hp.len, hp.base, hb⟩
    have h8 := (check8_of hc hn h2).1
    obtain ⟨m1, m2⟩ := make_both hc hn h8 hp hd ha h2
    by_cases hg : (begunR c code addr).2.1 ≠ 0
    · have e : makeV c code addr = (zeroB, (begunR c code addr).2.1, ()) := by unfold makeV; exact if_pos hg
      rw [e] at m1 m2
      refine .bind h1 (.bind m1 (.bind (a := (c, (begunR c code addr).2.1, zeroB, (), zeroB)) (.yes rfl (.bind m2 (.now _))) (.bind made_ev (.bind (a := true) (.yes (by simp) (.bind (sameB_ev zeroB (by decide) (by decide) (fun x hx => by cases hx)) (.now _))) (.bind (a := true) (.yes rfl (.bind (a := true) (.yes (bne_iff_ne.2 hg) (.now _)) (.now _))) (.now _))))))
    · have e : makeV c code addr = (mkV c code addr, 0, ()) := by unfold makeV; exact if_neg hg
      rw [e] at m1 m2
      obtain ⟨c1, c2, c3, c4, c5⟩ := made_check hp hd (addr := addr) (by omega)
      have hck := check_p hc hn h8 hp.ins c3 (by omega) (by omega) (fun x hx => Nat.le_trans (c5 x hx) (by decide))
      rw [c1] at hck
      refine .bind h1 (.bind m1 (.bind (a := (c, 0, mkV c code addr, (), mkV c code addr)) (.yes rfl (.bind m2 (.now _))) (.bind made_ev (.bind (a := true) (.yes rfl (.bind (sameB_ev _ (by omega) (by omega) (fun x hx => Nat.le_trans (c5 x hx) (by decide))) (.now _))) (.bind (a := true) (.yes rfl (.bind (a := true) (.no rfl (.bind hck (.now _))) (.now _))) (.now _))))))
  · have hN := next_bad (addr := addr) he h2
    have m1 : Ev (fun k => Make23 k c code addr) ((zeroB, e, ()), ()) := by
      unfold Make23
      exact .bind hN (.yes (bne_iff_ne.2 he) (.now _))
    refine .bind h1 (.bind m1 (.bind (a := (c, e, zeroB, (), zeroB)) (.no (beq_false_of_ne he) (.now _)) (.bind made_ev (.bind (a := true) (.yes (by simp) (.bind (sameB_ev zeroB (by decide) (by decide) (fun x hx => by cases hx)) (.now _))) (.bind (a := true) (.yes rfl (.bind (a := true) (.yes (bne_iff_ne.2 he) (.now _)) (.now _))) (.now _))))))
theorem transMakes (c : Cpu) (code : Cod) (addr : Int) (hc : WfCpu c) {p q : Prop} (hcode : p ∧ wfL (α := Int) 1 (fun y => (Lit.int .u8 y).wf = true) code.2.1 ∧ q) (ha : (Lit.int .i64 addr).wf = true) : ∃ k, TransMakes5 k c code addr = some (true, ()) :=
  law_makes c code addr (wc_row hc).1 (wc_row hc).2 (fun x hx => lit8 (hcode.2.1.2 x hx)) (lit_wf ha)
end Go.Proofs.YtcppmlgnceldmaaGreat.Fl

/- The row of TransMakes: Make returns what the reference says for all processors, programs and addresses. The law returns true for every input; the input reads as it did. -/
namespace Go.Proofs.YtcppmlgnceldmaaGreat.transMakes
open Go.ChangeShapes Go.WideShapes Go.ChangeAt Go.RowKit Go.Proofs.YtcppmlgnceldmaaGreat.Gp Go.Proofs.YtcppmlgnceldmaaGreat.Fl
set_option linter.unusedVariables false
theorem own : ownKnob Tryz.prog.godebug = none := by kernel_rfl
theorem laidOut : laidOutB Tryz.prog = true := by kernel_rfl
abbrev wf9 : ByteArray → Prop := (fun (y : ByteArray) => y.size ≤ 140737488351232)
abbrev siz9 : ByteArray → Nat := (fun (y : ByteArray) => y.size + 1)
theorem gd9 : Gd Tryz.prog 9 .str wf9 siz9 := gd_str Tryz.underlying9 (by kernel_rfl)
abbrev wf3 : Int → Prop := (fun (y : Int) => (Lit.int .i64 y).wf = true)
abbrev siz3 : Int → Nat := (fun _ => 1)
theorem gd3 : Gd Tryz.prog 3 (.int .i64) wf3 siz3 := gd_int Tryz.underlying3 (by kernel_rfl)
abbrev wf133 : (Int × (Int × (Int × Int))) → Prop := (fun (y : (Int × (Int × (Int × Int)))) => wf3 y.1 ∧ (fun (y : (Int × (Int × Int))) => wf3 y.1 ∧ (fun (y : (Int × Int)) => wf3 y.1 ∧ wf3 y.2) y.2) y.2)
abbrev siz133 : (Int × (Int × (Int × Int))) → Nat := (fun (y : (Int × (Int × (Int × Int)))) => siz3 y.1 + (fun (y : (Int × (Int × Int))) => siz3 y.1 + (fun (y : (Int × Int)) => siz3 y.1 + siz3 y.2) y.2) y.2)
theorem gd133 : Gd Tryz.prog 133 (.st (.pair (.int .i64) (.pair (.int .i64) (.pair (.int .i64) (.int .i64))))) wf133 siz133 := gd_st Tryz.underlying133 (by kernel_rfl) (gdf_cons (k := .int .i64) (k' := .pair (.int .i64) (.pair (.int .i64) (.int .i64))) (wf := wf3) (siz := siz3) (wf' := (fun (y : (Int × (Int × Int))) => wf3 y.1 ∧ (fun (y : (Int × Int)) => wf3 y.1 ∧ wf3 y.2) y.2)) (siz' := (fun (y : (Int × (Int × Int))) => siz3 y.1 + (fun (y : (Int × Int)) => siz3 y.1 + siz3 y.2) y.2)) rfl gd3 (gdf_cons (k := .int .i64) (k' := .pair (.int .i64) (.int .i64)) (wf := wf3) (siz := siz3) (wf' := (fun (y : (Int × Int)) => wf3 y.1 ∧ wf3 y.2)) (siz' := (fun (y : (Int × Int)) => siz3 y.1 + siz3 y.2)) rfl gd3 (gdf_cons (k := .int .i64) (k' := .int .i64) (wf := wf3) (siz := siz3) (wf' := wf3) (siz' := siz3) rfl gd3 (gdf_one rfl gd3))))
abbrev wf124 : (List (Int × (Int × (Int × Int)))) → Prop := (wfL (α := (Int × (Int × (Int × Int)))) 32 wf133)
abbrev siz124 : (List (Int × (Int × (Int × Int)))) → Nat := (sizL (α := (Int × (Int × (Int × Int)))) siz133)
theorem gd124 : Gd Tryz.prog 124 (.sl (.st (.pair (.int .i64) (.pair (.int .i64) (.pair (.int .i64) (.int .i64)))))) wf124 siz124 := gd_sl (B := 32) Tryz.underlying124 (by kernel_rfl) (by kernel_rfl) (by decide) gd133
abbrev wf130 : (Int × (Int × (Int × (List (Int × (Int × (Int × Int))))))) → Prop := (fun (y : (Int × (Int × (Int × (List (Int × (Int × (Int × Int)))))))) => wf3 y.1 ∧ (fun (y : (Int × (Int × (List (Int × (Int × (Int × Int))))))) => wf3 y.1 ∧ (fun (y : (Int × (List (Int × (Int × (Int × Int)))))) => wf3 y.1 ∧ wf124 y.2) y.2) y.2)
abbrev siz130 : (Int × (Int × (Int × (List (Int × (Int × (Int × Int))))))) → Nat := (fun (y : (Int × (Int × (Int × (List (Int × (Int × (Int × Int)))))))) => siz3 y.1 + (fun (y : (Int × (Int × (List (Int × (Int × (Int × Int))))))) => siz3 y.1 + (fun (y : (Int × (List (Int × (Int × (Int × Int)))))) => siz3 y.1 + siz124 y.2) y.2) y.2)
theorem gd130 : Gd Tryz.prog 130 (.st (.pair (.int .i64) (.pair (.int .i64) (.pair (.int .i64) (.sl (.st (.pair (.int .i64) (.pair (.int .i64) (.pair (.int .i64) (.int .i64)))))))))) wf130 siz130 := gd_st Tryz.underlying130 (by kernel_rfl) (gdf_cons (k := .int .i64) (k' := .pair (.int .i64) (.pair (.int .i64) (.sl (.st (.pair (.int .i64) (.pair (.int .i64) (.pair (.int .i64) (.int .i64)))))))) (wf := wf3) (siz := siz3) (wf' := (fun (y : (Int × (Int × (List (Int × (Int × (Int × Int))))))) => wf3 y.1 ∧ (fun (y : (Int × (List (Int × (Int × (Int × Int)))))) => wf3 y.1 ∧ wf124 y.2) y.2)) (siz' := (fun (y : (Int × (Int × (List (Int × (Int × (Int × Int))))))) => siz3 y.1 + (fun (y : (Int × (List (Int × (Int × (Int × Int)))))) => siz3 y.1 + siz124 y.2) y.2)) rfl gd3 (gdf_cons (k := .int .i64) (k' := .pair (.int .i64) (.sl (.st (.pair (.int .i64) (.pair (.int .i64) (.pair (.int .i64) (.int .i64))))))) (wf := wf3) (siz := siz3) (wf' := (fun (y : (Int × (List (Int × (Int × (Int × Int)))))) => wf3 y.1 ∧ wf124 y.2)) (siz' := (fun (y : (Int × (List (Int × (Int × (Int × Int)))))) => siz3 y.1 + siz124 y.2)) rfl gd3 (gdf_cons (k := .int .i64) (k' := .sl (.st (.pair (.int .i64) (.pair (.int .i64) (.pair (.int .i64) (.int .i64)))))) (wf := wf3) (siz := siz3) (wf' := wf124) (siz' := siz124) rfl gd3 (gdf_one rfl gd124))))
abbrev wf23 : (List (Int × (Int × (Int × (List (Int × (Int × (Int × Int)))))))) → Prop := (wfL (α := (Int × (Int × (Int × (List (Int × (Int × (Int × Int)))))))) 48 wf130)
abbrev siz23 : (List (Int × (Int × (Int × (List (Int × (Int × (Int × Int)))))))) → Nat := (sizL (α := (Int × (Int × (Int × (List (Int × (Int × (Int × Int)))))))) siz130)
theorem gd23 : Gd Tryz.prog 23 (.sl (.st (.pair (.int .i64) (.pair (.int .i64) (.pair (.int .i64) (.sl (.st (.pair (.int .i64) (.pair (.int .i64) (.pair (.int .i64) (.int .i64))))))))))) wf23 siz23 := gd_sl (B := 48) Tryz.underlying23 (by kernel_rfl) (by kernel_rfl) (by decide) gd130
abbrev wf38 : (Int × (ByteArray × (Int × (List (Int × (Int × (Int × (List (Int × (Int × (Int × Int))))))))))) → Prop := (fun (y : (Int × (ByteArray × (Int × (List (Int × (Int × (Int × (List (Int × (Int × (Int × Int)))))))))))) => wf3 y.1 ∧ (fun (y : (ByteArray × (Int × (List (Int × (Int × (Int × (List (Int × (Int × (Int × Int))))))))))) => wf9 y.1 ∧ (fun (y : (Int × (List (Int × (Int × (Int × (List (Int × (Int × (Int × Int)))))))))) => wf3 y.1 ∧ wf23 y.2) y.2) y.2)
abbrev siz38 : (Int × (ByteArray × (Int × (List (Int × (Int × (Int × (List (Int × (Int × (Int × Int))))))))))) → Nat := (fun (y : (Int × (ByteArray × (Int × (List (Int × (Int × (Int × (List (Int × (Int × (Int × Int)))))))))))) => siz3 y.1 + (fun (y : (ByteArray × (Int × (List (Int × (Int × (Int × (List (Int × (Int × (Int × Int))))))))))) => siz9 y.1 + (fun (y : (Int × (List (Int × (Int × (Int × (List (Int × (Int × (Int × Int)))))))))) => siz3 y.1 + siz23 y.2) y.2) y.2)
theorem gd38 : Gd Tryz.prog 38 (.st (.pair (.int .i64) (.pair .str (.pair (.int .i64) (.sl (.st (.pair (.int .i64) (.pair (.int .i64) (.pair (.int .i64) (.sl (.st (.pair (.int .i64) (.pair (.int .i64) (.pair (.int .i64) (.int .i64))))))))))))))) wf38 siz38 := gd_st Tryz.underlying38 (by kernel_rfl) (gdf_cons (k := .int .i64) (k' := .pair .str (.pair (.int .i64) (.sl (.st (.pair (.int .i64) (.pair (.int .i64) (.pair (.int .i64) (.sl (.st (.pair (.int .i64) (.pair (.int .i64) (.pair (.int .i64) (.int .i64))))))))))))) (wf := wf3) (siz := siz3) (wf' := (fun (y : (ByteArray × (Int × (List (Int × (Int × (Int × (List (Int × (Int × (Int × Int))))))))))) => wf9 y.1 ∧ (fun (y : (Int × (List (Int × (Int × (Int × (List (Int × (Int × (Int × Int)))))))))) => wf3 y.1 ∧ wf23 y.2) y.2)) (siz' := (fun (y : (ByteArray × (Int × (List (Int × (Int × (Int × (List (Int × (Int × (Int × Int))))))))))) => siz9 y.1 + (fun (y : (Int × (List (Int × (Int × (Int × (List (Int × (Int × (Int × Int)))))))))) => siz3 y.1 + siz23 y.2) y.2)) rfl gd3 (gdf_cons (k := .str) (k' := .pair (.int .i64) (.sl (.st (.pair (.int .i64) (.pair (.int .i64) (.pair (.int .i64) (.sl (.st (.pair (.int .i64) (.pair (.int .i64) (.pair (.int .i64) (.int .i64)))))))))))) (wf := wf9) (siz := siz9) (wf' := (fun (y : (Int × (List (Int × (Int × (Int × (List (Int × (Int × (Int × Int)))))))))) => wf3 y.1 ∧ wf23 y.2)) (siz' := (fun (y : (Int × (List (Int × (Int × (Int × (List (Int × (Int × (Int × Int)))))))))) => siz3 y.1 + siz23 y.2)) rfl gd9 (gdf_cons (k := .int .i64) (k' := .sl (.st (.pair (.int .i64) (.pair (.int .i64) (.pair (.int .i64) (.sl (.st (.pair (.int .i64) (.pair (.int .i64) (.pair (.int .i64) (.int .i64))))))))))) (wf := wf3) (siz := siz3) (wf' := wf23) (siz' := siz23) rfl gd3 (gdf_one rfl gd23))))
abbrev wf22 : (List (Int × (ByteArray × (Int × (List (Int × (Int × (Int × (List (Int × (Int × (Int × Int)))))))))))) → Prop := (wfL (α := (Int × (ByteArray × (Int × (List (Int × (Int × (Int × (List (Int × (Int × (Int × Int)))))))))))) 56 wf38)
abbrev siz22 : (List (Int × (ByteArray × (Int × (List (Int × (Int × (Int × (List (Int × (Int × (Int × Int)))))))))))) → Nat := (sizL (α := (Int × (ByteArray × (Int × (List (Int × (Int × (Int × (List (Int × (Int × (Int × Int)))))))))))) siz38)
theorem gd22 : Gd Tryz.prog 22 (.sl (.st (.pair (.int .i64) (.pair .str (.pair (.int .i64) (.sl (.st (.pair (.int .i64) (.pair (.int .i64) (.pair (.int .i64) (.sl (.st (.pair (.int .i64) (.pair (.int .i64) (.pair (.int .i64) (.int .i64)))))))))))))))) wf22 siz22 := gd_sl (B := 56) Tryz.underlying22 (by kernel_rfl) (by kernel_rfl) (by decide) gd38
abbrev wf25 : (ByteArray × ((List (Int × (ByteArray × (Int × (List (Int × (Int × (Int × (List (Int × (Int × (Int × Int)))))))))))) × ((List (Int × (Int × (Int × (List (Int × (Int × (Int × Int)))))))) × ((List (Int × (Int × (Int × (List (Int × (Int × (Int × Int)))))))) × (List (Int × (Int × (Int × (List (Int × (Int × (Int × Int)))))))))))) → Prop := (fun (y : (ByteArray × ((List (Int × (ByteArray × (Int × (List (Int × (Int × (Int × (List (Int × (Int × (Int × Int)))))))))))) × ((List (Int × (Int × (Int × (List (Int × (Int × (Int × Int)))))))) × ((List (Int × (Int × (Int × (List (Int × (Int × (Int × Int)))))))) × (List (Int × (Int × (Int × (List (Int × (Int × (Int × Int))))))))))))) => wf9 y.1 ∧ (fun (y : ((List (Int × (ByteArray × (Int × (List (Int × (Int × (Int × (List (Int × (Int × (Int × Int)))))))))))) × ((List (Int × (Int × (Int × (List (Int × (Int × (Int × Int)))))))) × ((List (Int × (Int × (Int × (List (Int × (Int × (Int × Int)))))))) × (List (Int × (Int × (Int × (List (Int × (Int × (Int × Int)))))))))))) => wf22 y.1 ∧ (fun (y : ((List (Int × (Int × (Int × (List (Int × (Int × (Int × Int)))))))) × ((List (Int × (Int × (Int × (List (Int × (Int × (Int × Int)))))))) × (List (Int × (Int × (Int × (List (Int × (Int × (Int × Int))))))))))) => wf23 y.1 ∧ (fun (y : ((List (Int × (Int × (Int × (List (Int × (Int × (Int × Int)))))))) × (List (Int × (Int × (Int × (List (Int × (Int × (Int × Int)))))))))) => wf23 y.1 ∧ wf23 y.2) y.2) y.2) y.2)
abbrev siz25 : (ByteArray × ((List (Int × (ByteArray × (Int × (List (Int × (Int × (Int × (List (Int × (Int × (Int × Int)))))))))))) × ((List (Int × (Int × (Int × (List (Int × (Int × (Int × Int)))))))) × ((List (Int × (Int × (Int × (List (Int × (Int × (Int × Int)))))))) × (List (Int × (Int × (Int × (List (Int × (Int × (Int × Int)))))))))))) → Nat := (fun (y : (ByteArray × ((List (Int × (ByteArray × (Int × (List (Int × (Int × (Int × (List (Int × (Int × (Int × Int)))))))))))) × ((List (Int × (Int × (Int × (List (Int × (Int × (Int × Int)))))))) × ((List (Int × (Int × (Int × (List (Int × (Int × (Int × Int)))))))) × (List (Int × (Int × (Int × (List (Int × (Int × (Int × Int))))))))))))) => siz9 y.1 + (fun (y : ((List (Int × (ByteArray × (Int × (List (Int × (Int × (Int × (List (Int × (Int × (Int × Int)))))))))))) × ((List (Int × (Int × (Int × (List (Int × (Int × (Int × Int)))))))) × ((List (Int × (Int × (Int × (List (Int × (Int × (Int × Int)))))))) × (List (Int × (Int × (Int × (List (Int × (Int × (Int × Int)))))))))))) => siz22 y.1 + (fun (y : ((List (Int × (Int × (Int × (List (Int × (Int × (Int × Int)))))))) × ((List (Int × (Int × (Int × (List (Int × (Int × (Int × Int)))))))) × (List (Int × (Int × (Int × (List (Int × (Int × (Int × Int))))))))))) => siz23 y.1 + (fun (y : ((List (Int × (Int × (Int × (List (Int × (Int × (Int × Int)))))))) × (List (Int × (Int × (Int × (List (Int × (Int × (Int × Int)))))))))) => siz23 y.1 + siz23 y.2) y.2) y.2) y.2)
theorem gd25 : Gd Tryz.prog 25 (.st (.pair .str (.pair (.sl (.st (.pair (.int .i64) (.pair .str (.pair (.int .i64) (.sl (.st (.pair (.int .i64) (.pair (.int .i64) (.pair (.int .i64) (.sl (.st (.pair (.int .i64) (.pair (.int .i64) (.pair (.int .i64) (.int .i64)))))))))))))))) (.pair (.sl (.st (.pair (.int .i64) (.pair (.int .i64) (.pair (.int .i64) (.sl (.st (.pair (.int .i64) (.pair (.int .i64) (.pair (.int .i64) (.int .i64))))))))))) (.pair (.sl (.st (.pair (.int .i64) (.pair (.int .i64) (.pair (.int .i64) (.sl (.st (.pair (.int .i64) (.pair (.int .i64) (.pair (.int .i64) (.int .i64))))))))))) (.sl (.st (.pair (.int .i64) (.pair (.int .i64) (.pair (.int .i64) (.sl (.st (.pair (.int .i64) (.pair (.int .i64) (.pair (.int .i64) (.int .i64)))))))))))))))) wf25 siz25 := gd_st Tryz.underlying25 (by kernel_rfl) (gdf_cons (k := .str) (k' := .pair (.sl (.st (.pair (.int .i64) (.pair .str (.pair (.int .i64) (.sl (.st (.pair (.int .i64) (.pair (.int .i64) (.pair (.int .i64) (.sl (.st (.pair (.int .i64) (.pair (.int .i64) (.pair (.int .i64) (.int .i64)))))))))))))))) (.pair (.sl (.st (.pair (.int .i64) (.pair (.int .i64) (.pair (.int .i64) (.sl (.st (.pair (.int .i64) (.pair (.int .i64) (.pair (.int .i64) (.int .i64))))))))))) (.pair (.sl (.st (.pair (.int .i64) (.pair (.int .i64) (.pair (.int .i64) (.sl (.st (.pair (.int .i64) (.pair (.int .i64) (.pair (.int .i64) (.int .i64))))))))))) (.sl (.st (.pair (.int .i64) (.pair (.int .i64) (.pair (.int .i64) (.sl (.st (.pair (.int .i64) (.pair (.int .i64) (.pair (.int .i64) (.int .i64)))))))))))))) (wf := wf9) (siz := siz9) (wf' := (fun (y : ((List (Int × (ByteArray × (Int × (List (Int × (Int × (Int × (List (Int × (Int × (Int × Int)))))))))))) × ((List (Int × (Int × (Int × (List (Int × (Int × (Int × Int)))))))) × ((List (Int × (Int × (Int × (List (Int × (Int × (Int × Int)))))))) × (List (Int × (Int × (Int × (List (Int × (Int × (Int × Int)))))))))))) => wf22 y.1 ∧ (fun (y : ((List (Int × (Int × (Int × (List (Int × (Int × (Int × Int)))))))) × ((List (Int × (Int × (Int × (List (Int × (Int × (Int × Int)))))))) × (List (Int × (Int × (Int × (List (Int × (Int × (Int × Int))))))))))) => wf23 y.1 ∧ (fun (y : ((List (Int × (Int × (Int × (List (Int × (Int × (Int × Int)))))))) × (List (Int × (Int × (Int × (List (Int × (Int × (Int × Int)))))))))) => wf23 y.1 ∧ wf23 y.2) y.2) y.2)) (siz' := (fun (y : ((List (Int × (ByteArray × (Int × (List (Int × (Int × (Int × (List (Int × (Int × (Int × Int)))))))))))) × ((List (Int × (Int × (Int × (List (Int × (Int × (Int × Int)))))))) × ((List (Int × (Int × (Int × (List (Int × (Int × (Int × Int)))))))) × (List (Int × (Int × (Int × (List (Int × (Int × (Int × Int)))))))))))) => siz22 y.1 + (fun (y : ((List (Int × (Int × (Int × (List (Int × (Int × (Int × Int)))))))) × ((List (Int × (Int × (Int × (List (Int × (Int × (Int × Int)))))))) × (List (Int × (Int × (Int × (List (Int × (Int × (Int × Int))))))))))) => siz23 y.1 + (fun (y : ((List (Int × (Int × (Int × (List (Int × (Int × (Int × Int)))))))) × (List (Int × (Int × (Int × (List (Int × (Int × (Int × Int)))))))))) => siz23 y.1 + siz23 y.2) y.2) y.2)) rfl gd9 (gdf_cons (k := .sl (.st (.pair (.int .i64) (.pair .str (.pair (.int .i64) (.sl (.st (.pair (.int .i64) (.pair (.int .i64) (.pair (.int .i64) (.sl (.st (.pair (.int .i64) (.pair (.int .i64) (.pair (.int .i64) (.int .i64)))))))))))))))) (k' := .pair (.sl (.st (.pair (.int .i64) (.pair (.int .i64) (.pair (.int .i64) (.sl (.st (.pair (.int .i64) (.pair (.int .i64) (.pair (.int .i64) (.int .i64))))))))))) (.pair (.sl (.st (.pair (.int .i64) (.pair (.int .i64) (.pair (.int .i64) (.sl (.st (.pair (.int .i64) (.pair (.int .i64) (.pair (.int .i64) (.int .i64))))))))))) (.sl (.st (.pair (.int .i64) (.pair (.int .i64) (.pair (.int .i64) (.sl (.st (.pair (.int .i64) (.pair (.int .i64) (.pair (.int .i64) (.int .i64))))))))))))) (wf := wf22) (siz := siz22) (wf' := (fun (y : ((List (Int × (Int × (Int × (List (Int × (Int × (Int × Int)))))))) × ((List (Int × (Int × (Int × (List (Int × (Int × (Int × Int)))))))) × (List (Int × (Int × (Int × (List (Int × (Int × (Int × Int))))))))))) => wf23 y.1 ∧ (fun (y : ((List (Int × (Int × (Int × (List (Int × (Int × (Int × Int)))))))) × (List (Int × (Int × (Int × (List (Int × (Int × (Int × Int)))))))))) => wf23 y.1 ∧ wf23 y.2) y.2)) (siz' := (fun (y : ((List (Int × (Int × (Int × (List (Int × (Int × (Int × Int)))))))) × ((List (Int × (Int × (Int × (List (Int × (Int × (Int × Int)))))))) × (List (Int × (Int × (Int × (List (Int × (Int × (Int × Int))))))))))) => siz23 y.1 + (fun (y : ((List (Int × (Int × (Int × (List (Int × (Int × (Int × Int)))))))) × (List (Int × (Int × (Int × (List (Int × (Int × (Int × Int)))))))))) => siz23 y.1 + siz23 y.2) y.2)) rfl gd22 (gdf_cons (k := .sl (.st (.pair (.int .i64) (.pair (.int .i64) (.pair (.int .i64) (.sl (.st (.pair (.int .i64) (.pair (.int .i64) (.pair (.int .i64) (.int .i64))))))))))) (k' := .pair (.sl (.st (.pair (.int .i64) (.pair (.int .i64) (.pair (.int .i64) (.sl (.st (.pair (.int .i64) (.pair (.int .i64) (.pair (.int .i64) (.int .i64))))))))))) (.sl (.st (.pair (.int .i64) (.pair (.int .i64) (.pair (.int .i64) (.sl (.st (.pair (.int .i64) (.pair (.int .i64) (.pair (.int .i64) (.int .i64)))))))))))) (wf := wf23) (siz := siz23) (wf' := (fun (y : ((List (Int × (Int × (Int × (List (Int × (Int × (Int × Int)))))))) × (List (Int × (Int × (Int × (List (Int × (Int × (Int × Int)))))))))) => wf23 y.1 ∧ wf23 y.2)) (siz' := (fun (y : ((List (Int × (Int × (Int × (List (Int × (Int × (Int × Int)))))))) × (List (Int × (Int × (Int × (List (Int × (Int × (Int × Int)))))))))) => siz23 y.1 + siz23 y.2)) rfl gd23 (gdf_cons (k := .sl (.st (.pair (.int .i64) (.pair (.int .i64) (.pair (.int .i64) (.sl (.st (.pair (.int .i64) (.pair (.int .i64) (.pair (.int .i64) (.int .i64))))))))))) (k' := .sl (.st (.pair (.int .i64) (.pair (.int .i64) (.pair (.int .i64) (.sl (.st (.pair (.int .i64) (.pair (.int .i64) (.pair (.int .i64) (.int .i64))))))))))) (wf := wf23) (siz := siz23) (wf' := wf23) (siz' := siz23) rfl gd23 (gdf_one rfl gd23)))))
abbrev wf5 : Int → Prop := (fun (y : Int) => (Lit.int .u8 y).wf = true)
abbrev siz5 : Int → Nat := (fun _ => 1)
theorem gd5 : Gd Tryz.prog 5 (.int .u8) wf5 siz5 := gd_int Tryz.underlying5 (by kernel_rfl)
abbrev wf26 : (List Int) → Prop := (wfL (α := Int) 1 wf5)
abbrev siz26 : (List Int) → Nat := (sizL (α := Int) siz5)
theorem gd26 : Gd Tryz.prog 26 (.sl (.int .u8)) wf26 siz26 := gd_sl (B := 1) Tryz.underlying26 (by kernel_rfl) (by kernel_rfl) (by decide) gd5
abbrev wf265 : (ByteArray × Int) → Prop := (fun (y : (ByteArray × Int)) => wf9 y.1 ∧ wf3 y.2)
abbrev siz265 : (ByteArray × Int) → Nat := (fun (y : (ByteArray × Int)) => siz9 y.1 + siz3 y.2)
theorem gd265 : Gd Tryz.prog 265 (.st (.pair .str (.int .i64))) wf265 siz265 := gd_st Tryz.underlying265 (by kernel_rfl) (gdf_cons (k := .str) (k' := .int .i64) (wf := wf9) (siz := siz9) (wf' := wf3) (siz' := siz3) rfl gd9 (gdf_one rfl gd3))
abbrev wf50 : (List (ByteArray × Int)) → Prop := (wfL (α := (ByteArray × Int)) 24 wf265)
abbrev siz50 : (List (ByteArray × Int)) → Nat := (sizL (α := (ByteArray × Int)) siz265)
theorem gd50 : Gd Tryz.prog 50 (.sl (.st (.pair .str (.int .i64)))) wf50 siz50 := gd_sl (B := 24) Tryz.underlying50 (by kernel_rfl) (by kernel_rfl) (by decide) gd265
abbrev wf52 : (Int × ((List Int) × (List (ByteArray × Int)))) → Prop := (fun (y : (Int × ((List Int) × (List (ByteArray × Int))))) => wf3 y.1 ∧ (fun (y : ((List Int) × (List (ByteArray × Int)))) => wf26 y.1 ∧ wf50 y.2) y.2)
abbrev siz52 : (Int × ((List Int) × (List (ByteArray × Int)))) → Nat := (fun (y : (Int × ((List Int) × (List (ByteArray × Int))))) => siz3 y.1 + (fun (y : ((List Int) × (List (ByteArray × Int)))) => siz26 y.1 + siz50 y.2) y.2)
theorem gd52 : Gd Tryz.prog 52 (.st (.pair (.int .i64) (.pair (.sl (.int .u8)) (.sl (.st (.pair .str (.int .i64))))))) wf52 siz52 := gd_st Tryz.underlying52 (by kernel_rfl) (gdf_cons (k := .int .i64) (k' := .pair (.sl (.int .u8)) (.sl (.st (.pair .str (.int .i64))))) (wf := wf3) (siz := siz3) (wf' := (fun (y : ((List Int) × (List (ByteArray × Int)))) => wf26 y.1 ∧ wf50 y.2)) (siz' := (fun (y : ((List Int) × (List (ByteArray × Int)))) => siz26 y.1 + siz50 y.2)) rfl gd3 (gdf_cons (k := .sl (.int .u8)) (k' := .sl (.st (.pair .str (.int .i64)))) (wf := wf26) (siz := siz26) (wf' := wf50) (siz' := siz50) rfl gd26 (gdf_one rfl gd50)))
set_option maxRecDepth 100000 in
set_option maxHeartbeats 1000000 in
theorem lifted (os : Os) (started : os.Started) (H : Type) (enc : TypeId × Value → H) :
    ReturnsInHanded {} Tryz.checked os 5 .any (Rows.transMakesSpec.pre6 enc Tryz.prog Tryz.f5 Rows.transMakesRow.domain false) (Rows.transMakesSpec.post enc Tryz.prog Tryz.f5 false true false false) := by
  refine returnsInHanded_of_change_sized (C := Tryz.checked) own started (by kernel_rfl) Tryz.func5
    (ChangeSpec.witness6 (enc := enc) (C := Tryz.checked) false ⟨#[], #[.agg #[.string ByteArray.empty, .slice none 0 0, .slice none 0 0, .slice none 0 0, .slice none 0 0], .agg #[.int .i64 0, .slice none 0 0, .slice none 0 0], .int .i64 0], []⟩ 8 (by kernel_rfl) (by kernel_rfl) (by kernel_rfl) (by kernel_rfl)) ?_
  intro W base args ds gs before hval0 hW hcnd hsz0 _
  have hsz : (DataW.weightsEach Tryz.prog (Tryz.f5.params.toList ++ Rows.transMakesSpec.plain.varTypes Tryz.prog) (ds ++ gs)).all (· ≤ reachBytes) = true := hsz0
  have hval : ∀ (j : Nat) t v, Tryz.f5.params[j]? = some t → args[j]? = some v → Value.okWide Tryz.prog W .any base t v := hval0
  have hW' := hW
  obtain ⟨p, q, hA0, hV, rfl, hfz, hnd⟩ := hW
  have hA : DataW.TrodAll enc Tryz.prog W 0 (fun _ => true) true Tryz.f5.params.toList args.toList ds p := hA0
  rw [Tryz.params5] at hA hval hsz
  obtain ⟨v0, vs0, d0, ds0, p0, q0, hargs, rfl, rfl, h0, r0⟩ := trodAll_cons hA
  obtain ⟨v1, vs1, d1, ds1, p1, q1, rfl, rfl, rfl, h1, r1⟩ := trodAll_cons r0
  obtain ⟨v2, vs2, d2, ds2, p2, q2, rfl, rfl, rfl, h2, r2⟩ := trodAll_cons r1
  obtain ⟨rfl, rfl, rfl⟩ := trodAll_nil r2
  obtain rfl : args = #[v0, v1, v2] := by cases args; simp_all
  obtain ⟨rfl, rfl⟩ := trodVars_none hV
  have lt0 : ∀ x ∈ p0, x.block < W.heap.size := by obtain ⟨m, hm⟩ := h0; exact DataW.trod_lt m _ _ _ hm
  have wt0 := weights_at hsz 0 (t := 25) rfl rfl
  obtain ⟨a0, s0, wf0_, up0_⟩ := gd25.arg (hval 0 25 v0 rfl rfl) h0 wt0
  have lt1 : ∀ x ∈ p1, x.block < W.heap.size := by obtain ⟨m, hm⟩ := h1; exact DataW.trod_lt m _ _ _ hm
  have wt1 := weights_at hsz 1 (t := 52) rfl rfl
  obtain ⟨a1, s1, wf1_, up1_⟩ := gd52.arg (hval 1 52 v1 rfl rfl) h1 wt1
  have lt2 : ∀ x ∈ p2, x.block < W.heap.size := by obtain ⟨m, hm⟩ := h2; exact DataW.trod_lt m _ _ _ hm
  have wt2 := weights_at hsz 2 (t := 3) rfl rfl
  obtain ⟨a2, s2, wf2_, up2_⟩ := gd3.arg (hval 2 3 v2 rfl rfl) h2 wt2
  clear hA0 hval0 hsz0 hsz
  obtain ⟨k, h⟩ := Fl.transMakes a0 a1 a2 wf0_ wf1_ wf2_
  refine (law_calls (TransMakes5.ok k) (ds := (a0, a1, a2)) h (args := #[v0, v1, v2]) (W := W) (.cons (s0 _) (.cons (s1 _) (.cons (s2 _) (.nil))))).mono fun e W' ⟨he, bel0⟩ => ?_
  have bel : Below W.heap.size W W' := bel0
  subst he
  exact ⟨_, rfl, _, _, _, [], _, [], hW', trodAll_mk1 (shut_bool Tryz.underlying4 _), (trodAll_cons_mk (Below.trod laidOut (by kernel_rfl) (of_decide_eq_true (by kernel_rfl)) h0 bel lt0) (trodAll_cons_mk (Below.trod laidOut (by kernel_rfl) (of_decide_eq_true (by kernel_rfl)) h1 bel lt1) (trodAll_cons_mk (Below.trod laidOut (by kernel_rfl) (of_decide_eq_true (by kernel_rfl)) h2 bel lt2) (trodAll_mk0)))), rfl, bel.frame _, fun h => by cases h⟩
theorem over : Rows.transMakesRow.holds Tryz.pinned (OpenSpec.ofChange Rows.transMakesSpec) :=
  OpenClaim.holds_of_wide 5 Tryz.f5 rfl rfl rfl rfl rfl rfl rfl ⟨rfl, rfl, rfl, rfl, rfl⟩ rfl rfl rfl rfl rfl (by kernel_rfl) Tryz.func5 (by kernel_rfl)
    (of_decide_eq_true (by kernel_rfl)) (by unfold Func.isWrapper; first | (rw [if_pos (by decide +kernel)]; kernel_rfl) | (rw [if_neg (by decide +kernel)]; exact ⟨rfl, rfl⟩))
    (fun os started H enc _ => lifted os started H enc)
theorem proved : Rows.TransMakesSaid := over
#print axioms proved
end Go.Proofs.YtcppmlgnceldmaaGreat.transMakes
namespace Go.Proofs.YtcppmlgnceldmaaGreat
theorem transMakes_holds : Rows.TransMakesSaid := transMakes.proved
end Go.Proofs.YtcppmlgnceldmaaGreat
