/- Plain facts of levels and of sums of levels. -/
import Derived.Test.YtimkpdbghbhkkaaPu
import Derived.Test.YtimkpdbghbhkkaaQMx1
import Derived.Test.YtimkpdbghbhkkaaQMx2
import Derived.Test.YtimkpdbghbhkkaaQMx3
import Derived.Test.YtimkpdbghbhkkaaQMx4
import Derived.Test.YtimkpdbghbhkkaaQMx7
namespace Go.Proofs.Ytimkpdbghbhkkaa.SMb
open Go.RowKit Go.Proofs.YtimkpdbghbhkkaaW.PrintWords Go.Proofs.YtimkpdbghbhkkaaW.PrintMore Go.Proofs.Ytimkpdbghbhkkaa.Pu Go.Proofs.Ytimkpdbghbhkkaa.QM

def bad (x : Int) : Prop := x < 0 ∨ x > 1048576
instance (x : Int) : Decidable (bad x) := by unfold bad; infer_instance
/-- What is wrong with levels. -/
def CK (l : List Int) : Int := if (l.length : Int) > 100000 then 2 else if ∃ x ∈ l, bad x then 1 else 0
theorem CK_zero {l : List Int} (h : CK l = 0) : l.length ≤ 100000 ∧ ∀ x ∈ l, 0 ≤ x ∧ x ≤ 1048576 := by
  unfold CK at h
  by_cases c : (l.length : Int) > 100000
  · rw [if_pos c] at h; omega
  · rw [if_neg c] at h
    by_cases d : ∃ x ∈ l, bad x
    · rw [if_pos d] at h; omega
    · refine ⟨by omega, fun x hx => ?_⟩
      have : ¬ bad x := fun hb => d ⟨x, hx, hb⟩
      unfold bad at this
      omega

theorem check_loop (l : List Int) (hl : l.length ≤ 140737488351232) : ∀ (suf pre : List Int), l = pre ++ suf → Ev (fun k => samp_Check.l0 k l (l.length : Int) (pre.length : Int)) (if ∃ x ∈ suf, bad x then 1 else 0) := by
  intro suf
  induction suf with
  | nil =>
    intro pre h
    refine Ev.step (fun k => by rw [samp_Check.l0]) ?_
    exact Ev.no (by rw [h]; simp) (Ev.some (by simp))
  | cons x suf ih =>
    intro pre h
    have hlen : (l.length : Int) = pre.length + suf.length + 1 := by rw [h]; exact len_mid pre suf x
    have hx : rd l (pre.length : Int) = x := by rw [h]; exact rd_mid pre suf x
    have hn : wrap64 ((pre.length : Int) + 1) = ((pre ++ [x]).length : Int) := by rw [w64 (by omega) (by omega)]; simp
    have ih := ih (pre ++ [x]) (by rw [h]; simp)
    refine Ev.step (fun k => by rw [samp_Check.l0]) ?_
    rw [hx, hn]
    refine Ev.yes (by omega) (Ev.yes (by omega) (Ev.yes (by omega) ?_))
    refine Ev.ite (fun c => Ev.some ?_) (fun c => Ev.ite (fun d => Ev.some ?_) (fun d => Ev.eq ih ?_))
    · rw [if_pos ⟨x, by simp, .inl c⟩]
    · rw [if_pos ⟨x, by simp, .inr d⟩]
    · have hb : ¬ bad x := by unfold bad; omega
      simp [hb]
theorem check (l : List Int) (hl : l.length ≤ 140737488351232) : Ev (fun k => samp_Check.f k l) (CK l) := by
  unfold samp_Check.f CK
  refine Ev.ite (fun c => ?_) (fun c => ?_)
  · rw [if_pos c]; exact Ev.now 2
  · rw [if_neg c]; exact check_loop l hl l [] rfl

theorem level_loop (l : List Int) (hl : l.length ≤ 140737488351232) : ∀ (suf pre : List Int), l = pre ++ suf → Ev (fun k => bakelaw3_levelFault.l0 k l (l.length : Int) (pre.length : Int)) (if ∃ x ∈ suf, bad x then 1 else 0) := by
  intro suf
  induction suf with
  | nil =>
    intro pre h
    refine Ev.step (fun k => by rw [bakelaw3_levelFault.l0]) ?_
    exact Ev.no (by rw [h]; simp) (Ev.some (by simp))
  | cons x suf ih =>
    intro pre h
    have hlen : (l.length : Int) = pre.length + suf.length + 1 := by rw [h]; exact len_mid pre suf x
    have hx : rd l (pre.length : Int) = x := by rw [h]; exact rd_mid pre suf x
    have hn : wrap64 ((pre.length : Int) + 1) = ((pre ++ [x]).length : Int) := by rw [w64 (by omega) (by omega)]; simp
    have ih := ih (pre ++ [x]) (by rw [h]; simp)
    refine Ev.step (fun k => by rw [bakelaw3_levelFault.l0]) ?_
    rw [hx, hn]
    refine Ev.yes (by omega) (Ev.yes (by omega) (Ev.yes (by omega) ?_))
    refine Ev.ite (fun c => Ev.some ?_) (fun c => Ev.ite (fun d => Ev.some ?_) (fun d => Ev.eq ih ?_))
    · rw [if_pos ⟨x, by simp, .inl c⟩]
    · rw [if_pos ⟨x, by simp, .inr d⟩]
    · have hb : ¬ bad x := by unfold bad; omega
      simp [hb]
theorem level (l : List Int) (hl : l.length ≤ 140737488351232) : Ev (fun k => bakelaw3_levelFault.f k l) (CK l) := by
  unfold bakelaw3_levelFault.f CK
  refine Ev.ite (fun c => ?_) (fun c => ?_)
  · rw [if_pos c]; exact Ev.now 2
  · rw [if_neg c]; exact level_loop l hl l [] rfl

/-- The sums of the first 0, 1, 2 .. levels. -/
def psum (l : List Int) (i : Nat) : Int := (l.take i).sum
def PS (l : List Int) : List Int := (List.range (l.length + 1)).map (psum l)
theorem PS_len (l : List Int) : (PS l).length = l.length + 1 := by simp [PS]
theorem PS_rd (l : List Int) (i : Nat) (h : i ≤ l.length) : rd (PS l) (i : Int) = psum l i := by
  rw [rd_nat, PS, List.getD_eq_getElem?_getD, List.getElem?_map, List.getElem?_range (by omega)]
  rfl
theorem psum_bd (l : List Int) (h : ∀ x ∈ l, 0 ≤ x ∧ x ≤ 1048576) : ∀ i : Nat, 0 ≤ psum l i ∧ psum l i ≤ 1048576 * (i : Int)
  | 0 => by simp [psum]
  | i + 1 => by
    obtain ⟨h1, h2⟩ := psum_bd l h i
    unfold psum at h1 h2 ⊢
    rw [List.take_add_one]
    by_cases c : i < l.length
    · have hb := h l[i] (List.getElem_mem c)
      rw [List.getElem?_eq_getElem c, List.sum_append]
      simp
      omega
    · rw [List.getElem?_eq_none (by omega)]
      simp
      omega
theorem psum_succ (l : List Int) (i : Nat) (h : i < l.length) : psum l (i + 1) = psum l i + rd l (i : Int) := by
  unfold psum
  rw [List.take_add_one, List.getElem?_eq_getElem h, List.sum_append, rd_nat, List.getD_eq_getElem?_getD, List.getElem?_eq_getElem h]
  simp

theorem sums_loop (l : List Int) (hl : l.length ≤ 100000) (hb : ∀ x ∈ l, 0 ≤ x ∧ x ≤ 1048576) : ∀ (d i : Nat), i + d = l.length → Ev (fun k => samp_sums.l0 k ((List.range (i + 1)).map (psum l)) l (l.length : Int) (i : Int)) (PS l) := by
  intro d
  induction d with
  | zero =>
    intro i h
    refine Ev.step (fun k => by rw [samp_sums.l0]) ?_
    refine Ev.no (by omega) (Ev.some ?_)
    rw [show i = l.length by omega]
    rfl
  | succ d ih =>
    intro i h
    have ih := ih (i + 1) (by omega)
    have hlen : ((List.range (i + 1)).map (psum l)).length = i + 1 := by simp
    have hn : wrap64 ((i : Int) + 1) = ((i + 1 : Nat) : Int) := by rw [w64 (by omega) (by omega)]; simp
    have hw : wrap64 ((((List.range (i + 1)).map (psum l)).length : Int) - 1) = (i : Int) := by rw [w64 (by omega) (by omega)]; omega
    have hr : rd ((List.range (i + 1)).map (psum l)) (i : Int) = psum l i := by
      rw [rd_nat, List.getD_eq_getElem?_getD, List.getElem?_map, List.getElem?_range (by omega)]
      rfl
    have hbd := psum_bd l hb (i + 1)
    have hs : wrap64 (psum l i + rd l (i : Int)) = psum l (i + 1) := by
      rw [psum_succ l i (by omega)] at hbd ⊢
      exact w64 (by omega) (by omega)
    have e : (List.range (i + 1 + 1)).map (psum l) = (List.range (i + 1)).map (psum l) ++ [psum l (i + 1)] := by
      rw [List.range_succ, List.map_append]
      rfl
    rw [e] at ih
    refine Ev.step (fun k => by rw [samp_sums.l0]) ?_
    rw [hw, hr, hs, hn]
    exact Ev.yes (by omega) (Ev.yes (by omega) (Ev.yes (by omega) (Ev.yes (by omega) (Ev.yes (by omega) (Ev.yes (by omega) ih)))))
theorem sums (l : List Int) (hl : l.length ≤ 100000) (hb : ∀ x ∈ l, 0 ≤ x ∧ x ≤ 1048576) : Ev (fun k => samp_sums.f k l) (PS l) := by
  unfold samp_sums.f
  exact sums_loop l hl hb l.length 0 (by omega)

/-- Equal lists are told to be equal. -/
theorem same_loop (l : List Int) (hl : l.length ≤ 140737488351232) : ∀ (d i : Nat), i + d = l.length → Ev (fun k => slices_Equal_int_int.l0 k l l (l.length : Int) (i : Int)) true := by
  intro d
  induction d with
  | zero =>
    intro i h
    refine Ev.step (fun k => by rw [slices_Equal_int_int.l0]) ?_
    exact Ev.no (by omega) (Ev.now true)
  | succ d ih =>
    intro i h
    have hn : wrap64 ((i : Int) + 1) = ((i + 1 : Nat) : Int) := by rw [w64 (by omega) (by omega)]; simp
    refine Ev.step (fun k => by rw [slices_Equal_int_int.l0]) ?_
    rw [hn]
    exact Ev.yes (by omega) (Ev.yes (by omega) (Ev.yes (by omega) (Ev.yes (by omega) (Ev.yes rfl (ih (i + 1) (by omega))))))
theorem same (l : List Int) (hl : l.length ≤ 140737488351232) : Ev (fun k => slices_Equal_int_int.f k l l) true := by
  unfold slices_Equal_int_int.f
  exact Ev.yes rfl (same_loop l hl l.length 0 (by omega))
end Go.Proofs.Ytimkpdbghbhkkaa.SMb
