/- samp.Mix, samp.Smooth, samp.Range, slices.Min and .Max, slices.Equal: what they return. -/
import Derived.Test.YtimkpdbghbhkkaaSPer
import Derived.Test.YtimkpdbghbhkkaaQMx11
import Derived.Test.YtimkpdbghbhkkaaQMx12
import Derived.Test.YtimkpdbghbhkkaaQMx14
import Derived.Test.YtimkpdbghbhkkaaQMx15
import Derived.Test.YtimkpdbghbhkkaaQMx16
import Derived.Test.YtimkpdbghbhkkaaQMx17
import Derived.Test.YtimkpdbghbhkkaaQMx20
namespace Go.Proofs.Ytimkpdbghbhkkaa.SMb
open Go.RowKit Go.Proofs.YtimkpdbghbhkkaaW.PrintWords Go.Proofs.YtimkpdbghbhkkaaW.PrintMore Go.Proofs.Ytimkpdbghbhkkaa.Pu Go.Proofs.Ytimkpdbghbhkkaa.QM

theorem wsucc {i : Nat} (h : i ≤ 1000000000000) : wrap64 ((i : Int) + 1) = ((i + 1 : Nat) : Int) := by rw [w64 (by omega) (by omega)]; omega
theorem tonat (i : Nat) : ((i : Int)).toNat = i := by omega
/-- Lists of one length with the same elements are one. -/
theorem ext0 {l m : List Int} (h : l.length = m.length) (e : ∀ i, i < l.length → l.getD i 0 = m.getD i 0) : l = m := by
  apply List.ext_getElem h
  intro i h1 h2
  have := e i h1
  rw [List.getD_eq_getElem?_getD, List.getD_eq_getElem?_getD, List.getElem?_eq_getElem h1, List.getElem?_eq_getElem h2] at this
  exact this
theorem getD_set (l : List Int) (j i : Nat) (v : Int) (hj : j < l.length) : (l.set j v).getD i 0 = if j = i then v else l.getD i 0 := by
  rw [List.getD_eq_getElem?_getD, List.getElem?_set, List.getD_eq_getElem?_getD]
  by_cases h : j = i
  · subst h; rw [if_pos rfl, if_pos rfl, if_pos hj]; rfl
  · rw [if_neg h, if_neg h]
theorem getD_pad (l : List Int) (d i : Nat) : (l ++ List.replicate d 0).getD i 0 = l.getD i 0 := by
  rw [List.getD_eq_getElem?_getD, List.getD_eq_getElem?_getD, List.getElem?_append]
  by_cases h : i < l.length
  · rw [if_pos h]
  · rw [if_neg h, List.getElem?_eq_none (l := l) (by omega), List.getElem?_replicate]
    split <;> rfl
theorem getD_out (l : List Int) (i : Nat) (h : l.length ≤ i) : l.getD i 0 = 0 := by
  rw [List.getD_eq_getElem?_getD, List.getElem?_eq_none h]; rfl
theorem good_getD {l : List Int} (h : ∀ x ∈ l, 0 ≤ x ∧ x ≤ 1048576) (i : Nat) : 0 ≤ l.getD i 0 ∧ l.getD i 0 ≤ 1048576 := by
  by_cases c : i < l.length
  · rw [List.getD_eq_getElem?_getD, List.getElem?_eq_getElem c]; exact h _ (List.getElem_mem c)
  · rw [getD_out l i (by omega)]; omega

/-- Equal: whether two lists are one. -/
theorem equal_loop (l m : List Int) (hm : m.length = l.length) (hl : l.length ≤ 1000000) : ∀ (d i : Nat), i + d = l.length → Ev (fun k => slices_Equal_int_int.l0 k l m (l.length : Int) (i : Int)) (decide (l.drop i = m.drop i)) := by
  intro d
  induction d with
  | zero =>
    intro i h
    refine Ev.step (fun k => by rw [slices_Equal_int_int.l0]) ?_
    refine Ev.no (by omega) (Ev.some ?_)
    rw [List.drop_of_length_le (by omega), List.drop_of_length_le (by omega)]; rfl
  | succ d ih =>
    intro i h
    have ih := ih (i + 1) (by omega)
    refine Ev.step (fun k => by rw [slices_Equal_int_int.l0]) ?_
    rw [wsucc (by omega), rd_nat, rd_nat]
    have e : (l.drop i = m.drop i) ↔ (l.getD i 0 = m.getD i 0 ∧ l.drop (i + 1) = m.drop (i + 1)) := by
      rw [List.drop_eq_getElem_cons (by omega : i < l.length), List.drop_eq_getElem_cons (by omega : i < m.length), List.cons.injEq, List.getD_eq_getElem?_getD, List.getD_eq_getElem?_getD, List.getElem?_eq_getElem (by omega), List.getElem?_eq_getElem (by omega)]
      rfl
    refine Ev.yes (by omega) (Ev.yes (by omega) (Ev.yes (by omega) (Ev.yes (by omega) (Ev.ite (fun c => Ev.eq ih ?_) (fun c => Ev.some ?_)))))
    · exact decide_eq_decide.2 (e.trans ⟨fun z => z.2, fun z => ⟨c, z⟩⟩).symm
    · exact (decide_eq_false (fun z => c (e.1 z).1)).symm
theorem equal (l m : List Int) (hl : l.length ≤ 1000000) : Ev (fun k => slices_Equal_int_int.f k l m) (decide (l = m)) := by
  unfold slices_Equal_int_int.f
  refine Ev.ite (fun c => ?_) (fun c => Ev.some ?_)
  · exact equal_loop l m (by omega) hl l.length 0 (by omega)
  · exact (decide_eq_false (fun e => c (by rw [e]))).symm

/-- The least and the greatest. -/
theorem min_loop (l : List Int) (hl : l.length ≤ 1000000) : ∀ (d i : Nat) (m : Int), i + d = l.length → Ev (fun k => slices_Min_int_int.l0 k l m (i : Int)) ((l.drop i).foldl (fun x y => mn x y) m) := by
  intro d
  induction d with
  | zero =>
    intro i m h
    refine Ev.step (fun k => by rw [slices_Min_int_int.l0]) ?_
    refine Ev.no (by omega) (Ev.some ?_)
    rw [List.drop_of_length_le (by omega)]; rfl
  | succ d ih =>
    intro i m h
    have ih := ih (i + 1) (mn m (l.getD i 0)) (by omega)
    refine Ev.step (fun k => by rw [slices_Min_int_int.l0]) ?_
    rw [wsucc (by omega), rd_nat]
    refine Ev.yes (by omega) (Ev.yes (by omega) (Ev.eq ih ?_))
    rw [List.drop_eq_getElem_cons (by omega : i < l.length), List.foldl_cons, List.getD_eq_getElem?_getD, List.getElem?_eq_getElem (by omega)]
    rfl
theorem max_loop (l : List Int) (hl : l.length ≤ 1000000) : ∀ (d i : Nat) (m : Int), i + d = l.length → Ev (fun k => slices_Max_int_int.l0 k l m (i : Int)) ((l.drop i).foldl (fun x y => mx x y) m) := by
  intro d
  induction d with
  | zero =>
    intro i m h
    refine Ev.step (fun k => by rw [slices_Max_int_int.l0]) ?_
    refine Ev.no (by omega) (Ev.some ?_)
    rw [List.drop_of_length_le (by omega)]; rfl
  | succ d ih =>
    intro i m h
    have ih := ih (i + 1) (mx m (l.getD i 0)) (by omega)
    refine Ev.step (fun k => by rw [slices_Max_int_int.l0]) ?_
    rw [wsucc (by omega), rd_nat]
    refine Ev.yes (by omega) (Ev.yes (by omega) (Ev.eq ih ?_))
    rw [List.drop_eq_getElem_cons (by omega : i < l.length), List.foldl_cons, List.getD_eq_getElem?_getD, List.getElem?_eq_getElem (by omega)]
    rfl
theorem range_loop (l : List Int) (hl : l.length ≤ 1000000) : ∀ (d i : Nat) (m n : Int), i + d = l.length → Ev (fun k => samp_Range.l0 k m n l (l.length : Int) (i : Int)) ((l.drop i).foldl (fun x y => mn x y) m, (l.drop i).foldl (fun x y => mx x y) n, 0) := by
  intro d
  induction d with
  | zero =>
    intro i m n h
    refine Ev.step (fun k => by rw [samp_Range.l0]) ?_
    refine Ev.no (by omega) (Ev.some ?_)
    rw [List.drop_of_length_le (by omega)]; rfl
  | succ d ih =>
    intro i m n h
    have ih := ih (i + 1) (mn m (l.getD i 0)) (mx n (l.getD i 0)) (by omega)
    refine Ev.step (fun k => by rw [samp_Range.l0]) ?_
    rw [wsucc (by omega), rd_nat]
    refine Ev.yes (by omega) (Ev.yes (by omega) (Ev.yes (by omega) (Ev.eq ih ?_)))
    rw [List.drop_eq_getElem_cons (by omega : i < l.length), List.foldl_cons, List.foldl_cons, List.getD_eq_getElem?_getD, List.getElem?_eq_getElem (by omega)]
    rfl
def least (l : List Int) : Int := (l.drop 1).foldl (fun x y => mn x y) (l.getD 0 0)
def most (l : List Int) : Int := (l.drop 1).foldl (fun x y => mx x y) (l.getD 0 0)
theorem smin (l : List Int) (h1 : 1 ≤ l.length) (hl : l.length ≤ 1000000) : Ev (fun k => slices_Min_int_int.f k l) (least l) := by
  unfold slices_Min_int_int.f
  have e : rd l 0 = l.getD 0 0 := rd_nat l 0
  rw [e]
  exact Ev.no (by omega) (Ev.yes (by omega) (min_loop l hl (l.length - 1) 1 _ (by omega)))
theorem smax (l : List Int) (h1 : 1 ≤ l.length) (hl : l.length ≤ 1000000) : Ev (fun k => slices_Max_int_int.f k l) (most l) := by
  unfold slices_Max_int_int.f
  have e : rd l 0 = l.getD 0 0 := rd_nat l 0
  rw [e]
  exact Ev.no (by omega) (Ev.yes (by omega) (max_loop l hl (l.length - 1) 1 _ (by omega)))
theorem range (l : List Int) (hl : l.length ≤ 1000000) : Ev (fun k => samp_Range.f k l) (if CK l = 0 then (if l = [] then (0, 0, 0) else (least l, most l, 0)) else (0, 0, CK l)) := by
  unfold samp_Range.f
  refine Ev.bind (check l (by omega)) (Ev.ite (fun c => ?_) (fun c => Ev.some (by rw [if_neg c])))
  rw [if_pos c]
  cases l with
  | nil => exact Ev.yes (by simp) (Ev.now _)
  | cons x t =>
    rw [if_neg (by simp)]
    have e : rd (x :: t) 0 = x := rd_nat (x :: t) 0
    rw [e]
    refine Ev.no (by simp; omega) (Ev.yes (by simp) (Ev.eq (range_loop (x :: t) hl _ 0 x x (Nat.zero_add _)) ?_))
    have a : mn x x = x := by unfold mn; split <;> rfl
    have b : mx x x = x := by unfold mx; split <;> rfl
    show (List.foldl _ (mn x x) t, List.foldl _ (mx x x) t, (0 : Int)) = _
    rw [a, b]; rfl

/-- Is one above the greatest level? -/
theorem ex_cons {x : Int} {t : List Int} : (∃ y ∈ x :: t, y > 1048576) ↔ (x > 1048576 ∨ ∃ y ∈ t, y > 1048576) := by
  constructor
  · rintro ⟨y, hy, h⟩
    rcases List.mem_cons.1 hy with rfl | hy
    · exact .inl h
    · exact .inr ⟨y, hy, h⟩
  · rintro (h | ⟨y, hy, h⟩)
    · exact ⟨x, by simp, h⟩
    · exact ⟨y, by simp [hy], h⟩
theorem index_loop (l : List Int) (hl : l.length ≤ 1000000) : ∀ (d i : Nat), i + d = l.length → ∃ r : Int, Ev (fun k => slices_IndexFunc_int_int_139.l0 k l (l.length : Int) (i : Int)) r ∧ (r ≥ 0 ↔ ∃ x ∈ l.drop i, x > 1048576) := by
  intro d
  induction d with
  | zero =>
    intro i h
    refine ⟨-1, ?_, ?_⟩
    · refine Ev.step (fun k => by rw [slices_IndexFunc_int_int_139.l0]) ?_
      exact Ev.no (by omega) (Ev.now _)
    · rw [List.drop_of_length_le (by omega)]; simp
  | succ d ih =>
    intro i h
    obtain ⟨r, hr, hi⟩ := ih (i + 1) (by omega)
    have ed : l.drop i = l.getD i 0 :: l.drop (i + 1) := by
      rw [List.drop_eq_getElem_cons (by omega : i < l.length), List.getD_eq_getElem?_getD, List.getElem?_eq_getElem (by omega)]; rfl
    by_cases c : l.getD i 0 > 1048576
    · refine ⟨(i : Int), ?_, ?_⟩
      · refine Ev.step (fun k => by rw [slices_IndexFunc_int_int_139.l0]) ?_
        rw [rd_nat]
        refine Ev.yes (by omega) (Ev.yes (by omega) (Ev.yes (by omega) ?_))
        exact Ev.const (Ev.yes (decide_eq_true c) (Ev.now _))
      · rw [ed]
        exact ⟨fun _ => ⟨_, by simp, c⟩, fun _ => by omega⟩
    · refine ⟨r, ?_, ?_⟩
      · refine Ev.step (fun k => by rw [slices_IndexFunc_int_int_139.l0]) ?_
        rw [rd_nat, wsucc (by omega)]
        refine Ev.yes (by omega) (Ev.yes (by omega) (Ev.yes (by omega) ?_))
        exact Ev.const (Ev.no (by simpa using c) hr)
      · rw [ed, hi, ex_cons]
        exact ⟨.inr, fun z => z.resolve_left c⟩
theorem contains (l : List Int) (hl : l.length ≤ 1000000) : Ev (fun k => slices_ContainsFunc_int_int_138.f k l) (decide (∃ x ∈ l, x > 1048576)) := by
  unfold slices_ContainsFunc_int_int_138.f slices_IndexFunc_int_int_139.f
  obtain ⟨r, hr, hi⟩ := index_loop l hl l.length 0 (by omega)
  exact Ev.bind hr (Ev.some (decide_eq_decide.2 hi))

/-- Several sounds together. -/
def addF (x : List Int) : List Int → Nat → Nat → List Int
  | acc, _, 0 => acc
  | acc, j, d + 1 => addF x (acc.set j (acc.getD j 0 + x.getD j 0)) (j + 1) d
theorem addF_len (x : List Int) : ∀ (d : Nat) (acc : List Int) (j : Nat), (addF x acc j d).length = acc.length
  | 0, acc, j => rfl
  | d + 1, acc, j => by rw [addF, addF_len x d]; simp
theorem addF_getD (x : List Int) : ∀ (d : Nat) (acc : List Int) (j i : Nat), j + d ≤ acc.length → (addF x acc j d).getD i 0 = acc.getD i 0 + if j ≤ i ∧ i < j + d then x.getD i 0 else 0
  | 0, acc, j, i, h => by rw [addF, if_neg (by omega)]; omega
  | d + 1, acc, j, i, h => by
    rw [addF, addF_getD x d _ _ _ (by rw [List.length_set]; omega), getD_set _ _ _ _ (by omega)]
    by_cases c : j = i
    · subst c; rw [if_pos rfl, if_neg (by omega), if_pos (by omega)]; omega
    · rw [if_neg c]
      by_cases e : j + 1 ≤ i ∧ i < j + 1 + d
      · rw [if_pos e, if_pos (by omega)]
      · rw [if_neg e, if_neg (by omega)]
def pass (acc x : List Int) : List Int := addF x (acc ++ List.replicate (x.length - acc.length) 0) 0 x.length
theorem pass_len (acc x : List Int) : (pass acc x).length = max acc.length x.length := by unfold pass; rw [addF_len]; simp; omega
theorem pass_getD (acc x : List Int) (i : Nat) : (pass acc x).getD i 0 = acc.getD i 0 + x.getD i 0 := by
  unfold pass
  rw [addF_getD _ _ _ _ _ (by simp; omega), getD_pad]
  by_cases c : i < x.length
  · rw [if_pos (by omega)]
  · rw [if_neg (by omega), getD_out x i (by omega)]

theorem mix_add {r : List Int × Int} (x : List Int) (L : List (List Int)) (n i : Int) (hx : x.length ≤ 200) (hb : ∀ y ∈ x, 0 ≤ y ∧ y ≤ 1048576) : ∀ (d j : Nat) (acc : List Int), j + d = x.length → x.length ≤ acc.length → acc.length ≤ 1000 → (∀ q, j ≤ q → 0 ≤ acc.getD q 0 ∧ acc.getD q 0 ≤ 10000000) → Ev (fun k => samp_Mix.l0 k (addF x acc j d) L n (wrap64 (i + 1))) r → Ev (fun k => samp_Mix.l2 k acc L n i x (x.length : Int) (j : Int)) r := by
  intro d
  induction d with
  | zero =>
    intro j acc h h1 h2 hq hE
    refine Ev.step (fun k => by rw [samp_Mix.l2]) ?_
    exact Ev.no (by omega) hE
  | succ d ih =>
    intro j acc h h1 h2 hq hE
    have b1 := hq j (by omega)
    have b2 := good_getD hb j
    refine Ev.step (fun k => by rw [samp_Mix.l2]) ?_
    rw [rd_nat, rd_nat, w64 (x := acc.getD j 0 + x.getD j 0) (by omega) (by omega), tonat, wsucc (by omega)]
    refine Ev.yes (by omega) (Ev.yes (by omega) (Ev.yes (by omega) (Ev.yes (by omega) ?_)))
    refine ih (j + 1) _ (by omega) (by rw [List.length_set]; omega) (by rw [List.length_set]; omega) (fun q hj => ?_) hE
    rw [getD_set _ _ _ _ (by omega), if_neg (by omega)]
    exact hq q (by omega)
theorem mix_pad {r : List Int × Int} (x : List Int) (L : List (List Int)) (n i : Int) (hx : x.length ≤ 200) : ∀ (d : Nat) (acc : List Int), x.length - acc.length = d → acc.length ≤ 1000 → Ev (fun k => samp_Mix.l2 k (acc ++ List.replicate d 0) L n i x (x.length : Int) 0) r → Ev (fun k => samp_Mix.l1 k acc x L n i) r := by
  intro d
  induction d with
  | zero =>
    intro acc h h1 hE
    refine Ev.step (fun k => by rw [samp_Mix.l1]) ?_
    simp only [List.replicate_zero, List.append_nil] at hE
    exact Ev.no (by omega) hE
  | succ d ih =>
    intro acc h h1 hE
    refine Ev.step (fun k => by rw [samp_Mix.l1]) ?_
    refine Ev.yes (by omega) (Ev.yes (by omega) (ih (acc ++ [0]) (by rw [List.length_append]; simp; omega) (by rw [List.length_append]; simp; omega) ?_))
    rw [List.append_assoc]
    exact hE
theorem mix_pass {r : List Int × Int} (acc x : List Int) (L : List (List Int)) (n : Int) (i : Nat) (hi : i ≤ 10) (hx : x.length ≤ 200) (ha : acc.length ≤ 200) (hb : ∀ y ∈ x, 0 ≤ y ∧ y ≤ 1048576) (hq : ∀ q, 0 ≤ acc.getD q 0 ∧ acc.getD q 0 ≤ 10000000) (hE : Ev (fun k => samp_Mix.l0 k (pass acc x) L n ((i + 1 : Nat) : Int)) r) : Ev (fun k => samp_Mix.l1 k acc x L n (i : Int)) r := by
  refine mix_pad x L n i hx _ acc rfl (by omega) ?_
  refine mix_add x L n i hx hb x.length 0 _ (by omega) (by simp; omega) (by simp; omega) (fun q _ => by rw [getD_pad]; exact hq q) ?_
  rw [wsucc (by omega)]
  exact hE
theorem mix_over (out : List Int) (hl : out.length ≤ 1000) : ∀ (d i : Nat), i + d = out.length → Ev (fun k => samp_Mix.l3 k out out (out.length : Int) (i : Int)) (if ∃ x ∈ out.drop i, x > 1048576 then ([], 21) else (out, 0)) := by
  intro d
  induction d with
  | zero =>
    intro i h
    refine Ev.step (fun k => by rw [samp_Mix.l3]) ?_
    refine Ev.no (by omega) (Ev.some ?_)
    rw [List.drop_of_length_le (by omega)]; simp
  | succ d ih =>
    intro i h
    have ed : out.drop i = out.getD i 0 :: out.drop (i + 1) := by
      rw [List.drop_eq_getElem_cons (by omega : i < out.length), List.getD_eq_getElem?_getD, List.getElem?_eq_getElem (by omega)]; rfl
    refine Ev.step (fun k => by rw [samp_Mix.l3]) ?_
    rw [rd_nat, wsucc (by omega)]
    refine Ev.yes (by omega) (Ev.yes (by omega) (Ev.yes (by omega) (Ev.ite (fun c => Ev.some ?_) (fun c => Ev.eq (ih (i + 1) (by omega)) ?_))))
    · rw [if_pos ⟨out.getD i 0, by rw [ed]; simp, c⟩]
    · by_cases z : ∃ x ∈ out.drop (i + 1), x > 1048576
      · rw [if_pos z, if_pos (by rw [ed]; exact ex_cons.2 (.inr z))]
      · rw [if_neg z, if_neg (by rw [ed]; exact fun y => (ex_cons.1 y).elim c z)]
/-- Two sounds, the first one twice. -/
def mixV (a b : List Int) : List Int := (List.range (max a.length b.length)).map fun i => 2 * a.getD i 0 + b.getD i 0
theorem mixV_getD (a b : List Int) (i : Nat) : (mixV a b).getD i 0 = 2 * a.getD i 0 + b.getD i 0 := by
  unfold mixV
  rw [List.getD_eq_getElem?_getD, List.getElem?_map]
  by_cases c : i < max a.length b.length
  · rw [List.getElem?_range c]; rfl
  · rw [List.getElem?_eq_none (by simp; omega), getD_out a i (by omega), getD_out b i (by omega)]; rfl
def mixF (a b : List Int) : Int := if CK a = 0 then (if CK b = 0 then (if ∃ x ∈ mixV a b, x > 1048576 then 21 else 0) else CK b) else CK a
theorem mix (a b : List Int) (ha : a.length ≤ 200) (hb : b.length ≤ 200) : Ev (fun k => samp_Mix.f k [a, b, a]) (if mixF a b = 0 then mixV a b else [], mixF a b) := by
  unfold samp_Mix.f mixF
  have h0 : rd_L1 [a, b, a] 0 = a := rfl
  have h1 : rd_L1 [a, b, a] ((0 + 1 : Nat) : Int) = b := rfl
  have h2 : rd_L1 [a, b, a] ((1 + 1 : Nat) : Int) = a := rfl
  have g := fun (l : List Int) (h : CK l = 0) => (CK_zero h).2
  refine Ev.step (fun k => by rw [samp_Mix.l0]) ?_
  refine Ev.yes (by simp) (Ev.yes (by decide) (Ev.yes (by simp) ?_))
  rw [h0]
  refine Ev.bind (check a (by omega)) (Ev.ite (fun c => ?_) (fun c => Ev.some (by rw [if_neg c, if_neg c])))
  rw [if_pos c]
  refine mix_pass [] a _ _ 0 (by omega) ha (by simp) (g a c) (fun q => by simp) ?_
  refine Ev.step (fun k => by rw [samp_Mix.l0]) ?_
  refine Ev.yes (by simp) (Ev.yes (by decide) (Ev.yes (by simp) ?_))
  rw [h1]
  refine Ev.bind (check b (by omega)) (Ev.ite (fun e => ?_) (fun e => Ev.some (by rw [if_neg e, if_neg e])))
  rw [if_pos e]
  refine mix_pass _ b _ _ 1 (by omega) hb (by rw [pass_len]; simp; omega) (g b e) (fun q => by have := good_getD (g a c) q; rw [pass_getD, getD_out [] q (Nat.zero_le _)]; omega) ?_
  refine Ev.step (fun k => by rw [samp_Mix.l0]) ?_
  refine Ev.yes (by simp) (Ev.yes (by decide) (Ev.yes (by simp) ?_))
  rw [h2]
  refine Ev.bind (check a (by omega)) (Ev.yes c ?_)
  refine mix_pass _ a _ _ 2 (by omega) ha (by rw [pass_len, pass_len]; simp; omega) (g a c) (fun q => by have := good_getD (g a c) q; have := good_getD (g b e) q; rw [pass_getD, pass_getD, getD_out [] q (Nat.zero_le _)]; omega) ?_
  refine Ev.step (fun k => by rw [samp_Mix.l0]) ?_
  refine Ev.no (by simp) ?_
  have hm : pass (pass (pass [] a) b) a = mixV a b := by
    apply ext0
    · rw [pass_len, pass_len, pass_len]; unfold mixV; simp; omega
    · intro i _
      rw [pass_getD, pass_getD, pass_getD, mixV_getD, getD_out [] i (Nat.zero_le _)]; omega
  rw [hm]
  refine Ev.eq (mix_over (mixV a b) (by unfold mixV; simp; omega) _ 0 (Nat.zero_add _)) ?_
  rw [List.drop_zero]
  by_cases z : ∃ x ∈ mixV a b, x > 1048576
  · rw [if_pos z, if_pos z]; simp
  · rw [if_neg z, if_neg z]; simp

/-- The mean of the last n levels. -/
def sv (l : List Int) (n i : Nat) : Int := wrap64 (Int.tdiv (psum l (i + 1) - psum l (i + 1 - min n (i + 1))) ((min n (i + 1) : Nat) : Int))
def SV (l : List Int) (n : Nat) : List Int := (List.range l.length).map (sv l n)
theorem mn_min (n i : Nat) : mn (n : Int) (i : Int) = ((min n i : Nat) : Int) := by
  unfold mn
  split <;> omega
theorem psum_mono (l : List Int) (h : ∀ x ∈ l, 0 ≤ x ∧ x ≤ 1048576) (i : Nat) : ∀ d : Nat, psum l i ≤ psum l (i + d)
  | 0 => by simp
  | d + 1 => by
    have := psum_mono l h i d
    by_cases c : i + d < l.length
    · have e := psum_succ l (i + d) c
      have g := good_getD h (i + d)
      rw [rd_nat] at e
      rw [show i + (d + 1) = i + d + 1 by omega, e]
      omega
    · have : psum l (i + (d + 1)) = psum l (i + d) := by unfold psum; rw [List.take_of_length_le (by omega), List.take_of_length_le (by omega)]
      omega
theorem smooth_loop (l : List Int) (hl : l.length ≤ 1000) (hb : ∀ x ∈ l, 0 ≤ x ∧ x ≤ 1048576) (n : Nat) (h1 : 1 ≤ n) (h2 : n ≤ 1000) : ∀ (d i : Nat), i + d = l.length → Ev (fun k => samp_Smooth.l0 k (n : Int) (PS l) ((List.range i).map (sv l n)) (l.length : Int) (i : Int)) (SV l n, 0) := by
  intro d
  induction d with
  | zero =>
    intro i h
    refine Ev.step (fun k => by rw [samp_Smooth.l0]) ?_
    refine Ev.no (by omega) (Ev.some ?_)
    rw [show i = l.length by omega]; rfl
  | succ d ih =>
    intro i h
    have ih := ih (i + 1) (by omega)
    have e : (List.range (i + 1)).map (sv l n) = (List.range i).map (sv l n) ++ [sv l n i] := by rw [List.range_succ, List.map_append]; rfl
    rw [e] at ih
    have e2 : wrap64 (((i + 1 : Nat) : Int) - ((min n (i + 1) : Nat) : Int)) = ((i + 1 - min n (i + 1) : Nat) : Int) := by rw [w64 (by omega) (by omega)]; omega
    have hm := psum_mono l hb (i + 1 - min n (i + 1)) (min n (i + 1))
    rw [show i + 1 - min n (i + 1) + min n (i + 1) = i + 1 by omega] at hm
    have b1 := psum_bd l hb (i + 1)
    have b2 := psum_bd l hb (i + 1 - min n (i + 1))
    refine Ev.step (fun k => by rw [samp_Smooth.l0]) ?_
    rw [wsucc (by omega), mn_min, e2, PS_rd l (i + 1) (by omega), PS_rd l (i + 1 - min n (i + 1)) (by omega), w64 (x := psum l (i + 1) - psum l (i + 1 - min n (i + 1))) (by omega) (by omega), PS_len]
    exact Ev.yes (by omega) (Ev.yes (by omega) (Ev.yes (by omega) (Ev.yes (by omega) (Ev.yes (by omega) (Ev.no (by omega) (Ev.yes (by simp; omega) ih))))))
def smF (l : List Int) (n : Int) : Int := if CK l = 0 then (if 1 ≤ n ∧ n ≤ 1000 then 0 else 1) else CK l
theorem smooth (l : List Int) (hl : l.length ≤ 1000) (n : Int) : Ev (fun k => samp_Smooth.f k l n) (if smF l n = 0 then SV l n.toNat else [], smF l n) := by
  unfold samp_Smooth.f smF
  have bad1 : Ev (fun k => samp_Smooth.j0 k l n true) ([], 1) := Ev.step (fun k => by rw [samp_Smooth.j0]) (Ev.yes rfl (Ev.now _))
  refine Ev.bind (check l (by omega)) (Ev.ite (fun c => ?_) (fun c => Ev.some (by rw [if_neg c, if_neg c])))
  rw [if_pos c]
  refine Ev.ite (fun d => Ev.eq bad1 (by rw [if_neg (show ¬ (1 ≤ n ∧ n ≤ 1000) by omega)]; simp)) (fun d => ?_)
  by_cases e : n > 1000
  · rw [decide_eq_true e]
    exact Ev.eq bad1 (by rw [if_neg (show ¬ (1 ≤ n ∧ n ≤ 1000) by omega)]; simp)
  · rw [decide_eq_false e, if_pos (show 1 ≤ n ∧ n ≤ 1000 by omega), if_pos rfl]
    have g := CK_zero c
    refine Ev.step (fun k => by rw [samp_Smooth.j0]) (Ev.no (by simp) (Ev.bind (sums l g.1 g.2) ?_))
    obtain ⟨m, hm⟩ : ∃ m : Nat, n = m := ⟨n.toNat, by omega⟩
    subst hm
    exact smooth_loop l hl g.2 m (by omega) (by omega) l.length 0 (by omega)
end Go.Proofs.Ytimkpdbghbhkkaa.SMb
