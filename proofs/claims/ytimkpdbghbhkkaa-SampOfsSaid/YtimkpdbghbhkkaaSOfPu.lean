/- The plain law of Check and Of: the levels of a chip, cycle by cycle. -/
import Derived.Test.YtimkpdbghbhkkaaSRes
import Derived.Test.YtimkpdbghbhkkaaQSx7
import Derived.Test.YtimkpdbghbhkkaaQSx10
import Derived.Test.YtimkpdbghbhkkaaQSx11
import Derived.Test.YtimkpdbghbhkkaaQSx12
namespace Go.Proofs.Ytimkpdbghbhkkaa.SOf
open Go.RowKit Go.Proofs.YtimkpdbghbhkkaaW.PrintWords Go.Proofs.YtimkpdbghbhkkaaW.PrintMore Go.Proofs.Ytimkpdbghbhkkaa.Pu Go.Proofs.Ytimkpdbghbhkkaa.QS Go.Proofs.Ytimkpdbghbhkkaa.SPu

theorem heard : Ev (fun k => bakelaw3_heard.f k) true := Ev.of bakelaw3_heard.mono (k := 30) (by decide +kernel)
theorem rdT33 (pre suf : List S33) (x : S33) : rd_T33 (pre ++ x :: suf) (pre.length : Int) = x := by
  unfold rd_T33; exact getD_mid pre suf x z33

def off (o : S33) : Prop := o.f0 < 0 ∨ o.f2 < 0 ∨ o.f2 > 1048576
instance (o : S33) : Decidable (off o) := by unfold off; infer_instance
/-- What is wrong with what a chip shows: last: the time of the one before. -/
def fa (chip : ByteArray) (last : Int) : List S33 → Int
  | [] => 0
  | o :: r => if (o.f1).toList = chip.toList then (if off o then 1 else if o.f0 ≤ last then 9 else fa chip o.f0 r) else fa chip last r
/-- The level in a cycle. -/
def lev (chip : ByteArray) (first : Int) (t : Int) : List S33 → Int
  | [] => first
  | o :: r => if (o.f1).toList = chip.toList then (if o.f0 ≤ t then lev chip o.f2 t r else lev chip first t r) else lev chip first t r

theorem lev_early (chip : ByteArray) (first t : Int) : ∀ (l : List S33) (last : Int), fa chip last l = 0 → t ≤ last → lev chip first t l = first
  | [], _, _, _ => rfl
  | o :: r, last, h, ht => by
    rw [fa] at h
    rw [lev]
    by_cases c : (o.f1).toList = chip.toList
    · rw [if_pos c] at h ⊢
      by_cases d : off o
      · rw [if_pos d] at h; omega
      · rw [if_neg d] at h
        by_cases e : o.f0 ≤ last
        · rw [if_pos e] at h; omega
        · rw [if_neg e] at h
          rw [if_neg (by omega)]
          exact lev_early chip first t r o.f0 h (by omega)
    · rw [if_neg c] at h ⊢
      exact lev_early chip first t r last h ht

theorem level_loop (chip : ByteArray) (l : List S33) (hl : l.length ≤ 140737488351232) (t : Int) : ∀ (suf pre : List S33) (first : Int), l = pre ++ suf → Ev (fun k => bakeref3_Level.l0 k chip first t l (l.length : Int) (pre.length : Int)) (lev chip first t suf) := by
  intro suf
  induction suf with
  | nil =>
    intro pre first h
    refine Ev.step (fun k => by rw [bakeref3_Level.l0]) ?_
    exact Ev.no (by rw [h]; simp) (Ev.now _)
  | cons x suf ih =>
    intro pre first h
    have hlen : (l.length : Int) = pre.length + suf.length + 1 := by rw [h]; exact len_mid pre suf _
    have hx : rd_T33 l (pre.length : Int) = x := by rw [h]; exact rdT33 pre suf x
    have hn : wrap64 ((pre.length : Int) + 1) = ((pre ++ [x]).length : Int) := by rw [w64 (by omega) (by omega)]; simp
    have ih := fun f => ih (pre ++ [x]) f (by rw [h]; simp)
    refine Ev.step (fun k => by rw [bakeref3_Level.l0]) ?_
    rw [hx, hn, lev]
    refine Ev.yes (by omega) (Ev.yes (by omega) (Ev.yes (by omega) ?_))
    refine Ev.ite (fun c => ?_) (fun c => ?_)
    · rw [if_pos c]
      refine Ev.ite (fun c => ?_) (fun c => ?_)
      · rw [if_pos c]; exact ih _
      · rw [if_neg c]; exact ih _
    · rw [if_neg c]; exact ih _
theorem level_at (chip : ByteArray) (l : List S33) (hl : l.length ≤ 140737488351232) (first t : Int) : Ev (fun k => bakeref3_Level.f k l chip first t) (lev chip first t l) := by
  unfold bakeref3_Level.f
  exact level_loop chip l hl t l [] first rfl

/-! ### Of -/
/-- What is filled already, and what is still to come. -/
def rest (n at_ : Nat) (g : Int → Int) : List Int := ((List.range n).drop at_).map fun t : Nat => g (t : Int)
theorem rest_end (n : Nat) (g : Int → Int) : rest n n g = [] := by unfold rest; rw [List.drop_eq_nil_of_le (by simp)]; rfl
theorem rest_step (n i : Nat) (h : i < n) (g : Int → Int) : rest n i g = g (i : Int) :: rest n (i + 1) g := by
  unfold rest
  rw [List.drop_eq_getElem_cons (by simpa using h)]
  simp
theorem rest_congr (n i : Nat) (g g' : Int → Int) (h : ∀ t : Nat, i ≤ t → t < n → g t = g' t) : rest n i g = rest n i g' := by
  unfold rest
  refine List.map_congr_left fun t ht => ?_
  obtain ⟨j, hj, e⟩ := List.mem_iff_getElem.1 ht
  simp only [List.getElem_drop, List.getElem_range] at e
  simp only [List.length_drop, List.length_range] at hj
  exact h t (by omega) (by omega)
theorem take_set (l : List Int) (i : Nat) (h : i < l.length) (v : Int) : (l.set i v).take (i + 1) = l.take i ++ [v] := by
  rw [List.take_succ_eq_append_getElem (by rw [List.length_set]; exact h), List.getElem_set_self, List.take_set_of_le (Nat.le_refl _)]

theorem of_tail (first : Int) (n : Nat) (hn : n ≤ 100000) : ∀ (d at_ : Nat) (out : List Int), at_ + d = n → out.length = n → Ev (fun k => samp_Of.l2 k first (n : Int) out (at_ : Int)) (out.take at_ ++ rest n at_ (fun _ => first), 0) := by
  intro d
  induction d with
  | zero =>
    intro at_ out h ho
    refine Ev.step (fun k => by rw [samp_Of.l2]) ?_
    refine Ev.no (by omega) (Ev.some ?_)
    have : at_ = n := by omega
    subst this
    rw [rest_end, List.take_of_length_le (by omega), List.append_nil]
  | succ d ih =>
    intro at_ out h ho
    have hw : wrap64 ((at_ : Int) + 1) = ((at_ + 1 : Nat) : Int) := by rw [w64 (by omega) (by omega)]; simp
    have ih := ih (at_ + 1) (out.set at_ first) (by omega) (by simpa using ho)
    rw [take_set out at_ (by omega), List.append_assoc, List.singleton_append, ← rest_step n at_ (by omega) (fun _ => first)] at ih
    refine Ev.step (fun k => by rw [samp_Of.l2]) ?_
    rw [hw, Int.toNat_natCast]
    exact Ev.yes (by omega) (Ev.yes (by omega) (Ev.yes (by omega) ih))

theorem of_fill (chip : ByteArray) (first : Int) (n : Nat) (hn : n ≤ 100000) (x12 : Int) (x29 : List S33) (x30 x31 : Int) (o : S33) {r : List Int × Int} : ∀ (d at_ : Nat) (out : List Int), at_ + d = n → out.length = n →
    (∀ (at' : Nat) (out' : List Int), at_ ≤ at' → at' ≤ n → out'.length = n → ((at' : Int) = n ∨ o.f0 ≤ at') → (at' = at_ ∨ (at' : Int) ≤ o.f0) → out'.take at' = out.take at_ ++ List.replicate (at' - at_) first → Ev (fun k => samp_Of.l0 k chip o.f2 (n : Int) out' (at' : Int) x12 x29 x30 (wrap64 (x31 + 1))) r) →
    Ev (fun k => samp_Of.l1 k chip first (n : Int) out (at_ : Int) x12 x29 x30 x31 o.f0 o.f1 o.f2) r := by
  intro d
  induction d with
  | zero =>
    intro at_ out h ho hr
    refine Ev.step (fun k => by rw [samp_Of.l1]) ?_
    refine Ev.no (by omega) (hr at_ out (Nat.le_refl _) (by omega) ho (.inl (by omega)) (.inl rfl) (by simp))
  | succ d ih =>
    intro at_ out h ho hr
    have hw : wrap64 ((at_ : Int) + 1) = ((at_ + 1 : Nat) : Int) := by rw [w64 (by omega) (by omega)]; simp
    refine Ev.step (fun k => by rw [samp_Of.l1]) ?_
    refine Ev.yes (by omega) (Ev.ite (fun c => ?_) (fun c => ?_))
    · refine Ev.yes (by omega) (Ev.yes (by omega) ?_)
      rw [hw, Int.toNat_natCast]
      refine ih (at_ + 1) (out.set at_ first) (by omega) (by simpa using ho) ?_
      intro at' out' h1 h2 h3 h4 h5 h6
      refine hr at' out' (by omega) h2 h3 h4 (.inr (by omega)) ?_
      rw [h6, take_set out at_ (by omega), List.append_assoc, List.singleton_append, ← List.replicate_succ]
      congr 2
      omega
    · exact hr at_ out (Nat.le_refl _) (by omega) ho (.inr (by omega)) (.inl rfl) (by simp)

theorem rest_split (n i j : Nat) (hij : i ≤ j) (hj : j ≤ n) (g : Int → Int) (v : Int) (h : ∀ t : Nat, i ≤ t → t < j → g t = v) : rest n i g = List.replicate (j - i) v ++ rest n j g := by
  obtain ⟨d, rfl⟩ : ∃ d, j = i + d := ⟨j - i, by omega⟩
  rw [Nat.add_sub_cancel_left]
  clear hij
  induction d generalizing i with
  | zero => simp
  | succ d ih =>
    rw [rest_step n i (by omega), h i (Nat.le_refl _) (by omega), List.replicate_succ, List.cons_append, ih (i + 1) (by omega) (fun t h1 h2 => h t (by omega) (by omega))]
    rw [show i + 1 + d = i + (d + 1) by omega]

theorem of_loop (chip : ByteArray) (l : List S33) (hl : l.length ≤ 140737488351232) (n : Nat) (hn : n ≤ 100000) : ∀ (suf pre : List S33) (first last : Int) (at_ : Nat) (out : List Int), l = pre ++ suf → at_ ≤ n → out.length = n → ((at_ : Int) ≤ last ∨ at_ = 0) →
    Ev (fun k => samp_Of.l0 k chip first (n : Int) out (at_ : Int) last l (l.length : Int) (pre.length : Int)) (if fa chip last suf = 0 then (out.take at_ ++ rest n at_ (fun t => lev chip first t suf), 0) else ([], fa chip last suf)) := by
  intro suf
  induction suf with
  | nil =>
    intro pre first last at_ out h ha ho _
    refine Ev.step (fun k => by rw [samp_Of.l0]) ?_
    refine Ev.no (by rw [h]; simp) ?_
    rw [fa, if_pos rfl]
    exact of_tail first n hn (n - at_) at_ out (by omega) ho
  | cons x suf ih =>
    intro pre first last at_ out h ha ho hal
    have hlen : (l.length : Int) = pre.length + suf.length + 1 := by rw [h]; exact len_mid pre suf _
    have hx : rd_T33 l (pre.length : Int) = x := by rw [h]; exact rdT33 pre suf x
    have hn' : wrap64 ((pre.length : Int) + 1) = ((pre ++ [x]).length : Int) := by rw [w64 (by omega) (by omega)]; simp
    have ih := fun f la a ou => ih (pre ++ [x]) f la a ou (by rw [h]; simp)
    refine Ev.step (fun k => by rw [samp_Of.l0]) ?_
    rw [hx]
    refine Ev.yes (by omega) (Ev.yes (by omega) (Ev.yes (by omega) ?_))
    have hj : (x.f1).toList = chip.toList → ∀ b : Bool, (b = true ↔ off x) → Ev (fun k => samp_Of.j3 k chip first (n : Int) out (at_ : Int) last l (l.length : Int) (pre.length : Int) b x.f0 x.f1 x.f2) (if fa chip last (x :: suf) = 0 then (out.take at_ ++ rest n at_ (fun t => lev chip first t (x :: suf)), 0) else ([], fa chip last (x :: suf))) := by
      intro hc b hb
      refine Ev.step (fun k => by rw [samp_Of.j3]) ?_
      rw [fa, if_pos hc]
      refine Ev.ite (fun c => ?_) (fun c => ?_)
      · rw [if_pos (hb.1 c)]
        exact Ev.now _
      · have ho' : ¬ off x := fun h => c (hb.2 h)
        rw [if_neg ho']
        unfold off at ho'
        refine Ev.ite (fun d => ?_) (fun d => ?_)
        · rw [if_pos d]; exact Ev.now _
        · rw [if_neg d]
          refine of_fill chip first n hn x.f0 l (l.length : Int) (pre.length : Int) x (n - at_) at_ out (by omega) ho ?_
          intro at' out' h1 h2 h3 h4 h5 h6
          rw [hn']
          refine Ev.eq (ih x.f2 x.f0 at' out' h2 h3 (by omega)) ?_
          by_cases e : fa chip x.f0 suf = 0
          · rw [if_pos e, if_pos e, h6, List.append_assoc]
            congr 2
            rw [rest_split n at_ at' h1 h2 _ first]
            · congr 1
              refine rest_congr n at' _ _ fun t t1 t2 => ?_
              rw [lev, if_pos hc, if_pos (by omega)]
            · intro t t1 t2
              rw [lev, if_pos hc, if_neg (by omega)]
              exact lev_early chip first t suf x.f0 e (by omega)
          · rw [if_neg e, if_neg e]
    refine Ev.ite (fun c => ?_) (fun c => ?_)
    · refine Ev.ite (fun d => hj c true (by unfold off; simp; omega)) (fun d => ?_)
      refine Ev.ite (fun d => hj c true (by unfold off; simp; omega)) (fun d => hj c _ (by unfold off; simp; omega))
    · rw [hn', fa, if_neg c]
      refine Ev.eq (ih first last at_ out ha ho hal) ?_
      by_cases e : fa chip last suf = 0
      · rw [if_pos e, if_pos e]
        congr 2
        refine rest_congr n at_ _ _ fun t t1 t2 => ?_
        rw [lev, if_neg c]
      · rw [if_neg e, if_neg e]

/-- What is wrong with the numbers. -/
def nf (first n : Int) : Int := if n < 0 ∨ n > 100000 then 2 else if first < 0 ∨ first > 1048576 then 1 else 0
def ofR (l : List S33) (chip : ByteArray) (first n : Int) : List Int × Int :=
  if nf first n = 0 then (if fa chip (-1) l = 0 then (rest n.toNat 0 (fun t => lev chip first t l), 0) else ([], fa chip (-1) l)) else ([], nf first n)
theorem of_right (l : List S33) (hl : l.length ≤ 140737488351232) (chip : ByteArray) (first n : Int) : Ev (fun k => samp_Of.f k l chip first n) (ofR l chip first n) := by
  unfold samp_Of.f
  have h1 : ¬ (n < 0 ∨ n > 100000) → ∀ b : Bool, (b = true ↔ (first < 0 ∨ first > 1048576)) → Ev (fun k => samp_Of.j1 k l chip first n b) (ofR l chip first n) := by
    intro hn b hb
    refine Ev.step (fun k => by rw [samp_Of.j1]) ?_
    unfold ofR nf
    rw [if_neg hn]
    refine Ev.ite (fun c => ?_) (fun c => ?_)
    · rw [if_pos (hb.1 c)]
      exact Ev.now _
    · rw [if_neg (fun h => c (hb.2 h)), if_pos rfl]
      obtain ⟨m, rfl⟩ : ∃ m : Nat, n = m := ⟨n.toNat, by omega⟩
      rw [Int.toNat_natCast]
      refine Ev.yes (by omega) (Ev.yes (by omega) ?_)
      have := of_loop chip l hl m (by omega) l [] first (-1) 0 (List.replicate m 0) rfl (by omega) (by simp) (.inr rfl)
      simpa using this
  have h0 : ∀ b : Bool, (b = true ↔ (n < 0 ∨ n > 100000)) → Ev (fun k => samp_Of.j0 k l chip first n b) (ofR l chip first n) := by
    intro b hb
    refine Ev.step (fun k => by rw [samp_Of.j0]) ?_
    refine Ev.ite (fun c => ?_) (fun c => ?_)
    · unfold ofR nf
      rw [if_pos (hb.1 c)]
      exact Ev.now _
    · have hn : ¬ (n < 0 ∨ n > 100000) := fun h => c (hb.2 h)
      exact Ev.ite (fun d => h1 hn true (by simp; omega)) (fun d => h1 hn _ (by simp; omega))
  exact Ev.ite (fun d => h0 true (by simp; omega)) (fun d => h0 _ (by simp; omega))

/-! ### The law -/
theorem want_loop (l : List S33) (hl : l.length ≤ 140737488351232) (chip : ByteArray) (first : Int) (l4 got : List Int) (f : Int) (n : Nat) (hn : n ≤ 300) {r : Bool}
    (hr : Ev (fun k => bakelaw3_SampOfs.j8 k l4 got f 0 (rest n 0 (fun t => lev chip first t l))) r) :
    ∀ (d i : Nat), i + d = n → Ev (fun k => bakelaw3_SampOfs.l1 k l chip first (n : Int) l4 got f 0 ((List.range i).map fun t : Nat => lev chip first (t : Int) l) (i : Int)) r := by
  intro d
  induction d with
  | zero =>
    intro i h
    refine Ev.step (fun k => by rw [bakelaw3_SampOfs.l1]) ?_
    refine Ev.yes rfl (Ev.no (by omega) ?_)
    rw [show i = n by omega]
    simpa [rest] using hr
  | succ d ih =>
    intro i h
    have ih := ih (i + 1) (by omega)
    have hw : wrap64 ((i : Int) + 1) = ((i + 1 : Nat) : Int) := by rw [w64 (by omega) (by omega)]; simp
    rw [List.range_succ, List.map_append] at ih
    refine Ev.step (fun k => by rw [bakelaw3_SampOfs.l1]) ?_
    refine Ev.yes rfl (Ev.yes (by omega) (Ev.bind (level_at chip l hl first (i : Int)) (Ev.yes (by simp; omega) ?_)))
    rw [hw]
    exact ih

/-- The law's own look: once something is wrong nothing more is looked at. -/
theorem law_loop (l : List S33) (hl : l.length ≤ 140737488351232) (chip : ByteArray) (first n : Int) (l4 got : List Int) (g : Int) {r : Bool} (F : Int)
    (hr : Ev (fun k => bakelaw3_SampOfs.l1 k l chip first n l4 got g F ([] : List Int) 0) r) : ∀ (suf pre : List S33) (f last : Int), l = pre ++ suf → (if f = 0 then fa chip last suf else f) = F →
    Ev (fun k => bakelaw3_SampOfs.l0 k l chip first n l4 got g f last l (l.length : Int) (pre.length : Int)) r := by
  intro suf
  induction suf with
  | nil =>
    intro pre f last h hf
    refine Ev.step (fun k => by rw [bakelaw3_SampOfs.l0]) ?_
    refine Ev.no (by rw [h]; simp) ?_
    rw [fa] at hf
    have : f = F := by
      by_cases c : f = 0
      · rw [if_pos c] at hf; omega
      · rw [if_neg c] at hf; exact hf
    subst this
    exact hr
  | cons x suf ih =>
    intro pre f last h hf
    have hlen : (l.length : Int) = pre.length + suf.length + 1 := by rw [h]; exact len_mid pre suf _
    have hx : rd_T33 l (pre.length : Int) = x := by rw [h]; exact rdT33 pre suf x
    have hn' : wrap64 ((pre.length : Int) + 1) = ((pre ++ [x]).length : Int) := by rw [w64 (by omega) (by omega)]; simp
    have ih := fun f la => ih (pre ++ [x]) f la (by rw [h]; simp)
    rw [fa] at hf
    have h6 : f = 0 → (x.f1).toList = chip.toList → ∀ b : Bool, (b = true ↔ off x) → Ev (fun k => bakelaw3_SampOfs.j6 k l chip first n l4 got g f last l (l.length : Int) (pre.length : Int) b x.f0 x.f1 x.f2) r := by
      intro h0 hc b hb
      rw [if_pos h0, if_pos hc] at hf
      refine Ev.step (fun k => by rw [bakelaw3_SampOfs.j6]) ?_
      rw [hn']
      refine Ev.ite (fun c => ?_) (fun c => ?_)
      · rw [if_pos (hb.1 c)] at hf
        exact ih 1 x.f0 hf
      · rw [if_neg (fun h => c (hb.2 h))] at hf
        refine Ev.ite (fun d => ?_) (fun d => ?_)
        · rw [if_pos d] at hf
          exact ih 9 x.f0 hf
        · rw [if_neg d] at hf
          exact ih f x.f0 (by rw [if_pos h0]; exact hf)
    have h5 : ∀ b : Bool, (b = false ↔ ((x.f1).toList = chip.toList ∧ f = 0)) → Ev (fun k => bakelaw3_SampOfs.j5 k l chip first n l4 got g f last l (l.length : Int) (pre.length : Int) b x.f0 x.f1 x.f2) r := by
      intro b hb
      refine Ev.step (fun k => by rw [bakelaw3_SampOfs.j5]) ?_
      rw [hn']
      refine Ev.ite (fun c => ?_) (fun c => ?_)
      · refine ih f last ?_
        by_cases h0 : f = 0
        · rw [if_pos h0] at hf ⊢
          by_cases hc : (x.f1).toList = chip.toList
          · have := hb.2 ⟨hc, h0⟩
            rw [this] at c
            simp at c
          · rw [if_neg hc] at hf
            exact hf
        · rw [if_neg h0] at hf ⊢
          exact hf
      · obtain ⟨hc, h0⟩ := hb.1 (by simpa using c)
        refine Ev.ite (fun d => h6 h0 hc true (by unfold off; simp; omega)) (fun d => ?_)
        refine Ev.ite (fun d => h6 h0 hc true (by unfold off; simp; omega)) (fun d => h6 h0 hc _ (by unfold off; simp; omega))
    refine Ev.step (fun k => by rw [bakelaw3_SampOfs.l0]) ?_
    rw [hx]
    refine Ev.yes (by omega) (Ev.yes (by omega) (Ev.yes (by omega) ?_))
    exact Ev.ite (fun c => h5 _ (by simp [c])) (fun c => h5 _ (by simp [c]))

theorem law (l : List S33) (hl : l.length ≤ 140737488351232) (chip : ByteArray) (first n : Int) (l4 : List Int) (hl4 : l4.length ≤ 140737488351232) : ∃ k, bakelaw3_SampOfs.f k l chip first n l4 = some true := by
  refine Ev.rounds ?_
  unfold bakelaw3_SampOfs.f
  have one : ∀ m : Int, (m ≤ 300 ∨ m > 100000) → Ev (fun k => bakelaw3_SampOfs.j1 k l chip first m l4) true := by
    intro m hm
    refine Ev.step (fun k => by rw [bakelaw3_SampOfs.j1]) ?_
    refine Ev.bind (of_right l hl chip first m) ?_
    have eight : ∀ (w : List Int), (ofR l chip first m).1 = w → w.length ≤ 140737488351232 → Ev (fun k => bakelaw3_SampOfs.j8 k l4 (ofR l chip first m).1 (ofR l chip first m).2 (ofR l chip first m).2 w) true := by
      intro w hw hwl
      refine Ev.step (fun k => by rw [bakelaw3_SampOfs.j8]) ?_
      rw [hw]
      exact Ev.bind heard (Ev.yes rfl (Ev.bind (check l4 hl4) (Ev.bind (level l4 hl4) (Ev.yes rfl (Ev.yes rfl (Ev.bind (same w hwl) (Ev.now true)))))))
    have wants : Ev (fun k => bakelaw3_SampOfs.l1 k l chip first m l4 (ofR l chip first m).1 (ofR l chip first m).2 (ofR l chip first m).2 ([] : List Int) 0) true := by
      by_cases c : (ofR l chip first m).2 = 0
      · have e := eight (ofR l chip first m).1 rfl
        have hn : nf first m = 0 := by
          unfold ofR at c
          by_cases d : nf first m = 0
          · exact d
          · rw [if_neg d] at c; exact absurd c d
        have hf : fa chip (-1) l = 0 := by
          unfold ofR at c
          rw [if_pos hn] at c
          by_cases d : fa chip (-1) l = 0
          · exact d
          · rw [if_neg d] at c; exact absurd c d
        have hR : (ofR l chip first m).1 = rest m.toNat 0 (fun t => lev chip first t l) := by
          unfold ofR
          rw [if_pos hn, if_pos hf]
        have hm2 : 0 ≤ m ∧ m ≤ 300 := by
          unfold nf at hn
          by_cases d : m < 0 ∨ m > 100000
          · rw [if_pos d] at hn; omega
          · omega
        rw [c] at e ⊢
        obtain ⟨q, rfl⟩ : ∃ q : Nat, m = q := ⟨m.toNat, by omega⟩
        rw [Int.toNat_natCast] at hR
        have := want_loop l hl chip first l4 (ofR l chip first (q : Int)).1 0 q (by omega) (r := true) (by
          rw [← hR]
          refine e ?_
          rw [hR]
          simp [rest]
          omega) q 0 (by omega)
        simpa using this
      · refine Ev.step (fun k => by rw [bakelaw3_SampOfs.l1]) ?_
        refine Ev.no c (eight [] ?_ (by simp))
        unfold ofR at c ⊢
        by_cases d : nf first m = 0
        · rw [if_pos d] at c ⊢
          by_cases e : fa chip (-1) l = 0
          · rw [if_pos e] at c; exact absurd rfl c
          · rw [if_neg e]
        · rw [if_neg d]
    have three : ∀ f, nf first m = f → Ev (fun k => bakelaw3_SampOfs.j3 k l chip first m l4 (ofR l chip first m).1 (ofR l chip first m).2 f (-1)) true := by
      intro f hf
      refine Ev.step (fun k => by rw [bakelaw3_SampOfs.j3]) ?_
      refine law_loop l hl chip first m l4 _ _ (ofR l chip first m).2 wants l [] f (-1) rfl ?_
      unfold ofR
      rw [hf]
      by_cases c : f = 0
      · rw [if_pos c, if_pos c]
        by_cases e : fa chip (-1) l = 0
        · rw [if_pos e, e]
        · rw [if_neg e]
      · rw [if_neg c, if_neg c]
    have two : ∀ b : Bool, (b = true ↔ (m < 0 ∨ m > 100000)) → Ev (fun k => bakelaw3_SampOfs.j2 k l chip first m l4 (ofR l chip first m).1 (ofR l chip first m).2 0 (-1) b) true := by
      intro b hb
      refine Ev.step (fun k => by rw [bakelaw3_SampOfs.j2]) ?_
      unfold nf at three
      refine Ev.ite (fun c => three 2 (by rw [if_pos (hb.1 c)])) (fun c => ?_)
      have hc : ¬ (m < 0 ∨ m > 100000) := fun h => c (hb.2 h)
      rw [if_neg hc] at three
      refine Ev.ite (fun d => three 1 (by rw [if_pos (by omega)])) (fun d => ?_)
      exact Ev.ite (fun d => three 1 (by rw [if_pos (by omega)])) (fun d => three 0 (by rw [if_neg (by omega)]))
    exact Ev.ite (fun c => two true (by simp; omega)) (fun c => two _ (by simp; omega))
  have zero : ∀ b : Bool, (b = true ↔ (n > 300 ∧ n ≤ 100000)) → Ev (fun k => bakelaw3_SampOfs.j0 k l chip first n l4 b) true := by
    intro b hb
    refine Ev.step (fun k => by rw [bakelaw3_SampOfs.j0]) ?_
    refine Ev.ite (fun c => one 300 (.inl (Int.le_refl _))) (fun c => one n ?_)
    have : ¬ (n > 300 ∧ n ≤ 100000) := fun h => c (hb.2 h)
    omega
  exact Ev.ite (fun c => zero _ (by simp; omega)) (fun c => zero false (by simp; omega))
end Go.Proofs.Ytimkpdbghbhkkaa.SOf
