/- What an argument of a law reads as, kind by kind: for every type built of numbers, bools, strings, slices and structs, whatever value can be read as data is a Lean value of the printed kind; its numbers fit, its slices are within the reach, and its size is at most its bulk. -/
import Derived.Test.YtimkpdbghbhkkaaRows
import Derived.Test.YtimkpdbghbhkkaaWWords
import Derived.ChangeArms
import Derived.OpenShut
import Derived.SizedLaws
import Derived.Deep.Slices
namespace Go.Proofs.Ytimkpdbghbhkkaa.Rdr
open Go.ChangeShapes Go.WideShapes Go.Proofs.YtimkpdbghbhkkaaW.PrintWords

structure Rd {α : Type} (P : Program) (t : TypeId) (d : Kd α) (wf : α → Prop) (siz : α → Nat) : Prop where
  cells : P.cellsOf t = d.sz
  read : ∀ {H : Type} {enc : TypeId × Value → H} {W : World} {base : Nat} {spare : Nat → Bool} {held : Bool} {fuel : Nat} {cs : List Value} {x : DataW H × List MemPlace},
    DataW.trod enc P W base spare held fuel t cs = some x → (∀ n ∈ x.1.weights P t, n ≤ reachBytes) → ∃ y, d.K W y cs ∧ wf y ∧ siz y ≤ Rows.uptoBulk x.1

variable {P : Program} {α β : Type}

theorem rd_int {t : TypeId} {k : IntKind} (hu : P.underlying t = some (.int k)) (hc : P.cellsOf t = 1) : Rd P t (Kd.int k) (fun y => (Lit.int k y).wf = true) (fun _ => 1) :=
  ⟨hc, fun h _ => by
    obtain ⟨n, rfl, rfl, hw⟩ := DataW.trod_int hu h
    exact ⟨n, rfl, hw, by simp [Rows.uptoBulk]⟩⟩
theorem rd_bool {t : TypeId} (hu : P.underlying t = some .bool) (hc : P.cellsOf t = 1) : Rd P t Kd.bool (fun _ => True) (fun _ => 1) :=
  ⟨hc, fun h _ => by
    obtain ⟨n, rfl, rfl⟩ := DataW.trod_bool hu h
    exact ⟨n, rfl, trivial, by simp [Rows.uptoBulk]⟩⟩
theorem rd_string {t : TypeId} (hu : P.underlying t = some .string) (hc : P.cellsOf t = 1) : Rd P t Kd.string (fun y => y.size ≤ 140737488351232) (fun y => y.size + 1) :=
  ⟨hc, fun h hw => by
    obtain ⟨s, rfl, rfl, _⟩ := DataW.trod_string hu h
    refine ⟨s, rfl, ?_, ?_⟩
    · have := hw s.data.toList.length (by simp [DataW.weights])
      rw [data_length] at this
      exact this
    · simp only [Rows.uptoBulk]
      rw [data_length]
      omega⟩

theorem weights_all {H : Type} {e : TypeId} {n : Nat} : ∀ {l : List (DataW H)} {d : DataW H}, d ∈ l → n ∈ d.weights P e → n ∈ DataW.weightsAll P e l
  | x :: r, d, hd, hn => by
    rw [DataW.weightsAll]
    rcases List.mem_cons.1 hd with rfl | hd
    · exact List.mem_append_left _ hn
    · exact List.mem_append_right _ (weights_all hd hn)

theorem build {H : Type} {wf : α → Prop} {siz : α → Nat} : ∀ (es : List (DataW H × List MemPlace)) (p : Nat → α → Prop),
    (∀ i x, es[i]? = some x → ∃ y, p i y ∧ wf y ∧ siz y ≤ Rows.uptoBulk x.1) →
    ∃ ys : List α, ys.length = es.length ∧ (∀ j y, ys[j]? = some y → p j y ∧ wf y) ∧ (ys.map siz).sum ≤ Rows.uptoBulkAll (es.map (·.1))
  | [], _, _ => ⟨[], rfl, fun j y h => by simp at h, by simp⟩
  | x :: r, p, h => by
    obtain ⟨y, hp, hw, hs⟩ := h 0 x rfl
    obtain ⟨ys, hl, hy, hsum⟩ := build r (fun i => p (i + 1)) (fun i x hx => h (i + 1) x (by simpa using hx))
    refine ⟨y :: ys, by simp [hl], fun j z hz => ?_, ?_⟩
    · cases j with
      | zero => simp only [List.getElem?_cons_zero, Option.some.injEq] at hz; subst hz; exact ⟨hp, hw⟩
      | succ j => exact hy j z (by simpa using hz)
    · simp only [List.map_cons, List.sum_cons, Rows.uptoBulkAll]
      omega

def sizL (siz : α → Nat) (l : List α) : Nat := (l.map siz).sum + 1
def wfL (B : Nat) (wf : α → Prop) (l : List α) : Prop := l.length * B ≤ 140737488351232 ∧ ∀ y ∈ l, wf y

theorem rd_slice {t e : TypeId} {d : Kd α} {wf : α → Prop} {siz : α → Nat} {B : Nat} (hu : P.underlying t = some (.slice e)) (hc : P.cellsOf t = 1) (hB : P.bytesOf e = B) (r : Rd P e d wf siz) :
    Rd P t (Kd.slice e d) (wfL B wf) (sizL siz) :=
  ⟨hc, fun {H enc W base spare held fuel cs x} h hw => by
    rcases DataW.trod_slice hu h with ⟨rfl, rfl⟩ | ⟨a, len, cap, elems, rest, n, _, rfl, rfl, hb, hl, hm, hlen, hel, _, _⟩
    · exact ⟨[], ⟨none, 0, rfl, Nat.le_refl _, Kd.C_nil d W⟩, ⟨by simp, fun y hy => by simp at hy⟩, by simp [sizL, Rows.uptoBulk]⟩
    · simp only [DataW.weights, hu] at hw
      have hw1 : (elems.length + rest.length) * B ≤ 140737488351232 := by
        have := hw ((elems.length + rest.length) * B) (by simp [hB])
        exact this
      obtain ⟨ys, hyl, hyp, hys⟩ := build (wf := wf) (siz := siz) elems (fun i y => ∃ c, c.length = d.sz ∧ d.K W y c ∧ ∀ j u, c[j]? = some u → W.cell? (a.add (i * d.sz + j)) = some u) (fun i z hz => by
        have hi : i < len := by
          have := (List.getElem?_eq_some_iff.1 hz).1
          omega
        have h1 := hel i hi
        rw [hz] at h1
        obtain ⟨c, hc1, hc2⟩ := Option.bind_eq_some_iff.1 h1
        obtain ⟨y, hK, hwf, hsz⟩ := r.read hc2 (fun q hq => hw q (List.mem_cons_of_mem _ (List.mem_append_left _ (weights_all (List.mem_map.2 ⟨z, List.mem_of_getElem? hz, rfl⟩) hq))))
        obtain ⟨_, hcl, hcell⟩ := World.cells?_some hc1
        refine ⟨y, ⟨c, by rw [d.K_len hK], hK, fun j u hu => ?_⟩, hwf, hsz⟩
        have hj : j < P.cellsOf e := by
          have := (List.getElem?_eq_some_iff.1 hu).1
          omega
        have h3 := hcell j hj
        rw [Go.Deep.add_add, r.cells] at h3
        rw [h3]
        exact hu)
      refine ⟨ys, ⟨some a, cap, by rw [hyl, hlen], by omega, ⟨rfl, by simp only [maxLen] at hm; omega, fun _ => ⟨a, rfl, fun j y hy => (hyp j y hy).1⟩⟩⟩, ⟨?_, fun y hy => ?_⟩, ?_⟩
      · rw [hyl]
        exact Nat.le_trans (Nat.mul_le_mul_right _ (Nat.le_add_right _ _)) hw1
      · obtain ⟨j, hj⟩ := List.mem_iff_getElem?.1 hy
        exact (hyp j y hj).2
      · simp only [sizL, Rows.uptoBulk]
        omega⟩

/-- Fields in line, from cell 'off' on. -/
structure RdF (P : Program) (off : Nat) (fs : List Field) (d : Kd α) (wf : α → Prop) (siz : α → Nat) : Prop where
  read : ∀ {H : Type} {enc : TypeId × Value → H} {W : World} {base : Nat} {spare : Nat → Bool} {held : Bool} {fuel : Nat} {cs : List Value} {xs : List (DataW H × List MemPlace)},
    cs.length = off + d.sz → xs.length = fs.length →
    (∀ (i : Nat) (f : Field), fs[i]? = some f → DataW.trod enc P W base spare held fuel f.type ((cs.drop f.offset).take (P.cellsOf f.type)) = xs[i]?) →
    (∀ n ∈ DataW.weightsEach P (fs.map (·.type)) (xs.map (·.1)), n ≤ reachBytes) →
    ∃ y, d.K W y (cs.drop off) ∧ wf y ∧ siz y ≤ Rows.uptoBulkAll (xs.map (·.1))

theorem rdf_one {off : Nat} {f : Field} {d : Kd α} {wf : α → Prop} {siz : α → Nat} (ho : f.offset = off) (r : Rd P f.type d wf siz) : RdF P off [f] d wf siz := by
  constructor
  intro H enc W base spare held fuel cs xs hl hxl hx hw
  match xs, hxl with
  | [x], _ =>
    have h := hx 0 f rfl
    rw [ho, r.cells, List.take_of_length_le (by rw [List.length_drop]; omega)] at h
    simp only [List.getElem?_cons_zero] at h
    obtain ⟨y, h1, h2, h3⟩ := r.read h (fun n hn => hw n (by simp [DataW.weightsEach, hn]))
    exact ⟨y, h1, h2, by simp [Rows.uptoBulkAll]; omega⟩

theorem rdf_cons {off : Nat} {f : Field} {fs : List Field} {d : Kd α} {d' : Kd β} {wf : α → Prop} {wf' : β → Prop} {siz : α → Nat} {siz' : β → Nat} (ho : f.offset = off) (r : Rd P f.type d wf siz)
    (rs : RdF P (off + d.sz) fs d' wf' siz') : RdF P off (f :: fs) (Kd.pair d d') (fun y => wf y.1 ∧ wf' y.2) (fun y => siz y.1 + siz' y.2) := by
  constructor
  intro H enc W base spare held fuel cs xs hl hxl hx hw
  have hl' : cs.length = off + (d.sz + d'.sz) := hl
  match xs, hxl with
  | x :: xs, hxl =>
    have h := hx 0 f rfl
    rw [ho, r.cells] at h
    simp only [List.getElem?_cons_zero] at h
    obtain ⟨y, h1, h2, h3⟩ := r.read h (fun n hn => hw n (by simp [DataW.weightsEach, hn]))
    obtain ⟨z, g1, g2, g3⟩ := rs.read (enc := enc) (W := W) (base := base) (spare := spare) (held := held) (fuel := fuel) (cs := cs) (xs := xs) (by omega) (by simpa using hxl)
      (fun i g hg => by simpa using hx (i + 1) g (by simpa using hg)) (fun n hn => hw n (by simp only [List.map_cons, DataW.weightsEach]; exact List.mem_append_right _ hn))
    refine ⟨(y, z), ⟨(cs.drop off).take d.sz, cs.drop (off + d.sz), ?_, h1, g1⟩, ⟨h2, g2⟩, ?_⟩
    · rw [← List.drop_drop]
      exact (List.take_append_drop _ _).symm
    · simp only [List.map_cons, Rows.uptoBulkAll]
      omega

theorem rd_struct {t : TypeId} {fs : Array Field} {d : Kd α} {wf : α → Prop} {siz : α → Nat} (hu : P.underlying t = some (.struct fs)) (hc : P.cellsOf t = d.sz) (r : RdF P 0 fs.toList d wf siz) : Rd P t d wf siz :=
  ⟨hc, fun h hw => by
    obtain ⟨xs, n, _, rfl, hl, hxl, hx⟩ := DataW.trod_struct hu h
    obtain ⟨y, h1, h2, h3⟩ := r.read (by rw [hl, hc]; omega) (by rw [hxl]; simp) (fun i f hf => hx i f (by simpa using hf)) (fun n hn => hw n (by simp only [DataW.weights, hu]; exact hn))
    refine ⟨y, h1, h2, ?_⟩
    simp only [Rows.uptoBulk]
    omega⟩

theorem rd_iso {t : TypeId} {d : Kd α} {wf : α → Prop} {siz : α → Nat} (f : β → α) (g : α → β) (hfg : ∀ a, f (g a) = a) (r : Rd P t d wf siz) : Rd P t (Kd.iso d f) (fun b => wf (f b)) (fun b => siz (f b)) :=
  ⟨r.cells, fun h hw => by
    obtain ⟨y, h1, h2, h3⟩ := r.read h hw
    exact ⟨g y, by show d.K _ (f (g y)) _; rw [hfg]; exact h1, by rw [hfg]; exact h2, by rw [hfg]; exact h3⟩⟩

/-- An argument that is a slice. -/
theorem Rd.slice {t e : TypeId} {d : Kd α} {B : Nat} {wf : α → Prop} {siz : List α → Nat} (r : Rd P t (Kd.slice e d) (wfL B wf) siz) {H : Type} {enc : TypeId × Value → H} {W : World} {base : Nat} {spare : Nat → Bool} {held : Bool} {a : Option Addr} {len cap : Nat} {x : DataW H} {ps : List MemPlace}
    (h : DataW.Trod enc P W base spare held t (.slice a len cap) x ps) (hw : ∀ n ∈ x.weights P t, n ≤ reachBytes) :
    ∃ l : List α, len = l.length ∧ l.length ≤ cap ∧ d.C W a l.length l ∧ l.length * B ≤ 140737488351232 ∧ (∀ y ∈ l, wf y) ∧ siz l ≤ Rows.uptoBulk x := by
  obtain ⟨fuel, hf⟩ := h
  obtain ⟨y, ⟨A, c, hcs, hl, hC⟩, ⟨hB, hwf⟩, hs⟩ := r.read hf hw
  simp only [Value.cells, List.cons.injEq, and_true] at hcs
  injection hcs with h1 h2 h3
  subst h1 h2 h3
  exact ⟨y, rfl, hl, hC, hB, hwf, hs⟩

/-- The weights of one argument. -/
theorem weights_at {H : Type} {ts : List TypeId} {ds : List (DataW H)} (hsz : (DataW.weightsEach P ts ds).all (· ≤ reachBytes) = true) (j : Nat) {t : TypeId} {d : DataW H} (ht : ts[j]? = some t) (hd : ds[j]? = some d) :
    ∀ n ∈ d.weights P t, n ≤ reachBytes := fun n hn => by
  have := List.all_eq_true.1 hsz n (DataW.weights_mem_each ht hd n hn)
  simpa using this

/-- The bulk of one argument. -/
theorem bulk_at {H : Type} {l : List (DataW H)} (hk : Rows.uptoSmall H l = true) {d : DataW H} (hd : d ∈ l) : Rows.uptoBulk d ≤ 1048576 := by
  have h : Rows.uptoBulkAll l ≤ 1048576 := of_decide_eq_true hk
  have key : ∀ {l : List (DataW H)}, d ∈ l → Rows.uptoBulk d ≤ Rows.uptoBulkAll l := by
    intro l
    induction l with
    | nil => intro h; simp at h
    | cons x r ih =>
      intro h
      simp only [Rows.uptoBulkAll]
      rcases List.mem_cons.1 h with rfl | h
      · omega
      · have := ih h
        omega
  exact Nat.le_trans (key hd) h

theorem sizL_len {siz : α → Nat} (h1 : ∀ y, 1 ≤ siz y) (l : List α) : l.length + 1 ≤ sizL siz l := by
  have : l.length ≤ (l.map siz).sum := by
    induction l with
    | nil => simp
    | cons x r ih => have := h1 x; simp only [List.length_cons, List.map_cons, List.sum_cons]; omega
  unfold sizL
  omega
theorem sizL_mem {siz : α → Nat} {l : List α} {y : α} (h : y ∈ l) : siz y + 1 ≤ sizL siz l := by
  have : siz y ≤ (l.map siz).sum := by
    induction l with
    | nil => simp at h
    | cons x r ih =>
      simp only [List.map_cons, List.sum_cons]
      rcases List.mem_cons.1 h with rfl | h
      · omega
      · have := ih h
        omega
  unfold sizL
  omega
end Go.Proofs.Ytimkpdbghbhkkaa.Rdr
