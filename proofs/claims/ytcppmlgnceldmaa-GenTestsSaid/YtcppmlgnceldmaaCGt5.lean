/- Merged texts of one claim: a Go law, its functions without memory, and the plain law. The law returns true for every input; conditions: as the row says. -/
import Derived.Test.YtcppmlgnceldmaaRows
import Derived.ChangeArms
import Derived.OpenShut
import Derived.SizedLaws
import Derived.Deep.Slices
import Derived.Below
import Derived.KernelRfl
import Derived.WalkKit
import Derived.ProofKit
import Derived.ShutString
import Derived.ChangeOld
import Derived.Test.YtcppmlgnceldmaaCGt0
import Derived.Test.YtcppmlgnceldmaaCGt1
import Derived.Test.YtcppmlgnceldmaaCGt2
import Derived.Test.YtcppmlgnceldmaaCGt3
import Derived.Test.YtcppmlgnceldmaaCGt4
/- What an argument of a law reads as, kind by kind. -/
set_option linter.unusedVariables false
noncomputable section
namespace Go.Proofs.Ytcppmlgnceldmaa.Gp
open Go Go.ChangeShapes Go.WideShapes Go.RowKit

/-- the input's memory, all of it frozen -/
def memH (W : World) : Hp := fun b => W.heap[b]?

structure Gd (P : Program) (t : TypeId) (k : K) (wf : k.den → Prop) (siz : k.den → Nat) : Prop where
  cells : P.cellsOf t = k.w
  one : k.one = true
  pur : k.pur = true
  val : ∀ {W : World} {r : Reach} {base : Nat} {v : Value}, Value.okWide P W r base t v → v = k.mk v.cells.toList
  read : ∀ {H : Type} {enc : TypeId × Value → H} {W : World} {base : Nat} {spare : Nat → Bool} {held : Bool} {fuel : Nat} {cs : List Value} {x : DataW H × List MemPlace},
    DataW.trod enc P W base spare held fuel t cs = some x → (∀ n ∈ x.1.weights P t, n ≤ reachBytes) → ∃ y, (∀ L, Lv (memH W) L k y cs) ∧ wf y ∧ siz y ≤ Rows.uptoBulk x.1

variable {P : Program}

theorem str_len {s : ByteArray} : s.data.toList.length = s.size := Array.length_toList
theorem gd_int {t : TypeId} {k : IntKind} (hu : P.underlying t = some (.int k)) (hc : P.cellsOf t = 1) : Gd P t (.int k) (fun (y : Int) => (Lit.int k y).wf = true) (fun _ => 1) :=
  ⟨hc, rfl, rfl, fun h => by obtain ⟨n, rfl⟩ := okWide_int hu h; rfl, fun h _ => by
    obtain ⟨n, rfl, rfl, hw⟩ := DataW.trod_int hu h
    exact ⟨n, fun _ => rfl, hw, by simp [Rows.uptoBulk]⟩⟩
theorem gd_bool {t : TypeId} (hu : P.underlying t = some .bool) (hc : P.cellsOf t = 1) : Gd P t .bool (fun _ => True) (fun _ => 1) :=
  ⟨hc, rfl, rfl, fun h => by
    simp only [Value.okWide, hu, Cell.okWide] at h
    rename_i v
    cases v <;> first | rfl | (simp_all [Cell.ok]; done), fun h _ => by
    obtain ⟨n, rfl, rfl⟩ := DataW.trod_bool hu h
    exact ⟨n, fun _ => rfl, trivial, by simp [Rows.uptoBulk]⟩⟩
theorem gd_str {t : TypeId} (hu : P.underlying t = some .string) (hc : P.cellsOf t = 1) : Gd P t .str (fun (y : ByteArray) => y.size ≤ 140737488351232) (fun (y : ByteArray) => y.size + 1) :=
  ⟨hc, rfl, rfl, fun h => by
    simp only [Value.okWide, hu, Cell.okWide] at h
    rename_i v
    cases v <;> first | rfl | (simp_all [Cell.ok]; done), fun h hw => by
    obtain ⟨s, rfl, rfl, _⟩ := DataW.trod_string hu h
    refine ⟨s, fun _ => rfl, ?_, ?_⟩
    · have := hw s.data.toList.length (by simp [DataW.weights])
      rw [str_len] at this
      exact this
    · simp only [Rows.uptoBulk]
      rw [str_len]
      omega⟩

theorem weights_all {H : Type} {e : TypeId} {n : Nat} : ∀ {l : List (DataW H)} {d : DataW H}, d ∈ l → n ∈ d.weights P e → n ∈ DataW.weightsAll P e l
  | x :: r, d, hd, hn => by
    rw [DataW.weightsAll]
    rcases List.mem_cons.1 hd with rfl | hd
    · exact List.mem_append_left _ hn
    · exact List.mem_append_right _ (weights_all hd hn)
theorem buildL {α : Type} {H : Type} {wf : α → Prop} {siz : α → Nat} : ∀ (es : List (DataW H × List MemPlace)) (p : Nat → α → Prop),
    (∀ i x, es[i]? = some x → ∃ y, p i y ∧ wf y ∧ siz y ≤ Rows.uptoBulk x.1) →
    ∃ ys : List α, ys.length = es.length ∧ (∀ j y, ys[j]? = some y → p j y ∧ wf y) ∧ (ys.map siz).sum ≤ Rows.uptoBulkAll (es.map (·.1))
  | [], _, _ => ⟨[], rfl, fun j y h => by simp at h, by simp⟩
  | x :: r, p, h => by
    obtain ⟨y, hp, hw, hs⟩ := h 0 x rfl
    obtain ⟨ys, hl, hy, hsum⟩ := buildL r (fun i => p (i + 1)) (fun i x hx => h (i + 1) x (by simpa using hx))
    refine ⟨y :: ys, by simp [hl], fun j z hz => ?_, ?_⟩
    · cases j with
      | zero => simp only [List.getElem?_cons_zero, Option.some.injEq] at hz; subst hz; exact ⟨hp, hw⟩
      | succ j => exact hy j z (by simpa using hz)
    · simp only [List.map_cons, List.sum_cons, Rows.uptoBulkAll]
      omega

def sizL {α : Type} (siz : α → Nat) (l : List α) : Nat := (l.map siz).sum + 1
def wfL {α : Type} (B : Nat) (wf : α → Prop) (l : List α) : Prop := l.length * B ≤ 140737488351232 ∧ ∀ y ∈ l, wf y

theorem LvL_mk {α : Type} {R : α → List Value → Prop} {w : Nat} {C : List Value} : ∀ {ys : List α} {o : Nat}, (∀ j y, ys[j]? = some y → ∃ c : List Value, c.length = w ∧ R y c ∧ ∀ i u, c[i]? = some u → C[o + (j * w + i)]? = some u) →
    LvL R ys ((C.drop o).take (ys.length * w))
  | [], o, h => by simp [LvL]
  | y :: ys, o, h => by
    obtain ⟨c, hc, hr, hu⟩ := h 0 y rfl
    have e : (C.drop o).take w = c := by
      apply List.ext_getElem?
      intro i
      rw [cut_get]
      by_cases hi : i < w
      · rw [if_pos hi]
        have hi' : i < c.length := by omega
        have := hu i c[i] (List.getElem?_eq_getElem hi')
        rw [Nat.zero_mul, Nat.zero_add] at this
        rw [this, List.getElem?_eq_getElem hi']
      · rw [if_neg hi, List.getElem?_eq_none (by omega)]
    refine ⟨c, (C.drop (o + w)).take (ys.length * w), ?_, hr, LvL_mk (fun j z hz => ?_)⟩
    · rw [List.length_cons, Nat.add_mul, Nat.one_mul, Nat.add_comm (ys.length * w) w, List.take_add, e, List.drop_drop]
    · obtain ⟨c', h1, h2, h3⟩ := h (j + 1) z hz
      refine ⟨c', h1, h2, fun i u hi => ?_⟩
      have := h3 i u hi
      rw [Nat.add_mul, Nat.one_mul] at this
      rw [show o + w + (j * w + i) = o + (j * w + w + i) by omega]
      exact this

theorem gd_sl {t e : TypeId} {k : K} {wf : k.den → Prop} {siz : k.den → Nat} {B : Nat} (hu : P.underlying t = some (.slice e)) (hc : P.cellsOf t = 1) (hB : P.bytesOf e = B) (hk : 0 < k.w) (r : Gd P e k wf siz) :
    Gd P t (.sl k) (wfL (α := k.den) B wf) (sizL (α := k.den) siz) :=
  ⟨hc, rfl, r.pur, fun h => by obtain ⟨a, len, cap, rfl⟩ := okWide_slice hu h; rfl, fun {H enc W base spare held fuel cs x} h hw => by
    rcases DataW.trod_slice hu h with ⟨rfl, rfl⟩ | ⟨a, len, cap, elems, rest, n, _, rfl, rfl, hb, hl, hm, hlen, hel, _, _⟩
    · exact ⟨([] : List k.den), fun L => ⟨r.pur, none, 0, rfl, Nat.le_refl _, fun hn => absurd rfl hn⟩, ⟨by simp, fun y hy => by simp at hy⟩, by simp [sizL, Rows.uptoBulk]⟩
    · simp only [DataW.weights, hu] at hw
      have hw1 : (elems.length + rest.length) * B ≤ 140737488351232 := by
        have := hw ((elems.length + rest.length) * B) (by simp [hB])
        exact this
      obtain ⟨ys, hyl, hyp, hys⟩ := buildL (wf := wf) (siz := siz) elems (fun i y => ∃ c : List Value, c.length = k.w ∧ (∀ L, Lv (memH W) L k y c) ∧ ∀ j u, c[j]? = some u → W.cell? (a.add (i * k.w + j)) = some u) (fun i z hz => by
        have hi : i < len := by
          have := (List.getElem?_eq_some_iff.1 hz).1
          omega
        have h1 := hel i hi
        rw [hz] at h1
        obtain ⟨c, hc1, hc2⟩ := Option.bind_eq_some_iff.1 h1
        obtain ⟨y, hK, hwf, hsz⟩ := r.read hc2 (fun q hq => hw q (List.mem_cons_of_mem _ (List.mem_append_left _ (weights_all (List.mem_map.2 ⟨z, List.mem_of_getElem? hz, rfl⟩) hq))))
        obtain ⟨_, hcl, hcell⟩ := World.cells?_some hc1
        refine ⟨y, ⟨c, Lv_len (hK default), hK, fun j u hu => ?_⟩, hwf, hsz⟩
        have hj : j < P.cellsOf e := by
          have := (List.getElem?_eq_some_iff.1 hu).1
          omega
        have h3 := hcell j hj
        rw [Go.Deep.add_add, r.cells] at h3
        rw [h3]
        exact hu)
      refine ⟨ys, fun L => ⟨r.pur, some a, cap, by rw [hyl, hlen], by omega, fun hn => ?_⟩, ⟨?_, fun y hy => ?_⟩, ?_⟩
      · have hn : ys.length ≠ 0 := hn
        obtain ⟨y, hy⟩ : ∃ y, ys[0]? = some y := ⟨ys[0]'(by omega), List.getElem?_eq_getElem (by omega)⟩
        obtain ⟨c, c1, c2, c3⟩ := (hyp 0 y hy).1
        obtain ⟨u, hu0⟩ : ∃ u, c[0]? = some u := ⟨c[0]'(by omega), List.getElem?_eq_getElem (by omega)⟩
        have hcell := c3 0 u hu0
        rw [Nat.zero_mul, Nat.zero_add, show a.add 0 = a from rfl] at hcell
        unfold World.cell? at hcell
        split at hcell
        · rename_i C ee zz hblk
          split at hcell
          · cases hcell
          · rename_i hsp
            have hsp : a.spot = none := by cases hs : a.spot with | none => rfl | some q => rw [hs] at hsp; exact absurd rfl hsp
            refine ⟨a.block, a.off, C, ee, zz, by cases a; simp only at hsp; rw [hsp], hblk, LvL_mk (C := C.toList) (fun j y hy => ?_)⟩
            obtain ⟨c, c1, c2, c3⟩ := (hyp j y hy).1
            refine ⟨c, c1, c2 L, fun i u hi => ?_⟩
            have h5 := c3 i u hi
            have hadd : (a.add (j * k.w + i)).block = a.block ∧ (a.add (j * k.w + i)).off = a.off + (j * k.w + i) ∧ (a.add (j * k.w + i)).spot = none := by
              unfold Addr.add
              split
              · rename_i h0; exact ⟨rfl, by omega, hsp⟩
              · exact ⟨rfl, rfl, rfl⟩
            unfold World.cell? at h5
            rw [hadd.1, hblk, hadd.2.1, hadd.2.2] at h5
            rw [Array.getElem?_toList]
            exact h5
        · cases hcell
      · rw [hyl]
        exact Nat.le_trans (Nat.mul_le_mul_right _ (Nat.le_add_right _ _)) hw1
      · obtain ⟨j, hj⟩ := List.mem_iff_getElem?.1 hy
        exact (hyp j y hj).2
      · simp only [sizL, Rows.uptoBulk]
        omega⟩

/-- arrays -/
def sizA {α : Type} (siz : α → Nat) (l : List α) : Nat := (l.map siz).sum
def wfA {α : Type} (n : Nat) (wf : α → Prop) (l : List α) : Prop := l.length = n ∧ ∀ y ∈ l, wf y
theorem gd_arr {t e : TypeId} {n : Nat} {k : K} {wf : k.den → Prop} {siz : k.den → Nat} (hu : P.underlying t = some (.array n e)) (hc : P.cellsOf t = n * k.w) (r : Gd P e k wf siz) :
    Gd P t (.arr n k) (wfA (α := k.den) n wf) (sizA (α := k.den) siz) :=
  ⟨hc, rfl, r.pur, fun h => by
    simp only [Value.okWide, hu] at h
    obtain ⟨cs, rfl, _⟩ := h
    rfl, fun {H enc W base spare held fuel cs x} h hw => by
    obtain ⟨xs, m, _, rfl, hl, hxl, hx⟩ := DataW.trod_array hu h
    simp only [DataW.weights, hu] at hw
    obtain ⟨ys, hyl, hyp, hys⟩ := buildL (wf := wf) (siz := siz) xs (fun i y => ∀ L, Lv (memH W) L k y ((cs.drop (i * k.w)).take k.w)) (fun i z hz => by
      have hi : i < n := by
        have := (List.getElem?_eq_some_iff.1 hz).1
        omega
      have h1 := hx i hi
      rw [hz, r.cells] at h1
      obtain ⟨y, hK, hwf, hsz⟩ := r.read h1 (fun q hq => hw q (weights_all (List.mem_map.2 ⟨z, List.mem_of_getElem? hz, rfl⟩) hq))
      exact ⟨y, hK, hwf, hsz⟩)
    refine ⟨ys, fun L => ⟨r.pur, hyl.trans hxl, ?_⟩, ⟨hyl.trans hxl, fun y hy => ?_⟩, ?_⟩
    · have := LvL_mk (w := k.w) (R := Lv (memH W) L k) (C := cs) (ys := ys) (o := 0) (fun j y hy => ⟨(cs.drop (j * k.w)).take k.w, Lv_len ((hyp j y hy).1 L), (hyp j y hy).1 L, fun i u hi => by
        rw [cut_get] at hi
        split at hi
        · rw [Nat.zero_add]; exact hi
        · cases hi⟩)
      rwa [List.drop_zero, List.take_of_length_le (by rw [hl, hc, hyl, hxl]; exact Nat.le_refl _)] at this
    · obtain ⟨j, hj⟩ := List.mem_iff_getElem?.1 hy
      exact (hyp j y hj).2
    · simp only [sizA, Rows.uptoBulk]
      omega⟩

/-- fields in line, from cell 'off' on -/
structure GdF (P : Program) (off : Nat) (fs : List Field) (k : K) (wf : k.den → Prop) (siz : k.den → Nat) : Prop where
  pur : k.pur = true
  read : ∀ {H : Type} {enc : TypeId × Value → H} {W : World} {base : Nat} {spare : Nat → Bool} {held : Bool} {fuel : Nat} {cs : List Value} {xs : List (DataW H × List MemPlace)},
    cs.length = off + k.w → xs.length = fs.length →
    (∀ (i : Nat) (f : Field), fs[i]? = some f → DataW.trod enc P W base spare held fuel f.type ((cs.drop f.offset).take (P.cellsOf f.type)) = xs[i]?) →
    (∀ n ∈ DataW.weightsEach P (fs.map (·.type)) (xs.map (·.1)), n ≤ reachBytes) →
    ∃ y, (∀ L, Lv (memH W) L k y (cs.drop off)) ∧ wf y ∧ siz y ≤ Rows.uptoBulkAll (xs.map (·.1))

theorem gdf_nil {off : Nat} : GdF P off [] .unit (fun _ => True) (fun _ => 0) :=
  ⟨rfl, fun {H enc W base spare held fuel cs xs} hl hxl hx hw => ⟨(), fun L => by
    show cs.drop off = []
    exact List.drop_eq_nil_of_le (by rw [hl]; exact Nat.le_refl _), trivial, Nat.zero_le _⟩⟩
theorem gdf_cons {off : Nat} {f : Field} {fs : List Field} {k k' : K} {wf : k.den → Prop} {wf' : k'.den → Prop} {siz : k.den → Nat} {siz' : k'.den → Nat} (ho : f.offset = off) (r : Gd P f.type k wf siz)
    (rs : GdF P (off + k.w) fs k' wf' siz') : GdF P off (f :: fs) (.pair k k') (fun (y : k.den × k'.den) => wf y.1 ∧ wf' y.2) (fun (y : k.den × k'.den) => siz y.1 + siz' y.2) := by
  refine ⟨by simp only [K.pur, r.pur, rs.pur]; rfl, ?_⟩
  intro H enc W base spare held fuel cs xs hl hxl hx hw
  have hl' : cs.length = off + (k.w + k'.w) := hl
  match xs, hxl with
  | x :: xs, hxl =>
    have h := hx 0 f rfl
    rw [ho, r.cells] at h
    simp only [List.getElem?_cons_zero] at h
    obtain ⟨y, h1, h2, h3⟩ := r.read h (fun n hn => hw n (by simp [DataW.weightsEach, hn]))
    obtain ⟨z, g1, g2, g3⟩ := rs.read (enc := enc) (W := W) (base := base) (spare := spare) (held := held) (fuel := fuel) (cs := cs) (xs := xs) (by omega) (by simpa using hxl)
      (fun i g hg => by simpa using hx (i + 1) g (by simpa using hg)) (fun n hn => hw n (by simp only [List.map_cons, DataW.weightsEach]; exact List.mem_append_right _ hn))
    refine ⟨(y, z), fun L => ⟨(cs.drop off).take k.w, cs.drop (off + k.w), ?_, h1 L, g1 L⟩, ⟨h2, g2⟩, ?_⟩
    · rw [← List.drop_drop]
      exact (List.take_append_drop _ _).symm
    · simp only [List.map_cons, Rows.uptoBulkAll]
      omega
theorem gdf_one {off : Nat} {f : Field} {k : K} {wf : k.den → Prop} {siz : k.den → Nat} (ho : f.offset = off) (r : Gd P f.type k wf siz) : GdF P off [f] k wf siz := by
  refine ⟨r.pur, ?_⟩
  intro H enc W base spare held fuel cs xs hl hxl hx hw
  match xs, hxl with
  | [x], hxl =>
    have h := hx 0 f rfl
    rw [ho, r.cells] at h
    simp only [List.getElem?_cons_zero] at h
    have e : (cs.drop off).take k.w = cs.drop off := List.take_of_length_le (by rw [List.length_drop, hl]; omega)
    rw [e] at h
    obtain ⟨y, h1, h2, h3⟩ := r.read h (fun n hn => hw n (by simp [DataW.weightsEach, hn]))
    refine ⟨y, h1, h2, ?_⟩
    simp only [List.map_cons, List.map_nil, Rows.uptoBulkAll]
    omega
theorem gd_st {t : TypeId} {fs : Array Field} {k : K} {wf : k.den → Prop} {siz : k.den → Nat} (hu : P.underlying t = some (.struct fs)) (hc : P.cellsOf t = k.w) (r : GdF P 0 fs.toList k wf siz) : Gd P t (.st k) wf siz :=
  ⟨hc, rfl, r.pur, fun h => by
    simp only [Value.okWide, hu] at h
    obtain ⟨cs, rfl, _⟩ := h
    rfl, fun h hw => by
    obtain ⟨xs, n, _, rfl, hl, hxl, hx⟩ := DataW.trod_struct hu h
    obtain ⟨y, h1, h2, h3⟩ := r.read (by rw [hl, hc]; omega) (by rw [hxl]; simp) (fun i f hf => hx i f (by simpa using hf)) (fun n hn => hw n (by simp only [DataW.weights, hu]; exact hn))
    refine ⟨y, h1, h2, ?_⟩
    simp only [Rows.uptoBulk]
    omega⟩

/-- an argument -/
theorem Gd.arg {t : TypeId} {k : K} {wf : k.den → Prop} {siz : k.den → Nat} (r : Gd P t k wf siz) {H : Type} {enc : TypeId × Value → H} {W : World} {base : Nat} {spare : Nat → Bool} {held : Bool} {rr : Reach} {b2 : Nat} {v : Value} {x : DataW H} {ps : List MemPlace}
    (hval : Value.okWide P W rr b2 t v) (h : DataW.Trod enc P W base spare held t v x ps) (hw : ∀ n ∈ x.weights P t, n ≤ reachBytes) : ∃ y : k.den, (∀ L, SR (memH W) L ⟨k, y⟩ v) ∧ wf y ∧ siz y ≤ Rows.uptoBulk x := by
  obtain ⟨fuel, hf⟩ := h
  obtain ⟨y, h1, h2, h3⟩ := r.read hf hw
  refine ⟨y, fun L => ?_, h2, h3⟩
  rw [r.val hval]
  exact SR_mk (h1 L)

def noLoc : Ls := fun _ => default
theorem law_calls {fuel : Nat} {f : FuncId} {params : List K} {run : Nat → HL params → HL (List.map (·.toK) ([] : List OK)) → Option (K.bool.den × HL (List.map (·.toK) ([] : List OK)))} (hs : SoundAt P fuel ⟨f, params, [], .bool, [], [], run⟩) {ds : HL params}
    (hr : run fuel ds () = some (true, ())) {args : Array Value} {W : World} (hv : SRs (memH W) noLoc (unpackL params ds) args.toList) : Calls P f args W (fun e W' => e = .returned (.bool true) ∧ Below W.heap.size W W') := by
  have hno : ∀ b, ¬ Own (assoc O.dead (objsFrom 0 ([] : List OK) ())) noLoc b := fun b ⟨i, hi, _⟩ => hi
  refine Calls.mono (hs.2 ds () (true, ()) hr args W (memH W) noLoc hv ⟨fun i => trivial, fun b o h => h, fun i hi => hi.elim, fun i j hi => hi.elim⟩ (fun i hi => by cases hi)) fun e W' hh => ?_
  obtain ⟨v, H', L', rfl, h1, _, _, hp⟩ := hh
  have h1 : SR H' L' ⟨.bool, true⟩ v := h1
  refine ⟨by rw [bool_at h1], hp.fr.os, hp.fr.tape, hp.fr.output, hp.fr.size, fun b hb => hp.fr.same b hb (hno b)⟩
/-- The weights of one argument. -/
theorem weights_at {H : Type} {ts : List TypeId} {ds : List (DataW H)} (hsz : (DataW.weightsEach P ts ds).all (· ≤ reachBytes) = true) (j : Nat) {t : TypeId} {d : DataW H} (ht : ts[j]? = some t) (hd : ds[j]? = some d) :
    ∀ n ∈ d.weights P t, n ≤ reachBytes := fun n hn => by
  have := List.all_eq_true.1 hsz n (DataW.weights_mem_each ht hd n hn)
  simpa using this

/-- The bulk of one argument. -/
theorem bulk_at {H : Type} {l : List (DataW H)} (hk : Rows.uptoSmall H l = true) {d : DataW H} (hd : d ∈ l) : Rows.uptoBulk d ≤ 1048576 := by
  have h : Rows.uptoBulkAll l ≤ 1048576 := of_decide_eq_true hk
  have key : ∀ {l : List (DataW H)}, d ∈ l → Rows.uptoBulk d ≤ Rows.uptoBulkAll l := by
    intro l
    induction l with
    | nil => intro h; simp at h
    | cons x r ih =>
      intro h
      simp only [Rows.uptoBulkAll]
      rcases List.mem_cons.1 h with rfl | h
      · omega
      · have := ih h
        omega
  exact Nat.le_trans (key hd) h
end Go.Proofs.Ytcppmlgnceldmaa.Gp

/- Tests that tell processors apart: the law of runs. No program in sight. -/
set_option linter.unusedVariables false
set_option maxRecDepth 100000
noncomputable section
namespace Go.Proofs.Ytcppmlgnceldmaa.Ge
open Go Go.Proofs.Ytcppmlgnceldmaa.Gp

abbrev B3 := Int × Int × Int
theorem eq3_same {x y : B3} (h : x = y) : (xor true (eqB (.st (.pair (.int .i64) (.pair (.int .i64) (.int .i64)))) x y)) = false :=
  (congrArg (xor true) ((eqB_iff (k := .st (.pair (.int .i64) (.pair (.int .i64) (.int .i64)))) rfl).2 h)).trans rfl
theorem eq3_not {x y : B3} (h : x ≠ y) : (xor true (eqB (.st (.pair (.int .i64) (.pair (.int .i64) (.int .i64)))) x y)) = true := by
  have : eqB (.st (.pair (.int .i64) (.pair (.int .i64) (.int .i64)))) x y = false := by
    cases hq : eqB (.st (.pair (.int .i64) (.pair (.int .i64) (.int .i64)))) x y with
    | false => rfl
    | true => exact absurd ((eqB_iff (k := .st (.pair (.int .i64) (.pair (.int .i64) (.int .i64)))) rfl).1 hq) h
  exact (congrArg (xor true) this).trans rfl
/-- the first place from j on where two lists differ -/
def fd (la lb : List B3) : Nat → Nat → Int
  | 0, _ => -1
  | n + 1, j => if la.getD j (0, 0, 0) = lb.getD j (0, 0, 0) then fd la lb n (j + 1) else (j : Int)
theorem at_ {l : List B3} {j : Nat} (h : j < l.length) : rd l (j : Int) = some (l.getD j (0, 0, 0)) := by
  refine rd_some' ?_
  rw [List.getD_eq_getElem?_getD, List.getElem?_eq_getElem h]; rfl
theorem fd_succ (la lb : List B3) (n j : Nat) : fd la lb (n + 1) j = if la.getD j (0, 0, 0) = lb.getD j (0, 0, 0) then fd la lb n (j + 1) else (j : Int) := rfl
theorem down_lp (a b : Cpu) (t : List Int × List Int) {la lb : List B3} (ha : la.length = 40) (hb : lb.length = 40) : ∀ (j n : Nat), j + n = 40 → Lp (fun k => GenRuns4.l0 k (la, ()) (lb, ())) (a, b, t, fd la lb n j, (j : Int) - 1) (a, b, t, fd la lb 40 0) := by
  intro j
  induction j with
  | zero =>
    intro n hn
    have : n = 40 := by omega
    subst this
    refine .done ?_
    simp only [GenRuns4.l0]
    exact .no (decide_eq_false (by omega)) (.now _)
  | succ j ih =>
    intro n hn
    have e : ((j + 1 : Nat) : Int) - 1 = (j : Int) := by omega
    rw [e]
    refine .step (s' := (a, b, t, fd la lb (n + 1) j, (j : Int) - 1)) ?_ (ih (n + 1) (by omega))
    simp only [GenRuns4.l0]
    refine .yes (decide_eq_true (by omega)) (.val (at_ (by omega)) (.val (at_ (by omega)) (.bind (a := (a, b, t, fd la lb (n + 1) j)) ?_ (.now' ?_))))
    · rw [fd_succ]
      by_cases hq : la.getD j (0, 0, 0) = lb.getD j (0, 0, 0)
      · rw [if_pos hq]
        exact .no (eq3_same hq) (.now _)
      · rw [if_neg hq]
        exact .yes (eq3_not hq) (.now _)
    · rw [w64_id (by omega) (by omega)]
def up (la lb : List B3) : Nat → Nat → Unit ⊕ (Int × Unit)
  | 0, _ => .inl ()
  | n + 1, j => if la.getD j (0, 0, 0) = lb.getD j (0, 0, 0) then up la lb n (j + 1) else .inr ((j : Int), ())
theorem up_lp {la lb : List B3} (ha : la.length = 40) (hb : lb.length = 40) : ∀ (n j : Nat), j + n = 40 → Lp (fun k => Tells21.l0 k (la, ()) (lb, ())) (j : Int) (up la lb n j) := by
  intro n
  induction n with
  | zero =>
    intro j hj
    refine .done ?_
    simp only [Tells21.l0]
    exact .no (decide_eq_false (by show ¬ (j : Int) < (la.length : Int); omega)) (.now _)
  | succ n ih =>
    intro j hj
    unfold up
    have hlt : (j : Int) < (la.length : Int) := by omega
    by_cases hq : la.getD j (0, 0, 0) = lb.getD j (0, 0, 0)
    · rw [if_pos hq]
      refine .step ?_ (ih (j + 1) (by omega))
      simp only [Tells21.l0]
      refine .yes (decide_eq_true hlt) (.val (at_ (by omega)) (.val (at_ (by omega)) (.no (eq3_same hq) (.now' ?_))))
      rw [w64_succ (by omega)]
    · rw [if_neg hq]
      refine .done ?_
      simp only [Tells21.l0]
      exact .yes (decide_eq_true hlt) (.val (at_ (by omega)) (.val (at_ (by omega)) (.yes (eq3_not hq) (.now _))))
theorem up_fd (la lb : List B3) : ∀ (n j : Nat), (up la lb n j = .inl () ∧ fd la lb n j = -1) ∨ up la lb n j = .inr (fd la lb n j, ())
  | 0, j => .inl ⟨rfl, rfl⟩
  | n + 1, j => by
    rw [fd_succ]
    unfold up
    by_cases hq : la.getD j (0, 0, 0) = lb.getD j (0, 0, 0)
    · rw [if_pos hq, if_pos hq]
      exact up_fd la lb n (j + 1)
    · rw [if_neg hq, if_neg hq]
      exact .inr rfl
theorem tells_ev {a b : Cpu} {t : List Int × List Int} {la lb : List B3} (ha : la.length = 40) (hb : lb.length = 40) (ea : Ev (fun k => Run20 k a t) (la, ())) (eb : Ev (fun k => Run20 k b t) (lb, ())) : Ev (fun k => Tells21 k a b t) (fd la lb 40 0, ()) := by
  unfold Tells21
  refine .bind ea (.bind eb ?_)
  have h := up_lp ha hb 40 0 rfl
  rcases up_fd la lb 40 0 with ⟨h1, h2⟩ | h1
  · rw [h1] at h
    rw [h2]
    exact .joinL (S := Unit) h.ev (.now _)
  · rw [h1] at h
    exact .joinR h.ev
theorem equal_ev {l : List B3} (hl : l.length = 40) : Ev (fun k => Equal14 k l l) (true, ()) := by
  unfold Equal14
  refine .no (by simp) (.joinL (S := Unit) (a := ()) (Lp.ev ?_) (.now _))
  refine Lp.fold (body := fun k => Equal14.l0 k l l) l (fun (_ : Unit) i => i) (fun _ _ => ()) (fun _ => (.inl () : Unit ⊕ (Bool × Unit))) (fun _ _ => True) (fun i x b hx _ => ⟨?_, trivial⟩) (fun b _ => ?_) (b := ()) trivial
  · have hi := get_lt hx
    simp only [Equal14.l0]
    refine .yes (decide_eq_true (by omega)) (.val (rd_some' hx) (.val (rd_some' hx) (.no (eq3_same rfl) (.now' ?_))))
    rw [w64_id (by omega) (by omega)]
  · simp only [Equal14.l0]
    exact .no (by simp) (.now _)
theorem law (a b : Cpu) (t : List Int × List Int) (addr : Int) (ha : Wc a) (hna : Wn a) (hb : Wc b) (hnb : Wn b) (hw : Wb t.1) (h9 : Nin.p t.2) : ∃ k, GenRuns4 k a b t addr = some (true, ()) := by
  refine Ev.ex ?_
  unfold GenRuns4
  obtain ⟨va, ea, _⟩ := check_t ha hna
  obtain ⟨vb, eb, _⟩ := check_t hb hnb
  refine .bind gen_ev (.bind (a := (va.1 != 0)) (.no rfl (.bind ea (.now _))) ?_)
  cases hq : (va.1 != 0) with
  | true => exact .bind (a := true) (.yes rfl (.now _)) (.yes rfl (.bind gen_ev (.now _)))
  | false =>
    refine .bind (a := (vb.1 != 0)) (.no rfl (.bind eb (.now _))) ?_
    cases hq2 : (vb.1 != 0) with
    | true => exact .yes rfl (.bind gen_ev (.now _))
    | false =>
      obtain ⟨la, l40, ra, ta, _⟩ := run_same ha hw h9
      obtain ⟨lb, m40, rb, tb, _⟩ := run_same hb hw h9
      refine .no rfl (.bind ta (.bind tb (.bind (a := (a, b, t, fd la lb 40 0)) ?_ ?_)))
      · have := down_lp a b t l40 m40 40 0 rfl
        exact this.ev
      · obtain ⟨n, hn, hlt⟩ : ∃ n : Nat, ibits .and .i64 addr 65535 = (n : Int) ∧ n < 65536 := by
          have := ibits_low addr (j := 16) (by decide)
          have e : ((2 ^ 16 - 1 : Nat) : Int) = 65535 := by decide
          have e2 : ((2 ^ 16 : Nat) : Int) = 65536 := by decide
          rw [e, e2] at this
          exact ⟨(addr % 65536).toNat, by rw [this]; omega, by omega⟩
        simp only [hn]
        refine .bind ra (.bind (equal_ev l40) (.bind (a := true) (.yes rfl (.bind (tells_ev l40 m40 ra rb) (.now' ?_))) (.bind (a := true) (.yes rfl (.bind (byte_ev n hlt) (.now' ?_))) (.now _))))
        · simp
        · rw [plain_byte n hlt]
          simp
abbrev WfCpu (c : Cpu) : Prop := (c.1.size ≤ 140737488351232) ∧ wfL (α := Ins) 56 (fun x => (Lit.int .i64 x.1).wf = true ∧ x.2.1.size ≤ 140737488351232 ∧ (Lit.int .i64 x.2.2.1).wf = true ∧ wfL (α := Cyc) 48 (fun y => (Lit.int .i64 y.1).wf = true ∧ (Lit.int .i64 y.2.1).wf = true ∧ (Lit.int .i64 y.2.2.1).wf = true ∧ wfL (α := Stp4) 32 (fun z => (Lit.int .i64 z.1).wf = true ∧ (Lit.int .i64 z.2.1).wf = true ∧ (Lit.int .i64 z.2.2.1).wf = true ∧ (Lit.int .i64 z.2.2.2).wf = true) y.2.2.2) x.2.2.2) c.2.1 ∧
    wfL (α := Cyc) 48 (fun y => (Lit.int .i64 y.1).wf = true ∧ (Lit.int .i64 y.2.1).wf = true ∧ (Lit.int .i64 y.2.2.1).wf = true ∧ wfL (α := Stp4) 32 (fun z => (Lit.int .i64 z.1).wf = true ∧ (Lit.int .i64 z.2.1).wf = true ∧ (Lit.int .i64 z.2.2.1).wf = true ∧ (Lit.int .i64 z.2.2.2).wf = true) y.2.2.2) c.2.2.1 ∧
    wfL (α := Cyc) 48 (fun y => (Lit.int .i64 y.1).wf = true ∧ (Lit.int .i64 y.2.1).wf = true ∧ (Lit.int .i64 y.2.2.1).wf = true ∧ wfL (α := Stp4) 32 (fun z => (Lit.int .i64 z.1).wf = true ∧ (Lit.int .i64 z.2.1).wf = true ∧ (Lit.int .i64 z.2.2.1).wf = true ∧ (Lit.int .i64 z.2.2.2).wf = true) y.2.2.2) c.2.2.2.1 ∧
    wfL (α := Cyc) 48 (fun y => (Lit.int .i64 y.1).wf = true ∧ (Lit.int .i64 y.2.1).wf = true ∧ (Lit.int .i64 y.2.2.1).wf = true ∧ wfL (α := Stp4) 32 (fun z => (Lit.int .i64 z.1).wf = true ∧ (Lit.int .i64 z.2.1).wf = true ∧ (Lit.int .i64 z.2.2.1).wf = true ∧ (Lit.int .i64 z.2.2.2).wf = true) y.2.2.2) c.2.2.2.2
theorem wc_row {c : Cpu} (h : WfCpu c) : Wc c ∧ Wn c := by
  obtain ⟨h1, h2, h3, h4, h5⟩ := h
  exact ⟨⟨h2.1, fun x hx => ⟨(h2.2 x hx).2.2.2.1, fun y hy => ((h2.2 x hx).2.2.2.2 y hy).2.2.2.1⟩, ⟨h3.1, fun y hy => (h3.2 y hy).2.2.2.1⟩, ⟨h4.1, fun y hy => (h4.2 y hy).2.2.2.1⟩, ⟨h5.1, fun y hy => (h5.2 y hy).2.2.2.1⟩⟩, h1, fun x hx => (h2.2 x hx).2.1⟩
theorem lit8 {k : Int} (h : (Lit.int .u8 k).wf = true) : 0 ≤ k ∧ k < 256 := by
  simp [Lit.wf, IntKind.min, IntKind.max, IntKind.signed, IntKind.bits] at h
  omega
abbrev WfTest (t : List Int × List Int) : Prop := wfL (α := Int) 1 (fun y => (Lit.int .u8 y).wf = true) t.1 ∧ wfA (α := Int) 9 (fun y => (Lit.int .i64 y).wf = true) t.2
theorem wt_row {t : List Int × List Int} (h : WfTest t) : Wb t.1 ∧ Nin.p t.2 := ⟨⟨by have := h.1.1; omega, fun x hx => lit8 (h.1.2 x hx)⟩, h.2.1⟩
theorem genRuns (a b : Cpu) (t : List Int × List Int) (addr : Int) (ha : WfCpu a) (hb : WfCpu b) (ht : WfTest t) {p : Prop} (_ : p) : ∃ k, GenRuns4 k a b t addr = some (true, ()) :=
  law a b t addr (wc_row ha).1 (wc_row ha).2 (wc_row hb).1 (wc_row hb).2 (wt_row ht).1 (wt_row ht).2
end Go.Proofs.Ytcppmlgnceldmaa.Ge

/- Tests that tell processors apart: what stands behind an instruction. No program in sight. -/
set_option linter.unusedVariables false
set_option maxRecDepth 100000
noncomputable section
namespace Go.Proofs.Ytcppmlgnceldmaa.Ge
open Go Go.Proofs.Ytcppmlgnceldmaa.Gp

def w8 (x : Int) : Int := IntKind.wrap .u8 x
abbrev Nm := ByteArray × Int
def N5 : List Nm := [((ByteArray.mk #[112, 104, 112]), 0), ((ByteArray.mk #[112, 104, 97]), 0), ((ByteArray.mk #[115, 116, 97]), 2), ((ByteArray.mk #[115, 116, 120]), 2), ((ByteArray.mk #[115, 116, 121]), 2)]
def B5 : List ByteArray := [(ByteArray.mk #[112, 104, 112]), (ByteArray.mk #[112, 104, 97]), (ByteArray.mk #[115, 116, 97]), (ByteArray.mk #[115, 116, 120]), (ByteArray.mk #[115, 116, 121])]
def tailX (md : Int) (T : List Int) (b : Int) : List Int := if md = 2 then (T ++ [w8 b]) ++ [w8 (w64 (16 + ((T ++ [w8 b]).length : Int)))] else T ++ [w8 b]
theorem tailX0 {md : Int} (h : md = 0) (T : List Int) (b : Int) : tailX md T b = T ++ [w8 b] := if_neg (by omega)
theorem tailX2 {md : Int} (h : md = 2) (T : List Int) (b : Int) : tailX md T b = (T ++ [w8 b]) ++ [w8 (w64 (16 + ((T ++ [w8 b]).length : Int)))] := if_pos h
def tailS (c : Cpu) (T : List Int) (nm : Nm) : List Int :=
  match c.2.1.find? (isN nm.1 nm.2) with
  | some x => tailX nm.2 T x.1
  | none => T
def tailL (c : Cpu) : List Int := N5.foldl (tailS c) []
theorem tailS_len (c : Cpu) (T : List Int) (nm : Nm) : (tailS c T nm).length ≤ T.length + 2 := by
  unfold tailS
  split
  · unfold tailX; split <;> simp
  · omega
theorem room1 {n m : Nat} (h : n + m ≤ 1000) : (if room (n + m) 1 then some () else none : Option Unit) = some () := if_pos (room_ok (by omega))
theorem named_yes {c : Cpu} {name : ByteArray} {mode : Int} {x : Ins} (h : c.2.1.find? (isN name mode) = some x) : namedR c name mode = (x, true, ()) := by unfold namedR; rw [h]
theorem named_no {c : Cpu} {name : ByteArray} {mode : Int} (h : c.2.1.find? (isN name mode) = none) : namedR c name mode = (none4, false, ()) := by unfold namedR; rw [h]
theorem tail_step {c : Cpu} (hc : Wc c) {i : Nat} (hi : i < 5) {nm : ByteArray} {md b0 : Int} (h0 : B5[i]? = some nm) (hb : rd (bytesOf nm) 0 = some b0) (hm : (b0 == 115) = (md == 2)) (hd : md = 0 ∨ md = 2) (T : List Int) (hT : T.length ≤ 100) :
    Ev (fun k => tail53.l0 k (c, (), (), (i : Int), B5, T)) (.inl (c, (), (), ((i + 1 : Nat) : Int), B5, tailS c T (nm, md))) := by
  have hr : rd B5 (i : Int) = some nm := rd_some' h0
  have wi : w64 ((i : Int) + 1) = ((i + 1 : Nat) : Int) := w64_succ (by omega)
  simp only [tail53.l0]
  refine .yes (decide_eq_true (by show (i : Int) < ((5 : Nat) : Int); omega)) (.val hr (.val hr (.val hb (.bind (a := (c, (), md, (), B5, T)) ?_ (.bind (named_ev hc nm md) (.bind (a := (c, (), (), B5, tailS c T (nm, md))) ?_ (.now' (by rw [wi]))))))))
  · rcases hd with rfl | rfl
    · exact .no hm (.now _)
    · exact .yes hm (.now _)
  · unfold tailS
    cases hf : c.2.1.find? (isN nm md) with
    | none =>
      rw [named_no hf]
      exact .no rfl (.now _)
    | some x =>
      rw [named_yes hf]
      refine .yes rfl (.val (room1 (by simp only [List.length_cons, List.length_nil]; omega)) (.bind (a := (c, (), (), B5, tailX md T x.1)) ?_ (.now _)))
      rcases hd with rfl | rfl
      · rw [tailX0 rfl]
        exact .no rfl (.now _)
      · rw [tailX2 rfl]
        exact .yes rfl (.val (room1 (by simp only [List.length_append, List.length_cons, List.length_nil]; omega)) (.now _))
theorem tail_ev {c : Cpu} (hc : Wc c) : Ev (fun k => tail53 k c) (tailL c, ()) := by
  have l1 := tailS_len c [] (N5[0])
  have l2 := tailS_len c (tailS c [] (N5[0])) (N5[1])
  have l3 := tailS_len c (tailS c (tailS c [] (N5[0])) (N5[1])) (N5[2])
  have l4 := tailS_len c (tailS c (tailS c (tailS c [] (N5[0])) (N5[1])) (N5[2])) (N5[3])
  rw [List.length_nil] at l1
  unfold tail53
  refine .bind (a := ((), tailL c)) (Lp.ev ?_) (.now _)
  refine .step (tail_step hc (i := 0) (md := 0) (b0 := 112) (by decide) rfl rfl rfl (.inl rfl) [] (by decide)) ?_
  refine .step (tail_step hc (i := 1) (md := 0) (b0 := 112) (by decide) rfl rfl rfl (.inl rfl) _ (Nat.le_trans l1 (by decide))) ?_
  refine .step (tail_step hc (i := 2) (md := 2) (b0 := 115) (by decide) rfl rfl rfl (.inr rfl) _ (Nat.le_trans l2 (by omega))) ?_
  refine .step (tail_step hc (i := 3) (md := 2) (b0 := 115) (by decide) rfl rfl rfl (.inr rfl) _ (Nat.le_trans l3 (by omega))) ?_
  refine .step (tail_step hc (i := 4) (md := 2) (b0 := 115) (by decide) rfl rfl rfl (.inr rfl) _ (Nat.le_trans l4 (by omega))) ?_
  refine .done ?_
  simp only [tail53.l0]
  exact .no (decide_eq_false (by show ¬ ((5 : Nat) : Int) < ((5 : Nat) : Int); omega)) (.now _)
-- the reference's
theorem ridx_lp {c : Cpu} (hc : Wc c) (nm : Nm) : ∀ (suf pre : List Ins), c.2.1 = pre ++ suf → ∃ r, Lp (fun k => IndexFunc50'''.l0 k c.2.1) ((nm, ()), (pre.length : Int)) r ∧
    (match suf.find? (isN nm.1 nm.2) with | none => r = .inl () | some x => ∃ j : Nat, r = .inr ((j : Int), ()) ∧ c.2.1[j]? = some x) := by
  have hl := hc.len
  intro suf
  induction suf with
  | nil =>
    intro pre h
    rw [List.append_nil] at h
    refine ⟨.inl (), .done ?_, rfl⟩
    simp only [IndexFunc50'''.l0]
    exact .no (decide_eq_false (by rw [h]; omega)) (.now _)
  | cons x suf ih =>
    intro pre h
    have hx : c.2.1[pre.length]? = some x := by rw [h]; simp
    have hlt := get_lt hx
    cases hp : isN nm.1 nm.2 x with
    | true =>
      refine ⟨.inr ((pre.length : Int), ()), .done ?_, ?_⟩
      · simp only [IndexFunc50'''.l0]
        refine .yes (decide_eq_true (by omega)) (.val (rd_some' hx) (.bind (a := (true, ())) (.const ?_) (.yes rfl (.now _))))
        show some (isN nm.1 nm.2 x, ()) = _
        rw [hp]
      · rw [List.find?_cons_of_pos (by exact hp)]
        exact ⟨pre.length, rfl, hx⟩
    | false =>
      obtain ⟨r, h1, h2⟩ := ih (pre ++ [x]) (by rw [h]; simp)
      refine ⟨r, .step ?_ h1, ?_⟩
      · simp only [IndexFunc50'''.l0]
        refine .yes (decide_eq_true (by omega)) (.val (rd_some' hx) (.bind (a := (false, ())) (.const ?_) (.no rfl (.now' ?_))))
        · show some (isN nm.1 nm.2 x, ()) = _
          rw [hp]
        · rw [w64_succ (by omega)]; simp
      · rw [List.find?_cons_of_neg (by rw [hp]; decide)]
        exact h2
theorem rtail_step {c : Cpu} (hc : Wc c) {i : Nat} (hi : i < 5) {nm : Nm} (h0 : N5[i]? = some nm) (hd : nm.2 = 0 ∨ nm.2 = 2) (T : List Int) (hT : T.length ≤ 100) :
    Ev (fun k => TestsOf23.l0 k (c, (), (), (i : Int), N5, T)) (.inl (c, (), (), ((i + 1 : Nat) : Int), N5, tailS c T nm)) := by
  have hr : rd N5 (i : Int) = some nm := rd_some' h0
  have wi : w64 ((i : Int) + 1) = ((i + 1 : Nat) : Int) := w64_succ (by omega)
  obtain ⟨r, h1, h2⟩ := ridx_lp hc nm c.2.1 [] rfl
  simp only [TestsOf23.l0]
  refine .yes (decide_eq_true (by show (i : Int) < ((5 : Nat) : Int); omega)) (.val hr (.val hr ?_))
  unfold tailS
  cases hf : c.2.1.find? (isN nm.1 nm.2) with
  | none =>
    rw [hf] at h2
    subst h2
    refine .bind (a := (-1, ())) (by unfold IndexFunc50'''; exact .joinL (S := Unit) h1.ev (.now _)) (.bind (a := (c, (), (), N5, T)) (.no rfl (.now _)) (.now' (by rw [wi])))
  | some x =>
    rw [hf] at h2
    obtain ⟨j, rfl, hj⟩ := h2
    refine .bind (a := ((j : Int), ())) (by unfold IndexFunc50'''; exact .joinR h1.ev) (.bind (a := (c, (), (), N5, tailX nm.2 T x.1)) (.yes (decide_eq_true (by show (j : Int) ≥ 0; omega)) (.val (rd_some' hj) (.val (room1 (by simp only [List.length_cons, List.length_nil]; omega)) (.bind (a := (c, (), (), N5, tailX nm.2 T x.1)) ?_ (.now _))))) (.now' (by rw [wi])))
    rcases hd with hd | hd
    · rw [tailX0 hd]
      exact .no (by rw [hd]; rfl) (.now _)
    · rw [tailX2 hd]
      exact .yes (by rw [hd]; rfl) (.val (room1 (by simp only [List.length_append, List.length_cons, List.length_nil]; omega)) (.now _))
theorem rtail_lp {c : Cpu} (hc : Wc c) : Lp (fun k => TestsOf23.l0 k) (c, (), (), 0, N5, []) ((), tailL c) := by
  have l1 := tailS_len c [] (N5[0])
  have l2 := tailS_len c (tailS c [] (N5[0])) (N5[1])
  have l3 := tailS_len c (tailS c (tailS c [] (N5[0])) (N5[1])) (N5[2])
  have l4 := tailS_len c (tailS c (tailS c (tailS c [] (N5[0])) (N5[1])) (N5[2])) (N5[3])
  rw [List.length_nil] at l1
  refine .step (rtail_step hc (i := 0) (by decide) rfl (.inl rfl) [] (by decide)) ?_
  refine .step (rtail_step hc (i := 1) (by decide) rfl (.inl rfl) _ (Nat.le_trans l1 (by decide))) ?_
  refine .step (rtail_step hc (i := 2) (by decide) rfl (.inr rfl) _ (Nat.le_trans l2 (by omega))) ?_
  refine .step (rtail_step hc (i := 3) (by decide) rfl (.inr rfl) _ (Nat.le_trans l3 (by omega))) ?_
  refine .step (rtail_step hc (i := 4) (by decide) rfl (.inr rfl) _ (Nat.le_trans l4 (by omega))) ?_
  refine .done ?_
  simp only [TestsOf23.l0]
  exact .no (decide_eq_false (by show ¬ ((5 : Nat) : Int) < ((5 : Nat) : Int); omega)) (.now _)
theorem tailL_len (c : Cpu) : (tailL c).length ≤ 10 := by
  have key : ∀ (l : List Nm) (T : List Int), (l.foldl (tailS c) T).length ≤ T.length + 2 * l.length := by
    intro l
    induction l with
    | nil => intro T; simp
    | cons x l ih =>
      intro T
      rw [List.foldl_cons]
      have h1 := ih (tailS c T x)
      have h2 := tailS_len c T x
      rw [List.length_cons]
      omega
  exact key N5 []
end Go.Proofs.Ytcppmlgnceldmaa.Ge

/- Tests that tell processors apart: the tests for a byte. No program in sight. -/
set_option linter.unusedVariables false
set_option maxRecDepth 100000
noncomputable section
namespace Go.Proofs.Ytcppmlgnceldmaa.Ge
open Go Go.Proofs.Ytcppmlgnceldmaa.Gp

def V5 : List Int := [0, 1, 6, 128, 255]
def A5 : List Int := [0, 1, 127, 128, 255]
def P5 : List Int := [0, 1, 2, 128, 131]
def bytesN : Nat → Int → List Int
  | 0, _ => []
  | 1, v => [w8 v]
  | _, v => [w8 v, w8 (v / 8)]
abbrev Tst := List Int × List Int
def FT (o : Int) (n : Nat) (T : List Int) (v : Int) (r : List Int) : Tst := ((w8 o :: bytesN n v) ++ T, r)
theorem shr0 (v : Nat) : shrI .i64 (v : Int) (w64 (0 * 3)) = (v : Int) := by
  have := shrI_nat (a := v) (j := 0) (by decide)
  rw [Nat.pow_zero, Nat.div_one] at this
  exact this
theorem shr3 (v : Nat) : shrI .i64 (v : Int) (w64 (1 * 3)) = (v : Int) / 8 := by
  have := shrI_nat (a := v) (j := 3) (by decide)
  exact this
theorem quo8 (v : Nat) (h : v < 256) : quoI .i64 (v : Int) 8 = (v : Int) / 8 := by
  unfold quoI
  rw [Int.tdiv_eq_ediv_of_nonneg (by omega), show (v : Int) / 8 = ((v / 8 : Nat) : Int) by omega]
  exact w64_nat (by omega)
theorem in_lp (c : Cpu) (r : List Int) (o4 : List Tst) (o6 : List Int) (o : Int) (v : Nat) (n : Nat) (hn : n ≤ 2) :
    Lp (fun k => Tests26.l0 k (n : Int) (v : Int)) (c, (), r, (), (), 0, o4, o6, [w8 o]) (c, (), r, (), (), o4, o6, w8 o :: bytesN n v) := by
  have fin : ∀ l : List Int, Ev (fun k => Tests26.l0 k (n : Int) (v : Int) (c, (), r, (), (), (n : Int), o4, o6, l)) (.inr (c, (), r, (), (), o4, o6, l)) := fun l => by
    simp only [Tests26.l0]
    exact .no (decide_eq_false (by omega)) (.now _)
  have s0 : 0 < n → ∀ l : List Int, l.length ≤ 100 → Ev (fun k => Tests26.l0 k (n : Int) (v : Int) (c, (), r, (), (), 0, o4, o6, l)) (.inl (c, (), r, (), (), 1, o4, o6, l ++ [w8 v])) := fun h l hl => by
    simp only [Tests26.l0]
    refine .yes (decide_eq_true (by omega)) (.val (a := (v : Int)) ?_ (.val (room1 (by simp only [List.length_cons, List.length_nil]; omega)) (.now _)))
    exact (if_neg (by decide)).trans (congrArg some (shr0 v))
  have s1 : 1 < n → ∀ l : List Int, l.length ≤ 100 → Ev (fun k => Tests26.l0 k (n : Int) (v : Int) (c, (), r, (), (), 1, o4, o6, l)) (.inl (c, (), r, (), (), 2, o4, o6, l ++ [w8 ((v : Int) / 8)])) := fun h l hl => by
    simp only [Tests26.l0]
    refine .yes (decide_eq_true (by omega)) (.val (a := (v : Int) / 8) ?_ (.val (room1 (by simp only [List.length_cons, List.length_nil]; omega)) (.now _)))
    exact (if_neg (by decide)).trans (congrArg some (shr3 v))
  have : n = 0 ∨ n = 1 ∨ n = 2 := by omega
  rcases this with rfl | rfl | rfl
  · exact .done (fin _)
  · exact .step (s0 (by decide) _ (by show (1 : Nat) ≤ 100; decide)) (.done (fin _))
  · exact .step (s0 (by decide) _ (by show (1 : Nat) ≤ 100; decide)) (.step (s1 (by decide) _ (by show (2 : Nat) ≤ 100; decide)) (.done (fin _)))
theorem rin_lp (o3 : List Int) (o10 : List Tst) (R : List Int) (o : Int) (v : Nat) (hv : v < 256) (n : Nat) (hn : n ≤ 2) :
    Lp (fun k => TestsOf23.l1 k (n : Int)) ((), (), (v : Int), (), 0, o3, o10, [w8 o], (), R) ((), (), (), o3, o10, w8 o :: bytesN n v, (), R) := by
  have fin : ∀ (x : Int) (l : List Int), Ev (fun k => TestsOf23.l1 k (n : Int) ((), (), x, (), (n : Int), o3, o10, l, (), R)) (.inr ((), (), (), o3, o10, l, (), R)) := fun x l => by
    simp only [TestsOf23.l1]
    exact .no (decide_eq_false (by omega)) (.now _)
  have s0 : 0 < n → ∀ l : List Int, l.length ≤ 100 → Ev (fun k => TestsOf23.l1 k (n : Int) ((), (), (v : Int), (), 0, o3, o10, l, (), R)) (.inl ((), (), (v : Int) / 8, (), 1, o3, o10, l ++ [w8 v], (), R)) := fun h l hl => by
    simp only [TestsOf23.l1]
    refine .yes (decide_eq_true (by omega)) (.val (room1 (by simp only [List.length_cons, List.length_nil]; omega)) (.now' ?_))
    rw [quo8 v hv]
    rfl
  have s1 : 1 < n → ∀ l : List Int, l.length ≤ 100 → Ev (fun k => TestsOf23.l1 k (n : Int) ((), (), (v : Int) / 8, (), 1, o3, o10, l, (), R)) (.inl ((), (), quoI .i64 ((v : Int) / 8) 8, (), 2, o3, o10, l ++ [w8 ((v : Int) / 8)], (), R)) := fun h l hl => by
    simp only [TestsOf23.l1]
    exact .yes (decide_eq_true (by omega)) (.val (room1 (by simp only [List.length_cons, List.length_nil]; omega)) (.now _))
  have : n = 0 ∨ n = 1 ∨ n = 2 := by omega
  rcases this with rfl | rfl | rfl
  · exact .done (fin _ _)
  · exact .step (s0 (by decide) _ (by show (1 : Nat) ≤ 100; decide)) (.done (fin _ _))
  · exact .step (s0 (by decide) _ (by show (1 : Nat) ≤ 100; decide)) (.step (s1 (by decide) _ (by show (2 : Nat) ≤ 100; decide)) (.done (fin _ _)))
theorem bytesN_len (n : Nat) (v : Int) : (bytesN n v).length ≤ 2 := by
  match n with
  | 0 => exact Nat.zero_le _
  | 1 => exact (by decide : 1 ≤ 2)
  | _ + 2 => exact Nat.le_refl _
theorem v5_at {i : Nat} {x : Int} (h : V5[i]? = some x) : ∃ v : Nat, x = (v : Int) ∧ v < 256 := by
  have hm := get_mem h
  unfold V5 at hm
  simp only [List.mem_cons, List.not_mem_nil, or_false] at hm
  rcases hm with rfl | rfl | rfl | rfl | rfl
  · exact ⟨0, rfl, by decide⟩
  · exact ⟨1, rfl, by decide⟩
  · exact ⟨6, rfl, by decide⟩
  · exact ⟨128, rfl, by decide⟩
  · exact ⟨255, rfl, by decide⟩
theorem room96 {n : Nat} (h : n ≤ 1000) (x : Tst) : (if room (n + List.length [x]) 96 then some () else none : Option Unit) = some () := if_pos (room_ok (by simp only [List.length_cons, List.length_nil]; omega))
theorem roomT (o : Int) (n : Nat) (v : Int) (c : Cpu) : (if room (List.length (w8 o :: bytesN n v) + List.length (tailL c)) 1 then some () else none : Option Unit) = some () := by
  have h1 := bytesN_len n v
  have h2 := tailL_len c
  exact room1 (by rw [List.length_cons]; omega)
def rowF (o : Int) (n : Nat) (T : List Int) (l : List Tst) (r : List Int) : List Tst := V5.foldl (fun l v => l ++ [FT o n T v r]) l
theorem rowF_eq (o : Int) (n : Nat) (T : List Int) (l : List Tst) (r : List Int) : rowF o n T l r = l ++ V5.map (fun v => FT o n T v r) := foldl_snoc _ _ _
theorem row_lp {c : Cpu} (hc : Wc c) (r : List Int) (o : Int) (n : Nat) (hn : n ≤ 2) (l : List Tst) (hl : l.length ≤ 500) :
    Lp (fun k => Tests26.l1 k (o, ()) (n : Int)) (c, (), r, (), 0, l, V5) (c, (), rowF o n (tailL c) l r) := by
  refine Lp.fold (body := fun k => Tests26.l1 k (o, ()) (n : Int)) V5 (fun (l : List Tst) i => (c, (), r, (), i, l, V5)) (fun l v => l ++ [FT o n (tailL c) v r]) (fun l => (c, (), l)) (fun i b => b.length = l.length + i) (fun i x b hx hb => ⟨?_, ?_⟩) (fun b _ => ?_) (b := l) rfl
  · have hi : i < 5 := get_lt hx
    obtain ⟨v, rfl, hv⟩ := v5_at hx
    simp only [Tests26.l1]
    refine .yes (decide_eq_true (by show (i : Int) < ((5 : Nat) : Int); omega)) (.val (rd_some' hx) (.val (rd_some' hx) (.bind (in_lp c r b V5 o v n hn).ev (.bind (tail_ev hc) (.val (roomT o n v c) (.val (room96 (n := b.length) (by omega) _) (.now' ?_)))))))
    rw [w64_id (by omega) (by omega)]
    rfl
  · rw [List.length_append, hb]; rfl
  · simp only [Tests26.l1]
    exact .no (decide_eq_false (by show ¬ ((5 : Nat) : Int) < ((5 : Nat) : Int); omega)) (.now _)
def startsV : List (List Int) := match Starts24 30 with | some v => v.1 | none => []
theorem starts_isS : isS (Starts24 30) = true := by kernel_rfl
theorem starts_ev : Ev (fun k => Starts24 k) (startsV, ()) := by
  obtain ⟨v, hv⟩ := isS_some starts_isS
  have e : startsV = v.1 := by unfold startsV; rw [hv]
  rw [e]
  exact Mono.ev Starts24.mono hv
theorem starts_len : startsV.length = 25 := by kernel_rfl
def testsL (o : Int) (n : Nat) (T : List Int) : List Tst := startsV.foldl (rowF o n T) []
theorem tests_lp {c : Cpu} (hc : Wc c) (o : Int) (n : Nat) (hn : n ≤ 2) : Lp (fun k => Tests26.l2 k (o, ()) (n : Int) (startsV, ())) (c, (), 0, []) ((), testsL o n (tailL c)) := by
  have h25 := starts_len
  refine Lp.fold (body := fun k => Tests26.l2 k (o, ()) (n : Int) (startsV, ())) startsV (fun (l : List Tst) i => (c, (), i, l)) (rowF o n (tailL c)) (fun l => ((), l)) (fun i b => b.length = 5 * i) (fun i x b hx hb => ⟨?_, ?_⟩) (fun b _ => ?_) (b := []) rfl
  · have hi := get_lt hx
    simp only [Tests26.l2]
    refine .yes (decide_eq_true (by omega)) (.val (rd_some' hx) (.bind (row_lp hc x o n hn b (by omega)).ev (.now' ?_)))
    rw [w64_id (by omega) (by omega)]
  · rw [rowF_eq, List.length_append, List.length_map, hb]
    show 5 * i + 5 = _
    omega
  · simp only [Tests26.l2]
    exact .no (decide_eq_false (by omega)) (.now _)
-- the reference's
def refR (a p : Int) : List Int := [a, Int.tmod (w64 ((w64 (3 * a)) + 1)) 256, Int.tmod (w64 ((w64 (5 * a)) + 2)) 256, 240, p, 0, 0, 0, 0]
def refP (i : Nat) : Int × List Int := (V5.getD (i % 5) 0, refR (A5.getD (i / 25) 0) (P5.getD (i / 5 % 5) 0))
def pairs : List (Int × List Int) := (List.range 125).map refP
theorem pairs_eq : startsV.flatMap (fun r => V5.map (fun v => (v, r))) = pairs := by kernel_rfl
theorem testsL_eq (o : Int) (n : Nat) (T : List Int) : testsL o n T = pairs.map (fun x => FT o n T x.1 x.2) := by
  rw [← pairs_eq]
  unfold testsL
  have key : ∀ (l : List (List Int)) (b : List Tst), l.foldl (rowF o n T) b = b ++ (l.flatMap (fun r => V5.map (fun v => (v, r)))).map (fun x => FT o n T x.1 x.2) := by
    intro l
    induction l with
    | nil => intro b; simp
    | cons r l ih =>
      intro b
      rw [List.foldl_cons, ih, rowF_eq, List.flatMap_cons, List.map_append, List.map_map, List.append_assoc]
      rfl
  rw [key startsV []]
  simp
def refF (o : Int) (n : Nat) (T : List Int) (l : List Tst) (i : Nat) : List Tst := l ++ [FT o n T (refP i).1 (refP i).2]
theorem ref_fold (o : Int) (n : Nat) (T : List Int) : (List.range 125).foldl (refF o n T) [] = testsL o n T := by
  rw [testsL_eq]
  unfold refF pairs
  rw [foldl_snoc, List.nil_append, List.map_map]
  rfl
theorem g5 {l : List Int} (h : l.length = 5) {i : Nat} (hi : i < 5) : rd l (i : Int) = some (l.getD i 0) := by
  refine rd_some' ?_
  rw [List.getD_eq_getElem?_getD, List.getElem?_eq_getElem (by omega)]; rfl
theorem quo_n {i d : Nat} (hi : i < 125) (hd : 0 < d) : quoI .i64 (i : Int) (d : Int) = ((i / d : Nat) : Int) := by
  unfold quoI
  rw [Int.tdiv_eq_ediv_of_nonneg (by omega)]
  have : (i : Int) / (d : Int) = ((i / d : Nat) : Int) := (Int.natCast_ediv i d).symm
  rw [this]
  have h2 := Nat.div_le_self i d
  exact w64_nat (by omega)
theorem tmod5 (i : Nat) : Int.tmod (i : Int) 5 = ((i % 5 : Nat) : Int) := by
  rw [Int.tmod_eq_emod_of_nonneg (by omega)]; omega
theorem rtests_lp (o : Int) (n : Nat) (hn : n ≤ 2) (c : Cpu) : Lp (fun k => TestsOf23.l2 k o (n : Int)) ((), (), 0, tailL c, []) ((), testsL o n (tailL c)) := by
  rw [← ref_fold]
  refine Lp.count (body := fun k => TestsOf23.l2 k o (n : Int)) 125 (fun (l : List Tst) i => ((), (), i, tailL c, l)) (refF o n (tailL c)) (fun l => ((), l)) (fun i b => b.length = i) (fun i b hi hb => ⟨?_, ?_⟩) (fun b _ => ?_) (b := []) rfl
  · have e1 : rd A5 (quoI .i64 (i : Int) 25) = some (A5.getD (i / 25) 0) := by
      have := quo_n (i := i) (d := 25) hi (by decide)
      rw [show ((25 : Nat) : Int) = 25 from rfl] at this
      rw [this]
      exact g5 rfl (by omega)
    have e2 : rd P5 (Int.tmod (quoI .i64 (i : Int) 5) 5) = some (P5.getD (i / 5 % 5) 0) := by
      have := quo_n (i := i) (d := 5) hi (by decide)
      rw [show ((5 : Nat) : Int) = 5 from rfl] at this
      rw [this, tmod5]
      exact g5 rfl (by omega)
    have e3 : rd V5 (Int.tmod (i : Int) 5) = some (V5.getD (i % 5) 0) := by
      rw [tmod5]
      exact g5 rfl (by omega)
    obtain ⟨v, hv, hv2⟩ : ∃ v : Nat, V5.getD (i % 5) 0 = (v : Int) ∧ v < 256 := by
      have h5 : i % 5 < 5 := by omega
      have : V5[i % 5]? = some (V5.getD (i % 5) 0) := by
        rw [List.getD_eq_getElem?_getD, List.getElem?_eq_getElem (show i % 5 < V5.length from h5)]; rfl
      exact v5_at this
    simp only [TestsOf23.l2]
    refine .yes (decide_eq_true (by omega)) (.val e1 (.val e1 (.val e2 (.val e2 (.val e3 (.val e3 ?_))))))
    rw [hv]
    refine .bind (rin_lp (tailL c) b _ o v hv2 n hn).ev (.val (roomT o n v c) (.val (room96 (n := b.length) (by omega) _) (.now' ?_)))
    rw [w64_id (by omega) (by omega)]
    unfold refF refP
    rw [hv]
    rfl
  · unfold refF; rw [List.length_append, hb]; rfl
  · simp only [TestsOf23.l2]
    exact .no rfl (.now _)
theorem with_lp {c : Cpu} (hc : Wc c) (op : Int) (q : Int × ByteArray × Int × Unit) : ∀ (suf pre : List Ins), c.2.1 = pre ++ suf → Lp (fun k => with49.l0 k c op) ((), (pre.length : Int), q) (match suf.find? (fun x => x.1 == op) with | none => .inl ((), q) | some x => .inr ((x, true, ()), ())) := by
  have hl := hc.len
  intro suf
  induction suf with
  | nil =>
    intro pre h
    rw [List.append_nil] at h
    refine .done ?_
    simp only [with49.l0]
    exact .no (decide_eq_false (by rw [h]; omega)) (.now _)
  | cons x suf ih =>
    intro pre h
    have hx : c.2.1[pre.length]? = some x := by rw [h]; simp
    have hlt := get_lt hx
    cases hp : (x.1 == op) with
    | true =>
      rw [List.find?_cons_of_pos (by exact hp)]
      refine .done ?_
      simp only [with49.l0]
      exact .yes (decide_eq_true (by omega)) (.val (rd_some' hx) (.yes hp (.now _)))
    | false =>
      have h1 := ih (pre ++ [x]) (by rw [h]; simp)
      rw [List.find?_cons_of_neg (by rw [hp]; decide)]
      refine .step ?_ h1
      simp only [with49.l0]
      refine .yes (decide_eq_true (by omega)) (.val (rd_some' hx) (.no hp (.now' ?_)))
      rw [w64_succ (by omega)]; simp
theorem with_ev {c : Cpu} (hc : Wc c) (op : Int) : Ev (fun k => with49 k c op) (findR c op, ()) := by
  unfold with49
  have h := with_lp hc op (0, ByteArray.mk #[], 0, ()) c.2.1 [] rfl
  unfold findR findI
  cases hf : c.2.1.find? (fun x => x.1 == op) with
  | none => rw [hf] at h; exact .joinL (S := Unit) h.ev (.now _)
  | some x => rw [hf] at h; exact .joinR h.ev
theorem low_op (op : Int) : Int.tmod (w64 ((Int.tmod op 256) + 256)) 256 = op % 256 := by
  have h1 := Int.tmod_lt_of_pos op (show (0 : Int) < 256 by decide)
  have h2 := Int.lt_tmod_of_pos op (show (0 : Int) < 256 by decide)
  have h3 : op.tmod 256 = op - 256 * op.tdiv 256 := Int.tmod_def op 256
  rw [w64_id (by omega) (by omega), Int.tmod_eq_emod_of_nonneg (by omega), h3]
  omega
def Modes (c : Cpu) : Prop := ∀ x ∈ c.2.1, 0 ≤ x.2.2.1 ∧ x.2.2.1 ≤ 8
theorem tests_same {c : Cpu} (hc : Wc c) (hm : Modes c) (op : Int) : ∃ n : Nat, Ev (fun k => Tests26 k c op) (testsL (op % 256) n (tailL c), ()) ∧ Ev (fun k => TestsOf23 k c op) (testsL (op % 256) n (tailL c), ()) := by
  have hn : ∃ n : Nat, n ≤ 2 ∧ Ev (fun k => (cond (findR c (op % 256)).2.1 ((Size37 k (findR c (op % 256)).1.2.2.1).bind fun t26 => some (c, t26.1)) (some (c, 2)) : Option (Cpu × Int))) (c, (n : Int)) ∧
      Ev (fun (k : Nat) => (cond (findR c (op % 256)).2.1 ((rd ([0, 1, 1, 1, 2, 2, 2, 1, 1] : List Int) (findR c (op % 256)).1.2.2.1).bind fun t38 => some (c, t38)) (some (c, 2)) : Option (Cpu × Int))) (c, (n : Int)) := by
    unfold findR
    cases hf : findI c (op % 256) with
    | none => exact ⟨2, by decide, .no rfl (.now _), .no rfl (.now _)⟩
    | some x =>
      obtain ⟨n, h1, h2, h3⟩ := size_in (hm x (List.mem_of_find?_eq_some hf))
      exact ⟨n, h1, .yes rfl (.bind h2 (.now _)), .yes rfl (.val h3 (.now _))⟩
  obtain ⟨n, h1, h2, h3⟩ := hn
  refine ⟨n, ?_, ?_⟩
  · unfold Tests26
    exact .bind (low8_ev op) (.bind (find_ev hc _) (.bind h2 (.bind starts_ev (.bind (tests_lp hc _ n h1).ev (.now _)))))
  · unfold TestsOf23 operands48
    simp only [low_op]
    exact .val rfl (.bind (with_ev hc _) (.bind h3 (.bind (rtail_lp hc).ev (.bind (rtests_lp _ n h1 c).ev (.now _)))))
end Go.Proofs.Ytcppmlgnceldmaa.Ge

/- Tests that tell processors apart: the law of tests. No program in sight. -/
set_option linter.unusedVariables false
set_option maxRecDepth 100000
noncomputable section
namespace Go.Proofs.Ytcppmlgnceldmaa.Ge
open Go Go.Proofs.Ytcppmlgnceldmaa.Gp

theorem arr9_same {x y : List Int} (h : x = y) : eqB (.arr 9 (.int .i64)) x y = true := (eqB_iff (k := .arr 9 (.int .i64)) rfl).2 h
theorem eqL_ev (l : List Int) (hl : l.length ≤ 1000) : Ev (fun k => Equal54 k l l) (true, ()) := by
  unfold Equal54
  refine .no (by simp) (.joinL (S := Unit) (a := ()) (Lp.ev ?_) (.now _))
  refine Lp.fold (body := fun k => Equal54.l0 k l l) l (fun (_ : Unit) i => i) (fun _ _ => ()) (fun _ => (.inl () : Unit ⊕ (Bool × Unit))) (fun _ _ => True) (fun i x b hx _ => ⟨?_, trivial⟩) (fun b _ => ?_) (b := ()) trivial
  · have hi := get_lt hx
    simp only [Equal54.l0]
    refine .yes (decide_eq_true (by omega)) (.val (rd_some' hx) (.val (rd_some' hx) (.no (by simp) (.now' ?_))))
    rw [w64_id (by omega) (by omega)]
  · simp only [Equal54.l0]
    exact .no (by simp) (.now _)
theorem sameT_ev (a : Tst) (hl : a.1.length ≤ 1000) : Ev (fun k => sameTest27 k a a) (true, ()) := by
  unfold sameTest27
  refine .bind (eqL_ev a.1 hl) (.now' ?_)
  have := arr9_same (rfl : a.2 = a.2)
  exact congrArg (fun z => (bif true then (xor false z) else false, ())) this
theorem eqT_ev (L : List Tst) (hL : L.length ≤ 1000) (h : ∀ x ∈ L, x.1.length ≤ 1000) : Ev (fun k => EqualFunc25 k L L ()) (true, ()) := by
  unfold EqualFunc25
  refine .no (by simp) (.joinL (S := Unit) (a := ()) (Lp.ev ?_) (.now _))
  refine Lp.fold (body := fun k => EqualFunc25.l0 k L L) L (fun (_ : Unit) i => ((), i)) (fun _ _ => ()) (fun _ => (.inl () : Unit ⊕ (Bool × Unit))) (fun _ _ => True) (fun i x b hx _ => ⟨?_, trivial⟩) (fun b _ => ?_) (b := ()) trivial
  · have hi := get_lt hx
    simp only [EqualFunc25.l0]
    refine .yes (decide_eq_true (by omega)) (.val (rd_some' hx) (.val (rd_some' hx) (.bind (sameT_ev x (h x (get_mem hx))) (.no rfl (.now' ?_)))))
    rw [w64_id (by omega) (by omega)]
  · simp only [EqualFunc25.l0]
    exact .no (decide_eq_false (by omega)) (.now _)
def fiveB (i : Nat) : Bool := match pairs[5 * i]? with | some x => x.2 == startsV.getD i [] | none => false
theorem five_all : (List.range 25).all fiveB = true := by kernel_rfl
theorem five {i : Nat} (hi : i < 25) : ∃ v, pairs[5 * i]? = some (v, startsV.getD i []) := by
  have := List.all_eq_true.1 five_all i (List.mem_range.2 hi)
  unfold fiveB at this
  split at this
  · rename_i x hx
    refine ⟨x.1, ?_⟩
    rw [hx, ← eq_of_beq this]
  · cases this
theorem pairs_len : pairs.length = 125 := by unfold pairs; rw [List.length_map, List.length_range]
theorem testsL_len (o : Int) (n : Nat) (T : List Int) : (testsL o n T).length = 125 := by rw [testsL_eq, List.length_map, pairs_len]
theorem testsL_mem {o : Int} {n : Nat} {c : Cpu} {x : Tst} (h : x ∈ testsL o n (tailL c)) : x.1.length ≤ 1000 := by
  rw [testsL_eq] at h
  obtain ⟨y, _, rfl⟩ := List.mem_map.1 h
  have h1 := bytesN_len n y.1
  have h2 := tailL_len c
  unfold FT
  rw [List.length_append, List.length_cons]
  omega
theorem firsts_lp (c : Cpu) (o : Int) (n : Nat) (T : List Int) : Lp (fun k => GenTests5.l0 k (testsL o n T, ()) (startsV, ())) (c, 0) (.inl c) := by
  have h25 := starts_len
  refine Lp.fold (body := fun k => GenTests5.l0 k (testsL o n T, ()) (startsV, ())) startsV (fun (_ : Unit) i => (c, i)) (fun _ _ => ()) (fun _ => .inl c) (fun _ _ => True) (fun i x b hx _ => ⟨?_, trivial⟩) (fun b _ => ?_) (b := ()) trivial
  · have hi := get_lt hx
    have hx2 : startsV.getD i [] = x := by rw [List.getD_eq_getElem?_getD, hx]; rfl
    obtain ⟨v, hv⟩ := five (i := i) (by omega)
    have ht : (testsL o n T)[5 * i]? = some (FT o n T v x) := by rw [testsL_eq, List.getElem?_map, hv, hx2]; rfl
    simp only [GenTests5.l0]
    refine .yes (decide_eq_true (by omega)) (.val (rd_some' hx) (.val (rd_at (i := 5 * i) ?_ ht) (.no ?_ (.now' ?_))))
    · rw [w64_id (by omega) (by omega)]; omega
    · exact (congrArg (xor true) (arr9_same (rfl : x = x))).trans rfl
    · rw [w64_id (by omega) (by omega)]
  · simp only [GenTests5.l0]
    exact .no (decide_eq_false (by omega)) (.now _)
theorem lawTests (c : Cpu) (op : Int) (hc : Wc c) (hn : Wn c) : ∃ k, GenTests5 k c op = some (true, ()) := by
  refine Ev.ex ?_
  unfold GenTests5
  obtain ⟨v, e, hm⟩ := check_t hc hn
  refine .bind gen_ev (.bind (a := (v.1 != 0)) (.no rfl (.bind e (.now _))) ?_)
  cases hq : (v.1 != 0) with
  | true => exact .yes rfl (.bind gen_ev (.now _))
  | false =>
    obtain ⟨n, h1, h2⟩ := tests_same hc (hm (by simpa using hq)) op
    have hl : ((List.length startsV : Int) != 25) = false := by rw [starts_len]; rfl
    exact .no rfl (.bind h2 (.bind starts_ev (.no hl (.joinL (S := Unit) (firsts_lp c _ n _).ev (.bind h1 (.bind (eqT_ev _ (by rw [testsL_len]; decide) (fun x hx => testsL_mem hx)) (.now _)))))))
theorem genTests (c : Cpu) (op : Int) (hc : WfCpu c) {p : Prop} (_ : p) : ∃ k, GenTests5 k c op = some (true, ()) :=
  lawTests c op (wc_row hc).1 (wc_row hc).2
end Go.Proofs.Ytcppmlgnceldmaa.Ge

/- The row of GenTests: Starts and Tests return what the reference says. The law returns true for every input; the input reads as it did. -/
namespace Go.Proofs.Ytcppmlgnceldmaa.genTests
open Go.ChangeShapes Go.WideShapes Go.ChangeAt Go.RowKit Go.Proofs.Ytcppmlgnceldmaa.Gp Go.Proofs.Ytcppmlgnceldmaa.Ge
set_option linter.unusedVariables false
theorem own : ownKnob Try.prog.godebug = none := by kernel_rfl
theorem laidOut : laidOutB Try.prog = true := by kernel_rfl
abbrev wf9 : ByteArray → Prop := (fun (y : ByteArray) => y.size ≤ 140737488351232)
abbrev siz9 : ByteArray → Nat := (fun (y : ByteArray) => y.size + 1)
theorem gd9 : Gd Try.prog 9 .str wf9 siz9 := gd_str Try.underlying9 (by kernel_rfl)
abbrev wf3 : Int → Prop := (fun (y : Int) => (Lit.int .i64 y).wf = true)
abbrev siz3 : Int → Nat := (fun _ => 1)
theorem gd3 : Gd Try.prog 3 (.int .i64) wf3 siz3 := gd_int Try.underlying3 (by kernel_rfl)
abbrev wf143 : (Int × (Int × (Int × Int))) → Prop := (fun (y : (Int × (Int × (Int × Int)))) => wf3 y.1 ∧ (fun (y : (Int × (Int × Int))) => wf3 y.1 ∧ (fun (y : (Int × Int)) => wf3 y.1 ∧ wf3 y.2) y.2) y.2)
abbrev siz143 : (Int × (Int × (Int × Int))) → Nat := (fun (y : (Int × (Int × (Int × Int)))) => siz3 y.1 + (fun (y : (Int × (Int × Int))) => siz3 y.1 + (fun (y : (Int × Int)) => siz3 y.1 + siz3 y.2) y.2) y.2)
theorem gd143 : Gd Try.prog 143 (.st (.pair (.int .i64) (.pair (.int .i64) (.pair (.int .i64) (.int .i64))))) wf143 siz143 := gd_st Try.underlying143 (by kernel_rfl) (gdf_cons (k := .int .i64) (k' := .pair (.int .i64) (.pair (.int .i64) (.int .i64))) (wf := wf3) (siz := siz3) (wf' := (fun (y : (Int × (Int × Int))) => wf3 y.1 ∧ (fun (y : (Int × Int)) => wf3 y.1 ∧ wf3 y.2) y.2)) (siz' := (fun (y : (Int × (Int × Int))) => siz3 y.1 + (fun (y : (Int × Int)) => siz3 y.1 + siz3 y.2) y.2)) rfl gd3 (gdf_cons (k := .int .i64) (k' := .pair (.int .i64) (.int .i64)) (wf := wf3) (siz := siz3) (wf' := (fun (y : (Int × Int)) => wf3 y.1 ∧ wf3 y.2)) (siz' := (fun (y : (Int × Int)) => siz3 y.1 + siz3 y.2)) rfl gd3 (gdf_cons (k := .int .i64) (k' := .int .i64) (wf := wf3) (siz := siz3) (wf' := wf3) (siz' := siz3) rfl gd3 (gdf_one rfl gd3))))
abbrev wf137 : (List (Int × (Int × (Int × Int)))) → Prop := (wfL (α := (Int × (Int × (Int × Int)))) 32 wf143)
abbrev siz137 : (List (Int × (Int × (Int × Int)))) → Nat := (sizL (α := (Int × (Int × (Int × Int)))) siz143)
theorem gd137 : Gd Try.prog 137 (.sl (.st (.pair (.int .i64) (.pair (.int .i64) (.pair (.int .i64) (.int .i64)))))) wf137 siz137 := gd_sl (B := 32) Try.underlying137 (by kernel_rfl) (by kernel_rfl) (by decide) gd143
abbrev wf139 : (Int × (Int × (Int × (List (Int × (Int × (Int × Int))))))) → Prop := (fun (y : (Int × (Int × (Int × (List (Int × (Int × (Int × Int)))))))) => wf3 y.1 ∧ (fun (y : (Int × (Int × (List (Int × (Int × (Int × Int))))))) => wf3 y.1 ∧ (fun (y : (Int × (List (Int × (Int × (Int × Int)))))) => wf3 y.1 ∧ wf137 y.2) y.2) y.2)
abbrev siz139 : (Int × (Int × (Int × (List (Int × (Int × (Int × Int))))))) → Nat := (fun (y : (Int × (Int × (Int × (List (Int × (Int × (Int × Int)))))))) => siz3 y.1 + (fun (y : (Int × (Int × (List (Int × (Int × (Int × Int))))))) => siz3 y.1 + (fun (y : (Int × (List (Int × (Int × (Int × Int)))))) => siz3 y.1 + siz137 y.2) y.2) y.2)
theorem gd139 : Gd Try.prog 139 (.st (.pair (.int .i64) (.pair (.int .i64) (.pair (.int .i64) (.sl (.st (.pair (.int .i64) (.pair (.int .i64) (.pair (.int .i64) (.int .i64)))))))))) wf139 siz139 := gd_st Try.underlying139 (by kernel_rfl) (gdf_cons (k := .int .i64) (k' := .pair (.int .i64) (.pair (.int .i64) (.sl (.st (.pair (.int .i64) (.pair (.int .i64) (.pair (.int .i64) (.int .i64)))))))) (wf := wf3) (siz := siz3) (wf' := (fun (y : (Int × (Int × (List (Int × (Int × (Int × Int))))))) => wf3 y.1 ∧ (fun (y : (Int × (List (Int × (Int × (Int × Int)))))) => wf3 y.1 ∧ wf137 y.2) y.2)) (siz' := (fun (y : (Int × (Int × (List (Int × (Int × (Int × Int))))))) => siz3 y.1 + (fun (y : (Int × (List (Int × (Int × (Int × Int)))))) => siz3 y.1 + siz137 y.2) y.2)) rfl gd3 (gdf_cons (k := .int .i64) (k' := .pair (.int .i64) (.sl (.st (.pair (.int .i64) (.pair (.int .i64) (.pair (.int .i64) (.int .i64))))))) (wf := wf3) (siz := siz3) (wf' := (fun (y : (Int × (List (Int × (Int × (Int × Int)))))) => wf3 y.1 ∧ wf137 y.2)) (siz' := (fun (y : (Int × (List (Int × (Int × (Int × Int)))))) => siz3 y.1 + siz137 y.2)) rfl gd3 (gdf_cons (k := .int .i64) (k' := .sl (.st (.pair (.int .i64) (.pair (.int .i64) (.pair (.int .i64) (.int .i64)))))) (wf := wf3) (siz := siz3) (wf' := wf137) (siz' := siz137) rfl gd3 (gdf_one rfl gd137))))
abbrev wf47 : (List (Int × (Int × (Int × (List (Int × (Int × (Int × Int)))))))) → Prop := (wfL (α := (Int × (Int × (Int × (List (Int × (Int × (Int × Int)))))))) 48 wf139)
abbrev siz47 : (List (Int × (Int × (Int × (List (Int × (Int × (Int × Int)))))))) → Nat := (sizL (α := (Int × (Int × (Int × (List (Int × (Int × (Int × Int)))))))) siz139)
theorem gd47 : Gd Try.prog 47 (.sl (.st (.pair (.int .i64) (.pair (.int .i64) (.pair (.int .i64) (.sl (.st (.pair (.int .i64) (.pair (.int .i64) (.pair (.int .i64) (.int .i64))))))))))) wf47 siz47 := gd_sl (B := 48) Try.underlying47 (by kernel_rfl) (by kernel_rfl) (by decide) gd139
abbrev wf84 : (Int × (ByteArray × (Int × (List (Int × (Int × (Int × (List (Int × (Int × (Int × Int))))))))))) → Prop := (fun (y : (Int × (ByteArray × (Int × (List (Int × (Int × (Int × (List (Int × (Int × (Int × Int)))))))))))) => wf3 y.1 ∧ (fun (y : (ByteArray × (Int × (List (Int × (Int × (Int × (List (Int × (Int × (Int × Int))))))))))) => wf9 y.1 ∧ (fun (y : (Int × (List (Int × (Int × (Int × (List (Int × (Int × (Int × Int)))))))))) => wf3 y.1 ∧ wf47 y.2) y.2) y.2)
abbrev siz84 : (Int × (ByteArray × (Int × (List (Int × (Int × (Int × (List (Int × (Int × (Int × Int))))))))))) → Nat := (fun (y : (Int × (ByteArray × (Int × (List (Int × (Int × (Int × (List (Int × (Int × (Int × Int)))))))))))) => siz3 y.1 + (fun (y : (ByteArray × (Int × (List (Int × (Int × (Int × (List (Int × (Int × (Int × Int))))))))))) => siz9 y.1 + (fun (y : (Int × (List (Int × (Int × (Int × (List (Int × (Int × (Int × Int)))))))))) => siz3 y.1 + siz47 y.2) y.2) y.2)
theorem gd84 : Gd Try.prog 84 (.st (.pair (.int .i64) (.pair .str (.pair (.int .i64) (.sl (.st (.pair (.int .i64) (.pair (.int .i64) (.pair (.int .i64) (.sl (.st (.pair (.int .i64) (.pair (.int .i64) (.pair (.int .i64) (.int .i64))))))))))))))) wf84 siz84 := gd_st Try.underlying84 (by kernel_rfl) (gdf_cons (k := .int .i64) (k' := .pair .str (.pair (.int .i64) (.sl (.st (.pair (.int .i64) (.pair (.int .i64) (.pair (.int .i64) (.sl (.st (.pair (.int .i64) (.pair (.int .i64) (.pair (.int .i64) (.int .i64))))))))))))) (wf := wf3) (siz := siz3) (wf' := (fun (y : (ByteArray × (Int × (List (Int × (Int × (Int × (List (Int × (Int × (Int × Int))))))))))) => wf9 y.1 ∧ (fun (y : (Int × (List (Int × (Int × (Int × (List (Int × (Int × (Int × Int)))))))))) => wf3 y.1 ∧ wf47 y.2) y.2)) (siz' := (fun (y : (ByteArray × (Int × (List (Int × (Int × (Int × (List (Int × (Int × (Int × Int))))))))))) => siz9 y.1 + (fun (y : (Int × (List (Int × (Int × (Int × (List (Int × (Int × (Int × Int)))))))))) => siz3 y.1 + siz47 y.2) y.2)) rfl gd3 (gdf_cons (k := .str) (k' := .pair (.int .i64) (.sl (.st (.pair (.int .i64) (.pair (.int .i64) (.pair (.int .i64) (.sl (.st (.pair (.int .i64) (.pair (.int .i64) (.pair (.int .i64) (.int .i64)))))))))))) (wf := wf9) (siz := siz9) (wf' := (fun (y : (Int × (List (Int × (Int × (Int × (List (Int × (Int × (Int × Int)))))))))) => wf3 y.1 ∧ wf47 y.2)) (siz' := (fun (y : (Int × (List (Int × (Int × (Int × (List (Int × (Int × (Int × Int)))))))))) => siz3 y.1 + siz47 y.2)) rfl gd9 (gdf_cons (k := .int .i64) (k' := .sl (.st (.pair (.int .i64) (.pair (.int .i64) (.pair (.int .i64) (.sl (.st (.pair (.int .i64) (.pair (.int .i64) (.pair (.int .i64) (.int .i64))))))))))) (wf := wf3) (siz := siz3) (wf' := wf47) (siz' := siz47) rfl gd3 (gdf_one rfl gd47))))
abbrev wf46 : (List (Int × (ByteArray × (Int × (List (Int × (Int × (Int × (List (Int × (Int × (Int × Int)))))))))))) → Prop := (wfL (α := (Int × (ByteArray × (Int × (List (Int × (Int × (Int × (List (Int × (Int × (Int × Int)))))))))))) 56 wf84)
abbrev siz46 : (List (Int × (ByteArray × (Int × (List (Int × (Int × (Int × (List (Int × (Int × (Int × Int)))))))))))) → Nat := (sizL (α := (Int × (ByteArray × (Int × (List (Int × (Int × (Int × (List (Int × (Int × (Int × Int)))))))))))) siz84)
theorem gd46 : Gd Try.prog 46 (.sl (.st (.pair (.int .i64) (.pair .str (.pair (.int .i64) (.sl (.st (.pair (.int .i64) (.pair (.int .i64) (.pair (.int .i64) (.sl (.st (.pair (.int .i64) (.pair (.int .i64) (.pair (.int .i64) (.int .i64)))))))))))))))) wf46 siz46 := gd_sl (B := 56) Try.underlying46 (by kernel_rfl) (by kernel_rfl) (by decide) gd84
abbrev wf49 : (ByteArray × ((List (Int × (ByteArray × (Int × (List (Int × (Int × (Int × (List (Int × (Int × (Int × Int)))))))))))) × ((List (Int × (Int × (Int × (List (Int × (Int × (Int × Int)))))))) × ((List (Int × (Int × (Int × (List (Int × (Int × (Int × Int)))))))) × (List (Int × (Int × (Int × (List (Int × (Int × (Int × Int)))))))))))) → Prop := (fun (y : (ByteArray × ((List (Int × (ByteArray × (Int × (List (Int × (Int × (Int × (List (Int × (Int × (Int × Int)))))))))))) × ((List (Int × (Int × (Int × (List (Int × (Int × (Int × Int)))))))) × ((List (Int × (Int × (Int × (List (Int × (Int × (Int × Int)))))))) × (List (Int × (Int × (Int × (List (Int × (Int × (Int × Int))))))))))))) => wf9 y.1 ∧ (fun (y : ((List (Int × (ByteArray × (Int × (List (Int × (Int × (Int × (List (Int × (Int × (Int × Int)))))))))))) × ((List (Int × (Int × (Int × (List (Int × (Int × (Int × Int)))))))) × ((List (Int × (Int × (Int × (List (Int × (Int × (Int × Int)))))))) × (List (Int × (Int × (Int × (List (Int × (Int × (Int × Int)))))))))))) => wf46 y.1 ∧ (fun (y : ((List (Int × (Int × (Int × (List (Int × (Int × (Int × Int)))))))) × ((List (Int × (Int × (Int × (List (Int × (Int × (Int × Int)))))))) × (List (Int × (Int × (Int × (List (Int × (Int × (Int × Int))))))))))) => wf47 y.1 ∧ (fun (y : ((List (Int × (Int × (Int × (List (Int × (Int × (Int × Int)))))))) × (List (Int × (Int × (Int × (List (Int × (Int × (Int × Int)))))))))) => wf47 y.1 ∧ wf47 y.2) y.2) y.2) y.2)
abbrev siz49 : (ByteArray × ((List (Int × (ByteArray × (Int × (List (Int × (Int × (Int × (List (Int × (Int × (Int × Int)))))))))))) × ((List (Int × (Int × (Int × (List (Int × (Int × (Int × Int)))))))) × ((List (Int × (Int × (Int × (List (Int × (Int × (Int × Int)))))))) × (List (Int × (Int × (Int × (List (Int × (Int × (Int × Int)))))))))))) → Nat := (fun (y : (ByteArray × ((List (Int × (ByteArray × (Int × (List (Int × (Int × (Int × (List (Int × (Int × (Int × Int)))))))))))) × ((List (Int × (Int × (Int × (List (Int × (Int × (Int × Int)))))))) × ((List (Int × (Int × (Int × (List (Int × (Int × (Int × Int)))))))) × (List (Int × (Int × (Int × (List (Int × (Int × (Int × Int))))))))))))) => siz9 y.1 + (fun (y : ((List (Int × (ByteArray × (Int × (List (Int × (Int × (Int × (List (Int × (Int × (Int × Int)))))))))))) × ((List (Int × (Int × (Int × (List (Int × (Int × (Int × Int)))))))) × ((List (Int × (Int × (Int × (List (Int × (Int × (Int × Int)))))))) × (List (Int × (Int × (Int × (List (Int × (Int × (Int × Int)))))))))))) => siz46 y.1 + (fun (y : ((List (Int × (Int × (Int × (List (Int × (Int × (Int × Int)))))))) × ((List (Int × (Int × (Int × (List (Int × (Int × (Int × Int)))))))) × (List (Int × (Int × (Int × (List (Int × (Int × (Int × Int))))))))))) => siz47 y.1 + (fun (y : ((List (Int × (Int × (Int × (List (Int × (Int × (Int × Int)))))))) × (List (Int × (Int × (Int × (List (Int × (Int × (Int × Int)))))))))) => siz47 y.1 + siz47 y.2) y.2) y.2) y.2)
theorem gd49 : Gd Try.prog 49 (.st (.pair .str (.pair (.sl (.st (.pair (.int .i64) (.pair .str (.pair (.int .i64) (.sl (.st (.pair (.int .i64) (.pair (.int .i64) (.pair (.int .i64) (.sl (.st (.pair (.int .i64) (.pair (.int .i64) (.pair (.int .i64) (.int .i64)))))))))))))))) (.pair (.sl (.st (.pair (.int .i64) (.pair (.int .i64) (.pair (.int .i64) (.sl (.st (.pair (.int .i64) (.pair (.int .i64) (.pair (.int .i64) (.int .i64))))))))))) (.pair (.sl (.st (.pair (.int .i64) (.pair (.int .i64) (.pair (.int .i64) (.sl (.st (.pair (.int .i64) (.pair (.int .i64) (.pair (.int .i64) (.int .i64))))))))))) (.sl (.st (.pair (.int .i64) (.pair (.int .i64) (.pair (.int .i64) (.sl (.st (.pair (.int .i64) (.pair (.int .i64) (.pair (.int .i64) (.int .i64)))))))))))))))) wf49 siz49 := gd_st Try.underlying49 (by kernel_rfl) (gdf_cons (k := .str) (k' := .pair (.sl (.st (.pair (.int .i64) (.pair .str (.pair (.int .i64) (.sl (.st (.pair (.int .i64) (.pair (.int .i64) (.pair (.int .i64) (.sl (.st (.pair (.int .i64) (.pair (.int .i64) (.pair (.int .i64) (.int .i64)))))))))))))))) (.pair (.sl (.st (.pair (.int .i64) (.pair (.int .i64) (.pair (.int .i64) (.sl (.st (.pair (.int .i64) (.pair (.int .i64) (.pair (.int .i64) (.int .i64))))))))))) (.pair (.sl (.st (.pair (.int .i64) (.pair (.int .i64) (.pair (.int .i64) (.sl (.st (.pair (.int .i64) (.pair (.int .i64) (.pair (.int .i64) (.int .i64))))))))))) (.sl (.st (.pair (.int .i64) (.pair (.int .i64) (.pair (.int .i64) (.sl (.st (.pair (.int .i64) (.pair (.int .i64) (.pair (.int .i64) (.int .i64)))))))))))))) (wf := wf9) (siz := siz9) (wf' := (fun (y : ((List (Int × (ByteArray × (Int × (List (Int × (Int × (Int × (List (Int × (Int × (Int × Int)))))))))))) × ((List (Int × (Int × (Int × (List (Int × (Int × (Int × Int)))))))) × ((List (Int × (Int × (Int × (List (Int × (Int × (Int × Int)))))))) × (List (Int × (Int × (Int × (List (Int × (Int × (Int × Int)))))))))))) => wf46 y.1 ∧ (fun (y : ((List (Int × (Int × (Int × (List (Int × (Int × (Int × Int)))))))) × ((List (Int × (Int × (Int × (List (Int × (Int × (Int × Int)))))))) × (List (Int × (Int × (Int × (List (Int × (Int × (Int × Int))))))))))) => wf47 y.1 ∧ (fun (y : ((List (Int × (Int × (Int × (List (Int × (Int × (Int × Int)))))))) × (List (Int × (Int × (Int × (List (Int × (Int × (Int × Int)))))))))) => wf47 y.1 ∧ wf47 y.2) y.2) y.2)) (siz' := (fun (y : ((List (Int × (ByteArray × (Int × (List (Int × (Int × (Int × (List (Int × (Int × (Int × Int)))))))))))) × ((List (Int × (Int × (Int × (List (Int × (Int × (Int × Int)))))))) × ((List (Int × (Int × (Int × (List (Int × (Int × (Int × Int)))))))) × (List (Int × (Int × (Int × (List (Int × (Int × (Int × Int)))))))))))) => siz46 y.1 + (fun (y : ((List (Int × (Int × (Int × (List (Int × (Int × (Int × Int)))))))) × ((List (Int × (Int × (Int × (List (Int × (Int × (Int × Int)))))))) × (List (Int × (Int × (Int × (List (Int × (Int × (Int × Int))))))))))) => siz47 y.1 + (fun (y : ((List (Int × (Int × (Int × (List (Int × (Int × (Int × Int)))))))) × (List (Int × (Int × (Int × (List (Int × (Int × (Int × Int)))))))))) => siz47 y.1 + siz47 y.2) y.2) y.2)) rfl gd9 (gdf_cons (k := .sl (.st (.pair (.int .i64) (.pair .str (.pair (.int .i64) (.sl (.st (.pair (.int .i64) (.pair (.int .i64) (.pair (.int .i64) (.sl (.st (.pair (.int .i64) (.pair (.int .i64) (.pair (.int .i64) (.int .i64)))))))))))))))) (k' := .pair (.sl (.st (.pair (.int .i64) (.pair (.int .i64) (.pair (.int .i64) (.sl (.st (.pair (.int .i64) (.pair (.int .i64) (.pair (.int .i64) (.int .i64))))))))))) (.pair (.sl (.st (.pair (.int .i64) (.pair (.int .i64) (.pair (.int .i64) (.sl (.st (.pair (.int .i64) (.pair (.int .i64) (.pair (.int .i64) (.int .i64))))))))))) (.sl (.st (.pair (.int .i64) (.pair (.int .i64) (.pair (.int .i64) (.sl (.st (.pair (.int .i64) (.pair (.int .i64) (.pair (.int .i64) (.int .i64))))))))))))) (wf := wf46) (siz := siz46) (wf' := (fun (y : ((List (Int × (Int × (Int × (List (Int × (Int × (Int × Int)))))))) × ((List (Int × (Int × (Int × (List (Int × (Int × (Int × Int)))))))) × (List (Int × (Int × (Int × (List (Int × (Int × (Int × Int))))))))))) => wf47 y.1 ∧ (fun (y : ((List (Int × (Int × (Int × (List (Int × (Int × (Int × Int)))))))) × (List (Int × (Int × (Int × (List (Int × (Int × (Int × Int)))))))))) => wf47 y.1 ∧ wf47 y.2) y.2)) (siz' := (fun (y : ((List (Int × (Int × (Int × (List (Int × (Int × (Int × Int)))))))) × ((List (Int × (Int × (Int × (List (Int × (Int × (Int × Int)))))))) × (List (Int × (Int × (Int × (List (Int × (Int × (Int × Int))))))))))) => siz47 y.1 + (fun (y : ((List (Int × (Int × (Int × (List (Int × (Int × (Int × Int)))))))) × (List (Int × (Int × (Int × (List (Int × (Int × (Int × Int)))))))))) => siz47 y.1 + siz47 y.2) y.2)) rfl gd46 (gdf_cons (k := .sl (.st (.pair (.int .i64) (.pair (.int .i64) (.pair (.int .i64) (.sl (.st (.pair (.int .i64) (.pair (.int .i64) (.pair (.int .i64) (.int .i64))))))))))) (k' := .pair (.sl (.st (.pair (.int .i64) (.pair (.int .i64) (.pair (.int .i64) (.sl (.st (.pair (.int .i64) (.pair (.int .i64) (.pair (.int .i64) (.int .i64))))))))))) (.sl (.st (.pair (.int .i64) (.pair (.int .i64) (.pair (.int .i64) (.sl (.st (.pair (.int .i64) (.pair (.int .i64) (.pair (.int .i64) (.int .i64)))))))))))) (wf := wf47) (siz := siz47) (wf' := (fun (y : ((List (Int × (Int × (Int × (List (Int × (Int × (Int × Int)))))))) × (List (Int × (Int × (Int × (List (Int × (Int × (Int × Int)))))))))) => wf47 y.1 ∧ wf47 y.2)) (siz' := (fun (y : ((List (Int × (Int × (Int × (List (Int × (Int × (Int × Int)))))))) × (List (Int × (Int × (Int × (List (Int × (Int × (Int × Int)))))))))) => siz47 y.1 + siz47 y.2)) rfl gd47 (gdf_cons (k := .sl (.st (.pair (.int .i64) (.pair (.int .i64) (.pair (.int .i64) (.sl (.st (.pair (.int .i64) (.pair (.int .i64) (.pair (.int .i64) (.int .i64))))))))))) (k' := .sl (.st (.pair (.int .i64) (.pair (.int .i64) (.pair (.int .i64) (.sl (.st (.pair (.int .i64) (.pair (.int .i64) (.pair (.int .i64) (.int .i64))))))))))) (wf := wf47) (siz := siz47) (wf' := wf47) (siz' := siz47) rfl gd47 (gdf_one rfl gd47)))))
set_option maxRecDepth 100000 in
set_option maxHeartbeats 1000000 in
theorem lifted (os : Os) (started : os.Started) (H : Type) (enc : TypeId × Value → H) :
    ReturnsInHanded {} Try.checked os 5 .any (Rows.genTestsSpec.pre6 enc Try.prog Try.f5 Rows.genTestsRow.domain false) (Rows.genTestsSpec.post enc Try.prog Try.f5 false true false false) := by
  refine returnsInHanded_of_change_sized (C := Try.checked) own started (by kernel_rfl) Try.func5
    (ChangeSpec.witness6 (enc := enc) (C := Try.checked) false ⟨#[], #[.agg #[.string ByteArray.empty, .slice none 0 0, .slice none 0 0, .slice none 0 0, .slice none 0 0], .int .i64 0], []⟩ 8 (by kernel_rfl) (by kernel_rfl) (by kernel_rfl) (by kernel_rfl)) ?_
  intro W base args ds gs before hval0 hW hcnd hsz0 _
  have hsz : (DataW.weightsEach Try.prog (Try.f5.params.toList ++ Rows.genTestsSpec.plain.varTypes Try.prog) (ds ++ gs)).all (· ≤ reachBytes) = true := hsz0
  have hval : ∀ (j : Nat) t v, Try.f5.params[j]? = some t → args[j]? = some v → Value.okWide Try.prog W .any base t v := hval0
  have hW' := hW
  obtain ⟨p, q, hA0, hV, rfl, hfz, hnd⟩ := hW
  have hA : DataW.TrodAll enc Try.prog W 0 (fun _ => true) true Try.f5.params.toList args.toList ds p := hA0
  rw [Try.params5] at hA hval hsz
  obtain ⟨v0, vs0, d0, ds0, p0, q0, hargs, rfl, rfl, h0, r0⟩ := trodAll_cons hA
  obtain ⟨v1, vs1, d1, ds1, p1, q1, rfl, rfl, rfl, h1, r1⟩ := trodAll_cons r0
  obtain ⟨rfl, rfl, rfl⟩ := trodAll_nil r1
  obtain rfl : args = #[v0, v1] := by cases args; simp_all
  obtain ⟨rfl, rfl⟩ := trodVars_none hV
  have lt0 : ∀ x ∈ p0, x.block < W.heap.size := by obtain ⟨m, hm⟩ := h0; exact DataW.trod_lt m _ _ _ hm
  have wt0 := weights_at hsz 0 (t := 49) rfl rfl
  obtain ⟨a0, s0, wf0_, up0_⟩ := gd49.arg (hval 0 49 v0 rfl rfl) h0 wt0
  have lt1 : ∀ x ∈ p1, x.block < W.heap.size := by obtain ⟨m, hm⟩ := h1; exact DataW.trod_lt m _ _ _ hm
  have wt1 := weights_at hsz 1 (t := 3) rfl rfl
  obtain ⟨a1, s1, wf1_, up1_⟩ := gd3.arg (hval 1 3 v1 rfl rfl) h1 wt1
  clear hA0 hval0 hsz0 hsz
  obtain ⟨k, h⟩ := Ge.genTests a0 a1 wf0_ wf1_
  refine (law_calls (GenTests5.ok k) (ds := (a0, a1)) h (args := #[v0, v1]) (W := W) (.cons (s0 _) (.cons (s1 _) (.nil)))).mono fun e W' ⟨he, bel0⟩ => ?_
  have bel : Below W.heap.size W W' := bel0
  subst he
  exact ⟨_, rfl, _, _, _, [], _, [], hW', trodAll_mk1 (shut_bool Try.underlying4 _), (trodAll_cons_mk (Below.trod laidOut (by kernel_rfl) (of_decide_eq_true (by kernel_rfl)) h0 bel lt0) (trodAll_cons_mk (Below.trod laidOut (by kernel_rfl) (of_decide_eq_true (by kernel_rfl)) h1 bel lt1) (trodAll_mk0))), rfl, bel.frame _, fun h => by cases h⟩
theorem over : Rows.genTestsRow.holds Try.pinned (OpenSpec.ofChange Rows.genTestsSpec) :=
  OpenClaim.holds_of_wide 5 Try.f5 rfl rfl rfl rfl rfl rfl rfl ⟨rfl, rfl, rfl, rfl, rfl⟩ rfl rfl rfl rfl rfl (by kernel_rfl) Try.func5 (by kernel_rfl)
    (of_decide_eq_true (by kernel_rfl)) (by unfold Func.isWrapper; first | (rw [if_pos (by decide +kernel)]; kernel_rfl) | (rw [if_neg (by decide +kernel)]; exact ⟨rfl, rfl⟩))
    (fun os started H enc _ => lifted os started H enc)
theorem proved : Rows.GenTestsSaid := over
#print axioms proved
end Go.Proofs.Ytcppmlgnceldmaa.genTests
namespace Go.Proofs.Ytcppmlgnceldmaa
theorem genTests_holds : Rows.GenTestsSaid := genTests.proved
end Go.Proofs.Ytcppmlgnceldmaa
