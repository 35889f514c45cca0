/- Merged texts of one claim: a Go law, its functions without memory, and the plain law. The law returns true for every input; conditions: as the row says. -/
import Derived.Test.YtofendipdfepoaaDoorRows
import Derived.WalkKit
import Derived.Laws.OwnMore
import Derived.Deep.OwnRows
import Derived.Laws.BytesArg
import Derived.Lib.TrimByte
import Derived.Deep.QuietTactic
import Derived.BigQuiet
import Derived.Lib.SlBytesConst
import Derived.Shelf.LaysM
import Derived.Shelf.Strings.Trim
import Derived.Test.YtofendipdfepoaaDoorProg
import Derived.Test.YtofendipdfepoaaDoorChecked
import Derived.KernelRfl
import Derived.ChangeArms
import Derived.OpenShut
import Derived.SizedLaws
import Derived.Deep.Slices
import Derived.Below
import Derived.Handed
import Derived.HandedShaped
import Derived.LaidMore
import Derived.Test.YtofendipdfepoaaDoorCards
import Derived.Test.YtofendipdfepoaaDoorTie
import Derived.LaidHandle
import Derived.MakeChecks
import Derived.Shelf.Vars
import Derived.Lib.LaidTab
import Derived.SevenTiedAt
import Derived.ProofKit
import Derived.ShutString
import Derived.ChangeOld
import Derived.Test.YtofendipdfepoaaDoorCPr0
import Derived.Test.YtofendipdfepoaaDoorCPr1
import Derived.Test.YtofendipdfepoaaDoorCPr2
/- paper.put by hand: rows of rows that are written in place. -/
set_option linter.unusedVariables false
set_option maxRecDepth 100000
namespace Go.Proofs.YtofendipdfepoaaDoor.Pr
open Go Go.RowKit Go.Proofs.YtofendipdfepoaaDoor.Gp

theorem app_own {P : Program} (t e : TypeId) (i : TypeInfo) (z : Value) (ht : P.underlying t = some (.slice e)) (hi : P.info? e = some i) (hz : i.zero = some z) (hs : i.size = 1) (hzs : z.cells.size = 1) (hb : i.bytes ≤ 100)
    (w : World) (B : Nat) (v : Value) (xs : List Value) (h : w.ownsRow B e 1 v xs.length xs) (hx : xs.length ≤ 1000000) (u : Value) (hu : u.oneCell' = true) (b : Nat) (hc : w.cell? ⟨b, 0, none⟩ = some u) (hB : B ≤ w.heap.size) :
    ∃ v' w', (Builtin.append_ #[t, t] t #[v, .slice (some ⟨b, 0, none⟩) 1 1]).run P w = .ok v' w' ∧ w'.ownsRow B e 1 v' (xs ++ [u]).length (xs ++ [u]) ∧ w.grownBy w' v.ownBlock ∧ ∃ g cap, v' = .slice (some ⟨g, 0, none⟩) (xs.length + 1) cap ∧ (v.ownBlock = some g ∨ w.heap.size ≤ g) := by
  have hn : ∀ j x, [u][j]? = some x → w.cell? ((⟨b, 0, none⟩ : Addr).add j) = some x := fun j x hj => by
    match j, hj with
    | 0, hj =>
      have hj : u = x := by simpa using hj
      rw [← hj]
      exact hc
  have hbb : (xs.length + 1) * i.bytes ≤ 1000001 * 100 := Nat.mul_le_mul (by omega) hb
  obtain ⟨v', w', hr, ho, hg, hnil⟩ := run_append_own (P := P) w B t t e i z 1 i.bytes ht hi hz hs rfl hzs (by decide) v xs.length xs h ⟨b, 0, none⟩ 1 1 [u] rfl hn (by simpa using hu) (by simp only [maxLen]; omega) (by omega) hB
  refine ⟨v', w', hr, by rw [List.length_append]; exact ho, hg, ?_⟩
  rcases h.2 with ⟨rfl, hx0⟩ | ⟨g, cap, cur, rfl, hbg, hgw, hnc, hcm, hcs, htake⟩
  · have hr2 := run_append_nil (P := P) w t t e i z ht hi hz ⟨b, 0, none⟩ 1 1 [u] (by rw [hs]; rfl) hn (by decide) (by decide) (by omega)
    rw [hr2] at hr
    cases hr
    exact ⟨_, _, by rw [hx0], .inr (Nat.le_refl _)⟩
  · by_cases hroom : xs.length + 1 ≤ cap
    · have hr2 := run_append_room (P := P) w t t e i ht hi g xs.length cap cur hgw ⟨b, 0, none⟩ 1 1 [u] (by rw [hs]; rfl) hn (by simpa using hu) hroom (by rw [hs, hcs, Nat.mul_one, Nat.mul_one]; exact hroom)
      rw [hr2] at hr
      cases hr
      exact ⟨_, _, rfl, .inl rfl⟩
    · have holds : ∀ j x, xs[j]? = some x → w.cell? ((⟨g, 0, none⟩ : Addr).add j) = some x := h.cells (g := g) rfl
      have hr2 := run_append_grow (P := P) w t t e i z ht hi hz ⟨g, 0, none⟩ xs.length cap xs (by rw [hs, Nat.mul_one]) holds ⟨b, 0, none⟩ 1 1 [u] (by rw [hs]; rfl) hn (by omega) (by omega) (growslice_fits (by omega) (by omega))
      rw [hr2] at hr
      cases hr
      exact ⟨_, _, rfl, .inr (Nat.le_refl _)⟩
def AppOwn (P : Program) (t e : TypeId) : Prop := ∀ (w : World) (B : Nat) (v : Value) (xs : List Value), w.ownsRow B e 1 v xs.length xs → xs.length ≤ 1000000 → ∀ (u : Value), u.oneCell' = true → ∀ (b : Nat), w.cell? ⟨b, 0, none⟩ = some u → B ≤ w.heap.size →
    ∃ v' w', (Builtin.append_ #[t, t] t #[v, .slice (some ⟨b, 0, none⟩) 1 1]).run P w = .ok v' w' ∧ w'.ownsRow B e 1 v' (xs ++ [u]).length (xs ++ [u]) ∧ w.grownBy w' v.ownBlock ∧ ∃ g cap, v' = .slice (some ⟨g, 0, none⟩) (xs.length + 1) cap ∧ (v.ownBlock = some g ∨ w.heap.size ≤ g)
theorem appB : AppOwn Tryd.prog 23 5 := fun w B v xs h hx u hu b hc hB => app_own (P := Tryd.prog) 23 5 Tryd.t5 (.int .u8 0) Tryd.underlying23 (by kernel_rfl) rfl rfl rfl (by decide) w B v xs h hx u hu b hc hB
theorem appR : AppOwn Tryd.prog 37 23 := fun w B v xs h hx u hu b hc hB => app_own (P := Tryd.prog) 37 23 Tryd.t23 (.slice none 0 0) Tryd.underlying37 (by kernel_rfl) rfl rfl rfl (by decide) w B v xs h hx u hu b hc hB
theorem appS : AppOwn Tryd.prog 24 9 := fun w B v xs h hx u hu b hc hB => app_own (P := Tryd.prog) 24 9 Tryd.t9 (.string ⟨#[]⟩) Tryd.underlying24 (by kernel_rfl) rfl rfl rfl (by decide) w B v xs h hx u hu b hc hB
theorem wpList_app {t e : TypeId} (ok : AppOwn Tryd.prog t e) {w : World} {ops : Array Oper} {rest : List Oper} {o : Oper} {a : Act} {Q : Exit → Act → World → Prop} (hgd : o.guard = none) (d s : Operand)
    (ho : o.op = .call { callee := .builtin .append, args := #[d, s], argTypes := #[t, t] }) (hty : o.type = t) (B : Nat) (v : Value) (xs : List Value) (hd : a.eval d = v) (h : w.ownsRow B e 1 v xs.length xs) (hx : xs.length ≤ 1000000)
    (u : Value) (hu : u.oneCell' = true) (b : Nat) (hs : a.eval s = .slice (some ⟨b, 0, none⟩) 1 1) (hc : w.cell? ⟨b, 0, none⟩ = some u) (hB : B ≤ w.heap.size)
    (hk : ∀ w2 g cap, w2.ownsRow B e 1 (.slice (some ⟨g, 0, none⟩) (xs.length + 1) cap) (xs ++ [u]).length (xs ++ [u]) → w.grownBy w2 v.ownBlock → (v.ownBlock = some g ∨ w.heap.size ≤ g) → wpList Tryd.prog ops Q rest (a.put o.dst (.slice (some ⟨g, 0, none⟩) (xs.length + 1) cap)) w2) : wpList Tryd.prog ops Q (o :: rest) a w := by
  refine wpList_plain hgd fun K hK => ?_
  obtain ⟨v', w2, hrun, h1, h2, g, cap, rfl, h3⟩ := ok w B v xs h hx u hu b hc hB
  unfold Oper.wp
  simp only [execOp, ho, resolve, invoke, builtin, hty]
  simp [hd, hs, hrun, Result.andThen]
  exact hK _ _ (hk w2 g cap h1 h2 h3)
theorem own_form {w : World} {B e : Nat} {v : Value} {xs : List Value} (h : w.ownsRow B e 1 v xs.length xs) : ∃ a c, v = .slice a xs.length c ∧ (xs ≠ [] → ∃ g, a = some ⟨g, 0, none⟩ ∧ B ≤ g) := by
  rcases h.2 with ⟨rfl, hx0⟩ | ⟨g, cap, cur, rfl, hbg, hgw, _⟩
  · exact ⟨none, 0, by rw [hx0], fun hne => absurd (List.eq_nil_of_length_eq_zero hx0) hne⟩
  · exact ⟨_, _, rfl, fun _ => ⟨g, rfl, hbg⟩⟩
theorem own_cap {w : World} {B e : Nat} {a : Option Addr} {n c : Nat} {xs : List Value} (h : w.ownsRow B e 1 (.slice a n c) n xs) : n ≤ c := by
  rcases h.2 with ⟨he, hx0⟩ | ⟨g, cap, cur, he, hbg, hgw, hnc, _⟩
  · omega
  · cases he
    exact hnc
theorem own_block {w : World} {B e n : Nat} {v : Value} {xs : List Value} (h : w.ownsRow B e 1 v n xs) {b : Nat} (hb : v.ownBlock = some b) : ∃ cs, w.heap[b]? = some (.cells cs e (0, 0)) := by
  rcases h.2 with ⟨rfl, _⟩ | ⟨g, cap, cur, rfl, hbg, hgw, _⟩
  · cases hb
  · cases hb
    exact ⟨_, hgw⟩
theorem own_ne {w : World} {B B' e e' n n' : Nat} {v v' : Value} {xs xs' : List Value} (h : w.ownsRow B e 1 v n xs) (h' : w.ownsRow B' e' 1 v' n' xs') (hne : e ≠ e') : v.ownBlock = none ∨ v.ownBlock ≠ v'.ownBlock := by
  cases hb : v.ownBlock with
  | none => exact .inl rfl
  | some b =>
    refine .inr fun he => ?_
    obtain ⟨cs, h1⟩ := own_block h hb
    obtain ⟨cs', h2⟩ := own_block h' he.symm
    rw [h1] at h2
    cases h2
    exact hne rfl
/-- rows of rows of bytes, from block B on -/
structure Grid (w : World) (B : Nat) (v : Value) (vs : List Value) (M : List (List Int)) : Prop where
  row : w.ownsRow B 23 1 v vs.length vs
  len : vs.length = M.length
  inner : ∀ (i : Nat) (u : Value) (r : List Int), vs[i]? = some u → M[i]? = some r → w.ownsRow B 5 1 u (r.map (Value.int .u8)).length (r.map (Value.int .u8))
  apart : ∀ (i j : Nat) (u u' : Value) (b : Nat), vs[i]? = some u → vs[j]? = some u' → u.ownBlock = some b → u'.ownBlock = some b → i = j
theorem Grid.keep {w w' : World} {B : Nat} {v : Value} {vs : List Value} {M : List (List Int)} (h : Grid w B v vs M) (hk : ∀ (b : Nat) (cs : Array Value) (t : TypeId), (t = 23 ∨ t = 5) → w.heap[b]? = some (Obj.cells cs t (0, 0)) → w'.heap[b]? = w.heap[b]?) : Grid w' B v vs M := by
  have ow : ∀ (e : TypeId) (n : Nat) (v : Value) (xs : List Value), (e = 23 ∨ e = 5) → w.ownsRow B e 1 v n xs → w'.ownsRow B e 1 v n xs := by
    intro e n v xs he h
    refine ⟨h.1, ?_⟩
    rcases h.2 with hn | ⟨g, cap, cur, rfl, hb, hg, rest⟩
    · exact .inl hn
    · exact .inr ⟨g, cap, cur, rfl, hb, (hk g cur e he hg).trans hg, rest⟩
  exact ⟨ow _ _ _ _ (.inl rfl) h.row, h.len, fun i u r hu hr => ow _ _ _ _ (.inr rfl) (h.inner i u r hu hr), h.apart⟩
theorem Grid.alloc {w : World} {B : Nat} {v : Value} {vs : List Value} {M : List (List Int)} (h : Grid w B v vs M) (o : Obj) : Grid (w.alloc o) B v vs M :=
  h.keep fun b cs t _ hb => heap_alloc_old w o (Array.getElem?_eq_some_iff.1 hb).1
theorem Grid.push {w w' : World} {B : Nat} {v v' : Value} {vs : List Value} {M : List (List Int)} (h : Grid w B v vs M) (ho : w'.ownsRow B 23 1 v' (vs ++ [Value.slice none 0 0]).length (vs ++ [Value.slice none 0 0])) (hg : w.grownBy w' v.ownBlock) : Grid w' B v' (vs ++ [.slice none 0 0]) (M ++ [[]]) := by
  have split : ∀ (i : Nat) (u : Value), (vs ++ [Value.slice none 0 0])[i]? = some u → vs[i]? = some u ∨ (i = vs.length ∧ u = .slice none 0 0) := by
    intro i u hu
    rw [List.getElem?_append] at hu
    by_cases hi : i < vs.length
    · rw [if_pos hi] at hu; exact .inl hu
    · rw [if_neg hi] at hu
      have := (List.getElem?_eq_some_iff.1 hu).1
      have h0 : i - vs.length = 0 := by simpa using this
      rw [h0] at hu
      exact .inr ⟨by omega, by simpa using hu.symm⟩
  refine ⟨ho, by rw [List.length_append, List.length_append, h.len]; rfl, fun i u r hu hr => ?_, fun i j u u' b hu hu' hb hb' => ?_⟩
  · rcases split i u hu with hu | ⟨rfl, rfl⟩
    · have hi := (List.getElem?_eq_some_iff.1 hu).1
      rw [List.getElem?_append_left (by rw [← h.len]; exact hi)] at hr
      exact (h.inner i u r hu hr).kept hg (own_ne (h.inner i u r hu hr) h.row (by decide))
    · rw [h.len, List.getElem?_append_right (Nat.le_refl _), Nat.sub_self] at hr
      have hr : [] = r := by simpa using hr
      subst hr
      exact World.ownsRow_nil w' B 5 1
  · rcases split i u hu with hu | ⟨rfl, rfl⟩
    · rcases split j u' hu' with hu' | ⟨rfl, rfl⟩
      · exact h.apart i j u u' b hu hu' hb hb'
      · cases hb'
    · cases hb
/-- a row is appended to, and its header is stored -/
theorem Grid.grow {w w1 : World} {B : Nat} {g cap : Nat} {vs : List Value} {M : List (List Int)} {line : Nat} {u u' : Value} {r r' : List Int} (h : Grid w B (.slice (some ⟨g, 0, none⟩) vs.length cap) vs M) (hu : vs[line]? = some u) (hr : M[line]? = some r)
    (ho : w1.ownsRow B 5 1 u' (r'.map (Value.int .u8)).length (r'.map (Value.int .u8))) (hg : w.grownBy w1 u.ownBlock) (hfresh : ∀ b, u'.ownBlock = some b → u.ownBlock = some b ∨ w.heap.size ≤ b) :
    Grid (w1.setCell ⟨g, line, none⟩ u') B (.slice (some ⟨g, 0, none⟩) (vs.set line u').length cap) (vs.set line u') (M.set line r') := by
  have hu5 := h.inner line u r hu hr
  have hrow1 : w1.ownsRow B 23 1 (.slice (some ⟨g, 0, none⟩) vs.length cap) vs.length vs := h.row.kept hg (own_ne h.row hu5 (by decide))
  obtain ⟨hst, hgs⟩ := hrow1.stored line u'
  have hgk : ∀ (u2 : Value) (n : Nat) (xs : List Value), w1.ownsRow B 5 1 u2 n xs → (w1.setCell ⟨g, line, none⟩ u').ownsRow B 5 1 u2 n xs := fun u2 n xs h2 => h2.kept hgs (own_ne h2 hrow1 (by decide))
  have hcase : ∀ (i : Nat) (x : Value), (vs.set line u')[i]? = some x → (i = line ∧ x = u') ∨ (i ≠ line ∧ vs[i]? = some x) := by
    intro i x hx
    rw [List.getElem?_set] at hx
    by_cases hi : line = i
    · rw [if_pos hi] at hx
      split at hx
      · exact .inl ⟨hi.symm, by simpa using hx.symm⟩
      · cases hx
    · rw [if_neg hi] at hx
      exact .inr ⟨fun e => hi e.symm, hx⟩
  have hkept : ∀ (i : Nat) (x : Value) (rx : List Int), i ≠ line → vs[i]? = some x → M[i]? = some rx → w1.ownsRow B 5 1 x (rx.map (Value.int .u8)).length (rx.map (Value.int .u8)) := by
    intro i x rx hi hx hrx
    refine (h.inner i x rx hx hrx).kept hg ?_
    cases hb : x.ownBlock with
    | none => exact .inl rfl
    | some b => exact .inr fun e => hi (h.apart i line x u b hx hu hb e.symm)
  refine ⟨by rw [List.length_set]; exact hst, by rw [List.length_set, List.length_set, h.len], fun i x rx hx hrx => ?_, fun i j x x' b hx hx' hb hb' => ?_⟩
  · rcases hcase i x hx with ⟨rfl, rfl⟩ | ⟨hi, hx⟩
    · have hl : i < M.length := by rw [← h.len]; exact (List.getElem?_eq_some_iff.1 hu).1
      rw [List.getElem?_set_self hl] at hrx
      cases hrx
      exact hgk _ _ _ ho
    · rw [List.getElem?_set_ne (fun e => hi e.symm)] at hrx
      exact hgk _ _ _ (hkept i x rx hi hx hrx)
  · have hlt : ∀ (i : Nat) (x : Value), vs[i]? = some x → ∀ b, x.ownBlock = some b → b < w.heap.size := by
      intro i x hx b hb
      obtain ⟨rx, hrx⟩ : ∃ rx, M[i]? = some rx := ⟨_, List.getElem?_eq_getElem (by rw [← h.len]; exact (List.getElem?_eq_some_iff.1 hx).1)⟩
      exact ((h.inner i x rx hx hrx).lt b hb).2
    rcases hcase i x hx with ⟨rfl, rfl⟩ | ⟨hi, hx0⟩
    · rcases hcase j x' hx' with ⟨rfl, rfl⟩ | ⟨hj, hx'⟩
      · rfl
      · rcases hfresh b hb with h1 | h1
        · exact h.apart i j u x' b hu hx' h1 hb'
        · exact absurd (hlt j x' hx' b hb') (by omega)
    · rcases hcase j x' hx' with ⟨rfl, rfl⟩ | ⟨hj, hx'⟩
      · rcases hfresh b hb' with h1 | h1
        · exact h.apart i j x u b hx0 hu hb h1
        · exact absurd (hlt i x hx0 b hb) (by omega)
      · exact h.apart i j x x' b hx0 hx' hb hb'
/-- a byte of a row is stored -/
theorem Grid.store {w : World} {B : Nat} {v : Value} {vs : List Value} {M : List (List Int)} {line h0 cap col : Nat} {r : List Int} {c : Int} (h : Grid w B v vs M) (hu : vs[line]? = some (.slice (some ⟨h0, 0, none⟩) r.length cap)) (hr : M[line]? = some r) :
    Grid (w.setCell ⟨h0, col, none⟩ (.int .u8 c)) B v vs (M.set line (r.set col c)) := by
  have hu5 := h.inner line _ r hu hr
  rw [List.length_map] at hu5
  obtain ⟨hst, hgs⟩ := hu5.stored col (.int .u8 c)
  refine ⟨h.row.kept hgs (own_ne h.row hu5 (by decide)), by rw [List.length_set, h.len], fun i x rx hx hrx => ?_, h.apart⟩
  by_cases hi : i = line
  · subst hi
    rw [hu] at hx
    cases hx
    have hl : i < M.length := by rw [← h.len]; exact (List.getElem?_eq_some_iff.1 hu).1
    rw [List.getElem?_set_self hl] at hrx
    cases hrx
    rw [List.length_map, List.length_set, List.map_set]
    exact hst
  · rw [List.getElem?_set_ne (fun e => hi e.symm)] at hrx
    refine (h.inner i x rx hx hrx).kept hgs ?_
    cases hb : x.ownBlock with
    | none => exact .inl rfl
    | some b => exact .inr fun e => hi (h.apart i line x _ b hx hu hb e.symm)
def padTo {α : Type} (n : Nat) (x : α) (l : List α) : List α := l ++ List.replicate (n - l.length) x
theorem pad_done {α : Type} {n : Nat} {x : α} {l : List α} (h : n ≤ l.length) : padTo n x l = l := by
  unfold padTo
  rw [Nat.sub_eq_zero_of_le h]
  exact List.append_nil l
theorem pad_step {α : Type} {n : Nat} {x : α} {l : List α} (h : l.length < n) : padTo n x (l ++ [x]) = padTo n x l := by
  unfold padTo
  rw [List.append_assoc, List.length_append, show n - l.length = (n - (l.length + 1)) + 1 by omega, List.replicate_succ]
  rfl
def putM (M : List (List Int)) (line col : Nat) (c : Int) : List (List Int) :=
  let M1 := padTo (line + 1) [] M
  let r := padTo (col + 1) 32 (M1.getD line [])
  M1.set line (if c = 32 then r else r.set col c)
theorem new_cell (w : World) (v : Value) (t : TypeId) : (w.alloc (.cells #[v] t)).cell? ⟨w.heap.size, 0, none⟩ = some v := by
  have hg : (w.alloc (.cells #[v] t)).heap[w.heap.size]? = some (.cells #[v] t) := by
    show (w.heap.push _)[w.heap.size]? = _
    rw [Array.getElem?_push, if_pos rfl]
  unfold World.cell?
  simp only [hg]
  rfl
theorem le_alloc {B : Nat} {w : World} (h : B ≤ w.heap.size) (o : Obj) : B ≤ (w.alloc o).heap.size := by
  show B ≤ (w.heap.push o).size
  rw [Array.size_push]; omega
def lenOf : Value → Nat | .slice _ n _ => n | _ => 0
set_option maxHeartbeats 8000000 in
theorem put_walk (W : World) (B : Nat) (v : Value) (vs : List Value) (M : List (List Int)) (line col : Nat) (c : Int) (hG : Grid W B v vs M) (hB : B ≤ W.heap.size) (hl : line ≤ 1000) (hM : M.length ≤ 1000) (hcol : col ≤ 1000) (hr : ∀ r ∈ M, r.length ≤ 1000) :
    Calls Tryd.prog 11 #[v, .int .i64 line, .int .i64 col, .int .u8 c] W fun e w' => ∃ v' vs', e = .returned v' ∧ Grid w' B v' vs' (putM M line col c) ∧ W.Since B w' := by
  go_enter Tryd.func11, Tryd.ntmps11
  go_wp2
  go_loopw [0] (fun x wr => ∃ vs' M', Grid wr B x vs' M' ∧ W.Since B wr ∧ padTo (line + 1) [] M' = padTo (line + 1) [] M ∧ M'.length ≤ 1001) (fun x wr => line + 1 - lenOf x)
  case atStart => exact ⟨vs, M, hG, .refl _ _, rfl, by omega⟩
  case round =>
    obtain ⟨vs', M', hG', hS, hpad, hM'⟩ := hrel
    obtain ⟨a, cp, rfl, ha⟩ := own_form hG'.row
    have hsz := hS.size
    have hml : vs'.length ≤ 1001 := hG'.len ▸ hM'
    by_cases hp : vs'.length ≤ line
    · go_wp2_with (at_builtin; refine wpList_app appR rfl (.tmp 13) (.tmp 14) rfl rfl B _ vs' rfl (hG'.alloc _).row (by omega) (.slice none 0 0) rfl _ rfl (new_cell _ _ _) (le_alloc (Nat.le_trans hB hsz) _) ?_)
      intro w2 g cap h1 h2 h3
      go_wp2
      go_roundw
      case rel =>
        refine ⟨vs' ++ [.slice none 0 0], M' ++ [[]], (hG'.alloc _).push (by rw [List.length_append]; exact h1) h2, ?_, ?_, ?_⟩
        · exact (hS.alloc (Nat.le_trans hB hsz) _).grown h2 (le_alloc (Nat.le_trans hB hsz) _) fun k hk => (hG'.row.lt k hk).1
        · rw [pad_step (by rw [← hG'.len]; omega)]; exact hpad
        · rw [List.length_append, ← hG'.len]; simp; omega
      case measure => simp [lenOf]; omega
    · have hline : line < vs'.length := by omega
      obtain ⟨g, rfl, hgB⟩ := ha (by intro e; rw [e] at hline; exact absurd hline (by simp))
      have hMl : padTo (line + 1) [] M = M' := by rw [← hpad]; exact pad_done (by rw [← hG'.len]; omega)
      have hlm : line < M'.length := by rw [← hG'.len]; exact hline
      have hr0 : M'[line]? = some M'[line] := List.getElem?_eq_getElem hlm
      have hr0l : (M'[line]).length ≤ 1000 := by
        have hm : M'[line] ∈ padTo (line + 1) [] M := hMl ▸ List.getElem_mem hlm
        unfold padTo at hm
        rcases List.mem_append.1 hm with h | h
        · exact hr _ h
        · rw [(List.mem_replicate.1 h).2]; exact Nat.zero_le _
      have hput : putM M line col c = M'.set line (if c = 32 then padTo (col + 1) 32 M'[line] else (padTo (col + 1) 32 M'[line]).set col c) := by
        unfold putM
        rw [hMl]
        show M'.set line _ = _
        rw [List.getD_eq_getElem?_getD, hr0]
        rfl
      generalize hr00 : M'[line] = r0 at hr0 hr0l hput
      clear hr00
      go_wp2
      go_loopw [16] (fun x wr2 => ∃ vs2 r, vs2.length = vs'.length ∧ Grid wr2 B (.slice (some ⟨g, 0, none⟩) vs'.length cp) vs2 (M'.set line r) ∧ W.Since B wr2 ∧ padTo (col + 1) 32 r = padTo (col + 1) 32 r0 ∧ r.length ≤ 1001) (fun x wr2 => col + 1 - lenOf ((wr2.cell? ⟨g, line, none⟩).getD (.bool true)))
      case atStart =>
        refine ⟨vs', r0, rfl, ?_, hS, rfl, by omega⟩
        rw [show M'.set line r0 = M' from List.ext_getElem? fun k => by
          rw [List.getElem?_set]
          by_cases h : line = k
          · subst h; rw [if_pos rfl, if_pos hlm]; exact hr0.symm
          · rw [if_neg h]]
        exact hG'
      case round =>
        obtain ⟨vs2, r, hvl, hG2, hS2, hpad2, hrl⟩ := hrel
        have hsz2 := hS2.size
        obtain ⟨u, hu⟩ : ∃ u, vs2[line]? = some u := ⟨_, List.getElem?_eq_getElem (by omega)⟩
        have hrr : (M'.set line r)[line]? = some r := by rw [List.getElem?_set_self hlm]
        have hu5 := hG2.inner line u r hu hrr
        obtain ⟨au, cu, hue, hau⟩ := own_form hu5
        rw [List.length_map] at hue
        subst hue
        have hrow2 : wr.ownsRow B 23 1 (.slice (some ⟨g, 0, none⟩) vs2.length cp) vs2.length vs2 := by have := hG2.row; rwa [← hvl] at this
        have hcl : wr.cell? ⟨g, line, none⟩ = some (.slice au r.length cu) := by rw [hrow2.cellAt line (by omega)]; exact hu
        by_cases hq : r.length ≤ col
        · go_wp2_with (at_builtin; refine wpList_app appB rfl (.tmp 28) (.tmp 29) rfl rfl B _ (r.map (Value.int .u8)) rfl (hu5.alloc _) (by rw [List.length_map]; omega) (.int .u8 32) rfl _ rfl (new_cell _ _ _) (le_alloc (Nat.le_trans hB hsz2) _) ?_)
          intro w2 g2 cap2 h1 h2 h3
          have hG3 : Grid (wr.alloc (.cells #[.int .u8 32] 5)) B (.slice (some ⟨g, 0, none⟩) vs2.length cp) vs2 (M'.set line r) := by rw [hvl]; exact hG2.alloc _
          have hrow3 : w2.ownsRow B 23 1 (.slice (some ⟨g, 0, none⟩) vs2.length cp) vs2.length vs2 := hG3.row.kept h2 (own_ne hG3.row (hu5.alloc (.cells #[.int .u8 32] 5)) (by decide))
          have hc2 : w2.cell? ⟨g, line, none⟩ = some (.slice au r.length cu) := by rw [hrow3.cellAt line (by omega)]; exact hu
          have hf2 : w2.frozen? ⟨g, line, none⟩ = false := hrow3.frozenAt line
          have hG4 := hG3.grow (u' := .slice (some ⟨g2, 0, none⟩) (r.length + 1) cap2) (r' := r ++ [32]) hu hrr (by rw [List.map_append, List.length_append, List.length_map]; exact h1) h2 (fun b hb => by cases hb; simpa using h3)
          rw [List.set_set] at hG4
          have hsz3 := le_alloc (Nat.le_trans hB hsz2) (.cells #[.int .u8 32] 5)
          have hS4 : W.Since B (w2.setCell ⟨g, line, none⟩ (.slice (some ⟨g2, 0, none⟩) (r.length + 1) cap2)) := ((hS2.alloc (Nat.le_trans hB hsz2) _).grown h2 hsz3 fun k hk => (hu5.lt k hk).1).setCell hgB _
          go_wp2
          go_roundw
          case rel =>
            refine ⟨vs2.set line (.slice (some ⟨g2, 0, none⟩) (r.length + 1) cap2), r ++ [32], by rw [List.length_set]; exact hvl, ?_, hS4, ?_, ?_⟩
            · rw [List.length_set, hvl] at hG4; exact hG4
            · rw [pad_step (by omega)]; exact hpad2
            · rw [List.length_append]; simp; omega
          case measure =>
            rw [World.cell?_setCell_same _ _ _ hc2, hcl]
            simp [lenOf]
            omega
        · have hrd : padTo (col + 1) 32 r0 = r := by rw [← hpad2]; exact pad_done (by omega)
          rw [hrd] at hput
          obtain ⟨h0, rfl, hhB⟩ := hau (by intro e; have : (r.map (Value.int .u8)).length = 0 := by rw [e]; rfl
                                           rw [List.length_map] at this; omega)
          have hu5' := hu5
          rw [List.length_map] at hu5'
          have hcc : wr.cell? ⟨h0, col, none⟩ = some (.int .u8 (r[col]'(by omega))) := by
            rw [hu5'.cellAt col (by omega), List.getElem?_map, List.getElem?_eq_getElem (by omega)]
            rfl
          have hff : wr.frozen? ⟨h0, col, none⟩ = false := hu5'.frozenAt col
          generalize r[col]'(by omega) = rc at hcc
          by_cases h32 : c = 32
          · subst h32
            rw [if_pos rfl] at hput
            go_wp2
            go_ret
            exact ⟨_, vs2, rfl, by rw [hput]; exact hG2, hS2⟩
          · rw [if_neg h32] at hput
            have hG4 := hG2.store (c := c) (col := col) hu hrr
            rw [List.set_set] at hG4
            have hS4 := hS2.setCell (a := ⟨h0, col, none⟩) hhB (.int .u8 c)
            go_wp2
            go_ret
            exact ⟨_, vs2, rfl, by rw [hput]; exact hG4, hS4⟩
theorem lst_map_get {l : List Int} {j : Nat} {c : Int} (h : l[j]? = some c) : (l.map (Value.int .u8))[j]? = some (.int .u8 c) := by rw [List.getElem?_map, h]; rfl
/-- trailing spaces go -/
def trimI : List Int → Nat → Nat
  | l, 0 => 0
  | l, n + 1 => if l[n]? = some 32 then trimI l n else n + 1
set_option maxHeartbeats 4000000 in
theorem trim_walk (W : World) (B : Nat) (r : List Int) (a : Option Addr) (c : Nat) (h : W.ownsRow B 5 1 (.slice a r.length c) (r.map (Value.int .u8)).length (r.map (Value.int .u8))) (hr : r.length ≤ 2000) :
    Calls Tryd.prog 12 #[.slice a r.length c] W fun e w' => e = .returned (.slice a (trimI r r.length) c) ∧ w' = W := by
  go_enter Tryd.func12, Tryd.ntmps12
  go_wp2
  go_loopw [0] (fun x wr => ∃ n : Nat, x = .slice a n c ∧ n ≤ r.length ∧ trimI r n = trimI r r.length ∧ wr = W) (fun x wr => lenOf x)
  case atStart => exact ⟨r.length, rfl, Nat.le_refl _, rfl, rfl⟩
  case round =>
    obtain ⟨n, rfl, hn, ht, rfl⟩ := hrel
    by_cases h0 : n = 0
    · subst h0
      have ht : 0 = trimI r r.length := ht
      go_wp2
      go_ret
      exact ⟨by rw [← ht]; rfl, rfl⟩
    · obtain ⟨m, rfl⟩ : ∃ m, n = m + 1 := ⟨n - 1, by omega⟩
      obtain ⟨a', c', he, ha⟩ := own_form h
      rw [List.length_map] at he
      cases he
      obtain ⟨g, rfl, hg⟩ := ha (by intro e; have : (r.map (Value.int .u8)).length = 0 := by rw [e]; rfl
                                    rw [List.length_map] at this; omega)
      have hx : r[m]? = some r[m] := List.getElem?_eq_getElem (by omega)
      have h' := h
      rw [List.length_map] at h'
      have hcap := own_cap h'
      have hmc : m ≤ c := by omega
      have hc : wr.cell? ⟨g, m, none⟩ = some (.int .u8 r[m]) := by
        rw [h'.cellAt m (by omega)]
        exact lst_map_get hx
      have ht2 : trimI r (m + 1) = if r[m]? = some 32 then trimI r m else m + 1 := rfl
      generalize r[m] = y at hx hc
      rw [hx] at ht2
      by_cases hy : y = 32
      · subst hy
        rw [if_pos rfl] at ht2
        go_wp2
        go_roundw
        case rel => exact ⟨m, rfl, by omega, by rw [← ht2]; exact ht, by first | rfl | trivial⟩
        case measure => simp [lenOf]
      · rw [if_neg (fun e => hy (Option.some.inj e))] at ht2
        have hyb : (y == 32) = false := by simpa using hy
        go_wp2
        go_ret
        exact ⟨by rw [← ht, ht2]; rfl, rfl⟩
end Go.Proofs.YtofendipdfepoaaDoor.Pr

/- paper.Print by hand. -/
set_option linter.unusedVariables false
set_option maxRecDepth 100000
namespace Go.Proofs.YtofendipdfepoaaDoor.Pr
open Go Go.RowKit Go.Proofs.YtofendipdfepoaaDoor.Gp

def stepP (line col : Nat) (M : List (List Int)) (c : Int) : Option (Nat × Nat × List (List Int)) :=
  if c = 13 then some (line, 0, M) else if c = 10 then some (line + 1, col, M) else if c = 12 then some ((line / 20 + 1) * 20, col, M)
  else if c = 9 then some (line, min 40 ((col / 8 + 1) * 8), M) else if c = 8 then some (line, col - 1, M)
  else if c < 32 ∨ 126 < c then none
  else if col = 40 then some (line + 1, 1, putM M (line + 1) 0 c) else some (line, col + 1, putM M line col c)
def runP : List Int → Nat → Nat → List (List Int) → (List (List Int)) ⊕ Int
  | [], _, _, M => .inl M
  | c :: b, line, col, M => match stepP line col M c with
    | none => .inr 3
    | some s => if 400 ≤ s.1 then .inr 6 else runP b s.1 s.2.1 s.2.2
theorem runP_none {c : Int} {b : List Int} {line col : Nat} {M : List (List Int)} (h : stepP line col M c = none) : runP (c :: b) line col M = .inr 3 := by
  show (match stepP line col M c with | none => _ | some s => _) = _
  rw [h]
theorem runP_some {c : Int} {b : List Int} {line col : Nat} {M : List (List Int)} {s : Nat × Nat × List (List Int)} (h : stepP line col M c = some s) : runP (c :: b) line col M = if 400 ≤ s.1 then .inr 6 else runP b s.1 s.2.1 s.2.2 := by
  show (match stepP line col M c with | none => _ | some s => _) = _
  rw [h]
def Wide (M : List (List Int)) : Prop := ∀ r ∈ M, r.length ≤ 40
theorem padTo_len {α : Type} (n : Nat) (x : α) (l : List α) : (padTo n x l).length = max n l.length := by
  unfold padTo
  rw [List.length_append, List.length_replicate]
  omega
theorem putM_len (M : List (List Int)) (line col : Nat) (c : Int) : (putM M line col c).length = max (line + 1) M.length := by
  unfold putM
  rw [List.length_set, padTo_len]
theorem putM_wide {M : List (List Int)} (h : Wide M) (line : Nat) {col : Nat} (hc : col < 40) (c : Int) : Wide (putM M line col c) := by
  have hp : Wide (padTo (line + 1) [] M) := by
    intro r hr
    unfold padTo at hr
    rcases List.mem_append.1 hr with h1 | h1
    · exact h r h1
    · rw [(List.mem_replicate.1 h1).2]; exact Nat.zero_le _
  have hg : ((padTo (line + 1) [] M).getD line []).length ≤ 40 := by
    rw [List.getD_eq_getElem?_getD]
    cases hx : (padTo (line + 1) [] M)[line]? with
    | none => exact Nat.zero_le _
    | some r => exact hp r (List.mem_of_getElem? hx)
  intro r hr
  unfold putM at hr
  rcases List.mem_or_eq_of_mem_set hr with h1 | rfl
  · exact hp r h1
  · split
    · rw [padTo_len]; omega
    · rw [List.length_set, padTo_len]; omega
theorem stepP_ok {line col : Nat} {M : List (List Int)} {c : Int} {s : Nat × Nat × List (List Int)} (h : stepP line col M c = some s) (hl : line ≤ 399) (hc : col ≤ 40) (hM : M.length ≤ 400) (hw : Wide M) (hs : ¬ 400 ≤ s.1) : s.1 ≤ 399 ∧ s.2.1 ≤ 40 ∧ s.2.2.length ≤ 400 ∧ Wide s.2.2 := by
  unfold stepP at h
  repeat' split at h
  all_goals first | cases h | skip
  all_goals dsimp only at hs ⊢
  all_goals first | exact ⟨by omega, by omega, hM, hw⟩ | exact ⟨by omega, by omega, by rw [putM_len]; omega, putM_wide hw _ (by omega) c⟩
theorem Grid.grown9 {w w2 : World} {B : Nat} {v ov : Value} {vs xs : List Value} {M : List (List Int)} {n : Nat} (h : Grid w B v vs M) (ho : w.ownsRow B 9 1 ov n xs) (hg : w.grownBy w2 ov.ownBlock) : Grid w2 B v vs M :=
  h.keep fun b cs t ht hb => hg.block b (Array.getElem?_eq_some_iff.1 hb).1 fun e => by
    obtain ⟨cs', h9⟩ := own_block ho e.symm
    rw [hb] at h9
    cases h9
    rcases ht with h | h <;> cases h
def strF (r : List Int) : ByteArray := strOf (r.take (trimI r r.length))
def strsF (M : List (List Int)) : List ByteArray := M.map strF
def stripN : List ByteArray → Nat → Nat
  | _, 0 => 0
  | l, n + 1 => if l[n]? = some ⟨#[]⟩ then stripN l n else n + 1
/-- how the call ends -/
def PostP (w' : World) (B : Nat) (e : Ending) : (List (List Int)) ⊕ Int → Prop
  | .inr er => e = .returned (.tuple #[.slice none 0 0, .int .i64 er])
  | .inl M => ∃ a c, e = .returned (.tuple #[.slice a (stripN (strsF M) M.length) c, .int .i64 0]) ∧ w'.ownsRow B 9 1 (.slice a M.length c) ((strsF M).map Value.string).length ((strsF M).map Value.string)
theorem trimI_le (r : List Int) : ∀ n, trimI r n ≤ n
  | 0 => Nat.le_refl _
  | n + 1 => by
    show (if r[n]? = some 32 then trimI r n else n + 1) ≤ n + 1
    split
    · exact Nat.le_succ_of_le (trimI_le r n)
    · exact Nat.le_refl _
theorem conv_row {w : World} {B : Nat} {a : Option Addr} {r : List Int} {c m : Nat} (h : w.ownsRow B 5 1 (.slice a r.length c) (r.map (Value.int .u8)).length (r.map (Value.int .u8))) (hm : m ≤ r.length) :
    (convert 23 9 (.slice a m c)).run Tryd.prog w = .ok (.string (strOf (r.take m))) w := by
  rw [List.length_map] at h
  rcases h.2 with ⟨he, h0⟩ | ⟨g, cap, cur, he, hbg, hgw, hnc, _⟩
  · simp only [Value.slice.injEq] at he
    obtain ⟨rfl, hr0, rfl⟩ := he
    have hr : r = [] := List.eq_nil_of_length_eq_zero (by omega)
    subst hr
    have := run_convert_bytes_nil (P := Tryd.prog) (w := w) 23 5 Tryd.underlying23 Tryd.underlying5 m 0 9 Tryd.underlying9
    rw [List.take_nil]
    exact this
  · cases he
    refine run_convert_bytes_arg (P := Tryd.prog) (w := w) 23 5 Tryd.underlying23 Tryd.underlying5 g 0 m c (r.take m) (by rw [List.length_take]; omega) (fun i hi => ?_) 9 Tryd.underlying9
    have hx : r[i]? = some r[i] := List.getElem?_eq_getElem (by omega)
    rw [Nat.zero_add, h.cellAt i (by omega), lst_map_get hx, List.getD_eq_getElem?_getD, List.getElem?_take, if_pos hi, hx]
    rfl
set_option maxHeartbeats 16000000 in
theorem print_walk (W : World) (a : Option Addr) (cp : Nat) (b : List Int) (hcell : b ≠ [] → ∃ g o, a = some ⟨g, o, none⟩ ∧ g < W.heap.size ∧ ∀ i c, b[i]? = some c → W.cell? ⟨g, o + i, none⟩ = some (.int .u8 c)) (hb : b.length ≤ 20000) :
    Calls Tryd.prog 4 #[.slice a b.length cp] W fun e w' => W.Since W.heap.size w' ∧ PostP w' W.heap.size e (runP b 0 0 []) := by
  generalize hres : runP b 0 0 [] = res
  go_enter Tryd.func4, Tryd.ntmps4
  go_wp2
  go_loopw [4, 5, 6, 17] (fun v l c i wr => ∃ (k line col : Nat) (vs : List Value) (M : List (List Int)), i = .int .i64 k ∧ l = .int .i64 line ∧ c = .int .i64 col ∧ k ≤ b.length ∧ Grid wr W.heap.size v vs M ∧ W.Since W.heap.size wr ∧ runP (b.drop k) line col M = res ∧ line ≤ 399 ∧ col ≤ 40 ∧ M.length ≤ 400 ∧ Wide M) (fun v l c i wr => b.length - (intOf i).toNat)
  case atStart =>
    refine ⟨0, 0, 0, [], [], rfl, rfl, rfl, Nat.zero_le _, ⟨World.ownsRow_nil _ _ _ _, rfl, fun i u r h => by simp at h, fun i j u u' b h => by simp at h⟩, (.refl _ _), hres, by omega, by omega, by simp, fun r h => by simp at h⟩
  case round =>
    obtain ⟨k, line, col, vs, M, rfl, rfl, rfl, hk, hG, hS, hrun, hl, hc, hM, hw⟩ := hrel
    by_cases hp : k < b.length
    · obtain ⟨g, o, rfl, hg, hcl⟩ := hcell (fun e => by rw [e] at hp; exact absurd hp (by simp))
      have hx : b[k]? = some b[k] := List.getElem?_eq_getElem hp
      have hdr : b.drop k = b[k] :: b.drop (k + 1) := List.drop_eq_getElem_cons hp
      generalize b[k] = y at hx hdr
      have hcw : wr.cell? ⟨g, o + k, none⟩ = some (.int .u8 y) := by rw [hS.cell hg]; exact hcl k y hx
      rw [hdr] at hrun
      by_cases h13 : y = 13
      · have hst : stepP line col M y = some (line, 0, M) := by unfold stepP; rw [if_pos h13]
        rw [runP_some hst, if_neg (by dsimp only; omega)] at hrun
        subst h13
        go_wp2
        go_roundw
        case rel => exact ⟨k + 1, line, 0, vs, M, by go_num, rfl, rfl, hp, hG, hS, hrun, hl, Nat.zero_le _, hM, hw⟩
        case measure => simp [intOf]; omega
      have y13 : (y == 13) = false := by simpa using h13
      by_cases h10 : y = 10
      · have hst : stepP line col M y = some (line + 1, col, M) := by unfold stepP; rw [if_neg h13, if_pos h10]
        rw [runP_some hst] at hrun
        dsimp only at hrun
        subst h10
        by_cases h4 : 400 ≤ line + 1
        · rw [if_pos h4] at hrun
          go_wp2
          go_ret2
          exact ⟨hS, by rw [← hrun]; exact rfl⟩
        · rw [if_neg h4] at hrun
          go_wp2
          go_roundw
          case rel => exact ⟨k + 1, line + 1, col, vs, M, by go_num, by go_num, rfl, hp, hG, hS, hrun, by omega, hc, hM, hw⟩
          case measure => simp [intOf]; omega
      have y10 : (y == 10) = false := by simpa using h10
      by_cases h12 : y = 12
      · have hst : stepP line col M y = some ((line / 20 + 1) * 20, col, M) := by unfold stepP; rw [if_neg h13, if_neg h10, if_pos h12]
        rw [runP_some hst] at hrun
        dsimp only at hrun
        subst h12
        by_cases h4 : 400 ≤ (line / 20 + 1) * 20
        · rw [if_pos h4] at hrun
          go_wp2
          go_ret2
          exact ⟨hS, by rw [← hrun]; exact rfl⟩
        · rw [if_neg h4] at hrun
          go_wp2
          go_roundw
          case rel => exact ⟨k + 1, (line / 20 + 1) * 20, col, vs, M, by go_num, by go_num, rfl, hp, hG, hS, hrun, by omega, hc, hM, hw⟩
          case measure => simp [intOf]; omega
      have y12 : (y == 12) = false := by simpa using h12
      by_cases h9 : y = 9
      · have hst : stepP line col M y = some (line, min 40 ((col / 8 + 1) * 8), M) := by unfold stepP; rw [if_neg h13, if_neg h10, if_neg h12, if_pos h9]
        rw [runP_some hst, if_neg (by dsimp only; omega)] at hrun
        dsimp only at hrun
        subst h9
        go_wp2
        go_roundw
        case rel => exact ⟨k + 1, line, min 40 ((col / 8 + 1) * 8), vs, M, by go_num, rfl, by go_num, hp, hG, hS, hrun, hl, by omega, hM, hw⟩
        case measure => simp [intOf]; omega
      have y9 : (y == 9) = false := by simpa using h9
      by_cases h8 : y = 8
      · have hst : stepP line col M y = some (line, col - 1, M) := by unfold stepP; rw [if_neg h13, if_neg h10, if_neg h12, if_neg h9, if_pos h8]
        rw [runP_some hst, if_neg (by dsimp only; omega)] at hrun
        dsimp only at hrun
        subst h8
        go_wp2
        go_roundw
        case rel => exact ⟨k + 1, line, col - 1, vs, M, by go_num, rfl, by go_num, hp, hG, hS, hrun, hl, by omega, hM, hw⟩
        case measure => simp [intOf]; omega
      have y8 : (y == 8) = false := by simpa using h8
      by_cases hbad : y < 32 ∨ 126 < y
      · have hst : stepP line col M y = none := by unfold stepP; rw [if_neg h13, if_neg h10, if_neg h12, if_neg h9, if_neg h8, if_pos hbad]
        rw [runP_none hst] at hrun
        by_cases h32 : y < 32
        · go_wp2
          go_ret2
          exact ⟨hS, by rw [← hrun]; exact rfl⟩
        · have h126 : 126 < y := by omega
          go_wp2
          go_ret2
          exact ⟨hS, by rw [← hrun]; exact rfl⟩
      have n32 : ¬ y < 32 := by omega
      have n126 : ¬ 126 < y := by omega
      by_cases h40 : col = 40
      · have hst : stepP line col M y = some (line + 1, 1, putM M (line + 1) 0 y) := by unfold stepP; rw [if_neg h13, if_neg h10, if_neg h12, if_neg h9, if_neg h8, if_neg hbad, if_pos h40]
        rw [runP_some hst] at hrun
        dsimp only at hrun
        subst h40
        go_wp2_with (go_at_call 11; refine (put_walk wr W.heap.size _ vs M (line + 1) 0 y hG hS.size (by omega) (by omega) (by omega) (fun r hr => Nat.le_trans (hw r hr) (by decide))).mono ?_)
        intro e w2 v2 he vs2 hG2 hS2
        subst he
        by_cases h4 : 400 ≤ line + 1
        · rw [if_pos h4] at hrun
          go_wp2
          go_ret2
          exact ⟨hS.trans hS2, by rw [← hrun]; exact rfl⟩
        · rw [if_neg h4] at hrun
          go_wp2
          go_roundw
          case rel => exact ⟨k + 1, line + 1, 1, vs2, _, by go_num, by go_num, rfl, hp, hG2, hS.trans hS2, hrun, by omega, by omega, by rw [putM_len]; omega, putM_wide hw _ (by omega) y⟩
          case measure => simp [intOf]; omega
      · have hst : stepP line col M y = some (line, col + 1, putM M line col y) := by unfold stepP; rw [if_neg h13, if_neg h10, if_neg h12, if_neg h9, if_neg h8, if_neg hbad, if_neg h40]
        rw [runP_some hst, if_neg (by dsimp only; omega)] at hrun
        dsimp only at hrun
        have y40 : ((col : Int) == 40) = false := by simp; omega
        go_wp2_with (go_at_call 11; refine (put_walk wr W.heap.size _ vs M line col y hG hS.size (by omega) (by omega) (by omega) (fun r hr => Nat.le_trans (hw r hr) (by decide))).mono ?_)
        intro e w2 v2 he vs2 hG2 hS2
        subst he
        go_wp2
        go_roundw
        case rel => exact ⟨k + 1, line, col + 1, vs2, _, by go_num, rfl, by go_num, hp, hG2, hS.trans hS2, hrun, hl, by omega, by rw [putM_len]; omega, putM_wide hw _ (by omega) y⟩
        case measure => simp [intOf]; omega
    · have hkb : k = b.length := by omega
      subst hkb
      rw [List.drop_length] at hrun
      have hrun : (.inl M : (List (List Int)) ⊕ Int) = res := hrun
      subst hrun
      obtain ⟨av, cv, rfl, hav⟩ := own_form hG.row
      go_wp2
      go_loopw [9, 73] (fun ov i w3 => ∃ k2 : Nat, i = .int .i64 k2 ∧ k2 ≤ M.length ∧ Grid w3 W.heap.size (.slice av vs.length cv) vs M ∧ W.Since W.heap.size w3 ∧ ∃ xs : List Value, w3.ownsRow W.heap.size 9 1 ov xs.length xs ∧ Lib.Kept (xs = ((strsF M).take k2).map Value.string)) (fun ov i w3 => M.length - (intOf i).toNat)
      case atStart => exact ⟨0, rfl, Nat.zero_le _, hG, hS, [], World.ownsRow_nil _ _ _ _, rfl⟩
      case round =>
        obtain ⟨k2, rfl, hk2, hG3, hS3, xs, ho, hxs⟩ := hrel
        have hsz3 := hS3.size
        obtain ⟨ao, co, rfl, hao⟩ := own_form ho
        have hkl : xs.length = k2 := by
          have h : xs = ((strsF M).take k2).map Value.string := hxs
          rw [h, List.length_map, List.length_take]; unfold strsF; rw [List.length_map]; omega
        have hxl : xs.length ≤ 400 := by omega
        clear hkl
        by_cases hp2 : k2 < M.length
        · obtain ⟨g, rfl, hgB⟩ := hav (by intro e; have hvM := hG3.len; rw [e] at hvM; rw [← hvM] at hp2; exact absurd hp2 (Nat.not_lt_zero _))
          have hr : M[k2]? = some M[k2] := List.getElem?_eq_getElem hp2
          obtain ⟨u, hu⟩ : ∃ u, vs[k2]? = some u := ⟨_, List.getElem?_eq_getElem (by have := hG3.len; omega)⟩
          have hkv : k2 < vs.length := by have := hG3.len; omega
          have htk : ((strsF M).take (k2 + 1)).map Value.string = ((strsF M).take k2).map Value.string ++ [Value.string (strF M[k2])] := by
            rw [List.take_add_one, List.map_append]
            unfold strsF
            rw [List.getElem?_map, hr]
            rfl
          have hxs2 : Lib.Kept (xs ++ [Value.string (strF M[k2])] = ((strsF M).take (k2 + 1)).map Value.string) := by
            have h : xs = ((strsF M).take k2).map Value.string := hxs
            rw [h]; exact htk.symm
          clear htk hxs
          generalize M[k2] = r at hr hxs2
          have hu5 := hG3.inner k2 u r hu hr
          obtain ⟨au, cu, hue, hau⟩ := own_form hu5
          rw [List.length_map] at hue
          subst hue
          have hcl : wr.cell? ⟨g, k2, none⟩ = some (.slice au r.length cu) := by rw [hG3.row.cellAt k2 (by rw [Nat.mul_one]; exact hkv)]; exact hu
          have hrl : r.length ≤ 40 := hw r (List.mem_of_getElem? hr)
          have hcv := conv_row hu5 (trimI_le r r.length)
          have hsf : strOf (r.take (trimI r r.length)) = strF r := rfl
          rw [hsf] at hcv
          go_wp2_with (go_at_call 12; refine (trim_walk wr W.heap.size r au cu hu5 (by omega)).mono ?_)
          rintro e w4 ⟨rfl, rfl⟩
          go_wp2_with (at_builtin; refine wpList_app appS rfl (.tmp 77) (.tmp 81) rfl rfl W.heap.size _ _ rfl (ho.alloc _) (by omega) (.string (strF r)) rfl _ rfl (new_cell _ _ _) (le_alloc hsz3 _) ?_)
          intro w2 g9 cap9 h1 h2 h3
          have hG5 := (hG3.alloc (.cells #[.string (strF r)] 9)).grown9 (ho.alloc _) h2
          have hS5 := (hS3.alloc hsz3 (.cells #[.string (strF r)] 9)).grown h2 (le_alloc hsz3 _) (fun k hk => (ho.lt k hk).1)
          go_wp2
          go_roundw
          case rel =>
            exact ⟨k2 + 1, by go_num, hp2, hG5, hS5, xs ++ [.string (strF r)], by rw [List.length_append]; exact h1, hxs2⟩
          case measure => simp [intOf]; omega
        · have hv2 : vs.length ≤ M.length := by have := hG3.len; omega
          have hk2e : k2 = M.length := by omega
          subst hk2e
          have hsl : (strsF M).length = M.length := by unfold strsF; rw [List.length_map]
          have hxs3 : xs = (strsF M).map Value.string := by
            have h : xs = ((strsF M).take M.length).map Value.string := hxs
            rw [h, List.take_of_length_le (by omega)]
          clear hxs
          have hxl3 : xs.length = M.length := by rw [hxs3, List.length_map, hsl]
          rw [hxl3] at ho
          rw [hxs3] at ho
          clear hxs3
          rw [hxl3]
          have hxk : Lib.Kept (xs.length = M.length) := hxl3
          clear hxl3 hsl
          go_wp2
          go_loopw [9] (fun x w5 => ∃ n : Nat, x = .slice ao n co ∧ n ≤ M.length ∧ stripN (strsF M) n = stripN (strsF M) M.length ∧ w5 = wr) (fun x w5 => lenOf x)
          case atStart => exact ⟨M.length, rfl, Nat.le_refl _, rfl, rfl⟩
          case round =>
            obtain ⟨n, rfl, hn, ht, rfl⟩ := hrel
            by_cases h0 : n = 0
            · subst h0
              have ht : 0 = stripN (strsF M) M.length := ht
              go_wp2
              go_ret2
              exact ⟨hS3, ao, co, by rw [← ht]; rfl, by rw [List.length_map]; exact (show (strsF M).length = M.length by unfold strsF; rw [List.length_map]) ▸ ho⟩
            · obtain ⟨m, rfl⟩ : ∃ m, n = m + 1 := ⟨n - 1, by omega⟩
              have hcap := own_cap ho
              have hmc : m ≤ co := by omega
              obtain ⟨g9, rfl, _⟩ := hao (by intro e; have h : xs.length = M.length := hxk; rw [e] at h; have h : 0 = M.length := h; omega)
              have hlm : m < (strsF M).length := by unfold strsF; rw [List.length_map]; omega
              have hx : (strsF M)[m]? = some (strsF M)[m] := List.getElem?_eq_getElem hlm
              have hcl : wr.cell? ⟨g9, m, none⟩ = some (.string (strsF M)[m]) := by
                rw [ho.cellAt m (by omega), List.getElem?_map, hx]
                rfl
              have ht2 : stripN (strsF M) (m + 1) = if (strsF M)[m]? = some ⟨#[]⟩ then stripN (strsF M) m else m + 1 := rfl
              generalize (strsF M)[m] = y at hx hcl
              rw [hx] at ht2
              by_cases hy : y = ⟨#[]⟩
              · subst hy
                rw [if_pos rfl] at ht2
                go_wp2
                go_roundw
                case rel => exact ⟨m, rfl, by omega, by rw [← ht2]; exact ht, by first | rfl | trivial⟩
                case measure => simp [lenOf]
              · rw [if_neg (fun e => hy (Option.some.inj e))] at ht2
                have hyb : y.toList.isEmpty = false := by
                  rw [Lib.toList_data, Bool.eq_false_iff]
                  intro e
                  have e : y.data.toList = [] := List.isEmpty_iff.1 e
                  exact hy (ByteArray.ext (Array.ext' e))
                go_wp2
                go_ret2
                exact ⟨hS3, some ⟨g9, 0, none⟩, co, by rw [← ht, ht2]; rfl, by rw [List.length_map]; exact (show (strsF M).length = M.length by unfold strsF; rw [List.length_map]) ▸ ho⟩
end Go.Proofs.YtofendipdfepoaaDoor.Pr

/- paper.Print as a contract of ours. -/
set_option linter.unusedVariables false
set_option maxRecDepth 100000
noncomputable section
namespace Go.Proofs.YtofendipdfepoaaDoor.Pr
open Go Go.RowKit Go.Proofs.YtofendipdfepoaaDoor.Gp

def printF (b : List Int) : Option (List ByteArray × (Int × Unit)) :=
  if 20000 < b.length then some ([], 2, ()) else match runP b 0 0 [] with
    | .inr er => some ([], er, ())
    | .inl M => some ((strsF M).take (stripN (strsF M) M.length), 0, ())
def printS (f : Nat) : Sig := { f := f, params := [.sl (.int .u8)], objs := [], res := .tup (.pair (.sl .str) (.pair (.int .i64) .unit)), outs := [], fix := [], run := fun _ (b : List Int) _ => (printF b).map (fun r => (r, ())) }
theorem lvB {H : Hp} {L : Ls} : ∀ {l : List Int} {vs : List Value}, LvL (Lv H L (.int .u8)) l vs → vs = l.map (Value.int .u8)
  | [], vs, h => h
  | x :: r, vs, ⟨a, b, e, h1, h2⟩ => by
    have h1 : a = [Value.int .u8 x] := h1
    rw [e, h1, lvB h2]
    rfl
theorem lvS {H : Hp} {L : Ls} : ∀ (l : List ByteArray), LvL (Lv H L .str) l (l.map Value.string)
  | [] => rfl
  | x :: r => ⟨[Value.string x], r.map Value.string, rfl, rfl, lvS r⟩
theorem bytes_arg {H : Hp} {L : Ls} {w : World} {b : List Int} {x : Value} (hx : SR H L ⟨.sl (.int .u8), (b : (K.sl (.int .u8)).den)⟩ x) (hp : ∀ b o, H b = some o → w.heap[b]? = some o) :
    ∃ a c, x = .slice a b.length c ∧ (b ≠ [] → ∃ g o, a = some ⟨g, o, none⟩ ∧ g < w.heap.size ∧ ∀ i c, b[i]? = some c → w.cell? ⟨g, o + i, none⟩ = some (.int .u8 c)) := by
  obtain ⟨us, hus, rfl⟩ := hx
  obtain ⟨_, a, c, rfl, hc, hne⟩ := hus
  refine ⟨a, c, rfl, fun h => ?_⟩
  obtain ⟨g, o, cs, e, z, rfl, hg, hl⟩ := hne (fun h0 => h (List.eq_nil_of_length_eq_zero h0))
  have hgw := hp g _ hg
  have hl : (cs.toList.drop o).take (b.length * 1) = b.map (Value.int .u8) := lvB hl
  refine ⟨g, o, rfl, (Array.getElem?_eq_some_iff.1 hgw).1, fun i y hi => ?_⟩
  have hil : i < b.length := (List.getElem?_eq_some_iff.1 hi).1
  have : (b.map (Value.int .u8))[i]? = some (.int .u8 y) := by rw [List.getElem?_map, hi]; rfl
  rw [← hl, List.getElem?_take, if_pos (show i < b.length * 1 by omega), List.getElem?_drop, Array.getElem?_toList] at this
  unfold World.cell?
  simp only [hgw]
  exact this
theorem stripN_le (l : List ByteArray) : ∀ n, stripN l n ≤ n
  | 0 => Nat.le_refl _
  | n + 1 => by
    show (if l[n]? = some ⟨#[]⟩ then stripN l n else n + 1) ≤ n + 1
    split
    · exact Nat.le_succ_of_le (stripN_le l n)
    · exact Nat.le_refl _
set_option maxHeartbeats 4000000 in
theorem print_large (W : World) (a : Option Addr) (cp : Nat) (n : Nat) (hb : 20000 < n) :
    Calls Tryd.prog 4 #[.slice a n cp] W fun e w' => e = .returned (.tuple #[.slice none 0 0, .int .i64 2]) ∧ w' = W := by
  go_enter Tryd.func4, Tryd.ntmps4
  go_wp2
  go_ret2
  exact ⟨rfl, rfl⟩
theorem sr_pair {H : Hp} {L : Ls} {l : List ByteArray} {er : Int} {x : Value} (h : VR H L (.sl .str) l x) : SR H L ⟨.tup (.pair (.sl .str) (.pair (.int .i64) .unit)), (l, (er, ()))⟩ (.tuple #[x, .int .i64 er]) :=
  ⟨[x, .int .i64 er], rfl, x, [.int .i64 er], rfl, h, .int .i64 er, [], rfl, ⟨[.int .i64 er], rfl, rfl⟩, rfl⟩
theorem vr_nil {H : Hp} {L : Ls} : VR H L (.sl .str) ([] : List ByteArray) (.slice none 0 0) :=
  ⟨[.slice none 0 0], ⟨rfl, none, 0, rfl, Nat.le_refl _, fun h => absurd rfl h⟩, rfl⟩
theorem print_sound (k : Nat) : SoundAt Tryd.prog k (printS 4) := by
  refine froz_at rfl rfl rfl ⟨Tryd.f4, codeOf Tryd.f4, rfl, by kernel_rfl, rfl⟩ (fun (b : List Int) os q hq xs w H L hx hp hl => ?_)
  have hq : (printF b).map (fun r => (r, ())) = some q := hq
  obtain ⟨r, hr, rfl⟩ := Option.map_eq_some_iff.1 hq
  have hxs : ∃ x, xs = #[x] ∧ SR H L ⟨.sl (.int .u8), b⟩ x := by
    have hx : SRs H L [⟨.sl (.int .u8), b⟩] xs.toList := hx
    generalize hl' : xs.toList = l at hx
    cases hx with
    | cons h1 h2 =>
      cases h2
      exact ⟨_, by rw [← Array.toArray_toList (xs := xs), hl'], h1⟩
  obtain ⟨x, rfl, hxx⟩ := hxs
  obtain ⟨a, c, rfl, hcell⟩ := bytes_arg hxx hp.agree
  unfold printF at hr
  by_cases hlen : 20000 < b.length
  · rw [if_pos hlen] at hr
    cases hr
    refine (print_large w a c b.length hlen).mono ?_
    rintro e w' ⟨rfl, rfl⟩
    exact ⟨_, rfl, Below.refl _ _, fun _ => none, (fun b o h => by cases h), fun H' L' _ => sr_pair vr_nil⟩
  · rw [if_neg hlen] at hr
    refine (print_walk w a c b hcell (by omega)).mono ?_
    rintro e w' ⟨hS, hpost⟩
    have hB : Below w.heap.size w w' := ⟨hS.os, hS.tape, hS.output, hS.size, hS.block⟩
    cases hrun : runP b 0 0 [] with
    | inr er =>
      rw [hrun] at hpost hr
      cases hr
      have hpost : e = .returned (.tuple #[.slice none 0 0, .int .i64 er]) := hpost
      exact ⟨_, hpost, hB, fun _ => none, (fun b o h => by cases h), fun H' L' _ => sr_pair vr_nil⟩
    | inl M =>
      rw [hrun] at hpost hr
      cases hr
      obtain ⟨a', c', rfl, ho⟩ := hpost
      refine ⟨_, rfl, hB, ?_⟩
      have hsl : (strsF M).length = M.length := by unfold strsF; rw [List.length_map]
      have hle : stripN (strsF M) M.length ≤ M.length := stripN_le _ _
      have hol : ((strsF M).map Value.string).length = M.length := by rw [List.length_map, hsl]
      rw [hol] at ho
      have htl : ((strsF M).take (stripN (strsF M) M.length)).length = stripN (strsF M) M.length := by rw [List.length_take, hsl]; omega
      rcases ho.2 with ⟨he, h0⟩ | ⟨g, cap, cur, he, hbg, hgw, hnc, hcm, hcs, htake⟩
      · simp only [Value.slice.injEq] at he
        obtain ⟨rfl, _, rfl⟩ := he
        have hs0 : stripN (strsF M) M.length = 0 := by omega
        refine ⟨fun _ => none, (fun b o h => by cases h), fun H' L' _ => ?_⟩
        rw [hs0]
        exact sr_pair vr_nil
      · cases he
        refine ⟨fun b => if b = g then some (.cells cur 9 (0, 0)) else none, (fun b o h => ?_), fun H' L' hF => sr_pair ?_⟩
        · have h : (if b = g then some (Obj.cells cur 9 (0, 0)) else none) = some o := h
          by_cases hbg' : b = g
          · rw [if_pos hbg'] at h
            cases h
            rw [hbg']
            exact ⟨hbg, hgw⟩
          · rw [if_neg hbg'] at h
            cases h
        · refine ⟨[.slice (some ⟨g, 0, none⟩) (stripN (strsF M) M.length) c'], ⟨rfl, some ⟨g, 0, none⟩, c', ?_, ?_, fun _ => ⟨g, 0, cur, 9, (0, 0), rfl, hF g _ (if_pos rfl), ?_⟩⟩, rfl⟩
          · show [Value.slice (some ⟨g, 0, none⟩) (stripN (strsF M) M.length) c'] = [Value.slice (some ⟨g, 0, none⟩) ((strsF M).take (stripN (strsF M) M.length)).length c']
            rw [htl]
          · show ((strsF M).take (stripN (strsF M) M.length)).length ≤ c'
            omega
          · show LvL (Lv H' L' .str) ((strsF M).take (stripN (strsF M) M.length)) ((cur.toList.drop 0).take (((strsF M).take (stripN (strsF M) M.length)).length * 1))
            rw [htl, List.drop_zero, Nat.mul_one]
            have : cur.toList.take (stripN (strsF M) M.length) = ((strsF M).take (stripN (strsF M) M.length)).map Value.string := by
              rw [List.map_take, ← htake, Nat.mul_one, List.take_take]
              congr 1
              omega
            rw [this]
            exact lvS _
theorem cell_keep {w w' : World} {b : Nat} (i : Nat) (h : w'.heap[b]? = w.heap[b]?) : w'.cell? ⟨b, i, none⟩ = w.cell? ⟨b, i, none⟩ ∧ w'.frozen? ⟨b, i, none⟩ = w.frozen? ⟨b, i, none⟩ := by
  unfold World.cell? World.frozen?
  simp only [h]
  exact ⟨trivial, trivial⟩
theorem lt_of_cell {w : World} {b i : Nat} {v : Value} (h : w.cell? ⟨b, i, none⟩ = some v) : b < w.heap.size := by
  unfold World.cell? at h
  rcases Nat.lt_or_ge b w.heap.size with h' | h'
  · exact h'
  · simp [Array.getElem?_eq_none h'] at h
theorem keep_alloc (w : World) (o : Obj) {i : Nat} (h : i < w.heap.size) : (w.alloc o).heap[i]? = w.heap[i]? := by
  show (w.heap.push o)[i]? = _
  rw [Array.getElem?_push, if_neg (by omega)]
theorem four_cell (w : World) (cs : Array Value) (t : TypeId) (fr : Nat × Nat) (i : Nat) {v : Value} (h : cs[i]? = some v) : (w.alloc (.cells cs t fr)).cell? ⟨w.heap.size, i, none⟩ = some v := by
  have hg : (w.alloc (.cells cs t fr)).heap[w.heap.size]? = some (.cells cs t fr) := by
    show (w.heap.push _)[w.heap.size]? = _
    rw [Array.getElem?_push, if_pos rfl]
  unfold World.cell?
  simp only [hg]
  exact h
set_option maxHeartbeats 4000000 in
theorem equal_one (W : World) (g h cap cap2 : Nat) (c1 : W.cell? ⟨g, 0, none⟩ = some (.string ⟨#[95]⟩)) (c2 : W.cell? ⟨h, 0, none⟩ = some (.string ⟨#[95]⟩)) :
    Calls Tryd.prog 9 #[.slice (some ⟨g, 0, none⟩) 1 cap, .slice (some ⟨h, 0, none⟩) 1 cap2] W fun e w' => e = .returned (.bool true) ∧ Below W.heap.size W w' := by
  go_enter Tryd.func9, Tryd.ntmps9
  go_wp2
  refine wp_loop_rounds 2 ?_
  rw [rounds_succ]
  go_wp2
  go_quiet (fail)
  simp only [Exit.then]
  go_at_K
  go_wp2
  rw [rounds_succ]
  go_wp2
  go_ret
  exact ⟨rfl, ⟨rfl, rfl, rfl, Nat.le_refl _, fun _ _ => rfl⟩⟩
set_option maxHeartbeats 4000000 in
theorem printed_walk (W : World) : Calls Tryd.prog 6 #[] W fun e w' => e = .returned (.bool true) ∧ Below W.heap.size W w' := by
  go_enter Tryd.func6, Tryd.ntmps6
  have hcv0 := Lib.run_convert_bytes_const (P := Tryd.prog) W 23 5 #[.int .u8 97, .int .u8 13, .int .u8 95, .int .u8 10] 4 4 Tryd.underlying23 Tryd.underlying5
  obtain ⟨W1, hW1⟩ : ∃ W1, W1 = W.alloc (.cells #[.int .u8 97, .int .u8 13, .int .u8 95, .int .u8 10] 5 (4, 5)) := ⟨_, rfl⟩
  have hcells : [(97 : Int), 13, 95, 10] ≠ [] → ∃ g o, some (⟨W.heap.size, 0, none⟩ : Addr) = some ⟨g, o, none⟩ ∧ g < W1.heap.size ∧ ∀ i c, [(97 : Int), 13, 95, 10][i]? = some c → W1.cell? ⟨g, o + i, none⟩ = some (.int .u8 c) := by
    intro _
    refine ⟨W.heap.size, 0, rfl, ?_, fun i c h => ?_⟩
    · rw [hW1]
      show _ < (Array.push _ _).size
      rw [Array.size_push]; omega
    · rw [hW1, Nat.zero_add]
      refine four_cell W _ 5 (4, 5) i ?_
      match i, h with
      | 0, h => cases h; rfl
      | 1, h => cases h; rfl
      | 2, h => cases h; rfl
      | 3, h => cases h; rfl
  have hpw := print_walk W1 (some ⟨W.heap.size, 0, none⟩) 4 [97, 13, 95, 10] hcells (by decide)
  have hB0 : Below W.heap.size W W1 := hW1 ▸ (Below.refl _ W).alloc (Nat.le_refl _) _
  have hpw2 : Calls Tryd.prog 4 #[.slice (some ⟨W.heap.size, 0, none⟩) 4 4] W1 fun e w' => Below W.heap.size W w' ∧ ∃ g c, e = .returned (.tuple #[.slice (some ⟨g, 0, none⟩) 1 c, .int .i64 0]) ∧ w'.cell? ⟨g, 0, none⟩ = some (.string ⟨#[95]⟩) := by
    refine hpw.mono ?_
    rintro e w' ⟨hS, hpost⟩
    have hrun : runP [97, 13, 95, 10] 0 0 [] = .inl [[95]] := by decide
    rw [hrun] at hpost
    obtain ⟨a', c', rfl, ho⟩ := hpost
    have hB : Below W1.heap.size W1 w' := ⟨hS.os, hS.tape, hS.output, hS.size, hS.block⟩
    have hsF : (strsF [[95]]).map Value.string = [Value.string ⟨#[95]⟩] := rfl
    rw [hsF] at ho
    refine ⟨hB0.trans (hB.mono hB0.size), ?_⟩
    rcases ho.2 with ⟨he, h0⟩ | ⟨g, cap, cur, he, hbg, hgw, hnc, hcm, hcs, htake⟩
    · exact absurd h0 (by decide)
    · have ho' : w'.ownsRow W1.heap.size 9 1 (.slice a' 1 c') 1 [Value.string ⟨#[95]⟩] := ho
      have he : Value.slice a' 1 c' = Value.slice (some ⟨g, 0, none⟩) 1 cap := he
      cases he
      exact ⟨g, c', rfl, by rw [ho'.cellAt 0 (by decide)]; rfl⟩
  clear hpw hcells
  have hcv : (convert 23 23 (.slice (some ⟨W.heap.size, 0, none⟩) 4 4)).run Tryd.prog (W.alloc (.cells #[.int .u8 97, .int .u8 13, .int .u8 95, .int .u8 10] 5)) = .ok (.slice (some ⟨W.heap.size, 0, none⟩) 4 4) W1 := hW1 ▸ hcv0
  clear hW1 hcv0
  go_wp2_with (go_at_call 4; refine hpw2.mono ?_)
  rintro e w1 ⟨hB1, r, cap, rfl, q1⟩
  have hq := new_cell w1 (.string ⟨#[95]⟩) 9
  have q2 := q1
  rw [← (cell_keep 0 (keep_alloc w1 (.cells #[.string ⟨#[95]⟩] 9) (lt_of_cell q1))).1] at q2
  go_wp2_with (go_at_call 9; refine (equal_one _ r w1.heap.size cap 1 q2 hq).mono ?_)
  rintro e w2 ⟨rfl, hB2⟩
  go_wp2
  go_ret
  have hB3 : Below W.heap.size W (w1.alloc (.cells #[.string ⟨#[95]⟩] 9)) := hB1.alloc hB1.size _
  exact ⟨rfl, hB3.trans (hB2.mono hB3.size)⟩
def printedS (f : Nat) : Sig := { f := f, params := [], objs := [], res := .bool, outs := [], fix := [], run := fun _ (_ : Unit) _ => some (true, ()) }
theorem printed_sound (k : Nat) : SoundAt Tryd.prog k (printedS 6) := by
  refine pure_at rfl rfl rfl ⟨Tryd.f6, codeOf Tryd.f6, rfl, by kernel_rfl, rfl⟩ (fun (ds : Unit) os q hq xs w H L hx hp hl => ?_)
  have hq : some (true, ()) = some q := hq
  cases hq
  have hx' : xs = #[] := by
    have hx2 : SRs H L ([] : List Val) xs.toList := hx
    generalize hl' : xs.toList = l at hx2
    cases hx2
    rw [← Array.toArray_toList (xs := xs), hl']
  subst hx'
  refine (printed_walk w).mono ?_
  rintro e w' ⟨rfl, hB⟩
  exact ⟨_, rfl, fun H' L' => (SR_iff (k := .bool) (d := true) rfl rfl).2 ⟨_, rfl, rfl⟩, hB⟩
end Go.Proofs.YtofendipdfepoaaDoor.Pr

/-
  DERIVED: THE SHELF's CONTRACTS AT THIS DUMP, IN PLAIN WORDS (tools/lay-plain.mjs out of 'YtofendipdfepoaaDoorShelf.lean', which tools/lay-shelf.mjs wrote): THE SAME DECLARATIONS UNDER THE SAME NAMES: 'import', 'namespace', 'open', 'def', 'theorem' AND NOTHING ELSE: no command of the shelf's: FOR A HAND-IN. Each laying: the table of numbers ('.._ren') and one theorem, a field a fact of the dump's own or the kernel's comparison; each contract: ONE APPLICATION.
-/
namespace Go.Proofs
open Go.Shelf
def Tryd.lays162_ren : Go.Shelf.Ren := ⟨fun | 162 => 13 | 232 => 14 | 227 => 15 | 234 => 16 | 236 => 17 | 228 => 18 | 271 => 19 | 151 => 20 | 120 => 21 | 197 => 22 | 152 => 23 | 260 => 24 | 137 => 25 | 119 => 26 | 224 => 27 | 225 => 28 | 217 => 29 | 266 => 30 | n => n, fun | 9 => 9 | 4 => 4 | 3 => 3 | 5 => 5 | 117 => 48 | 116 => 47 | 0 => 0 | 124 => 51 | 21 => 21 | 105 => 53 | 46 => 60 | 119 => 62 | 139 => 65 | 138 => 64 | n => n, fun | 3 => 0 | 4 => 1 | n => n⟩
theorem Tryd.lays162 : Go.Proofs.Lays.n162 Tryd.prog Tryd.lays162_ren := {
  mixed := by kernel_rfl
  f119 := Tryd.func26.trans (congrArg some (by kernel_rfl))
  f120 := Tryd.func21.trans (congrArg some (by kernel_rfl))
  f137 := Tryd.func25.trans (congrArg some (by kernel_rfl))
  f151 := Tryd.func20.trans (congrArg some (by kernel_rfl))
  f152 := Tryd.func23.trans (congrArg some (by kernel_rfl))
  f162 := Tryd.func13.trans (congrArg some (by kernel_rfl))
  f197 := Tryd.func22.trans (congrArg some (by kernel_rfl))
  f217 := Tryd.func29.trans (congrArg some (by kernel_rfl))
  f224 := Tryd.func27.trans (congrArg some (by kernel_rfl))
  f225 := Tryd.func28.trans (congrArg some (by kernel_rfl))
  f227 := Tryd.func15.trans (congrArg some (by kernel_rfl))
  f228 := Tryd.func18.trans (congrArg some (by kernel_rfl))
  f232 := Tryd.func14.trans (congrArg some (by kernel_rfl))
  f234 := Tryd.func16.trans (congrArg some (by kernel_rfl))
  f236 := Tryd.func17.trans (congrArg some (by kernel_rfl))
  f260 := Tryd.func24.trans (congrArg some (by kernel_rfl))
  f266 := Tryd.func30.trans (congrArg some (by kernel_rfl))
  f271 := Tryd.func19.trans (congrArg some (by kernel_rfl))
  t0 := Tryd.underlying0
  a0 := Tryd.isAgg0
  z0 := Tryd.sizeOf0
  v0 := Tryd.zeroValue0
  t3 := Tryd.underlying3
  a3 := Tryd.isAgg3
  z3 := Tryd.sizeOf3
  v3 := Tryd.zeroValue3
  t4 := Tryd.underlying4
  a4 := Tryd.isAgg4
  z4 := Tryd.sizeOf4
  v4 := Tryd.zeroValue4
  t5 := Tryd.underlying5
  a5 := Tryd.isAgg5
  z5 := Tryd.sizeOf5
  v5 := Tryd.zeroValue5
  t9 := Tryd.underlying9
  a9 := Tryd.isAgg9
  z9 := Tryd.sizeOf9
  v9 := Tryd.zeroValue9
  t21 := Tryd.underlying21
  a21 := Tryd.isAgg21
  z21 := Tryd.sizeOf21
  v21 := Tryd.zeroValue21
  t46 := Tryd.underlying60
  a46 := Tryd.isAgg60
  z46 := Tryd.sizeOf60
  v46 := Tryd.zeroValue60
  t105 := Tryd.underlying53
  a105 := Tryd.isAgg53
  z105 := Tryd.sizeOf53
  v105 := Tryd.zeroValue53
  t116 := Tryd.underlying47
  a116 := Tryd.isAgg47
  z116 := Tryd.sizeOf47
  t117 := Tryd.underlying48
  a117 := Tryd.isAgg48
  z117 := Tryd.sizeOf48
  v117 := Tryd.zeroValue48
  t119 := Tryd.underlying62
  a119 := Tryd.isAgg62
  z119 := Tryd.sizeOf62
  t124 := Tryd.underlying51
  a124 := Tryd.isAgg51
  z124 := Tryd.sizeOf51
  v124 := Tryd.zeroValue51
  t138 := Tryd.underlying64
  a138 := Tryd.isAgg64
  z138 := Tryd.sizeOf64
  v138 := Tryd.zeroValue64
  t139 := Tryd.underlying65
  a139 := Tryd.isAgg65
  z139 := Tryd.sizeOf65
  v139 := Tryd.zeroValue65
  g3 := by kernel_rfl
  g4 := by kernel_rfl }
end Go.Proofs

/- Given contracts. -/
set_option linter.unusedVariables false
set_option maxRecDepth 100000
noncomputable section
namespace Go.Proofs.YtofendipdfepoaaDoor.Pr
open Go Go.Proofs.YtofendipdfepoaaDoor.Gp
def Print4 (k : Nat) (b : List Int) : Option ((List ByteArray × (Int × Unit)) × Unit) := (printF b).map (fun r => (r, ()))
def Print4.S : Sig := printS 4
theorem Print4.ok (k : Nat) : SoundAt Tryd.prog k Print4.S := print_sound k

def TrimRight13 (k : Nat) (s c : ByteArray) : Option (ByteArray × Unit) := (trF (s, c)).map (fun r => (r, ()))
def TrimRight13.S : Sig := trS 13
theorem TrimRight13.ok (k : Nat) : SoundAt Tryd.prog k TrimRight13.S := tr_sound Tryd.lays162 rfl ⟨Tryd.f13, codeOf Tryd.f13, rfl, by kernel_rfl, rfl⟩ k

def printed6 (k : Nat) : Option (Bool × Unit) := some (true, ())
def printed6.S : Sig := printedS 6
theorem printed6.ok (k : Nat) : SoundAt Tryd.prog k printed6.S := printed_sound k
end Go.Proofs.YtofendipdfepoaaDoor.Pr

/- Go functions as plain Lean functions, and their contracts. -/
set_option linter.unusedVariables false
set_option maxRecDepth 100000
noncomputable section
namespace Go.Proofs.YtofendipdfepoaaDoor.Pr
open Go Go.Proofs.YtofendipdfepoaaDoor.Gp
def Printed5.l0 (k : Nat) : tY9 → Option tY3
  | (_, _, o0_1, o1_1) =>
    cond ((Int.tmod o1_1.1 20) != 0)
      (some (Sum.inl ((), (), o0_1, (w64 (o1_1.1 + 1)), o1_1.2)))
      (some (Sum.inr ((), (), o0_1, o1_1)))
def Printed5.l1 (k : Nat) : tY9 → Option tY3
  | (_, _, o0_3, o1_3) =>
    cond ((Int.tmod o1_3.2 8) != 0)
      (some (Sum.inl ((), (), o0_3, o1_3.1, (w64 (o1_3.2 + 1)))))
      (some (Sum.inr ((), (), o0_3, o1_3)))
def Printed5.l2 (k : Nat) (b : tY21) : (Unit × (Unit × (Int × (Int × ((List ((Int × Int) × Int)) × (Int × Int)))))) → Option tY2
  | (_, _, last, t22, o0, o1) =>
    cond (decide (t22 < (List.length b : Int)))
      ((rd b t22).bind fun t24 =>
      Option.bind
        (cond (t24 == 13)
          (some (Sum.inl ((), (), last, o0, o1.1, 0)))
          (Option.bind
            (cond (t24 == 10)
              (some (Sum.inl ((), (), last, o0, (w64 (o1.1 + 1)), o1.2)))
              (Option.bind
                (cond (t24 == 12)
                  (Option.bind
                    (loopN (Printed5.l0 k) k ((), (), o0, (w64 (o1.1 + 1)), o1.2) : Option tY9) fun ((_, _, o0_2, o1_2) : tY9) =>
                  some (Sum.inl ((), (), last, o0_2, o1_2)))
                  (Option.bind
                    (cond (t24 == 9)
                      (Option.bind
                        (loopN (Printed5.l1 k) k ((), (), o0, o1.1, (mnI 40 (w64 (o1.2 + 1)))) : Option tY9) fun ((_, _, o0_4, o1_4) : tY9) =>
                      some (Sum.inl ((), (), last, o0_4, o1_4)))
                      (Option.bind
                        (cond (t24 == 8)
                          (Option.bind
                            (cond (decide (o1.2 > 0))
                              (some ((), (), o0, o1.1, (w64 (o1.2 - 1))))
                              (some ((), (), o0, o1)) : Option tY9) fun ((_, _, o0_5, o1_5) : tY9) =>
                          some (Sum.inl ((), (), last, o0_5, o1_5)))
                          (cond (cond (decide (t24 < 32)) true (decide (t24 > 126)))
                            (some (Sum.inr (Sum.inr (Sum.inr (Sum.inr (Sum.inr (Sum.inr (Sum.inr (([], 3, ()), ())))))))))
                            (Option.bind
                              (cond (o1.2 == 40)
                                (some ((), (), o0, (w64 (o1.1 + 1)), 0))
                                (some ((), (), o0, o1)) : Option tY9) fun ((_, _, o0_6, o1_6) : tY9) =>
                            Option.bind
                              (cond (t24 != 32)
                                (some ((), (), (mxI last o1_6.1), (mput kY2 kY3 o0_6 o1_6 t24), o1_6))
                                (some ((), (), last, o0_6, o1_6)) : Option tY8) fun ((_, _, last_1, o0_7, o1_7) : tY8) =>
                            some (Sum.inl ((), (), last_1, o0_7, o1_7.1, (w64 (o1_7.2 + 1)))))) : Option (tY8 ⊕ tY0)) (joined fun ((_, _, last_2, o0_8, o1_8) : tY8) =>
                        some (Sum.inl ((), (), last_2, o0_8, o1_8)))) : Option tY0) (joined fun ((_, _, last_3, o0_9, o1_9) : tY8) =>
                    some (Sum.inl ((), (), last_3, o0_9, o1_9)))) : Option (tY8 ⊕ tY1)) (joined fun ((_, _, last_4, o0_10, o1_10) : tY8) =>
                some (Sum.inl ((), (), last_4, o0_10, o1_10)))) : Option tY1) (joined fun ((_, _, last_5, o0_11, o1_11) : tY8) =>
            some (Sum.inl ((), (), last_5, o0_11, o1_11)))) : Option (tY8 ⊕ tY2)) (joined fun ((_, _, last_6, o0_12, o1_12) : tY8) =>
        cond (decide (o1_12.1 ≥ 400))
          (some (Sum.inr (Sum.inr (([], 6, ()), ()))))
          (some (Sum.inl ((), (), last_6, (w64 (t22 + 1)), o0_12, o1_12)))))
      (some (Sum.inr (Sum.inl ((), last, o0))))
def Printed5.l3 (k : Nat) (line : Int) : tY5 → Option (tY5 ⊕ tY6)
  | (_, _, s, t109, o0_15, o2_1) =>
    cond (decide (t109 < 40))
      (let t117 : (Option Int) := (mget kY2 kY3 o0_15 (line, t109))
      Option.bind
        (cond (!(Option.isSome t117))
          (some ((), (), 32, o0_15, o2_1))
          (some ((), (), (Option.getD (α := Int) t117 (0 : Int)), o0_15, o2_1)) : Option tY7) fun ((_, _, c, o0_16, o2_2) : tY7) =>
      (catS s (strOf ([c] : List Int))).bind fun t126 =>
      some (Sum.inl ((), (), t126, (w64 (t109 + 1)), o0_16, o2_2)))
      (some (Sum.inr ((), (), s, o0_15, o2_1)))
def Printed5.l4 (k : Nat) (last_7 : Int) : tY7 → Option (tY7 ⊕ tY17)
  | (_, _, line, o0_14, o2) =>
    cond (decide (line ≤ last_7))
      (Option.bind
        (loopN (Printed5.l3 k line) k ((), (), (ByteArray.mk #[]), 0, o0_14, o2) : Option tY6) fun ((_, _, s_1, o0_17, o2_3) : tY6) =>
      (TrimRight13 k s_1 (ByteArray.mk #[32])).bind fun t130 =>
      (if room (List.length o2_3 + List.length [t130.1]) 16 then some () else none).bind fun _ =>
      some (Sum.inl ((), (), (w64 (line + 1)), o0_17, (o2_3 ++ [t130.1]))))
      (some (Sum.inr ((), o2)))
def Printed5 (k : Nat) (b : tY21) : Option tY13 :=
  cond (decide ((List.length b : Int) > 20000))
    (some (([], 2, ()), ()))
    (Option.bind
      (loopN (Printed5.l2 k b) k ((), (), (-1), 0, ([] : (List ((Int × Int) × Int))), 0, 0) : Option (tY12 ⊕ tY13)) (joined fun ((_, last_7, o0_13) : tY12) =>
      Option.bind
        (loopN (Printed5.l4 k last_7) k ((), (), 0, o0_13, []) : Option tY17) fun ((_, o2_4) : tY17) =>
      some ((o2_4, 0, ()), ())))
def Printed5.A : Ann := { conds := [(2293773, ⟨[(4, .mm 0), (5, .ptr 1 [])], [(0, .map kY2 kY3), (1, .var kY2)], 2, [], 1030792151040⟩), (2686991, ⟨[(4, .mm 0), (5, .ptr 1 []), (6, .int .i64)], [(0, .map kY2 kY3), (1, .var kY2)], 2, [], 558551906910272⟩), (3473427, ⟨[(4, .mm 0), (5, .ptr 1 []), (6, .int .i64)], [(0, .map kY2 kY3), (1, .var kY2)], 2, [], 1267650600228202379898804764748⟩), (3670037, ⟨[(4, .mm 0), (5, .ptr 1 []), (6, .int .i64)], [(0, .map kY2 kY3), (1, .var kY2)], 2, [], 1267650600227950178319672016972⟩), (4063255, ⟨[(4, .mm 0), (5, .ptr 1 []), (6, .int .i64)], [(0, .map kY2 kY3), (1, .var kY2)], 2, [], 1267650600209791664622114177100⟩), (4980763, ⟨[(4, .mm 0), (5, .ptr 1 []), (6, .int .i64)], [(0, .map kY2 kY3), (1, .var kY2)], 2, [], 1267650297996783505038530052172⟩), (5963807, ⟨[(4, .mm 0), (5, .ptr 1 []), (6, .int .i64)], [(0, .map kY2 kY3), (1, .var kY2)], 2, [], 1257747079913955366496630734924⟩), (6225952, ⟨[(4, .mm 0), (5, .ptr 1 [])], [(0, .map kY2 kY3), (1, .var kY2)], 2, [], 1188422437713965063903159255040⟩), (7929902, ⟨[(4, .mm 0), (9, .ms 2), (13, .int .u8)], [(0, .map kY2 kY3), (2, .row .str)], 3, [], 8192⟩)], blocks := [(0, ⟨[(4, .mm 0), (6, .int .i64)], [(0, .map kY2 kY3)], 1, [], 20282409603651670423947247092044⟩), (3, ⟨[(4, .mm 0), (5, .ptr 1 [])], [(0, .map kY2 kY3), (1, .var kY2)], 2, [], 75262715820734970593280⟩), (5, ⟨[(4, .mm 0), (5, .ptr 1 [])], [(0, .map kY2 kY3), (1, .var kY2)], 2, [], 2466208672013843516400599040⟩), (7, ⟨[(9, .ms 2)], [(2, .row .str)], 3, [], 10889035721187621227176317013869331512832⟩), (9, ⟨[(4, .mm 0), (9, .ms 2), (11, .str)], [(0, .map kY2 kY3), (2, .row .str)], 3, [], 340281717883831146609921041119727089664⟩)], loops := [(7, ⟨[(4, .mm 0), (5, .ptr 1 []), (6, .int .i64), (22, .int .i64)], [(0, .map kY2 kY3), (1, .var kY2)], 2, [], 20282409603651670423947247092044⟩), (24, ⟨[(4, .mm 0), (5, .ptr 1 [])], [(0, .map kY2 kY3), (1, .var kY2)], 2, [], 75262715820734970593280⟩), (28, ⟨[(4, .mm 0), (5, .ptr 1 [])], [(0, .map kY2 kY3), (1, .var kY2)], 2, [], 2466208672013843516400599040⟩), (38, ⟨[(4, .mm 0), (9, .ms 2), (10, .int .i64)], [(0, .map kY2 kY3), (2, .row .str)], 3, [(2, .str)], 10889035721187621227176317013869331512832⟩), (42, ⟨[(4, .mm 0), (9, .ms 2), (11, .str), (109, .int .i64)], [(0, .map kY2 kY3), (2, .row .str)], 3, [], 340281717883831146609921041119727089664⟩)], keeps := [], orders := [] }
def Printed5.S : Sig := { f := 5, params := [.sl kY3], objs := [], res := .tup (.pair (.sl .str) (.pair (.int .i64) .unit)), outs := [], fix := [], run := fun k ds os => Printed5 k ds }
def Printed5.G : List Sig := [TrimRight13.S]
theorem Printed5.eq (k : Nat) : ∀ ds os, Printed5.S.run k ds os = runF ⟨types, Printed5.G, Printed5.A, k, 0, []⟩ Tryd.f5 (codeOf Tryd.f5) Printed5.S.params Printed5.S.objs Printed5.S.res Printed5.S.outs ds os := by
  intro ds os; kernel_rfl
theorem Printed5.dr : DrOk Tryd.prog Printed5.A (codeOf Tryd.f5) := ⟨by kernel_rfl, by kernel_rfl⟩
theorem Printed5.ok (k : Nat) : SoundAt Tryd.prog k Printed5.S :=
  runF_sound (X := ⟨types, Printed5.G, Printed5.A, k, 0, []⟩) types_ok (mem_all (⟨TrimRight13.ok k, trivial⟩)) (fn := Tryd.f5) (c := codeOf Tryd.f5) rfl (by kernel_rfl) rfl rfl Printed5.dr (Printed5.eq k)
end Go.Proofs.YtofendipdfepoaaDoor.Pr

/- Go functions as plain Lean functions, and their contracts. -/
set_option linter.unusedVariables false
set_option maxRecDepth 100000
noncomputable section
namespace Go.Proofs.YtofendipdfepoaaDoor.Pr
open Go Go.Proofs.YtofendipdfepoaaDoor.Gp
def Bytes8.l0 (k : Nat) (outs : tY14) (chip : ByteArray) : tY15 → Option tY11
  | (_, t10, o2) =>
    cond (decide (t10 < (List.length outs : Int)))
      ((rd outs t10).bind fun t12 =>
      Option.bind
        (cond (streq t12.2.1 chip)
          (let t21 : Int := (IntKind.wrap .u8 t12.2.2)
          (if room (List.length o2 + List.length ([t21] : List Int)) 1 then some () else none).bind fun _ =>
          some ((), (o2 ++ ([t21] : List Int))))
          (some ((), o2)) : Option tY19) fun ((_, o2_1) : tY19) =>
      some (Sum.inl ((), (w64 (t10 + 1)), o2_1)))
      (some (Sum.inr ((), o2)))
def Bytes8 (k : Nat) (outs : tY14) (chip : ByteArray) : Option (tY21 × Unit) :=
  Option.bind
    (loopN (Bytes8.l0 k outs chip) k ((), 0, []) : Option tY19) fun ((_, o2_2) : tY19) =>
  some (o2_2, ())
def Bytes8.A : Ann := { conds := [(1114118, ⟨[(5, .ms 2)], [(2, .row kY3)], 3, [], 16515104⟩)], blocks := [(0, ⟨[(5, .ms 2)], [(2, .row kY3)], 3, [], 33553568⟩)], loops := [(3, ⟨[(5, .ms 2), (10, .int .i64)], [(2, .row kY3)], 3, [(2, .int .u8)], 33553568⟩)], keeps := [7], orders := [] }
def Bytes8.S : Sig := { f := 8, params := [.sl kY0, .str], objs := [], res := .sl kY3, outs := [], fix := [], run := fun k ds os => Bytes8 k ds.1 ds.2 }
def Bytes8.G : List Sig := []
theorem Bytes8.eq (k : Nat) : ∀ ds os, Bytes8.S.run k ds os = runF ⟨types, Bytes8.G, Bytes8.A, k, 0, []⟩ Tryd.f8 (codeOf Tryd.f8) Bytes8.S.params Bytes8.S.objs Bytes8.S.res Bytes8.S.outs ds os := by
  intro ds os; kernel_rfl
theorem Bytes8.dr : DrOk Tryd.prog Bytes8.A (codeOf Tryd.f8) := ⟨by kernel_rfl, by kernel_rfl⟩
theorem Bytes8.ok (k : Nat) : SoundAt Tryd.prog k Bytes8.S :=
  runF_sound (X := ⟨types, Bytes8.G, Bytes8.A, k, 0, []⟩) types_ok (fun s hs => absurd hs List.not_mem_nil) (fn := Tryd.f8) (c := codeOf Tryd.f8) rfl (by kernel_rfl) rfl rfl Bytes8.dr (Bytes8.eq k)

def Equal7.l0 (k : Nat) (s1 : tY21) (s2 : tY21) : Int → Option (Int ⊕ tY18)
  | t13 =>
    cond (decide (t13 < (List.length s1 : Int)))
      ((rd s1 t13).bind fun t18 =>
      (rd s2 t13).bind fun t22 =>
      cond (t18 != t22)
        (some (Sum.inr (Sum.inr (false, ()))))
        (some (Sum.inl (w64 (t13 + 1)))))
      (some (Sum.inr (Sum.inl ())))
def Equal7 (k : Nat) (s1 : tY21) (s2 : tY21) : Option (Bool × Unit) :=
  cond ((List.length s1 : Int) != (List.length s2 : Int))
    (some (false, ()))
    (Option.bind
      (loopN (Equal7.l0 k s1 s2) k 0 : Option tY18) (joined fun (_ : Unit) =>
      some (true, ())))
def Equal7.A : Ann := { conds := [], blocks := [(0, ⟨[], [], 0, [], 67100720⟩)], loops := [(4, ⟨[(13, .int .i64)], [], 0, [], 67100720⟩)], keeps := [], orders := [(6, [(0, .strong), (1, .strong), (2, .strong), (3, .strong), (4, .strong), (5, .strong), (6, .strong), (7, .strong), (8, .strong)])] }
def Equal7.S : Sig := { f := 7, params := [.sl kY3, .sl kY3], objs := [], res := .bool, outs := [], fix := [], run := fun k ds os => Equal7 k ds.1 ds.2 }
def Equal7.G : List Sig := []
theorem Equal7.eq (k : Nat) : ∀ ds os, Equal7.S.run k ds os = runF ⟨types, Equal7.G, Equal7.A, k, 0, []⟩ Tryd.f7 (codeOf Tryd.f7) Equal7.S.params Equal7.S.objs Equal7.S.res Equal7.S.outs ds os := by
  intro ds os; kernel_rfl
theorem Equal7.dr : DrOk Tryd.prog Equal7.A (codeOf Tryd.f7) := ⟨by kernel_rfl, by kernel_rfl⟩
theorem Equal7.ok (k : Nat) : SoundAt Tryd.prog k Equal7.S :=
  runF_sound (X := ⟨types, Equal7.G, Equal7.A, k, 0, []⟩) types_ok (fun s hs => absurd hs List.not_mem_nil) (fn := Tryd.f7) (c := codeOf Tryd.f7) rfl (by kernel_rfl) rfl rfl Equal7.dr (Equal7.eq k)

def Equal9.l0 (k : Nat) (s1 : tY20) (s2 : tY20) : Int → Option (Int ⊕ tY18)
  | t13 =>
    cond (decide (t13 < (List.length s1 : Int)))
      ((rd s1 t13).bind fun t18 =>
      (rd s2 t13).bind fun t22 =>
      cond (!(streq t18 t22))
        (some (Sum.inr (Sum.inr (false, ()))))
        (some (Sum.inl (w64 (t13 + 1)))))
      (some (Sum.inr (Sum.inl ())))
def Equal9 (k : Nat) (s1 : tY20) (s2 : tY20) : Option (Bool × Unit) :=
  cond ((List.length s1 : Int) != (List.length s2 : Int))
    (some (false, ()))
    (Option.bind
      (loopN (Equal9.l0 k s1 s2) k 0 : Option tY18) (joined fun (_ : Unit) =>
      some (true, ())))
def Equal9.A : Ann := { conds := [], blocks := [(0, ⟨[], [], 0, [], 67100720⟩)], loops := [(4, ⟨[(13, .int .i64)], [], 0, [], 67100720⟩)], keeps := [], orders := [(6, [(0, .strong), (1, .strong), (2, .strong), (3, .strong), (4, .strong), (5, .strong), (6, .strong), (7, .strong), (8, .strong)])] }
def Equal9.S : Sig := { f := 9, params := [.sl .str, .sl .str], objs := [], res := .bool, outs := [], fix := [], run := fun k ds os => Equal9 k ds.1 ds.2 }
def Equal9.G : List Sig := []
theorem Equal9.eq (k : Nat) : ∀ ds os, Equal9.S.run k ds os = runF ⟨types, Equal9.G, Equal9.A, k, 0, []⟩ Tryd.f9 (codeOf Tryd.f9) Equal9.S.params Equal9.S.objs Equal9.S.res Equal9.S.outs ds os := by
  intro ds os; kernel_rfl
theorem Equal9.dr : DrOk Tryd.prog Equal9.A (codeOf Tryd.f9) := ⟨by kernel_rfl, by kernel_rfl⟩
theorem Equal9.ok (k : Nat) : SoundAt Tryd.prog k Equal9.S :=
  runF_sound (X := ⟨types, Equal9.G, Equal9.A, k, 0, []⟩) types_ok (fun s hs => absurd hs List.not_mem_nil) (fn := Tryd.f9) (c := codeOf Tryd.f9) rfl (by kernel_rfl) rfl rfl Equal9.dr (Equal9.eq k)

def Type10.l0 (k : Nat) (t15 : ByteArray) : tY15 → Option (tY15 ⊕ tY4)
  | (_, t22, o0_1) =>
    cond (decide (t22 < (ByteArray.size t15 : Int)))
      ((rd (bytesOf t15) t22).bind fun t27 =>
      Option.bind (cond (decide (t27 < 32))
        (some true)
        ((rd (bytesOf t15) t22).bind fun t32 =>
        some (decide (t32 > 126)))) fun t34 =>
      cond t34
        (some (Sum.inr (Sum.inr (Sum.inr (Sum.inr (([], 3, ()), ()))))))
        (some (Sum.inl ((), (w64 (t22 + 1)), o0_1))))
      (some (Sum.inr (Sum.inl ((), o0_1))))
def Type10.l1 (k : Nat) (l : tY20) : tY15 → Option (tY15 ⊕ tY10)
  | (_, t13, o0) =>
    cond (decide (t13 < (List.length l : Int)))
      ((rd l t13).bind fun t15 =>
      cond (decide ((ByteArray.size t15 : Int) > 40))
        (some (Sum.inr (Sum.inr (([], 2, ()), ()))))
        (Option.bind
          (loopN (Type10.l0 k t15) k ((), 0, o0) : Option tY4) (joined fun ((_, o0_2) : tY19) =>
          (if room (List.length o0_2 + List.length (bytesOf t15)) 1 then some () else none).bind fun _ =>
          let t38 : tY21 := (o0_2 ++ (bytesOf t15))
          (if room (List.length t38 + List.length ([13, 10] : List Int)) 1 then some () else none).bind fun _ =>
          some (Sum.inl ((), (w64 (t13 + 1)), (t38 ++ ([13, 10] : List Int)))))))
      (some (Sum.inr (Sum.inl ((), o0))))
def Type10 (k : Nat) (l : tY20) : Option ((tY21 × (Int × Unit)) × Unit) :=
  cond (decide ((List.length l : Int) > 400))
    (some (([], 2, ()), ()))
    (Option.bind
      (loopN (Type10.l1 k l) k ((), 0, []) : Option tY10) (joined fun ((_, o0_3) : tY19) =>
      some ((o0_3, 0, ()), ())))
def Type10.A : Ann := { conds := [], blocks := [(0, ⟨[(4, .ms 0)], [(0, .row kY3)], 1, [], 4398046503132⟩), (2, ⟨[(4, .ms 0)], [(0, .row kY3)], 1, [], 68715282572⟩)], loops := [(5, ⟨[(4, .ms 0), (13, .int .i64)], [(0, .row kY3)], 1, [(0, .int .u8)], 4398046503132⟩), (10, ⟨[(4, .ms 0), (22, .int .i64)], [(0, .row kY3)], 1, [], 68715282572⟩)], keeps := [], orders := [] }
def Type10.S : Sig := { f := 10, params := [.sl .str], objs := [], res := .tup (.pair (.sl kY3) (.pair (.int .i64) .unit)), outs := [], fix := [], run := fun k ds os => Type10 k ds }
def Type10.G : List Sig := []
theorem Type10.eq (k : Nat) : ∀ ds os, Type10.S.run k ds os = runF ⟨types, Type10.G, Type10.A, k, 0, []⟩ Tryd.f10 (codeOf Tryd.f10) Type10.S.params Type10.S.objs Type10.S.res Type10.S.outs ds os := by
  intro ds os; kernel_rfl
theorem Type10.dr : DrOk Tryd.prog Type10.A (codeOf Tryd.f10) := ⟨by kernel_rfl, by kernel_rfl⟩
theorem Type10.ok (k : Nat) : SoundAt Tryd.prog k Type10.S :=
  runF_sound (X := ⟨types, Type10.G, Type10.A, k, 0, []⟩) types_ok (fun s hs => absurd hs List.not_mem_nil) (fn := Tryd.f10) (c := codeOf Tryd.f10) rfl (by kernel_rfl) rfl rfl Type10.dr (Type10.eq k)

def PaperPrints3.l0 (k : Nat) (outs : tY14) (chip : ByteArray) : tY15 → Option tY11
  | (_, t24, o2) =>
    cond (decide (t24 < (List.length outs : Int)))
      ((rd outs t24).bind fun t26 =>
      Option.bind
        (cond (streq t26.2.1 chip)
          (let t38 : Int := (IntKind.wrap .u8 (Int.tmod (w64 ((Int.tmod t26.2.2 256) + 256)) 256))
          (if room (List.length o2 + List.length ([t38] : List Int)) 1 then some () else none).bind fun _ =>
          some ((), (o2 ++ ([t38] : List Int))))
          (some ((), o2)) : Option tY19) fun ((_, o2_1) : tY19) =>
      some (Sum.inl ((), (w64 (t24 + 1)), o2_1)))
      (some (Sum.inr ((), o2)))
def PaperPrints3.l1 (k : Nat) (t80 : ByteArray) : (Int × tY15) → Option ((Int × tY15) ⊕ Int)
  | (f_3, _, t90, o0) =>
    cond (decide (t90 < (List.length (bytesOf t80) : Int)))
      ((rd o0 t90).bind fun _ =>
      (rd o0 t90).bind fun t93 =>
      Option.bind
        (cond (cond (f_3 == 0) (cond (decide (t93 < 32)) true (decide (t93 > 126))) false)
          (some (3, (), o0))
          (some (f_3, (), o0)) : Option (Int × tY19)) fun ((f_4, _, o0_1) : (Int × tY19)) =>
      some (Sum.inl (f_4, (), (w64 (t90 + 1)), o0_1)))
      (some (Sum.inr f_3))
def PaperPrints3.l2 (k : Nat) (l : tY20) : tY16 → Option (tY16 ⊕ (Int × ByteArray))
  | (f_1, text, t78) =>
    cond (decide (t78 < (List.length l : Int)))
      ((rd l t78).bind fun t80 =>
      cond (f_1 != 0)
        (some (Sum.inr (f_1, text)))
        (Option.bind
          (cond (decide ((ByteArray.size t80 : Int) > 40))
            (some 2)
            (some f_1) : Option Int) fun (f_2 : Int) =>
        Option.bind
          (loopN (PaperPrints3.l1 k t80) k (f_2, (), 0, (bytesOf t80)) : Option Int) fun (f_5 : Int) =>
        (catS t80 (ByteArray.mk #[13, 10])).bind fun t107 =>
        (catS text t107).bind fun t108 =>
        some (Sum.inl (f_5, t108, (w64 (t78 + 1))))))
      (some (Sum.inr (f_1, text)))
def PaperPrints3 (k : Nat) (outs : tY14) (chip : ByteArray) (b : tY21) (l : tY20) : Option (Bool × Unit) :=
  Option.bind
    (loopN (PaperPrints3.l0 k outs chip) k ((), 0, []) : Option tY19) fun ((_, o2_2) : tY19) =>
  (Print4 k b).bind fun t44 =>
  (Printed5 k b).bind fun t49 =>
  (printed6 k).bind fun t52 =>
  Option.bind (cond (!t52.1)
    (some true)
    ((Bytes8 k outs chip).bind fun t57 =>
    (Equal7 k t57.1 o2_2).bind fun t59 =>
    some (!t59.1))) fun t61 =>
  Option.bind (cond (cond t61 true (t44.1.2.1 != t49.1.2.1))
    (some true)
    ((Equal9 k t44.1.1 t49.1.1).bind fun t70 =>
    some (!t70.1))) fun t72 =>
  cond t72
    (some (false, ()))
    (Option.bind
      (cond (decide ((List.length l : Int) > 400))
        (some 2)
        (some 0) : Option Int) fun (f : Int) =>
    Option.bind
      (loopN (PaperPrints3.l2 k l) k (f, (ByteArray.mk #[]), 0) : Option (Int × ByteArray)) fun ((f_6, text_1) : (Int × ByteArray)) =>
    Option.bind
      (cond (f_6 != 0)
        (some (ByteArray.mk #[]))
        (some text_1) : Option ByteArray) fun (text_2 : ByteArray) =>
    (Type10 k l).bind fun t114 =>
    some ((cond (t114.1.2.1 == f_6) (streq (strOf t114.1.1) text_2) false), ()))
def PaperPrints3.A : Ann := { conds := [(2031622, ⟨[(9, .ms 2)], [(2, .row kY3)], 3, [], 2194728288768⟩), (4915214, ⟨[(15, .int .i64)], [], 0, [], 32768⟩), (5636117, ⟨[(15, .int .i64)], [], 0, [], 32768⟩), (6750234, ⟨[(15, .int .i64), (88, .ms 0)], [(0, .row kY3)], 1, [], 32768⟩), (7274527, ⟨[(16, .str)], [], 0, [], 65536⟩)], blocks := [(0, ⟨[(9, .ms 2)], [(2, .row kY3)], 3, [], 4398029736448⟩), (2, ⟨[(15, .int .i64), (16, .str)], [], 0, [], 1298074214331475452228966790037504⟩), (4, ⟨[(15, .int .i64)], [], 0, [], 40563581267264055467619604529152⟩)], loops := [(3, ⟨[(9, .ms 2), (24, .int .i64)], [(2, .row kY3)], 3, [(2, .int .u8)], 4398029736448⟩), (17, ⟨[(15, .int .i64), (16, .str), (78, .int .i64)], [], 0, [], 1298074214331475452228966790037504⟩), (23, ⟨[(15, .int .i64), (88, .ms 0), (90, .int .i64)], [(0, .row kY3)], 1, [], 40563581267264055467619604529152⟩)], keeps := [11], orders := [] }
def PaperPrints3.S : Sig := { f := 3, params := [.sl kY0, .str, .sl kY3, .sl .str], objs := [], res := .bool, outs := [], fix := [], run := fun k ds os => PaperPrints3 k ds.1 ds.2.1 ds.2.2.1 ds.2.2.2 }
def PaperPrints3.G : List Sig := [Bytes8.S, Equal7.S, Equal9.S, Print4.S, Printed5.S, Type10.S, printed6.S]
theorem PaperPrints3.eq (k : Nat) : ∀ ds os, PaperPrints3.S.run k ds os = runF ⟨types, PaperPrints3.G, PaperPrints3.A, k, 0, []⟩ Tryd.f3 (codeOf Tryd.f3) PaperPrints3.S.params PaperPrints3.S.objs PaperPrints3.S.res PaperPrints3.S.outs ds os := by
  intro ds os; kernel_rfl
theorem PaperPrints3.dr : DrOk Tryd.prog PaperPrints3.A (codeOf Tryd.f3) := ⟨by kernel_rfl, by kernel_rfl⟩
theorem PaperPrints3.ok (k : Nat) : SoundAt Tryd.prog k PaperPrints3.S :=
  runF_sound (X := ⟨types, PaperPrints3.G, PaperPrints3.A, k, 0, []⟩) types_ok (mem_all (⟨Bytes8.ok k, ⟨Equal7.ok k, ⟨Equal9.ok k, ⟨Print4.ok k, ⟨Printed5.ok k, ⟨Type10.ok k, ⟨printed6.ok k, trivial⟩⟩⟩⟩⟩⟩⟩)) (fn := Tryd.f3) (c := codeOf Tryd.f3) rfl (by kernel_rfl) rfl rfl PaperPrints3.dr (PaperPrints3.eq k)
end Go.Proofs.YtofendipdfepoaaDoor.Pr

/- What is left of a Go function, in the long run: rounds, loops, lists, numbers. No program in sight. -/
set_option linter.unusedVariables false
noncomputable section
namespace Go.Proofs.YtofendipdfepoaaDoor.Gp
open Go

/-- from some fuel on, f answers v -/
def Ev {α : Type} (f : Nat → Option α) (v : α) : Prop := ∃ n, ∀ k, n ≤ k → f k = some v
/-- .. a loop, from some fuel on and with enough rounds -/
def Lp {S R : Type} (body : Nat → S → Option (S ⊕ R)) (s : S) (r : R) : Prop := ∃ n m, ∀ k, n ≤ k → ∀ j, m ≤ j → loopN (body k) j s = some r

theorem Ev.ex {α : Type} {f : Nat → Option α} {v : α} (h : Ev f v) : ∃ k, f k = some v := by
  obtain ⟨n, h⟩ := h
  exact ⟨n, h n (Nat.le_refl _)⟩
theorem Ev.now {α : Type} (v : α) : Ev (fun _ => some v) v := ⟨0, fun _ _ => rfl⟩
theorem Ev.now' {α : Type} {v w : α} (h : v = w) : Ev (fun _ => some v) w := h ▸ .now v
/-- what hangs on no fuel -/
theorem Ev.const {α : Type} {o : Option α} {v : α} (h : o = some v) : Ev (fun _ => o) v := ⟨0, fun _ _ => h⟩
theorem Ev.to {α : Type} {f : Nat → Option α} {v w : α} (h : Ev f v) (e : v = w) : Ev f w := e ▸ h
theorem Ev.of {α : Type} {f g : Nat → Option α} {v : α} (h : Ev f v) (e : ∀ k, g k = f k) : Ev g v := by
  obtain ⟨n, h⟩ := h
  exact ⟨n, fun k hk => (e k).trans (h k hk)⟩
theorem Ev.bind {α β : Type} {f : Nat → Option α} {g : Nat → α → Option β} {a : α} {b : β} (h : Ev f a) (h2 : Ev (fun k => g k a) b) : Ev (fun k => (f k).bind (g k)) b := by
  obtain ⟨n, h⟩ := h
  obtain ⟨m, h2⟩ := h2
  refine ⟨max n m, fun k hk => ?_⟩
  show (f k).bind (g k) = _
  rw [h k (by omega)]
  exact h2 k (by omega)
/-- a value that hangs on no fuel -/
theorem Ev.val {α β : Type} {o : Option α} {g : Nat → α → Option β} {a : α} {b : β} (h : o = some a) (h2 : Ev (fun k => g k a) b) : Ev (fun k => o.bind (g k)) b := by
  subst h
  exact h2
theorem Ev.joinL {S α β : Type} {f : Nat → Option (α ⊕ β)} {g : Nat → α → Option β} {a : α} {b : β} (h : Ev f (.inl a)) (h2 : Ev (fun k => g k a) b) : Ev (fun k => (f k).bind (joined (g k))) b :=
  Ev.bind (g := fun k => joined (g k)) h h2
theorem Ev.joinR {α β : Type} {f : Nat → Option (α ⊕ β)} {g : Nat → α → Option β} {b : β} (h : Ev f (.inr b)) : Ev (fun k => (f k).bind (joined (g k))) b :=
  Ev.bind (g := fun k => joined (g k)) h (.now b)
theorem Ev.yes {α : Type} {c : Bool} {f g : Nat → Option α} {v : α} (hc : c = true) (h : Ev f v) : Ev (fun k => cond c (f k) (g k)) v := by rw [hc]; exact h
theorem Ev.no {α : Type} {c : Bool} {f g : Nat → Option α} {v : α} (hc : c = false) (h : Ev g v) : Ev (fun k => cond c (f k) (g k)) v := by rw [hc]; exact h
theorem Ev.map {α β : Type} {f : Nat → Option α} {g : α → β} {a : α} (h : Ev f a) : Ev (fun k => (f k).map g) (g a) := by
  obtain ⟨n, h⟩ := h
  exact ⟨n, fun k hk => by show (f k).map g = _; rw [h k hk]; rfl⟩

theorem Lp.ev {S R : Type} {body : Nat → S → Option (S ⊕ R)} {s : S} {r : R} (h : Lp body s r) : Ev (fun k => loopN (body k) k s) r := by
  obtain ⟨n, m, h⟩ := h
  exact ⟨max n m, fun k hk => h k (by omega) k (by omega)⟩
theorem Lp.done {S R : Type} {body : Nat → S → Option (S ⊕ R)} {s : S} {r : R} (h : Ev (fun k => body k s) (.inr r)) : Lp body s r := by
  obtain ⟨n, h⟩ := h
  refine ⟨n, 1, fun k hk j hj => ?_⟩
  obtain ⟨j, rfl⟩ : ∃ i, j = i + 1 := ⟨j - 1, by omega⟩
  show (body k s).bind _ = _
  rw [show body k s = _ from h k hk]
  rfl
theorem Lp.step {S R : Type} {body : Nat → S → Option (S ⊕ R)} {s s' : S} {r : R} (h : Ev (fun k => body k s) (.inl s')) (h2 : Lp body s' r) : Lp body s r := by
  obtain ⟨n, h⟩ := h
  obtain ⟨n2, m, h2⟩ := h2
  refine ⟨max n n2, m + 1, fun k hk j hj => ?_⟩
  obtain ⟨j, rfl⟩ : ∃ i, j = i + 1 := ⟨j - 1, by omega⟩
  show (body k s).bind _ = _
  rw [show body k s = _ from h k (by omega)]
  exact h2 k (by omega) j (by omega)

/-- a walk over a list, that may end early -/
def walk {α β R : Type} (f : β → α → β ⊕ R) (fin : β → R) : List α → β → R
  | [], b => fin b
  | x :: l, b => match f b x with | .inl b' => walk f fin l b' | .inr r => r
theorem walk_cons {α β R : Type} {f : β → α → β ⊕ R} {fin : β → R} {x : α} {l : List α} {b : β} : walk f fin (x :: l) b = match f b x with | .inl b' => walk f fin l b' | .inr r => r := rfl

/-- a loop over a list by its index: 'st b i' is the loop's state -/
theorem Lp.walk {α β S R : Type} {body : Nat → S → Option (S ⊕ R)} (l : List α) (st : β → Int → S) (f : β → α → β ⊕ R) (fin : β → R) (Inv : Nat → β → Prop)
    (hs : ∀ i x b, l[i]? = some x → Inv i b → Ev (fun k => body k (st b i)) (match f b x with | .inl b' => .inl (st b' ((i : Int) + 1)) | .inr r => .inr r) ∧ ∀ b', f b x = .inl b' → Inv (i + 1) b')
    (hd : ∀ b, Inv l.length b → Ev (fun k => body k (st b l.length)) (.inr (fin b))) {b : β} (h0 : Inv 0 b) : Lp body (st b 0) (walk f fin l b) := by
  have key : ∀ (suf pre : List α) (b : β), l = pre ++ suf → Inv pre.length b → Lp body (st b (pre.length : Int)) (Gp.walk f fin suf b) := by
    intro suf
    induction suf with
    | nil =>
      intro pre b h hi
      rw [List.append_nil] at h
      subst h
      exact .done (hd b hi)
    | cons x suf ih =>
      intro pre b h hi
      have hx : l[pre.length]? = some x := by rw [h]; simp
      obtain ⟨h1, h2⟩ := hs pre.length x b hx hi
      rw [walk_cons]
      cases hf : f b x with
      | inr r => rw [hf] at h1; exact .done h1
      | inl b' =>
        rw [hf] at h1
        refine .step h1 ?_
        have := ih (pre ++ [x]) b' (by rw [h]; simp) (by simpa using h2 b' hf)
        simpa using this
  exact key l [] b rfl h0
/-- .. that always goes to its end -/
theorem Lp.fold {α β S R : Type} {body : Nat → S → Option (S ⊕ R)} (l : List α) (st : β → Int → S) (f : β → α → β) (fin : β → R) (Inv : Nat → β → Prop)
    (hs : ∀ i x b, l[i]? = some x → Inv i b → Ev (fun k => body k (st b i)) (.inl (st (f b x) ((i : Int) + 1))) ∧ Inv (i + 1) (f b x))
    (hd : ∀ b, Inv l.length b → Ev (fun k => body k (st b l.length)) (.inr (fin b))) {b : β} (h0 : Inv 0 b) : Lp body (st b 0) (fin (l.foldl f b)) := by
  have := Lp.walk (body := body) l st (fun b x => .inl (f b x)) fin Inv (fun i x b hx hi => ⟨(hs i x b hx hi).1, fun b' hb => by cases hb; exact (hs i x b hx hi).2⟩) hd h0
  have e : ∀ (l : List α) (b : β), Gp.walk (fun b x => (.inl (f b x) : β ⊕ R)) fin l b = fin (l.foldl f b) := by
    intro l
    induction l with
    | nil => intro b; rfl
    | cons x l ih => intro b; rw [walk_cons, List.foldl_cons]; exact ih _
  rwa [e] at this
/-- a loop that counts from 0 to n -/
theorem Lp.count {β S R : Type} {body : Nat → S → Option (S ⊕ R)} (n : Nat) (st : β → Int → S) (f : β → Nat → β) (fin : β → R) (Inv : Nat → β → Prop)
    (hs : ∀ i b, i < n → Inv i b → Ev (fun k => body k (st b i)) (.inl (st (f b i) ((i : Int) + 1))) ∧ Inv (i + 1) (f b i))
    (hd : ∀ b, Inv n b → Ev (fun k => body k (st b n)) (.inr (fin b))) {b : β} (h0 : Inv 0 b) : Lp body (st b 0) (fin ((List.range n).foldl f b)) := by
  refine Lp.fold (List.range n) st f fin Inv (fun i x b hx hi => ?_) (fun b hb => ?_) h0
  · obtain ⟨h1, h2⟩ := List.getElem?_eq_some_iff.1 hx
    rw [List.getElem_range] at h2
    subst h2
    exact hs i b (by simpa using h1) hi
  · rw [List.length_range] at hb ⊢
    exact hd b hb

-- numbers
theorem w64_id {x : Int} (h0 : -9223372036854775808 ≤ x) (h1 : x ≤ 9223372036854775807) : w64 x = x := by
  show IntKind.wrap .i64 x = x
  have e : (2 : Int) ^ (64 - 1) = 9223372036854775808 := by decide
  have e2 : (2 : Int) ^ 64 = 18446744073709551616 := by decide
  simp only [IntKind.wrap, IntKind.signed, IntKind.bits, Bool.true_and, decide_eq_true_eq, e, e2]
  split <;> omega
theorem w64_succ {n : Nat} (h : n < 9223372036854775807) : w64 ((n : Int) + 1) = ((n + 1 : Nat) : Int) := by rw [w64_id (by omega) (by omega)]; omega
theorem rd_nat {α : Type} (l : List α) (i : Nat) : rd l (i : Int) = l[i]? := by
  unfold rd
  rw [if_pos (by omega)]
  rfl
theorem rd_some' {α : Type} {l : List α} {i : Nat} {x : α} (h : l[i]? = some x) : rd l (i : Int) = some x := by rw [rd_nat, h]
theorem rd_at {α : Type} {l : List α} {z : Int} {i : Nat} {x : α} (hz : z = i) (h : l[i]? = some x) : rd l z = some x := by rw [hz, rd_nat, h]
theorem room_ok {n b : Nat} (h : n * b ≤ 140737488355328) : room n b = true := by
  unfold room
  rw [Nat.ble_eq_true_of_le h]
  rfl
theorem get_lt {α : Type} {l : List α} {i : Nat} {x : α} (h : l[i]? = some x) : i < l.length := (List.getElem?_eq_some_iff.1 h).1
theorem mpos_lt {kk kv : K} {l : List (kk.den × kv.den)} {k : kk.den} (h : mpos kk kv l k < l.length) : ∃ e, l[mpos kk kv l k]? = some e ∧ eqB kk k e.1 = true := by
  have := List.findIdx_getElem (xs := l) (p := fun (e : kk.den × kv.den) => eqB kk k e.1) (w := h)
  exact ⟨_, List.getElem?_eq_getElem h, this⟩
theorem find_modify {α : Type} {p : α → Bool} {x : α} : ∀ {l : List α} {i : Nat}, (∀ y, l[i]? = some y → p y = p x) → p x = false → (l.modify i (fun _ => x)).find? p = l.find? p
  | [], i, _, _ => by simp
  | y :: l, 0, h, hx => by
    have := h y rfl
    rw [hx] at this
    simp [List.modify, List.find?, this, hx]
  | y :: l, i + 1, h, hx => by
    have ih := find_modify (l := l) (i := i) (fun z hz => h z (by simpa using hz)) hx
    simp only [List.modify_succ_cons, List.find?_cons]
    rw [ih]
theorem find_modify_at {α : Type} {p : α → Bool} {x : α} (hx : p x = true) : ∀ {l : List α}, l.findIdx p < l.length → (l.modify (l.findIdx p) (fun _ => x)).find? p = some x
  | [], h => by simp at h
  | y :: l, h => by
    rw [List.findIdx_cons] at h ⊢
    cases hy : p y with
    | true => simp [hx]
    | false =>
      rw [hy] at h
      simp only [cond_false, List.length_cons] at h ⊢
      rw [List.modify_succ_cons, List.find?_cons, hy]
      exact find_modify_at hx (by omega)
theorem mget_mput {kk kv : K} (hc : kk.cmp = true) {l : List (kk.den × kv.den)} {k k' : kk.den} {v : kv.den} : mget kk kv (mput kk kv l k v) k' = if eqB kk k' k = true then some v else mget kk kv l k' := by
  unfold mget mput
  by_cases hk : eqB kk k' k = true
  · have := eqB_eq hc hk
    subst this
    rw [if_pos hk]
    split
    · rename_i h
      rw [show mpos kk kv l k' = l.findIdx (fun e => eqB kk k' e.1) from rfl] at h ⊢
      rw [find_modify_at (by exact hk) h]
      rfl
    · rename_i h
      have hn : l.find? (fun e => eqB kk k' e.1) = none := by
        rw [List.find?_eq_none]
        intro x hx hp
        exact h (List.findIdx_lt_length_of_exists ⟨x, hx, hp⟩)
      rw [List.find?_append, hn]
      simp [hk]
  · rw [if_neg hk]
    have hk' : eqB kk k' k = false := by simpa using hk
    split
    · rename_i h
      rw [find_modify (fun y hy => ?_) (by exact hk')]
      obtain ⟨e, he, hp⟩ := mpos_lt h
      rw [he] at hy
      cases hy
      rw [← eqB_eq hc hp]
    · rw [List.find?_append]
      simp [hk']
end Go.Proofs.YtofendipdfepoaaDoor.Gp

/- Paper: rows of paper and a map of places. No program in sight. -/
set_option linter.unusedVariables false
set_option maxRecDepth 100000
noncomputable section
namespace Go.Proofs.YtofendipdfepoaaDoor.Pr
open Go Go.Proofs.YtofendipdfepoaaDoor.Gp

abbrev PK : K := .st (.pair (.int .i64) (.int .i64))
abbrev UK : K := .int .u8
abbrev Ink := List ((Int × Int) × Int)
abbrev inkAt (m : Ink) (p : Int × Int) : Option Int := mget PK UK m p
theorem ink_self {m : Ink} {p : Int × Int} {c : Int} : inkAt (mput PK UK m p c) p = some c := (mget_mput (kk := PK) (kv := UK) rfl).trans (if_pos (eqB_refl rfl))
theorem ink_other {m : Ink} {p q : Int × Int} {c : Int} (h : q ≠ p) : inkAt (mput PK UK m p c) q = inkAt m q := (mget_mput (kk := PK) (kv := UK) rfl).trans (if_neg (fun e => h (eqB_eq (k := PK) rfl e)))
def gt (M : List (List Int)) (i j : Nat) : Int := (M.getD i []).getD j 32
theorem padTo_getD {α : Type} (n : Nat) (x : α) (l : List α) (i : Nat) : (padTo n x l).getD i x = l.getD i x := by
  unfold padTo
  rw [List.getD_eq_getElem?_getD, List.getD_eq_getElem?_getD, List.getElem?_append]
  by_cases h : i < l.length
  · rw [if_pos h]
  · rw [if_neg h, List.getElem?_eq_none (show l.length ≤ i by omega), List.getElem?_replicate]
    split <;> rfl
theorem getD_set {α : Type} (l : List α) (i j : Nat) (v d : α) (hi : i < l.length) : (l.set i v).getD j d = if j = i then v else l.getD j d := by
  rw [List.getD_eq_getElem?_getD, List.getD_eq_getElem?_getD, List.getElem?_set]
  by_cases h : j = i
  · subst h
    rw [if_pos rfl, if_pos hi, if_pos rfl]
    rfl
  · rw [if_neg (fun e => h e.symm), if_neg h]
theorem gt_put (M : List (List Int)) (line col : Nat) (c : Int) (i j : Nat) : gt (putM M line col c) i j = if c ≠ 32 ∧ i = line ∧ j = col then c else gt M i j := by
  unfold gt putM
  dsimp only
  rw [getD_set _ _ _ _ _ (by rw [padTo_len]; omega)]
  by_cases hi : i = line
  · subst hi
    rw [if_pos rfl]
    by_cases hc : c = 32
    · rw [if_pos hc, if_neg (fun h => h.1 hc), padTo_getD, padTo_getD]
    · rw [if_neg hc, getD_set _ _ _ _ _ (by rw [padTo_len]; omega), padTo_getD, padTo_getD]
      by_cases hj : j = col
      · rw [if_pos hj, if_pos ⟨hc, rfl, hj⟩]
      · rw [if_neg hj, if_neg (fun h => hj h.2.2)]
  · rw [if_neg hi, if_neg (fun h => hi h.2.1), padTo_getD]
structure Rel (M : List (List Int)) (m : Ink) (last : Int) : Prop where
  at_ : ∀ i j : Nat, inkAt m ((i : Int), (j : Int)) = if gt M i j = 32 then none else some (gt M i j)
  ub : ∀ i j : Nat, gt M i j ≠ 32 → (i : Int) ≤ last
  here : ∀ n : Nat, last = (n : Int) → ∃ j, gt M n j ≠ 32
  lo : -1 ≤ last
  rng : ∀ i j : Nat, 32 ≤ gt M i j ∧ gt M i j ≤ 126
theorem rel_nil : Rel [] [] (-1) := by
  have hg : ∀ i j, gt [] i j = 32 := fun i j => rfl
  exact ⟨fun i j => by rw [hg]; rfl, fun i j h => absurd (hg i j) h, fun n h => by omega, by omega, fun i j => by rw [hg]; omega⟩
theorem rel_put {M : List (List Int)} {m : Ink} {last : Int} (h : Rel M m last) (line col : Nat) {c : Int} (h1 : 32 < c) (h2 : c ≤ 126) :
    Rel (putM M line col c) (mput PK UK m ((line : Int), (col : Int)) c) (mxI last line) := by
  have hc : c ≠ 32 := by omega
  have hm : last ≤ mxI last line ∧ (line : Int) ≤ mxI last line ∧ (mxI last line = last ∨ mxI last line = (line : Int)) := by
    unfold mxI
    split <;> omega
  refine ⟨fun i j => ?_, fun i j hij => ?_, fun n hn => ?_, by have := h.lo; omega, fun i j => ?_⟩
  · have e := gt_put M line col c i j
    by_cases hij : i = line ∧ j = col
    · rw [if_pos ⟨hc, hij⟩] at e
      rw [e, if_neg hc, hij.1, hij.2]
      exact ink_self
    · rw [if_neg (fun x => hij x.2)] at e
      rw [e]
      refine (ink_other (fun e => ?_)).trans (h.at_ i j)
      have e1 : (i : Int) = line := congrArg Prod.fst e
      have e2 : (j : Int) = col := congrArg Prod.snd e
      exact hij ⟨by omega, by omega⟩
  · rw [gt_put] at hij
    by_cases hx : c ≠ 32 ∧ i = line ∧ j = col
    · omega
    · rw [if_neg hx] at hij
      have := h.ub i j hij
      omega
  · by_cases hl : n = line
    · exact ⟨col, by rw [gt_put, if_pos ⟨hc, hl, rfl⟩]; exact hc⟩
    · have hl2 : last = (n : Int) := by omega
      obtain ⟨j, hj⟩ := h.here n hl2
      exact ⟨j, by rw [gt_put, if_neg (fun x => hl x.2.1)]; exact hj⟩
  · rw [gt_put]
    split
    · omega
    · exact h.rng i j
theorem rel_space {M : List (List Int)} {m : Ink} {last : Int} (h : Rel M m last) (line col : Nat) : Rel (putM M line col 32) m last := by
  have hg : ∀ i j, gt (putM M line col 32) i j = gt M i j := fun i j => by rw [gt_put, if_neg (fun x => x.1 rfl)]
  exact ⟨fun i j => by rw [hg]; exact h.at_ i j, fun i j hx => h.ub i j (by rw [← hg]; exact hx), fun n hn => by
    obtain ⟨j, hj⟩ := h.here n hn
    exact ⟨j, by rw [hg]; exact hj⟩, h.lo, fun i j => by rw [hg]; exact h.rng i j⟩
/-- a row's text, its end filled with spaces -/
def rowT (M : List (List Int)) (i : Nat) : List Int := (List.range 40).map (gt M i)
theorem trimI_spec (r : List Int) : ∀ n, n ≤ r.length → (∀ j, trimI r n ≤ j → j < n → r[j]? = some 32) ∧ (∀ m, trimI r n = m + 1 → r[m]? ≠ some 32)
  | 0, _ => ⟨fun j h1 h2 => absurd h2 (Nat.not_lt_zero _), fun m h => absurd h (by simp [trimI])⟩
  | n + 1, hn => by
    obtain ⟨h1, h2⟩ := trimI_spec r n (by omega)
    have he : trimI r (n + 1) = if r[n]? = some 32 then trimI r n else n + 1 := rfl
    by_cases hx : r[n]? = some 32
    · rw [if_pos hx] at he
      rw [he]
      refine ⟨fun j hj1 hj2 => ?_, h2⟩
      by_cases hjn : j = n
      · rw [hjn]; exact hx
      · exact h1 j hj1 (by omega)
    · rw [if_neg hx] at he
      rw [he]
      refine ⟨fun j hj1 hj2 => by omega, fun m hm => ?_⟩
      obtain rfl : n = m := by omega
      exact hx
def b8 (c : Int) : UInt8 := UInt8.ofNat c.toNat
theorem b8_sp {c : Int} (h1 : 32 ≤ c) (h2 : c ≤ 126) : b8 c = 32 ↔ c = 32 := by
  constructor
  · intro h
    have := congrArg UInt8.toNat h
    unfold b8 at this
    rw [UInt8.toNat_ofNat'] at this
    have : c.toNat % 256 = 32 := this
    omega
  · intro h; rw [h]; rfl
/-- the row's text without spaces at its end is what is left of the padded row -/
theorem trim_row {M : List (List Int)} (hw : Wide M) (hr : ∀ i j : Nat, 32 ≤ gt M i j ∧ gt M i j ≤ 126) (i : Nat) :
    Lib.trimRightB ((rowT M i).map b8) 32 = ((M.getD i []).take (trimI (M.getD i []) (M.getD i []).length)).map b8 := by
  generalize hrr : M.getD i [] = r
  have hrl : r.length ≤ 40 := by
    rw [← hrr, List.getD_eq_getElem?_getD]
    cases hx : M[i]? with
    | none => exact Nat.zero_le _
    | some r => exact hw r (List.mem_of_getElem? hx)
  have hg : ∀ j, gt M i j = r.getD j 32 := fun j => by unfold gt; rw [hrr]
  have hget : ∀ j c, j < r.length → (r.getD j 32 = c ↔ r[j]? = some c) := by
    intro j c hj
    rw [List.getD_eq_getElem?_getD, List.getElem?_eq_getElem hj]
    simp
  obtain ⟨t1, t2⟩ := trimI_spec r r.length (Nat.le_refl _)
  have tle := trimI_le r r.length
  generalize trimI r r.length = k at t1 t2 tle
  have hlen : ((rowT M i).map b8).length = 40 := by unfold rowT; rw [List.length_map, List.length_map, List.length_range]
  have hrow : ∀ j, j < 40 → ((rowT M i).map b8)[j]? = some (b8 (r.getD j 32)) := by
    intro j hj
    unfold rowT
    rw [List.getElem?_map, List.getElem?_map, List.getElem?_range hj]
    show some (b8 (gt M i j)) = _
    rw [hg]
  rw [Lib.trimRightB_take _ 32 k (by omega) (fun j b hj hb => ?_) (fun b hk hb => ?_)]
  · refine List.ext_getElem? fun j => ?_
    rw [List.map_take, List.getElem?_take, List.getElem?_take]
    by_cases hj : j < k
    · rw [if_pos hj, if_pos hj, hrow j (by omega), List.getElem?_map, List.getElem?_eq_getElem (show j < r.length by omega), List.getD_eq_getElem?_getD, List.getElem?_eq_getElem (show j < r.length by omega)]
      rfl
    · rw [if_neg hj, if_neg hj]
  · have hj40 : j < 40 := by have := (List.getElem?_eq_some_iff.1 hb).1; omega
    rw [hrow j hj40] at hb
    cases hb
    by_cases hjr : j < r.length
    · rw [(hget j 32 hjr).2 (t1 j hj hjr)]
      rfl
    · rw [List.getD_eq_getElem?_getD, List.getElem?_eq_none (by omega)]
      rfl
  · rw [hrow (k - 1) (by omega)] at hb
    cases hb
    have hx := t2 (k - 1) (by omega)
    have hrg := hr i (k - 1)
    rw [hg] at hrg
    intro e
    have := (b8_sp hrg.1 hrg.2).1 e
    exact hx ((hget (k - 1) 32 (by omega)).1 this)
end Go.Proofs.YtofendipdfepoaaDoor.Pr

/- Paper: the reference's map beside the rows. -/
set_option linter.unusedVariables false
set_option maxRecDepth 100000
noncomputable section
namespace Go.Proofs.YtofendipdfepoaaDoor.Pr
open Go Go.Proofs.YtofendipdfepoaaDoor.Gp

theorem tmod_nn (a n : Nat) : Int.tmod (a : Int) (n : Int) = ((a % n : Nat) : Int) := (Int.ofNat_tmod a n).symm
theorem ff_lp (m : Ink) (col : Int) (line t : Nat) (ht : t = (line / 20 + 1) * 20) (hl : line ≤ 399) : ∀ d n : Nat, n + d = t → line < n → Gp.Lp Printed5.l0 ((), (), m, ((n : Int), col)) ((), (), m, ((t : Int), col)) := by
  intro d
  induction d with
  | zero =>
    intro n hn h1
    obtain rfl : n = t := by omega
    refine .done (.of (.now _) fun k => ?_)
    unfold Printed5.l0
    have e : Int.tmod (n : Int) 20 = ((n % 20 : Nat) : Int) := tmod_nn n 20
    dsimp only
    rw [e, show n % 20 = 0 by omega]
    rfl
  | succ d ih =>
    intro n hn h1
    refine .step (.of (.now _) fun k => ?_) (ih (n + 1) (by omega) (by omega))
    unfold Printed5.l0
    have e : Int.tmod (n : Int) 20 = ((n % 20 : Nat) : Int) := tmod_nn n 20
    have hne : (((n % 20 : Nat) : Int) != 0) = true := bne_iff_ne.2 (by omega)
    dsimp only
    rw [e, hne, w64_succ (by omega)]
    rfl
theorem tab_lp (m : Ink) (line : Int) (col t : Nat) (ht : t = min 40 ((col / 8 + 1) * 8)) (hc : col ≤ 40) : ∀ d n : Nat, n + d = t → (col < n ∨ n = 40) → Gp.Lp Printed5.l1 ((), (), m, (line, (n : Int))) ((), (), m, (line, (t : Int))) := by
  intro d
  induction d with
  | zero =>
    intro n hn h1
    obtain rfl : n = t := by omega
    refine .done (.of (.now _) fun k => ?_)
    unfold Printed5.l1
    have e : Int.tmod (n : Int) 8 = ((n % 8 : Nat) : Int) := tmod_nn n 8
    dsimp only
    rw [e, show n % 8 = 0 by omega]
    rfl
  | succ d ih =>
    intro n hn h1
    refine .step (.of (.now _) fun k => ?_) (ih (n + 1) (by omega) (by omega))
    unfold Printed5.l1
    have e : Int.tmod (n : Int) 8 = ((n % 8 : Nat) : Int) := tmod_nn n 8
    have hne : (((n % 8 : Nat) : Int) != 0) = true := bne_iff_ne.2 (by omega)
    dsimp only
    rw [e, hne, w64_succ (by omega)]
    rfl
theorem ref_bad {b : List Int} {i : Nat} {c : Int} (hi : b[i]? = some c) (hb : b.length ≤ 20000) {line col : Nat} {M : List (List Int)} (hs : stepP line col M c = none) (m : Ink) (last : Int) :
    Ev (fun k => Printed5.l2 k b ((), (), last, (i : Int), m, ((line : Int), (col : Int)))) (.inr (.inr (([], 3, ()), ()))) := by
  have hl := get_lt hi
  unfold stepP at hs
  split at hs; cases hs
  split at hs; cases hs
  split at hs; cases hs
  split at hs; cases hs
  split at hs; cases hs
  rename_i h13 h10 h12 h9 h8
  split at hs
  case isFalse => split at hs <;> cases hs
  rename_i hbad
  have hcond : (bif decide (c < 32) then true else decide (c > 126)) = true := by
    by_cases h : c < 32
    · rw [decide_eq_true h]; rfl
    · rw [decide_eq_false h]; exact decide_eq_true (by omega)
  refine .of (.now _) fun k => ?_
  unfold Printed5.l2
  simp only [rd_some' hi, Option.bind_some, show (c == 13) = false from beq_false_of_ne h13, show (c == 10) = false from beq_false_of_ne h10, show (c == 12) = false from beq_false_of_ne h12, show (c == 9) = false from beq_false_of_ne h9, show (c == 8) = false from beq_false_of_ne h8, hcond, decide_eq_true (show (i : Int) < b.length by omega), cond_true, cond_false]
  rfl
/-- what the reference's round comes to -/
def endR (i : Nat) (s : Nat × Nat × List (List Int)) (m : Ink) (last : Int) : (Unit × Unit × Int × Int × Ink × Int × Int) ⊕ ((Unit × Int × Ink) ⊕ ((List ByteArray × Int × Unit) × Unit)) :=
  if 400 ≤ s.1 then .inr (.inr (([], 6, ()), ())) else .inl ((), (), last, ((i + 1 : Nat) : Int), m, ((s.1 : Int), (s.2.1 : Int)))
theorem ref_step {b : List Int} {i : Nat} {c : Int} (hi : b[i]? = some c) (hb : b.length ≤ 20000) {line col : Nat} {M : List (List Int)} {s : Nat × Nat × List (List Int)} (hs : stepP line col M c = some s) (m : Ink) (last : Int)
    (hR : Rel M m last) (hl : line ≤ 399) (hc : col ≤ 40) :
    ∃ m' last', Rel s.2.2 m' last' ∧ Ev (fun k => Printed5.l2 k b ((), (), last, (i : Int), m, ((line : Int), (col : Int)))) (endR i s m' last') := by
  have hil := get_lt hi
  have hin : decide ((i : Int) < b.length) = true := decide_eq_true (by omega)
  -- the end of the round
  have fin : ∀ (l' c' : Nat) (M' : List (List Int)) (m' : Ink) (last' : Int) (h : s = (l', c', M')) (f : Nat → Option ((Unit × Unit × Int × Ink × Int × Int) ⊕ ((Unit × Unit × Int × Int × Ink × Int × Int) ⊕ ((Unit × Int × Ink) ⊕ ((List ByteArray × Int × Unit) × Unit))))),
      Ev f (.inl ((), (), last', m', ((l' : Int), (c' : Int)))) →
      Ev (fun k => (f k).bind (joined fun (p : Unit × Unit × Int × Ink × Int × Int) => bif decide (p.2.2.2.2.1 ≥ 400) then some (Sum.inr (Sum.inr (([], 6, ()), ()))) else some (Sum.inl ((), (), p.2.2.1, w64 ((i : Int) + 1), p.2.2.2.1, p.2.2.2.2)))) (endR i s m' last') := by
    intro l' c' M' m' last' h f hf
    subst h
    refine .joinL (S := Unit) hf (.of (.now _) fun k => ?_)
    unfold endR
    dsimp only
    by_cases h4 : 400 ≤ l'
    · rw [if_pos h4, decide_eq_true (by omega)]
      rfl
    · rw [if_neg h4, decide_eq_false (by omega), w64_succ (by omega)]
      rfl
  unfold Printed5.l2
  simp only [rd_some' hi, Option.bind_some, hin, cond_true]
  unfold stepP at hs
  split at hs
  · rename_i h; subst h; cases hs
    refine ⟨m, last, hR, fin _ _ _ _ _ rfl _ ?_⟩
    refine .now _
  rename_i h13
  simp only [show (c == 13) = false from beq_false_of_ne h13, cond_false]
  split at hs
  · rename_i h; subst h; cases hs
    refine ⟨m, last, hR, fin _ _ _ _ _ rfl _ ?_⟩
    refine .joinL (S := Unit) (.now _) (.of (.now _) fun k => by rw [w64_succ (by omega)])
  rename_i h10
  simp only [show (c == 10) = false from beq_false_of_ne h10, cond_false]
  split at hs
  · rename_i h; subst h; cases hs
    have hlp := ff_lp m (col : Int) line ((line / 20 + 1) * 20) rfl hl ((line / 20 + 1) * 20 - (line + 1)) (line + 1) (by omega) (by omega)
    refine ⟨m, last, hR, fin _ _ _ _ _ rfl _ ?_⟩
    refine .joinL (S := Unit) (.joinL (S := Unit) (.bind (a := ((), (), m, ((((line / 20 + 1) * 20 : Nat) : Int), (col : Int)))) ?_ (.now _)) (.now _)) (.now _)
    rw [w64_succ (by omega)]
    exact hlp.ev
  rename_i h12
  simp only [show (c == 12) = false from beq_false_of_ne h12, cond_false]
  split at hs
  · rename_i h; subst h; cases hs
    have hlp := tab_lp m (line : Int) col (min 40 ((col / 8 + 1) * 8)) rfl hc (min 40 ((col / 8 + 1) * 8) - min 40 (col + 1)) (min 40 (col + 1)) (by omega) (by omega)
    have hm : mnI 40 (w64 ((col : Int) + 1)) = ((min 40 (col + 1) : Nat) : Int) := by
      rw [w64_succ (by omega)]
      unfold mnI
      split <;> omega
    refine ⟨m, last, hR, fin _ _ _ _ _ rfl _ ?_⟩
    refine .joinL (S := Unit) (.joinL (S := Unit) (.joinL (S := Unit) (.bind (a := ((), (), m, ((line : Int), ((min 40 ((col / 8 + 1) * 8) : Nat) : Int)))) ?_ (.now _)) (.now _)) (.now _)) (.now _)
    rw [hm]
    exact hlp.ev
  rename_i h9
  simp only [show (c == 9) = false from beq_false_of_ne h9, cond_false]
  split at hs
  · rename_i h; subst h; cases hs
    refine ⟨m, last, hR, fin _ _ _ _ _ rfl _ ?_⟩
    refine .joinL (S := Unit) (.joinL (S := Unit) (.joinL (S := Unit) (.joinL (S := Unit) (.bind (a := ((), (), m, ((line : Int), ((col - 1 : Nat) : Int)))) ?_ (.now _)) (.now _)) (.now _)) (.now _)) (.now _)
    refine .of (.now _) fun k => ?_
    by_cases h0 : col = 0
    · subst h0
      rfl
    · rw [decide_eq_true (by omega), w64_id (by omega) (by omega), show ((col - 1 : Nat) : Int) = (col : Int) - 1 by omega]
      rfl
  rename_i h8
  simp only [show (c == 8) = false from beq_false_of_ne h8, cond_false]
  split at hs
  · cases hs
  rename_i hok
  have hcond : (bif decide (c < 32) then true else decide (c > 126)) = false := by
    rw [decide_eq_false (by omega)]; exact decide_eq_false (by omega)
  simp only [hcond, cond_false]
  -- where the character goes
  have put : ∀ {β : Type} (l' c' : Nat), l' ≤ 400 → c' ≤ 40 → s = (l', c' + 1, putM M l' c' c) → (∀ k : Nat, (bif ((col : Int) == 40) then some ((), (), m, w64 ((line : Int) + 1), (0 : Int)) else some ((), (), m, (line : Int), (col : Int))) = some ((), (), m, (l' : Int), (c' : Int))) →
      ∃ m' last', Rel s.2.2 m' last' ∧ Ev (fun k => ((bif ((col : Int) == 40) then some ((), (), m, w64 ((line : Int) + 1), (0 : Int)) else some ((), (), m, (line : Int), (col : Int))).bind fun (p : Unit × Unit × Ink × Int × Int) =>
        (bif (c != 32) then some ((), (), mxI last p.2.2.2.1, mput PK UK p.2.2.1 p.2.2.2 c, p.2.2.2) else some ((), (), last, p.2.2.1, p.2.2.2)).bind fun (p : Unit × Unit × Int × Ink × Int × Int) =>
        some (Sum.inl (β := β) ((), (), p.2.2.1, p.2.2.2.1, p.2.2.2.2.1, w64 (p.2.2.2.2.2 + 1))))) (.inl ((), (), last', m', ((l' : Int), ((c' + 1 : Nat) : Int)))) := by
    intro β l' c' hl' hc' hse he
    subst hse
    by_cases h32 : c = 32
    · subst h32
      refine ⟨m, last, rel_space hR l' c', .of (.now _) fun k => ?_⟩
      rw [he k, show ((32 : Int) != 32) = false from rfl]
      show some (Sum.inl ((), (), last, m, (l' : Int), w64 ((c' : Int) + 1))) = _
      rw [w64_succ (by omega)]
    · refine ⟨mput PK UK m ((l' : Int), (c' : Int)) c, mxI last l', rel_put hR l' c' (by omega) (by omega), .of (.now _) fun k => ?_⟩
      rw [he k, show (c != 32) = true from bne_iff_ne.2 h32]
      show some (Sum.inl ((), (), mxI last l', mput PK UK m ((l' : Int), (c' : Int)) c, (l' : Int), w64 ((c' : Int) + 1))) = _
      rw [w64_succ (by omega)]
      rfl
  split at hs
  · rename_i h40
    cases hs
    obtain ⟨m', last', hR', hev⟩ := put (line + 1) 0 (by omega) (by omega) rfl (fun k => by rw [h40, w64_succ (by omega)]; rfl)
    refine ⟨m', last', hR', fin _ _ _ _ _ rfl _ ?_⟩
    refine .joinL (S := Unit) (.joinL (S := Unit) (.joinL (S := Unit) (.joinL (S := Unit) hev (.now _)) (.now _)) (.now _)) (.now _)
  · rename_i h40
    cases hs
    obtain ⟨m', last', hR', hev⟩ := put line col (by omega) hc rfl (fun k => by rw [show ((col : Int) == 40) = false from beq_false_of_ne (by omega)]; rfl)
    refine ⟨m', last', hR', fin _ _ _ _ _ rfl _ ?_⟩
    refine .joinL (S := Unit) (.joinL (S := Unit) (.joinL (S := Unit) (.joinL (S := Unit) hev (.now _)) (.now _)) (.now _)) (.now _)
end Go.Proofs.YtofendipdfepoaaDoor.Pr

/- Paper: what the reference prints is what the rows say. -/
set_option linter.unusedVariables false
set_option maxRecDepth 100000
noncomputable section
namespace Go.Proofs.YtofendipdfepoaaDoor.Pr
open Go Go.Proofs.YtofendipdfepoaaDoor.Gp

/-- how the reference's loop ends -/
def Ends (b : List Int) (s : Unit × Unit × Int × Int × Ink × Int × Int) : (List (List Int)) ⊕ Int → Prop
  | .inr er => Gp.Lp (fun k => Printed5.l2 k b) s (.inr (([], er, ()), ()))
  | .inl M => Wide M ∧ M.length ≤ 400 ∧ ∃ m last, Rel M m last ∧ Gp.Lp (fun k => Printed5.l2 k b) s (.inl ((), last, m))
theorem Ends.step {b : List Int} {s s' : Unit × Unit × Int × Int × Ink × Int × Int} (h : Ev (fun k => Printed5.l2 k b s) (.inl s')) : ∀ {r : (List (List Int)) ⊕ Int}, Ends b s' r → Ends b s r
  | .inr er, h2 => Gp.Lp.step h h2
  | .inl M, ⟨h1, h2, m, last, h3, h4⟩ => ⟨h1, h2, m, last, h3, Gp.Lp.step h h4⟩
theorem ref_run (b : List Int) (hb : b.length ≤ 20000) : ∀ n i : Nat, b.length ≤ i + n → i ≤ b.length → ∀ (line col : Nat) (M : List (List Int)) (m : Ink) (last : Int), Rel M m last → line ≤ 399 → col ≤ 40 → M.length ≤ 400 → Wide M →
    Ends b ((), (), last, (i : Int), m, ((line : Int), (col : Int))) (runP (b.drop i) line col M) := by
  have fin : ∀ (line col : Nat) (M : List (List Int)) (m : Ink) (last : Int), Rel M m last → M.length ≤ 400 → Wide M → Ends b ((), (), last, (b.length : Int), m, ((line : Int), (col : Int))) (runP (b.drop b.length) line col M) := by
    intro line col M m last hR hM hw
    rw [List.drop_length]
    refine ⟨hw, hM, m, last, hR, .done (.of (.now _) fun k => ?_)⟩
    unfold Printed5.l2
    dsimp only
    rw [decide_eq_false (by omega)]
    rfl
  intro n
  induction n with
  | zero =>
    intro i h1 h2 line col M m last hR hl hc hM hw
    obtain rfl : i = b.length := by omega
    exact fin line col M m last hR hM hw
  | succ n ih =>
    intro i h1 h2 line col M m last hR hl hc hM hw
    by_cases hi : i < b.length
    · have hx : b[i]? = some b[i] := List.getElem?_eq_getElem hi
      have hd : b.drop i = b[i] :: b.drop (i + 1) := List.drop_eq_getElem_cons hi
      generalize b[i] = c at hx hd
      rw [hd]
      cases hs : stepP line col M c with
      | none =>
        rw [runP_none hs]
        exact .done (ref_bad hx hb hs m last)
      | some s =>
        rw [runP_some hs]
        obtain ⟨m', last', hR', hev⟩ := ref_step hx hb hs m last hR hl hc
        unfold endR at hev
        by_cases h4 : 400 ≤ s.1
        · rw [if_pos h4] at hev ⊢
          exact .done hev
        · rw [if_neg h4] at hev ⊢
          obtain ⟨k1, k2, k3, k4⟩ := stepP_ok hs hl hc hM hw h4
          exact Ends.step hev (ih (i + 1) (by omega) (by omega) s.1 s.2.1 s.2.2 m' last' hR' k1 k2 k3 k4)
    · obtain rfl : i = b.length := by omega
      exact fin line col M m last hR hM hw
def mkB (l : List UInt8) : ByteArray := ⟨l.toArray⟩
theorem mkB_size (l : List UInt8) : (mkB l).size = l.length := rfl
theorem mkB_inj {a b : List UInt8} (h : mkB a = mkB b) : a = b := by
  have := congrArg (fun x => x.data.toList) h
  simpa [mkB] using this
theorem cat_mk {a b : List UInt8} (h : a.length + b.length ≤ 9223372036854775807) : catS (mkB a) (mkB b) = some (mkB (a ++ b)) := by
  unfold catS
  rw [mkB_size, mkB_size, if_neg (by show ¬ ((a.length + b.length : Nat) : Int) > 9223372036854775807; omega)]
  exact congrArg some (ByteArray.ext (by rw [ByteArray.data_append]; simp [mkB]))
theorem fold_snoc {α : Type} (g : Nat → α) (n : Nat) : (List.range n).foldl (fun l j => l ++ [g j]) [] = (List.range n).map g := by
  induction n with
  | zero => rfl
  | succ n ih => rw [List.range_succ, List.foldl_append, ih, List.map_append]; rfl
theorem l3_lp {M : List (List Int)} {m : Ink} {last : Int} (hR : Rel M m last) (line : Nat) (o : List ByteArray) :
    Gp.Lp (fun k => Printed5.l3 k (line : Int)) ((), (), mkB [], 0, m, o) ((), (), mkB ((rowT M line).map b8), m, o) := by
  have h := Gp.Lp.count (body := fun k => Printed5.l3 k (line : Int)) 40 (fun l i => ((), (), mkB l, i, m, o)) (fun l j => l ++ [b8 (gt M line j)]) (fun l => ((), (), mkB l, m, o)) (fun i l => l.length ≤ i) (fun i l hi hl => ⟨?_, ?_⟩) (fun l hl => ?_) (b := []) (Nat.le_refl _)
  · rw [fold_snoc] at h
    unfold rowT
    rw [List.map_map]
    exact h
  · have hat := hR.at_ line i
    have hat : mget PK UK m ((line : Int), (i : Int)) = if gt M line i = 32 then none else some (gt M line i) := hat
    have e1 : (if gt M line i = 32 then none else some (gt M line i)) = mget PK UK m ((line : Int), (i : Int)) := hat.symm
    have hc : ∀ k : Nat, (bif !(Option.isSome (mget PK UK m ((line : Int), (i : Int)))) then some ((), (), (32 : Int), m, o) else some ((), (), Option.getD (α := Int) (mget PK UK m ((line : Int), (i : Int))) (0 : Int), m, o)) = some ((), (), gt M line i, m, o) := by
      intro k
      rw [hat]
      by_cases h32 : gt M line i = 32
      · rw [if_pos h32, h32]; rfl
      · rw [if_neg h32]; rfl
    refine .of (.now _) fun k => ?_
    unfold Printed5.l3
    dsimp only
    rw [decide_eq_true (show (i : Int) < 40 by omega)]
    refine (congrArg (fun x => Option.bind x _) (hc k)).trans ?_
    show (catS (mkB l) (mkB [b8 (gt M line i)])).bind _ = _
    rw [cat_mk (by simp; omega)]
    show some (Sum.inl ((), (), _, w64 ((i : Int) + 1), m, o)) = _
    rw [w64_id (by omega) (by omega)]
  · rw [List.length_append]; exact Nat.succ_le_succ hl
  · refine .of (.now _) fun k => ?_
    unfold Printed5.l3
    rfl
def lineF (M : List (List Int)) (i : Nat) : ByteArray := mkB (Lib.trimRightB ((rowT M i).map b8) 32)
theorem trim_mk (k : Nat) (l : List UInt8) (h : l.length ≤ 1000) : TrimRight13 k (mkB l) (ByteArray.mk #[32]) = some (mkB (Lib.trimRightB l 32), ()) := by
  show Option.map _ (if (32 : UInt8).toNat < 128 ∧ (mkB l).size ≤ 9223372036854775807 then some (⟨(Lib.trimRightB (mkB l).data.toList 32).toArray⟩ : ByteArray) else none) = _
  rw [if_pos ⟨by decide, by rw [mkB_size]; omega⟩]
  rfl
theorem l4_lp {M : List (List Int)} {m : Ink} {last : Int} (hR : Rel M m last) (n : Nat) (hn : last + 1 = (n : Int)) (hn4 : n ≤ 400) :
    Gp.Lp (fun k => Printed5.l4 k last) ((), (), 0, m, []) ((), (List.range n).map (lineF M)) := by
  have h := Gp.Lp.count (body := fun k => Printed5.l4 k last) n (fun l i => ((), (), i, m, l)) (fun l j => l ++ [lineF M j]) (fun l => ((), l)) (fun i l => l.length ≤ i) (fun i l hi hl => ⟨?_, ?_⟩) (fun l hl => ?_) (b := []) (Nat.le_refl _)
  · rw [fold_snoc] at h
    exact h
  · have htr : ∀ k : Nat, TrimRight13 k (mkB ((rowT M i).map b8)) (ByteArray.mk #[32]) = some (lineF M i, ()) := fun k => trim_mk k _ (by unfold rowT; rw [List.length_map, List.length_map, List.length_range]; decide)
    unfold Printed5.l4
    refine .yes (decide_eq_true (by omega)) (.bind (l3_lp hR i l).ev (.of (.now _) fun k => ?_))
    dsimp only
    rw [htr k]
    show (if room (l.length + 1) 16 then some () else none).bind _ = _
    rw [room_ok (by omega)]
    show some (Sum.inl ((), (), w64 ((i : Int) + 1), m, l ++ [lineF M i])) = _
    rw [w64_id (by omega) (by omega)]
  · rw [List.length_append]; exact Nat.succ_le_succ hl
  · refine .of (.now _) fun k => ?_
    unfold Printed5.l4
    dsimp only
    rw [decide_eq_false (by omega)]
    rfl
theorem strF_line {M : List (List Int)} (hw : Wide M) (hr : ∀ i j : Nat, 32 ≤ gt M i j ∧ gt M i j ≤ 126) (i : Nat) : strF (M.getD i []) = lineF M i := by
  unfold lineF
  rw [trim_row hw hr i]
  rfl
theorem stripN_spec (l : List ByteArray) : ∀ n, n ≤ l.length → (∀ j, stripN l n ≤ j → j < n → l[j]? = some ⟨#[]⟩) ∧ (∀ m, stripN l n = m + 1 → l[m]? ≠ some ⟨#[]⟩)
  | 0, _ => ⟨fun j h1 h2 => absurd h2 (Nat.not_lt_zero _), fun m h => absurd h (by simp [stripN])⟩
  | n + 1, hn => by
    obtain ⟨h1, h2⟩ := stripN_spec l n (by omega)
    have he : stripN l (n + 1) = if l[n]? = some ⟨#[]⟩ then stripN l n else n + 1 := rfl
    by_cases hx : l[n]? = some ⟨#[]⟩
    · rw [if_pos hx] at he
      rw [he]
      refine ⟨fun j hj1 hj2 => ?_, h2⟩
      by_cases hjn : j = n
      · rw [hjn]; exact hx
      · exact h1 j hj1 (by omega)
    · rw [if_neg hx] at he
      rw [he]
      refine ⟨fun j hj1 hj2 => by omega, fun m hm => ?_⟩
      obtain rfl : n = m := by omega
      exact hx
theorem strF_empty {M : List (List Int)} {i : Nat} : strF (M.getD i []) = ⟨#[]⟩ ↔ ∀ j, gt M i j = 32 := by
  generalize hr : M.getD i [] = r
  have hg : ∀ j, gt M i j = r.getD j 32 := fun j => by unfold gt; rw [hr]
  obtain ⟨t1, t2⟩ := trimI_spec r r.length (Nat.le_refl _)
  have tle := trimI_le r r.length
  have hz : strF r = ⟨#[]⟩ ↔ trimI r r.length = 0 := by
    unfold strF
    constructor
    · intro h
      have h2 : (r.take (trimI r r.length)).map b8 = [] := mkB_inj (a := _) (b := []) h
      have h3 := congrArg List.length h2
      rw [List.length_map, List.length_take] at h3
      have h3 : min (trimI r r.length) r.length = 0 := h3
      omega
    · intro h
      rw [h]
      rfl
  rw [hz]
  constructor
  · intro h0 j
    rw [hg, List.getD_eq_getElem?_getD]
    by_cases hj : j < r.length
    · rw [t1 j (by omega) hj]; rfl
    · rw [List.getElem?_eq_none (by omega)]; rfl
  · intro h
    cases hk : trimI r r.length with
    | zero => rfl
    | succ m =>
      have hm : m < r.length := by omega
      have := h m
      rw [hg, List.getD_eq_getElem?_getD, List.getElem?_eq_getElem hm] at this
      refine absurd ?_ (t2 m hk)
      rw [List.getElem?_eq_getElem hm]
      exact congrArg some this
theorem lines_eq {M : List (List Int)} {m : Ink} {last : Int} (hR : Rel M m last) (hw : Wide M) {n : Nat} (hn : last + 1 = (n : Int)) : n ≤ M.length ∧ (strsF M).take (stripN (strsF M) M.length) = (List.range n).map (lineF M) := by
  have hlt : ∀ i j, gt M i j ≠ 32 → i < M.length := by
    intro i j h
    refine Nat.lt_of_not_le fun hle => h ?_
    unfold gt
    rw [List.getD_eq_getElem?_getD (l := M), List.getElem?_eq_none hle]
    rfl
  have hnM : n ≤ M.length := by
    cases n with
    | zero => exact Nat.zero_le _
    | succ n =>
      obtain ⟨j, hj⟩ := hR.here n (by omega)
      exact hlt n j hj
  have hat : ∀ i, i < M.length → (strsF M)[i]? = some (strF (M.getD i [])) := by
    intro i hi
    unfold strsF
    rw [List.getElem?_map, List.getElem?_eq_getElem hi, List.getD_eq_getElem?_getD, List.getElem?_eq_getElem hi]
    rfl
  have hsl : (strsF M).length = M.length := by unfold strsF; rw [List.length_map]
  obtain ⟨s1, s2⟩ := stripN_spec (strsF M) M.length (by omega)
  have sle := stripN_le (strsF M) M.length
  have hk : stripN (strsF M) M.length = n := by
    rcases Nat.lt_trichotomy (stripN (strsF M) M.length) n with h | h | h
    · exfalso
      obtain ⟨p, rfl⟩ : ∃ p, n = p + 1 := ⟨n - 1, by omega⟩
      obtain ⟨j, hj⟩ := hR.here p (by omega)
      have := s1 p (by omega) (by omega)
      rw [hat p (by omega)] at this
      exact hj (strF_empty.1 (Option.some.inj this) j)
    · exact h
    · exfalso
      obtain ⟨p, hp⟩ : ∃ p, stripN (strsF M) M.length = p + 1 := ⟨stripN (strsF M) M.length - 1, by omega⟩
      refine s2 p hp ?_
      rw [hat p (by omega)]
      refine congrArg some (strF_empty.2 fun j => ?_)
      refine Classical.byContradiction fun hj => ?_
      have := hR.ub p j hj
      omega
  refine ⟨hnM, ?_⟩
  rw [hk]
  refine List.ext_getElem? fun i => ?_
  rw [List.getElem?_take]
  by_cases hi : i < n
  · rw [if_pos hi, hat i (by omega), List.getElem?_map, List.getElem?_range hi, strF_line hw hR.rng]
    rfl
  · rw [if_neg hi, List.getElem?_eq_none (by rw [List.length_map, List.length_range]; omega)]
theorem both (b : List Int) : ∃ v : (List ByteArray × Int × Unit) × Unit, (∀ k, Print4 k b = some v) ∧ Ev (fun k => Printed5 k b) v ∧ v.1.1.length ≤ 400 := by
  by_cases hb : 20000 < b.length
  · refine ⟨(([], 2, ()), ()), fun k => ?_, ?_, Nat.zero_le _⟩
    · show (printF b).map _ = _
      unfold printF
      rw [if_pos hb]
      rfl
    · unfold Printed5
      exact .yes (decide_eq_true (by omega)) (.now _)
  · have hr := ref_run b (by omega) b.length 0 (by omega) (by omega) 0 0 [] [] (-1) rel_nil (by omega) (by omega) (Nat.zero_le _) (fun r h => by cases h)
    rw [List.drop_zero] at hr
    have hd : decide ((b.length : Int) > 20000) = false := decide_eq_false (by omega)
    cases hrun : runP b 0 0 [] with
    | inr er =>
      rw [hrun] at hr
      refine ⟨(([], er, ()), ()), fun k => ?_, ?_, Nat.zero_le _⟩
      · show (printF b).map _ = _
        unfold printF
        rw [if_neg hb, hrun]
        rfl
      · unfold Printed5
        exact .no hd (.joinR (α := Unit × Int × Ink) (Gp.Lp.ev hr))
    | inl M =>
      rw [hrun] at hr
      obtain ⟨hw, hM, m, last, hR, hlp⟩ := hr
      have hlo := hR.lo
      obtain ⟨n, hn⟩ : ∃ n : Nat, last + 1 = (n : Int) := ⟨(last + 1).toNat, by omega⟩
      obtain ⟨hnM, heq⟩ := lines_eq hR hw hn
      refine ⟨(((List.range n).map (lineF M), 0, ()), ()), fun k => ?_, ?_, by rw [List.length_map, List.length_range]; omega⟩
      · show (printF b).map _ = _
        unfold printF
        rw [if_neg hb, hrun]
        show some ((((strsF M).take (stripN (strsF M) M.length)), 0, ()), ()) = _
        rw [heq]
      · unfold Printed5
        exact .no hd (.joinL (S := Unit) hlp.ev (.bind (l4_lp hR n hn (by omega)).ev (.now _)))
end Go.Proofs.YtofendipdfepoaaDoor.Pr

/- What an argument of a law reads as, kind by kind. -/
set_option linter.unusedVariables false
noncomputable section
namespace Go.Proofs.YtofendipdfepoaaDoor.Gp
open Go Go.ChangeShapes Go.WideShapes Go.RowKit

/-- the input's memory, all of it frozen -/
def memH (W : World) : Hp := fun b => W.heap[b]?

structure Gd (P : Program) (t : TypeId) (k : K) (wf : k.den → Prop) (siz : k.den → Nat) : Prop where
  cells : P.cellsOf t = k.w
  one : k.one = true
  pur : k.pur = true
  val : ∀ {W : World} {r : Reach} {base : Nat} {v : Value}, Value.okWide P W r base t v → v = k.mk v.cells.toList
  read : ∀ {H : Type} {enc : TypeId × Value → H} {W : World} {base : Nat} {spare : Nat → Bool} {held : Bool} {fuel : Nat} {cs : List Value} {x : DataW H × List MemPlace},
    DataW.trod enc P W base spare held fuel t cs = some x → (∀ n ∈ x.1.weights P t, n ≤ reachBytes) → ∃ y, (∀ L, Lv (memH W) L k y cs) ∧ wf y ∧ siz y ≤ Rows.uptoBulk x.1

variable {P : Program}

theorem str_len {s : ByteArray} : s.data.toList.length = s.size := Array.length_toList
theorem gd_int {t : TypeId} {k : IntKind} (hu : P.underlying t = some (.int k)) (hc : P.cellsOf t = 1) : Gd P t (.int k) (fun (y : Int) => (Lit.int k y).wf = true) (fun _ => 1) :=
  ⟨hc, rfl, rfl, fun h => by obtain ⟨n, rfl⟩ := okWide_int hu h; rfl, fun h _ => by
    obtain ⟨n, rfl, rfl, hw⟩ := DataW.trod_int hu h
    exact ⟨n, fun _ => rfl, hw, by simp [Rows.uptoBulk]⟩⟩
theorem gd_str {t : TypeId} (hu : P.underlying t = some .string) (hc : P.cellsOf t = 1) : Gd P t .str (fun (y : ByteArray) => y.size ≤ 140737488351232) (fun (y : ByteArray) => y.size + 1) :=
  ⟨hc, rfl, rfl, fun h => by
    simp only [Value.okWide, hu, Cell.okWide] at h
    rename_i v
    cases v <;> first | rfl | (simp_all [Cell.ok]; done), fun h hw => by
    obtain ⟨s, rfl, rfl, _⟩ := DataW.trod_string hu h
    refine ⟨s, fun _ => rfl, ?_, ?_⟩
    · have := hw s.data.toList.length (by simp [DataW.weights])
      rw [str_len] at this
      exact this
    · simp only [Rows.uptoBulk]
      rw [str_len]
      omega⟩

theorem weights_all {H : Type} {e : TypeId} {n : Nat} : ∀ {l : List (DataW H)} {d : DataW H}, d ∈ l → n ∈ d.weights P e → n ∈ DataW.weightsAll P e l
  | x :: r, d, hd, hn => by
    rw [DataW.weightsAll]
    rcases List.mem_cons.1 hd with rfl | hd
    · exact List.mem_append_left _ hn
    · exact List.mem_append_right _ (weights_all hd hn)
theorem buildL {α : Type} {H : Type} {wf : α → Prop} {siz : α → Nat} : ∀ (es : List (DataW H × List MemPlace)) (p : Nat → α → Prop),
    (∀ i x, es[i]? = some x → ∃ y, p i y ∧ wf y ∧ siz y ≤ Rows.uptoBulk x.1) →
    ∃ ys : List α, ys.length = es.length ∧ (∀ j y, ys[j]? = some y → p j y ∧ wf y) ∧ (ys.map siz).sum ≤ Rows.uptoBulkAll (es.map (·.1))
  | [], _, _ => ⟨[], rfl, fun j y h => by simp at h, by simp⟩
  | x :: r, p, h => by
    obtain ⟨y, hp, hw, hs⟩ := h 0 x rfl
    obtain ⟨ys, hl, hy, hsum⟩ := buildL r (fun i => p (i + 1)) (fun i x hx => h (i + 1) x (by simpa using hx))
    refine ⟨y :: ys, by simp [hl], fun j z hz => ?_, ?_⟩
    · cases j with
      | zero => simp only [List.getElem?_cons_zero, Option.some.injEq] at hz; subst hz; exact ⟨hp, hw⟩
      | succ j => exact hy j z (by simpa using hz)
    · simp only [List.map_cons, List.sum_cons, Rows.uptoBulkAll]
      omega

def sizL {α : Type} (siz : α → Nat) (l : List α) : Nat := (l.map siz).sum + 1
def wfL {α : Type} (B : Nat) (wf : α → Prop) (l : List α) : Prop := l.length * B ≤ 140737488351232 ∧ ∀ y ∈ l, wf y

theorem LvL_mk {α : Type} {R : α → List Value → Prop} {w : Nat} {C : List Value} : ∀ {ys : List α} {o : Nat}, (∀ j y, ys[j]? = some y → ∃ c : List Value, c.length = w ∧ R y c ∧ ∀ i u, c[i]? = some u → C[o + (j * w + i)]? = some u) →
    LvL R ys ((C.drop o).take (ys.length * w))
  | [], o, h => by simp [LvL]
  | y :: ys, o, h => by
    obtain ⟨c, hc, hr, hu⟩ := h 0 y rfl
    have e : (C.drop o).take w = c := by
      apply List.ext_getElem?
      intro i
      rw [cut_get]
      by_cases hi : i < w
      · rw [if_pos hi]
        have hi' : i < c.length := by omega
        have := hu i c[i] (List.getElem?_eq_getElem hi')
        rw [Nat.zero_mul, Nat.zero_add] at this
        rw [this, List.getElem?_eq_getElem hi']
      · rw [if_neg hi, List.getElem?_eq_none (by omega)]
    refine ⟨c, (C.drop (o + w)).take (ys.length * w), ?_, hr, LvL_mk (fun j z hz => ?_)⟩
    · rw [List.length_cons, Nat.add_mul, Nat.one_mul, Nat.add_comm (ys.length * w) w, List.take_add, e, List.drop_drop]
    · obtain ⟨c', h1, h2, h3⟩ := h (j + 1) z hz
      refine ⟨c', h1, h2, fun i u hi => ?_⟩
      have := h3 i u hi
      rw [Nat.add_mul, Nat.one_mul] at this
      rw [show o + w + (j * w + i) = o + (j * w + w + i) by omega]
      exact this

theorem gd_sl {t e : TypeId} {k : K} {wf : k.den → Prop} {siz : k.den → Nat} {B : Nat} (hu : P.underlying t = some (.slice e)) (hc : P.cellsOf t = 1) (hB : P.bytesOf e = B) (hk : 0 < k.w) (r : Gd P e k wf siz) :
    Gd P t (.sl k) (wfL (α := k.den) B wf) (sizL (α := k.den) siz) :=
  ⟨hc, rfl, r.pur, fun h => by obtain ⟨a, len, cap, rfl⟩ := okWide_slice hu h; rfl, fun {H enc W base spare held fuel cs x} h hw => by
    rcases DataW.trod_slice hu h with ⟨rfl, rfl⟩ | ⟨a, len, cap, elems, rest, n, _, rfl, rfl, hb, hl, hm, hlen, hel, _, _⟩
    · exact ⟨([] : List k.den), fun L => ⟨r.pur, none, 0, rfl, Nat.le_refl _, fun hn => absurd rfl hn⟩, ⟨by simp, fun y hy => by simp at hy⟩, by simp [sizL, Rows.uptoBulk]⟩
    · simp only [DataW.weights, hu] at hw
      have hw1 : (elems.length + rest.length) * B ≤ 140737488351232 := by
        have := hw ((elems.length + rest.length) * B) (by simp [hB])
        exact this
      obtain ⟨ys, hyl, hyp, hys⟩ := buildL (wf := wf) (siz := siz) elems (fun i y => ∃ c : List Value, c.length = k.w ∧ (∀ L, Lv (memH W) L k y c) ∧ ∀ j u, c[j]? = some u → W.cell? (a.add (i * k.w + j)) = some u) (fun i z hz => by
        have hi : i < len := by
          have := (List.getElem?_eq_some_iff.1 hz).1
          omega
        have h1 := hel i hi
        rw [hz] at h1
        obtain ⟨c, hc1, hc2⟩ := Option.bind_eq_some_iff.1 h1
        obtain ⟨y, hK, hwf, hsz⟩ := r.read hc2 (fun q hq => hw q (List.mem_cons_of_mem _ (List.mem_append_left _ (weights_all (List.mem_map.2 ⟨z, List.mem_of_getElem? hz, rfl⟩) hq))))
        obtain ⟨_, hcl, hcell⟩ := World.cells?_some hc1
        refine ⟨y, ⟨c, Lv_len (hK default), hK, fun j u hu => ?_⟩, hwf, hsz⟩
        have hj : j < P.cellsOf e := by
          have := (List.getElem?_eq_some_iff.1 hu).1
          omega
        have h3 := hcell j hj
        rw [Go.Deep.add_add, r.cells] at h3
        rw [h3]
        exact hu)
      refine ⟨ys, fun L => ⟨r.pur, some a, cap, by rw [hyl, hlen], by omega, fun hn => ?_⟩, ⟨?_, fun y hy => ?_⟩, ?_⟩
      · have hn : ys.length ≠ 0 := hn
        obtain ⟨y, hy⟩ : ∃ y, ys[0]? = some y := ⟨ys[0]'(by omega), List.getElem?_eq_getElem (by omega)⟩
        obtain ⟨c, c1, c2, c3⟩ := (hyp 0 y hy).1
        obtain ⟨u, hu0⟩ : ∃ u, c[0]? = some u := ⟨c[0]'(by omega), List.getElem?_eq_getElem (by omega)⟩
        have hcell := c3 0 u hu0
        rw [Nat.zero_mul, Nat.zero_add, show a.add 0 = a from rfl] at hcell
        unfold World.cell? at hcell
        split at hcell
        · rename_i C ee zz hblk
          split at hcell
          · cases hcell
          · rename_i hsp
            have hsp : a.spot = none := by cases hs : a.spot with | none => rfl | some q => rw [hs] at hsp; exact absurd rfl hsp
            refine ⟨a.block, a.off, C, ee, zz, by cases a; simp only at hsp; rw [hsp], hblk, LvL_mk (C := C.toList) (fun j y hy => ?_)⟩
            obtain ⟨c, c1, c2, c3⟩ := (hyp j y hy).1
            refine ⟨c, c1, c2 L, fun i u hi => ?_⟩
            have h5 := c3 i u hi
            have hadd : (a.add (j * k.w + i)).block = a.block ∧ (a.add (j * k.w + i)).off = a.off + (j * k.w + i) ∧ (a.add (j * k.w + i)).spot = none := by
              unfold Addr.add
              split
              · rename_i h0; exact ⟨rfl, by omega, hsp⟩
              · exact ⟨rfl, rfl, rfl⟩
            unfold World.cell? at h5
            rw [hadd.1, hblk, hadd.2.1, hadd.2.2] at h5
            rw [Array.getElem?_toList]
            exact h5
        · cases hcell
      · rw [hyl]
        exact Nat.le_trans (Nat.mul_le_mul_right _ (Nat.le_add_right _ _)) hw1
      · obtain ⟨j, hj⟩ := List.mem_iff_getElem?.1 hy
        exact (hyp j y hj).2
      · simp only [sizL, Rows.uptoBulk]
        omega⟩

/-- fields in line, from cell 'off' on -/
structure GdF (P : Program) (off : Nat) (fs : List Field) (k : K) (wf : k.den → Prop) (siz : k.den → Nat) : Prop where
  pur : k.pur = true
  read : ∀ {H : Type} {enc : TypeId × Value → H} {W : World} {base : Nat} {spare : Nat → Bool} {held : Bool} {fuel : Nat} {cs : List Value} {xs : List (DataW H × List MemPlace)},
    cs.length = off + k.w → xs.length = fs.length →
    (∀ (i : Nat) (f : Field), fs[i]? = some f → DataW.trod enc P W base spare held fuel f.type ((cs.drop f.offset).take (P.cellsOf f.type)) = xs[i]?) →
    (∀ n ∈ DataW.weightsEach P (fs.map (·.type)) (xs.map (·.1)), n ≤ reachBytes) →
    ∃ y, (∀ L, Lv (memH W) L k y (cs.drop off)) ∧ wf y ∧ siz y ≤ Rows.uptoBulkAll (xs.map (·.1))

theorem gdf_cons {off : Nat} {f : Field} {fs : List Field} {k k' : K} {wf : k.den → Prop} {wf' : k'.den → Prop} {siz : k.den → Nat} {siz' : k'.den → Nat} (ho : f.offset = off) (r : Gd P f.type k wf siz)
    (rs : GdF P (off + k.w) fs k' wf' siz') : GdF P off (f :: fs) (.pair k k') (fun (y : k.den × k'.den) => wf y.1 ∧ wf' y.2) (fun (y : k.den × k'.den) => siz y.1 + siz' y.2) := by
  refine ⟨by simp only [K.pur, r.pur, rs.pur]; rfl, ?_⟩
  intro H enc W base spare held fuel cs xs hl hxl hx hw
  have hl' : cs.length = off + (k.w + k'.w) := hl
  match xs, hxl with
  | x :: xs, hxl =>
    have h := hx 0 f rfl
    rw [ho, r.cells] at h
    simp only [List.getElem?_cons_zero] at h
    obtain ⟨y, h1, h2, h3⟩ := r.read h (fun n hn => hw n (by simp [DataW.weightsEach, hn]))
    obtain ⟨z, g1, g2, g3⟩ := rs.read (enc := enc) (W := W) (base := base) (spare := spare) (held := held) (fuel := fuel) (cs := cs) (xs := xs) (by omega) (by simpa using hxl)
      (fun i g hg => by simpa using hx (i + 1) g (by simpa using hg)) (fun n hn => hw n (by simp only [List.map_cons, DataW.weightsEach]; exact List.mem_append_right _ hn))
    refine ⟨(y, z), fun L => ⟨(cs.drop off).take k.w, cs.drop (off + k.w), ?_, h1 L, g1 L⟩, ⟨h2, g2⟩, ?_⟩
    · rw [← List.drop_drop]
      exact (List.take_append_drop _ _).symm
    · simp only [List.map_cons, Rows.uptoBulkAll]
      omega
theorem gdf_one {off : Nat} {f : Field} {k : K} {wf : k.den → Prop} {siz : k.den → Nat} (ho : f.offset = off) (r : Gd P f.type k wf siz) : GdF P off [f] k wf siz := by
  refine ⟨r.pur, ?_⟩
  intro H enc W base spare held fuel cs xs hl hxl hx hw
  match xs, hxl with
  | [x], hxl =>
    have h := hx 0 f rfl
    rw [ho, r.cells] at h
    simp only [List.getElem?_cons_zero] at h
    have e : (cs.drop off).take k.w = cs.drop off := List.take_of_length_le (by rw [List.length_drop, hl]; omega)
    rw [e] at h
    obtain ⟨y, h1, h2, h3⟩ := r.read h (fun n hn => hw n (by simp [DataW.weightsEach, hn]))
    refine ⟨y, h1, h2, ?_⟩
    simp only [List.map_cons, List.map_nil, Rows.uptoBulkAll]
    omega
theorem gd_st {t : TypeId} {fs : Array Field} {k : K} {wf : k.den → Prop} {siz : k.den → Nat} (hu : P.underlying t = some (.struct fs)) (hc : P.cellsOf t = k.w) (r : GdF P 0 fs.toList k wf siz) : Gd P t (.st k) wf siz :=
  ⟨hc, rfl, r.pur, fun h => by
    simp only [Value.okWide, hu] at h
    obtain ⟨cs, rfl, _⟩ := h
    rfl, fun h hw => by
    obtain ⟨xs, n, _, rfl, hl, hxl, hx⟩ := DataW.trod_struct hu h
    obtain ⟨y, h1, h2, h3⟩ := r.read (by rw [hl, hc]; omega) (by rw [hxl]; simp) (fun i f hf => hx i f (by simpa using hf)) (fun n hn => hw n (by simp only [DataW.weights, hu]; exact hn))
    refine ⟨y, h1, h2, ?_⟩
    simp only [Rows.uptoBulk]
    omega⟩

/-- an argument -/
theorem Gd.arg {t : TypeId} {k : K} {wf : k.den → Prop} {siz : k.den → Nat} (r : Gd P t k wf siz) {H : Type} {enc : TypeId × Value → H} {W : World} {base : Nat} {spare : Nat → Bool} {held : Bool} {rr : Reach} {b2 : Nat} {v : Value} {x : DataW H} {ps : List MemPlace}
    (hval : Value.okWide P W rr b2 t v) (h : DataW.Trod enc P W base spare held t v x ps) (hw : ∀ n ∈ x.weights P t, n ≤ reachBytes) : ∃ y : k.den, (∀ L, SR (memH W) L ⟨k, y⟩ v) ∧ wf y ∧ siz y ≤ Rows.uptoBulk x := by
  obtain ⟨fuel, hf⟩ := h
  obtain ⟨y, h1, h2, h3⟩ := r.read hf hw
  refine ⟨y, fun L => ?_, h2, h3⟩
  rw [r.val hval]
  exact SR_mk (h1 L)

def noLoc : Ls := fun _ => default
theorem law_calls {fuel : Nat} {f : FuncId} {params : List K} {run : Nat → HL params → HL (List.map (·.toK) ([] : List OK)) → Option (K.bool.den × HL (List.map (·.toK) ([] : List OK)))} (hs : SoundAt P fuel ⟨f, params, [], .bool, [], [], run⟩) {ds : HL params}
    (hr : run fuel ds () = some (true, ())) {args : Array Value} {W : World} (hv : SRs (memH W) noLoc (unpackL params ds) args.toList) (hg : GH (memH W) := by exact GH.none _) : Calls P f args W (fun e W' => e = .returned (.bool true) ∧ Below W.heap.size W W') := by
  have hno : ∀ b, ¬ Own (assoc O.dead (objsFrom 0 ([] : List OK) ())) noLoc b := fun b ⟨i, hi, _⟩ => hi
  refine Calls.mono (hs.2 ds () (true, ()) hr args W (memH W) noLoc hv ⟨fun i => trivial, fun b o h => h, fun i hi => hi.elim, fun i j hi => hi.elim, hg⟩ (fun i hi => by cases hi)) fun e W' hh => ?_
  obtain ⟨v, H', L', rfl, h1, _, _, hp⟩ := hh
  have h1 : SR H' L' ⟨.bool, true⟩ v := h1
  refine ⟨by rw [bool_at h1], hp.fr.os, hp.fr.tape, hp.fr.output, hp.fr.size, fun b hb => hp.fr.same b hb (hno b)⟩
/-- The weights of one argument. -/
theorem weights_at {H : Type} {ts : List TypeId} {ds : List (DataW H)} (hsz : (DataW.weightsEach P ts ds).all (· ≤ reachBytes) = true) (j : Nat) {t : TypeId} {d : DataW H} (ht : ts[j]? = some t) (hd : ds[j]? = some d) :
    ∀ n ∈ d.weights P t, n ≤ reachBytes := fun n hn => by
  have := List.all_eq_true.1 hsz n (DataW.weights_mem_each ht hd n hn)
  simpa using this

end Go.Proofs.YtofendipdfepoaaDoor.Gp

/- Paper: bytes and typed lines; the law. -/
set_option linter.unusedVariables false
set_option maxRecDepth 100000
noncomputable section
namespace Go.Proofs.YtofendipdfepoaaDoor.Pr
open Go Go.Proofs.YtofendipdfepoaaDoor.Gp

abbrev Out := Int × (ByteArray × Int)
def sendF (chip : ByteArray) (l : List Int) (o : Out) : List Int := bif streq o.2.1 chip then l ++ [IntKind.wrap .u8 o.2.2] else l
theorem sendF_len (chip : ByteArray) (l : List Int) (o : Out) : (sendF chip l o).length ≤ l.length + 1 := by
  unfold sendF
  cases streq o.2.1 chip with
  | true => show (l ++ [IntKind.wrap .u8 o.2.2]).length ≤ _; rw [List.length_append]; exact Nat.le_refl _
  | false => exact Nat.le_succ _
theorem wrap_mod (n : Int) : IntKind.wrap .u8 (Int.tmod (w64 ((Int.tmod n 256) + 256)) 256) = IntKind.wrap .u8 n := by
  have h1 : -255 ≤ Int.tmod n 256 ∧ Int.tmod n 256 ≤ 255 := by
    have a := Int.tmod_lt_of_pos n (show (0 : Int) < 256 by decide)
    have b := Int.lt_tmod_of_pos n (show (0 : Int) < 256 by decide)
    omega
  rw [w64_id (by omega) (by omega)]
  have h2 : ∀ x : Int, IntKind.wrap .u8 x = x % 256 := fun x => by simp [IntKind.wrap, IntKind.signed, IntKind.bits]
  rw [h2, h2]
  have h3 : Int.tmod n 256 = n % 256 ∨ Int.tmod n 256 = n % 256 - 256 := by
    rw [Int.tmod_eq_emod]
    split
    · left; omega
    · right; rfl
  have h4 : Int.tmod (Int.tmod n 256 + 256) 256 = (Int.tmod n 256 + 256) % 256 := Int.tmod_eq_emod_of_nonneg (by omega)
  rw [h4]
  omega
theorem sent_lp (outs : List Out) (chip : ByteArray) (hl : outs.length * 32 ≤ 140737488351232) : Gp.Lp (fun k => PaperPrints3.l0 k outs chip) ((), 0, []) ((), outs.foldl (sendF chip) []) := by
  refine Gp.Lp.fold (body := fun k => PaperPrints3.l0 k outs chip) outs (fun l i => ((), i, l)) (sendF chip) (fun l => ((), l)) (fun i l => l.length ≤ i) (fun i o l ho hi => ⟨?_, Nat.le_trans (sendF_len chip l o) (Nat.succ_le_succ hi)⟩) (fun l hi => ?_) (b := []) (Nat.le_refl _)
  · have hil := get_lt ho
    refine .of (.now _) fun k => ?_
    unfold PaperPrints3.l0
    dsimp only
    rw [decide_eq_true (show (i : Int) < outs.length by omega), rd_some' ho]
    simp only [cond_true, Option.bind_some, wrap_mod, w64_id (x := (i : Int) + 1) (by omega) (by omega), room_ok (n := l.length + 1) (b := 1) (by omega), List.length_cons, List.length_nil, Nat.zero_add, if_true]
    unfold sendF
    cases streq o.2.1 chip <;> rfl
  · refine .of (.now _) fun k => ?_
    unfold PaperPrints3.l0
    dsimp only
    rw [decide_eq_false (by omega)]
    rfl
theorem bytes_ev (outs : List Out) (chip : ByteArray) (hl : outs.length * 32 ≤ 140737488351232) : Ev (fun k => Bytes8 k outs chip) (outs.foldl (sendF chip) [], ()) := by
  have hlp : Gp.Lp (fun k => Bytes8.l0 k outs chip) ((), 0, []) ((), outs.foldl (sendF chip) []) := by
    refine Gp.Lp.fold (body := fun k => Bytes8.l0 k outs chip) outs (fun l i => ((), i, l)) (sendF chip) (fun l => ((), l)) (fun i l => l.length ≤ i) (fun i o l ho hi => ⟨?_, Nat.le_trans (sendF_len chip l o) (Nat.succ_le_succ hi)⟩) (fun l hi => ?_) (b := []) (Nat.le_refl _)
    · have hil := get_lt ho
      refine .of (.now _) fun k => ?_
      unfold Bytes8.l0
      dsimp only
      rw [decide_eq_true (show (i : Int) < outs.length by omega), rd_some' ho]
      simp only [cond_true, Option.bind_some, w64_id (x := (i : Int) + 1) (by omega) (by omega), room_ok (n := l.length + 1) (b := 1) (by omega), List.length_cons, List.length_nil, Nat.zero_add, if_true]
      unfold sendF
      cases streq o.2.1 chip <;> rfl
    · refine .of (.now _) fun k => ?_
      unfold Bytes8.l0
      dsimp only
      rw [decide_eq_false (by omega)]
      rfl
  unfold Bytes8
  exact .bind hlp.ev (.now _)
theorem sent_len (outs : List Out) (chip : ByteArray) : ∀ l : List Int, (outs.foldl (sendF chip) l).length ≤ l.length + outs.length := by
  induction outs with
  | nil => exact fun l => Nat.le_refl _
  | cons o outs ih =>
    intro l
    rw [List.foldl_cons, List.length_cons]
    have := ih (sendF chip l o)
    have := sendF_len chip l o
    omega
theorem equalB_ev (s : List Int) (hs : s.length ≤ 140737488351232) : Ev (fun k => Equal7 k s s) (true, ()) := by
  have hlp : Gp.Lp (fun k => Equal7.l0 k s s) 0 (.inl ()) := by
    have := Gp.Lp.fold (body := fun k => Equal7.l0 k s s) s (fun (_ : Unit) i => i) (fun _ _ => ()) (fun _ => (.inl () : Unit ⊕ (Bool × Unit))) (fun _ _ => True) (fun i c n hc hn => ⟨?_, trivial⟩) (fun n hn => ?_) (b := ()) trivial
    · exact this
    · have hl := get_lt hc
      refine .of (.now _) fun k => ?_
      unfold Equal7.l0
      simp only [rd_some' hc, Option.bind_some, w64_id (x := (i : Int) + 1) (by omega) (by omega)]
      rw [decide_eq_true (by omega), show (c != c) = false by simp]
      rfl
    · refine .of (.now _) fun k => ?_
      unfold Equal7.l0
      dsimp only
      rw [decide_eq_false (by omega)]
      rfl
  unfold Equal7
  refine .no (by simp) (.joinL (S := Unit) hlp.ev (.now _))
theorem equalS_ev (s : List ByteArray) (hs : s.length ≤ 4096) : Ev (fun k => Equal9 k s s) (true, ()) := by
  have hlp : Gp.Lp (fun k => Equal9.l0 k s s) 0 (.inl ()) := by
    have := Gp.Lp.fold (body := fun k => Equal9.l0 k s s) s (fun (_ : Unit) i => i) (fun _ _ => ()) (fun _ => (.inl () : Unit ⊕ (Bool × Unit))) (fun _ _ => True) (fun i c n hc hn => ⟨?_, trivial⟩) (fun n hn => ?_) (b := ()) trivial
    · exact this
    · have hl := get_lt hc
      refine .of (.now _) fun k => ?_
      unfold Equal9.l0
      simp only [rd_some' hc, Option.bind_some, w64_id (x := (i : Int) + 1) (by omega) (by omega), streq_refl]
      rw [decide_eq_true (by omega)]
      rfl
    · refine .of (.now _) fun k => ?_
      unfold Equal9.l0
      dsimp only
      rw [decide_eq_false (by omega)]
      rfl
  unfold Equal9
  refine .no (by simp) (.joinL (S := Unit) hlp.ev (.now _))
/-- is a byte one that can't be printed -/
def badB (c : Int) : Bool := bif decide (c < 32) then true else decide (c > 126)
theorem bytes_len (t : ByteArray) : (bytesOf t).length = t.size := by
  unfold bytesOf
  rw [List.length_map, Array.length_toList]
  rfl
abbrev T0 := (Unit × List Int) ⊕ ((Unit × Int × List Int) ⊕ ((Unit × List Int) ⊕ ((List Int × Int × Unit) × Unit)))
theorem type0_lp (t : ByteArray) (ht : t.size ≤ 140737488351232) (o : List Int) :
    Gp.Lp (fun k => Type10.l0 k t) ((), 0, o) (if (bytesOf t).any badB = true then .inr (.inr (.inr (([], 3, ()), ()))) else .inl ((), o)) := by
  have h := Gp.Lp.walk (body := fun k => Type10.l0 k t) (bytesOf t) (fun (_ : Unit) i => ((), i, o)) (fun _ c => if badB c = true then .inr (.inr (.inr (.inr (([], 3, ()), ())))) else .inl ()) (fun _ => (.inl ((), o) : T0)) (fun _ _ => True) (fun i c b hc hn => ⟨?_, fun _ _ => trivial⟩) (fun b hn => ?_) (b := ()) trivial
  · have hw : ∀ l : List Int, walk (fun (_ : Unit) c => if badB c = true then (.inr (.inr (.inr (.inr (([], 3, ()), ())))) : Unit ⊕ T0) else .inl ()) (fun _ => .inl ((), o)) l () = if l.any badB = true then .inr (.inr (.inr (([], 3, ()), ()))) else .inl ((), o) := by
      intro l
      induction l with
      | nil => rfl
      | cons c l ih =>
        rw [walk_cons, List.any_cons]
        cases hc : badB c with
        | true => rfl
        | false => exact ih
    rw [hw] at h
    exact h
  · have hl := get_lt hc
    have hsz : (bytesOf t).length = t.size := bytes_len t
    refine .of (.now _) fun k => ?_
    unfold Type10.l0
    dsimp only
    rw [decide_eq_true (show (i : Int) < (t.size : Int) by omega), rd_some' hc]
    simp only [cond_true, Option.bind_some, w64_id (x := (i : Int) + 1) (by omega) (by omega)]
    unfold badB
    by_cases h32 : c < 32
    · rw [decide_eq_true h32]; rfl
    · rw [decide_eq_false h32]
      by_cases h126 : c > 126
      · rw [decide_eq_true h126]; rfl
      · rw [decide_eq_false h126]; rfl
  · have hsz : (bytesOf t).length = t.size := bytes_len t
    refine .of (.now _) fun k => ?_
    unfold Type10.l0
    dsimp only
    rw [decide_eq_false (by omega)]
    rfl
def lawC (f c : Int) : Int := bif (bif (f == 0) then badB c else false) then 3 else f
theorem law1_lp (t : ByteArray) (ht : t.size ≤ 140737488351232) (f : Int) :
    Gp.Lp (fun k => PaperPrints3.l1 k t) (f, (), 0, bytesOf t) ((bytesOf t).foldl lawC f) := by
  refine Gp.Lp.fold (body := fun k => PaperPrints3.l1 k t) (bytesOf t) (fun f i => (f, (), i, bytesOf t)) lawC (fun f => f) (fun _ _ => True) (fun i c f hc hn => ⟨?_, trivial⟩) (fun f hn => ?_) trivial
  · have hl := get_lt hc
    have hsz : (bytesOf t).length = t.size := bytes_len t
    refine .of (.now _) fun k => ?_
    unfold PaperPrints3.l1
    dsimp only
    rw [decide_eq_true (show (i : Int) < ((bytesOf t).length : Int) by omega), rd_some' hc]
    simp only [cond_true, Option.bind_some, w64_id (x := (i : Int) + 1) (by omega) (by omega)]
    unfold lawC badB
    cases (bif (f == 0) then (bif decide (c < 32) then true else decide (c > 126)) else false) <;> rfl
  · refine .of (.now _) fun k => ?_
    unfold PaperPrints3.l1
    dsimp only
    rw [decide_eq_false (by omega)]
    rfl
theorem lawC_stay {f : Int} (hf : f ≠ 0) : ∀ l : List Int, l.foldl lawC f = f
  | [] => rfl
  | c :: l => by
    rw [List.foldl_cons]
    have : lawC f c = f := by unfold lawC; rw [beq_false_of_ne hf]; rfl
    rw [this]
    exact lawC_stay hf l
theorem lawC_zero : ∀ l : List Int, l.foldl lawC 0 = if l.any badB = true then 3 else 0
  | [] => rfl
  | c :: l => by
    rw [List.foldl_cons, List.any_cons]
    cases hc : badB c with
    | true =>
      have : lawC 0 c = 3 := by unfold lawC; rw [hc]; rfl
      rw [this, lawC_stay (by decide)]
      rfl
    | false =>
      have : lawC 0 c = 0 := by unfold lawC; rw [hc]; rfl
      rw [this]
      exact lawC_zero l
/-- what typing comes to -/
abbrev TyT := (Unit × List Int) ⊕ ((List Int × Int × Unit) × Unit)
theorem b8_bytes (t : ByteArray) : (bytesOf t).map b8 = t.data.toList := by
  unfold bytesOf b8
  rw [List.map_map]
  refine (List.map_congr_left fun x _ => ?_).trans (List.map_id _)
  show UInt8.ofNat ((x.toNat : Int)).toNat = x
  rw [Int.toNat_natCast, UInt8.ofNat_toNat]
theorem mk_data (t : ByteArray) : mkB t.data.toList = t := by
  unfold mkB
  exact ByteArray.ext (by simp)
theorem typed (l : List ByteArray) (hl : l.length ≤ 400) (hs : ∀ t ∈ l, t.size ≤ 140737488351232) : ∀ n i : Nat, l.length ≤ i + n → i ≤ l.length → ∀ o : List Int, o.length ≤ 50 * i →
    ∃ (r : TyT) (f : Int) (text : ByteArray), Gp.Lp (fun k => Type10.l1 k l) ((), (i : Int), o) r ∧ Gp.Lp (fun k => PaperPrints3.l2 k l) (0, mkB (o.map b8), (i : Int)) (f, text) ∧ ((∃ o', r = .inl ((), o') ∧ f = 0 ∧ text = strOf o') ∨ (f ≠ 0 ∧ r = .inr (([], f, ()), ()))) := by
  have fin : ∀ o : List Int, ∃ (r : TyT) (f : Int) (text : ByteArray), Gp.Lp (fun k => Type10.l1 k l) ((), (l.length : Int), o) r ∧ Gp.Lp (fun k => PaperPrints3.l2 k l) (0, mkB (o.map b8), (l.length : Int)) (f, text) ∧ ((∃ o', r = .inl ((), o') ∧ f = 0 ∧ text = strOf o') ∨ (f ≠ 0 ∧ r = .inr (([], f, ()), ()))) := by
    intro o
    refine ⟨.inl ((), o), 0, mkB (o.map b8), .done (.of (.now _) fun k => ?_), .done (.of (.now _) fun k => ?_), .inl ⟨o, rfl, rfl, rfl⟩⟩
    · unfold Type10.l1
      dsimp only
      rw [decide_eq_false (by omega)]
      rfl
    · unfold PaperPrints3.l2
      dsimp only
      rw [decide_eq_false (by omega)]
      rfl
  intro n
  induction n with
  | zero =>
    intro i h1 h2 o ho
    obtain rfl : i = l.length := by omega
    exact fin o
  | succ n ih =>
    intro i h1 h2 o ho
    by_cases hi : i < l.length
    · have hx : l[i]? = some l[i] := List.getElem?_eq_getElem hi
      have ht := hs _ (List.getElem_mem hi)
      generalize l[i] = t at hx ht
      have hil : decide ((i : Int) < l.length) = true := decide_eq_true (by omega)
      have hbl := bytes_len t
      have hww : w64 ((i : Int) + 1) = ((i + 1 : Nat) : Int) := w64_succ (by omega)
      have htm : t = mkB ((bytesOf t).map b8) := by rw [b8_bytes, mk_data]
      have hcr : catS t (ByteArray.mk #[13, 10]) = some (mkB ((bytesOf t).map b8 ++ [13, 10])) := by
        have := cat_mk (a := (bytesOf t).map b8) (b := [13, 10]) (by rw [List.length_map]; show _ + 2 ≤ _; omega)
        rw [← htm] at this
        exact this
      -- the law's round
      have law : ∀ f2 : Int, (bif decide ((t.size : Int) > 40) then some 2 else some 0) = some f2 → Ev (fun k => PaperPrints3.l2 k l (0, mkB (o.map b8), (i : Int))) (.inl ((bytesOf t).foldl lawC f2, mkB (o.map b8 ++ ((bytesOf t).map b8 ++ [13, 10])), ((i + 1 : Nat) : Int))) := by
        intro f2 hf2
        have hcat := cat_mk (a := o.map b8) (b := (bytesOf t).map b8 ++ [13, 10]) (by rw [List.length_append, List.length_map, List.length_map]; show _ + (_ + 2) ≤ _; omega)
        unfold PaperPrints3.l2
        refine .yes hil (.val (rd_some' hx) (.no rfl (.val hf2 (.bind (law1_lp t ht f2).ev (.of (.now _) fun k => ?_)))))
        rw [hcr]
        show (catS (mkB (o.map b8)) _).bind _ = _
        rw [hcat]
        show some (Sum.inl (_, _, w64 ((i : Int) + 1))) = _
        rw [hww]
      -- the law's end behind a fault
      have lawEnd : ∀ f3 text, f3 ≠ 0 → Gp.Lp (fun k => PaperPrints3.l2 k l) (f3, text, ((i + 1 : Nat) : Int)) (f3, text) := by
        intro f3 text h3
        refine .done (.of (.now _) fun k => ?_)
        unfold PaperPrints3.l2
        dsimp only
        by_cases hi2 : i + 1 < l.length
        · rw [decide_eq_true (by omega), rd_some' (List.getElem?_eq_getElem hi2)]
          simp only [cond_true, Option.bind_some, show (f3 != 0) = true from bne_iff_ne.2 h3]
        · rw [decide_eq_false (by omega)]
          rfl
      by_cases h40 : t.size > 40
      · have hd : decide ((t.size : Int) > 40) = true := decide_eq_true (by omega)
        have hst := law 2 (by rw [hd]; rfl)
        rw [lawC_stay (by decide)] at hst
        refine ⟨.inr (([], 2, ()), ()), 2, _, .done ?_, .step hst (lawEnd 2 _ (by decide)), .inr ⟨by decide, rfl⟩⟩
        unfold Type10.l1
        exact .yes hil (.val (rd_some' hx) (.yes hd (.now _)))
      · have hd : decide ((t.size : Int) > 40) = false := decide_eq_false (by omega)
        have hst := law 0 (by rw [hd]; rfl)
        rw [lawC_zero] at hst
        have h0 := type0_lp t ht o
        by_cases hbad : (bytesOf t).any badB = true
        · rw [if_pos hbad] at hst h0
          refine ⟨.inr (([], 3, ()), ()), 3, _, .done ?_, .step hst (lawEnd 3 _ (by decide)), .inr ⟨by decide, rfl⟩⟩
          unfold Type10.l1
          exact .yes hil (.val (rd_some' hx) (.no hd (.joinR (α := Unit × List Int) h0.ev)))
        · rw [if_neg hbad] at hst h0
          obtain ⟨r, f, text, k1, k2, k3⟩ := ih (i + 1) (by omega) (by omega) (o ++ bytesOf t ++ [13, 10]) (by
            rw [List.length_append, List.length_append]
            show o.length + (bytesOf t).length + 2 ≤ _
            omega)
          refine ⟨r, f, text, .step ?_ k1, .step hst ?_, k3⟩
          · unfold Type10.l1
            refine .yes hil (.val (rd_some' hx) (.no hd (.joinL (S := Unit) h0.ev (.of (.now _) fun k => ?_))))
            dsimp only
            rw [room_ok (n := o.length + (bytesOf t).length) (b := 1) (by omega), room_ok (n := (o ++ bytesOf t).length + ([13, 10] : List Int).length) (b := 1) (by rw [List.length_append]; show (_ + 2) * 1 ≤ _; omega), hww]
            rfl
          · have e : (o ++ bytesOf t ++ [13, 10]).map b8 = o.map b8 ++ ((bytesOf t).map b8 ++ [13, 10]) := by
              rw [List.map_append, List.map_append, List.append_assoc]
              rfl
            rw [e] at k2
            exact k2
    · obtain rfl : i = l.length := by omega
      exact fin o
theorem law (outs : List Out) (chip : ByteArray) (b : List Int) (l : List ByteArray) (ho : outs.length * 32 ≤ 140737488351232) (hs : ∀ t ∈ l, t.size ≤ 140737488351232) : Ev (fun k => PaperPrints3 k outs chip b l) (true, ()) := by
  obtain ⟨v, hv1, hv2, hv3⟩ := both b
  have hsl := sent_len outs chip []
  have hp : ∀ k, printed6 k = some (true, ()) := fun k => rfl
  have hsl : (outs.foldl (sendF chip) []).length ≤ 140737488351232 := by
    have : (outs.foldl (sendF chip) []).length ≤ 0 + outs.length := hsl
    omega
  unfold PaperPrints3
  refine .bind (sent_lp outs chip ho).ev (.bind ⟨0, fun k _ => hv1 k⟩ (.bind hv2 (.bind ⟨0, fun k _ => hp k⟩ (.bind (a := false) ?_ (.bind (a := false) ?_ (.no rfl ?_))))))
  · exact .no rfl (.bind (bytes_ev outs chip ho) (.bind (equalB_ev _ hsl) (.now _)))
  · exact .no (by simp) (.bind (equalS_ev v.1.1 (by omega)) (.now _))
  · have endE : ∀ (f : Int) (t : (List Int × Int × Unit) × Unit) (text : ByteArray), Ev (fun k => Type10 k l) t → t.1.2.1 = f → streq (strOf t.1.1) (if f ≠ 0 then ByteArray.mk #[] else text) = true →
        Ev (fun k => Option.bind (cond (f != 0) (some (ByteArray.mk #[])) (some text) : Option ByteArray) fun (text_2 : ByteArray) => (Type10 k l).bind fun t114 => some ((cond (t114.1.2.1 == f) (streq (strOf t114.1.1) text_2) false), ())) (true, ()) := by
      intro f t text h1 h2 h3
      refine .bind (a := if f ≠ 0 then ByteArray.mk #[] else text) (.of (.now _) fun k => ?_) (.bind h1 (.now' ?_))
      · by_cases h : f = 0
        · rw [if_neg (fun x => x h), h]; rfl
        · rw [if_pos h, show (f != 0) = true from bne_iff_ne.2 h]; rfl
      · rw [h2, beq_self_eq_true, h3]
        rfl
    by_cases hlen : (l.length : Int) > 400
    · refine .bind (a := 2) (.yes (decide_eq_true hlen) (.now _)) (.bind (a := (2, ByteArray.mk #[])) ?_ ?_)
      · have h0 : l[0]? = some l[0] := List.getElem?_eq_getElem (by omega)
        refine Gp.Lp.ev (.done (.of (.now _) fun k => ?_))
        unfold PaperPrints3.l2
        dsimp only
        rw [decide_eq_true (by omega), show rd l 0 = some l[0] from rd_at (i := 0) rfl h0]
        rfl
      · refine endE 2 (([], 2, ()), ()) _ ?_ rfl (streq_refl _)
        unfold Type10
        exact .yes (decide_eq_true hlen) (.now _)
    · obtain ⟨r, f, text, k1, k2, k3⟩ := typed l (by omega) hs l.length 0 (by omega) (by omega) [] (Nat.zero_le _)
      refine .bind (a := 0) (.no (decide_eq_false hlen) (.now _)) (.bind (a := (f, text)) k2.ev ?_)
      rcases k3 with ⟨o', rfl, rfl, rfl⟩ | ⟨hf, rfl⟩
      · refine endE 0 ((o', 0, ()), ()) _ ?_ rfl (streq_refl _)
        unfold Type10
        exact .no (decide_eq_false hlen) (.joinL (S := Unit) k1.ev (.now _))
      · refine endE f (([], f, ()), ()) _ ?_ rfl (by rw [if_pos hf]; exact streq_refl _)
        unfold Type10
        exact .no (decide_eq_false hlen) (.joinR (α := Unit × List Int) k1.ev)
theorem paperPrints (outs : List Out) (chip : ByteArray) (b : List Int) (l : List ByteArray) {wo : Out → Prop} (h1 : wfL (α := Out) 32 wo outs) {p q : Prop} (_ : p) (_ : q) (h2 : wfL (α := ByteArray) 16 (fun (y : ByteArray) => y.size ≤ 140737488351232) l) : ∃ k, PaperPrints3 k outs chip b l = some (true, ()) := (law outs chip b l h1.1 h2.2).ex
end Go.Proofs.YtofendipdfepoaaDoor.Pr

/- The wrap of a row whose listed variables read as told, the world's shape kept. -/
namespace Go.Proofs.YtofendipdfepoaaDoor.Gp
open Go
noncomputable section
def litV : Lit → Value
  | .int k n => .int k n
  | .bool b => .bool b
  | .string l => .string ⟨l.toArray⟩
  | _ => .bool false
def c1 : DataW Unit → List Value
  | .lit x => [litV x]
  | _ => []
def c2 : DataW Unit → List Value
  | .agg l => l.flatMap c1
  | d => c1 d
def c3 : DataW Unit → List Value
  | .agg l => l.flatMap c2
  | d => c1 d
def putVar (P : Program) (h : Array Obj) (x : String × DataW Unit) : Array Obj := match P.globalNamed x.1 with
  | some g => h.modify g fun | .cells _ t frozen => .cells (c3 x.2).toArray t frozen | o => o
  | none => h
/-- a world in which the listed variables read as told -/
def laidWorld (P : Program) (laid : List (String × DataW Unit)) (os : Os) : World := { World.holding P os ⟨#[], #[], []⟩ with heap := laid.foldl (putVar P) (World.holding P os ⟨#[], #[], []⟩).heap }
end
variable {H : Type} {enc : TypeId × Value → H}
theorem returns_laid {a : Assume} {C : Checked} {os : Os} {f : FuncId} {fn : Func} {s : ChangeSpec} {conds : List PathCond} {apart fresh handsOn again : Bool} {X : World → Array Value → Prop}
    (hX : ∀ (w w' : World) (args : Array Value), w.heap = w'.heap → X w args → X w' args)
    (own : ownKnob C.prog.godebug = none) (started : os.Started) (noInit : C.prog.inits.idxOf? f = none) (hfn : C.prog.funcs[f]? = some fn)
    (witness : ∃ (w : World) (tape : Tape) (i : Input), w.os = os ∧ (w.forCall tape i).Shaped C.prog ∧ i.vars = [] ∧ Input.okWide C.prog (w.forCall tape i) .any w.heap.size f i ∧
      ((s.pre enc C.prog fn conds apart (w.forCall tape i).memory i.args ∧ X (w.forCall tape i).memory i.args) ∧ sizedMet enc C.prog fn (OpenSpec.ofChange s) apart (w.forCall tape i).memory i.args) ∧ a.holds C.prog (lone (Frame.enter C.prog f i.args .normal) [] (w.forCall tape i)))
    (contract : ∀ (W : World) (base : Nat) (args : Array Value) (ds gs : List (DataW H)) (before : List MemPlace),
      (∀ (j : Nat) t v, fn.params[j]? = some t → args[j]? = some v → Value.okWide C.prog W .any base t v) →
      DataW.Whole enc C.prog fn.params.toList s.vars apart W args.toList ds gs before →
      (DataW.weightsEach C.prog (fn.params.toList ++ s.plain.varTypes C.prog) (ds ++ gs)).all (· ≤ reachBytes) = true → X W args → W.ShapedOpen C.prog →
      Calls C.prog f args W fun e W' => ∃ v, e = .returned v ∧ s.post enc C.prog fn apart fresh handsOn again W args v W') :
    ReturnsInHanded a C os f .any (fun w args => (s.pre enc C.prog fn conds apart w args ∧ X w args) ∧ sizedMet enc C.prog fn (OpenSpec.ofChange s) apart w args) (s.post enc C.prog fn apart fresh handsOn again) := by
  refine returnsInHanded_of_calls own started noInit witness ?_
  intro w tape i _ hsh _ hok hpre hholds
  obtain ⟨_, _, _, fn', hfn', _, _, _, _, hval⟩ := hok
  have e : fn' = fn := Option.some.inj (hfn'.symm.trans hfn)
  subst e
  obtain ⟨⟨⟨ds, gs, before, hw, hc⟩, hx⟩, hz⟩ := hpre
  have hw' := DataW.Whole.of_heap (w' := w.forCall tape i) (by rfl) hw
  refine (contract (w.forCall tape i) w.heap.size i.args ds gs before hval hw' (hz.weights hw) (hX _ _ _ (by rfl) hx) hsh).mono fun e W' ⟨v, he, hp⟩ => ?_
  subst he
  exact ChangeSpec.post_blind hp
end Go.Proofs.YtofendipdfepoaaDoor.Gp

/- The row of PaperPrints: Bytes, Print and Type return what the reference says for all bytes and lines.. The law returns true for every input; the input reads as it did. -/
namespace Go.Proofs.YtofendipdfepoaaDoor.paperPrints
open Go.ChangeShapes Go.WideShapes Go.ChangeAt Go.RowKit Go.Proofs.YtofendipdfepoaaDoor.Gp Go.Proofs.YtofendipdfepoaaDoor.Pr
set_option linter.unusedVariables false
theorem own : ownKnob Tryd.prog.godebug = none := by kernel_rfl
theorem laidOut : laidOutB Tryd.prog = true := by kernel_rfl
abbrev wf3 : Int → Prop := (fun (y : Int) => (Lit.int .i64 y).wf = true)
abbrev siz3 : Int → Nat := (fun _ => 1)
theorem gd3 : Gd Tryd.prog 3 (.int .i64) wf3 siz3 := gd_int Tryd.underlying3 (by kernel_rfl)
abbrev wf9 : ByteArray → Prop := (fun (y : ByteArray) => y.size ≤ 140737488351232)
abbrev siz9 : ByteArray → Nat := (fun (y : ByteArray) => y.size + 1)
theorem gd9 : Gd Tryd.prog 9 .str wf9 siz9 := gd_str Tryd.underlying9 (by kernel_rfl)
abbrev wf26 : (Int × (ByteArray × Int)) → Prop := (fun (y : (Int × (ByteArray × Int))) => wf3 y.1 ∧ (fun (y : (ByteArray × Int)) => wf9 y.1 ∧ wf3 y.2) y.2)
abbrev siz26 : (Int × (ByteArray × Int)) → Nat := (fun (y : (Int × (ByteArray × Int))) => siz3 y.1 + (fun (y : (ByteArray × Int)) => siz9 y.1 + siz3 y.2) y.2)
theorem gd26 : Gd Tryd.prog 26 (.st (.pair (.int .i64) (.pair .str (.int .i64)))) wf26 siz26 := gd_st Tryd.underlying26 (by kernel_rfl) (gdf_cons (k := .int .i64) (k' := .pair .str (.int .i64)) (wf := wf3) (siz := siz3) (wf' := (fun (y : (ByteArray × Int)) => wf9 y.1 ∧ wf3 y.2)) (siz' := (fun (y : (ByteArray × Int)) => siz9 y.1 + siz3 y.2)) rfl gd3 (gdf_cons (k := .str) (k' := .int .i64) (wf := wf9) (siz := siz9) (wf' := wf3) (siz' := siz3) rfl gd9 (gdf_one rfl gd3)))
abbrev wf22 : (List (Int × (ByteArray × Int))) → Prop := (wfL (α := (Int × (ByteArray × Int))) 32 wf26)
abbrev siz22 : (List (Int × (ByteArray × Int))) → Nat := (sizL (α := (Int × (ByteArray × Int))) siz26)
theorem gd22 : Gd Tryd.prog 22 (.sl (.st (.pair (.int .i64) (.pair .str (.int .i64))))) wf22 siz22 := gd_sl (B := 32) Tryd.underlying22 (by kernel_rfl) (by kernel_rfl) (by decide) gd26
abbrev wf5 : Int → Prop := (fun (y : Int) => (Lit.int .u8 y).wf = true)
abbrev siz5 : Int → Nat := (fun _ => 1)
theorem gd5 : Gd Tryd.prog 5 (.int .u8) wf5 siz5 := gd_int Tryd.underlying5 (by kernel_rfl)
abbrev wf23 : (List Int) → Prop := (wfL (α := Int) 1 wf5)
abbrev siz23 : (List Int) → Nat := (sizL (α := Int) siz5)
theorem gd23 : Gd Tryd.prog 23 (.sl (.int .u8)) wf23 siz23 := gd_sl (B := 1) Tryd.underlying23 (by kernel_rfl) (by kernel_rfl) (by decide) gd5
abbrev wf24 : (List ByteArray) → Prop := (wfL (α := ByteArray) 16 wf9)
abbrev siz24 : (List ByteArray) → Nat := (sizL (α := ByteArray) siz9)
theorem gd24 : Gd Tryd.prog 24 (.sl .str) wf24 siz24 := gd_sl (B := 16) Tryd.underlying24 (by kernel_rfl) (by kernel_rfl) (by decide) gd9
set_option maxRecDepth 100000 in
set_option maxHeartbeats 1000000 in
set_option maxRecDepth 100000 in
theorem door_met (os : Os) (args : Array Value) : laidMetH Tryd.prog Rows.paperPrintsRow.laid ((laidWorld Tryd.prog Rows.paperPrintsRow.laid os).forCall (fun _ _ => 0) ⟨#[], args, []⟩).memory :=
  laidMetH_of_parts3 (fuel := 12) (laidMet_of_run' 12 (by kernel_rfl) (by kernel_rfl)) (by kernel_rfl) (by kernel_rfl)
set_option maxRecDepth 100000 in
set_option maxHeartbeats 1000000 in
theorem lifted (os : Os) (started : os.Started) (H : Type) (enc : TypeId × Value → H) :
    ReturnsInHanded {} Tryd.checked os 3 .any (fun w args => (Rows.paperPrintsSpec.pre enc Tryd.prog Tryd.f3 Rows.paperPrintsRow.domain false w args ∧ laidMetH Tryd.prog Rows.paperPrintsRow.laid w) ∧ sizedMet enc Tryd.prog Tryd.f3 (OpenSpec.ofChange Rows.paperPrintsSpec) false w args) (Rows.paperPrintsSpec.post enc Tryd.prog Tryd.f3 false true false false) := by
  refine returns_laid (C := Tryd.checked) (X := fun w _ => laidMetH Tryd.prog Rows.paperPrintsRow.laid w) (fun _ _ _ hh h => h.of_heap hh) own started (by kernel_rfl) Tryd.func3
    (ChangeSpec.witness_shaped (enc := enc) (C := Tryd.checked) (os := os) (X := fun w _ => laidMetH Tryd.prog Rows.paperPrintsRow.laid w) false (laidWorld Tryd.prog Rows.paperPrintsRow.laid os) #[.slice none 0 0, .string ByteArray.empty, .slice none 0 0, .slice none 0 0] 8 rfl (World.shaped_of_RefB (by kernel_rfl) (by kernel_rfl)) (by kernel_rfl) (by kernel_rfl) (by kernel_rfl) (door_met os _)) ?_
  intro W base args ds gs before hval0 hW hsz0 hL hshape
  have hsz : (DataW.weightsEach Tryd.prog (Tryd.f3.params.toList ++ Rows.paperPrintsSpec.plain.varTypes Tryd.prog) (ds ++ gs)).all (· ≤ reachBytes) = true := hsz0
  have hval : ∀ (j : Nat) t v, Tryd.f3.params[j]? = some t → args[j]? = some v → Value.okWide Tryd.prog W .any base t v := hval0
  have hW' := hW
  obtain ⟨p, q, hA0, hV, rfl, hfz, hnd⟩ := hW
  have hA : DataW.TrodAll enc Tryd.prog W 0 (fun _ => true) true Tryd.f3.params.toList args.toList ds p := hA0
  rw [Tryd.params3] at hA hval hsz
  obtain ⟨v0, vs0, d0, ds0, p0, q0, hargs, rfl, rfl, h0, r0⟩ := trodAll_cons hA
  obtain ⟨v1, vs1, d1, ds1, p1, q1, rfl, rfl, rfl, h1, r1⟩ := trodAll_cons r0
  obtain ⟨v2, vs2, d2, ds2, p2, q2, rfl, rfl, rfl, h2, r2⟩ := trodAll_cons r1
  obtain ⟨v3, vs3, d3, ds3, p3, q3, rfl, rfl, rfl, h3, r3⟩ := trodAll_cons r2
  obtain ⟨rfl, rfl, rfl⟩ := trodAll_nil r3
  obtain rfl : args = #[v0, v1, v2, v3] := by cases args; simp_all
  obtain ⟨rfl, rfl⟩ := trodVars_none hV
  have lt0 : ∀ x ∈ p0, x.block < W.heap.size := by obtain ⟨m, hm⟩ := h0; exact DataW.trod_lt m _ _ _ hm
  have wt0 := weights_at hsz 0 (t := 22) rfl rfl
  obtain ⟨a0, s0, wf0_, up0_⟩ := gd22.arg (hval 0 22 v0 rfl rfl) h0 wt0
  have lt1 : ∀ x ∈ p1, x.block < W.heap.size := by obtain ⟨m, hm⟩ := h1; exact DataW.trod_lt m _ _ _ hm
  have wt1 := weights_at hsz 1 (t := 9) rfl rfl
  obtain ⟨a1, s1, wf1_, up1_⟩ := gd9.arg (hval 1 9 v1 rfl rfl) h1 wt1
  have lt2 : ∀ x ∈ p2, x.block < W.heap.size := by obtain ⟨m, hm⟩ := h2; exact DataW.trod_lt m _ _ _ hm
  have wt2 := weights_at hsz 2 (t := 23) rfl rfl
  obtain ⟨a2, s2, wf2_, up2_⟩ := gd23.arg (hval 2 23 v2 rfl rfl) h2 wt2
  have lt3 : ∀ x ∈ p3, x.block < W.heap.size := by obtain ⟨m, hm⟩ := h3; exact DataW.trod_lt m _ _ _ hm
  have wt3 := weights_at hsz 3 (t := 24) rfl rfl
  obtain ⟨a3, s3, wf3_, up3_⟩ := gd24.arg (hval 3 24 v3 rfl rfl) h3 wt3
  clear hA0 hval0 hsz0 hsz
  obtain ⟨k, h⟩ := Pr.paperPrints a0 a1 a2 a3 wf0_ wf1_ wf2_ wf3_
  refine (law_calls (PaperPrints3.ok k) (ds := (a0, a1, a2, a3)) h (args := #[v0, v1, v2, v3]) (W := W) (.cons (s0 _) (.cons (s1 _) (.cons (s2 _) (.cons (s3 _) (.nil)))))).mono fun e W' ⟨he, bel0⟩ => ?_
  have bel : Below W.heap.size W W' := bel0
  subst he
  exact ⟨_, rfl, _, _, _, [], _, [], hW', trodAll_mk1 (shut_bool Tryd.underlying4 _), (trodAll_cons_mk (Below.trod laidOut (by kernel_rfl) (of_decide_eq_true (by kernel_rfl)) h0 bel lt0) (trodAll_cons_mk (Below.trod laidOut (by kernel_rfl) (of_decide_eq_true (by kernel_rfl)) h1 bel lt1) (trodAll_cons_mk (Below.trod laidOut (by kernel_rfl) (of_decide_eq_true (by kernel_rfl)) h2 bel lt2) (trodAll_cons_mk (Below.trod laidOut (by kernel_rfl) (of_decide_eq_true (by kernel_rfl)) h3 bel lt3) (trodAll_mk0))))), rfl, bel.frame _, fun h => by cases h⟩
theorem over : Rows.paperPrintsRow.holds Tryd.pinned (OpenSpec.ofChange Rows.paperPrintsSpec) :=
  OpenClaim.holds_of_wide 3 Tryd.f3 rfl rfl rfl rfl rfl rfl rfl ⟨rfl, rfl, rfl, rfl, rfl⟩ rfl rfl rfl rfl rfl (by kernel_rfl) Tryd.func3 (by kernel_rfl)
    (of_decide_eq_true (by kernel_rfl)) (by unfold Func.isWrapper; first | (rw [if_pos (by decide +kernel)]; kernel_rfl) | (rw [if_neg (by decide +kernel)]; exact ⟨rfl, rfl⟩))
    (fun os started H enc _ => lifted os started H enc)
theorem proved : Rows.PaperPrintsSaid := over
#print axioms proved
end Go.Proofs.YtofendipdfepoaaDoor.paperPrints
namespace Go.Proofs.YtofendipdfepoaaDoor
open Go
theorem paperPrints_holds : Rows.PaperPrintsCardSaid :=
  Claim7.holds_tied_plain_at .later [] [.data, .pinned] true (true, "0b6cceec72922d653e9339e2157fe6ea95e77c5c6b686d680ed7342b1533d243") false
    paperPrints.proved (fun _ h => by cases h) (by kernel_rfl) (fun _ h => by cases h) paperPrints_row_tie rfl ⟨rfl, rfl⟩ (by kernel_rfl) rfl
    (fun f fn hf hfn => by
      obtain rfl : f = 3 := Option.some.inj ((show Tryd.prog.funcNamed "bakelite/bakelaw3.PaperPrints" = some 3 by kernel_rfl).symm.trans hf) |>.symm
      obtain rfl : fn = Tryd.f3 := (Option.some.inj (Tryd.func3.symm.trans hfn)).symm
      exact ⟨by kernel_rfl, fun j t ht => by
        rw [Tryd.params3] at ht
        have hm : t ∈ [22, 9, 23, 24] := by simpa using Array.mem_of_getElem? ht
        have hall : ([22, 9, 23, 24].all fun u => !Tryd.prog.wantsStandIn u) = true := by kernel_rfl
        exact (show Tryd.prog.wantsStandIn t = false by simpa using List.all_eq_true.1 hall t hm)⟩)
    (by kernel_rfl)
#print axioms paperPrints_holds
end Go.Proofs.YtofendipdfepoaaDoor
