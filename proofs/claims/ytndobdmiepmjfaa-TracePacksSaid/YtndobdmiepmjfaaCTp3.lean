/- Merged texts of one claim: a Go law, its functions without memory, and the plain law. The law returns true for every input; conditions: as the row says. -/
import Derived.RangeFuncBox
import Derived.RangeFuncLeaves
import Derived.Shelf.Abstract
import Derived.WalkKit
import Derived.OwnWalkIn
import Derived.TacticsInMore
import Derived.LoopNIn
import Derived.LoopIn
import Derived.StillTactics
import Derived.Test.YtndobdmiepmjfaaChecked
import Derived.KernelRfl
import Derived.Shelf.Sort.Plain
import Derived.Shelf.Slices.In.SortNone
import Derived.Shelf.Slices.CompactI
import Derived.Laws.CopyRow
import Derived.Laws.IdiomCopy
import Derived.Laws.CopyOwn
import Derived.Tactics
import Derived.Below
import Derived.Deep.RegionLaw
import Derived.Test.YtndobdmiepmjfaaRows
import Derived.Laws.Bits64b
import Derived.Laws.MakeOwn
import Derived.Shelf.LaysM
import Derived.Test.YtndobdmiepmjfaaProg
import Derived.ChangeArms
import Derived.OpenShut
import Derived.SizedLaws
import Derived.Deep.Slices
import Derived.ProofKit
import Derived.ShutString
import Derived.ChangeOld
import Derived.Test.YtndobdmiepmjfaaCTp0
import Derived.Test.YtndobdmiepmjfaaCTp1
import Derived.Test.YtndobdmiepmjfaaCTp2
/- Iterators: a list of elements of three cells, from its end. No program in sight. -/
set_option linter.unusedVariables false
noncomputable section
namespace Go.Proofs.Ytndobdmiepmjfaa.Gp
open Go

/-- a list from its end, with the places -/
def backs {α : Type} (l : List α) : Option (List (Int × α)) := if l.length ≤ 17592186044416 then some (l.zipIdx.map (fun p => ((p.2 : Int), p.1))).reverse else none
theorem backs_len {α : Type} (l : List α) : (l.zipIdx.map (fun p => ((p.2 : Int), p.1))).reverse.length = l.length := by simp
theorem backs_at {α : Type} {l : List α} {i : Nat} (hi : i < l.length) : (l.zipIdx.map (fun p => ((p.2 : Int), p.1))).reverse[i]? = some (((l.length - 1 - i : Nat) : Int), l[l.length - 1 - i]'(by omega)) := by
  rw [List.getElem?_reverse (by simpa using hi), List.getElem?_map, List.length_map, List.length_zipIdx, List.getElem?_zipIdx, List.getElem?_eq_getElem (by omega)]
  simp
/-- what the iterator must do -/
def BackRuns (P : Program) (f : FuncId) : Prop :=
  (∀ (l b1 o1 b off len cap : Nat), len ≤ cap → len ≤ 17592186044416 → ∀ (c0 c1 c2 : Nat → Value), ∀ (J : Nat → World → Prop) (Jx : World → Prop) (W : World),
    (∀ i W, J i W → W.cell? ⟨b1, o1, none⟩ = some (.slice (some ⟨b, off, none⟩) len cap) ∧ ∀ j, j < len → W.cell? ⟨b, off + j * 3, none⟩ = some (c0 j) ∧ W.cell? ⟨b, off + j * 3 + 1, none⟩ = some (c1 j) ∧ W.cell? ⟨b, off + j * 3 + 2, none⟩ = some (c2 j)) →
    (∀ i W1, i < len → J i W1 → YieldAt Fence.wide 0 P l #[.int .i64 ((len - 1 - i : Nat) : Int), .agg #[c0 (len - 1 - i), c1 (len - 1 - i), c2 (len - 1 - i)]] W1 fun e W' => (e = .returned (.bool true) ∧ J (i + 1) W') ∨ (e = .returned (.bool false) ∧ Jx W')) →
    J 0 W → CallsIn Fence.wide 0 P f #[.func (.yield l) #[] #[], .pointer (some ⟨b1, o1, none⟩)] W fun e W' => (∃ v, e = .returned v) ∧ (J len W' ∨ Jx W')) ∧
  (∀ (l b1 o1 cap : Nat) (a : Option Addr) (J : Nat → World → Prop) (W : World), (∀ i W, J i W → W.cell? ⟨b1, o1, none⟩ = some (.slice a 0 cap)) → J 0 W →
    CallsIn Fence.wide 0 P f #[.func (.yield l) #[] #[], .pointer (some ⟨b1, o1, none⟩)] W fun e W' => (∃ v, e = .returned v) ∧ J 0 W')
theorem cellOf {H : Hp} {W : World} (hs : Stays H W) {b o : Nat} {cs : Array Value} {e : TypeId} {z : Nat × Nat} {v : Value} (hb : H b = some (.cells cs e z)) (hv : cs[o]? = some v) : W.cell? ⟨b, o, none⟩ = some v := by
  have h1 := hs b _ hb
  unfold World.cell?
  simp only [h1]
  simpa using hv
theorem backs_ok {P : Program} {f : FuncId} {k : K} (hw : k.w = 3) (hg : k.agg = true) (hf : ∃ fn c, P.funcs[f]? = some fn ∧ (fn.name == "runtime.NumGoroutine") = false ∧ fn.body = some c) (hr : BackRuns P f) :
    IterOk P ⟨f, [.fp (.sl k)], [.int .i64, k], fun (ds : List k.den) => backs ds⟩ := by
  refine ⟨hf, fun ds xs hrun lb H L hlb l J Jx W hJH hJd hJxd hY h0 => ?_⟩
  obtain ⟨zs, hzs⟩ : ∃ zs : List k.den, zs = ds := ⟨ds, rfl⟩
  subst hzs
  have hlb : SRs H L [⟨.fp (.sl k), zs⟩] lb.toList := hlb
  have hrun : backs (α := k.den) zs = some xs := hrun
  unfold backs at hrun
  split at hrun
  case isFalse => cases hrun
  rename_i n3
  have hxs : xs = (zs.zipIdx.map (fun p => ((p.2 : Int), p.1))).reverse := (Option.some.inj hrun).symm
  generalize hxl : lb.toList = ls at hlb
  cases hlb with
  | cons h1 t =>
    cases t
    obtain ⟨hp1, b1, o1, cs1, e1, z1, rfl, hb1, hl1⟩ := fp_at h1
    obtain ⟨hpk, a, c, hv1, hcap, hrow⟩ := (show k.pur = true ∧ ∃ a c, (cs1.toList.drop o1).take 1 = [.slice a (List.length (α := k.den) zs) c] ∧ List.length (α := k.den) zs ≤ c ∧
      (List.length (α := k.den) zs ≠ 0 → ∃ b o cs e z, a = some ⟨b, o, none⟩ ∧ H b = some (.cells cs e z) ∧ LvL (Lv H L k) zs ((cs.toList.drop o).take (List.length (α := k.den) zs * k.w))) from hl1)
    have hlb : lb = #[.pointer (some ⟨b1, o1, none⟩)] := by
      rw [← Array.toList_inj, hxl]
    subst hlb
    have one : ∀ {o : Nat} {cs : Array Value} {v : Value}, (cs.toList.drop o).take 1 = [v] → cs[o]? = some v := by
      intro o cs v hv
      rw [← Array.getElem?_toList]
      have : ((cs.toList.drop o).take 1)[0]? = some v := by rw [hv]; rfl
      rw [List.getElem?_take_of_lt (by omega), List.getElem?_drop] at this
      simpa using this
    have c1 : ∀ i W, J i W → W.cell? ⟨b1, o1, none⟩ = some (.slice a (List.length (α := k.den) zs) c) := fun i W hJ => cellOf (hJH i W hJ) hb1 (one hv1)
    have hlx : List.length xs = List.length (α := k.den) zs := (congrArg (List.length (α := Int × k.den)) hxs).trans (backs_len (α := k.den) zs)
    rw [hlx]
    by_cases hz : List.length (α := k.den) zs = 0
    · rw [hz] at c1
      refine (hr.2 l b1 o1 c a J W c1 h0).mono ?_
      rintro e W' ⟨he, hJ⟩
      refine ⟨he, .inl ?_⟩
      rw [hz]
      exact hJ
    · obtain ⟨b, o, cs, e, z, rfl, hb, hl⟩ := hrow hz
      rw [hw] at hl
      have hwl : ∀ x vs, Lv H L k x vs → vs.length = 3 := fun x vs hh => (Lv_len hh).trans hw
      have hlen : ((cs.toList.drop o).take (List.length (α := k.den) zs * 3)).length = List.length (α := k.den) zs * 3 := LvL_len hwl hl
      have hel : ∀ j, j < List.length (α := k.den) zs → ∀ t, t < 3 → ∃ v, cs[o + j * 3 + t]? = some v := by
        intro j hj t ht
        have : o + j * 3 + t < cs.size := by
          have hcs : cs.toList.length = cs.size := Array.length_toList
          rw [List.length_take, List.length_drop] at hlen
          omega
        exact ⟨_, Array.getElem?_eq_getElem this⟩
      let ct : Nat → Nat → Value := fun t j => (cs[o + j * 3 + t]?).getD Go.undef
      have hct : ∀ j, j < List.length (α := k.den) zs → ∀ t, t < 3 → cs[o + j * 3 + t]? = some (ct t j) := by
        intro j hj t ht
        obtain ⟨v, hv⟩ := hel j hj t ht
        show _ = some ((cs[o + j * 3 + t]?).getD Go.undef)
        rw [hv]; rfl
      refine hr.1 l b1 o1 b o (List.length (α := k.den) zs) c hcap n3 (ct 0) (ct 1) (ct 2) J Jx W (fun i W hJ => ⟨c1 i W hJ, fun j hj => ⟨cellOf (hJH i W hJ) hb (hct j hj 0 (by omega)), cellOf (hJH i W hJ) hb (hct j hj 1 (by omega)), cellOf (hJH i W hJ) hb (hct j hj 2 (by omega))⟩⟩) (fun i W1 hi hJ => ?_) h0
      have hj : List.length (α := k.den) zs - 1 - i < List.length (α := k.den) zs := by omega
      have hx := backs_at (α := k.den) hi
      rw [← hxs] at hx
      obtain ⟨q1, q2⟩ := LvL_get (R := Lv H L k) (w := 3) hwl hl (List.getElem?_eq_getElem hj)
      refine hY i _ _ W1 hx ?_ hJ
      have hcells : (((cs.toList.drop o).take (List.length (α := k.den) zs * 3)).drop ((List.length (α := k.den) zs - 1 - i) * 3)).take 3 = [ct 0 (List.length (α := k.den) zs - 1 - i), ct 1 (List.length (α := k.den) zs - 1 - i), ct 2 (List.length (α := k.den) zs - 1 - i)] := by
        refine List.ext_getElem? fun t => ?_
        rw [List.getElem?_take]
        by_cases ht : t < 3
        · rw [if_pos ht, List.getElem?_drop, List.getElem?_take, if_pos (by omega), List.getElem?_drop, Array.getElem?_toList, ← Nat.add_assoc, hct _ hj t ht]
          have : t = 0 ∨ t = 1 ∨ t = 2 := by omega
          rcases this with rfl | rfl | rfl <;> rfl
        · rw [if_neg ht, List.getElem?_eq_none (by simp; omega)]
      rw [hcells] at q1
      have hk := SR_mk (k := k) q1
      unfold K.mk at hk
      rw [hg] at hk
      exact .cons (SR_mk (k := .int .i64) (us := [_]) rfl) (.cons hk .nil)
end Go.Proofs.Ytndobdmiepmjfaa.Gp

/- Iterators, and their contracts. -/
set_option linter.unusedVariables false
set_option maxRecDepth 100000
noncomputable section
namespace Go.Proofs.Ytndobdmiepmjfaa.Tp
open Go Go.Proofs.Ytndobdmiepmjfaa.Gp
section
open Go.RowKit Go.Shelf
attribute [local go_sem] Oper.semAt_some
set_option maxHeartbeats 2000000 in
theorem Back34.run : BackRuns Try.prog 34 := by
  refine ⟨fun l b1 o1 b off len cap hcap hlen c0 c1 c2 J Jx W hJH hY h0 => ?_, fun l b1 o1 cap a J W hJH h0 => ?_⟩
  · have hc := hJH 0 W h0
    obtain ⟨hca, hcb⟩ := hc
    refine callsIn_of_wp (fn := Try.f34) rfl rfl trivial ?_ rfl
    have hnt : Try.f34.ntmps = 19 := rfl
    simp only [hnt, List.size_toArray, List.length_cons, List.length_nil, Nat.reduceAdd, Nat.reduceSub, Array.replicate_succ, Array.replicate_zero, List.push_toArray, List.append_toArray, List.nil_append, List.cons_append]
    gi_wp2
    gi_loopw [3] (fun p wr => ∃ k : Nat, p = .int .i64 ((len : Int) - 1 - (k : Int)) ∧ k ≤ len ∧ J k wr) (fun p _ => (intOf p + 1).toNat)
    case atStart => exact ⟨0, by simp, Nat.zero_le _, h0⟩
    case round =>
      obtain ⟨k, rfl, hk, hJs⟩ := hrel
      obtain ⟨hc1, hc2⟩ := hJH k wr hJs
      by_cases hlt : k < len
      · obtain ⟨hx0, hx1, hx2⟩ := hc2 (len - 1 - k) (by omega)
        obtain ⟨fn, tmps, assign, body, hy, hR⟩ := hY k _ hlt hJs
        have e : (len : Int) - 1 - (k : Int) = ((len - 1 - k : Nat) : Int) := by omega
        rw [e]
        gi_wp2
        refine ⟨rfl, hR.mono ?_⟩
        rintro e W3 (⟨rfl, hJ3⟩ | ⟨rfl, hJx3⟩)
        · gi_wp2
          go_roundw
          case rel => exact ⟨k + 1, by first | (simp; done) | (simp; omega), by omega, hJ3⟩
          case measure => first | (simp [intOf]; done) | (simp [intOf]; omega)
        · gi_wp2
          refine bodyPost_ret (results_none rfl _ _ _) rfl ?_
          exact ⟨⟨_, rfl⟩, .inr hJx3⟩
      · have hkl : k = len := by omega
        subst hkl
        have e : (k : Int) - 1 - (k : Int) = -1 := by omega
        rw [e]
        gi_wp2
        go_end0
        exact ⟨⟨_, rfl⟩, .inl hJs⟩
  · refine callsIn_of_wp (fn := Try.f34) rfl rfl trivial ?_ rfl
    have hnt : Try.f34.ntmps = 19 := rfl
    have hc := hJH 0 W h0
    simp only [hnt, List.size_toArray, List.length_cons, List.length_nil, Nat.reduceAdd, Nat.reduceSub, Array.replicate_succ, Array.replicate_zero, List.push_toArray, List.append_toArray, List.nil_append, List.cons_append]
    gi_wp2
    gi_loopw [3] (fun p wr => p = .int .i64 (-1) ∧ J 0 wr) (fun _ _ => 0)
    case atStart => exact ⟨rfl, h0⟩
    case round =>
      obtain ⟨rfl, hJs⟩ := hrel
      gi_wp2
      go_end0
      exact ⟨⟨_, rfl⟩, hJs⟩
end
abbrev Back34.I : ISig := ⟨34, [.fp kY2], [.int .i64, .st kY4], fun (ds : List (tY20)) => backs ds⟩
theorem Back34.iok : IterOk Try.prog Back34.I := backs_ok rfl rfl ⟨Try.f34, codeOf Try.f34, rfl, by kernel_rfl, rfl⟩ Back34.run

end Go.Proofs.Ytndobdmiepmjfaa.Tp

/- Sorting a row of ints in place: the library's contract as one of ours. -/
set_option linter.unusedVariables false
noncomputable section
namespace Go.Proofs.Ytndobdmiepmjfaa.Gp
open Go Go.Sort Go.RowKit Go.Shelf

def sortI (l : List Int) : List Int := l.mergeSort fun x y => decide (x ≤ y)
theorem lvI {H : Hp} {L : Ls} : ∀ {l : List Int} {vs : List Value}, LvL (Lv H L (.int .i64)) l vs ↔ vs = l.map (Value.int .i64)
  | [], vs => Iff.rfl
  | x :: r, vs => by
    constructor
    · rintro ⟨a, b, rfl, h1, h2⟩
      rw [lvI.1 h2, show a = [Value.int .i64 x] from h1]
      rfl
    · intro h
      exact ⟨[Value.int .i64 x], r.map (Value.int .i64), h, rfl, lvI.2 rfl⟩
theorem sortI_len (l : List Int) : (sortI l).length = l.length := List.length_mergeSort l
def sortS (f : Nat) : Sig := { f := f, params := [.ms 0], objs := [.row (.int .i64)], res := .tup .unit, outs := [.row (.int .i64)], fix := [0], run := fun _ _ os => if os.length < 4611686018427387904 then some ((), sortI os) else none }
theorem putCells_toList (off : Nat) (l : List Int) (c : Array Value) (h : off + l.length ≤ c.size) : ((putCells (Value.int .i64) off l.toArray c).toList.drop off).take l.length = l.map (Value.int .i64) := by
  refine List.ext_getElem? fun i => ?_
  rw [List.getElem?_take, List.getElem?_map]
  by_cases hi : i < l.length
  · rw [if_pos hi, List.getElem?_drop, Array.getElem?_toList]
    unfold putCells
    rw [Array.getElem?_mapIdx, Array.getElem?_eq_getElem (by omega), Option.map_some, if_pos ⟨by omega, by simpa using hi⟩, show off + i - off = i by omega, List.getElem?_eq_getElem hi, Option.map_some]
    congr 2
    rw [getElem!_pos l.toArray i (by simpa using hi)]
    simp
  · rw [if_neg hi, List.getElem?_eq_none (by omega)]
    rfl
/-- the memory behind and ahead of the sort -/
def rowO (l : List Int) : Nat → O := assoc O.dead (objsFrom 0 [OK.row (.int .i64)] l)
theorem rowO_own {l l' : List Int} {L : Ls} {b : Nat} : Own (rowO l) L b ↔ Own (rowO l') L b := by
  have key : ∀ (l l' : List Int) (b : Nat), Own (rowO l) L b → Own (rowO l') L b := by
    rintro l l' b ⟨i, h1, h2⟩
    refine ⟨i, ?_, h2⟩
    cases i with
    | zero => exact h1
    | succ i => exact h1
  exact ⟨key l l' b, key l' l b⟩
theorem sort_sound {P : Program} {ρ : Ren} (Ly : Lays.n189 P ρ) {f : Nat} (hf : ρ.f 189 = f) (hfn : ∃ fn c, P.funcs[f]? = some fn ∧ (fn.name == "runtime.NumGoroutine") = false ∧ fn.body = some c) (k : Nat) : SoundAt P k (sortS f) := by
  subst hf
  refine ⟨hfn, fun ds (os : List Int) q hq xs w H L hx hp hl => ?_⟩
  have hq : (if os.length < 4611686018427387904 then some ((), sortI os) else none) = some q := hq
  split at hq
  case isFalse => cases hq
  rename_i hbig
  cases hq
  have o0 : OR H L w (L 0) (.row (.int .i64)) os := hp.obj 0
  obtain ⟨hpur, hlen, h⟩ := o0
  have hlen : (L 0).len = os.length := hlen
  have hxs : xs = #[(L 0).hdr] := by
    have hx : SRs H L [⟨.ms 0, ds⟩] xs.toList := hx
    generalize hl' : xs.toList = l at hx
    cases hx with
    | cons h1 h2 =>
      cases h2
      obtain ⟨us, ⟨hus, _⟩, rfl⟩ := h1
      subst hus
      rw [← Array.toArray_toList (xs := xs), hl']
      rfl
  have hlive : (L 0).live = true := by
    have hx : SRs H L [⟨.ms 0, ds⟩] xs.toList := hx
    generalize hl' : xs.toList = l at hx
    cases hx with
    | cons h1 h2 =>
      obtain ⟨us, ⟨_, h⟩, _⟩ := h1
      exact h
  have hsr : ∀ v, v = Value.tuple #[] → SR H L ⟨.tup .unit, ()⟩ v := fun v hv => ⟨[], hv, rfl⟩
  by_cases h0 : os.length = 0
  · have hos : os = ([] : List Int) := List.eq_nil_of_length_eq_zero h0
    subst hos
    have hh : ∃ p cap, (L 0).hdr = .slice p 0 cap := by
      unfold Loc.hdr
      split
      · exact ⟨_, _, rfl⟩
      · rw [hlen]; exact ⟨_, _, rfl⟩
    obtain ⟨p, cap, hh⟩ := hh
    rw [hxs, hh]
    refine (Any.slices_Sort_int_none Ly p cap w).mono ?_
    rintro e w' ⟨rfl, rfl⟩
    have hs : sortI [] = [] := by unfold sortI; simp
    refine ⟨_, H, L, rfl, hsr _ rfl, ?_, hl, ⟨?_, fun i hi hv => ?_, fun i _ => ⟨rfl, rfl, rfl, id⟩⟩⟩
    · show HeapOk (rowO (sortI [])) H L w'
      rw [hs]
      exact hp
    · show Fr (Own (rowO []) L) H w' (Own (rowO (sortI [])) L) H w'
      rw [hs]
      exact Fr.refl _ _ _
    · have : i = 0 := by have hi : i < 1 := hi; omega
      subst this
      cases hv
  · rcases h with ⟨_, h1, _⟩ | ⟨hnil, hcap, cs, e, z, hb, hz, hsz, hv⟩
    · exact absurd h1 h0
    have hcap : os.length ≤ (L 0).cap := hcap
    have hsz : (L 0).off + (L 0).cap * 1 ≤ cs.size := hsz
    have hv : (cs.toList.drop (L 0).off).take (os.length * 1) = os.map (Value.int .i64) := lvI.1 hv
    rw [Nat.mul_one] at hv hsz
    have hblk : (L 0).blk < w.heap.size := by
      rcases Nat.lt_or_ge (L 0).blk w.heap.size with h | h
      · exact h
      · rw [Array.getElem?_eq_none h] at hb; cases hb
    have hH : Holds (Value.int .i64) w (L 0).blk (L 0).off os.toArray := by
      intro j hj
      have hj : j < os.length := by simpa using hj
      refine ⟨?_, ?_⟩
      · unfold World.cell?
        show (match w.heap[(L 0).blk]? with | some (.cells c _ _) => if false = true then none else c[(L 0).off + j]? | _ => none) = _
        rw [hb]
        show cs[(L 0).off + j]? = _
        have hg : (os.map (Value.int .i64))[j]? = some (Value.int .i64 os[j]) := by rw [List.getElem?_map, List.getElem?_eq_getElem hj]; rfl
        rw [← hv, List.getElem?_take, if_pos hj, List.getElem?_drop, Array.getElem?_toList] at hg
        rw [hg, getElem!_pos os.toArray j (by simpa using hj)]
        simp
      · unfold World.frozen?
        show (match w.heap[(L 0).blk]? with | some (.cells _ _ (lo, hi)) => lo ≤ (L 0).off + j && (L 0).off + j < hi | _ => false) = false
        rw [hb]
        have := hz ((L 0).off + j) (by omega)
        show (decide (z.1 ≤ (L 0).off + j) && decide ((L 0).off + j < z.2)) = false
        rw [← Bool.decide_and]
        exact decide_eq_false this
    have hhdr : (L 0).hdr = .slice (some ⟨(L 0).blk, (L 0).off, none⟩) (os.length) (L 0).cap := by
      unfold Loc.hdr
      rw [hnil, hlen]; rfl
    rw [hxs, hhdr]
    refine (Any.slices_Sort_int Ly (L 0).blk (L 0).off (L 0).cap os w hH hblk hbig).mono ?_
    rintro e' w' ⟨rfl, n, os', rfl⟩
    have hF : ∀ b, b < w.heap.size → (grow (putRow (Value.int .i64) (Sort.ahead w n) (L 0).blk (L 0).off (sortI os).toArray) os').heap[b]? = if (L 0).blk = b then (w.heap[b]?).map (onCells (putCells (Value.int .i64) (L 0).off (sortI os).toArray)) else w.heap[b]? := fun b hb => by
      show (w.heap.modify (L 0).blk (onCells (putCells (Value.int .i64) (L 0).off (sortI os).toArray)) ++ os')[b]? = _
      rw [Array.getElem?_append_left (by rw [Array.size_modify]; exact hb), Array.getElem?_modify]
    have hsl := sortI_len os
    have hnone : H (L 0).blk = none := hp.apart 0 hnil
    have hne : ∀ b o, H b = some o → (L 0).blk ≠ b := fun b o h e => by rw [← e, hnone] at h; cases h
    have hcells : (grow (putRow (Value.int .i64) (Sort.ahead w n) (L 0).blk (L 0).off (sortI os).toArray) os').heap[(L 0).blk]? = some (.cells (putCells (Value.int .i64) (L 0).off (sortI os).toArray cs) e z) := by
      rw [hF _ hblk, if_pos rfl, hb]; rfl
    have hps : (putCells (Value.int .i64) (L 0).off (sortI os).toArray cs).size = cs.size := by unfold putCells; rw [Array.size_mapIdx]
    refine ⟨_, H, L, rfl, hsr _ rfl, ?_, hl, ⟨?_, fun i hi hv => ?_, fun i _ => ⟨rfl, rfl, rfl, id⟩⟩⟩
    · refine ⟨fun i => ?_, fun b o h => ?_, fun i h => ?_, fun i j h h' he => ?_, hp.glob⟩
      · cases i with
        | zero =>
          refine ⟨hpur, hlen.trans hsl.symm, .inr ⟨hnil, ?_, _, e, z, hcells, ?_, ?_, ?_⟩⟩
          · show (sortI os).length ≤ (L 0).cap
            omega
          · intro o ho
            exact hz o (by omega)
          · show (L 0).off + (L 0).cap * 1 ≤ _
            omega
          · refine lvI.2 ?_
            show (((putCells (Value.int .i64) (L 0).off (sortI os).toArray cs).toList.drop (L 0).off).take ((sortI os).length * 1)) = _
            rw [Nat.mul_one]
            exact putCells_toList _ _ _ (by omega)
        | succ i => exact trivial
      · refine (hF b (by
          have := hp.agree b o h
          rcases Nat.lt_or_ge b w.heap.size with h1 | h1
          · exact h1
          · rw [Array.getElem?_eq_none h1] at this; cases this)).trans ?_
        rw [if_neg (hne b o h)]
        exact hp.agree b o h
      · cases i with
        | zero => exact hnone
        | succ i => exact absurd h id
      · cases i with
        | zero =>
          cases j with
          | zero => rfl
          | succ j => exact absurd h' id
        | succ i => exact absurd h id
    · refine ⟨fun _ _ h => h, fun b hb' ho => ?_, fun _ _ h => .inl h, fun b h => .inl (rowO_own.1 h), ?_, rfl, rfl, rfl⟩
      · refine (hF b hb').trans ?_
        rw [if_neg (fun e => ho ⟨0, hnil, e⟩)]
      · show w.heap.size ≤ (w.heap.modify (L 0).blk _ ++ os').size
        rw [Array.size_append, Array.size_modify]
        omega
    · have : i = 0 := by have hi : i < 1 := hi; omega
      subst this
      cases hv
/-- equal neighbours once -/
abbrev compI (l : List Int) : List Int := Lib.compact l
def compactS (f : Nat) : Sig := { f := f, params := [.ms 0], objs := [.row (.int .i64)], res := .ms 0, outs := [.row (.int .i64)], fix := [], run := fun _ _ os => if os.length < 4611686018427387904 then some ((), compI os) else none }
theorem compact_sound {P : Program} {ρ : Ren} (Ly : Lays2.n20 P ρ) {f : Nat} (hf : ρ.f 20 = f) (hfn : ∃ fn c, P.funcs[f]? = some fn ∧ (fn.name == "runtime.NumGoroutine") = false ∧ fn.body = some c) (k : Nat) : SoundAt P k (compactS f) := by
  subst hf
  refine ⟨hfn, fun ds (os : List Int) q hq xs w H L hx hp hl => ?_⟩
  have hq : (if os.length < 4611686018427387904 then some ((), Lib.compact os) else none) = some q := hq
  split at hq
  case isFalse => cases hq
  rename_i hbig
  cases hq
  have o0 : OR H L w (L 0) (.row (.int .i64)) os := hp.obj 0
  obtain ⟨hpur, hlen, h⟩ := o0
  have hlen : (L 0).len = os.length := hlen
  have hxs : xs = #[(L 0).hdr] := by
    have hx : SRs H L [⟨.ms 0, ds⟩] xs.toList := hx
    generalize hl' : xs.toList = l at hx
    cases hx with
    | cons h1 h2 =>
      cases h2
      obtain ⟨us, ⟨hus, _⟩, rfl⟩ := h1
      subst hus
      rw [← Array.toArray_toList (xs := xs), hl']
      rfl
  have hlive : (L 0).live = true := by
    have hx : SRs H L [⟨.ms 0, ds⟩] xs.toList := hx
    generalize hl' : xs.toList = l at hx
    cases hx with
    | cons h1 h2 =>
      obtain ⟨us, ⟨_, h⟩, _⟩ := h1
      exact h
  by_cases h0 : os.length = 0
  · have hos : os = ([] : List Int) := List.eq_nil_of_length_eq_zero h0
    subst hos
    have hh : ∃ p cap, (L 0).hdr = .slice p 0 cap := by
      unfold Loc.hdr
      split
      · exact ⟨_, _, rfl⟩
      · rw [hlen]; exact ⟨_, _, rfl⟩
    obtain ⟨p, cap, hh⟩ := hh
    rw [hxs, hh]
    refine (Any.slices_Compact_int_empty Ly p cap w).mono ?_
    rintro e w' ⟨rfl, rfl⟩
    have hs : Lib.compact ([] : List Int) = [] := rfl
    refine ⟨_, H, L, rfl, ⟨_, ⟨rfl, hlive⟩, hh.symm⟩, ?_, hl, ⟨?_, fun i hi hv => ?_, fun i h => by cases h⟩⟩
    · show HeapOk (rowO (Lib.compact [])) H L w'
      rw [hs]
      exact hp
    · show Fr (Own (rowO []) L) H w' (Own (rowO (Lib.compact [])) L) H w'
      rw [hs]
      exact Fr.refl _ _ _
    · have : i = 0 := by have hi : i < 1 := hi; omega
      subst this
      cases hv
  · rcases h with ⟨_, h1, _⟩ | ⟨hnil, hcap, cs, e, z, hb, hz, hsz, hv⟩
    · exact absurd h1 h0
    have hcap : os.length ≤ (L 0).cap := hcap
    have hsz : (L 0).off + (L 0).cap * 1 ≤ cs.size := hsz
    have hv : (cs.toList.drop (L 0).off).take (os.length * 1) = os.map (Value.int .i64) := lvI.1 hv
    rw [Nat.mul_one] at hv hsz
    have hblk : (L 0).blk < w.heap.size := by
      rcases Nat.lt_or_ge (L 0).blk w.heap.size with h | h
      · exact h
      · rw [Array.getElem?_eq_none h] at hb; cases hb
    have hH : Holds (Value.int .i64) w (L 0).blk (L 0).off os.toArray := by
      intro j hj
      have hj : j < os.length := by simpa using hj
      refine ⟨?_, ?_⟩
      · unfold World.cell?
        show (match w.heap[(L 0).blk]? with | some (.cells c _ _) => if false = true then none else c[(L 0).off + j]? | _ => none) = _
        rw [hb]
        show cs[(L 0).off + j]? = _
        have hg : (os.map (Value.int .i64))[j]? = some (Value.int .i64 os[j]) := by rw [List.getElem?_map, List.getElem?_eq_getElem hj]; rfl
        rw [← hv, List.getElem?_take, if_pos hj, List.getElem?_drop, Array.getElem?_toList] at hg
        rw [hg, getElem!_pos os.toArray j (by simpa using hj)]
        simp
      · unfold World.frozen?
        show (match w.heap[(L 0).blk]? with | some (.cells _ _ (lo, hi)) => lo ≤ (L 0).off + j && (L 0).off + j < hi | _ => false) = false
        rw [hb]
        have := hz ((L 0).off + j) (by omega)
        show (decide (z.1 ≤ (L 0).off + j) && decide ((L 0).off + j < z.2)) = false
        rw [← Bool.decide_and]
        exact decide_eq_false this
    have hhdr : (L 0).hdr = .slice (some ⟨(L 0).blk, (L 0).off, none⟩) (os.length) (L 0).cap := by
      unfold Loc.hdr
      rw [hnil, hlen]; rfl
    rw [hxs, hhdr]
    have hsl : (Lib.compact os).length ≤ os.length := by
      unfold Lib.compact Lib.compactUpTo
      rw [List.length_map]
      exact Nat.le_trans (List.length_filter_le _ _) (by rw [List.length_range]; exact Nat.le_refl _)
    refine (Any.slices_Compact_int Ly (L 0).blk (L 0).off (L 0).cap os w hH (by omega) hcap).mono ?_
    rintro e' w' ⟨rfl, n, rfl⟩
    generalize hD : Lib.compact os ++ List.replicate (os.length - (Lib.compact os).length) 0 = D
    have hDl : D.length = os.length := by rw [← hD, List.length_append, List.length_replicate]; omega
    have hF : ∀ b, b < w.heap.size → (putRow (Value.int .i64) (Sort.ahead w n) (L 0).blk (L 0).off D.toArray).heap[b]? = if (L 0).blk = b then (w.heap[b]?).map (onCells (putCells (Value.int .i64) (L 0).off D.toArray)) else w.heap[b]? := fun b hb => by
      show (w.heap.modify (L 0).blk (onCells (putCells (Value.int .i64) (L 0).off D.toArray)))[b]? = _
      rw [Array.getElem?_modify]
    have hnone : H (L 0).blk = none := hp.apart 0 hnil
    have hne : ∀ b o, H b = some o → (L 0).blk ≠ b := fun b o h e => by rw [← e, hnone] at h; cases h
    have hcells : (putRow (Value.int .i64) (Sort.ahead w n) (L 0).blk (L 0).off D.toArray).heap[(L 0).blk]? = some (.cells (putCells (Value.int .i64) (L 0).off D.toArray cs) e z) := by
      rw [hF _ hblk, if_pos rfl, hb]; rfl
    have hps : (putCells (Value.int .i64) (L 0).off D.toArray cs).size = cs.size := by unfold putCells; rw [Array.size_mapIdx]
    let L' : Ls := fun i => if i = 0 then { L 0 with len := (Lib.compact os).length } else L i
    have hL0 : L' 0 = { L 0 with len := (Lib.compact os).length } := rfl
    have hdr' : (L' 0).hdr = .slice (some ⟨(L 0).blk, (L 0).off, none⟩) (Lib.compact os).length (L 0).cap := by
      rw [hL0]
      unfold Loc.hdr
      show (if (L 0).nil then _ else _) = _
      rw [hnil]; rfl
    have hown : ∀ b, Own (rowO (Lib.compact os)) L' b → b = (L 0).blk := by
      rintro b ⟨i, h1, h2⟩
      cases i with
      | zero => exact h2.symm
      | succ i => exact absurd h1 id
    refine ⟨_, H, L', rfl, ⟨_, ⟨rfl, hlive⟩, hdr'.symm⟩, ?_, fun i h => ?_, ⟨?_, fun i hi hv => ?_, fun i h => by cases h⟩⟩
    · refine ⟨fun i => ?_, fun b o h => ?_, fun i h => ?_, fun i j h h' he => ?_, hp.glob⟩
      · cases i with
        | zero =>
          refine ⟨hpur, rfl, .inr ⟨hnil, ?_, _, e, z, hcells, ?_, ?_, ?_⟩⟩
          · show (Lib.compact os).length ≤ (L 0).cap
            omega
          · intro o ho
            exact hz o (by omega)
          · show (L 0).off + (L 0).cap * 1 ≤ _
            omega
          · refine lvI.2 ?_
            show (((putCells (Value.int .i64) (L 0).off D.toArray cs).toList.drop (L 0).off).take ((Lib.compact os).length * 1)) = _
            have h1 := putCells_toList (L 0).off D cs (by omega)
            have h2 := congrArg (List.take (Lib.compact os).length) h1
            rw [List.take_take, Nat.min_eq_left (by omega), ← List.map_take, ← hD, List.take_left] at h2
            rw [Nat.mul_one, ← hD]
            exact h2
        | succ i => exact trivial
      · refine (hF b (by
          have := hp.agree b o h
          rcases Nat.lt_or_ge b w.heap.size with h1 | h1
          · exact h1
          · rw [Array.getElem?_eq_none h1] at this; cases this)).trans ?_
        rw [if_neg (hne b o h)]
        exact hp.agree b o h
      · cases i with
        | zero => exact hnone
        | succ i => exact absurd h id
      · cases i with
        | zero =>
          cases j with
          | zero => rfl
          | succ j => exact absurd h' id
        | succ i => exact absurd h id
    · cases i with
      | zero => exact Nat.zero_lt_one
      | succ i => exact hl (i + 1) h
    · refine ⟨fun _ _ h => h, fun b hb' ho => ?_, fun _ _ h => .inl h, fun b h => .inl ⟨0, hnil, (hown b h).symm⟩, ?_, rfl, rfl, rfl⟩
      · refine (hF b hb').trans ?_
        rw [if_neg (fun e => ho ⟨0, hnil, e⟩)]
      · show w.heap.size ≤ (w.heap.modify (L 0).blk _).size
        rw [Array.size_modify]
        exact Nat.le_refl _
    · have : i = 0 := by have hi : i < 1 := hi; omega
      subst this
      cases hv
end Go.Proofs.Ytndobdmiepmjfaa.Gp

/- copy of elements of several cells into a row of the call's own: laws for the walk. -/
set_option linter.unusedVariables false
namespace Go.Proofs.Ytndobdmiepmjfaa.Gp
open Go

theorem run_copyK {P : Program} (w : World) (dT sT ty elem : TypeId) (g o dLen dCap : Nat) (a : Addr) (sLen sCap : Nat) (cur : Array Value) (t : TypeId) (cs : List Value) (k : Nat)
    (hu : P.underlying dT = some (.slice elem)) (hs : (P.info? elem).map (·.size) = some k)
    (hg : w.heap[g]? = some (.cells cur t (0, 0))) (hn : cs.length = Nat.min sLen dLen * k)
    (hsrc : ∀ j v, cs[j]? = some v → w.cell? (a.add j) = some v) (hfit : o + cs.length ≤ cur.size) (h1 : ∀ v ∈ cs, v.oneCell' = true) :
    (Builtin.copy_ #[dT, sT] ty #[.slice (some ⟨g, o, none⟩) dLen dCap, .slice (some a) sLen sCap]).run P w =
      .ok (goInt (Nat.min sLen dLen)) (w.setRow g (cur.toList.take o ++ cs ++ cur.toList.drop (o + cs.length)).toArray) := by
  have hl := run_loadCells_list (P := P) w a cs hsrc
  have hst := run_storeCells_at P g o t cs 0 cur w hg (by simpa using hfit) h1
  cases hq : P.info? elem with
  | none => simp [hq] at hs
  | some i =>
    have hi : i.size = k := by simpa [hq] using hs
    rw [hn] at hl
    simp [Builtin.copy_, run_underlying hu, Builtin.lenOf, Builtin.firstCells, sizeOf, typeInfo, hq, hi, hl, hst]
theorem step_copyK {P : Program} {ops : Array Oper} {o : Oper} {a : Act} {w : World} {K : Act → World → Prop} {Q : Exit → Act → World → Prop} {E : Prop} (hgd : o.guard = none) (d s : Operand) (dT sT : TypeId)
    (ho : o.op = .call { callee := .builtin .copy, args := #[d, s], argTypes := #[dT, sT] }) (elem : TypeId) (k : Nat) (hu : P.underlying dT = some (.slice elem)) (hsz : (P.info? elem).map (·.size) = some k)
    (g off dLen dCap : Nat) (ad : Addr) (sLen sCap : Nat) (hd : a.eval d = .slice (some ⟨g, off, none⟩) dLen dCap) (hs : a.eval s = .slice (some ad) sLen sCap)
    (cur : Array Value) (t : TypeId) (hg : w.heap[g]? = some (.cells cur t (0, 0))) (cs : List Value) (hn : cs.length = Nat.min sLen dLen * k)
    (hsrc : ∀ j v, cs[j]? = some v → w.cell? (ad.add j) = some v) (hfit : off + cs.length ≤ cur.size) (h1 : ∀ v ∈ cs, v.oneCell' = true)
    (h : ∀ w', w' = w.setRow g (cur.toList.take off ++ cs ++ cur.toList.drop (off + cs.length)).toArray → K (a.put o.dst (goInt (Nat.min sLen dLen))) w') :
    if Region.wanted o (yielded ops a.tmps) = true then Oper.wp P o a w K Q else E := by
  have hw : Region.wanted o (yielded ops a.tmps) = true := by simp [Region.wanted, hgd]
  rw [if_pos hw]
  have hrun := run_copyK (P := P) w dT sT o.type elem g off dLen dCap ad sLen sCap cur t cs k hu hsz hg hn hsrc hfit h1
  unfold Oper.wp
  simp only [execOp, ho, resolve, invoke, builtin]
  simp [hd, hs, hrun, Result.andThen]
  exact h _ (by simp)
end Go.Proofs.Ytndobdmiepmjfaa.Gp

/- slices.Repeat of one element, by hand. -/
set_option linter.unusedVariables false
set_option maxRecDepth 100000
namespace Go.Proofs.Ytndobdmiepmjfaa
open Go Go.RowKit Go.Proofs.Ytndobdmiepmjfaa.Gp

theorem mask64 {n : Nat} (hn : n < 17592186044416) : ∃ a : Nat, a < 4294967296 ∧ bits BinOp.and IntKind.u64 (n : Int) 4294967295 = (a : Int) := by
  have := bits_and_u64_nat n 4294967295 (by omega) (by omega)
  refine ⟨n &&& 4294967295, ?_, this⟩
  have := Nat.and_le_right (n := n) (m := 4294967295)
  omega
theorem wrapU {n : Int} (h0 : 0 ≤ n) (h1 : n < 18446744073709551616) : IntKind.u64.wrap n = n := by
  simp [IntKind.wrap, IntKind.bits, IntKind.signed]
  omega
set_option maxHeartbeats 1000000 in
theorem mul22 (n : Nat) (hn : n < 17592186044416) (W : World) : Calls Try.prog 22 #[.int .u64 1, .int .u64 n] W fun e w' => e = .returned (.tuple #[.int .u64 0, .int .u64 n]) ∧ w' = W := by
  obtain ⟨a, ha, h1⟩ := mask64 hn
  have h2 : bits BinOp.and IntKind.u64 1 4294967295 = 1 := by decide +kernel
  have h3 : bits BinOp.and IntKind.u64 0 4294967295 = 0 := by decide +kernel
  go_enter Try.func22, Try.ntmps22
  go_wp2
  go_ret2
  refine ⟨?_, rfl⟩
  have e1 : IntKind.u64.wrap ((1 : Int) * (a : Int)) = (a : Int) := by rw [wrapU] <;> omega
  have e2 : ((a : Int) / 4294967296) = 0 := by omega
  have e3 : IntKind.u64.wrap (0 : Int) = 0 := by decide
  have e4 : IntKind.u64.wrap ((1 : Int) * ((n : Int) / 4294967296)) = (n : Int) / 4294967296 := by rw [wrapU] <;> omega
  have e5 : IntKind.u64.wrap ((0 : Int) + (n : Int) / 4294967296) = (n : Int) / 4294967296 := by rw [wrapU] <;> omega
  have e6 : ((n : Int) / 4294967296) / 4294967296 = 0 := by omega
  have e7 : IntKind.u64.wrap ((0 : Int) / 4294967296 + (n : Int) / 4294967296 / 4294967296) = 0 := by rw [e6]; decide
  have e8 : IntKind.u64.wrap ((n : Int) / 4294967296) = (n : Int) / 4294967296 := by rw [wrapU] <;> omega
  simp only [e2, e3, h3, e6, e8, Int.zero_ediv, Int.zero_add]
  rfl
set_option maxHeartbeats 1000000 in
theorem mul15 (n : Nat) (hn : n < 17592186044416) (W : World) : Calls Try.prog 15 #[.int .u64 1, .int .u64 n] W fun e w' => e = .returned (.tuple #[.int .u64 0, .int .u64 n]) ∧ w' = W := by
  go_enter Try.func15, Try.ntmps15
  go_wp2_with (go_at_call 22; refine (mul22 n hn _).mono ?_)
  rintro e w' ⟨rfl, rfl⟩
  go_wp2
  go_ret2
  exact ⟨rfl, rfl⟩
theorem keep_alloc (w : World) (o : Obj) {i : Nat} (h : i < w.heap.size) : (w.alloc o).heap[i]? = w.heap[i]? := by
  show (w.heap.push o)[i]? = _
  rw [Array.getElem?_push, if_neg (by omega)]
theorem new_alloc (w : World) (o : Obj) : (w.alloc o).heap[w.heap.size]? = some o := by
  show (w.heap.push o)[w.heap.size]? = _
  rw [Array.getElem?_push, if_pos rfl]
theorem cell_same {w w' : World} {b i : Nat} (h : w'.heap[b]? = w.heap[b]?) : w'.cell? ⟨b, i, none⟩ = w.cell? ⟨b, i, none⟩ := by
  unfold World.cell?
  simp only [h]
def pat (x : List Value) (m : Nat) : List Value := (List.replicate m x).flatten
theorem pat_len {x : List Value} (h : x.length = 3) (m : Nat) : (pat x m).length = m * 3 := by
  unfold pat
  simp [List.length_flatten, h]
theorem pat_add (x : List Value) (m d : Nat) : pat x (m + d) = pat x m ++ pat x d := by
  unfold pat
  rw [← List.replicate_append_replicate, List.flatten_append]
theorem pat_mem {x : List Value} {m : Nat} {v : Value} (h : v ∈ pat x m) : v ∈ x := by
  unfold pat at h
  obtain ⟨l, hl, hv⟩ := List.mem_flatten.1 h
  rw [(List.mem_replicate.1 hl).2] at hv
  exact hv
set_option maxHeartbeats 4000000 in
theorem repeat5 (W : World) (b o c : Nat) (n : Nat) (h1 : 1 ≤ n) (hn : n * 24 ≤ 140737488355328) (x : List Value) (hx3 : x.length = 3) (hx1 : ∀ v ∈ x, v.oneCell' = true) (hsrc : ∀ j v, x[j]? = some v → W.cell? ⟨b, o + j, none⟩ = some v) :
    Calls Try.prog 5 #[.slice (some ⟨b, o, none⟩) 1 c, .int .i64 n] W fun e w' => ∃ g, e = .returned (.slice (some ⟨g, 0, none⟩) n n) ∧ w'.heap[g]? = some (.cells (pat x n).toArray 26 (0, 0)) ∧ W.heap.size ≤ g ∧ Below W.heap.size W w' := by
  obtain ⟨i, hi, hi1, hi2, hi3⟩ : ∃ i, Try.prog.info? 26 = some i ∧ i.size = 3 ∧ i.bytes = 24 ∧ i.zero = some (.agg #[.int .i64 0, .int .i64 0, .int .i64 0]) := ⟨Try.t26, by kernel_rfl, rfl, rfl, rfl⟩
  have hmk0 := fun W => run_make (P := Try.prog) W 22 26 i _ Try.underlying22 hi hi3 .i64 .i64 (n : Int) (n : Int) (by omega) (by omega) (by rw [hi2]; omega) (by omega)
  obtain ⟨Z, hZ⟩ : ∃ Z, Z = madeCells (Value.agg #[.int .i64 0, .int .i64 0, .int .i64 0]).cells ((n : Int).toNat * i.size) := ⟨_, rfl⟩
  have hZs : Z.size = n * 3 := by rw [hZ, hi1]; simp [madeCells]
  have hmk : ∀ W : World, (Instr.makeSlice 22 (.int .i64 (n : Int)) (.int .i64 (n : Int))).run Try.prog W = .ok (.slice (some ⟨W.heap.size, 0, none⟩) n n) (W.alloc (.cells Z 26)) := fun W => by
    have := hmk0 W
    rw [← hZ] at this
    simpa using this
  clear hmk0 hZ
  have hsz : (Try.prog.info? 26).map (·.size) = some 3 := by rw [hi]; exact congrArg some hi1
  clear hi hi1 hi2 hi3
  go_enter Try.func5, Try.ntmps5
  go_wp2_with (go_at_call 15; refine (mul15 n (by omega) _).mono ?_)
  rintro e w' ⟨rfl, rfl⟩
  have hb2 : ¬ ((n : Int) < 0) := by omega
  have hb3 : ¬ ((9223372036854775807 : Int) < n) := by omega
  have hadd : ∀ j, (⟨b, o, none⟩ : Addr).add j = ⟨b, o + j, none⟩ := fun j => by unfold Addr.add; split <;> simp_all
  have hgz : (w'.alloc (.cells Z 26)).heap[w'.heap.size]? = some (.cells Z 26 (0, 0)) := new_alloc w' _
  have hblt : b < w'.heap.size := by
    have := hsrc 0 x[0] (List.getElem?_eq_getElem (by omega))
    unfold World.cell? at this
    rcases Nat.lt_or_ge b w'.heap.size with h | h
    · exact h
    · simp [Array.getElem?_eq_none h] at this
  have hcp := run_copyK (P := Try.prog) (w'.alloc (.cells Z 26)) 22 22 3 26 w'.heap.size 0 n n ⟨b, o, none⟩ 1 c Z 26 x 3 Try.underlying22 hsz hgz
    (by rw [hx3]; show 3 = min 1 n * 3; omega) (fun j v hj => by
      rw [hadd, cell_same (keep_alloc w' _ hblt)]
      exact hsrc j v hj) (by rw [hx3, hZs]; omega) hx1
  rw [show Nat.min 1 n = 1 by show min 1 n = 1; omega] at hcp
  obtain ⟨w2, hw2⟩ : ∃ w2, w2 = (w'.alloc (.cells Z 26)).setRow w'.heap.size (Z.toList.take 0 ++ x ++ Z.toList.drop (0 + x.length)).toArray := ⟨_, rfl⟩
  rw [← hw2] at hcp
  have hg2 : w2.heap[w'.heap.size]? = some (.cells (pat x 1 ++ Z.toList.drop 3).toArray 26 (0, 0)) := by
    rw [hw2, setRow_heap _ _ Z _ 26 (0, 0) hgz, hx3]
    simp [pat]
  have hB2 : Below w'.heap.size w' w2 := by
    rw [hw2]
    exact below_setRow ((Below.refl _ w').alloc (Nat.le_refl _) _) (Nat.le_refl _) _
  have hcp' : (Builtin.copy_ #[22, 22] 3 #[.slice (some ⟨w'.heap.size, 0, none⟩) n n, .slice (some ⟨b, o, none⟩) 1 c]).run Try.prog (w'.alloc (.cells Z 26)) = .ok (.int .i64 1) w2 := hcp
  clear hcp hw2
  go_wp2
  go_loopw [8] (fun m wr => ∃ (k : Nat) (r : List Value), m = .int .i64 k ∧ 1 ≤ k ∧ k ≤ n ∧ wr.heap[w'.heap.size]? = some (.cells (pat x k ++ r).toArray 26 (0, 0)) ∧ k * 3 + r.length = n * 3 ∧ Below w'.heap.size w' wr) (fun m wr => n - (intOf m).toNat)
  case atStart =>
    exact ⟨1, Z.toList.drop 3, rfl, Nat.le_refl _, h1, hg2, by rw [List.length_drop, Array.length_toList]; omega, hB2⟩
  case round =>
    obtain ⟨k, r, rfl, hk1, hkn, hg, hr, hB⟩ := hrel
    by_cases hlt : k < n
    · have hd1 : decide ((k : Int) < n) = true := decide_eq_true (by omega)
      have hnk : ¬ n = k := by omega
      obtain ⟨d, hd⟩ : ∃ d, d = Nat.min k (n - k) := ⟨_, rfl⟩
      have hdk : d ≤ k ∧ d ≤ n - k ∧ 1 ≤ d := by
        have : d = min k (n - k) := hd
        omega
      have hgd : wr.drew.heap[w'.heap.size]? = some (.cells (pat x k ++ r).toArray 26 (0, 0)) := hg
      have hl1 : (pat x d).length = Nat.min k (n - k) * 3 := by rw [pat_len hx3, hd]
      have hpk : pat x k = pat x d ++ pat x (k - d) := by rw [← pat_add, show d + (k - d) = k by omega]
      have hsrc2 : ∀ j v, (pat x d)[j]? = some v → wr.drew.cell? ((⟨w'.heap.size, 0, none⟩ : Addr).add j) = some v := fun j v hj => by
        have e : (⟨w'.heap.size, 0, none⟩ : Addr).add j = ⟨w'.heap.size, j, none⟩ := by unfold Addr.add; split <;> simp_all
        rw [e]
        have hj' := (List.getElem?_eq_some_iff.1 hj).1
        unfold World.cell?
        simp only [hgd]
        show (pat x k ++ r).toArray[j]? = some v
        rw [List.getElem?_toArray, hpk, List.append_assoc, List.getElem?_append_left hj', hj]
      have hfit : k * 3 + (pat x d).length ≤ (pat x k ++ r).toArray.size := by
        rw [List.size_toArray, List.length_append, pat_len hx3, pat_len hx3]
        omega
      have hone : ∀ v ∈ pat x d, v.oneCell' = true := fun v hv => hx1 v (pat_mem hv)
      go_wp2
      go_region_law (refine step_copyK rfl (.tmp 41) (.tmp 44) 22 22 rfl 26 3 Try.underlying22 hsz w'.heap.size (k * 3) (n - k) (n - k) ⟨w'.heap.size, 0, none⟩ k n (by simp [Act.eval, Act.put]) (by simp [Act.eval, Act.put]) (pat x k ++ r).toArray 26 hgd (pat x d) hl1 hsrc2 hfit hone ?_; intro W3 hW3)
      go_wp2
      rw [← hd]
      have hA : (pat x k).length = k * 3 := pat_len hx3 k
      have hlist : List.take (k * 3) (pat x d ++ (pat x (k - d) ++ r)) ++ (pat x d ++ List.drop (k * 3 + (pat x d).length) (pat x d ++ (pat x (k - d) ++ r))) = pat x (k + d) ++ r.drop (d * 3) := by
        rw [← List.append_assoc (pat x d) (pat x (k - d)) r, ← hpk, pat_len hx3, pat_add, List.take_left' hA, ← List.drop_drop, List.drop_left' hA, List.append_assoc]
      have hw : IntKind.i64.wrap ((k : Int) + (d : Int)) = ((k + d : Nat) : Int) := by rw [IntKind.wrap_i64]; omega
      rw [hlist, hw]
      refine ⟨⟨k + d, rfl, by omega, by omega, r.drop (d * 3), setRow_heap _ _ _ _ 26 (0, 0) hgd, by rw [List.length_drop]; omega, ?_⟩, ?_⟩
      · exact below_setRow (⟨hB.os, hB.tape, hB.output, hB.size, hB.block⟩ : Below w'.heap.size w' wr.drew) (Nat.le_refl _) _
      · show n - ((k + d : Nat) : Int).toNat < n - (k : Int).toNat
        omega
    · go_wp2
      go_ret
      have hkn' : k = n := by omega
      have hr0 : r = [] := List.eq_nil_of_length_eq_zero (by omega)
      subst hkn' hr0
      rw [List.append_nil] at hg
      exact ⟨_, rfl, hg, Nat.le_refl _, hB⟩
end Go.Proofs.Ytndobdmiepmjfaa

/- slices.Repeat of a row of one element: the contract as one of ours. -/
set_option linter.unusedVariables false
set_option maxRecDepth 100000
noncomputable section
namespace Go.Proofs.Ytndobdmiepmjfaa.Gp
open Go Go.RowKit

abbrev busK : K := .st (.pair (.int .i64) (.pair (.int .i64) (.int .i64)))
abbrev Bus := Int × (Int × Int)
def repF (os : List Bus) (n : Int) : Option (List Bus) := if os.length = 1 ∧ 1 ≤ n ∧ n * 24 ≤ 140737488355328 then some (List.replicate n.toNat (os.headD (0, 0, 0))) else none
def repS (f : Nat) : Sig := { f := f, params := [.ms 0, .int .i64], objs := [.row busK], res := .sl busK, outs := [.row busK], fix := [0], run := fun _ (ds : Unit × Int) (os : List Bus) => (repF os ds.2).map (fun r => (r, os)) }
theorem rep_sound (k : Nat) : SoundAt Try.prog k (repS 5) := by
  refine ⟨⟨Try.f5, codeOf Try.f5, rfl, by kernel_rfl, rfl⟩, fun ds (os : List Bus) q hq xs w H L hx hp hl => ?_⟩
  obtain ⟨u, n⟩ := (ds : Unit × Int)
  have hq : (repF os n).map (fun r => (r, os)) = some q := hq
  obtain ⟨r, hr, rfl⟩ := Option.map_eq_some_iff.1 hq
  unfold repF at hr
  split at hr
  case isFalse => cases hr
  rename_i hok
  obtain ⟨hlen, hn1, hn2⟩ := hok
  cases hr
  obtain ⟨d, rfl⟩ : ∃ d, os = [d] := by
    match os, hlen with
    | [d], _ => exact ⟨d, rfl⟩
  obtain ⟨m, rfl⟩ : ∃ m : Nat, n = (m : Int) := ⟨n.toNat, (Int.toNat_of_nonneg (Int.le_trans (by decide) hn1)).symm⟩
  have o0 : OR H L w (L 0) (.row busK) [d] := hp.obj 0
  obtain ⟨hpur, hL, h⟩ := o0
  have hL : (L 0).len = 1 := hL
  have hxs : xs = #[(L 0).hdr, .int .i64 m] := by
    have hx : SRs H L [⟨.ms 0, ()⟩, ⟨.int .i64, (m : Int)⟩] xs.toList := hx
    generalize hl' : xs.toList = l at hx
    cases hx with
    | cons h1 h2 =>
      cases h2 with
      | cons h2 h3 =>
        cases h3
        obtain ⟨us, ⟨hus, _⟩, rfl⟩ := h1
        obtain ⟨us2, hus2, rfl⟩ := h2
        have hus2 : us2 = [Value.int .i64 (m : Int)] := hus2
        subst hus hus2
        rw [← Array.toArray_toList (xs := xs), hl']
        rfl
  rcases h with ⟨_, h0, _⟩ | ⟨hnil, hcap, cs, e, z, hb, hz, hsz, hv⟩
  · exact absurd h0 (by simp)
  have hcap : 1 ≤ (L 0).cap := hcap
  have hsz : (L 0).off + (L 0).cap * 3 ≤ cs.size := hsz
  have hv : LvL (Lv H L busK) [d] ((cs.toList.drop (L 0).off).take 3) := hv
  generalize hxe : (cs.toList.drop (L 0).off).take 3 = x at hv
  have hx3 : x.length = 3 := by
    rw [← hxe, List.length_take, List.length_drop]
    have : cs.toList.length = cs.size := Array.length_toList
    omega
  obtain ⟨x', r0, rfl, hxd, hr0⟩ := hv
  have hr0 : r0 = [] := hr0
  subst hr0
  rw [List.append_nil] at hxe hx3
  have hblk : (L 0).blk < w.heap.size := (Array.getElem?_eq_some_iff.1 hb).1
  have hsrc : ∀ j v, x'[j]? = some v → w.cell? ⟨(L 0).blk, (L 0).off + j, none⟩ = some v := by
    intro j v hj
    have hj3 := (List.getElem?_eq_some_iff.1 hj).1
    rw [← hxe, List.getElem?_take, if_pos (by omega), List.getElem?_drop, Array.getElem?_toList] at hj
    unfold World.cell?
    simp only [hb]
    exact hj
  have hhdr : (L 0).hdr = .slice (some ⟨(L 0).blk, (L 0).off, none⟩) 1 (L 0).cap := by
    unfold Loc.hdr
    rw [hnil, hL]; rfl
  rw [hxs, hhdr]
  refine (repeat5 w (L 0).blk (L 0).off (L 0).cap m (by omega) (by omega) x' hx3 (Lv_cells hxd) hsrc).mono ?_
  rintro e' w' ⟨g, rfl, hg, hgw, hB⟩
  have hnoH : ∀ b o, H b = some o → b < w.heap.size := fun b o h => (Array.getElem?_eq_some_iff.1 (hp.agree b o h)).1
  let H' : Hp := fun b => if b = g then some (.cells (pat x' m).toArray 26 (0, 0)) else H b
  have hext : ∀ b o, H b = some o → H' b = some o := fun b o h => by
    show (if b = g then _ else H b) = _
    rw [if_neg (by have := hnoH b o h; omega)]
    exact h
  refine ⟨_, H', L, rfl, ?_, ⟨fun i => ?_, fun b o h => ?_, fun i h => ?_, hp.inj, hp.glob.mono hext⟩, hl, ⟨⟨hext, fun b hb' ho => hB.block b hb', fun b o h => ?_, fun b h => .inl h, hB.size, hB.os, hB.tape, hB.output⟩, fun i hi hv => ?_, fun i _ => ⟨rfl, rfl, rfl, id⟩⟩⟩
  · refine ⟨[.slice (some ⟨g, 0, none⟩) m m], ⟨hpur, some ⟨g, 0, none⟩, m, ?_, ?_, fun _ => ⟨g, 0, (pat x' m).toArray, 26, (0, 0), rfl, if_pos rfl, ?_⟩⟩, rfl⟩
    · show [Value.slice (some ⟨g, 0, none⟩) m m] = [Value.slice (some ⟨g, 0, none⟩) (List.replicate ((m : Int).toNat) d).length m]
      rw [List.length_replicate, Int.toNat_natCast]
    · show (List.replicate ((m : Int).toNat) d).length ≤ m
      rw [List.length_replicate, Int.toNat_natCast]; exact Nat.le_refl _
    · show LvL (Lv H' L busK) (List.replicate ((m : Int).toNat) d) (((pat x' m).toArray.toList.drop 0).take ((List.replicate ((m : Int).toNat) d).length * 3))
      rw [List.length_replicate, Int.toNat_natCast, List.drop_zero, List.toList_toArray, List.take_of_length_le (by rw [pat_len hx3]; omega)]
      exact LvL_rep (hxd.mono hext) m
  · cases i with
    | zero =>
      refine ⟨hpur, hL, .inr ⟨hnil, hcap, cs, e, z, (hB.block _ hblk).trans hb, hz, hsz, ?_⟩⟩
      show LvL (Lv H' L busK) [d] ((cs.toList.drop (L 0).off).take 3)
      rw [hxe]
      exact ⟨x', [], (List.append_nil _).symm, hxd.mono hext, rfl⟩
    | succ i => exact trivial
  · have h : (if b = g then some (.cells (pat x' m).toArray 26 (0, 0)) else H b) = some o := h
    by_cases e : b = g
    · rw [if_pos e] at h
      cases h
      rw [e]; exact hg
    · rw [if_neg e] at h
      rw [hB.block b (hnoH b o h)]
      exact hp.agree b o h
  · show (if (L i).blk = g then _ else H (L i).blk) = none
    have := hp.apart i h
    rw [if_neg]
    · exact this
    · cases i with
      | zero => omega
      | succ i => exact absurd h id
  · have h : (if b = g then some (.cells (pat x' m).toArray 26 (0, 0)) else H b) = some o := h
    by_cases e : b = g
    · exact .inr (.inr (by omega))
    · rw [if_neg e] at h; exact .inl h
  · have : i = 0 := by have hi : i < 1 := hi; omega
    subst this
    cases hv
end Go.Proofs.Ytndobdmiepmjfaa.Gp

/-
  DERIVED: THE SHELF's CONTRACTS AT THIS DUMP, IN PLAIN WORDS (tools/lay-plain.mjs out of 'YtndobdmiepmjfaaShelf.lean', which tools/lay-shelf.mjs wrote): THE SAME DECLARATIONS UNDER THE SAME NAMES: 'import', 'namespace', 'open', 'def', 'theorem' AND NOTHING ELSE: no command of the shelf's: FOR A HAND-IN. Each laying: the table of numbers ('.._ren') and one theorem, a field a fact of the dump's own or the kernel's comparison; each contract: ONE APPLICATION.
-/
namespace Go.Proofs
open Go.Shelf
def Try.lays189_ren : Go.Shelf.Ren := ⟨fun | 189 => 8 | 125 => 18 | 257 => 17 | 128 => 32 | 129 => 33 | 294 => 23 | 295 => 24 | 296 => 25 | 297 => 26 | 298 => 27 | 299 => 28 | 216 => 29 | 300 => 30 | 301 => 31 | 328 => 35 | 329 => 36 | 330 => 37 | 331 => 38 | 332 => 39 | 215 => 40 | 343 => 41 | n => n, fun | 28 => 34 | 3 => 3 | 46 => 46 | 0 => 0 | 51 => 56 | 53 => 59 | 4 => 4 | 183 => 64 | 182 => 63 | 131 => 39 | 5 => 5 | 9 => 9 | 218 => 73 | 222 => 77 | 228 => 80 | 229 => 81 | n => n, fun | n => n⟩
theorem Try.lays189 : Go.Proofs.Lays.n189 Try.prog Try.lays189_ren := {
  mixed := by kernel_rfl
  f125 := Try.func18.trans (congrArg some (by kernel_rfl))
  f128 := Try.func32.trans (congrArg some (by kernel_rfl))
  f129 := Try.func33.trans (congrArg some (by kernel_rfl))
  f189 := Try.func8.trans (congrArg some (by kernel_rfl))
  f215 := Try.func40.trans (congrArg some (by kernel_rfl))
  f216 := Try.func29.trans (congrArg some (by kernel_rfl))
  f257 := Try.func17.trans (congrArg some (by kernel_rfl))
  f294 := Try.func23.trans (congrArg some (by kernel_rfl))
  f295 := Try.func24.trans (congrArg some (by kernel_rfl))
  f296 := Try.func25.trans (congrArg some (by kernel_rfl))
  f297 := Try.func26.trans (congrArg some (by kernel_rfl))
  f298 := Try.func27.trans (congrArg some (by kernel_rfl))
  f299 := Try.func28.trans (congrArg some (by kernel_rfl))
  f300 := Try.func30.trans (congrArg some (by kernel_rfl))
  f301 := Try.func31.trans (congrArg some (by kernel_rfl))
  f328 := Try.func35.trans (congrArg some (by kernel_rfl))
  f329 := Try.func36.trans (congrArg some (by kernel_rfl))
  f330 := Try.func37.trans (congrArg some (by kernel_rfl))
  f331 := Try.func38.trans (congrArg some (by kernel_rfl))
  f332 := Try.func39.trans (congrArg some (by kernel_rfl))
  f343 := Try.func41.trans (congrArg some (by kernel_rfl))
  t0 := Try.underlying0
  a0 := Try.isAgg0
  z0 := Try.sizeOf0
  v0 := Try.zeroValue0
  t3 := Try.underlying3
  a3 := Try.isAgg3
  z3 := Try.sizeOf3
  v3 := Try.zeroValue3
  t4 := Try.underlying4
  a4 := Try.isAgg4
  z4 := Try.sizeOf4
  v4 := Try.zeroValue4
  t5 := Try.underlying5
  a5 := Try.isAgg5
  z5 := Try.sizeOf5
  v5 := Try.zeroValue5
  t9 := Try.underlying9
  a9 := Try.isAgg9
  z9 := Try.sizeOf9
  v9 := Try.zeroValue9
  t28 := Try.underlying34
  a28 := Try.isAgg34
  z28 := Try.sizeOf34
  v28 := Try.zeroValue34
  t46 := Try.underlying46
  a46 := Try.isAgg46
  z46 := Try.sizeOf46
  v46 := Try.zeroValue46
  t51 := Try.underlying56
  a51 := Try.isAgg56
  z51 := Try.sizeOf56
  v51 := Try.zeroValue56
  t53 := Try.underlying59
  a53 := Try.isAgg59
  z53 := Try.sizeOf59
  v53 := Try.zeroValue59
  t131 := Try.underlying39
  a131 := Try.isAgg39
  z131 := Try.sizeOf39
  v131 := Try.zeroValue39
  t182 := Try.underlying63
  a182 := Try.isAgg63
  z182 := Try.sizeOf63
  v182 := Try.zeroValue63
  t183 := Try.underlying64
  a183 := Try.isAgg64
  z183 := Try.sizeOf64
  v183 := Try.zeroValue64
  t218 := Try.underlying73
  a218 := Try.isAgg73
  z218 := Try.sizeOf73
  v218 := Try.zeroValue73
  t222 := Try.underlying77
  a222 := Try.isAgg77
  z222 := Try.sizeOf77
  v222 := Try.zeroValue77
  t228 := Try.underlying80
  a228 := Try.isAgg80
  z228 := Try.sizeOf80
  v228 := Try.zeroValue80
  t229 := Try.underlying81
  a229 := Try.isAgg81
  z229 := Try.sizeOf81
  v229 := Try.zeroValue81 }
def Try.lays2_20_ren : Go.Shelf.Ren := ⟨fun | 20 => 20 | n => n, fun | 22 => 34 | 3 => 3 | 4 => 4 | 0 => 0 | n => n, fun | n => n⟩
theorem Try.lays2_20 : Go.Proofs.Lays2.n20 Try.prog Try.lays2_20_ren := {
  mixed := by kernel_rfl
  f20 := Try.func20.trans (congrArg some (by kernel_rfl))
  t0 := Try.underlying0
  a0 := Try.isAgg0
  z0 := Try.sizeOf0
  v0 := Try.zeroValue0
  t3 := Try.underlying3
  a3 := Try.isAgg3
  z3 := Try.sizeOf3
  v3 := Try.zeroValue3
  t4 := Try.underlying4
  a4 := Try.isAgg4
  z4 := Try.sizeOf4
  v4 := Try.zeroValue4
  t22 := Try.underlying34
  a22 := Try.isAgg34
  z22 := Try.sizeOf34
  v22 := Try.zeroValue34
  i3 := by kernel_rfl }
end Go.Proofs

/- Given contracts. -/
set_option linter.unusedVariables false
set_option maxRecDepth 100000
noncomputable section
namespace Go.Proofs.Ytndobdmiepmjfaa.Tp
open Go Go.Proofs.Ytndobdmiepmjfaa.Gp
def Repeat5 (k : Nat) (_ : Unit) (n : Int) (o0 : List tY20) : Option (List tY20 × List tY20) := (repF o0 n).map (fun r => (r, o0))
def Repeat5.S : Sig := repS 5
theorem Repeat5.ok (k : Nat) : SoundAt Try.prog k Repeat5.S := rep_sound k

def Sort8 (k : Nat) (_ : Unit) (o0 : List Int) : Option (Unit × List Int) := if o0.length < 4611686018427387904 then some ((), sortI o0) else none
def Sort8.S : Sig := sortS 8
theorem Sort8.ok (k : Nat) : SoundAt Try.prog k Sort8.S := sort_sound Try.lays189 rfl ⟨Try.f8, codeOf Try.f8, rfl, by kernel_rfl, rfl⟩ k

def Compact20 (k : Nat) (_ : Unit) (o0 : List Int) : Option (Unit × List Int) := if o0.length < 4611686018427387904 then some ((), compI o0) else none
def Compact20.S : Sig := compactS 20
theorem Compact20.ok (k : Nat) : SoundAt Try.prog k Compact20.S := compact_sound Try.lays2_20 rfl ⟨Try.f20, codeOf Try.f20, rfl, by kernel_rfl, rfl⟩ k
end Go.Proofs.Ytndobdmiepmjfaa.Tp

/- Go functions as plain Lean functions, and their contracts. -/
set_option linter.unusedVariables false
set_option maxRecDepth 100000
noncomputable section
namespace Go.Proofs.Ytndobdmiepmjfaa.Tp
open Go Go.Proofs.Ytndobdmiepmjfaa.Gp
def Last10.l0 (k : Nat) : tY15 → (Int × tY20) → Option (tY15 ⊕ ((Int × tY22) × Unit))
  | (addr_1, _, _, o0, o1), (t10, t11) =>
    cond (cond (t11.1 != 0) (t11.2.1 == addr_1) false)
      (some (Sum.inr ((t11.2.2, true, ()), ())))
      (some (Sum.inl (addr_1, (), (), o0, o1)))
def Last10 (k : Nat) (l : tY18) (addr : Int) : Option ((Int × tY22) × Unit) :=
  (Backward19 k l).bind fun t9 =>
  (backs t9.1.1).bind fun (xs : List (Int × tY20)) =>
  rounds (Last10.l0 k) (fun ((_, _, _, _, _) : tY15) =>
    some ((0, false, ()), ())) xs (addr, (), (), 0, false)
def Last10.A : Ann := { conds := [], blocks := [], loops := [(3, ⟨[(3, .fp kY6), (4, .ptr 0 []), (5, .ptr 1 [])], [(0, .var kY6), (1, .var .bool)], 2, [], 0⟩)], keeps := [3, 7], orders := [] }
def Last10.S : Sig := { f := 10, params := [.sl kY3, .int .i64], objs := [], res := .tup (.pair kY6 (.pair .bool .unit)), outs := [], fix := [], run := fun k ds os => Last10 k ds.1 ds.2 }
def Last10.G : List Sig := [Backward19.S]
theorem Last10.eq (k : Nat) : ∀ ds os, Last10.S.run k ds os = runF ⟨types, Last10.G, Last10.A, k, 0, [Back34.I]⟩ Try.f10 (codeOf Try.f10) Last10.S.params Last10.S.objs Last10.S.res Last10.S.outs ds os := by
  intro ds os; kernel_rfl
theorem Last10.dr : DrOk Try.prog Last10.A (codeOf Try.f10) := ⟨by kernel_rfl, by kernel_rfl⟩
theorem Last10.ok (k : Nat) : SoundAt Try.prog k Last10.S :=
  runF_sound (X := ⟨types, Last10.G, Last10.A, k, 0, [Back34.I]⟩) types_ok (mem_all (⟨Backward19.ok k, trivial⟩)) (fn := Try.f10) (c := codeOf Try.f10) rfl (by kernel_rfl) rfl rfl Last10.dr (Last10.eq k) (fun s hs => by rcases List.mem_singleton.1 hs with rfl; exact Back34.iok)

def traced11 (k : Nat) : Option tY22 :=
  (Pack4 k [(1, 3, 0), (1, 3, 0)]).bind fun t5 =>
  Option.bind (cond ((List.length t5.1 : Int) == 1)
    ((rd t5.1 0).bind fun t11 =>
    some (t11.2 == 2))
    (some false)) fun t15 =>
  some (t15, ())
def traced11.A : Ann := { conds := [], blocks := [], loops := [], keeps := [], orders := [] }
def traced11.S : Sig := { f := 11, params := [], objs := [], res := .bool, outs := [], fix := [], run := fun k ds os => traced11 k }
def traced11.G : List Sig := [Pack4.S]
theorem traced11.eq (k : Nat) : ∀ ds os, traced11.S.run k ds os = runF ⟨types, traced11.G, traced11.A, k, 0, []⟩ Try.f11 (codeOf Try.f11) traced11.S.params traced11.S.objs traced11.S.res traced11.S.outs ds os := by
  intro ds os; kernel_rfl
theorem traced11.dr : DrOk Try.prog traced11.A (codeOf Try.f11) := ⟨by kernel_rfl, by kernel_rfl⟩
theorem traced11.ok (k : Nat) : SoundAt Try.prog k traced11.S :=
  runF_sound (X := ⟨types, traced11.G, traced11.A, k, 0, []⟩) types_ok (mem_all (⟨Pack4.ok k, trivial⟩)) (fn := Try.f11) (c := codeOf Try.f11) rfl (by kernel_rfl) rfl rfl traced11.dr (traced11.eq k)

def Equal12.l0 (k : Nat) (s1 : tY18) (s2 : tY18) : Int → Option (Int ⊕ tY19)
  | t13 =>
    cond (decide (t13 < (List.length s1 : Int)))
      ((rd s1 t13).bind fun t18 =>
      (rd s2 t13).bind fun t22 =>
      cond (xor true (eqB kY3 t18 t22))
        (some (Sum.inr (Sum.inr (false, ()))))
        (some (Sum.inl (w64 (t13 + 1)))))
      (some (Sum.inr (Sum.inl ())))
def Equal12 (k : Nat) (s1 : tY18) (s2 : tY18) : Option tY22 :=
  cond ((List.length s1 : Int) != (List.length s2 : Int))
    (some (false, ()))
    (Option.bind
      (loopN (Equal12.l0 k s1 s2) k 0 : Option tY19) (joined fun (_ : Unit) =>
      some (true, ())))
def Equal12.A : Ann := { conds := [], blocks := [(0, ⟨[], [], 0, [], 67100720⟩)], loops := [(4, ⟨[(13, .int .i64)], [], 0, [], 67100720⟩)], keeps := [], orders := [(6, [(0, .strong), (1, .strong), (2, .strong), (3, .strong), (4, .strong), (5, .strong), (6, .strong), (7, .strong), (8, .strong)])] }
def Equal12.S : Sig := { f := 12, params := [.sl kY3, .sl kY3], objs := [], res := .bool, outs := [], fix := [], run := fun k ds os => Equal12 k ds.1 ds.2 }
def Equal12.G : List Sig := []
theorem Equal12.eq (k : Nat) : ∀ ds os, Equal12.S.run k ds os = runF ⟨types, Equal12.G, Equal12.A, k, 0, []⟩ Try.f12 (codeOf Try.f12) Equal12.S.params Equal12.S.objs Equal12.S.res Equal12.S.outs ds os := by
  intro ds os; kernel_rfl
theorem Equal12.dr : DrOk Try.prog Equal12.A (codeOf Try.f12) := ⟨by kernel_rfl, by kernel_rfl⟩
theorem Equal12.ok (k : Nat) : SoundAt Try.prog k Equal12.S :=
  runF_sound (X := ⟨types, Equal12.G, Equal12.A, k, 0, []⟩) types_ok (fun s hs => absurd hs List.not_mem_nil) (fn := Try.f12) (c := codeOf Try.f12) rfl (by kernel_rfl) rfl rfl Equal12.dr (Equal12.eq k)

def Touched14.l0 (k : Nat) (l : tY18) (do_ : Int) (low : Int) (high : Int) : (Unit × (Int × tY23)) → Option tY11
  | (_, t14, o2) =>
    cond (decide (t14 < (List.length l : Int)))
      ((rd l t14).bind fun t16 =>
      Option.bind
        (cond (cond (cond (cond (t16.1 == do_) (cond (do_ == 1) true (do_ == 2)) false) (decide (t16.2.1 ≥ low)) false) (decide (t16.2.1 ≤ high)) false)
          ((if room (List.length o2 + List.length ([t16.2.1] : List Int)) 8 then some () else none).bind fun _ =>
          some ((), (o2 ++ ([t16.2.1] : List Int))))
          (some ((), o2)) : Option tY21) fun ((_, o2_1) : tY21) =>
      some (Sum.inl ((), (w64 (t14 + 1)), o2_1)))
      (some (Sum.inr ((), o2)))
def Touched14 (k : Nat) (l : tY18) (do_ : Int) (low : Int) (high : Int) : Option (tY23 × Unit) :=
  Option.bind
    (loopN (Touched14.l0 k l do_ low high) k ((), 0, []) : Option tY21) fun ((_, o2_2) : tY21) =>
  (Sort8 k () o2_2).bind fun t49 =>
  (Compact20 k () t49.2).bind fun t51 =>
  some (t51.2, ())
def Touched14.A : Ann := { conds := [(2686982, ⟨[(9, .ms 2)], [(2, .row kY6)], 3, [], 136339441844736⟩)], blocks := [(0, ⟨[(9, .ms 2)], [(2, .row kY6)], 3, [], 281474976696832⟩)], loops := [(3, ⟨[(9, .ms 2), (14, .int .i64)], [(2, .row kY6)], 3, [(2, .int .i64)], 281474976696832⟩)], keeps := [11], orders := [] }
def Touched14.S : Sig := { f := 14, params := [.sl kY3, .int .i64, .int .i64, .int .i64], objs := [], res := .sl kY6, outs := [], fix := [], run := fun k ds os => Touched14 k ds.1 ds.2.1 ds.2.2.1 ds.2.2.2 }
def Touched14.G : List Sig := [Compact20.S, Sort8.S]
theorem Touched14.eq (k : Nat) : ∀ ds os, Touched14.S.run k ds os = runF ⟨types, Touched14.G, Touched14.A, k, 0, []⟩ Try.f14 (codeOf Try.f14) Touched14.S.params Touched14.S.objs Touched14.S.res Touched14.S.outs ds os := by
  intro ds os; kernel_rfl
theorem Touched14.dr : DrOk Try.prog Touched14.A (codeOf Try.f14) := ⟨by kernel_rfl, by kernel_rfl⟩
theorem Touched14.ok (k : Nat) : SoundAt Try.prog k Touched14.S :=
  runF_sound (X := ⟨types, Touched14.G, Touched14.A, k, 0, []⟩) types_ok (mem_all (⟨Compact20.ok k, ⟨Sort8.ok k, trivial⟩⟩)) (fn := Try.f14) (c := codeOf Try.f14) rfl (by kernel_rfl) rfl rfl Touched14.dr (Touched14.eq k)

def Equal13.l0 (k : Nat) (s1 : tY23) (s2 : tY23) : Int → Option (Int ⊕ tY19)
  | t13 =>
    cond (decide (t13 < (List.length s1 : Int)))
      ((rd s1 t13).bind fun t18 =>
      (rd s2 t13).bind fun t22 =>
      cond (t18 != t22)
        (some (Sum.inr (Sum.inr (false, ()))))
        (some (Sum.inl (w64 (t13 + 1)))))
      (some (Sum.inr (Sum.inl ())))
def Equal13 (k : Nat) (s1 : tY23) (s2 : tY23) : Option tY22 :=
  cond ((List.length s1 : Int) != (List.length s2 : Int))
    (some (false, ()))
    (Option.bind
      (loopN (Equal13.l0 k s1 s2) k 0 : Option tY19) (joined fun (_ : Unit) =>
      some (true, ())))
def Equal13.A : Ann := { conds := [], blocks := [(0, ⟨[], [], 0, [], 67100720⟩)], loops := [(4, ⟨[(13, .int .i64)], [], 0, [], 67100720⟩)], keeps := [], orders := [(6, [(0, .strong), (1, .strong), (2, .strong), (3, .strong), (4, .strong), (5, .strong), (6, .strong), (7, .strong), (8, .strong)])] }
def Equal13.S : Sig := { f := 13, params := [.sl kY6, .sl kY6], objs := [], res := .bool, outs := [], fix := [], run := fun k ds os => Equal13 k ds.1 ds.2 }
def Equal13.G : List Sig := []
theorem Equal13.eq (k : Nat) : ∀ ds os, Equal13.S.run k ds os = runF ⟨types, Equal13.G, Equal13.A, k, 0, []⟩ Try.f13 (codeOf Try.f13) Equal13.S.params Equal13.S.objs Equal13.S.res Equal13.S.outs ds os := by
  intro ds os; kernel_rfl
theorem Equal13.dr : DrOk Try.prog Equal13.A (codeOf Try.f13) := ⟨by kernel_rfl, by kernel_rfl⟩
theorem Equal13.ok (k : Nat) : SoundAt Try.prog k Equal13.S :=
  runF_sound (X := ⟨types, Equal13.G, Equal13.A, k, 0, []⟩) types_ok (fun s hs => absurd hs List.not_mem_nil) (fn := Try.f13) (c := codeOf Try.f13) rfl (by kernel_rfl) rfl rfl Equal13.dr (Equal13.eq k)
end Go.Proofs.Ytndobdmiepmjfaa.Tp

/- Go functions as plain Lean functions, and their contracts. -/
set_option linter.unusedVariables false
set_option maxRecDepth 100000
noncomputable section
namespace Go.Proofs.Ytndobdmiepmjfaa.Tp
open Go Go.Proofs.Ytndobdmiepmjfaa.Gp
def TracePacks3.l0 (k : Nat) (l : tY18) (t38 : tY13) : tY14 → Option (tY14 ⊕ tY9)
  | (_, t41, o2) =>
    cond (decide (t41 < (List.length t38.1 : Int)))
      ((rd t38.1 t41).bind fun t44 =>
      Option.bind (cond (cond (decide (t44.2 < 1)) true (decide (t44.2 > (List.length l : Int))))
        (some true)
        (Option.bind (cond (decide (t41 > 0))
          ((rd t38.1 (w64 (t41 - 1))).bind fun t63 =>
          some (xor false (eqB kY3 t63.1 t44.1)))
          (some false)) fun t69 =>
        some t69)) fun t70 =>
      cond t70
        (some (Sum.inr (Sum.inr (false, ()))))
        ((Repeat5 k () t44.2 [t44.1]).bind fun t77 =>
        (if room (List.length o2 + List.length t77.1) 24 then some () else none).bind fun _ =>
        some (Sum.inl ((), (w64 (t41 + 1)), (o2 ++ t77.1)))))
      (some (Sum.inr (Sum.inl ((), o2))))
def TracePacks3.l1 (k : Nat) (runs : tY17) : tY8 → Option (tY8 ⊕ tY14)
  | (_, f, n, t87, o2_2) =>
    cond (decide (t87 < (List.length runs : Int)))
      ((rd runs t87).bind fun t89 =>
      Option.bind
        (cond (f != 0)
          (some ((), f, t89, o2_2))
          (Option.bind
            (cond (decide (t89.2 < 1))
              (some ((), 1, t89, o2_2))
              (Option.bind
                (cond (cond (decide (t89.2 > 100000)) true (decide ((w64 (n + t89.2)) > 100000)))
                  (some ((), 2, t89, o2_2))
                  (some ((), f, t89, o2_2)) : Option tY5) fun ((_, f_1, r, o2_3) : tY5) =>
              some ((), f_1, r, o2_3)) : Option tY5) fun ((_, f_2, r_1, o2_4) : tY5) =>
          some ((), f_2, r_1, o2_4)) : Option tY5) fun ((_, f_3, r_2, o2_5) : tY5) =>
      some (Sum.inl ((), f_3, (w64 (n + (mxI 0 (mnI r_2.2 100001)))), (w64 (t87 + 1)), o2_5)))
      (some (Sum.inr ((), f, o2_2)))
def TracePacks3.l2 (k : Nat) (runs : tY17) (f_4 : Int) : tY3 → Option (tY3 ⊕ tY6)
  | (_, _, t118, o2_7, o5) =>
    cond (decide (t118 < (List.length runs : Int)))
      ((rd runs t118).bind fun t120 =>
      Option.bind
        (cond (f_4 == 0)
          ((Repeat5 k () t120.2 [t120.1]).bind fun t130 =>
          (if room (List.length o5 + List.length t130.1) 24 then some () else none).bind fun _ =>
          some ((), (), o2_7, (o5 ++ t130.1)))
          (some ((), (), o2_7, o5)) : Option tY6) fun ((_, _, o2_8, o5_1) : tY6) =>
      some (Sum.inl ((), (), (w64 (t118 + 1)), o2_8, o5_1)))
      (some (Sum.inr ((), (), o2_7, o5)))
def TracePacks3.l3 (k : Nat) (l : tY18) (do_ : Int) (low : Int) (high : Int) (addr : Int) : tY0 → Option (tY0 ⊕ tY2)
  | (_, _, _, _, last, any, t135, o2_10, o5_3, o6, o8) =>
    cond (decide (t135 < (List.length l : Int)))
      ((rd l t135).bind fun t137 =>
      Option.bind
        (cond (cond (decide (t137.1 ≥ 0)) (decide (t137.1 < 3)) false)
          ((if 0 ≤ t137.1 ∧ t137.1 < 3 then some () else none).bind fun _ =>
          (rd o6 t137.1).bind fun t150 =>
          (if 0 ≤ t137.1 ∧ t137.1 < 3 then some () else none).bind fun _ =>
          (rd o6 t137.1).bind fun _ =>
          some ((), (), (), (), t137, o2_10, o5_3, (List.set o6 (Int.toNat t137.1) (w64 (t150 + 1))), o8))
          (some ((), (), (), (), t137, o2_10, o5_3, o6, o8)) : Option tY1) fun ((_, _, _, _, x, o2_11, o5_4, o6_1, o8_1) : tY1) =>
      Option.bind (cond (cond (cond (cond (x.1 == do_) (cond (do_ == 1) true (do_ == 2)) false) (decide (x.2.1 ≥ low)) false) (decide (x.2.1 ≤ high)) false)
        ((Contains7 k o8_1 x.2.1).bind fun t181 =>
        some (!t181.1))
        (some false)) fun t183 =>
      Option.bind
        (cond t183
          ((if room (List.length o8_1 + List.length ([x.2.1] : List Int)) 8 then some () else none).bind fun _ =>
          some ((), (), (), (), x, o2_11, o5_4, o6_1, (o8_1 ++ ([x.2.1] : List Int))))
          (some ((), (), (), (), x, o2_11, o5_4, o6_1, o8_1)) : Option tY1) fun ((_, _, _, _, x_1, o2_12, o5_5, o6_2, o8_2) : tY1) =>
      Option.bind
        (cond (cond (x_1.1 != 0) (x_1.2.1 == addr) false)
          (some ((), (), (), (), x_1.2.2, true, o2_12, o5_5, o6_2, o8_2))
          (some ((), (), (), (), last, any, o2_12, o5_5, o6_2, o8_2)) : Option tY2) fun ((_, _, _, _, last_1, any_1, o2_13, o5_6, o6_3, o8_3) : tY2) =>
      some (Sum.inl ((), (), (), (), last_1, any_1, (w64 (t135 + 1)), o2_13, o5_6, o6_3, o8_3)))
      (some (Sum.inr ((), (), (), (), last, any, o2_10, o5_3, o6, o8)))
def TracePacks3 (k : Nat) (l : tY18) (runs : tY17) (do_ : Int) (low : Int) (high : Int) (addr : Int) : Option tY22 :=
  (Pack4 k l).bind fun t38 =>
  Option.bind
    (loopN (TracePacks3.l0 k l t38) k ((), 0, []) : Option tY9) (joined fun ((_, o2_1) : tY16) =>
    (Open6 k runs).bind fun t82 =>
    Option.bind
      (loopN (TracePacks3.l1 k runs) k ((), 0, 0, 0, o2_1) : Option tY14) fun ((_, f_4, o2_6) : tY14) =>
    Option.bind
      (loopN (TracePacks3.l2 k runs f_4) k ((), (), 0, o2_6, []) : Option tY6) fun ((_, _, o2_9, o5_2) : tY6) =>
    Option.bind
      (loopN (TracePacks3.l3 k l do_ low high addr) k ((), (), (), (), 0, false, 0, o2_9, o5_2, (List.replicate 3 0), []) : Option tY2) fun ((_, _, _, _, last_2, any_2, o2_14, o5_7, o6_4, o8_4) : tY2) =>
    (Sort8 k () o8_4).bind fun t202 =>
    (Count9 k l).bind fun t205 =>
    (Last10 k l addr).bind fun t212 =>
    (traced11 k).bind fun t215 =>
    Option.bind (cond t215.1
      ((Equal12 k o2_14 l).bind fun t219 =>
      some t219.1)
      (some false)) fun t220 =>
    Option.bind (cond (cond t220 (t82.1.2.1 == f_4) false)
      ((Equal12 k t82.1.1 o5_7).bind fun t229 =>
      some t229.1)
      (some false)) fun t230 =>
    Option.bind (cond (cond t230 (xor false (eqB kY5 ([t205.1.1, t205.1.2.1, t205.1.2.2.1] : tY23) o6_4)) false)
      ((Touched14 k l do_ low high).bind fun t244 =>
      (Equal13 k t244.1 t202.2).bind fun t246 =>
      some t246.1)
      (some false)) fun t247 =>
    some ((cond (cond t247 (t212.1.1 == last_2) false) (xor false (t212.1.2.1 == any_2)) false), ()))
def TracePacks3.A : Ann := { conds := [(5963792, ⟨[(14, .ms 2), (19, .int .i64), (22, .fp kY0)], [(2, .row kY3)], 3, [], 649017300276224887481913655689216⟩), (6160401, ⟨[(14, .ms 2), (19, .int .i64), (22, .fp kY0)], [(2, .row kY3)], 3, [], 648720194666796396215937865875456⟩), (6422547, ⟨[(14, .ms 2), (19, .int .i64), (22, .fp kY0)], [(2, .row kY3)], 3, [], 524288⟩), (8060955, ⟨[(14, .ms 2), (23, .ms 5)], [(2, .row kY3), (5, .row kY3)], 6, [], 5423250222802456761447532805943814258688⟩), (9568292, ⟨[(14, .ms 2), (23, .ms 5), (26, .ptr 6 []), (27, .ms 8), (31, .fp kY3)], [(2, .row kY3), (5, .row kY3), (6, .var kY5), (8, .row kY6)], 9, [], 11239575580059434063334002009414774199014129664⟩), (11993126, ⟨[(14, .ms 2), (23, .ms 5), (26, .ptr 6 []), (27, .ms 8), (31, .fp kY3)], [(2, .row kY3), (5, .row kY3), (6, .var kY5), (8, .row kY6)], 9, [], 760117788269480873745740125466553355074894604603200897024⟩), (12910632, ⟨[(14, .ms 2), (23, .ms 5), (26, .ptr 6 []), (27, .ms 8), (28, .int .i64), (29, .bool)], [(2, .row kY3), (5, .row kY3), (6, .var kY5), (8, .row kY6)], 9, [], 1205203533194242706656471569255871951891652245337095431782400⟩)], blocks := [(0, ⟨[(14, .ms 2)], [(2, .row kY3)], 3, [], 1208925819612430151569408⟩), (2, ⟨[(14, .ms 2), (19, .int .i64)], [(2, .row kY3)], 3, [], 83076749581814737145815406910898176⟩), (5, ⟨[(14, .ms 2), (23, .ms 5)], [(2, .row kY3), (5, .row kY3)], 6, [], 10888703434471084601859761486051554623488⟩), (7, ⟨[(14, .ms 2), (23, .ms 5), (26, .ptr 6 []), (27, .ms 8), (28, .int .i64), (29, .bool)], [(2, .row kY3), (5, .row kY3), (6, .var kY5), (8, .row kY6)], 9, [], 3213876088517980551040368041716445081721094037814322426544128⟩)], loops := [(4, ⟨[(14, .ms 2), (41, .int .i64)], [(2, .row kY3)], 3, [(2, .st kY4)], 1208925819612430151569408⟩), (13, ⟨[(14, .ms 2), (19, .int .i64), (20, .int .i64), (87, .int .i64)], [(2, .row kY3)], 3, [], 83076749581814737145815406910898176⟩), (24, ⟨[(14, .ms 2), (23, .ms 5), (118, .int .i64)], [(2, .row kY3), (5, .row kY3)], 6, [(5, .st kY4)], 10888703434471084601859761486051554623488⟩), (33, ⟨[(14, .ms 2), (23, .ms 5), (26, .ptr 6 []), (27, .ms 8), (28, .int .i64), (29, .bool), (135, .int .i64)], [(2, .row kY3), (5, .row kY3), (6, .var kY5), (8, .row kY6)], 9, [(8, .int .i64)], 3213876088517980551040368041716445081721094037814322426544128⟩)], keeps := [16, 22, 25, 31], orders := [(6, [(0, .strong), (1, .strong), (2, .strong), (3, .strong), (4, .strong), (5, .strong), (6, .strong), (7, .strong), (8, .strong), (9, .strong), (10, .strong), (11, .strong), (12, .strong), (13, .strong), (14, .strong), (15, .strong), (16, .strong), (17, .strong), (18, .strong), (19, .strong), (20, .strong), (21, .strong), (22, .strong), (23, .strong), (24, .strong)])] }
def TracePacks3.S : Sig := { f := 3, params := [.sl kY3, .sl kY0, .int .i64, .int .i64, .int .i64, .int .i64], objs := [], res := .bool, outs := [], fix := [], run := fun k ds os => TracePacks3 k ds.1 ds.2.1 ds.2.2.1 ds.2.2.2.1 ds.2.2.2.2.1 ds.2.2.2.2.2 }
def TracePacks3.G : List Sig := [Contains7.S, Count9.S, Equal12.S, Equal13.S, Last10.S, Open6.S, Pack4.S, Repeat5.S, Sort8.S, Touched14.S, traced11.S]
theorem TracePacks3.eq (k : Nat) : ∀ ds os, TracePacks3.S.run k ds os = runF ⟨types, TracePacks3.G, TracePacks3.A, k, 0, []⟩ Try.f3 (codeOf Try.f3) TracePacks3.S.params TracePacks3.S.objs TracePacks3.S.res TracePacks3.S.outs ds os := by
  intro ds os; kernel_rfl
theorem TracePacks3.dr : DrOk Try.prog TracePacks3.A (codeOf Try.f3) := ⟨by kernel_rfl, by kernel_rfl⟩
theorem TracePacks3.ok (k : Nat) : SoundAt Try.prog k TracePacks3.S :=
  runF_sound (X := ⟨types, TracePacks3.G, TracePacks3.A, k, 0, []⟩) types_ok (mem_all (⟨Contains7.ok k, ⟨Count9.ok k, ⟨Equal12.ok k, ⟨Equal13.ok k, ⟨Last10.ok k, ⟨Open6.ok k, ⟨Pack4.ok k, ⟨Repeat5.ok k, ⟨Sort8.ok k, ⟨Touched14.ok k, ⟨traced11.ok k, trivial⟩⟩⟩⟩⟩⟩⟩⟩⟩⟩⟩)) (fn := Try.f3) (c := codeOf Try.f3) rfl (by kernel_rfl) rfl rfl TracePacks3.dr (TracePacks3.eq k)
end Go.Proofs.Ytndobdmiepmjfaa.Tp

/- What is left of a Go function, in the long run: rounds, loops, lists, numbers. No program in sight. -/
set_option linter.unusedVariables false
noncomputable section
namespace Go.Proofs.Ytndobdmiepmjfaa.Gp
open Go

/-- from some fuel on, f answers v -/
def Ev {α : Type} (f : Nat → Option α) (v : α) : Prop := ∃ n, ∀ k, n ≤ k → f k = some v
/-- .. a loop, from some fuel on and with enough rounds -/
def Lp {S R : Type} (body : Nat → S → Option (S ⊕ R)) (s : S) (r : R) : Prop := ∃ n m, ∀ k, n ≤ k → ∀ j, m ≤ j → loopN (body k) j s = some r

theorem Ev.ex {α : Type} {f : Nat → Option α} {v : α} (h : Ev f v) : ∃ k, f k = some v := by
  obtain ⟨n, h⟩ := h
  exact ⟨n, h n (Nat.le_refl _)⟩
theorem Ev.now {α : Type} (v : α) : Ev (fun _ => some v) v := ⟨0, fun _ _ => rfl⟩
theorem Ev.now' {α : Type} {v w : α} (h : v = w) : Ev (fun _ => some v) w := h ▸ .now v
/-- what hangs on no fuel -/
theorem Ev.const {α : Type} {o : Option α} {v : α} (h : o = some v) : Ev (fun _ => o) v := ⟨0, fun _ _ => h⟩
theorem Ev.to {α : Type} {f : Nat → Option α} {v w : α} (h : Ev f v) (e : v = w) : Ev f w := e ▸ h
theorem Ev.of {α : Type} {f g : Nat → Option α} {v : α} (h : Ev f v) (e : ∀ k, g k = f k) : Ev g v := by
  obtain ⟨n, h⟩ := h
  exact ⟨n, fun k hk => (e k).trans (h k hk)⟩
theorem Ev.bind {α β : Type} {f : Nat → Option α} {g : Nat → α → Option β} {a : α} {b : β} (h : Ev f a) (h2 : Ev (fun k => g k a) b) : Ev (fun k => (f k).bind (g k)) b := by
  obtain ⟨n, h⟩ := h
  obtain ⟨m, h2⟩ := h2
  refine ⟨max n m, fun k hk => ?_⟩
  show (f k).bind (g k) = _
  rw [h k (by omega)]
  exact h2 k (by omega)
/-- a value that hangs on no fuel -/
theorem Ev.val {α β : Type} {o : Option α} {g : Nat → α → Option β} {a : α} {b : β} (h : o = some a) (h2 : Ev (fun k => g k a) b) : Ev (fun k => o.bind (g k)) b := by
  subst h
  exact h2
theorem Ev.joinL {S α β : Type} {f : Nat → Option (α ⊕ β)} {g : Nat → α → Option β} {a : α} {b : β} (h : Ev f (.inl a)) (h2 : Ev (fun k => g k a) b) : Ev (fun k => (f k).bind (joined (g k))) b :=
  Ev.bind (g := fun k => joined (g k)) h h2
theorem Ev.joinR {α β : Type} {f : Nat → Option (α ⊕ β)} {g : Nat → α → Option β} {b : β} (h : Ev f (.inr b)) : Ev (fun k => (f k).bind (joined (g k))) b :=
  Ev.bind (g := fun k => joined (g k)) h (.now b)
theorem Ev.yes {α : Type} {c : Bool} {f g : Nat → Option α} {v : α} (hc : c = true) (h : Ev f v) : Ev (fun k => cond c (f k) (g k)) v := by rw [hc]; exact h
theorem Ev.no {α : Type} {c : Bool} {f g : Nat → Option α} {v : α} (hc : c = false) (h : Ev g v) : Ev (fun k => cond c (f k) (g k)) v := by rw [hc]; exact h
theorem Ev.map {α β : Type} {f : Nat → Option α} {g : α → β} {a : α} (h : Ev f a) : Ev (fun k => (f k).map g) (g a) := by
  obtain ⟨n, h⟩ := h
  exact ⟨n, fun k hk => by show (f k).map g = _; rw [h k hk]; rfl⟩

theorem Lp.ev {S R : Type} {body : Nat → S → Option (S ⊕ R)} {s : S} {r : R} (h : Lp body s r) : Ev (fun k => loopN (body k) k s) r := by
  obtain ⟨n, m, h⟩ := h
  exact ⟨max n m, fun k hk => h k (by omega) k (by omega)⟩
theorem Lp.done {S R : Type} {body : Nat → S → Option (S ⊕ R)} {s : S} {r : R} (h : Ev (fun k => body k s) (.inr r)) : Lp body s r := by
  obtain ⟨n, h⟩ := h
  refine ⟨n, 1, fun k hk j hj => ?_⟩
  obtain ⟨j, rfl⟩ : ∃ i, j = i + 1 := ⟨j - 1, by omega⟩
  show (body k s).bind _ = _
  rw [show body k s = _ from h k hk]
  rfl
theorem Lp.step {S R : Type} {body : Nat → S → Option (S ⊕ R)} {s s' : S} {r : R} (h : Ev (fun k => body k s) (.inl s')) (h2 : Lp body s' r) : Lp body s r := by
  obtain ⟨n, h⟩ := h
  obtain ⟨n2, m, h2⟩ := h2
  refine ⟨max n n2, m + 1, fun k hk j hj => ?_⟩
  obtain ⟨j, rfl⟩ : ∃ i, j = i + 1 := ⟨j - 1, by omega⟩
  show (body k s).bind _ = _
  rw [show body k s = _ from h k (by omega)]
  exact h2 k (by omega) j (by omega)

/-- a walk over a list, that may end early -/
def walk {α β R : Type} (f : β → α → β ⊕ R) (fin : β → R) : List α → β → R
  | [], b => fin b
  | x :: l, b => match f b x with | .inl b' => walk f fin l b' | .inr r => r
theorem walk_cons {α β R : Type} {f : β → α → β ⊕ R} {fin : β → R} {x : α} {l : List α} {b : β} : walk f fin (x :: l) b = match f b x with | .inl b' => walk f fin l b' | .inr r => r := rfl

/-- a loop over a list by its index: 'st b i' is the loop's state -/
theorem Lp.walk {α β S R : Type} {body : Nat → S → Option (S ⊕ R)} (l : List α) (st : β → Int → S) (f : β → α → β ⊕ R) (fin : β → R) (Inv : Nat → β → Prop)
    (hs : ∀ i x b, l[i]? = some x → Inv i b → Ev (fun k => body k (st b i)) (match f b x with | .inl b' => .inl (st b' ((i : Int) + 1)) | .inr r => .inr r) ∧ ∀ b', f b x = .inl b' → Inv (i + 1) b')
    (hd : ∀ b, Inv l.length b → Ev (fun k => body k (st b l.length)) (.inr (fin b))) {b : β} (h0 : Inv 0 b) : Lp body (st b 0) (walk f fin l b) := by
  have key : ∀ (suf pre : List α) (b : β), l = pre ++ suf → Inv pre.length b → Lp body (st b (pre.length : Int)) (Gp.walk f fin suf b) := by
    intro suf
    induction suf with
    | nil =>
      intro pre b h hi
      rw [List.append_nil] at h
      subst h
      exact .done (hd b hi)
    | cons x suf ih =>
      intro pre b h hi
      have hx : l[pre.length]? = some x := by rw [h]; simp
      obtain ⟨h1, h2⟩ := hs pre.length x b hx hi
      rw [walk_cons]
      cases hf : f b x with
      | inr r => rw [hf] at h1; exact .done h1
      | inl b' =>
        rw [hf] at h1
        refine .step h1 ?_
        have := ih (pre ++ [x]) b' (by rw [h]; simp) (by simpa using h2 b' hf)
        simpa using this
  exact key l [] b rfl h0
/-- .. that always goes to its end -/
theorem Lp.fold {α β S R : Type} {body : Nat → S → Option (S ⊕ R)} (l : List α) (st : β → Int → S) (f : β → α → β) (fin : β → R) (Inv : Nat → β → Prop)
    (hs : ∀ i x b, l[i]? = some x → Inv i b → Ev (fun k => body k (st b i)) (.inl (st (f b x) ((i : Int) + 1))) ∧ Inv (i + 1) (f b x))
    (hd : ∀ b, Inv l.length b → Ev (fun k => body k (st b l.length)) (.inr (fin b))) {b : β} (h0 : Inv 0 b) : Lp body (st b 0) (fin (l.foldl f b)) := by
  have := Lp.walk (body := body) l st (fun b x => .inl (f b x)) fin Inv (fun i x b hx hi => ⟨(hs i x b hx hi).1, fun b' hb => by cases hb; exact (hs i x b hx hi).2⟩) hd h0
  have e : ∀ (l : List α) (b : β), Gp.walk (fun b x => (.inl (f b x) : β ⊕ R)) fin l b = fin (l.foldl f b) := by
    intro l
    induction l with
    | nil => intro b; rfl
    | cons x l ih => intro b; rw [walk_cons, List.foldl_cons]; exact ih _
  rwa [e] at this
theorem w64_id {x : Int} (h0 : -9223372036854775808 ≤ x) (h1 : x ≤ 9223372036854775807) : w64 x = x := by
  show IntKind.wrap .i64 x = x
  have e : (2 : Int) ^ (64 - 1) = 9223372036854775808 := by decide
  have e2 : (2 : Int) ^ 64 = 18446744073709551616 := by decide
  simp only [IntKind.wrap, IntKind.signed, IntKind.bits, Bool.true_and, decide_eq_true_eq, e, e2]
  split <;> omega
theorem w64_succ {n : Nat} (h : n < 9223372036854775807) : w64 ((n : Int) + 1) = ((n + 1 : Nat) : Int) := by rw [w64_id (by omega) (by omega)]; omega
theorem rd_nat {α : Type} (l : List α) (i : Nat) : rd l (i : Int) = l[i]? := by
  unfold rd
  rw [if_pos (by omega)]
  rfl
theorem rd_some' {α : Type} {l : List α} {i : Nat} {x : α} (h : l[i]? = some x) : rd l (i : Int) = some x := by rw [rd_nat, h]
theorem room_ok {n b : Nat} (h : n * b ≤ 140737488355328) : room n b = true := by
  unfold room
  rw [Nat.ble_eq_true_of_le h]
  rfl
theorem room_big {n b : Nat} (h : (n + n / 4 + 192) * b ≤ 281474976710656) : room n b = true := by
  unfold room
  rw [Nat.ble_eq_true_of_le h, Bool.or_true]
theorem get_lt {α : Type} {l : List α} {i : Nat} {x : α} (h : l[i]? = some x) : i < l.length := (List.getElem?_eq_some_iff.1 h).1
theorem get_mem {α : Type} {l : List α} {i : Nat} {x : α} (h : l[i]? = some x) : x ∈ l := List.mem_of_getElem? h
theorem eqB_iff {k : K} (hc : k.cmp = true) {x y : k.den} : eqB k x y = true ↔ x = y := ⟨eqB_eq hc, fun h => by rw [h]; exact eqB_refl hc⟩
end Go.Proofs.Ytndobdmiepmjfaa.Gp

/- Traces: packing. No program in sight. -/
set_option linter.unusedVariables false
set_option maxRecDepth 100000
noncomputable section
namespace Go.Proofs.Ytndobdmiepmjfaa.Tp
open Go Go.Proofs.Ytndobdmiepmjfaa.Gp

abbrev Run := Bus × Int
abbrev bK : K := .st (.pair (.int .i64) (.pair (.int .i64) (.int .i64)))
def expand (o : List Run) : List Bus := o.flatMap fun r => List.replicate r.2.toNat r.1
theorem expand_app (o p : List Run) : expand (o ++ p) = expand o ++ expand p := by unfold expand; rw [List.flatMap_append]
theorem expand_one (r : Run) : expand [r] = List.replicate r.2.toNat r.1 := by unfold expand; simp
def packF (o : List Run) (b : Bus) : List Run :=
  match o[o.length - 1]? with
  | some r => if r.1 = b then o.set (o.length - 1) (r.1, r.2 + 1) else o ++ [(b, 1)]
  | none => o ++ [(b, 1)]
def adj (o : List Run) : Prop := ∀ (i : Nat) (r s : Run), o[i]? = some r → o[i + 1]? = some s → r.1 ≠ s.1
structure PackI (p : List Bus) (o : List Run) : Prop where
  exp : expand o = p
  many : ∀ r ∈ o, 1 ≤ r.2
  adj : adj o
theorem nil_or_snoc {α : Type} : ∀ (o : List α), o = [] ∨ ∃ q x, o = q ++ [x]
  | [] => .inl rfl
  | x :: o => .inr (by
    rcases nil_or_snoc o with rfl | ⟨q, y, rfl⟩
    · exact ⟨[], x, rfl⟩
    · exact ⟨x :: q, y, rfl⟩)
theorem last_at {α : Type} (q : List α) (x : α) : (q ++ [x])[(q ++ [x]).length - 1]? = some x := by
  rw [List.length_append, List.length_singleton, Nat.add_sub_cancel, List.getElem?_append_right (Nat.le_refl _), Nat.sub_self]
  rfl
theorem set_last {α : Type} (q : List α) (x y : α) : (q ++ [x]).set ((q ++ [x]).length - 1) y = q ++ [y] := by
  rw [List.length_append, List.length_singleton, Nat.add_sub_cancel, List.set_append_right _ _ (Nat.le_refl _), Nat.sub_self]
  rfl
theorem rep_succ {b : Bus} {n : Int} (h : 1 ≤ n) : List.replicate (n + 1).toNat b = List.replicate n.toNat b ++ [b] := by
  rw [show (n + 1).toNat = n.toNat + 1 by omega, List.replicate_succ']
theorem adj_snoc {q : List Run} {r s : Run} (h : adj (q ++ [r])) (hne : r.1 ≠ s.1) : adj (q ++ [r] ++ [s]) := by
  intro i a b ha hb
  by_cases h1 : i + 1 < (q ++ [r]).length
  · rw [List.getElem?_append_left (by omega)] at ha
    rw [List.getElem?_append_left h1] at hb
    exact h i a b ha hb
  · have hi : i + 1 = (q ++ [r]).length := by
      have := (List.getElem?_eq_some_iff.1 hb).1
      rw [List.length_append, List.length_singleton] at this
      omega
    rw [hi, List.getElem?_append_right (Nat.le_refl _), Nat.sub_self] at hb
    have hb : s = b := by simpa using hb
    have hl : (q ++ [r]).length = q.length + 1 := by simp
    rw [List.getElem?_append_left (by omega), show i = q.length by omega, List.getElem?_append_right (Nat.le_refl _), Nat.sub_self] at ha
    have ha : r = a := by simpa using ha
    rw [← ha, ← hb]
    exact hne
theorem adj_last {q : List Run} {r s : Run} (h : adj (q ++ [r])) (e : s.1 = r.1) : adj (q ++ [s]) := by
  intro i a b ha hb
  have hi := (List.getElem?_eq_some_iff.1 hb).1
  rw [List.length_append, List.length_singleton] at hi
  rw [List.getElem?_append_left (by omega)] at ha
  have ha' : (q ++ [r])[i]? = some a := by rw [List.getElem?_append_left (by omega)]; exact ha
  by_cases h1 : i + 1 < q.length
  · rw [List.getElem?_append_left h1] at hb
    exact h i a b ha' (by rw [List.getElem?_append_left h1]; exact hb)
  · have h2 : i + 1 = q.length := by omega
    rw [h2, List.getElem?_append_right (Nat.le_refl _), Nat.sub_self] at hb
    have hb : s = b := by simpa using hb
    rw [← hb, e]
    exact h i a r ha' (by rw [h2, List.getElem?_append_right (Nat.le_refl _), Nat.sub_self]; rfl)
theorem pack_step {p : List Bus} {o : List Run} (h : PackI p o) (b : Bus) : PackI (p ++ [b]) (packF o b) := by
  rcases nil_or_snoc o with rfl | ⟨q, r, rfl⟩
  · have hp : p = [] := h.exp.symm
    subst hp
    show PackI [b] [(b, 1)]
    exact ⟨rfl, fun r hr => by rw [List.mem_singleton.1 hr]; exact Int.le_refl 1, fun i r s h1 h2 => by simp at h2⟩
  · have h1 := h.many r (by simp)
    have hx := h.exp
    rw [expand_app, expand_one] at hx
    unfold packF
    rw [last_at]
    by_cases hb : r.1 = b
    · simp only [if_pos hb]
      rw [set_last]
      refine ⟨?_, fun x hx => ?_, adj_last h.adj rfl⟩
      · rw [expand_app, expand_one, rep_succ h1, ← hx, hb, List.append_assoc]
      · rcases List.mem_append.1 hx with hx | hx
        · exact h.many x (by simp [hx])
        · rw [List.mem_singleton.1 hx]
          show 1 ≤ r.2 + 1
          omega
    · simp only [if_neg hb]
      refine ⟨?_, fun x hx => ?_, adj_snoc h.adj hb⟩
      · rw [expand_app, expand_app, expand_one, expand_one, ← hx]
        rfl
      · rcases List.mem_append.1 hx with hx | hx
        · exact h.many x hx
        · rw [List.mem_singleton.1 hx]; exact Int.le_refl 1
theorem exp_len_ge {o : List Run} (h : ∀ r ∈ o, 1 ≤ r.2) : o.length ≤ (expand o).length := by
  induction o with
  | nil => exact Nat.le_refl _
  | cons r o ih =>
    have h1 := h r (by simp)
    have := ih (fun x hx => h x (List.mem_cons_of_mem _ hx))
    have e : expand (r :: o) = List.replicate r.2.toNat r.1 ++ expand o := rfl
    rw [e, List.length_append, List.length_replicate, List.length_cons]
    omega
theorem exp_mem_le {o : List Run} {r : Run} (hr : r ∈ o) : r.2.toNat ≤ (expand o).length := by
  induction o with
  | nil => cases hr
  | cons s o ih =>
    have e : expand (s :: o) = List.replicate s.2.toNat s.1 ++ expand o := rfl
    rw [e, List.length_append, List.length_replicate]
    rcases List.mem_cons.1 hr with rfl | hr
    · omega
    · have := ih hr; omega
theorem eqb {a b : Bus} : eqB bK a b = decide (a = b) := by
  have : eqB bK a b = true ↔ a = b := eqB_iff (k := bK) rfl
  by_cases h : a = b
  · rw [decide_eq_true h]; exact this.2 h
  · rw [decide_eq_false h]
    cases he : eqB bK a b with
    | false => rfl
    | true => exact absurd (this.1 he) h
theorem take_succ' {α : Type} {l : List α} {i : Nat} {x : α} (hx : l[i]? = some x) : l.take (i + 1) = l.take i ++ [x] := by
  rw [List.take_add_one, hx]; rfl
def packed (l : List Bus) : List Run := l.foldl packF []
theorem pack_lp (l : List Bus) (hl : l.length ≤ 5864062014634) : Gp.Lp (fun k => Pack4.l0 k l) ((), 0, []) ((), packed l) ∧ PackI l (packed l) := by
  have hfold : PackI l (packed l) := by
    have : ∀ (r p : List Bus) (o : List Run), PackI p o → PackI (p ++ r) (r.foldl packF o) := by
      intro r
      induction r with
      | nil => intro p o h; rw [List.append_nil]; exact h
      | cons x r ih =>
        intro p o h
        have := ih (p ++ [x]) (packF o x) (pack_step h x)
        rwa [List.append_assoc] at this
    have := this l [] [] ⟨rfl, fun r hr => (by cases hr), fun i r s h => by simp at h⟩
    exact this
  refine ⟨?_, hfold⟩
  refine Lp.fold (body := fun k => Pack4.l0 k l) l (fun (o : List Run) i => ((), i, o)) packF (fun o => ((), o)) (fun i o => PackI (l.take i) o) (fun i x o hx ho => ⟨?_, ?_⟩) (fun o _ => ?_) (b := []) ⟨rfl, fun r hr => (by cases hr), fun i r s h => by simp at h⟩
  · have hi := get_lt hx
    have hlen := exp_len_ge ho.many
    rw [ho.exp, List.length_take] at hlen
    have hww : w64 ((i : Int) + 1) = ((i : Int) + 1) := w64_id (by omega) (by omega)
    simp only [Pack4.l0]
    refine .yes (decide_eq_true (by omega)) ?_
    rcases nil_or_snoc o with rfl | ⟨q, r, rfl⟩
    · refine .bind (a := ((), packF [] x)) (.val (rd_some' hx) (.bind (a := false) (.no rfl (.now _)) (.no rfl (.val (a := ()) ?_ (.now _))))) (.now' (by rw [hww]))
      rw [if_pos (room_ok (by simp))]
    · have hql : (q ++ [r]).length = q.length + 1 := by simp
      have e1 : w64 (((q ++ [r]).length : Int) - 1) = (q.length : Int) := by rw [w64_id (by omega) (by omega)]; omega
      have hr1 := ho.many r (by simp)
      have hr2 := exp_mem_le (o := q ++ [r]) (r := r) (by simp)
      rw [ho.exp, List.length_take] at hr2
      have hrd : rd (q ++ [r]) (q.length : Int) = some r := rd_some' (by rw [List.getElem?_append_right (Nat.le_refl _), Nat.sub_self]; rfl)
      refine .bind (a := ((), packF (q ++ [r]) x)) (.val (rd_some' hx) ?_) (.now' (by rw [hww]))
      simp only [e1]
      refine .bind (a := decide (r.1 = x)) (.yes (decide_eq_true (by omega)) (.val hrd (.val hrd (.now' ?_)))) ?_
      · rw [← eqb]; exact Bool.false_xor _
      · unfold packF
        rw [last_at]
        by_cases hb : r.1 = x
        · simp only [if_pos hb]
          refine .yes (decide_eq_true hb) (.val hrd (.val hrd (.val hrd (.val hrd (.now' ?_)))))
          rw [set_last, w64_id (by omega) (by omega), Int.toNat_natCast]
          have := set_last q r (r.1, r.2 + 1)
          rw [hql, Nat.add_sub_cancel] at this
          rw [this]
        · simp only [if_neg hb]
          refine .no (decide_eq_false hb) (.val (a := ()) ?_ (.now _))
          rw [if_pos (room_big (by rw [List.length_singleton]; omega))]
  · rw [take_succ' hx]
    exact pack_step ho x
  · simp only [Pack4.l0]
    exact .no (by simp) (.now _)
theorem pack_ev (l : List Bus) (hl : l.length ≤ 5864062014634) : Ev (fun k => Pack4 k l) (packed l, ()) := by
  unfold Pack4
  exact .bind (pack_lp l hl).1.ev (.now _)
end Go.Proofs.Ytndobdmiepmjfaa.Tp

/- Traces: what packing gives back; opening. No program in sight. -/
set_option linter.unusedVariables false
set_option maxRecDepth 100000
noncomputable section
namespace Go.Proofs.Ytndobdmiepmjfaa.Tp
open Go Go.Proofs.Ytndobdmiepmjfaa.Gp

theorem rep_ev {r : Run} (h1 : 1 ≤ r.2) (h2 : r.2 ≤ 5864062014634) : Ev (fun k => Repeat5 k () r.2 [r.1]) (List.replicate r.2.toNat r.1, [r.1]) := by
  refine ⟨0, fun k _ => ?_⟩
  show (repF [r.1] r.2).map (fun x => (x, [r.1])) = _
  unfold repF
  rw [if_pos ⟨rfl, h1, by omega⟩]
  rfl
theorem exp_take_le {o : List Run} (i : Nat) : (expand (o.take i)).length ≤ (expand o).length := by
  have : expand o = expand (o.take i) ++ expand (o.drop i) := by rw [← expand_app, List.take_append_drop]
  rw [this, List.length_append]
  omega
/-- all runs are as they should be, and together they are the trace -/
theorem back_lp (l : List Bus) (hl : l.length ≤ 5864062014634) {o : List Run} (ho : PackI l o) : Gp.Lp (fun k => TracePacks3.l0 k l (o, ())) ((), 0, []) (.inl ((), l)) := by
  have key := Lp.fold (R := (Unit × List Bus) ⊕ (Bool × Unit)) (body := fun k => TracePacks3.l0 k l (o, ())) o (fun (b : List Bus) i => ((), i, b)) (fun b r => b ++ List.replicate r.2.toNat r.1) (fun b => .inl ((), b)) (fun i b => b = expand (o.take i)) (fun i r b hx hb => ⟨?_, ?_⟩) (fun b _ => ?_) (b := []) rfl
  · have : ∀ (o : List Run) (b : List Bus), o.foldl (fun b r => b ++ List.replicate r.2.toNat r.1) b = b ++ expand o := by
      intro o
      induction o with
      | nil => intro b; rw [List.foldl_nil]; exact (List.append_nil b).symm
      | cons r o ih =>
        intro b
        rw [List.foldl_cons, ih, List.append_assoc]
        rfl
    rw [this, List.nil_append, ho.exp] at key
    exact key
  · have hi := get_lt hx
    have hm := ho.many r (get_mem hx)
    have hle := exp_mem_le (get_mem hx)
    rw [ho.exp] at hle
    have hol := exp_len_ge ho.many
    rw [ho.exp] at hol
    have hbl : (b ++ List.replicate r.2.toNat r.1).length ≤ l.length := by
      have := exp_take_le (o := o) (i + 1)
      rw [take_succ' hx, expand_app, expand_one, ← hb, ho.exp] at this
      exact this
    rw [List.length_append] at hbl
    have hww : w64 ((i : Int) + 1) = ((i : Int) + 1) := w64_id (by omega) (by omega)
    simp only [TracePacks3.l0]
    refine .yes (decide_eq_true (by omega)) (.val (rd_some' hx) (.bind (a := false) (.no ?_ (.bind (a := false) ?_ (.now _))) (.no rfl (.bind (rep_ev hm (by omega)) (.val (a := ()) ?_ (.now' ?_))))))
    · rw [decide_eq_false (by omega)]
      exact decide_eq_false (by omega)
    · by_cases h0 : i = 0
      · subst h0
        exact .no rfl (.now _)
      · obtain ⟨j, rfl⟩ : ∃ j, i = j + 1 := ⟨i - 1, by omega⟩
        have hj : o[j]? = some o[j] := List.getElem?_eq_getElem (by omega)
        have hne := ho.adj j _ r hj hx
        have e : w64 (((j + 1 : Nat) : Int) - 1) = (j : Int) := by rw [w64_id (by omega) (by omega)]; omega
        refine .yes (decide_eq_true (by omega)) (.val (by rw [e]; exact rd_some' hj) (.now' ?_))
        show xor false (eqB bK o[j].1 r.1) = false
        rw [eqb, decide_eq_false hne]; rfl
    · rw [if_pos (room_ok (by show (b.length + (List.replicate r.2.toNat r.1).length) * 24 ≤ _; omega))]
    · rw [hww]
  · rw [hb, take_succ' hx, expand_app, expand_one]
  · simp only [TracePacks3.l0]
    exact .no (by simp) (.now _)
-- opening
def oF : List Run → Int → Int
  | [], _ => 0
  | r :: l, n => if r.2 < 1 then 1 else if r.2 > 100000 ∨ n + r.2 > 100000 then 2 else oF l (n + r.2)
theorem oF_len : ∀ {l : List Run} {n : Int}, n ≤ 100000 → oF l n = 0 → (∀ r ∈ l, 1 ≤ r.2 ∧ r.2 ≤ 100000) ∧ n + ((expand l).length : Int) ≤ 100000
  | [], n, h1, h => ⟨fun r hr => (by cases hr), by show n + ((0 : Nat) : Int) ≤ 100000; omega⟩
  | r :: l, n, h1, h => by
    unfold oF at h
    split at h
    · omega
    split at h
    · omega
    rename_i a b
    obtain ⟨p, q⟩ := oF_len (l := l) (n := n + r.2) (by omega) h
    refine ⟨fun x hx => ?_, ?_⟩
    · rcases List.mem_cons.1 hx with rfl | hx
      · omega
      · exact p x hx
    · have e : expand (r :: l) = List.replicate r.2.toNat r.1 ++ expand l := rfl
      rw [e, List.length_append, List.length_replicate]
      omega
theorem open_l0 (runs : List Run) (hr : runs.length ≤ 4398046511104) : ∀ (m i : Nat) (n : Int), i + m = runs.length → 0 ≤ n → n ≤ 100000 → Gp.Lp (fun k => Open6.l0 k runs) (n, (i : Int)) (if oF (runs.drop i) n = 0 then .inl () else .inr (([], oF (runs.drop i) n, ()), ())) := by
  intro m
  induction m with
  | zero =>
    intro i n hi h0 h1
    rw [List.drop_of_length_le (by omega)]
    refine .done ?_
    simp only [Open6.l0]
    exact .no (decide_eq_false (by omega)) (.now _)
  | succ m ih =>
    intro i n hi h0 h1
    have hx : runs[i]? = some runs[i] := List.getElem?_eq_getElem (by omega)
    have hd : runs.drop i = runs[i] :: runs.drop (i + 1) := List.drop_eq_getElem_cons (by omega)
    generalize runs[i]'(by omega) = r at hx hd
    rw [hd]
    unfold oF
    by_cases c1 : r.2 < 1
    · rw [if_pos c1, if_neg (by decide)]
      refine .done ?_
      simp only [Open6.l0]
      exact .yes (decide_eq_true (by omega)) (.val (rd_some' hx) (.yes (decide_eq_true c1) (.now _)))
    · rw [if_neg c1]
      by_cases c2 : r.2 > 100000 ∨ n + r.2 > 100000
      · rw [if_pos c2, if_neg (by decide)]
        refine .done ?_
        simp only [Open6.l0]
        refine .yes (decide_eq_true (by omega)) (.val (rd_some' hx) (.no (decide_eq_false c1) (.yes ?_ (.now _))))
        by_cases c3 : r.2 > 100000
        · rw [decide_eq_true c3]; rfl
        · rw [decide_eq_false c3, w64_id (by omega) (by omega)]
          exact decide_eq_true (by omega)
      · rw [if_neg c2]
        refine .step ?_ (ih (i + 1) (n + r.2) (by omega) (by omega) (by omega))
        simp only [Open6.l0]
        refine .yes (decide_eq_true (by omega)) (.val (rd_some' hx) (.no (decide_eq_false c1) (.no ?_ (.now' ?_))))
        · rw [decide_eq_false (by omega), w64_id (by omega) (by omega)]
          exact decide_eq_false (by omega)
        · rw [w64_id (by omega) (by omega), w64_succ (by omega)]
theorem law_l1 (runs : List Run) (hr : runs.length ≤ 4398046511104) (o : List Bus) : ∀ (m i : Nat) (f n : Int), i + m = runs.length → 0 ≤ n → (f = 0 → n ≤ 100000) → n ≤ 100001 * (i + 1) → Gp.Lp (fun k => TracePacks3.l1 k runs) ((), f, n, (i : Int), o) ((), (if f ≠ 0 then f else oF (runs.drop i) n), o) := by
  intro m
  induction m with
  | zero =>
    intro i f n hi h0 h1 h2
    rw [List.drop_of_length_le (by omega)]
    refine .done ?_
    simp only [TracePacks3.l1]
    refine .no (decide_eq_false (by omega)) (.now' ?_)
    by_cases hf : f ≠ 0
    · rw [if_pos hf]
    · rw [if_neg hf, show f = 0 by omega]
      rfl
  | succ m ih =>
    intro i f n hi h0 h1 h2
    have hx : runs[i]? = some runs[i] := List.getElem?_eq_getElem (by omega)
    have hd : runs.drop i = runs[i] :: runs.drop (i + 1) := List.drop_eq_getElem_cons (by omega)
    generalize runs[i]'(by omega) = r at hx hd
    rw [hd]
    have hmn : 0 ≤ mxI 0 (mnI r.2 100001) ∧ mxI 0 (mnI r.2 100001) ≤ 100001 := by
      unfold mxI mnI
      split <;> split <;> omega
    have hw1 : w64 (n + mxI 0 (mnI r.2 100001)) = n + mxI 0 (mnI r.2 100001) := w64_id (by omega) (by omega)
    have hw2 : w64 ((i : Int) + 1) = ((i + 1 : Nat) : Int) := w64_succ (by omega)
    by_cases hf : f ≠ 0
    · have := ih (i + 1) f (n + mxI 0 (mnI r.2 100001)) (by omega) (by omega) (fun e => absurd e hf) (by omega)
      rw [if_pos hf] at this ⊢
      refine .step ?_ this
      simp only [TracePacks3.l1]
      refine .yes (decide_eq_true (by omega)) (.val (rd_some' hx) (.bind (.yes (bne_iff_ne.2 hf) (.now _)) (.now' ?_)))
      rw [hw1, hw2]
    · have hf0 : f = 0 := by omega
      subst hf0
      rw [if_neg hf]
      have h1 := h1 rfl
      unfold oF
      by_cases c1 : r.2 < 1
      · rw [if_pos c1]
        have := ih (i + 1) 1 (n + mxI 0 (mnI r.2 100001)) (by omega) (by omega) (fun e => absurd e (by decide)) (by omega)
        rw [if_pos (by decide)] at this
        refine .step ?_ this
        simp only [TracePacks3.l1]
        refine .yes (decide_eq_true (by omega)) (.val (rd_some' hx) (.bind (.no rfl (.bind (.yes (decide_eq_true c1) (.now _)) (.now _))) (.now' ?_)))
        rw [hw1, hw2]
      · rw [if_neg c1]
        by_cases c2 : r.2 > 100000 ∨ n + r.2 > 100000
        · rw [if_pos c2]
          have := ih (i + 1) 2 (n + mxI 0 (mnI r.2 100001)) (by omega) (by omega) (fun e => absurd e (by decide)) (by omega)
          rw [if_pos (by decide)] at this
          refine .step ?_ this
          simp only [TracePacks3.l1]
          refine .yes (decide_eq_true (by omega)) (.val (rd_some' hx) (.bind (.no rfl (.bind (.no (decide_eq_false c1) (.bind (.yes ?_ (.now _)) (.now _))) (.now _))) (.now' ?_)))
          · by_cases c3 : r.2 > 100000
            · rw [decide_eq_true c3]; rfl
            · rw [decide_eq_false c3, w64_id (by omega) (by omega)]
              exact decide_eq_true (by omega)
          · rw [hw1, hw2]
        · rw [if_neg c2]
          have hm : mxI 0 (mnI r.2 100001) = r.2 := by
            unfold mxI mnI
            rw [if_neg (show ¬ 100001 < r.2 by omega), if_pos (by omega)]
          have := ih (i + 1) 0 (n + r.2) (by omega) (by omega) (fun _ => by omega) (by omega)
          rw [if_neg (by decide)] at this
          refine .step ?_ this
          simp only [TracePacks3.l1]
          refine .yes (decide_eq_true (by omega)) (.val (rd_some' hx) (.bind (.no rfl (.bind (.no (decide_eq_false c1) (.bind (.no ?_ (.now _)) (.now _))) (.now _))) (.now' ?_)))
          · rw [decide_eq_false (by omega), w64_id (by omega) (by omega)]
            exact decide_eq_false (by omega)
          · rw [hw1, hw2, hm]
theorem exp_foldl : ∀ (o : List Run) (b : List Bus), o.foldl (fun b r => b ++ List.replicate r.2.toNat r.1) b = b ++ expand o
  | [], b => by rw [List.foldl_nil]; exact (List.append_nil b).symm
  | r :: o, b => by
    rw [List.foldl_cons, exp_foldl o, List.append_assoc]
    rfl
theorem open_l1 (r : Run) (h1 : 1 ≤ r.2) (h2 : r.2 ≤ 100000) : ∀ (m j : Nat) (b : List Bus), j + m = r.2.toNat → b.length ≤ 100000 + j → Gp.Lp (fun k => Open6.l1 k r) ((), r, (j : Int), b) ((), b ++ List.replicate m r.1) := by
  intro m
  induction m with
  | zero =>
    intro j b hj hb
    refine .done ?_
    simp only [Open6.l1]
    refine .no (decide_eq_false (by omega)) (.now' ?_)
    rw [List.replicate_zero, List.append_nil]
  | succ m ih =>
    intro j b hj hb
    have := ih (j + 1) (b ++ [r.1]) (by omega) (by rw [List.length_append, List.length_singleton]; omega)
    rw [List.append_assoc, show [r.1] ++ List.replicate m r.1 = List.replicate (m + 1) r.1 from rfl] at this
    refine .step ?_ this
    simp only [Open6.l1]
    refine .yes (decide_eq_true (by omega)) (.val (a := ()) ?_ (.now' ?_))
    · rw [if_pos (room_ok (by simp only [List.length_cons, List.length_nil]; omega))]
    · rw [w64_succ (by omega)]
theorem open_l2 (runs : List Run) (hr : runs.length ≤ 4398046511104) (hm : ∀ r ∈ runs, 1 ≤ r.2 ∧ r.2 ≤ 100000) (hs : (expand runs).length ≤ 100000) : Gp.Lp (fun k => Open6.l2 k runs) ((), 0, []) ((), expand runs) := by
  have key := Lp.fold (body := fun k => Open6.l2 k runs) runs (fun (b : List Bus) i => ((), i, b)) (fun b r => b ++ List.replicate r.2.toNat r.1) (fun b => ((), b)) (fun i b => b = expand (runs.take i)) (fun i r b hx hb => ⟨?_, ?_⟩) (fun b _ => ?_) (b := []) rfl
  · rw [exp_foldl, List.nil_append] at key
    exact key
  · have hi := get_lt hx
    obtain ⟨m1, m2⟩ := hm r (get_mem hx)
    have hbl : b.length ≤ 100000 := by
      have := exp_take_le (o := runs) i
      rw [← hb] at this
      omega
    have e1 := open_l1 r m1 m2 r.2.toNat 0 b (by omega) (by omega)
    have hww : w64 ((i : Int) + 1) = ((i : Int) + 1) := w64_id (by omega) (by omega)
    simp only [Open6.l2]
    refine .yes (decide_eq_true (by omega)) (.val (rd_some' hx) (.bind e1.ev (.now' ?_)))
    rw [hww]
  · rw [hb, take_succ' hx, expand_app, expand_one]
  · simp only [Open6.l2]
    exact .no (by simp) (.now _)
def opened (runs : List Run) : List Bus := if oF runs 0 = 0 then expand runs else []
theorem open_ev (runs : List Run) (hr : runs.length ≤ 4398046511104) : Ev (fun k => Open6 k runs) ((opened runs, oF runs 0, ()), ()) := by
  have h0 := open_l0 runs hr runs.length 0 0 (by omega) (by omega) (by omega)
  rw [List.drop_zero] at h0
  unfold Open6 opened
  by_cases h : oF runs 0 = 0
  · rw [if_pos h] at h0 ⊢
    obtain ⟨p, q⟩ := oF_len (by omega) h
    have h2 := open_l2 runs hr p (by omega)
    refine .joinL (S := Unit) h0.ev (.bind h2.ev (.now' ?_))
    rw [h]
  · rw [if_neg h] at h0 ⊢
    exact .joinR h0.ev
theorem law_l2 (runs : List Run) (hr : runs.length ≤ 4398046511104) (o : List Bus) : Gp.Lp (fun k => TracePacks3.l2 k runs (oF runs 0)) ((), (), 0, o, []) ((), (), o, opened runs) := by
  unfold opened
  by_cases h : oF runs 0 = 0
  · rw [if_pos h]
    obtain ⟨p, q⟩ := oF_len (by omega) h
    have key := Lp.fold (body := fun k => TracePacks3.l2 k runs (oF runs 0)) runs (fun (b : List Bus) i => ((), (), i, o, b)) (fun b r => b ++ List.replicate r.2.toNat r.1) (fun b => ((), (), o, b)) (fun i b => b = expand (runs.take i)) (fun i r b hx hb => ⟨?_, ?_⟩) (fun b _ => ?_) (b := []) rfl
    · rw [exp_foldl, List.nil_append] at key
      exact key
    · have hi := get_lt hx
      obtain ⟨m1, m2⟩ := p r (get_mem hx)
      have hbl : b.length ≤ 100000 := by
        have := exp_take_le (o := runs) i
        rw [← hb] at this
        omega
      have hww : w64 ((i : Int) + 1) = ((i : Int) + 1) := w64_id (by omega) (by omega)
      simp only [TracePacks3.l2]
      refine .yes (decide_eq_true (by omega)) (.val (rd_some' hx) (.bind (.yes (by rw [h]; rfl) (.bind (rep_ev m1 (by omega)) (.val (a := ()) ?_ (.now _)))) (.now' ?_)))
      · rw [if_pos (room_ok (by rw [List.length_replicate]; omega))]
      · rw [hww]
    · rw [hb, take_succ' hx, expand_app, expand_one]
    · simp only [TracePacks3.l2]
      exact .no (by simp) (.now _)
  · rw [if_neg h]
    have key := Lp.fold (body := fun k => TracePacks3.l2 k runs (oF runs 0)) runs (fun (b : List Bus) i => ((), (), i, o, b)) (fun b r => b) (fun b => ((), (), o, b)) (fun i b => True) (fun i r b hx hb => ⟨?_, trivial⟩) (fun b _ => ?_) (b := []) trivial
    · have : ∀ (l : List Run) (b : List Bus), l.foldl (fun b r => b) b = b := by
        intro l
        induction l with
        | nil => intro b; rfl
        | cons x l ih => intro b; exact ih b
      rw [this] at key
      exact key
    · have hi := get_lt hx
      have hww : w64 ((i : Int) + 1) = ((i : Int) + 1) := w64_id (by omega) (by omega)
      simp only [TracePacks3.l2]
      refine .yes (decide_eq_true (by omega)) (.val (rd_some' hx) (.bind (.no (beq_false_of_ne h) (.now _)) (.now' ?_)))
      rw [hww]
    · simp only [TracePacks3.l2]
      exact .no (by simp) (.now _)
end Go.Proofs.Ytndobdmiepmjfaa.Tp

/- What an argument of a law reads as, kind by kind. -/
set_option linter.unusedVariables false
noncomputable section
namespace Go.Proofs.Ytndobdmiepmjfaa.Gp
open Go Go.ChangeShapes Go.WideShapes Go.RowKit

/-- the input's memory, all of it frozen -/
def memH (W : World) : Hp := fun b => W.heap[b]?

structure Gd (P : Program) (t : TypeId) (k : K) (wf : k.den → Prop) (siz : k.den → Nat) : Prop where
  cells : P.cellsOf t = k.w
  one : k.one = true
  pur : k.pur = true
  val : ∀ {W : World} {r : Reach} {base : Nat} {v : Value}, Value.okWide P W r base t v → v = k.mk v.cells.toList
  read : ∀ {H : Type} {enc : TypeId × Value → H} {W : World} {base : Nat} {spare : Nat → Bool} {held : Bool} {fuel : Nat} {cs : List Value} {x : DataW H × List MemPlace},
    DataW.trod enc P W base spare held fuel t cs = some x → (∀ n ∈ x.1.weights P t, n ≤ reachBytes) → ∃ y, (∀ L, Lv (memH W) L k y cs) ∧ wf y ∧ siz y ≤ Rows.uptoBulk x.1

variable {P : Program}

theorem gd_int {t : TypeId} {k : IntKind} (hu : P.underlying t = some (.int k)) (hc : P.cellsOf t = 1) : Gd P t (.int k) (fun (y : Int) => (Lit.int k y).wf = true) (fun _ => 1) :=
  ⟨hc, rfl, rfl, fun h => by obtain ⟨n, rfl⟩ := okWide_int hu h; rfl, fun h _ => by
    obtain ⟨n, rfl, rfl, hw⟩ := DataW.trod_int hu h
    exact ⟨n, fun _ => rfl, hw, by simp [Rows.uptoBulk]⟩⟩
theorem weights_all {H : Type} {e : TypeId} {n : Nat} : ∀ {l : List (DataW H)} {d : DataW H}, d ∈ l → n ∈ d.weights P e → n ∈ DataW.weightsAll P e l
  | x :: r, d, hd, hn => by
    rw [DataW.weightsAll]
    rcases List.mem_cons.1 hd with rfl | hd
    · exact List.mem_append_left _ hn
    · exact List.mem_append_right _ (weights_all hd hn)
theorem buildL {α : Type} {H : Type} {wf : α → Prop} {siz : α → Nat} : ∀ (es : List (DataW H × List MemPlace)) (p : Nat → α → Prop),
    (∀ i x, es[i]? = some x → ∃ y, p i y ∧ wf y ∧ siz y ≤ Rows.uptoBulk x.1) →
    ∃ ys : List α, ys.length = es.length ∧ (∀ j y, ys[j]? = some y → p j y ∧ wf y) ∧ (ys.map siz).sum ≤ Rows.uptoBulkAll (es.map (·.1))
  | [], _, _ => ⟨[], rfl, fun j y h => by simp at h, by simp⟩
  | x :: r, p, h => by
    obtain ⟨y, hp, hw, hs⟩ := h 0 x rfl
    obtain ⟨ys, hl, hy, hsum⟩ := buildL r (fun i => p (i + 1)) (fun i x hx => h (i + 1) x (by simpa using hx))
    refine ⟨y :: ys, by simp [hl], fun j z hz => ?_, ?_⟩
    · cases j with
      | zero => simp only [List.getElem?_cons_zero, Option.some.injEq] at hz; subst hz; exact ⟨hp, hw⟩
      | succ j => exact hy j z (by simpa using hz)
    · simp only [List.map_cons, List.sum_cons, Rows.uptoBulkAll]
      omega

def sizL {α : Type} (siz : α → Nat) (l : List α) : Nat := (l.map siz).sum + 1
def wfL {α : Type} (B : Nat) (wf : α → Prop) (l : List α) : Prop := l.length * B ≤ 140737488351232 ∧ ∀ y ∈ l, wf y

theorem LvL_mk {α : Type} {R : α → List Value → Prop} {w : Nat} {C : List Value} : ∀ {ys : List α} {o : Nat}, (∀ j y, ys[j]? = some y → ∃ c : List Value, c.length = w ∧ R y c ∧ ∀ i u, c[i]? = some u → C[o + (j * w + i)]? = some u) →
    LvL R ys ((C.drop o).take (ys.length * w))
  | [], o, h => by simp [LvL]
  | y :: ys, o, h => by
    obtain ⟨c, hc, hr, hu⟩ := h 0 y rfl
    have e : (C.drop o).take w = c := by
      apply List.ext_getElem?
      intro i
      rw [cut_get]
      by_cases hi : i < w
      · rw [if_pos hi]
        have hi' : i < c.length := by omega
        have := hu i c[i] (List.getElem?_eq_getElem hi')
        rw [Nat.zero_mul, Nat.zero_add] at this
        rw [this, List.getElem?_eq_getElem hi']
      · rw [if_neg hi, List.getElem?_eq_none (by omega)]
    refine ⟨c, (C.drop (o + w)).take (ys.length * w), ?_, hr, LvL_mk (fun j z hz => ?_)⟩
    · rw [List.length_cons, Nat.add_mul, Nat.one_mul, Nat.add_comm (ys.length * w) w, List.take_add, e, List.drop_drop]
    · obtain ⟨c', h1, h2, h3⟩ := h (j + 1) z hz
      refine ⟨c', h1, h2, fun i u hi => ?_⟩
      have := h3 i u hi
      rw [Nat.add_mul, Nat.one_mul] at this
      rw [show o + w + (j * w + i) = o + (j * w + w + i) by omega]
      exact this

theorem gd_sl {t e : TypeId} {k : K} {wf : k.den → Prop} {siz : k.den → Nat} {B : Nat} (hu : P.underlying t = some (.slice e)) (hc : P.cellsOf t = 1) (hB : P.bytesOf e = B) (hk : 0 < k.w) (r : Gd P e k wf siz) :
    Gd P t (.sl k) (wfL (α := k.den) B wf) (sizL (α := k.den) siz) :=
  ⟨hc, rfl, r.pur, fun h => by obtain ⟨a, len, cap, rfl⟩ := okWide_slice hu h; rfl, fun {H enc W base spare held fuel cs x} h hw => by
    rcases DataW.trod_slice hu h with ⟨rfl, rfl⟩ | ⟨a, len, cap, elems, rest, n, _, rfl, rfl, hb, hl, hm, hlen, hel, _, _⟩
    · exact ⟨([] : List k.den), fun L => ⟨r.pur, none, 0, rfl, Nat.le_refl _, fun hn => absurd rfl hn⟩, ⟨by simp, fun y hy => by simp at hy⟩, by simp [sizL, Rows.uptoBulk]⟩
    · simp only [DataW.weights, hu] at hw
      have hw1 : (elems.length + rest.length) * B ≤ 140737488351232 := by
        have := hw ((elems.length + rest.length) * B) (by simp [hB])
        exact this
      obtain ⟨ys, hyl, hyp, hys⟩ := buildL (wf := wf) (siz := siz) elems (fun i y => ∃ c : List Value, c.length = k.w ∧ (∀ L, Lv (memH W) L k y c) ∧ ∀ j u, c[j]? = some u → W.cell? (a.add (i * k.w + j)) = some u) (fun i z hz => by
        have hi : i < len := by
          have := (List.getElem?_eq_some_iff.1 hz).1
          omega
        have h1 := hel i hi
        rw [hz] at h1
        obtain ⟨c, hc1, hc2⟩ := Option.bind_eq_some_iff.1 h1
        obtain ⟨y, hK, hwf, hsz⟩ := r.read hc2 (fun q hq => hw q (List.mem_cons_of_mem _ (List.mem_append_left _ (weights_all (List.mem_map.2 ⟨z, List.mem_of_getElem? hz, rfl⟩) hq))))
        obtain ⟨_, hcl, hcell⟩ := World.cells?_some hc1
        refine ⟨y, ⟨c, Lv_len (hK default), hK, fun j u hu => ?_⟩, hwf, hsz⟩
        have hj : j < P.cellsOf e := by
          have := (List.getElem?_eq_some_iff.1 hu).1
          omega
        have h3 := hcell j hj
        rw [Go.Deep.add_add, r.cells] at h3
        rw [h3]
        exact hu)
      refine ⟨ys, fun L => ⟨r.pur, some a, cap, by rw [hyl, hlen], by omega, fun hn => ?_⟩, ⟨?_, fun y hy => ?_⟩, ?_⟩
      · have hn : ys.length ≠ 0 := hn
        obtain ⟨y, hy⟩ : ∃ y, ys[0]? = some y := ⟨ys[0]'(by omega), List.getElem?_eq_getElem (by omega)⟩
        obtain ⟨c, c1, c2, c3⟩ := (hyp 0 y hy).1
        obtain ⟨u, hu0⟩ : ∃ u, c[0]? = some u := ⟨c[0]'(by omega), List.getElem?_eq_getElem (by omega)⟩
        have hcell := c3 0 u hu0
        rw [Nat.zero_mul, Nat.zero_add, show a.add 0 = a from rfl] at hcell
        unfold World.cell? at hcell
        split at hcell
        · rename_i C ee zz hblk
          split at hcell
          · cases hcell
          · rename_i hsp
            have hsp : a.spot = none := by cases hs : a.spot with | none => rfl | some q => rw [hs] at hsp; exact absurd rfl hsp
            refine ⟨a.block, a.off, C, ee, zz, by cases a; simp only at hsp; rw [hsp], hblk, LvL_mk (C := C.toList) (fun j y hy => ?_)⟩
            obtain ⟨c, c1, c2, c3⟩ := (hyp j y hy).1
            refine ⟨c, c1, c2 L, fun i u hi => ?_⟩
            have h5 := c3 i u hi
            have hadd : (a.add (j * k.w + i)).block = a.block ∧ (a.add (j * k.w + i)).off = a.off + (j * k.w + i) ∧ (a.add (j * k.w + i)).spot = none := by
              unfold Addr.add
              split
              · rename_i h0; exact ⟨rfl, by omega, hsp⟩
              · exact ⟨rfl, rfl, rfl⟩
            unfold World.cell? at h5
            rw [hadd.1, hblk, hadd.2.1, hadd.2.2] at h5
            rw [Array.getElem?_toList]
            exact h5
        · cases hcell
      · rw [hyl]
        exact Nat.le_trans (Nat.mul_le_mul_right _ (Nat.le_add_right _ _)) hw1
      · obtain ⟨j, hj⟩ := List.mem_iff_getElem?.1 hy
        exact (hyp j y hj).2
      · simp only [sizL, Rows.uptoBulk]
        omega⟩

/-- fields in line, from cell 'off' on -/
structure GdF (P : Program) (off : Nat) (fs : List Field) (k : K) (wf : k.den → Prop) (siz : k.den → Nat) : Prop where
  pur : k.pur = true
  read : ∀ {H : Type} {enc : TypeId × Value → H} {W : World} {base : Nat} {spare : Nat → Bool} {held : Bool} {fuel : Nat} {cs : List Value} {xs : List (DataW H × List MemPlace)},
    cs.length = off + k.w → xs.length = fs.length →
    (∀ (i : Nat) (f : Field), fs[i]? = some f → DataW.trod enc P W base spare held fuel f.type ((cs.drop f.offset).take (P.cellsOf f.type)) = xs[i]?) →
    (∀ n ∈ DataW.weightsEach P (fs.map (·.type)) (xs.map (·.1)), n ≤ reachBytes) →
    ∃ y, (∀ L, Lv (memH W) L k y (cs.drop off)) ∧ wf y ∧ siz y ≤ Rows.uptoBulkAll (xs.map (·.1))

theorem gdf_cons {off : Nat} {f : Field} {fs : List Field} {k k' : K} {wf : k.den → Prop} {wf' : k'.den → Prop} {siz : k.den → Nat} {siz' : k'.den → Nat} (ho : f.offset = off) (r : Gd P f.type k wf siz)
    (rs : GdF P (off + k.w) fs k' wf' siz') : GdF P off (f :: fs) (.pair k k') (fun (y : k.den × k'.den) => wf y.1 ∧ wf' y.2) (fun (y : k.den × k'.den) => siz y.1 + siz' y.2) := by
  refine ⟨by simp only [K.pur, r.pur, rs.pur]; rfl, ?_⟩
  intro H enc W base spare held fuel cs xs hl hxl hx hw
  have hl' : cs.length = off + (k.w + k'.w) := hl
  match xs, hxl with
  | x :: xs, hxl =>
    have h := hx 0 f rfl
    rw [ho, r.cells] at h
    simp only [List.getElem?_cons_zero] at h
    obtain ⟨y, h1, h2, h3⟩ := r.read h (fun n hn => hw n (by simp [DataW.weightsEach, hn]))
    obtain ⟨z, g1, g2, g3⟩ := rs.read (enc := enc) (W := W) (base := base) (spare := spare) (held := held) (fuel := fuel) (cs := cs) (xs := xs) (by omega) (by simpa using hxl)
      (fun i g hg => by simpa using hx (i + 1) g (by simpa using hg)) (fun n hn => hw n (by simp only [List.map_cons, DataW.weightsEach]; exact List.mem_append_right _ hn))
    refine ⟨(y, z), fun L => ⟨(cs.drop off).take k.w, cs.drop (off + k.w), ?_, h1 L, g1 L⟩, ⟨h2, g2⟩, ?_⟩
    · rw [← List.drop_drop]
      exact (List.take_append_drop _ _).symm
    · simp only [List.map_cons, Rows.uptoBulkAll]
      omega
theorem gdf_one {off : Nat} {f : Field} {k : K} {wf : k.den → Prop} {siz : k.den → Nat} (ho : f.offset = off) (r : Gd P f.type k wf siz) : GdF P off [f] k wf siz := by
  refine ⟨r.pur, ?_⟩
  intro H enc W base spare held fuel cs xs hl hxl hx hw
  match xs, hxl with
  | [x], hxl =>
    have h := hx 0 f rfl
    rw [ho, r.cells] at h
    simp only [List.getElem?_cons_zero] at h
    have e : (cs.drop off).take k.w = cs.drop off := List.take_of_length_le (by rw [List.length_drop, hl]; omega)
    rw [e] at h
    obtain ⟨y, h1, h2, h3⟩ := r.read h (fun n hn => hw n (by simp [DataW.weightsEach, hn]))
    refine ⟨y, h1, h2, ?_⟩
    simp only [List.map_cons, List.map_nil, Rows.uptoBulkAll]
    omega
theorem gd_st {t : TypeId} {fs : Array Field} {k : K} {wf : k.den → Prop} {siz : k.den → Nat} (hu : P.underlying t = some (.struct fs)) (hc : P.cellsOf t = k.w) (r : GdF P 0 fs.toList k wf siz) : Gd P t (.st k) wf siz :=
  ⟨hc, rfl, r.pur, fun h => by
    simp only [Value.okWide, hu] at h
    obtain ⟨cs, rfl, _⟩ := h
    rfl, fun h hw => by
    obtain ⟨xs, n, _, rfl, hl, hxl, hx⟩ := DataW.trod_struct hu h
    obtain ⟨y, h1, h2, h3⟩ := r.read (by rw [hl, hc]; omega) (by rw [hxl]; simp) (fun i f hf => hx i f (by simpa using hf)) (fun n hn => hw n (by simp only [DataW.weights, hu]; exact hn))
    refine ⟨y, h1, h2, ?_⟩
    simp only [Rows.uptoBulk]
    omega⟩

/-- an argument -/
theorem Gd.arg {t : TypeId} {k : K} {wf : k.den → Prop} {siz : k.den → Nat} (r : Gd P t k wf siz) {H : Type} {enc : TypeId × Value → H} {W : World} {base : Nat} {spare : Nat → Bool} {held : Bool} {rr : Reach} {b2 : Nat} {v : Value} {x : DataW H} {ps : List MemPlace}
    (hval : Value.okWide P W rr b2 t v) (h : DataW.Trod enc P W base spare held t v x ps) (hw : ∀ n ∈ x.weights P t, n ≤ reachBytes) : ∃ y : k.den, (∀ L, SR (memH W) L ⟨k, y⟩ v) ∧ wf y ∧ siz y ≤ Rows.uptoBulk x := by
  obtain ⟨fuel, hf⟩ := h
  obtain ⟨y, h1, h2, h3⟩ := r.read hf hw
  refine ⟨y, fun L => ?_, h2, h3⟩
  rw [r.val hval]
  exact SR_mk (h1 L)

def noLoc : Ls := fun _ => default
theorem law_calls {fuel : Nat} {f : FuncId} {params : List K} {run : Nat → HL params → HL (List.map (·.toK) ([] : List OK)) → Option (K.bool.den × HL (List.map (·.toK) ([] : List OK)))} (hs : SoundAt P fuel ⟨f, params, [], .bool, [], [], run⟩) {ds : HL params}
    (hr : run fuel ds () = some (true, ())) {args : Array Value} {W : World} (hv : SRs (memH W) noLoc (unpackL params ds) args.toList) (hg : GH (memH W) := by exact GH.none _) : Calls P f args W (fun e W' => e = .returned (.bool true) ∧ Below W.heap.size W W') := by
  have hno : ∀ b, ¬ Own (assoc O.dead (objsFrom 0 ([] : List OK) ())) noLoc b := fun b ⟨i, hi, _⟩ => hi
  refine Calls.mono (hs.2 ds () (true, ()) hr args W (memH W) noLoc hv ⟨fun i => trivial, fun b o h => h, fun i hi => hi.elim, fun i j hi => hi.elim, hg⟩ (fun i hi => by cases hi)) fun e W' hh => ?_
  obtain ⟨v, H', L', rfl, h1, _, _, hp⟩ := hh
  have h1 : SR H' L' ⟨.bool, true⟩ v := h1
  refine ⟨by rw [bool_at h1], hp.fr.os, hp.fr.tape, hp.fr.output, hp.fr.size, fun b hb => hp.fr.same b hb (hno b)⟩
/-- The weights of one argument. -/
theorem weights_at {H : Type} {ts : List TypeId} {ds : List (DataW H)} (hsz : (DataW.weightsEach P ts ds).all (· ≤ reachBytes) = true) (j : Nat) {t : TypeId} {d : DataW H} (ht : ts[j]? = some t) (hd : ds[j]? = some d) :
    ∀ n ∈ d.weights P t, n ≤ reachBytes := fun n hn => by
  have := List.all_eq_true.1 hsz n (DataW.weights_mem_each ht hd n hn)
  simpa using this

end Go.Proofs.Ytndobdmiepmjfaa.Gp

/- Traces: counts, the last one, addresses; the law. No program in sight. -/
set_option linter.unusedVariables false
set_option maxRecDepth 100000
noncomputable section
namespace Go.Proofs.Ytndobdmiepmjfaa.Tp
open Go Go.Proofs.Ytndobdmiepmjfaa.Gp

-- rows that are sorted and have no two equal ones
theorem at_bang {l : List Int} {i : Nat} (h : i < l.length) : l.toArray[i]! = l[i] := by
  rw [getElem!_pos l.toArray i (by simpa using h)]; simp
theorem comp_strict {l : List Int} (h : l.Pairwise (· ≤ ·)) : (compI l).Pairwise (· < ·) := by
  have hp := List.pairwise_iff_getElem.1 h
  show (Lib.compactUpTo l.toArray l.length).Pairwise (· < ·)
  unfold Lib.compactUpTo
  rw [List.pairwise_map]
  have hs : ((List.range l.length).filter (Lib.keeps l.toArray)).Pairwise (· < ·) := List.pairwise_lt_range.filter _
  refine hs.imp_of_mem (fun {i j} hi hj hij => ?_)
  obtain ⟨hi1, _⟩ := List.mem_filter.1 hi
  obtain ⟨hj1, hj2⟩ := List.mem_filter.1 hj
  have hi1 := List.mem_range.1 hi1
  have hj1 := List.mem_range.1 hj1
  have hk : j = 0 ∨ l.toArray[j]! ≠ l.toArray[j - 1]! := by
    unfold Lib.keeps at hj2
    exact of_decide_eq_true hj2
  rw [at_bang hi1, at_bang hj1]
  rw [at_bang hj1, at_bang (show j - 1 < l.length by omega)] at hk
  have hne := hk.resolve_left (by omega)
  have h1 : l[i] ≤ l[j - 1] := by
    rcases Nat.lt_or_ge i (j - 1) with q | q
    · exact hp i (j - 1) hi1 (by omega) q
    · have : i = j - 1 := by omega
      subst this; exact Int.le_refl _
  have h2 : l[j - 1] ≤ l[j] := hp (j - 1) j (by omega) hj1 (by omega)
  omega
theorem comp_mem {l : List Int} {x : Int} : x ∈ compI l ↔ x ∈ l := by
  show x ∈ Lib.compactUpTo l.toArray l.length ↔ x ∈ l
  unfold Lib.compactUpTo
  constructor
  · intro h
    obtain ⟨j, hj, rfl⟩ := List.mem_map.1 h
    have hj1 := List.mem_range.1 (List.mem_filter.1 hj).1
    rw [at_bang hj1]
    exact List.getElem_mem hj1
  · intro h
    obtain ⟨j, hj⟩ := List.getElem?_of_mem h
    have key : ∀ (n j : Nat), j = n → l[j]? = some x → x ∈ ((List.range l.length).filter (Lib.keeps l.toArray)).map (l.toArray[·]!) := by
      intro n
      induction n using Nat.strongRecOn with
      | ind n ih =>
        intro j hjn hj
        have hjl := get_lt hj
        have hx : l[j] = x := by rw [List.getElem?_eq_getElem hjl] at hj; exact Option.some.inj hj
        by_cases hk : Lib.keeps l.toArray j = true
        · exact List.mem_map.2 ⟨j, List.mem_filter.2 ⟨List.mem_range.2 hjl, hk⟩, by rw [at_bang hjl, hx]⟩
        · have hk' : ¬ (j = 0 ∨ l.toArray[j]! ≠ l.toArray[j - 1]!) := fun h => hk (by unfold Lib.keeps; exact decide_eq_true h)
          have h0 : j ≠ 0 := fun e => hk' (.inl e)
          have he : l.toArray[j]! = l.toArray[j - 1]! := by
            by_cases e : l.toArray[j]! = l.toArray[j - 1]!
            · exact e
            · exact absurd (.inr e) hk'
          rw [at_bang hjl, at_bang (show j - 1 < l.length by omega), hx] at he
          exact ih (j - 1) (by omega) (j - 1) rfl (by rw [List.getElem?_eq_getElem (by omega), ← he])
    exact key j j rfl hj
theorem strict_same : ∀ {l m : List Int}, l.Pairwise (· < ·) → m.Pairwise (· < ·) → (∀ x, x ∈ l ↔ x ∈ m) → l = m
  | [], [], _, _, _ => rfl
  | [], y :: m, _, _, h => absurd ((h y).2 (by simp)) (by simp)
  | x :: l, [], _, _, h => absurd ((h x).1 (by simp)) (by simp)
  | x :: l, y :: m, h1, h2, h => by
    have a1 := List.pairwise_cons.1 h1
    have a2 := List.pairwise_cons.1 h2
    have hxy : x = y := by
      rcases List.mem_cons.1 ((h x).1 (by simp)) with e | e
      · exact e
      · rcases List.mem_cons.1 ((h y).2 (by simp)) with e' | e'
        · exact e'.symm
        · have := a2.1 x e
          have := a1.1 y e'
          omega
    subst hxy
    congr 1
    refine strict_same a1.2 a2.2 fun z => ?_
    constructor
    · intro hz
      rcases List.mem_cons.1 ((h z).1 (List.mem_cons_of_mem _ hz)) with e | e
      · have := a1.1 z hz
        omega
      · exact e
    · intro hz
      rcases List.mem_cons.1 ((h z).2 (List.mem_cons_of_mem _ hz)) with e | e
      · have := a2.1 z hz
        omega
      · exact e
theorem sortI_le (l : List Int) : (sortI l).Pairwise (· ≤ ·) := by
  have := List.pairwise_mergeSort (le := fun (x y : Int) => decide (x ≤ y)) (fun a b c h1 h2 => by simp at *; omega) (fun a b => by simp; omega) l
  exact this.imp fun h => by simpa using h
theorem sortI_mem {l : List Int} {x : Int} : x ∈ sortI l ↔ x ∈ l := List.mem_mergeSort
theorem strict_of {l : List Int} (h : l.Pairwise (· ≤ ·)) (nd : l.Nodup) : l.Pairwise (· < ·) := by
  have := h.and nd
  exact this.imp fun h => by have := h.1; have := h.2; omega
theorem sort_dedup {l m : List Int} (nd : m.Nodup) (h : ∀ x, x ∈ l ↔ x ∈ m) : compI (sortI l) = sortI m := by
  refine strict_same (comp_strict (sortI_le l)) (strict_of (sortI_le m) ((List.mergeSort_perm m _).nodup_iff.2 nd)) fun x => ?_
  rw [comp_mem, sortI_mem, sortI_mem]
  exact h x
theorem contains_ev (l : List Int) (x : Int) (hl : l.length ≤ 17592186044416) : Ev (fun k => Contains7 k l x) (decide (x ∈ l), ()) := by
  unfold Contains7
  have hw : ∀ (suf pre : List Int), l = pre ++ suf → x ∉ pre → ∃ j : Int, Gp.Lp (fun k => Index16.l0 k l x) (pre.length : Int) (if x ∈ l then .inr (j, ()) else .inl ()) ∧ 0 ≤ j := by
    intro suf
    induction suf with
    | nil =>
      intro pre h hn
      rw [List.append_nil] at h
      subst h
      refine ⟨0, .done ?_, Int.le_refl _⟩
      simp only [Index16.l0]
      exact .no (by simp) (.now' (by rw [if_neg hn]))
    | cons y suf ih =>
      intro pre h hn
      have hx : l[pre.length]? = some y := by rw [h]; simp
      have hi := get_lt hx
      by_cases hvx : x = y
      · refine ⟨pre.length, .done ?_, by omega⟩
        simp only [Index16.l0]
        refine .yes (decide_eq_true (by omega)) (.val (rd_some' hx) (.yes (beq_iff_eq.2 hvx) (.now' ?_)))
        rw [if_pos (by rw [hvx]; exact get_mem hx)]
      · obtain ⟨j, g1, g2⟩ := ih (pre ++ [y]) (by rw [h]; simp) (by simp [hn, hvx])
        refine ⟨j, .step ?_ g1, g2⟩
        simp only [Index16.l0]
        refine .yes (decide_eq_true (by omega)) (.val (rd_some' hx) (.no (beq_false_of_ne hvx) (.now' ?_)))
        rw [w64_id (by omega) (by omega)]
        simp
  obtain ⟨j, g1, g2⟩ := hw l [] rfl (by simp)
  unfold Index16
  by_cases hm : x ∈ l
  · rw [if_pos hm] at g1
    refine .bind (.joinR g1.ev) (.now' ?_)
    rw [decide_eq_true hm, decide_eq_true (show j ≥ 0 from g2)]
  · rw [if_neg hm] at g1
    refine .bind (.joinL (S := Unit) g1.ev (.now _)) (.now' ?_)
    rw [decide_eq_false hm]
    rfl
-- counts
def cntF (o : List Int) (x : Bus) : List Int := if 0 ≤ x.1 ∧ x.1 ≤ 2 then o.set x.1.toNat (w64 (o.getD x.1.toNat 0 + 1)) else o
theorem cntF_len (o : List Int) (x : Bus) : (cntF o x).length = o.length := by
  unfold cntF
  split
  · rw [List.length_set]
  · rfl
theorem cnt_len : ∀ (l : List Bus) (o : List Int), (l.foldl cntF o).length = o.length
  | [], o => rfl
  | x :: l, o => by rw [List.foldl_cons, cnt_len l, cntF_len]
theorem cnt_and (x : Int) : cond (decide (x ≥ 0)) (decide (x ≤ 2)) false = decide (0 ≤ x ∧ x ≤ 2) := by
  by_cases h : x ≥ 0
  · rw [decide_eq_true h]
    exact decide_eq_decide.2 (by omega)
  · rw [decide_eq_false h]; exact (decide_eq_false (by omega)).symm
theorem cnt_and3 (x : Int) : cond (decide (x ≥ 0)) (decide (x < 3)) false = decide (0 ≤ x ∧ x ≤ 2) := by
  by_cases h : x ≥ 0
  · rw [decide_eq_true h]
    exact decide_eq_decide.2 (by omega)
  · rw [decide_eq_false h]; exact (decide_eq_false (by omega)).symm
theorem cnt_rd {o : List Int} {x : Int} (ho : o.length = 3) (h : 0 ≤ x ∧ x ≤ 2) : rd o x = some (o.getD x.toNat 0) := by
  have hx : x.toNat < o.length := by omega
  have e : o[x.toNat]? = some (o.getD x.toNat 0) := by rw [List.getD_eq_getElem?_getD, List.getElem?_eq_getElem hx]; rfl
  have := rd_some' e
  rwa [Int.toNat_of_nonneg h.1] at this
def cnts (l : List Bus) : List Int := l.foldl cntF (List.replicate 3 0)
theorem cnts_len (l : List Bus) : (cnts l).length = 3 := cnt_len l _
theorem count_ev (l : List Bus) (hl : l.length ≤ 5864062014634) : Ev (fun k => Count9 k l) (((cnts l).getD 0 0, (cnts l).getD 1 0, (cnts l).getD 2 0, ()), ()) := by
  have key := Lp.fold (body := fun k => Count9.l0 k l) l (fun (o : List Int) i => ((), i, o)) cntF (fun o => ((), o)) (fun i o => o.length = 3) (fun i x o hx ho => ⟨?_, by rw [cntF_len]; exact ho⟩) (fun o _ => ?_) (b := List.replicate 3 0) rfl
  · have hl3 := cnts_len l
    unfold Count9
    refine .bind key.ev ?_
    show Ev (fun k => (if (0 : Int) ≤ 0 ∧ (0 : Int) < 3 then some () else none).bind fun _ => (rd (cnts l) 0).bind fun t30 => (if (0 : Int) ≤ 1 ∧ (1 : Int) < 3 then some () else none).bind fun _ => (rd (cnts l) 1).bind fun t32 => (if (0 : Int) ≤ 2 ∧ (2 : Int) < 3 then some () else none).bind fun _ => (rd (cnts l) 2).bind fun t34 => some ((t30, t32, t34, ()), ())) _
    exact .val (a := ()) rfl (.val (cnt_rd hl3 (by omega)) (.val (a := ()) rfl (.val (cnt_rd hl3 (by omega)) (.val (a := ()) rfl (.val (cnt_rd hl3 (by omega)) (.now _))))))
  · have hi := get_lt hx
    have hww : w64 ((i : Int) + 1) = ((i : Int) + 1) := w64_id (by omega) (by omega)
    simp only [Count9.l0]
    refine .yes (decide_eq_true (by omega)) (.val (rd_some' hx) (.bind (a := ((), cntF o x)) ?_ (.now' (by rw [hww]))))
    rw [cnt_and]
    unfold cntF
    by_cases h : 0 ≤ x.1 ∧ x.1 ≤ 2
    · rw [if_pos h]
      exact .yes (decide_eq_true h) (.val (a := ()) (if_pos (by omega)) (.val (cnt_rd ho h) (.val (a := ()) (if_pos (by omega)) (.val (cnt_rd ho h) (.now _)))))
    · rw [if_neg h]
      exact .no (decide_eq_false h) (.now _)
  · simp only [Count9.l0]
    exact .no (by simp) (.now _)
-- the last one
def isL (addr : Int) (x : Bus) : Bool := cond (x.1 != 0) (x.2.1 == addr) false
def lastF (addr : Int) (s : Int × Bool) (x : Bus) : Int × Bool := if isL addr x = true then (x.2.2, true) else s
def lastA (addr : Int) (l : List Bus) : Int × Bool := l.foldl (lastF addr) (0, false)
theorem lastA_snoc (addr : Int) (l : List Bus) (x : Bus) : lastA addr (l ++ [x]) = if isL addr x = true then (x.2.2, true) else lastA addr l := by
  unfold lastA
  rw [List.foldl_append]
  rfl
theorem Ev.rin {α S R : Type} {f : Nat → S → α → Option (S ⊕ R)} {K : Nat → S → Option R} {x : α} {l : List α} {s s' : S} {r : R} (h : Ev (fun k => f k s x) (.inl s')) (h2 : Ev (fun k => rounds (f k) (K k) l s') r) : Ev (fun k => rounds (f k) (K k) (x :: l) s) r := by
  show Ev (fun k => (f k s x).bind fun y => match y with | .inl s' => rounds (f k) (K k) l s' | .inr r => some r) r
  exact .bind h h2
theorem Ev.rout {α S R : Type} {f : Nat → S → α → Option (S ⊕ R)} {K : Nat → S → Option R} {x : α} {l : List α} {s : S} {r : R} (h : Ev (fun k => f k s x) (.inr r)) : Ev (fun k => rounds (f k) (K k) (x :: l) s) r := by
  show Ev (fun k => (f k s x).bind fun y => match y with | .inl s' => rounds (f k) (K k) l s' | .inr r => some r) r
  exact .bind h (.now _)
theorem last_rounds (addr : Int) : ∀ (ys : List (Int × Bus)) (l : List Bus), ys.map Prod.snd = l.reverse → Ev (fun k => rounds (Last10.l0 k) (fun ((_, _, _, _, _) : Int × Unit × Unit × Int × Bool) => some ((0, false, ()), ())) ys (addr, (), (), 0, false)) (((lastA addr l).1, (lastA addr l).2, ()), ())
  | [], l, h => by
    have hl : l = [] := List.reverse_eq_nil_iff.1 h.symm
    subst hl
    exact .now _
  | (i, x) :: ys, l, h => by
    rcases nil_or_snoc l with rfl | ⟨q, y, rfl⟩
    · cases h
    · rw [List.reverse_append] at h
      have h : x :: ys.map Prod.snd = y :: q.reverse := h
      obtain ⟨hxy, h2⟩ := List.cons.inj h
      subst hxy
      have ih := last_rounds addr ys q h2
      rw [lastA_snoc]
      by_cases hL : isL addr x = true
      · rw [if_pos hL]
        refine Ev.rout ?_
        simp only [Last10.l0]
        exact .yes hL (.now _)
      · rw [if_neg hL]
        refine Ev.rin (s' := (addr, (), (), 0, false)) ?_ ih
        simp only [Last10.l0]
        exact .no (by simpa [isL] using hL) (.now _)
theorem last_ev (l : List Bus) (hl : l.length ≤ 17592186044416) (addr : Int) : Ev (fun k => Last10 k l addr) (((lastA addr l).1, (lastA addr l).2, ()), ()) := by
  unfold Last10 Backward19
  refine .bind (.now _) (.val (a := (l.zipIdx.map (fun p => ((p.2 : Int), p.1))).reverse) (by show backs l = _; unfold backs; rw [if_pos hl]) (last_rounds addr _ l ?_))
  rw [List.map_reverse, List.map_map]
  congr 1
  exact List.zipIdx_map_fst 0 l
end Go.Proofs.Ytndobdmiepmjfaa.Tp

/- Traces: addresses; the law. No program in sight. -/
set_option linter.unusedVariables false
set_option maxRecDepth 100000
noncomputable section
namespace Go.Proofs.Ytndobdmiepmjfaa.Tp
open Go Go.Proofs.Ytndobdmiepmjfaa.Gp

def selT (d low high : Int) (x : Bus) : Bool := cond (cond (cond (x.1 == d) (cond (d == 1) true (d == 2)) false) (decide (x.2.1 ≥ low)) false) (decide (x.2.1 ≤ high)) false
section
variable (d low high : Int)
def tchF (o : List Int) (x : Bus) : List Int := if selT d low high x = true then o ++ [x.2.1] else o
def atF (o : List Int) (x : Bus) : List Int := if selT d low high x = true ∧ x.2.1 ∉ o then o ++ [x.2.1] else o
def tch (l : List Bus) : List Int := l.foldl (tchF d low high) []
def atA (l : List Bus) : List Int := l.foldl (atF d low high) []
theorem mem_tch : ∀ (l : List Bus) (o : List Int) (z : Int), z ∈ l.foldl (tchF d low high) o ↔ z ∈ o ∨ ∃ y ∈ l, selT d low high y = true ∧ y.2.1 = z
  | [], o, z => by simp
  | x :: l, o, z => by
    rw [List.foldl_cons, mem_tch l]
    unfold tchF
    by_cases h : selT d low high x = true
    · rw [if_pos h]
      simp only [List.mem_append, List.mem_cons, List.not_mem_nil, or_false]
      constructor
      · rintro ((h1 | h1) | ⟨y, h1, h2⟩)
        · exact .inl h1
        · exact .inr ⟨x, .inl rfl, h, h1.symm⟩
        · exact .inr ⟨y, .inr h1, h2⟩
      · rintro (h1 | ⟨y, rfl | h1, h2⟩)
        · exact .inl (.inl h1)
        · exact .inl (.inr h2.2.symm)
        · exact .inr ⟨y, h1, h2⟩
    · rw [if_neg h]
      simp only [List.mem_cons]
      constructor
      · rintro (h1 | ⟨y, h1, h2⟩)
        · exact .inl h1
        · exact .inr ⟨y, .inr h1, h2⟩
      · rintro (h1 | ⟨y, rfl | h1, h2⟩)
        · exact .inl h1
        · exact absurd h2.1 h
        · exact .inr ⟨y, h1, h2⟩
theorem mem_at : ∀ (l : List Bus) (o : List Int) (z : Int), z ∈ l.foldl (atF d low high) o ↔ z ∈ o ∨ ∃ y ∈ l, selT d low high y = true ∧ y.2.1 = z
  | [], o, z => by simp
  | x :: l, o, z => by
    rw [List.foldl_cons, mem_at l]
    unfold atF
    by_cases h : selT d low high x = true
    · by_cases hm : x.2.1 ∈ o
      · rw [if_neg (fun e => e.2 hm)]
        simp only [List.mem_cons]
        constructor
        · rintro (h1 | ⟨y, h1, h2⟩)
          · exact .inl h1
          · exact .inr ⟨y, .inr h1, h2⟩
        · rintro (h1 | ⟨y, rfl | h1, h2⟩)
          · exact .inl h1
          · exact .inl (h2.2 ▸ hm)
          · exact .inr ⟨y, h1, h2⟩
      · rw [if_pos ⟨h, hm⟩]
        simp only [List.mem_append, List.mem_cons, List.not_mem_nil, or_false]
        constructor
        · rintro ((h1 | h1) | ⟨y, h1, h2⟩)
          · exact .inl h1
          · exact .inr ⟨x, .inl rfl, h, h1.symm⟩
          · exact .inr ⟨y, .inr h1, h2⟩
        · rintro (h1 | ⟨y, rfl | h1, h2⟩)
          · exact .inl (.inl h1)
          · exact .inl (.inr h2.2.symm)
          · exact .inr ⟨y, h1, h2⟩
    · rw [if_neg (fun e => h e.1)]
      simp only [List.mem_cons]
      constructor
      · rintro (h1 | ⟨y, h1, h2⟩)
        · exact .inl h1
        · exact .inr ⟨y, .inr h1, h2⟩
      · rintro (h1 | ⟨y, rfl | h1, h2⟩)
        · exact .inl h1
        · exact absurd h2.1 h
        · exact .inr ⟨y, h1, h2⟩
theorem at_nodup : ∀ (l : List Bus) (o : List Int), o.Nodup → (l.foldl (atF d low high) o).Nodup
  | [], o, h => h
  | x :: l, o, h => by
    rw [List.foldl_cons]
    refine at_nodup l _ ?_
    unfold atF
    split
    · rename_i hc
      rw [List.nodup_append]
      exact ⟨h, by simp, fun a ha b hb => by rw [List.mem_singleton.1 hb]; exact fun e => hc.2 (e ▸ ha)⟩
    · exact h
theorem tch_at (l : List Bus) : compI (sortI (tch d low high l)) = sortI (atA d low high l) :=
  sort_dedup (at_nodup d low high l [] List.nodup_nil) fun z => by unfold tch atA; rw [mem_tch, mem_at]
theorem tch_len : ∀ (l : List Bus) (o : List Int), (l.foldl (tchF d low high) o).length ≤ o.length + l.length
  | [], o => Nat.le_refl _
  | x :: l, o => by
    rw [List.foldl_cons]
    have := tch_len l (tchF d low high o x)
    have h2 : (tchF d low high o x).length ≤ o.length + 1 := by
      unfold tchF
      split
      · rw [List.length_append, List.length_singleton]; exact Nat.le_refl _
      · omega
    rw [List.length_cons]
    omega
theorem at_len : ∀ (l : List Bus) (o : List Int), (l.foldl (atF d low high) o).length ≤ o.length + l.length
  | [], o => Nat.le_refl _
  | x :: l, o => by
    rw [List.foldl_cons]
    have := at_len l (atF d low high o x)
    have h2 : (atF d low high o x).length ≤ o.length + 1 := by
      unfold atF
      split
      · rw [List.length_append, List.length_singleton]; exact Nat.le_refl _
      · omega
    rw [List.length_cons]
    omega
theorem touched_ev (l : List Bus) (hl : l.length ≤ 5864062014634) : Ev (fun k => Touched14 k l d low high) (sortI (atA d low high l), ()) := by
  have key := Lp.fold (body := fun k => Touched14.l0 k l d low high) l (fun (o : List Int) i => ((), i, o)) (tchF d low high) (fun o => ((), o)) (fun i o => o.length ≤ i) (fun i x o hx ho => ⟨?_, ?_⟩) (fun o _ => ?_) (b := []) (Nat.le_refl _)
  · have h2 := tch_len d low high l []
    have h3 : (tch d low high l).length ≤ 5864062014634 := by unfold tch; simp only [List.length_nil] at h2; omega
    unfold Touched14
    refine .bind key.ev (.bind (a := ((), sortI (tch d low high l))) (.const (if_pos (by show (tch d low high l).length < _; omega))) (.bind (a := ((), compI (sortI (tch d low high l)))) (.const (if_pos (by show (sortI (tch d low high l)).length < _; rw [sortI_len]; omega))) (.now' (by rw [tch_at]))))
  · have hi := get_lt hx
    have hww : w64 ((i : Int) + 1) = ((i : Int) + 1) := w64_id (by omega) (by omega)
    simp only [Touched14.l0]
    refine .yes (decide_eq_true (by omega)) (.val (rd_some' hx) (.bind (a := ((), tchF d low high o x)) ?_ (.now' (by rw [hww]))))
    unfold tchF
    by_cases h : selT d low high x = true
    · rw [if_pos h]
      exact .yes h (.val (a := ()) (if_pos (room_ok (by simp only [List.length_cons, List.length_nil]; omega))) (.now _))
    · rw [if_neg h]
      exact .no (by simpa [selT] using h) (.now _)
  · unfold tchF
    split
    · rw [List.length_append, List.length_singleton]; omega
    · omega
  · simp only [Touched14.l0]
    exact .no (by simp) (.now _)
variable (addr : Int)
abbrev B3 := (Int × Bool) × List Int × List Int
def s3 (s : B3) (x : Bus) : B3 := (lastF addr s.1 x, cntF s.2.1 x, atF d low high s.2.2 x)
theorem s3_fold : ∀ (l : List Bus) (s : B3), l.foldl (s3 d low high addr) s = (l.foldl (lastF addr) s.1, l.foldl cntF s.2.1, l.foldl (atF d low high) s.2.2)
  | [], s => rfl
  | x :: l, s => by rw [List.foldl_cons, s3_fold l]; rfl
theorem l3_lp (l : List Bus) (hl : l.length ≤ 5864062014634) (o2 o5 : List Bus) : Gp.Lp (fun k => TracePacks3.l3 k l d low high addr) ((), (), (), (), 0, false, 0, o2, o5, List.replicate 3 0, []) ((), (), (), (), (lastA addr l).1, (lastA addr l).2, o2, o5, cnts l, atA d low high l) := by
  have key := Lp.fold (body := fun k => TracePacks3.l3 k l d low high addr) l (fun (s : B3) i => ((), (), (), (), s.1.1, s.1.2, i, o2, o5, s.2.1, s.2.2)) (s3 d low high addr) (fun s => ((), (), (), (), s.1.1, s.1.2, o2, o5, s.2.1, s.2.2)) (fun i s => s.2.1.length = 3 ∧ s.2.2.length ≤ i) (fun i x s hx hs => ⟨?_, ?_⟩) (fun s _ => ?_) (b := ((0, false), List.replicate 3 0, [])) ⟨rfl, Nat.le_refl _⟩
  · rw [s3_fold] at key
    exact key
  · have hi := get_lt hx
    obtain ⟨h6, h8⟩ := hs
    have hww : w64 ((i : Int) + 1) = ((i : Int) + 1) := w64_id (by omega) (by omega)
    simp only [TracePacks3.l3]
    refine .yes (decide_eq_true (by omega)) (.val (rd_some' hx) (.bind (a := ((), (), (), (), x, o2, o5, cntF s.2.1 x, s.2.2)) ?_ (.bind (a := decide (selT d low high x = true ∧ x.2.1 ∉ s.2.2)) ?_ (.bind (a := ((), (), (), (), x, o2, o5, cntF s.2.1 x, atF d low high s.2.2 x)) ?_ (.bind (a := ((), (), (), (), (lastF addr s.1 x).1, (lastF addr s.1 x).2, o2, o5, cntF s.2.1 x, atF d low high s.2.2 x)) ?_ (.now' (by rw [hww]; rfl)))))))
    · rw [cnt_and3]
      unfold cntF
      by_cases h : 0 ≤ x.1 ∧ x.1 ≤ 2
      · rw [if_pos h]
        exact .yes (decide_eq_true h) (.val (a := ()) (if_pos (by omega)) (.val (cnt_rd h6 h) (.val (a := ()) (if_pos (by omega)) (.val (cnt_rd h6 h) (.now _)))))
      · rw [if_neg h]
        exact .no (decide_eq_false h) (.now _)
    · by_cases h : selT d low high x = true
      · refine .yes h (.bind (contains_ev s.2.2 x.2.1 (by omega)) (.now' ?_))
        by_cases hm : x.2.1 ∈ s.2.2
        · rw [decide_eq_true hm]; exact (decide_eq_false (fun e => e.2 hm)).symm
        · rw [decide_eq_false hm]; exact (decide_eq_true ⟨h, hm⟩).symm
      · exact .no (by simpa [selT] using h) (.now' (decide_eq_false (fun e => h e.1)).symm)
    · unfold atF
      by_cases h : selT d low high x = true ∧ x.2.1 ∉ s.2.2
      · rw [if_pos h]
        exact .yes (decide_eq_true h) (.val (a := ()) (if_pos (room_ok (by simp only [List.length_cons, List.length_nil]; omega))) (.now _))
      · rw [if_neg h]
        exact .no (decide_eq_false h) (.now _)
    · unfold lastF
      by_cases h : isL addr x = true
      · rw [if_pos h]
        exact .yes h (.now _)
      · rw [if_neg h]
        exact .no (by simpa [isL] using h) (.now _)
  · refine ⟨(cntF_len _ _).trans hs.1, ?_⟩
    show (atF d low high s.2.2 x).length ≤ i + 1
    unfold atF
    split
    · rw [List.length_append, List.length_singleton]; have := hs.2; omega
    · have := hs.2; omega
  · simp only [TracePacks3.l3]
    exact .no (by simp) (.now _)
end
theorem eqB_ev (l : List Bus) (hl : l.length ≤ 17592186044416) : Ev (fun k => Equal12 k l l) (true, ()) := by
  unfold Equal12
  refine .no (by simp) (.joinL (S := Unit) (a := ()) (Lp.ev ?_) (.now _))
  refine Lp.fold (body := fun k => Equal12.l0 k l l) l (fun (_ : Unit) i => i) (fun _ _ => ()) (fun _ => (.inl () : Unit ⊕ (Bool × Unit))) (fun _ _ => True) (fun i x b hx _ => ⟨?_, trivial⟩) (fun b _ => ?_) (b := ()) trivial
  · have hi := get_lt hx
    simp only [Equal12.l0]
    refine .yes (decide_eq_true (by omega)) (.val (rd_some' hx) (.val (rd_some' hx) (.no ?_ (.now' ?_))))
    · show xor true (eqB bK x x) = false
      rw [eqb, decide_eq_true rfl]; rfl
    · rw [w64_id (by omega) (by omega)]
  · simp only [Equal12.l0]
    exact .no (by simp) (.now _)
theorem eqI_ev (l : List Int) (hl : l.length ≤ 17592186044416) : Ev (fun k => Equal13 k l l) (true, ()) := by
  unfold Equal13
  refine .no (by simp) (.joinL (S := Unit) (a := ()) (Lp.ev ?_) (.now _))
  refine Lp.fold (body := fun k => Equal13.l0 k l l) l (fun (_ : Unit) i => i) (fun _ _ => ()) (fun _ => (.inl () : Unit ⊕ (Bool × Unit))) (fun _ _ => True) (fun i x b hx _ => ⟨?_, trivial⟩) (fun b _ => ?_) (b := ()) trivial
  · have hi := get_lt hx
    simp only [Equal13.l0]
    refine .yes (decide_eq_true (by omega)) (.val (rd_some' hx) (.val (rd_some' hx) (.no (by simp) (.now' ?_))))
    rw [w64_id (by omega) (by omega)]
  · simp only [Equal13.l0]
    exact .no (by simp) (.now _)
theorem traced_ev : Ev (fun k => traced11 k) (true, ()) := by
  have h := pack_ev [(1, 3, 0), (1, 3, 0)] (by decide)
  have e : packed [(1, 3, 0), (1, 3, 0)] = [((1, 3, 0), 2)] := by decide
  rw [e] at h
  unfold traced11
  exact .bind h (.bind (a := true) (.yes rfl (.val (a := ((1, 3, 0), 2)) rfl (.now _))) (.now _))
theorem law_packs (l : List Bus) (runs : List Run) (d low high addr : Int) (hl : l.length ≤ 5864062014634) (hr : runs.length ≤ 4398046511104) : ∃ k, TracePacks3 k l runs d low high addr = some (true, ()) := by
  refine Ev.ex ?_
  have hp := (pack_lp l hl).2
  have h1 := law_l1 runs hr l runs.length 0 0 0 (by omega) (by omega) (fun _ => by omega) (by omega)
  rw [List.drop_zero, if_neg (by decide)] at h1
  have hat := at_len d low high l []
  have hlat : (atA d low high l).length ≤ 5864062014634 := by unfold atA; simp only [List.length_nil] at hat; omega
  have hop : (opened runs).length ≤ 17592186044416 := by
    unfold opened
    split
    · rename_i h
      have := (oF_len (by omega) h).2
      omega
    · exact Nat.zero_le _
  unfold TracePacks3
  refine .bind (pack_ev l hl) (.joinL (S := Unit × List Bus) (back_lp l hl hp).ev (.bind (open_ev runs hr) (.bind h1.ev (.bind (law_l2 runs hr l).ev (.bind (l3_lp d low high addr l hl l (opened runs)).ev (.bind (a := ((), sortI (atA d low high l))) (.const (if_pos (by omega))) (.bind (count_ev l hl) (.bind (last_ev l (by omega) addr) (.bind traced_ev (.bind (a := true) (.yes rfl (.bind (eqB_ev l (by omega)) (.now _))) (.bind (a := true) (.yes ?_ (.bind (eqB_ev _ hop) (.now _))) (.bind (a := true) (.yes ?_ (.bind (touched_ev d low high l hl) (.bind (eqI_ev _ (by rw [sortI_len]; omega)) (.now _)))) (.now' ?_)))))))))))))
  · show (oF runs 0 == oF runs 0) = true
    exact beq_self_eq_true _
  · show (xor false (eqB (.arr 3 (.int .i64)) [(cnts l).getD 0 0, (cnts l).getD 1 0, (cnts l).getD 2 0] (cnts l))) = true
    have h3 := cnts_len l
    have e : [(cnts l).getD 0 0, (cnts l).getD 1 0, (cnts l).getD 2 0] = cnts l := by
      match cnts l, h3 with
      | [a, b, c], _ => rfl
    have : eqB (.arr 3 (.int .i64)) [(cnts l).getD 0 0, (cnts l).getD 1 0, (cnts l).getD 2 0] (cnts l) = true := (eqB_iff (k := .arr 3 (.int .i64)) rfl).2 e
    exact congrArg (fun b => xor false b) this
  · simp
theorem tracePacks (l : List Bus) (runs : List Run) (d low high addr : Int) {wl : Bus → Prop} {wr : Run → Prop} (h1 : wfL (α := Bus) 24 wl l) (h2 : wfL (α := Run) 32 wr runs) {p q r s : Prop} (_ : p) (_ : q) (_ : r) (_ : s) : ∃ k, TracePacks3 k l runs d low high addr = some (true, ()) :=
  law_packs l runs d low high addr (by have := h1.1; omega) (by have := h2.1; omega)
end Go.Proofs.Ytndobdmiepmjfaa.Tp

/- The row of TracePacks: Pack, Open, Count, Touched and Last return what is specified for all traces, runs and addresses.. The law returns true for every input; the input reads as it did. -/
namespace Go.Proofs.Ytndobdmiepmjfaa.tracePacks
open Go.ChangeShapes Go.WideShapes Go.ChangeAt Go.RowKit Go.Proofs.Ytndobdmiepmjfaa.Gp Go.Proofs.Ytndobdmiepmjfaa.Tp
set_option linter.unusedVariables false
theorem own : ownKnob Try.prog.godebug = none := by kernel_rfl
theorem laidOut : laidOutB Try.prog = true := by kernel_rfl
abbrev wf3 : Int → Prop := (fun (y : Int) => (Lit.int .i64 y).wf = true)
abbrev siz3 : Int → Nat := (fun _ => 1)
theorem gd3 : Gd Try.prog 3 (.int .i64) wf3 siz3 := gd_int Try.underlying3 (by kernel_rfl)
abbrev wf26 : (Int × (Int × Int)) → Prop := (fun (y : (Int × (Int × Int))) => wf3 y.1 ∧ (fun (y : (Int × Int)) => wf3 y.1 ∧ wf3 y.2) y.2)
abbrev siz26 : (Int × (Int × Int)) → Nat := (fun (y : (Int × (Int × Int))) => siz3 y.1 + (fun (y : (Int × Int)) => siz3 y.1 + siz3 y.2) y.2)
theorem gd26 : Gd Try.prog 26 (.st (.pair (.int .i64) (.pair (.int .i64) (.int .i64)))) wf26 siz26 := gd_st Try.underlying26 (by kernel_rfl) (gdf_cons (k := .int .i64) (k' := .pair (.int .i64) (.int .i64)) (wf := wf3) (siz := siz3) (wf' := (fun (y : (Int × Int)) => wf3 y.1 ∧ wf3 y.2)) (siz' := (fun (y : (Int × Int)) => siz3 y.1 + siz3 y.2)) rfl gd3 (gdf_cons (k := .int .i64) (k' := .int .i64) (wf := wf3) (siz := siz3) (wf' := wf3) (siz' := siz3) rfl gd3 (gdf_one rfl gd3)))
abbrev wf22 : (List (Int × (Int × Int))) → Prop := (wfL (α := (Int × (Int × Int))) 24 wf26)
abbrev siz22 : (List (Int × (Int × Int))) → Nat := (sizL (α := (Int × (Int × Int))) siz26)
theorem gd22 : Gd Try.prog 22 (.sl (.st (.pair (.int .i64) (.pair (.int .i64) (.int .i64))))) wf22 siz22 := gd_sl (B := 24) Try.underlying22 (by kernel_rfl) (by kernel_rfl) (by decide) gd26
abbrev wf28 : ((Int × (Int × Int)) × Int) → Prop := (fun (y : ((Int × (Int × Int)) × Int)) => wf26 y.1 ∧ wf3 y.2)
abbrev siz28 : ((Int × (Int × Int)) × Int) → Nat := (fun (y : ((Int × (Int × Int)) × Int)) => siz26 y.1 + siz3 y.2)
theorem gd28 : Gd Try.prog 28 (.st (.pair (.st (.pair (.int .i64) (.pair (.int .i64) (.int .i64)))) (.int .i64))) wf28 siz28 := gd_st Try.underlying28 (by kernel_rfl) (gdf_cons (k := .st (.pair (.int .i64) (.pair (.int .i64) (.int .i64)))) (k' := .int .i64) (wf := wf26) (siz := siz26) (wf' := wf3) (siz' := siz3) rfl gd26 (gdf_one rfl gd3))
abbrev wf23 : (List ((Int × (Int × Int)) × Int)) → Prop := (wfL (α := ((Int × (Int × Int)) × Int)) 32 wf28)
abbrev siz23 : (List ((Int × (Int × Int)) × Int)) → Nat := (sizL (α := ((Int × (Int × Int)) × Int)) siz28)
theorem gd23 : Gd Try.prog 23 (.sl (.st (.pair (.st (.pair (.int .i64) (.pair (.int .i64) (.int .i64)))) (.int .i64)))) wf23 siz23 := gd_sl (B := 32) Try.underlying23 (by kernel_rfl) (by kernel_rfl) (by decide) gd28
set_option maxRecDepth 100000 in
set_option maxHeartbeats 1000000 in
theorem lifted (os : Os) (started : os.Started) (H : Type) (enc : TypeId × Value → H) :
    ReturnsInHanded {} Try.checked os 3 .any (Rows.tracePacksSpec.pre6 enc Try.prog Try.f3 Rows.tracePacksRow.domain false) (Rows.tracePacksSpec.post enc Try.prog Try.f3 false true false false) := by
  refine returnsInHanded_of_change_sized (C := Try.checked) own started (by kernel_rfl) Try.func3
    (ChangeSpec.witness6 (enc := enc) (C := Try.checked) false ⟨#[], #[.slice none 0 0, .slice none 0 0, .int .i64 0, .int .i64 0, .int .i64 0, .int .i64 0], []⟩ 8 (by kernel_rfl) (by kernel_rfl) (by kernel_rfl) (by kernel_rfl)) ?_
  intro W base args ds gs before hval0 hW hcnd hsz0 _
  have hsz : (DataW.weightsEach Try.prog (Try.f3.params.toList ++ Rows.tracePacksSpec.plain.varTypes Try.prog) (ds ++ gs)).all (· ≤ reachBytes) = true := hsz0
  have hval : ∀ (j : Nat) t v, Try.f3.params[j]? = some t → args[j]? = some v → Value.okWide Try.prog W .any base t v := hval0
  have hW' := hW
  obtain ⟨p, q, hA0, hV, rfl, hfz, hnd⟩ := hW
  have hA : DataW.TrodAll enc Try.prog W 0 (fun _ => true) true Try.f3.params.toList args.toList ds p := hA0
  rw [Try.params3] at hA hval hsz
  obtain ⟨v0, vs0, d0, ds0, p0, q0, hargs, rfl, rfl, h0, r0⟩ := trodAll_cons hA
  obtain ⟨v1, vs1, d1, ds1, p1, q1, rfl, rfl, rfl, h1, r1⟩ := trodAll_cons r0
  obtain ⟨v2, vs2, d2, ds2, p2, q2, rfl, rfl, rfl, h2, r2⟩ := trodAll_cons r1
  obtain ⟨v3, vs3, d3, ds3, p3, q3, rfl, rfl, rfl, h3, r3⟩ := trodAll_cons r2
  obtain ⟨v4, vs4, d4, ds4, p4, q4, rfl, rfl, rfl, h4, r4⟩ := trodAll_cons r3
  obtain ⟨v5, vs5, d5, ds5, p5, q5, rfl, rfl, rfl, h5, r5⟩ := trodAll_cons r4
  obtain ⟨rfl, rfl, rfl⟩ := trodAll_nil r5
  obtain rfl : args = #[v0, v1, v2, v3, v4, v5] := by cases args; simp_all
  obtain ⟨rfl, rfl⟩ := trodVars_none hV
  have lt0 : ∀ x ∈ p0, x.block < W.heap.size := by obtain ⟨m, hm⟩ := h0; exact DataW.trod_lt m _ _ _ hm
  have wt0 := weights_at hsz 0 (t := 22) rfl rfl
  obtain ⟨a0, s0, wf0_, up0_⟩ := gd22.arg (hval 0 22 v0 rfl rfl) h0 wt0
  have lt1 : ∀ x ∈ p1, x.block < W.heap.size := by obtain ⟨m, hm⟩ := h1; exact DataW.trod_lt m _ _ _ hm
  have wt1 := weights_at hsz 1 (t := 23) rfl rfl
  obtain ⟨a1, s1, wf1_, up1_⟩ := gd23.arg (hval 1 23 v1 rfl rfl) h1 wt1
  have lt2 : ∀ x ∈ p2, x.block < W.heap.size := by obtain ⟨m, hm⟩ := h2; exact DataW.trod_lt m _ _ _ hm
  have wt2 := weights_at hsz 2 (t := 3) rfl rfl
  obtain ⟨a2, s2, wf2_, up2_⟩ := gd3.arg (hval 2 3 v2 rfl rfl) h2 wt2
  have lt3 : ∀ x ∈ p3, x.block < W.heap.size := by obtain ⟨m, hm⟩ := h3; exact DataW.trod_lt m _ _ _ hm
  have wt3 := weights_at hsz 3 (t := 3) rfl rfl
  obtain ⟨a3, s3, wf3_, up3_⟩ := gd3.arg (hval 3 3 v3 rfl rfl) h3 wt3
  have lt4 : ∀ x ∈ p4, x.block < W.heap.size := by obtain ⟨m, hm⟩ := h4; exact DataW.trod_lt m _ _ _ hm
  have wt4 := weights_at hsz 4 (t := 3) rfl rfl
  obtain ⟨a4, s4, wf4_, up4_⟩ := gd3.arg (hval 4 3 v4 rfl rfl) h4 wt4
  have lt5 : ∀ x ∈ p5, x.block < W.heap.size := by obtain ⟨m, hm⟩ := h5; exact DataW.trod_lt m _ _ _ hm
  have wt5 := weights_at hsz 5 (t := 3) rfl rfl
  obtain ⟨a5, s5, wf5_, up5_⟩ := gd3.arg (hval 5 3 v5 rfl rfl) h5 wt5
  clear hA0 hval0 hsz0 hsz
  obtain ⟨k, h⟩ := Tp.tracePacks a0 a1 a2 a3 a4 a5 wf0_ wf1_ wf2_ wf3_ wf4_ wf5_
  refine (law_calls (TracePacks3.ok k) (ds := (a0, a1, a2, a3, a4, a5)) h (args := #[v0, v1, v2, v3, v4, v5]) (W := W) (.cons (s0 _) (.cons (s1 _) (.cons (s2 _) (.cons (s3 _) (.cons (s4 _) (.cons (s5 _) (.nil)))))))).mono fun e W' ⟨he, bel0⟩ => ?_
  have bel : Below W.heap.size W W' := bel0
  subst he
  exact ⟨_, rfl, _, _, _, [], _, [], hW', trodAll_mk1 (shut_bool Try.underlying4 _), (trodAll_cons_mk (Below.trod laidOut (by kernel_rfl) (of_decide_eq_true (by kernel_rfl)) h0 bel lt0) (trodAll_cons_mk (Below.trod laidOut (by kernel_rfl) (of_decide_eq_true (by kernel_rfl)) h1 bel lt1) (trodAll_cons_mk (Below.trod laidOut (by kernel_rfl) (of_decide_eq_true (by kernel_rfl)) h2 bel lt2) (trodAll_cons_mk (Below.trod laidOut (by kernel_rfl) (of_decide_eq_true (by kernel_rfl)) h3 bel lt3) (trodAll_cons_mk (Below.trod laidOut (by kernel_rfl) (of_decide_eq_true (by kernel_rfl)) h4 bel lt4) (trodAll_cons_mk (Below.trod laidOut (by kernel_rfl) (of_decide_eq_true (by kernel_rfl)) h5 bel lt5) (trodAll_mk0))))))), rfl, bel.frame _, fun h => by cases h⟩
theorem over : Rows.tracePacksRow.holds Try.pinned (OpenSpec.ofChange Rows.tracePacksSpec) :=
  OpenClaim.holds_of_wide 3 Try.f3 rfl rfl rfl rfl rfl rfl rfl ⟨rfl, rfl, rfl, rfl, rfl⟩ rfl rfl rfl rfl rfl (by kernel_rfl) Try.func3 (by kernel_rfl)
    (of_decide_eq_true (by kernel_rfl)) (by unfold Func.isWrapper; first | (rw [if_pos (by decide +kernel)]; kernel_rfl) | (rw [if_neg (by decide +kernel)]; exact ⟨rfl, rfl⟩))
    (fun os started H enc _ => lifted os started H enc)
theorem proved : Rows.TracePacksSaid := over
#print axioms proved
end Go.Proofs.Ytndobdmiepmjfaa.tracePacks
namespace Go.Proofs.Ytndobdmiepmjfaa
theorem tracePacks_holds : Rows.TracePacksSaid := tracePacks.proved
end Go.Proofs.Ytndobdmiepmjfaa
