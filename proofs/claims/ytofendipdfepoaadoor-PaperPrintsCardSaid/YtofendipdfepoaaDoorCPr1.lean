/- Merged texts of one claim: a Go law, its functions without memory, and the plain law. The law returns true for every input; conditions: as the row says. -/
import Derived.Deep.DeepAppendWide
import Derived.Laws.BitsLemmas
import Derived.Laws.StructEq
import Derived.Laws.BytesString
import Derived.Test.YtofendipdfepoaaDoorCPr0
/- Operations, sixth part: append, make, literals, variables. -/
set_option linter.unusedVariables false
noncomputable section
namespace Go.Proofs.YtofendipdfepoaaDoor.Gp
open Go

section
variable {R : Type} {P : Program} {σ : State} {H : Hp} {L : Ls} {a : Act} {w : World} {pb : Nat} {r : R}

theorem okz0 {cs : Array Value} : okz cs (0, 0) := fun o _ h => by omega

/-- a row's header, as append sees it -/
structure Hdr (P : Program) (w : World) (size : Nat) (c : Loc) (olds : List Value) : Prop where
  nil : c.nil = true → c.len = 0 ∧ c.cap = 0 ∧ olds = []
  row : c.nil = false → c.len ≤ c.cap ∧ ∃ cs e z, w.heap[c.blk]? = some (.cells cs e z) ∧ okz cs z ∧ c.off + c.cap * size ≤ cs.size ∧ olds = (cs.toList.drop c.off).take (c.len * size)
  len : olds.length = c.len * size

theorem room_or {n b : Nat} (h : room n b = true) : n * b ≤ 140737488355328 ∨ (n + n / 4 + 192) * b ≤ 281474976710656 := by
  unfold room at h
  rcases Bool.or_eq_true_iff.1 h with h | h
  · exact .inl (Nat.le_of_ble_eq_true h)
  · exact .inr (Nat.le_of_ble_eq_true h)
theorem fits_or {need old bytes : Nat} (h : old < need) (hb : need * bytes ≤ 140737488355328 ∨ (need + need / 4 + 192) * bytes ≤ 281474976710656) : Builtin.nextslicecap need old * bytes ≤ 281474976710656 := by
  rcases hb with hb | hb
  · exact growslice_fits h hb
  · exact growslice_fits_wide h hb
theorem room_63 {n b : Nat} (hb0 : 0 < b) (hb : n * b ≤ 140737488355328 ∨ (n + n / 4 + 192) * b ≤ 281474976710656) : n ≤ 9223372036854775807 := by
  rcases hb with hb | hb
  · have := Nat.le_mul_of_pos_right n hb0
    omega
  · have := Nat.le_mul_of_pos_right (n + n / 4 + 192) hb0
    omega
theorem run_append {t e t2 : TypeId} {ty : TypeId} {ats : Array TypeId} {te : TD} (hu : P.underlying t = some (.slice e)) (hte : TdOk P e te) (h0 : ats[0]? = some t) (h1 : ats[1]? = some t2) {d2 : TypeDesc} (hd2 : P.underlying t2 = some d2) (h2 : (∃ e2, d2 = .slice e2) ∨ d2 = .string)
    {c : Loc} {olds news : List Value} {n : Nat} {x : Value} (hh : Hdr P w te.size c olds) (hs : Src P w te.size n x news) (hn : news.length = n * te.size) (hone : ∀ v ∈ news, v.oneCell' = true)
    (hroom : (c.len + n) * te.bytes ≤ 140737488355328 ∨ ((c.len + n) + (c.len + n) / 4 + 192) * te.bytes ≤ 281474976710656) (h63 : c.len + n ≤ 9223372036854775807) (hb0 : 0 < te.bytes) :
    (c.len + n ≤ c.cap ∧ (Builtin.append_ ats ty #[c.hdr, x]).run P w = .ok ({ c with len := c.len + n } : Loc).hdr
        (if c.nil then w else match w.heap[c.blk]? with | some (.cells cs e z) => World.setB w c.blk (.cells (spl cs.toList (c.off + c.len * te.size) news).toArray e z) | _ => w)) ∨
    (c.cap < c.len + n ∧ ∃ cap zs, c.len + n ≤ cap ∧ zs.length = (cap - (c.len + n)) * te.size ∧ (Builtin.append_ ats ty #[c.hdr, x]).run P w = .ok (.slice (some ⟨w.heap.size, 0, none⟩) (c.len + n) cap) (w.drew.alloc (.cells (olds ++ news ++ zs).toArray e))) := by
  obtain ⟨i, z, hi, hsz, hby, _, hz, hzl, hzm⟩ := hte.info
  have hln := hs.len
  have hgt := hs.get
  rcases h2 with ⟨e2, rfl⟩ | rfl <;> by_cases hcap : c.len + n ≤ c.cap
  · refine .inl ⟨hcap, ?_⟩
    cases hnil : c.nil with
    | true =>
      obtain ⟨g1, g2, g3⟩ := hh.nil hnil
      have hn0 : n = 0 := by omega
      have hg := hgt w rfl
      have hl := hln w
      subst hn0
      simp only [Builtin.append_, h0, h1, List.getElem?_toArray, List.getElem?_cons_zero, List.getElem?_cons_succ, Sem.run_bind, run_underlying hu, Result.andThen_ok, Loc.hdr, hnil, if_true, sizeOf, run_typeInfo hi, Sem.run_pure, run_underlying hd2,
        Bool.false_eq_true, if_false, hl, Nat.zero_add, Nat.le_refl, Bool.not_false, hsz, hg, Sem.run_ite]
    | false =>
      obtain ⟨g1, cs, e', zz, g2, g3, g4, g5⟩ := hh.row hnil
      have hfit : c.off + c.len * te.size + news.length ≤ cs.size := by
        have := Nat.mul_le_mul_right te.size hcap
        rw [Nat.add_mul] at this
        omega
      have hst := run_storeCells (P := P) news (w := w) (b := c.blk) (o := c.off + c.len * te.size) (i := 0) g2 g3 (by omega) hone
      have hg := hgt w rfl
      have hl := hln w
      simp only [g2]
      simp only [Builtin.append_, h0, h1, List.getElem?_toArray, List.getElem?_cons_zero, List.getElem?_cons_succ, Sem.run_bind, run_underlying hu, Result.andThen_ok, Loc.hdr, hnil, if_true, sizeOf, run_typeInfo hi, Sem.run_pure, run_underlying hd2,
        Bool.false_eq_true, if_false, hl, hcap, Bool.not_false, hsz, hg, Sem.run_ite, add_at, hst, Nat.add_zero]
  · refine .inr ⟨by omega, ?_⟩
    have hfits := fits_or (need := c.len + n) (old := c.cap) (bytes := i.bytes) (by omega) (by rw [hby]; exact hroom)
    have hby0 : ¬ i.bytes = 0 := by omega
    have h48 : ¬ (Builtin.nextslicecap (c.len + n) c.cap * i.bytes > 2 ^ 48) := by
      simp only [gt_iff_lt, Nat.not_lt]
      exact hfits
    have hge := grownCap_ge w (c.len + n) c.cap e
    have hg := hgt w.drew rfl
    have hl := hln w
    have hzc : z.cells.size = te.size := by
      have := Lv_len (hzl (fun _ => none) (fun _ => default))
      rw [hte.zw] at this
      simpa using this
    refine ⟨grownCap w (c.len + n) c.cap e, (Builtin.zeroCells z.cells (grownCap w (c.len + n) c.cap e - (c.len + n))).toList, hge, by simp [size_zeroCells, hzc], ?_⟩
    have hold : (Builtin.firstCells te.size c.len c.hdr).run P w.drew = .ok olds.toArray w.drew := by
      cases hnil : c.nil with
      | true =>
        obtain ⟨g1, g2, g3⟩ := hh.nil hnil
        simp [Builtin.firstCells, Loc.hdr, hnil, g3]
      | false =>
        obtain ⟨g1, cs, e', zz, g2, g3, g4, g5⟩ := hh.row hnil
        have := firstCells_row (P := P) (w := w) (c := c.cap) (n := c.len) (size := te.size) (o := c.off) g2 (by rw [← g5]; exact hh.len) w.drew rfl
        simp only [Loc.hdr, hnil, Bool.false_eq_true, if_false]
        rw [this, g5]
    have hhdr : c.hdr = .slice (if c.nil then none else some ⟨c.blk, c.off, none⟩) c.len c.cap := by
      cases hnil : c.nil with
      | true => obtain ⟨g1, g2, g3⟩ := hh.nil hnil; simp [Loc.hdr, hnil, g1, g2]
      | false => simp [Loc.hdr, hnil]
    rw [hhdr] at hold ⊢
    have hdraw : (choose (.appendCap (c.len + n) c.cap e)).run P w = .ok (grownCap w (c.len + n) c.cap e) w.drew := by
      simp [Question.forced, grownCap]
    simp only [Builtin.append_, h0, h1, List.getElem?_toArray, List.getElem?_cons_zero, List.getElem?_cons_succ, Sem.run_bind, run_underlying hu, Result.andThen_ok, sizeOf, run_typeInfo hi, Sem.run_pure, run_underlying hd2,
        Bool.false_eq_true, if_false, hl, hcap, Bool.not_false, hsz, if_true, Sem.run_ite, hby0, or_self, and_false, h48, hdraw, run_askRoom, hold, hg, run_zeroValue hi hz, newRow, run_newObj, World.alloc_eq]
    congr 2
    simp
  · refine .inl ⟨hcap, ?_⟩
    cases hnil : c.nil with
    | true =>
      obtain ⟨g1, g2, g3⟩ := hh.nil hnil
      have hn0 : n = 0 := by omega
      have hg := hgt w rfl
      have hl := hln w
      subst hn0
      simp only [Builtin.append_, h0, h1, List.getElem?_toArray, List.getElem?_cons_zero, List.getElem?_cons_succ, Sem.run_bind, run_underlying hu, Result.andThen_ok, Loc.hdr, hnil, if_true, sizeOf, run_typeInfo hi, Sem.run_pure, run_underlying hd2,
        Bool.false_eq_true, if_false, hl, Nat.zero_add, Nat.le_refl, Bool.not_false, hsz, hg, Sem.run_ite]
    | false =>
      obtain ⟨g1, cs, e', zz, g2, g3, g4, g5⟩ := hh.row hnil
      have hfit : c.off + c.len * te.size + news.length ≤ cs.size := by
        have := Nat.mul_le_mul_right te.size hcap
        rw [Nat.add_mul] at this
        omega
      have hst := run_storeCells (P := P) news (w := w) (b := c.blk) (o := c.off + c.len * te.size) (i := 0) g2 g3 (by omega) hone
      have hg := hgt w rfl
      have hl := hln w
      simp only [g2]
      simp only [Builtin.append_, h0, h1, List.getElem?_toArray, List.getElem?_cons_zero, List.getElem?_cons_succ, Sem.run_bind, run_underlying hu, Result.andThen_ok, Loc.hdr, hnil, if_true, sizeOf, run_typeInfo hi, Sem.run_pure, run_underlying hd2,
        Bool.false_eq_true, if_false, hl, hcap, Bool.not_false, hsz, hg, Sem.run_ite, add_at, hst, Nat.add_zero]
  · refine .inr ⟨by omega, ?_⟩
    have hfits := fits_or (need := c.len + n) (old := c.cap) (bytes := i.bytes) (by omega) (by rw [hby]; exact hroom)
    have hby0 : ¬ i.bytes = 0 := by omega
    have h48 : ¬ (Builtin.nextslicecap (c.len + n) c.cap * i.bytes > 2 ^ 48) := by
      simp only [gt_iff_lt, Nat.not_lt]
      exact hfits
    have hge := grownCap_ge w (c.len + n) c.cap e
    have hg := hgt w.drew rfl
    have hl := hln w
    have hzc : z.cells.size = te.size := by
      have := Lv_len (hzl (fun _ => none) (fun _ => default))
      rw [hte.zw] at this
      simpa using this
    refine ⟨grownCap w (c.len + n) c.cap e, (Builtin.zeroCells z.cells (grownCap w (c.len + n) c.cap e - (c.len + n))).toList, hge, by simp [size_zeroCells, hzc], ?_⟩
    have hold : (Builtin.firstCells te.size c.len c.hdr).run P w.drew = .ok olds.toArray w.drew := by
      cases hnil : c.nil with
      | true =>
        obtain ⟨g1, g2, g3⟩ := hh.nil hnil
        simp [Builtin.firstCells, Loc.hdr, hnil, g3]
      | false =>
        obtain ⟨g1, cs, e', zz, g2, g3, g4, g5⟩ := hh.row hnil
        have := firstCells_row (P := P) (w := w) (c := c.cap) (n := c.len) (size := te.size) (o := c.off) g2 (by rw [← g5]; exact hh.len) w.drew rfl
        simp only [Loc.hdr, hnil, Bool.false_eq_true, if_false]
        rw [this, g5]
    have hhdr : c.hdr = .slice (if c.nil then none else some ⟨c.blk, c.off, none⟩) c.len c.cap := by
      cases hnil : c.nil with
      | true => obtain ⟨g1, g2, g3⟩ := hh.nil hnil; simp [Loc.hdr, hnil, g1, g2]
      | false => simp [Loc.hdr, hnil]
    rw [hhdr] at hold ⊢
    have hdraw : (choose (.appendCap (c.len + n) c.cap e)).run P w = .ok (grownCap w (c.len + n) c.cap e) w.drew := by
      simp [Question.forced, grownCap]
    simp only [Builtin.append_, h0, h1, List.getElem?_toArray, List.getElem?_cons_zero, List.getElem?_cons_succ, Sem.run_bind, run_underlying hu, Result.andThen_ok, sizeOf, run_typeInfo hi, Sem.run_pure, run_underlying hd2,
        Bool.false_eq_true, if_false, hl, hcap, Bool.not_false, hsz, if_true, Sem.run_ite, hby0, or_self, and_false, h48, hdraw, run_askRoom, hold, hg, run_zeroValue hi hz, newRow, run_newObj, World.alloc_eq]
    congr 2
    simp

theorem hdr_of (h : St σ H L a w) {i : Nat} {k : K} {l : List k.den} (hi : σ.heap i = ⟨.row k, l⟩) : ∃ olds, Hdr P w k.w (L i) olds ∧ LvL (Lv H L k) l olds ∧ (L i).len = l.length := by
  obtain ⟨hp, hlen, hrow⟩ := hp_row h hi
  rcases hrow with ⟨g1, g2, g3⟩ | ⟨g1, g2, cs, e, z, g3, g4, g5, g6⟩
  · exact ⟨[], ⟨fun _ => ⟨by omega, g3, rfl⟩, fun h => (by rw [g1] at h; cases h), by rw [show (L i).len = 0 by omega]; simp⟩, by rw [List.length_eq_zero_iff.1 g2]; rfl, hlen⟩
  · refine ⟨_, ⟨fun h => (by rw [g1] at h; cases h), fun _ => ⟨by omega, cs, e, z, g3, g4, g5, by rw [hlen]⟩, ?_⟩, g6, hlen⟩
    rw [LvL_len (w := k.w) (fun x vs h => Lv_len h) g6, hlen]

/-- a row in a block of its own -/
theorem row_new {k : K} (hp : k.pur = true) {l : List k.den} {us zs : List Value} {e : TypeId} (hl : LvL (Lv H L k) l us) {cap : Nat} (hc : l.length ≤ cap) (hz : zs.length = (cap - l.length) * k.w) {L' : Ls} {w' : World} {c : Loc}
    {z : Nat × Nat} (hzz : okz (us ++ zs).toArray z) (hb : w'.heap[c.blk]? = some (.cells (us ++ zs).toArray e z)) (ho : c.off = 0) (hn : c.nil = false) (hlen : c.len = l.length) (hcap : c.cap = cap) : OR H L' w' c (.row k) l := by
  have h1 := LvL_len (w := k.w) (fun x vs h => Lv_len h) hl
  refine ⟨hp, hlen, .inr ⟨hn, by rw [hcap]; exact hc, _, e, z, hb, hzz, ?_, ?_⟩⟩
  · have := Nat.mul_le_mul_right k.w hc
    simp only [List.size_toArray, List.length_append, ho, hcap, h1, hz, Nat.sub_mul, Nat.zero_add]
    omega
  · simp only [ho, List.drop_zero]
    rw [← h1, List.take_left]
    exact LvL_mono (fun x vs h => Lv_pur (fun _ _ h => h) hp h) hl

theorem alloc_at {w : World} {o : Go.Obj} : (w.alloc o).heap[w.heap.size]? = some o := by rw [alloc_get, if_pos rfl]
theorem alloc_lt {w : World} {o : Go.Obj} {b : Nat} (h : b < w.heap.size) : (w.alloc o).heap[b]? = w.heap[b]? := by rw [alloc_get, if_neg (by omega)]

theorem eAppend_ok {t e t2 ty : TypeId} {td te : TD} {ats : Array TypeId} (ht : TdOk P t td) (hte : TdOk P e te) (hse : td.u = .sl e) (h0 : ats[0]? = some t) (h1 : ats[1]? = some t2) {d2 : TypeDesc} (hd2 : P.underlying t2 = some d2) (h2 : (∃ e2, d2 = .slice e2) ∨ d2 = .string)
    (h : St σ H L a w) {C : Kt R} {s x : Val} {s' x' : Value} (hs : SR H L s s') (hx : SR H L x x') (he : eAppend pb td te σ C s x = some r) : Lands P σ H L a w pb (Builtin.append_ ats ty #[s', x']) C r := by
  obtain ⟨ks, d⟩ := s
  have hu : P.underlying t = some (.slice e) := u_sl (by rw [← hse]; exact ht.u)
  unfold eAppend at he
  obtain ⟨hpb, he⟩ := cond_none he
  have hpb := ble_ff hpb
  rw [hse] at he
  cases ks with
  | nil =>
    simp only at he
    split at he
    · rename_i l hl
      obtain ⟨hc, he⟩ := cond_some he
      simp only [Bool.and_eq_true] at hc
      obtain ⟨⟨hc1, hpu⟩, hb0⟩ := hc
      have hw := Nat.eq_of_beq_eq_true hc1
      have hb0 : 0 < te.bytes := by simpa [Nat.blt_eq] using hb0
      obtain ⟨_, hr, he, _⟩ := bnd_some he
      split at hr
      · rename_i hroom
        have hroom := room_or hroom
        obtain ⟨news, hsrc, hlv⟩ := items_ok (P := P) h hx hl
        have hs' := SR_one hs rfl rfl
        simp only [Lv, List.cons.injEq, and_true] at hs'
        have hnl := LvL_len (w := te.kind.w) (fun x vs h => Lv_len h) hlv
        have h63 : l.length ≤ 9223372036854775807 := room_63 hb0 hroom
        have hrun := run_append (P := P) (w := w) (ty := ty) (c := ⟨0, 0, 0, 0, true, [], true⟩) (olds := []) hu hte h0 h1 hd2 h2 ⟨fun _ => ⟨rfl, rfl, rfl⟩, fun h => (by cases h), by simp⟩ (by rw [hw]; exact hsrc) (by rw [hw]; exact hnl)
          (LvL_mem (fun x vs h => Lv_cells h) hlv) (by simpa using hroom) (by simpa using h63) hb0
        rw [hs']
        rcases hrun with ⟨g1, g2⟩ | ⟨g1, cap, zs, g2, g3, g4⟩
        · have hl0 : l = [] := by
            have : l.length = 0 := by simpa using g1
            exact List.length_eq_zero_iff.1 this
          subst hl0
          have hst := h.push ⟨.row te.kind, []⟩ ⟨0, 0, 0, 0, true, [], true⟩ (w' := w) ⟨hpu, rfl, .inl ⟨rfl, rfl, rfl⟩⟩ (fun ho => by unfold owns at ho; rw [upd_same, upd_same] at ho; cases ho) (fun _ _ => rfl) (Nat.le_refl _) rfl rfl rfl
          exact ⟨_, ⟨.ms σ.next, ()⟩, _, H, _, w, g2, SR_mk (k := .ms σ.next) (us := [_]) ⟨by rw [upd_same]; rfl, by rw [upd_same]⟩, hst.1, hst.2, fun h => absurd h hpb, rfl, he⟩
        · simp only [Nat.zero_add, List.nil_append] at g1 g2 g3 g4
          have hst := h.push ⟨.row te.kind, l⟩ ⟨w.heap.size, 0, l.length, cap, false, [], true⟩ (w' := w.drew.alloc (.cells (news ++ zs).toArray e))
            (row_new hpu hlv g2 (by rw [g3, hw]) okz0 (alloc_at (w := w.drew)) rfl rfl rfl rfl) (fun _ => Nat.le_refl _) (fun b hb => alloc_lt (w := w.drew) hb) (by simp [World.alloc]) rfl rfl rfl
          exact ⟨_, ⟨.ms σ.next, ()⟩, _, H, _, _, g4, SR_mk (k := .ms σ.next) (us := [_]) ⟨by rw [upd_same]; rfl, by rw [upd_same]⟩, hst.1, hst.2, fun h => absurd h hpb, rfl, he⟩
      · cases hr
    · cases he
  | ms i =>
    simp only at he
    split at he
    · rename_i k l0 hi
      split at he
      · rename_i l hl
        obtain ⟨hc, he⟩ := cond_some he
        simp only [Bool.and_eq_true] at hc
        obtain ⟨⟨hc1, hnr⟩, hb0⟩ := hc
        have hw := Nat.eq_of_beq_eq_true hc1
        have hb0 : 0 < te.bytes := by simpa [Nat.blt_eq] using hb0
        obtain ⟨_, hr, he, _⟩ := bnd_some he
        split at hr
        · rename_i hroom
          have hroom := room_or hroom
          obtain ⟨news, hsrc, hlv⟩ := items_ok (P := P) h hx hl
          obtain ⟨olds, hhdr, holds, hlen⟩ := hdr_of (P := P) h hi
          obtain ⟨rfl, hlive⟩ := ms_at hs
          obtain ⟨hpu, _, hrow⟩ := hp_row h hi
          have hnl := LvL_len (w := k.w) (fun x vs h => Lv_len h) hlv
          have hol := LvL_len (w := k.w) (fun x vs h => Lv_len h) holds
          have hin : i < σ.next := h.live i hlive
          have h63 : (L i).len + l.length ≤ 9223372036854775807 := by
            have := room_63 hb0 hroom
            omega
          have hone : ∀ v ∈ news, v.oneCell' = true := LvL_mem (fun x vs h => Lv_cells h) hlv
          have hrun := run_append (P := P) (w := w) (ty := ty) (c := L i) (olds := olds) hu hte h0 h1 hd2 h2 (by rw [hw]; exact hhdr) (by rw [hw]; exact hsrc) (by rw [hw]; exact hnl)
            hone (by rw [hlen]; exact hroom) h63 hb0
          have hall : LvL (Lv H L k) (List.append (α := k.den) l0 l) (olds ++ news) := LvL_app holds hlv
          have hlapp : (List.append (α := k.den) l0 l).length = (L i).len + l.length := by rw [hlen]; exact List.length_append
          rcases hrun with ⟨g1, g2⟩ | ⟨g1, cap, zs, g2, g3, g4⟩
          · rcases hrow with ⟨q1, q2, q3⟩ | ⟨q1, q2, cs, e2, z, q3, q4, q5, q6⟩
            · have hl0 : l0 = [] := List.length_eq_zero_iff.1 q2
              have hll : l = [] := by
                have : l.length = 0 := by omega
                exact List.length_eq_zero_iff.1 this
              rw [if_pos q1] at g2
              have hst := h.alter (g := gStale i) (w' := w) i ⟨.row k, List.append (α := k.den) l0 l⟩ { L i with len := (L i).len + l.length } (turns_stale fun j hj => upd_other hj)
                ⟨hpu, hlapp.symm, .inl ⟨q1, by rw [hlapp]; show (L i).len + _ = 0; rw [hll, hlen, q2]; rfl, q3⟩⟩ hin (fun ho => by unfold owns at ho; rw [upd_same, upd_same] at ho; rw [show ({ L i with len := (L i).len + l.length } : Loc).nil = (L i).nil from rfl, q1] at ho; cases ho)
                (fun _ _ _ => rfl) (Nat.le_refl _) rfl rfl rfl (fun hv => by rw [hi] at hv; cases hv)
              exact ⟨_, ⟨.ms i, ()⟩, _, H, _, w, g2, SR_mk (k := .ms i) (us := [_]) ⟨by rw [upd_same]; rfl, by rw [upd_same]; exact hlive⟩, hst.1, hst.2, fun h => absurd h hpb, rfl, he⟩
            · rw [if_neg (by rw [q1]; exact Bool.false_ne_true), q3] at g2
              simp only at g2
              have hlt : (L i).blk < w.heap.size := (Array.getElem?_eq_some_iff.1 q3).1
              have hown : owns σ.heap L i := by unfold owns; rw [hi]; exact q1
              have hm : (L i).len * k.w + l.length * k.w ≤ (L i).cap * k.w := by
                rw [← Nat.add_mul]
                exact Nat.mul_le_mul_right _ g1
              have hfit : (L i).off + (L i).len * te.size + news.length ≤ cs.toList.length := by
                have aux : ∀ o a b c s : Nat, a + b ≤ c → o + c ≤ s → o + a + b ≤ s := by intros; omega
                rw [hw, hnl, Array.length_toList]
                exact aux _ _ _ _ _ hm q5
              have hz' : okz (spl cs.toList ((L i).off + (L i).len * te.size) news).toArray z := by
                intro j hj
                refine q4 j ?_
                simp only [List.size_toArray] at hj
                rw [spl_len hfit] at hj
                simpa using hj
              have hst := h.alter (g := gStale i) (w' := World.setB w (L i).blk (.cells (spl cs.toList ((L i).off + (L i).len * te.size) news).toArray e2 z)) i ⟨.row k, List.append (α := k.den) l0 l⟩ { L i with len := (L i).len + l.length } (turns_stale fun j hj => upd_other hj)
                ⟨hpu, hlapp.symm, .inr ⟨q1, by rw [hlapp]; exact g1, _, e2, z, by rw [setB_get hlt, if_pos rfl], hz', by simp only [List.size_toArray]; rw [spl_len hfit]; simpa using q5, by
                  rw [hlapp]
                  have e1 : ((spl cs.toList ((L i).off + (L i).len * te.size) news).drop (L i).off).take (((L i).len + l.length) * k.w) = olds ++ news := by
                    have e0 : olds = (cs.toList.drop (L i).off).take ((L i).len * k.w) := by
                      obtain ⟨_, cs', e', z', r1, _, _, r2⟩ := hhdr.row q1
                      rw [q3] at r1
                      cases r1
                      exact r2
                    have hlo : olds.length = (L i).len * k.w := by rw [hol, hlen]
                    apply List.ext_getElem?
                    intro j
                    rw [cut_get, spl_get hfit, hw, Nat.add_mul, ← hnl]
                    by_cases hj : j < (L i).len * k.w
                    · rw [if_pos (by omega), if_pos (by omega), List.getElem?_append_left (by omega), e0, cut_get, if_pos hj]
                    · by_cases hj2 : j < (L i).len * k.w + news.length
                      · rw [if_pos hj2, if_neg (by omega), if_pos (by omega), List.getElem?_append_right (by omega), hlo]
                        congr 1
                        omega
                      · rw [if_neg hj2, List.getElem?_eq_none (by simp; omega)]
                  show LvL _ _ (((spl cs.toList ((L i).off + (L i).len * te.size) news).drop (L i).off).take (((L i).len + l.length) * k.w))
                  rw [e1]
                  exact LvL_mono (fun x vs h => Lv_pur (fun _ _ h => h) hpu h) hall⟩⟩ hin (fun _ => .inl ⟨rfl, hown⟩)
                (fun b hb hn => by rw [setB_get hlt, if_neg (fun e => hn ⟨hown, e⟩)]) (by simp [World.setB]) rfl rfl rfl (fun hv => by rw [hi] at hv; cases hv)
              exact ⟨_, ⟨.ms i, ()⟩, _, H, _, _, g2, SR_mk (k := .ms i) (us := [_]) ⟨by rw [upd_same]; rfl, by rw [upd_same]; exact hlive⟩, hst.1, hst.2, fun h => absurd h hpb, rfl, he⟩
          · have hst := h.alter (g := gStale i) (w' := w.drew.alloc (.cells (olds ++ news ++ zs).toArray e)) i ⟨.row k, List.append (α := k.den) l0 l⟩ ⟨w.heap.size, 0, (L i).len + l.length, cap, false, [], true⟩ (turns_stale fun j hj => upd_other hj)
              (row_new hpu hall (by rw [hlapp]; exact g2) (by rw [hlapp, g3, hw]) okz0 (alloc_at (w := w.drew)) rfl rfl hlapp.symm rfl) hin (fun _ => .inr (Nat.le_refl _)) (fun b hb _ => alloc_lt (w := w.drew) hb) (by simp [World.alloc]) rfl rfl rfl (fun hv => by rw [hi] at hv; cases hv)
            exact ⟨_, ⟨.ms i, ()⟩, _, H, _, _, g4, SR_mk (k := .ms i) (us := [_]) ⟨by rw [upd_same]; rfl, by rw [upd_same]⟩, hst.1, hst.2, fun h => absurd h hpb, rfl, he⟩
        · cases hr
      · cases he
    · cases he
  | _ => cases he
theorem run_appendN {t e t2 : TypeId} {ty : TypeId} {ats : Array TypeId} {te : TD} (hu : P.underlying t = some (.slice e)) (hte : TdOk P e te) (h0 : ats[0]? = some t) (h1 : ats[1]? = some t2) {k2 : IntKind} (hd2 : P.underlying t2 = some (.int k2)) {k : IntKind}
    {n : Nat} (hn : 0 < n) (hroom : n * te.bytes ≤ 140737488355328) (hb0 : 0 < te.bytes) {z : Value} {i : TypeInfo} (hi : P.info? e = some i) (hz : i.zero = some z) :
    ∃ cap zs, n ≤ cap ∧ zs.length = (cap - n) * te.size ∧ (Builtin.append_ ats ty #[.slice none 0 0, .int k (n : Int)]).run P w = .ok (.slice (some ⟨w.heap.size, 0, none⟩) n cap) (w.drew.alloc (.cells ((madeCells z.cells (n * z.cells.size)).toList ++ zs).toArray e)) := by
  obtain ⟨i', z', hi', hsz, hby, _, hz', hzl, hzm⟩ := hte.info
  rw [hi] at hi'
  cases hi'
  rw [hz] at hz'
  cases hz'
  have hzc : z.cells.size = te.size := by
    have := Lv_len (hzl (fun _ => none) (fun _ => default))
    rw [hte.zw] at this
    simpa using this
  have hby0 : ¬ i.bytes = 0 := by omega
  have hnle : n ≤ n * te.bytes := Nat.le_mul_of_pos_right n hb0
  have hfits := growslice_fits (need := 0 + n) (old := 0) (bytes := i.bytes) (by omega) (by rw [hby, Nat.zero_add]; exact hroom)
  have h48 : ¬ (Builtin.nextslicecap (0 + n) 0 * i.bytes > 2 ^ 48) := by
    simp only [gt_iff_lt, Nat.not_lt]
    exact hfits
  have hge := grownCap_ge w (0 + n) 0 e
  refine ⟨grownCap w (0 + n) 0 e, (Builtin.zeroCells z.cells (grownCap w (0 + n) 0 e - (0 + n))).toList, by omega, by simp [size_zeroCells, hzc], ?_⟩
  have hdraw : (choose (.appendCap (0 + n) 0 e)).run P w = .ok (grownCap w (0 + n) 0 e) w.drew := by
    simp [Question.forced, grownCap]
  have hw : IntKind.i64.wrap (n : Int) = n := by rw [IntKind.wrap_i64]; omega
  have hl0 : ¬ ((n : Int) < 0) := by omega
  have hcap : ¬ (0 + n ≤ 0) := by omega
  have hbig : ¬ ((n : Int) * (i.bytes : Int) > 2 ^ 48) := by
    rw [hby]
    have : ((n * te.bytes : Nat) : Int) ≤ 140737488355328 := by omega
    simp only [Int.natCast_mul] at this
    omega
  have hmax : ¬ (((0 + n : Nat) : Int) > IntKind.i64.max) := by
    have : IntKind.i64.max = 9223372036854775807 := by decide
    rw [this]
    omega
  by_cases hs0 : n * te.size = 0
  · simp only [Builtin.append_, h0, h1, List.getElem?_toArray, List.getElem?_cons_zero, List.getElem?_cons_succ, Sem.run_bind, run_underlying hu, Result.andThen_ok, sizeOf, run_typeInfo hi, Sem.run_pure, run_underlying hd2,
      if_true, asInt, asIntOf, hw, hl0, if_false, hbig, Int.toNat_natCast, hcap, hmax, false_and, h48, hdraw, run_askRoom, Bool.not_true, Bool.false_eq_true, hsz, hs0, run_zeroValue hi hz, newRow, run_newObj, World.alloc_eq, Builtin.firstCells, Sem.run_ite]
    simp [madeCells, hzc, hs0]
  · simp only [Builtin.append_, h0, h1, List.getElem?_toArray, List.getElem?_cons_zero, List.getElem?_cons_succ, Sem.run_bind, run_underlying hu, Result.andThen_ok, sizeOf, run_typeInfo hi, Sem.run_pure, run_underlying hd2,
      if_true, asInt, asIntOf, hw, hl0, if_false, hbig, Int.toNat_natCast, hcap, hmax, false_and, h48, hdraw, run_askRoom, Bool.not_true, Bool.false_eq_true, hsz, hs0, run_zeroValue hi hz, newRow, run_newObj, World.alloc_eq, Builtin.firstCells, Sem.run_ite]
    simp only [Nat.zero_add]
    have e1 : ((#[] : Array Value) ++ Builtin.zeroCells z.cells n ++ Builtin.zeroCells z.cells (grownCap w n 0 e - n)) = ((madeCells z.cells (n * z.cells.size)).toList ++ (Builtin.zeroCells z.cells (grownCap w n 0 e - n)).toList).toArray := by
      apply Array.ext'
      simp [madeCells, Builtin.zeroCells]
    rw [e1]
    rfl

end
end Go.Proofs.YtofendipdfepoaaDoor.Gp

/- Operations, seventh part: make, literals, variables. -/
set_option linter.unusedVariables false
noncomputable section
namespace Go.Proofs.YtofendipdfepoaaDoor.Gp
open Go

section
variable {R : Type} {P : Program} {σ : State} {H : Hp} {L : Ls} {a : Act} {w : World} {pb : Nat} {r : R}

/-- a new variable -/
theorem push_var (h : St σ H L a w) {v : Val} {x : Value} {e : TypeId} (hv : SR H L v x) (ho : v.1.one = true) {C : Kt R} (hpb : ¬ pb ≤ 1) {s : Sem Value}
    (hs : s.run P w = .ok (.pointer (some ⟨w.heap.size, 0, none⟩)) (w.alloc (.cells x.cells e))) (he : C (mkPtr σ.next [] ()) (σ.push ⟨.var v.1, v.2⟩) = some r) : LandsF P σ H L a w pb s C r := by
  obtain ⟨h1, _⟩ := SR_cells hv ho
  have hl : ∀ j, (L j).live = true → upd L σ.next ⟨w.heap.size, 0, 0, 0, false, [], true⟩ j = L j := fun j hj => upd_other (by have := h.live j hj; omega)
  have hst := h.push ⟨.var v.1, v.2⟩ ⟨w.heap.size, 0, 0, 0, false, [], true⟩ (w' := w.alloc (.cells x.cells e)) ⟨rfl, x.cells, e, (0, 0), alloc_at, okz0, h1.dead (fun _ _ h => h) hl⟩ (fun _ => Nat.le_refl _)
    (fun b hb => alloc_lt hb) (by simp) rfl rfl rfl
  refine ⟨_, mkPtr σ.next [] (), _, H, _, _, hs, SR_ptr ?_ (by rw [upd_same]), hst.1, hst.2, fun h => absurd h hpb, rfl, he, fun b hb => alloc_lt hb⟩
  rw [upd_same]
  rfl

theorem eAlloc_ok {t : TypeId} {td : TD} (ht : TdOk P t td) (h : St σ H L a w) {C : Kt R} (hpb : ¬ pb ≤ 1) (he : C (mkPtr σ.next [] ()) (σ.push ⟨.var td.zero.1, td.zero.2⟩) = some r) :
    LandsF P σ H L a w pb (Instr.alloc t true (.tuple #[])) C r := by
  obtain ⟨i, z, hi, hsz, hby, _, hz, hzl, hzm⟩ := ht.info
  have hv : SR H L ⟨td.zero.1, td.zero.2⟩ z := by rw [hzm]; exact SR_mk (hzl H L)
  refine push_var h (v := td.zero) (e := t) hv ht.zo hpb ?_ he
  simp [Instr.alloc, run_zeroValue hi hz, newVar, newRow]
theorem eBox_ok {t : TypeId} (h : St σ H L a w) {v : Val} {x : Value} (hv : SR H L v x) (ho : v.1.one = true) {C : Kt R} (hpb : ¬ pb ≤ 1) (he : C (mkPtr σ.next [] ()) (σ.push ⟨.var v.1, v.2⟩) = some r) :
    LandsF P σ H L a w pb (Instr.box t x) C r := by
  refine push_var h (e := t) hv ho hpb ?_ he
  simp [Instr.box, newVar, newRow]

theorem eBoxKeep_ok {t : TypeId} (h : St σ H L a w) {v : Val} {x : Value} (hv : SR H L v x) (ho : (v.1.one && v.1.pur) = true) {C : Kt R} (he : C ⟨.fp v.1, v.2⟩ σ = some r) :
    LandsF P σ H L a w pb (Instr.box t x) C r := by
  simp only [Bool.and_eq_true] at ho
  obtain ⟨h1, _⟩ := SR_cells hv ho.1
  obtain ⟨H', q1, q2, q3, q4⟩ := h.born (w' := w.alloc (.cells x.cells t)) (.cells x.cells t) alloc_at (fun b hb => alloc_lt hb) (by simp) rfl rfl rfl
  refine ⟨.pointer (some ⟨w.heap.size, 0, none⟩), ⟨.fp v.1, v.2⟩, σ, H', L, _, ?_, SR_mk (k := .fp v.1) (us := [_]) ⟨ho.2, w.heap.size, 0, x.cells, t, _, rfl, q1, ?_⟩, q3, q4, fun _ => ⟨rfl, rfl, fun _ _ => rfl⟩, rfl, he, fun b hb => alloc_lt hb⟩
  · simp [Instr.box, newVar, newRow]
  · rw [List.drop_zero, List.take_of_length_le (by rw [Lv_len h1]; exact Nat.le_refl _)]
    exact Lv_pur q2 ho.2 h1

theorem made_flat {z : Array Value} : ∀ n : Nat, (madeCells z (n * z.size)).toList = (List.replicate n z.toList).flatten := by
  intro n
  by_cases hz : z.size = 0
  · have : z.toList = [] := List.length_eq_zero_iff.1 (by simpa using hz)
    simp [madeCells, hz, this, Array.range_zero']
  · apply List.ext_getElem?
    intro j
    have key : ∀ (n j : Nat), ((List.replicate n z.toList).flatten)[j]? = if j < n * z.size then z.toList[j % z.size]? else none := by
      intro n
      induction n with
      | zero => intro j; simp
      | succ n ih =>
        intro j
        rw [List.replicate_succ, List.flatten_cons]
        by_cases h1 : j < z.size
        · rw [List.getElem?_append_left (by simpa using h1), Nat.mod_eq_of_lt h1, if_pos (by rw [Nat.add_mul]; omega)]
        · rw [List.getElem?_append_right (by simpa using h1), ih]
          simp only [Array.length_toList]
          have h2 : j % z.size = (j - z.size) % z.size := Nat.mod_eq_sub_mod (by omega)
          rw [h2]
          by_cases h3 : j - z.size < n * z.size
          · rw [if_pos h3, if_pos (by rw [Nat.add_mul]; omega)]
          · rw [if_neg h3, if_neg (by rw [Nat.add_mul]; omega)]
    rw [key]
    simp only [madeCells, Array.toList_map, List.getElem?_map, Array.toList_range]
    by_cases h1 : j < n * z.size
    · rw [if_pos h1, List.getElem?_range h1]
      have hlt : j % z.size < z.size := Nat.mod_lt _ (by omega)
      simp [hlt]
    · rw [if_neg h1]
      simp
      omega

/-- append(nil, make([]T, n)...) -/
theorem eAppendN_ok {t e t2 ty : TypeId} {td te : TD} {ats : Array TypeId} (ht : TdOk P t td) (hte : TdOk P e te) (hse : td.u = .sl e) (h0 : ats[0]? = some t) (h1 : ats[1]? = some t2) {k2 : IntKind} (hd2 : P.underlying t2 = some (.int k2))
    (h : St σ H L a w) {C : Kt R} {s x : Val} {s' x' : Value} (hs : SR H L s s') (hx : SR H L x x') (he : eAppendN pb td te σ C s x = some r) : Lands P σ H L a w pb (Builtin.append_ ats ty #[s', x']) C r := by
  have hu : P.underlying t = some (.slice e) := u_sl (by rw [← hse]; exact ht.u)
  obtain ⟨i, z, hi, hsz, hby, _, hz, hzl, hzm⟩ := hte.info
  unfold eAppendN at he
  obtain ⟨hpb, he⟩ := cond_none he
  have hpb := ble_ff hpb
  rw [hse] at he
  split at he
  · rename_i e' d' n' hse' hni hold
    split at he
    · rename_i zd hzd
      obtain ⟨hc, he⟩ := cond_some he
      simp only [Bool.and_eq_true] at hc
      obtain ⟨⟨hc1, hpu⟩, hb0⟩ := hc
      have hw := Nat.eq_of_beq_eq_true hc1
      have hb0 : 0 < te.bytes := by simpa [Nat.blt_eq] using hb0
      obtain ⟨_, hr, he, _⟩ := bnd_some he
      split at hr
      · rename_i hcond
        obtain ⟨kn, rfl⟩ := intV_at hni hx
        obtain ⟨n, rfl⟩ : ∃ n : Nat, n' = n := ⟨n'.toNat, by omega⟩
        have hroom : n * te.bytes ≤ 140737488355328 := by
          have := hcond.2
          rw [← Int.natCast_mul] at this
          omega
        have hs' := SR_one hs rfl rfl
        simp only [Lv, List.cons.injEq, and_true] at hs'
        obtain ⟨cap, zs, g2, g3, g4⟩ := run_appendN (P := P) (w := w) (ty := ty) (k := kn) hu hte h0 h1 hd2 (n := n) (by omega) hroom hb0 hi hz
        rw [hs']
        have hlz : Lv H L te.kind zd z.cells.toList := coe_id hzd (hzl H L)
        have hlv : LvL (Lv H L te.kind) (List.replicate n zd) (madeCells z.cells (n * z.cells.size)).toList := by
          rw [made_flat]
          exact LvL_rep hlz n
        have hst := h.push ⟨.row te.kind, List.replicate n zd⟩ ⟨w.heap.size, 0, n, cap, false, [], true⟩ (w' := w.drew.alloc (.cells ((madeCells z.cells (n * z.cells.size)).toList ++ zs).toArray e))
          (row_new hpu hlv (by rw [List.length_replicate]; exact g2) (by rw [g3, hw, List.length_replicate]) okz0 (alloc_at (w := w.drew)) rfl rfl (List.length_replicate).symm rfl) (fun _ => Nat.le_refl _) (fun b hb => alloc_lt (w := w.drew) hb) (by simp [World.alloc]) rfl rfl rfl
        exact ⟨_, ⟨.ms σ.next, ()⟩, _, H, _, _, g4, SR_mk (k := .ms σ.next) (us := [_]) ⟨by rw [upd_same]; rfl, by rw [upd_same]⟩, hst.1, hst.2, fun h => absurd h hpb, rfl, he⟩
      · cases hr
    · cases he
  · cases he
theorem eMakeSlice_ok {t e : TypeId} {td te : TD} (ht : TdOk P t td) (hte : TdOk P e te) (hse : td.u = .sl e) (h : St σ H L a w) {C : Kt R} {n c : Val} {x y : Value} (hn : SR H L n x) (hc : SR H L c y)
    (he : eMakeSlice pb td te σ C n c = some r) : LandsF P σ H L a w pb (Instr.makeSlice t x y) C r := by
  have hu : P.underlying t = some (.slice e) := u_sl (by rw [← hse]; exact ht.u)
  obtain ⟨i, z, hi, hsz, hby, _, hz, hzl, hzm⟩ := hte.info
  unfold eMakeSlice at he
  obtain ⟨hpb, he⟩ := cond_none he
  have hpb := ble_ff hpb
  rw [hse] at he
  split at he
  · rename_i e' n' c' heq hni hci
    split at he
    · rename_i zd hzd
      obtain ⟨hw, he⟩ := cond_some he
      simp only [Bool.and_eq_true] at hw
      obtain ⟨_, hr, he, _⟩ := bnd_some he
      split at hr
      · rename_i hcond
        obtain ⟨kn, rfl⟩ := intV_at hni hn
        obtain ⟨kc, rfl⟩ := intV_at hci hc
        obtain ⟨h1, h2, h3⟩ := hcond
        have hb0 : 0 < te.bytes := by simpa [Nat.blt_eq] using hw.2
        have hzs : z.cells.size = te.size := by
          have := Lv_len (hzl (fun _ => none) (fun _ => default))
          rw [hte.zw] at this
          simpa using this
        have hkw : te.size = te.kind.w := Nat.eq_of_beq_eq_true hw.1.1
        have h63 : c' ≤ 9223372036854775807 := by
          have : c' ≤ c' * (te.bytes : Int) := by
            have h0 : 0 ≤ c' := by omega
            have := Int.mul_le_mul_of_nonneg_left (show (1 : Int) ≤ te.bytes by omega) h0
            simpa using this
          omega
        have hrun := run_make (P := P) w t e i z hu hi hz kn kc n' c' h1 h2 (by rw [hby, Int.mul_comm]; omega) h63
        have hmade : (madeCells z.cells (c'.toNat * i.size)).toList = (List.replicate c'.toNat z.cells.toList).flatten := by
          rw [hsz, ← hzs]
          exact made_flat _
        have hlz : Lv H L te.kind zd z.cells.toList := coe_id hzd (hzl H L)
        have hle : n'.toNat ≤ c'.toNat := by omega
        have hsplit : (List.replicate c'.toNat z.cells.toList).flatten = (List.replicate n'.toNat z.cells.toList).flatten ++ (List.replicate (c'.toNat - n'.toNat) z.cells.toList).flatten := by
          rw [← List.flatten_append, List.replicate_append_replicate]
          congr 2
          omega
        have hzlen : ∀ m, ((List.replicate m z.cells.toList).flatten).length = m * te.kind.w := by
          intro m
          simp [List.length_flatten, hzs, hkw]
        have hst := h.push ⟨.row te.kind, List.replicate n'.toNat zd⟩ ⟨w.heap.size, 0, n'.toNat, c'.toNat, false, [], true⟩ (w' := w.alloc (.cells (madeCells z.cells (c'.toNat * i.size)) e))
          (row_new hw.1.2 (LvL_rep hlz n'.toNat) (cap := c'.toNat) (zs := (List.replicate (c'.toNat - n'.toNat) z.cells.toList).flatten) (e := e) (by rw [List.length_replicate]; exact hle) (by rw [hzlen, List.length_replicate])
            okz0 (by rw [← hsplit, ← hmade]; simpa using alloc_at) rfl rfl (by rw [List.length_replicate]) rfl) (fun _ => Nat.le_refl _) (fun b hb => alloc_lt hb) (by simp) rfl rfl rfl
        exact ⟨_, ⟨.ms σ.next, ()⟩, _, H, _, _, hrun, SR_mk (k := .ms σ.next) (us := [_]) ⟨by rw [upd_same]; rfl, by rw [upd_same]⟩, hst.1, hst.2, fun h => absurd h hpb, rfl, he, fun b hb => alloc_lt hb⟩
      · cases hr
    · cases he
  · cases he
end
end Go.Proofs.YtofendipdfepoaaDoor.Gp

/- Operations, eighth part: slice, struct and array literals. -/
set_option linter.unusedVariables false
noncomputable section
namespace Go.Proofs.YtofendipdfepoaaDoor.Gp
open Go

theorem fold_set : ∀ (us : List Value) (cs : Array Value) (off j : Nat), off + j + us.length ≤ cs.size →
    ((us.zipIdx j).foldl (fun (cs : Array Value) (x : Value × Nat) => cs.setIfInBounds (off + x.2) x.1) cs).toList = spl cs.toList (off + j) us
  | [], cs, off, j, _ => by simp [spl]
  | v :: us, cs, off, j, h => by
    simp only [List.length_cons] at h
    rw [List.zipIdx_cons, List.foldl_cons, fold_set us _ off (j + 1) (by simp; omega), ← Nat.add_assoc, spl_cons (by omega)]

inductive Parts (H : Hp) (L : Ls) : List (Nat × Val) → List (Nat × Value) → Prop
  | nil : Parts H L [] []
  | cons {i : Nat} {v : Val} {x : Value} {l r} (h : SR H L v x) (t : Parts H L l r) : Parts H L ((i, v) :: l) ((i, x) :: r)
theorem Parts.mono {H H' : Hp} {L : Ls} (hx : ∀ b o, H b = some o → H' b = some o) {l r} (h : Parts H L l r) : Parts H' L l r := by
  induction h with
  | nil => exact .nil
  | cons h t ih => exact .cons (h.mono hx) ih

theorem freezeAll_ok {a : Act} {w : World} {L : Ls} : ∀ {l : List (Nat × Val)} {r : List (Nat × Value)} {σ : State} {H : Hp}, St σ H L a w → Parts H L l r →
    ∃ H', St (freezeAll l σ).1 H' L a w ∧ Mv σ L H w (freezeAll l σ).1 L H' w ∧ Parts H' L (freezeAll l σ).2 r ∧ (freezeAll l σ).1.n = σ.n ∧ (freezeAll l σ).1.next = σ.next
  | [], _, σ, H, h, .nil => ⟨H, h, Mv.refl _ _ _ _, .nil, rfl, rfl⟩
  | (i, v) :: l, _, σ, H, h, .cons hv t => by
    obtain ⟨H1, h1, f1, hv1, n1, x1⟩ := freezeVal_ok v.1.msIds h hv
    obtain ⟨H2, h2, f2, t2, n2, x2⟩ := freezeAll_ok h1 (t.mono f1.ext)
    exact ⟨H2, h2, f1.trans f2, .cons (hv1.mono f2.ext) t2, n2.trans n1, x2.trans x1⟩

/-- cells of a list of values, each of so many cells -/
def VL (H : Hp) (L : Ls) (size : Nat) : Val → List Value → Prop := fun v us => Lv H L v.1 v.2 us ∧ v.1.w = size
theorem VL_len {H : Hp} {L : Ls} {size : Nat} : ∀ x vs, VL H L size x vs → vs.length = size := fun x vs h => (Lv_len h.1).trans h.2
theorem coeAll_ok {H : Hp} {L : Ls} {size : Nat} {k : K} : ∀ {vs : List Val} {l : List k.den} {us : List Value}, coeAll k vs = some l → LvL (VL H L size) vs us → LvL (Lv H L k) l us ∧ l.length = vs.length
  | [], l, us, h, hv => by cases h; exact ⟨hv, rfl⟩
  | v :: vs, l, us, h, ⟨x, y, e, h1, h2⟩ => by
    simp only [coeAll] at h
    split at h
    · rename_i d l' hd hl'
      cases h
      obtain ⟨g1, g2⟩ := coeAll_ok hl' h2
      exact ⟨⟨x, y, e, coe_id hd h1.1, g1⟩, by simp [g2]⟩
    · cases h

theorem fill_ok {H : Hp} {L : Ls} {size n : Nat} : ∀ {l : List (Nat × Val)} {r : List (Nat × Value)} {vs : List Val} {cs : Array Value}, Parts H L l r → l.all (fun x => Nat.blt x.1 n && x.2.1.one && Nat.beq x.2.1.w size) = true →
    vs.length = n → LvL (VL H L size) vs cs.toList → ∃ cs', Instr.fill (fun i => some (i * size, size)) cs r = some cs' ∧ cs'.size = cs.size ∧ LvL (VL H L size) (l.foldl (fun l x => l.set x.1 x.2) vs) cs'.toList ∧ (l.foldl (fun l x => l.set x.1 x.2) vs).length = n
  | [], _, vs, cs, .nil, _, hn, hl => ⟨cs, rfl, rfl, hl, hn⟩
  | (i, v) :: l, (_, x) :: r, vs, cs, .cons hv t, hall, hn, hl => by
    simp only [List.all_cons, Bool.and_eq_true] at hall
    obtain ⟨⟨⟨h1, h2⟩, h3⟩, h4⟩ := hall
    have hi : i < vs.length := by rw [hn]; simpa [Nat.blt_eq] using h1
    have hw : v.1.w = size := Nat.eq_of_beq_eq_true h3
    obtain ⟨hc, _⟩ := SR_cells hv h2
    have hcl : x.cells.toList.length = size := (Lv_len hc).trans hw
    have hcs : x.cells.size = size := by simpa using hcl
    have hlen := LvL_len VL_len hl
    have hle : i * size + size ≤ cs.size := by
      have := Nat.mul_le_mul_right size hi
      rw [Nat.succ_mul] at this
      simp only [Array.length_toList] at hlen
      omega
    have hf := fold_set x.cells.toList cs (i * size) 0 (by simp; omega)
    have hset := LvL_set (w := size) VL_len hl hi ⟨hc, hw⟩ (y := v)
    obtain ⟨cs', g1, g2, g3, g4⟩ := fill_ok (cs := x.cells.zipIdx.foldl (fun cs (c, j) => cs.setIfInBounds (i * size + j) c) cs) t h4 (vs := vs.set i v) (by simpa using hn) (by
      rw [← Array.foldl_toList, Array.toList_zipIdx]
      rw [Nat.add_zero] at hf
      rw [show (x.cells.toList.zipIdx.foldl (fun (cs : Array Value) (x : Value × Nat) => match x with | (c, j) => cs.setIfInBounds (i * size + j) c) cs).toList = _ from hf]
      exact hset)
    refine ⟨cs', ?_, ?_, g3, g4⟩
    · simp only [Instr.fill]
      rw [if_neg (by simp [hcs]; omega)]
      exact g1
    · rw [g2, ← Array.foldl_toList, Array.toList_zipIdx]
      have h5 := congrArg List.length hf
      rw [Nat.add_zero, spl_len (by simp; omega)] at h5
      simpa using h5

section
variable {R : Type} {P : Program} {σ : State} {H : Hp} {L : Ls} {a : Act} {w : World} {pb : Nat} {r : R}
theorem build_core {t e : TypeId} {te : TD} (hte : TdOk P e te) (hu : P.underlying t = some (.slice e)) {n : Nat} (hsmall : n * te.size ≤ 16777216) {ps : List (Nat × Val)} {vparts : Array (Nat × Value)} (p1 : Parts H L ps vparts.toList)
    {l : List te.kind.den} (hl : coeAll te.kind (partsIn te.zero n ps) = some l) (hall : ps.all (fun x => Nat.blt x.1 n && x.2.1.one && Nat.beq x.2.1.w te.size) = true) :
    ∃ cs', (Instr.buildSlice t n vparts).run P w = .ok (.slice (some ⟨w.heap.size, 0, none⟩) n n) (w.alloc (.cells cs' e)) ∧ LvL (Lv H L te.kind) l cs'.toList ∧ l.length = n := by
  obtain ⟨i, z, hi, hsz, hby, _, hz, hzl, hzm⟩ := hte.info
  have hzs : z.cells.size = te.size := by
    have := Lv_len (hzl (fun _ => none) (fun _ => default))
    rw [hte.zw] at this
    simpa using this
  have hmade : (madeCells z.cells (n * te.size)).toList = (List.replicate n z.cells.toList).flatten := by
    rw [← hzs]
    exact made_flat n
  have hrep : LvL (VL H L te.size) (List.replicate n te.zero) (madeCells z.cells (n * te.size)).toList := by
    rw [hmade]
    exact LvL_rep (R := VL H L te.size) ⟨hzl H L, hte.zw⟩ n
  obtain ⟨cs', g1, g2, g3, g4⟩ := fill_ok (n := n) p1 hall (by simp) hrep
  obtain ⟨q1, q2⟩ := coeAll_ok hl g3
  have hll : l.length = n := q2.trans g4
  refine ⟨cs', ?_, q1, hll⟩
  simp only [Instr.buildSlice, Sem.run_bind, run_underlying hu, Result.andThen_ok, run_sizeOf hte]
  rw [if_neg (by simp; omega)]
  by_cases h0 : n * te.size = 0
  · have hm0 : (Array.range (n * te.size)).map (fun x => (#[] : Array Value)[x % (#[] : Array Value).size]!) = madeCells z.cells (n * te.size) := by
      simp [h0, madeCells, Array.range_zero']
    rw [if_pos h0]
    simp only [Sem.run_bind, Sem.run_pure, Result.andThen_ok]
    rw [show (fun x => (#[] : Array Value)[x % (#[] : Array Value).size]!) = _ from rfl, hm0]
    simp only [g1, Sem.run_bind, newRow, run_newObj, Sem.run_pure, Result.andThen_ok, World.alloc_eq]
  · rw [if_neg h0]
    simp only [Sem.run_bind, run_zeroValue hi hz, Sem.run_pure, Result.andThen_ok]
    rw [show (Array.range (n * te.size)).map (fun x => z.cells[x % z.cells.size]!) = madeCells z.cells (n * te.size) from rfl]
    simp only [g1, Sem.run_bind, newRow, run_newObj, Sem.run_pure, Result.andThen_ok, World.alloc_eq]
theorem eBuildSlice_ok {t e : TypeId} {td te : TD} (ht : TdOk P t td) (hte : TdOk P e te) (hse : td.u = .sl e) (h : St σ H L a w) {C : Kt R} {n : Nat} {keep : Bool} {parts : List (Nat × Val)} {vparts : Array (Nat × Value)} (hp : Parts H L parts vparts.toList)
    (he : eBuildSlice pb keep td te σ C n parts = some r) : LandsF P σ H L a w pb (Instr.buildSlice t n vparts) C r := by
  have hu : P.underlying t = some (.slice e) := u_sl (by rw [← hse]; exact ht.u)
  unfold eBuildSlice at he
  obtain ⟨hpb, he⟩ := cond_none he
  simp only [Bool.not_eq_false', Bool.and_eq_true] at hpb
  obtain ⟨⟨hsmall, hkw⟩, hpu⟩ := hpb
  have hsmall := Nat.le_of_ble_eq_true hsmall
  have hkw := Nat.eq_of_beq_eq_true hkw
  cases hk : (Nat.ble pb 1 || keep) with
  | true =>
    rw [hk] at he
    simp only [cond_true] at he
    rw [hse] at he
    split at he
    · rename_i e' l heq hl
      obtain ⟨hall, he⟩ := cond_none he
      simp only [Bool.not_eq_false'] at hall
      obtain ⟨cs', hrun, q1, hll⟩ := build_core (w := w) hte hu hsmall hp hl hall
      obtain ⟨H', b1, b2, b3, b4⟩ := h.born (w' := w.alloc (.cells cs' e)) (.cells cs' e) alloc_at (fun b hb => alloc_lt hb) (by simp) rfl rfl rfl
      refine ⟨_, ⟨.sl te.kind, l⟩, σ, H', L, _, hrun, SR_mk (k := .sl te.kind) (us := [_]) ⟨hpu, some ⟨w.heap.size, 0, none⟩, n, by rw [hll], by rw [hll]; exact Nat.le_refl _, fun _ => ⟨w.heap.size, 0, cs', e, _, rfl, b1, ?_⟩⟩, b3, b4, fun _ => ⟨rfl, rfl, fun _ _ => rfl⟩, rfl, he, fun b hb => alloc_lt hb⟩
      have h5 := LvL_len (fun x vs h => Lv_len h) q1
      rw [List.drop_zero, List.take_of_length_le (by rw [h5]; exact Nat.le_refl _)]
      exact LvL_mono (fun x vs h => Lv_pur b2 hpu h) q1
    · cases he
  | false =>
  rw [hk] at he
  simp only [Bool.or_eq_false_iff] at hk
  have hpb := ble_ff hk.1
  simp only [cond_false] at he
  rw [hse] at he
  split at he
  · rename_i e' l heq hl
    obtain ⟨hall, he⟩ := cond_none he
    simp only [Bool.not_eq_false'] at hall
    obtain ⟨H1, h1, f1, p1, n1, x1⟩ := freezeAll_ok h hp
    obtain ⟨cs', hrun, q1, hll⟩ := build_core (w := w) hte hu hsmall p1 hl hall
    have hst := h1.push ⟨.row te.kind, l⟩ ⟨w.heap.size, 0, n, n, false, [], true⟩ (w' := w.alloc (.cells cs' e))
      (row_new hpu q1 (cap := n) (zs := []) (e := e) (by omega) (by rw [hll]; simp) okz0 (by simpa using alloc_at) rfl rfl hll.symm rfl) (fun _ => Nat.le_refl _) (fun b hb => alloc_lt hb) (by simp) rfl rfl rfl
    exact ⟨_, ⟨.ms (freezeAll parts σ).1.next, ()⟩, _, H1, _, _, hrun, SR_mk (k := .ms (freezeAll parts σ).1.next) (us := [_]) ⟨by rw [upd_same]; rfl, by rw [upd_same]⟩, hst.1, f1.trans hst.2, fun h => absurd h hpb, n1, he, fun b hb => alloc_lt hb⟩
  · cases he
end
end Go.Proofs.YtofendipdfepoaaDoor.Gp

/- Operations, ninth part: struct and array literals; comparisons. -/
set_option linter.unusedVariables false
noncomputable section
namespace Go.Proofs.YtofendipdfepoaaDoor.Gp
open Go

theorem run_mapM {α β : Type} {P : Program} {w : World} {f : α → Sem β} {g : α → β} : ∀ (l : List α), (∀ x ∈ l, (f x).run P w = .ok (g x) w) → (l.mapM f).run P w = .ok (l.map g) w
  | [], _ => by simp
  | x :: l, h => by
    have h1 := h x (by simp)
    have h2 := run_mapM l (fun y hy => h y (by simp [hy]))
    simp [List.mapM_cons, h1, h2]
theorem run_mapMA {α β : Type} {P : Program} {w : World} {f : α → Sem β} {g : α → β} (l : Array α) (h : ∀ x ∈ l.toList, (f x).run P w = .ok (g x) w) : (l.mapM f).run P w = .ok (l.map g) w := by
  rw [Array.mapM_eq_mapM_toList, Sem.run_map, run_mapM l.toList h]
  simp only [Result.andThen_ok]
  congr 1
  apply Array.ext'
  simp

section
variable {R : Type} {P : Program} {σ : State} {H E : Hp} {L : Ls} {a : Act} {w : World} {pb : Nat} {r : R}

theorem setW_ok {T : Types} (hT : TOk P T) {fs : List (TypeId × Nat)} {place : Nat → Option (Nat × Nat)} (hpl : ∀ (i : Nat) (x : TypeId × Nat) (tf : TD), fs[i]? = some x → tget T x.1 = some tf → place i = some (x.2, tf.size)) :
    ∀ {l : List (Nat × Val)} {r : List (Nat × Value)} {v y : Val} {cs : Array Value}, Parts H L l r → setW T fs l v = some y → Lv H L v.1 v.2 cs.toList → ∃ cs', Instr.fill place cs r = some cs' ∧ Lv H L y.1 y.2 cs'.toList
  | [], _, v, y, cs, .nil, he, hl => by cases he; exact ⟨cs, rfl, hl⟩
  | (i, u) :: l, (_, x) :: r, v, y, cs, .cons hv t, he, hl => by
    simp only [setW] at he
    split at he
    · rename_i f hf
      split at he
      · rename_i c tf q hc htf hq
        obtain ⟨hcond, he⟩ := cond_some he
        simp only [Bool.and_eq_true] at hcond
        obtain ⟨⟨h1, h2⟩, h3⟩ := hcond
        have h1 := Nat.eq_of_beq_eq_true h1
        have h3 := Nat.eq_of_beq_eq_true h3
        obtain ⟨hxc, _⟩ := SR_cells hv h2
        have hcl : x.cells.toList.length = u.1.w := Lv_len hxc
        have hcs : x.cells.size = tf.size := by rw [h1, ← hcl]; simp
        obtain ⟨g1, g2⟩ := comp_lv hl hc
        have hle : f.2 + x.cells.toList.length ≤ cs.toList.length := by omega
        obtain ⟨g3, g4⟩ := setc_lv hl hc hq hxc (hcl.trans h3.symm)
        have hf2 := fold_set x.cells.toList cs f.2 0 (by simpa using hle)
        rw [Nat.add_zero] at hf2
        obtain ⟨cs', g5, g6⟩ := setW_ok hT hpl (cs := x.cells.zipIdx.foldl (fun cs (c, j) => cs.setIfInBounds (f.2 + j) c) cs) t he (by
          rw [← Array.foldl_toList, Array.toList_zipIdx]
          rw [show (x.cells.toList.zipIdx.foldl (fun (cs : Array Value) (x : Value × Nat) => match x with | (c, j) => cs.setIfInBounds (f.2 + j) c) cs).toList = _ from hf2]
          exact g3)
        refine ⟨cs', ?_, g6⟩
        simp only [Instr.fill, hpl i f tf hf htf]
        simp only [Array.length_toList] at hle
        rw [if_neg (by simp [hcs]; omega)]
        exact g5
      · cases he
    · cases he

theorem eBuild_ok {T : Types} (hT : TOk P T) {t : TypeId} {td : TD} (ht : TdOk P t td) (h : St σ H L a w) {C : Val → Option R} {parts : List (Nat × Val)} {vparts : Array (Nat × Value)} (hp : Parts H L parts vparts.toList)
    (he : eBuild T td C parts = some r) : Val1 P H L E (Instr.build t vparts) C r := by
  obtain ⟨i, z, hi, hsz, hby, _, hz, hzl, hzm⟩ := ht.info
  have hu := ht.u
  have hzl := hzl H L
  unfold eBuild at he
  split at he
  · rename_i fs k d hfs hzero
    rw [hfs] at hu
    rw [hzero] at hzl
    obtain ⟨l, h1, h2, h3⟩ := u_st hu
    split at he
    · rename_i v hv
      have hpl : ∀ (i : Nat) (x : TypeId × Nat) (tf : TD), fs[i]? = some x → tget T x.1 = some tf → ((l.map fun f => (f.offset, P.cellsOf f.type))[i]?) = some (x.2, tf.size) := by
        intro i x tf hx htf
        obtain ⟨i', _, hi', hs', _⟩ := (hT _ _ htf).info
        rw [← h2, List.getElem?_map] at hx
        rw [Array.getElem?_map]
        cases hl : l.toList[i]? with
        | none => rw [hl] at hx; cases hx
        | some f =>
          rw [hl] at hx
          simp only [Option.map_some, Option.some.injEq] at hx
          have : l[i]? = some f := by simpa using hl
          rw [this]
          simp only [Option.map_some, Program.cellsOf]
          rw [← hx]
          rw [← hx] at hi'
          simp [hi', hs']
      obtain ⟨cs', g1, g2⟩ := setW_ok hT hpl (cs := z.cells) hp hv hzl
      refine ⟨.agg cs', ⟨.st v.1, v.2⟩, fun w _ => ?_, SR_mk (k := .st v.1) (us := cs'.toList) g2, he⟩
      have hm : (l.mapM fun (f : Field) => do pure (f.offset, ← sizeOf f.type)).run P w = .ok (l.map fun f => (f.offset, P.cellsOf f.type)) w := by
        refine run_mapMA l fun f hf => ?_
        have := h3 f hf
        unfold Program.cellsOf at this ⊢
        cases hi : P.info? f.type with
        | none => rw [hi] at this; exact absurd rfl this
        | some i => simp [sizeOf, run_typeInfo hi]
      simp only [Instr.build, Sem.run_bind, run_zeroValue hi hz, Result.andThen_ok, run_underlying h1, hm, g1, Sem.run_pure]
    · cases he
  · rename_i m e n k l hme hzero
    rw [hme] at hu
    rw [hzero] at hzl
    split at he
    · rename_i te l' hte hl'
      obtain ⟨hcond, he⟩ := cond_some he
      simp only [Bool.and_eq_true] at hcond
      obtain ⟨⟨⟨h1, h2⟩, h3⟩, h4⟩ := hcond
      have h1 := Nat.eq_of_beq_eq_true h1
      have h3 := Nat.eq_of_beq_eq_true h3
      have hmap : LvL (VL H L te.size) (List.map (α := k.den) (fun d => (⟨k, d⟩ : Val)) l) z.cells.toList := by
        have key : ∀ {l : List k.den} {us : List Value}, LvL (Lv H L k) l us → LvL (VL H L te.size) (List.map (α := k.den) (fun d => (⟨k, d⟩ : Val)) l) us := by
          intro l
          induction l with
          | nil => intro us h; exact h
          | cons x l ih =>
            rintro us ⟨a, b, rfl, q1, q2⟩
            exact ⟨a, b, rfl, ⟨q1, h3.symm⟩, ih q2⟩
        exact key hzl.2.2
      obtain ⟨cs', g1, g2, g3, g4⟩ := fill_ok (n := n) hp h4 ((List.length_map (as := (l : List k.den)) (f := fun d => (⟨k, d⟩ : Val))).trans hzl.2.1) hmap
      obtain ⟨q1, q2⟩ := coeAll_ok hl' g3
      refine ⟨.agg cs', ⟨.arr n k, l'⟩, fun w _ => ?_, SR_mk (k := .arr n k) (us := cs'.toList) ⟨h2, q2.trans g4, q1⟩, he⟩
      simp only [Instr.build, Sem.run_bind, run_zeroValue hi hz, Result.andThen_ok, run_underlying (u_arr hu), run_sizeOf (hT _ _ hte), g1, Sem.run_pure]
    · cases he
  · cases he
end
end Go.Proofs.YtofendipdfepoaaDoor.Gp

/- Operations, tenth part: numbers, strings, comparisons, conversions. -/
set_option linter.unusedVariables false
noncomputable section
namespace Go.Proofs.YtofendipdfepoaaDoor.Gp
open Go

section
variable {R : Type} {P : Program} {σ : State} {H E : Hp} {L : Ls} {a : Act} {w : World} {pb : Nat} {r : R} {C : Val → Option R}

theorem int_at {k : IntKind} {n : Int} {x : Value} (hv : SR H L ⟨.int k, n⟩ x) : x = .int k n := by
  have := SR_one hv rfl rfl
  simp only [Lv, List.cons.injEq, and_true] at this
  exact this
theorem bool_at {b : Bool} {x : Value} (hv : SR H L ⟨.bool, b⟩ x) : x = .bool b := by
  have := SR_one hv rfl rfl
  simp only [Lv, List.cons.injEq, and_true] at this
  exact this
theorem SR_int {k : IntKind} {n : Int} : SR H L ⟨.int k, n⟩ (.int k n) := SR_mk (k := .int k) (us := [_]) rfl
theorem SR_bool {b : Bool} : SR H L ⟨.bool, b⟩ (.bool b) := SR_mk (k := .bool) (us := [_]) rfl
theorem SR_str {s : ByteArray} : SR H L ⟨.str, s⟩ (.string s) := SR_mk (k := .str) (us := [_]) rfl


theorem eIntOp_ok {op : BinOp} {t : TypeId} {yc : Bool} {k : IntKind} {x y : Int} (hs : op ≠ .shl ∧ op ≠ .shr) (he : eIntOp pb yc op k x y C = some r) : Val1 P H L E (binOp op t (.int k x) (.int k y)) C r := by
  have quo : ∀ {z : Int} {s : Int → Sem Value} {f : Int → Int}, (∀ y, y ≠ 0 → Vals P E (s y) (.int k (f y))) →
      cond yc (cond (y == 0) none (C ⟨.int k, f y⟩)) (bnd pb (if y = 0 then none else some (f y)) fun r => C ⟨.int k, r⟩) = some r → Val1 P H L E (s y) C r := by
    intro z s f hs he
    cases yc with
    | true =>
      obtain ⟨h1, h2⟩ := cond_none he
      have h1 : y ≠ 0 := by simpa using h1
      exact ⟨_, _, hs y h1, SR_int, h2⟩
    | false =>
      obtain ⟨q, hq, he, _⟩ := bnd_some he
      split at hq
      · cases hq
      · rename_i h1
        cases hq
        exact ⟨_, _, hs y h1, SR_int, he⟩
  cases op with
  | shl => exact absurd rfl hs.1
  | shr => exact absurd rfl hs.2
  | quo => exact quo (z := 0) (s := fun y => binOp .quo t (.int k x) (.int k y)) (f := fun y => quoI k x y) (fun y hy w _ => by simp [binOp, Op.intDiv, hy, quoI]) he
  | rem => exact quo (z := 0) (s := fun y => binOp .rem t (.int k x) (.int k y)) (f := fun y => x.tmod y) (fun y hy w _ => by simp [binOp, Op.intDiv, hy]) he
  | add => exact ⟨.int k (k.wrap (x + y)), _, fun w _ => by simp only [binOp, ne_eq, not_true, if_false, Op.intArith, Sem.run_pure], SR_int, he⟩
  | sub => exact ⟨.int k (k.wrap (x - y)), _, fun w _ => by simp only [binOp, ne_eq, not_true, if_false, Op.intArith, Sem.run_pure], SR_int, he⟩
  | mul => exact ⟨.int k (k.wrap (x * y)), _, fun w _ => by simp only [binOp, ne_eq, not_true, if_false, Op.intArith, Sem.run_pure], SR_int, he⟩
  | and => exact ⟨.int k (ibits .and k x y), _, fun w _ => by simp only [binOp, ne_eq, not_true, if_false, Op.intBits, Sem.run_pure]; rfl, SR_int, he⟩
  | or => exact ⟨.int k (ibits .or k x y), _, fun w _ => by simp only [binOp, ne_eq, not_true, if_false, Op.intBits, Sem.run_pure]; rfl, SR_int, he⟩
  | xor => exact ⟨.int k (ibits .xor k x y), _, fun w _ => by simp only [binOp, ne_eq, not_true, if_false, Op.intBits, Sem.run_pure]; rfl, SR_int, he⟩
  | andNot => exact ⟨.int k (ibits .andNot k x y), _, fun w _ => by simp only [binOp, ne_eq, not_true, if_false, Op.intBits, Sem.run_pure]; rfl, SR_int, he⟩
  | eql => exact ⟨.bool (x == y), _, fun w _ => by simp only [binOp, ne_eq, not_true, if_false, Op.intCmp, Sem.run_pure], SR_bool, he⟩
  | neq => exact ⟨.bool (x != y), _, fun w _ => by simp only [binOp, ne_eq, not_true, if_false, Op.intCmp, Sem.run_pure], SR_bool, he⟩
  | lss => exact ⟨.bool (decide (x < y)), _, fun w _ => by simp only [binOp, ne_eq, not_true, if_false, Op.intCmp, Sem.run_pure], SR_bool, he⟩
  | leq => exact ⟨.bool (decide (x ≤ y)), _, fun w _ => by simp only [binOp, ne_eq, not_true, if_false, Op.intCmp, Sem.run_pure], SR_bool, he⟩
  | gtr => exact ⟨.bool (decide (x > y)), _, fun w _ => by simp only [binOp, ne_eq, not_true, if_false, Op.intCmp, Sem.run_pure], SR_bool, he⟩
  | geq => exact ⟨.bool (decide (x ≥ y)), _, fun w _ => by simp only [binOp, ne_eq, not_true, if_false, Op.intCmp, Sem.run_pure], SR_bool, he⟩
theorem eShift_ok {op : BinOp} {t : TypeId} {yc : Bool} {k k' : IntKind} {x y : Int} (he : eShift pb yc op k x y C = some r) : Val1 P H L E (binOp op t (.int k x) (.int k' y)) C r := by
  have key : ∀ {s : Int → Sem Value} {f : Int → Int}, (∀ y, ¬ y < 0 → Vals P E (s y) (.int k (f y))) →
      cond yc (cond (decide (y < 0)) none (C ⟨.int k, f y⟩)) (bnd pb (if y < 0 then none else some (f y)) fun r => C ⟨.int k, r⟩) = some r → Val1 P H L E (s y) C r := by
    intro s f hs he
    cases yc with
    | true =>
      obtain ⟨h1, h2⟩ := cond_none he
      have h1 : ¬ y < 0 := by simpa using h1
      exact ⟨_, _, hs y h1, SR_int, h2⟩
    | false =>
      obtain ⟨q, hq, he, _⟩ := bnd_some he
      split at hq
      · cases hq
      · rename_i h1
        cases hq
        exact ⟨_, _, hs y h1, SR_int, he⟩
  cases op with
  | shl => exact key (s := fun y => binOp .shl t (.int k x) (.int k' y)) (f := fun y => shlI k x y) (fun y hy w _ => by simp [binOp, Op.shift, hy, shlI]) he
  | shr => exact key (s := fun y => binOp .shr t (.int k x) (.int k' y)) (f := fun y => shrI k x y) (fun y hy w _ => by simp [binOp, Op.shift, hy, shrI]) he
  | _ => cases he
theorem eStrOp_ok {op : BinOp} {t : TypeId} {x y : ByteArray} (he : eStrOp pb op x y C = some r) : Val1 P H L E (binOp op t (.string x) (.string y)) C r := by
  cases op with
  | add =>
    obtain ⟨q, hq, he, _⟩ := bnd_some he
    unfold catS at hq
    split at hq
    · cases hq
    · rename_i h1
      cases hq
      exact ⟨_, _, fun w _ => by simp only [binOp, Op.stringOp, if_neg h1, Sem.run_pure], SR_str, he⟩
  | eql => exact ⟨.bool (streq x y), _, fun w _ => by simp only [binOp, Op.stringOp, Sem.run_pure]; rfl, SR_bool, he⟩
  | neq => exact ⟨.bool (!streq x y), _, fun w _ => by simp only [binOp, Op.stringOp, Sem.run_pure]; rfl, SR_bool, he⟩
  | lss => exact ⟨.bool (strlt x y), _, fun w _ => by simp only [binOp, Op.stringOp, Sem.run_pure]; rfl, SR_bool, he⟩
  | leq => exact ⟨_, _, fun w _ => by simp only [binOp, Op.stringOp, Sem.run_pure]; rfl, SR_bool, he⟩
  | gtr => exact ⟨_, _, fun w _ => by simp only [binOp, Op.stringOp, Sem.run_pure]; rfl, SR_bool, he⟩
  | geq => exact ⟨.bool (!strlt x y), _, fun w _ => by simp only [binOp, Op.stringOp, Sem.run_pure]; rfl, SR_bool, he⟩
  | _ => cases he

theorem cmp_info {n : Nat} {t : TypeId} {k : K} (h : cmpOk P n t k = true) : ∃ i, P.info? t = some i ∧ (isAgg t).run P w = .ok k.agg w ∧ (k.agg = false → k.w = 1) := by
  have hi : ∀ d, P.underlying t = some d → ∃ i, P.info? t = some i := by
    intro d hd
    unfold Program.underlying at hd
    cases hi : P.info? t with
    | none => rw [hi] at hd; cases hd
    | some i => exact ⟨i, rfl⟩
  cases n with
  | zero => cases h
  | succ n =>
    unfold cmpOk at h
    split at h
    · rename_i hu; obtain ⟨i, hi⟩ := hi _ hu; exact ⟨i, hi, by simp [isAgg, run_underlying hu, K.agg], fun _ => rfl⟩
    · rename_i hu; obtain ⟨i, hi⟩ := hi _ hu; exact ⟨i, hi, by simp [isAgg, run_underlying hu, K.agg], fun _ => rfl⟩
    · rename_i hu; obtain ⟨i, hi⟩ := hi _ hu; exact ⟨i, hi, by simp [isAgg, run_underlying hu, K.agg], fun _ => rfl⟩
    · rename_i hu; obtain ⟨i, hi⟩ := hi _ hu; exact ⟨i, hi, by simp [isAgg, run_underlying hu, K.agg], fun h => by cases h⟩
    · rename_i hu; obtain ⟨i, hi⟩ := hi _ hu; exact ⟨i, hi, by simp [isAgg, run_underlying hu, K.agg], fun h => by cases h⟩
    · cases h
theorem run_part2 {n : Nat} {t : TypeId} {k : K} (h : cmpOk P n t k = true) (hz : P.cellsOf t = k.w) {us : List Value} {off : Nat} {d : k.den} (hl : Lv H L k d ((us.drop off).take k.w)) (hle : off + k.w ≤ us.length) :
    (part t us.toArray off).run P w = .ok (k.mk ((us.drop off).take k.w)) w := by
  obtain ⟨i, hi, hag, h1⟩ := cmp_info (w := w) h
  have hsz : i.size = k.w := by rw [← hz]; simp [Program.cellsOf, hi]
  simp only [part, Sem.run_bind, hag, Result.andThen_ok]
  cases ha : k.agg with
  | true =>
    simp only [if_true, Sem.run_bind, sizeOf, run_typeInfo hi, Result.andThen_ok, Sem.run_pure, hsz, K.mk, ha]
    congr 2
    apply Array.ext'
    rw [Array.toList_extract]
    simp only [List.toList_toArray, List.extract_eq_take_drop]
    rw [show off + k.w - off = k.w by omega]
  | false =>
    have h1 := h1 ha
    have : ∃ v, (us.drop off).take k.w = [v] ∧ us[off]? = some v := by
      have hv : us[off]? = some us[off] := List.getElem?_eq_getElem (by omega)
      have : (us.drop off).take k.w = [us[off]] := by
        rw [h1, List.drop_eq_getElem_cons (by omega)]
        rfl
      rw [this]
      exact ⟨_, rfl, hv⟩
    obtain ⟨v, hv, hg⟩ := this
    simp only [Bool.false_eq_true, if_false, List.getElem?_toArray, hg, Sem.run_pure, hv, K.mk, ha, List.headD_cons]

theorem run_eqFields {n m : Nat} (ih : ∀ {t : TypeId} {k : K} {d e : k.den} {us vs : List Value}, cmpOk P n t k = true → Lv H L k d us → Lv H L k e vs → (Op.equalIn m t (k.mk us) (k.mk vs)).run P w = .ok (eqB k d e) w) {us vs : List Value} :
    ∀ (fs : List Field) (k : K) (d e : k.den) (off : Nat), cmpOk.goF fs k (cmpOk P n) P.cellsOf off = true → off + k.w = us.length → off + k.w = vs.length → Lv H L k d (us.drop off) → Lv H L k e (vs.drop off) →
      (Op.eqFields m us.toArray vs.toArray fs).run P w = .ok (eqB k d e) w
  | [], k, d, e, off, h, hu, hv, h1, h2 => by
    cases k <;> first | (cases h; done) | skip
    simp only [Op.eqFields, Sem.run_pure]
    rfl
  | [f], k, d, e, off, h, hu, hv, h1, h2 => by
    simp only [cmpOk.goF, Bool.and_eq_true, bne_iff_ne] at h
    obtain ⟨⟨⟨⟨g1, g2⟩, g3⟩, g4⟩, g5⟩ := h
    have g4 := Nat.eq_of_beq_eq_true g4
    have g5 := Nat.eq_of_beq_eq_true g5
    have e1 : (us.drop off).take k.w = us.drop off := List.take_of_length_le (by simp; omega)
    have e2 : (vs.drop off).take k.w = vs.drop off := List.take_of_length_le (by simp; omega)
    have p1 := run_part2 (w := w) g2 g5 (us := us) (off := off) (d := d) (by rw [e1]; exact h1) (by omega)
    have p2 := run_part2 (w := w) g2 g5 (us := vs) (off := off) (d := e) (by rw [e2]; exact h2) (by omega)
    rw [e1] at p1
    rw [e2] at p2
    simp only [Op.eqFields, ne_eq, g3, not_false_iff, if_true, Sem.run_bind, g4, p1, p2, Result.andThen_ok, ih g2 h1 h2, Sem.run_ite, Sem.run_pure]
    cases eqB k d e <;> simp
  | f :: g :: r, k, d, e, off, h, hu, hv, h1, h2 => by
    cases k <;> first | (cases h; done) | skip
    rename_i ka kb
    obtain ⟨x1, y1, ex1, a1, b1⟩ := h1
    obtain ⟨x2, y2, ex2, a2, b2⟩ := h2
    simp only [cmpOk.goF, Bool.and_eq_true, bne_iff_ne] at h
    obtain ⟨⟨⟨⟨g2, g3⟩, g4⟩, g5⟩, g6⟩ := h
    have g4 := Nat.eq_of_beq_eq_true g4
    have g5 := Nat.eq_of_beq_eq_true g5
    have lx1 := Lv_len a1
    have lx2 := Lv_len a2
    have hw : (K.pair ka kb).w = ka.w + kb.w := rfl
    have e1 : (us.drop off).take ka.w = x1 := by rw [ex1, ← lx1, List.take_left]
    have e2 : (vs.drop off).take ka.w = x2 := by rw [ex2, ← lx2, List.take_left]
    have d1 : us.drop (off + ka.w) = y1 := by rw [← List.drop_drop, ex1, ← lx1, List.drop_left]
    have d2 : vs.drop (off + ka.w) = y2 := by rw [← List.drop_drop, ex2, ← lx2, List.drop_left]
    have p1 := run_part2 (w := w) g2 g5 (us := us) (off := off) (d := d.1) (by rw [e1]; exact a1) (by omega)
    have p2 := run_part2 (w := w) g2 g5 (us := vs) (off := off) (d := e.1) (by rw [e2]; exact a2) (by omega)
    rw [e1] at p1
    rw [e2] at p2
    have rest := run_eqFields ih (us := us) (vs := vs) (g :: r) kb d.2 e.2 (off + ka.w) g6 (by omega) (by omega) (by rw [d1]; exact b1) (by rw [d2]; exact b2)
    rw [Op.eqFields]
    simp only [ne_eq, g3, not_false_iff, if_true, Sem.run_bind, g4, p1, p2, Result.andThen_ok, ih g2 a1 a2, Sem.run_ite, Sem.run_pure, rest]
    show _ = Result.ok (eqB ka d.1 e.1 && eqB kb d.2 e.2) w
    cases eqB ka d.1 e.1 <;> simp

/-- two values compared as the type compares them -/
theorem run_equal : ∀ (n : Nat) {t : TypeId} {k : K} {d e : k.den} {us vs : List Value} (m : Nat), cmpOk P n t k = true → n ≤ m → Lv H L k d us → Lv H L k e vs → (Op.equalIn m t (k.mk us) (k.mk vs)).run P w = .ok (eqB k d e) w
  | 0, _, _, _, _, _, _, _, h, _, _, _ => by cases h
  | n + 1, t, k, d, e, us, vs, 0, h, hm, _, _ => by omega
  | n + 1, t, k, d, e, us, vs, m + 1, h, hm, h1, h2 => by
    have ih : ∀ {t : TypeId} {k : K} {d e : k.den} {us vs : List Value}, cmpOk P n t k = true → Lv H L k d us → Lv H L k e vs → (Op.equalIn m t (k.mk us) (k.mk vs)).run P w = .ok (eqB k d e) w :=
      fun h h1 h2 => run_equal n m h (by omega) h1 h2
    unfold cmpOk at h
    split at h
    · rename_i j k' hu
      cases (show us = _ from h1)
      cases (show vs = _ from h2)
      have h : j = k' := by simpa using h
      subst h
      exact run_equalIn_int w m t j j d e hu
    · rename_i hu
      cases (show us = _ from h1)
      cases (show vs = _ from h2)
      exact run_equalIn_bool' w m t d e hu
    · rename_i hu
      cases (show us = _ from h1)
      cases (show vs = _ from h2)
      exact run_equalIn_string w m t d e hu
    · rename_i fs k hu
      simp only [Bool.and_eq_true, Bool.not_eq_true'] at h
      obtain ⟨hst, hg⟩ := h
      have h1 : Lv H L k d us := h1
      have h2 : Lv H L k e vs := h2
      have hf : P.fieldsOf t = fs := by simp [Program.fieldsOf, hu]
      have := run_equalIn_struct w m t us.toArray vs.toArray (by rw [hf]; exact hu) hst
      simp only [K.mk, K.agg, if_true]
      rw [this, hf]
      exact run_eqFields ih fs.toList k d e 0 hg (by rw [Nat.zero_add]; exact (Lv_len h1).symm) (by rw [Nat.zero_add]; exact (Lv_len h2).symm) h1 h2
    · rename_i len el n' k hu
      simp only [Bool.and_eq_true] at h
      obtain ⟨⟨hn, hc⟩, hz⟩ := h
      have hn := Nat.eq_of_beq_eq_true hn
      have hz := Nat.eq_of_beq_eq_true hz
      obtain ⟨hp, l1, v1⟩ := h1
      obtain ⟨_, l2, v2⟩ := h2
      obtain ⟨d', hd'⟩ : ∃ d' : List k.den, d' = d := ⟨d, rfl⟩
      obtain ⟨e', he'⟩ : ∃ e' : List k.den, e' = e := ⟨e, rfl⟩
      subst hd' he'
      obtain ⟨i, hi, _⟩ := cmp_info (w := w) hc
      have hsz : i.size = k.w := by rw [← hz]; simp [Program.cellsOf, hi]
      simp only [K.mk, K.agg, if_true]
      simp only [Op.equalIn, Sem.run_bind, run_underlying hu, Result.andThen_ok, sizeOf, run_typeInfo hi, hsz, Sem.run_pure]
      have key : ∀ (m' s : Nat), s + m' = len → (forIn (List.range' s m') ((none : Option Bool), ()) (fun (i : Nat) (_ : Option Bool × Unit) => (do
            let x ← part el us.toArray (i * k.w)
            let y ← part el vs.toArray (i * k.w)
            let b ← Op.equalIn m el x y
            if (!b) = true then pure (ForInStep.done (some false, ())) else pure (ForInStep.yield (none, ())) : Sem (ForInStep (Option Bool × Unit))))).run P w
          = .ok (if eqL (eqB k) (List.drop s d') (List.drop s e') then (none, ()) else (some false, ())) w := by
        intro m'
        induction m' with
        | zero =>
          intro s hs
          have e1 : List.drop s d' = [] := List.drop_eq_nil_of_le (by omega)
          have e2 : List.drop s e' = [] := List.drop_eq_nil_of_le (by omega)
          rw [e1, e2]
          simp [eqL]
        | succ m' ihm =>
          intro s hs
          have s1 : s < d'.length := by omega
          have s2 : s < e'.length := by omega
          have e1 := List.drop_eq_getElem_cons (l := d') s1
          have e2 := List.drop_eq_getElem_cons (l := e') s2
          have ⟨a1, a2⟩ := LvL_get (w := k.w) (fun x vs h => Lv_len h) v1 (List.getElem?_eq_getElem s1)
          have ⟨b1, b2⟩ := LvL_get (w := k.w) (fun x vs h => Lv_len h) v2 (List.getElem?_eq_getElem s2)
          have p1 := run_part2 (w := w) hc hz a1 a2
          have p2 := run_part2 (w := w) hc hz b1 b2
          rw [e1, e2]
          simp only [List.range'_succ, List.forIn_cons, Sem.run_bind, p1, p2, Result.andThen_ok, ih hc a1 b1, Sem.run_ite, Sem.run_pure, eqL]
          have := ihm (s + 1) (by omega)
          by_cases hb : eqB k (d'[s]) (e'[s]) = true
          · simpa [hb] using this
          · simp [hb]
      rw [Std.Legacy.Range.forIn_eq_forIn_range']
      have := key len 0 (by omega)
      simp only [Std.Legacy.Range.size, Nat.sub_zero, Nat.add_sub_cancel, Nat.div_one]
      rw [this]
      simp only [List.drop_zero, Result.andThen_ok]
      show _ = Result.ok (eqL (eqB k) d' e') w
      cases eqL (eqB k) d' e' <;> simp
    · cases h
end
end Go.Proofs.YtofendipdfepoaaDoor.Gp

/- Operations, eleventh part: operators, conversions. -/
set_option linter.unusedVariables false
noncomputable section
namespace Go.Proofs.YtofendipdfepoaaDoor.Gp
open Go

def plainPair : Value → Value → Prop
  | .int _ _, .int _ _ => False | .string _, .string _ => False | .float _ _, .float _ _ => False | .complex _ _ _, .complex _ _ _ => False | _, _ => True
def noAgg : Value → Value → Prop
  | .agg _, .agg _ => False | _, _ => True
def noPair : Value → Value → Prop
  | .nilIface, .nilIface => False | .agg _, .agg _ => False | _, _ => True
section
variable {R : Type} {P : Program} {σ : State} {H E : Hp} {L : Ls} {a : Act} {w : World} {pb : Nat} {r : R} {C : Val → Option R}

theorem run_guard_plain {op : BinOp} {t : TypeId} {x y : Operand} {u v : Value} (h : noPair u v) : (eqGuard op t x y u v).run P w = .ok () w := by
  unfold eqGuard
  cases op <;> simp <;> (split <;> simp_all [noPair])

theorem bin_of {op : BinOp} {t : TypeId} {xo yo : Operand} {x y : Value} (hg : ∀ w, (eqGuard op t xo yo x y).run P w = .ok () w) (h : Val1 P H L E (binOp op t x y) C r) : Val1 P H L E (do eqGuard op t xo yo x y; binOp op t x y) C r := by
  obtain ⟨q, u, h1, h2, h3⟩ := h
  exact ⟨q, u, fun w hw => by simp only [Sem.run_bind, hg, Result.andThen_ok, h1 w hw], h2, h3⟩

theorem eq_of {neg : Bool} {op : BinOp} (ho : op = if neg then .neq else .eql) {t : TypeId} {x y : Value} {b : Bool} (hn : plainPair x y)
    (h : ∀ w, (Op.equal t x y).run P w = .ok b w) (hc : C ⟨.bool, xor neg b⟩ = some r) : Val1 P H L E (binOp op t x y) C r := by
  have e1 : binOp .eql t x y = (do pure (.bool (← Op.equal t x y))) := by
    unfold binOp
    split <;> simp_all [plainPair]
  have e2 : binOp .neq t x y = (do pure (.bool (!(← Op.equal t x y)))) := by
    unfold binOp
    split <;> simp_all [plainPair]
  cases neg with
  | true => subst ho; exact ⟨.bool (!b), _, fun w _ => by simp [e2, h], SR_bool, by simpa using hc⟩
  | false => subst ho; exact ⟨.bool b, _, fun w _ => by simp [e1, h], SR_bool, by simpa using hc⟩

theorem u_ptr {t e} (h : uOk P t (.ptr e) = true) : P.underlying t = some (.pointer e) := by
  unfold uOk at h; split at h <;> simp_all
theorem u_fn {t} (h : uOk P t .fn = true) : ∃ a b c, P.underlying t = some (.func a b c) := by
  unfold uOk at h; split at h <;> simp_all
theorem u_ifc {t} (h : uOk P t .ifc = true) : ∃ a, P.underlying t = some (.interface a) := by
  unfold uOk at h; split at h <;> simp_all

theorem eqn_slI (d : Nat) {t e : TypeId} (hu : P.underlying t = some (.slice e)) {a : Option Addr} {n c : Nat} : (Op.equalIn (d + 1) t (.slice a n c) (.slice none 0 0)).run P w = .ok a.isNone w := by
  cases a <;> simp only [Op.equalIn, Sem.run_bind, run_underlying hu, Result.andThen_ok, Sem.run_pure] <;> rfl
theorem eqn_sl {t e : TypeId} (hu : P.underlying t = some (.slice e)) {a : Option Addr} {n c : Nat} : (Op.equal t (.slice a n c) (.slice none 0 0)).run P w = .ok a.isNone w := eqn_slI 9999 hu
theorem eqn_mapI (d : Nat) {t k e : TypeId} (hu : P.underlying t = some (.map k e)) {a : Option Nat} : (Op.equalIn (d + 1) t (.map a) (.map none)).run P w = .ok a.isNone w := by
  cases a <;> simp only [Op.equalIn, Sem.run_bind, run_underlying hu, Result.andThen_ok, Sem.run_pure] <;> rfl
theorem eqn_map {t k e : TypeId} (hu : P.underlying t = some (.map k e)) {a : Option Nat} : (Op.equal t (.map a) (.map none)).run P w = .ok a.isNone w := eqn_mapI 9999 hu
theorem eqn_ptrI (d : Nat) {t e : TypeId} (hu : P.underlying t = some (.pointer e)) {a : Option Addr} : (Op.equalIn (d + 1) t (.pointer a) (.pointer none)).run P w = .ok a.isNone w := by
  cases a <;> simp only [Op.equalIn, Sem.run_bind, run_underlying hu, Result.andThen_ok, Sem.run_pure] <;> rfl
theorem eqn_ptr {t e : TypeId} (hu : P.underlying t = some (.pointer e)) {a : Option Addr} : (Op.equal t (.pointer a) (.pointer none)).run P w = .ok a.isNone w := eqn_ptrI 9999 hu
theorem eqn_fnI (d : Nat) {t : TypeId} {x y z} (hu : P.underlying t = some (.func x y z)) {f u v} : (Op.equalIn (d + 1) t (.func f u v) .nilFunc).run P w = .ok false w := by
  simp only [Op.equalIn, Sem.run_bind, run_underlying hu, Result.andThen_ok, Sem.run_pure]
theorem eqn_fn {t : TypeId} {x y z} (hu : P.underlying t = some (.func x y z)) {f u v} : (Op.equal t (.func f u v) .nilFunc).run P w = .ok false w := eqn_fnI 9999 hu
theorem eqn_fn0I (d : Nat) {t : TypeId} {x y z} (hu : P.underlying t = some (.func x y z)) : (Op.equalIn (d + 1) t .nilFunc .nilFunc).run P w = .ok true w := by
  simp only [Op.equalIn, Sem.run_bind, run_underlying hu, Result.andThen_ok, Sem.run_pure]
theorem eqn_fn0 {t : TypeId} {x y z} (hu : P.underlying t = some (.func x y z)) : (Op.equal t .nilFunc .nilFunc).run P w = .ok true w := eqn_fn0I 9999 hu
theorem eqn_ifcI (d : Nat) {t : TypeId} {x} (hu : P.underlying t = some (.interface x)) {u v} : (Op.equalIn (d + 1) t (.iface u v) .nilIface).run P w = .ok false w := by
  simp only [Op.equalIn, Sem.run_bind, run_underlying hu, Result.andThen_ok, Sem.run_pure]
theorem eqn_ifc {t : TypeId} {x} (hu : P.underlying t = some (.interface x)) {u v} : (Op.equal t (.iface u v) .nilIface).run P w = .ok false w := eqn_ifcI 9999 hu
theorem eqn_ifc0I (d : Nat) {t : TypeId} {x} (hu : P.underlying t = some (.interface x)) : (Op.equalIn (d + 1) t .nilIface .nilIface).run P w = .ok true w := by
  simp only [Op.equalIn, Sem.run_bind, run_underlying hu, Result.andThen_ok, Sem.run_pure]
theorem eqn_ifc0 {t : TypeId} {x} (hu : P.underlying t = some (.interface x)) : (Op.equal t .nilIface .nilIface).run P w = .ok true w := eqn_ifc0I 9999 hu

/-- a value held against nil -/
theorem isNil_ok {t : TypeId} {td : TD} (ht : TdOk P t td) (h : St σ H L a w) {v y : Val} {x' y' : Value} (hv : SR H L v x') (hy : SR H L y y') (hn : nilOf td.u y.1 = true) {D : Bool → Option R} (he : isNil pb td.u σ D v = some r) :
    ∃ b, (∀ w, (Op.equal t x' y').run P w = .ok b w) ∧ D b = some r ∧ plainPair x' y' ∧
      noAgg x' y' := by
  obtain ⟨ky, dy⟩ := y
  obtain ⟨kv, d⟩ := v
  have hu := ht.u
  cases htu : td.u <;> cases ky <;> rw [htu] at hn <;> first | (cases hn; done) | skip
  · -- slices
    rename_i e
    rw [htu] at hu he
    have hu := u_sl hu
    have hy := SR_one hy rfl rfl
    cases (show [y'] = _ from hy)
    cases kv <;> first | (cases he; done) | skip
    · have he : orNilAt pb (List.length (α := _) d) (D true) (D false) = some r := he
      obtain ⟨he, he0⟩ := orNilAt_some he
      obtain ⟨hp, a', c, rfl, hcap, hrow⟩ := sl_at hv
      by_cases h0 : List.length (α := _) d = 0
      · cases a' with
        | none => exact ⟨true, fun _ => eqn_sl hu, he0 h0, trivial, trivial⟩
        | some a' => exact ⟨false, fun _ => eqn_sl hu, he, trivial, trivial⟩
      obtain ⟨b, o, cs, e2, z, rfl, hb, hl⟩ := hrow h0
      exact ⟨false, fun _ => eqn_sl hu, he, trivial, trivial⟩
    · have hv := SR_one hv rfl rfl
      cases (show [x'] = _ from hv)
      exact ⟨true, fun _ => eqn_sl hu, he, trivial, trivial⟩
    · rename_i j
      have he : (match σ.heap j with | ⟨.row k, l⟩ => orNilAt pb (List.length (α := k.den) l) (D true) (D false) | _ => none) = some r := he
      split at he
      · rename_i k l hj
        obtain ⟨he, he0⟩ := orNilAt_some he
        obtain ⟨rfl, hlv⟩ := ms_at hv
        obtain ⟨hp, hlen, hrow⟩ := hp_row h hj
        rcases hrow with ⟨h1, h2, _⟩ | ⟨h1, _⟩
        · have hh : (L j).hdr = .slice none 0 0 := by simp [Loc.hdr, h1]
          rw [hh]
          exact ⟨true, fun _ => eqn_sl hu, he0 h2, trivial, trivial⟩
        · have hh : (L j).hdr = .slice (some ⟨(L j).blk, (L j).off, none⟩) (L j).len (L j).cap := by simp [Loc.hdr, h1]
          rw [hh]
          exact ⟨false, fun _ => eqn_sl hu, he, trivial, trivial⟩
      · cases he
  · -- maps
    rw [htu] at hu he
    have hu := u_map hu
    have hy := SR_one hy rfl rfl
    cases (show [y'] = _ from hy)
    cases kv <;> first | (cases he; done) | skip
    · have hv := SR_one hv rfl rfl
      obtain ⟨hv, _⟩ := hv
      cases hv
      exact ⟨false, fun _ => eqn_map hu, he, trivial, trivial⟩
    · have hv := SR_one hv rfl rfl
      cases (show [x'] = _ from hv)
      exact ⟨true, fun _ => eqn_map hu, he, trivial, trivial⟩
  · -- pointers
    rw [htu] at hu he
    have hu := u_ptr hu
    have hy := SR_one hy rfl rfl
    cases (show [y'] = _ from hy)
    cases kv <;> first | (cases he; done) | skip
    · obtain ⟨rfl, _⟩ := ptr_at hv
      exact ⟨false, fun _ => eqn_ptr hu, he, trivial, trivial⟩
    · obtain ⟨_, b, o, cs, e, z, rfl, _⟩ := fp_at hv
      exact ⟨false, fun _ => eqn_ptr hu, he, trivial, trivial⟩
    · have hv := SR_one hv rfl rfl
      cases (show [x'] = _ from hv)
      exact ⟨true, fun _ => eqn_ptr hu, he, trivial, trivial⟩
  · -- functions
    rw [htu] at hu he
    obtain ⟨_, _, _, hu⟩ := u_fn hu
    have hy := SR_one hy rfl rfl
    cases (show [y'] = _ from hy)
    cases kv <;> first | (cases he; done) | skip
    · have hv := SR_one hv rfl rfl
      obtain ⟨us, hv, _⟩ := hv
      cases hv
      exact ⟨false, fun _ => eqn_fn hu, he, trivial, trivial⟩
    · have hv := SR_one hv rfl rfl
      cases (show [x'] = _ from hv)
      exact ⟨true, fun _ => eqn_fn0 hu, he, trivial, trivial⟩
  · -- interfaces
    rw [htu] at hu he
    obtain ⟨_, hu⟩ := u_ifc hu
    have hy := SR_one hy rfl rfl
    cases (show [y'] = _ from hy)
    cases kv <;> first | (cases he; done) | skip
    · have hv := SR_one hv rfl rfl
      obtain ⟨us, hv, _⟩ := hv
      cases hv
      exact ⟨false, fun _ => eqn_ifc hu, he, trivial, trivial⟩
    · have hv := SR_one hv rfl rfl
      cases (show [x'] = _ from hv)
      exact ⟨true, fun _ => eqn_ifc0 hu, he, trivial, trivial⟩

theorem eEq_ok {neg : Bool} {op : BinOp} (ho : op = if neg then .neq else .eql) {t : TypeId} {td : TD} (ht : TdOk P t td) (h : St σ H L a w) {xo yo : Operand} {yk : Bool} (hyk : yk = true → ∃ c, yo = .const c) {x y : Val} {x' y' : Value} (hx : SR H L x x') (hy : SR H L y y')
    (he : eEq pb yk td σ neg x y C = some r) : Val1 P H L E (do eqGuard op t xo yo x' y'; binOp op t x' y') C r := by
  unfold eEq at he
  cases hyn : y.1.isNil with
  | true =>
    rw [hyn] at he
    obtain ⟨hc, he⟩ := cond_some (c := yk && nilOf td.u y.1) he
    simp only [Bool.and_eq_true] at hc
    obtain ⟨b, h1, h2, h3, h4⟩ := isNil_ok ht h hx hy hc.2 he
    refine bin_of (fun w => ?_) (eq_of ho h3 h1 h2)
    obtain ⟨c, rfl⟩ := hyk hc.1
    by_cases hnn : x' = .nilIface ∧ y' = .nilIface
    · obtain ⟨rfl, rfl⟩ := hnn
      cases neg <;> subst ho <;> simp [eqGuard]
    · refine run_guard_plain ?_
      revert h4 hnn
      cases x' <;> cases y' <;> simp [noAgg, noPair]
  | false =>
    rw [hyn] at he
    simp only [cond_false] at he
    split at he
    · rename_i d hd
      obtain ⟨hc, he⟩ := cond_some he
      simp only [Bool.and_eq_true, beq_iff_eq] at hc
      obtain ⟨⟨⟨⟨hpl, hk⟩, hone⟩, hcmp⟩, hab⟩ := hc
      obtain ⟨kx, dx⟩ := x
      obtain ⟨ky, dy⟩ := y
      have := castK_some hd
      cases this
      simp only at hk hone hcmp he hy
      subst hk
      obtain ⟨hce, hgt⟩ := ht.plain hpl
      obtain ⟨c1, c2⟩ := SR_cells hx hone
      obtain ⟨c3, c4⟩ := SR_cells hy hone
      have heq : ∀ w, (Op.equal t x' y').run P w = .ok (eqB td.kind dx dy) w := fun w => by
        have heq := run_equal (P := P) (w := w) 40 Op.maxDepth hce (by simp [Op.maxDepth]) c1 c3
        rw [← c2, ← c4] at heq
        exact heq
      by_cases hag : td.kind.agg = true
      · have e1 : x' = .agg x'.cells.toList.toArray := by rw [c2]; simp [K.mk, hag, Value.cells]
        have e2 : y' = .agg y'.cells.toList.toArray := by rw [c4]; simp [K.mk, hag, Value.cells]
        generalize x'.cells.toList.toArray = xs at e1
        generalize y'.cells.toList.toArray = ys at e2
        subst e1 e2
        exact bin_of (fun w => run_eqGuard_agg w op t xo yo xs ys hgt) (eq_of ho trivial heq he)
      · have hbo : td.kind.isBool = true := by simpa [hag] using hab
        generalize td.kind = kk at *
        cases kk <;> first | (simp [K.isBool] at hbo; done) | skip
        have e1 := bool_at hx
        have e2 := bool_at hy
        subst e1 e2
        exact bin_of (fun w => run_guard_plain trivial) (eq_of ho trivial heq he)
    · cases he
end
end Go.Proofs.YtofendipdfepoaaDoor.Gp

/- Operations, twelfth part: operators, conversions, numbers of things. -/
set_option linter.unusedVariables false
noncomputable section
namespace Go.Proofs.YtofendipdfepoaaDoor.Gp
open Go

section
variable {R : Type} {P : Program} {σ : State} {H E : Hp} {L : Ls} {a : Act} {w : World} {pb : Nat} {r : R} {C : Val → Option R}

theorem eBin_ok {op : BinOp} {t : TypeId} {td : TD} (ht : TdOk P t td) (h : St σ H L a w) {xo yo : Operand} {yc yk : Bool} (hyk : yk = true → ∃ c, yo = .const c) {x y : Val} {x' y' : Value} (hx : SR H L x x') (hy : SR H L y y')
    (he : eBin pb yc yk op td σ x y C = some r) : Val1 P H L E (do eqGuard op t xo yo x' y'; binOp op t x' y') C r := by
  have gen : ∀ x y : Val, SR H L x x' → SR H L y y' → eEqOp pb yk op td σ x y C = some r → Val1 P H L E (do eqGuard op t xo yo x' y'; binOp op t x' y') C r := by
    intro x y hx hy he
    unfold eEqOp at he
    split at he
    · exact eEq_ok (neg := false) rfl ht h hyk hx hy he
    · exact eEq_ok (neg := true) rfl ht h hyk hx hy he
    · cases he
  unfold eBin at he
  split at he
  · rename_i k dx k' dy
    cases int_at hx
    cases int_at hy
    refine bin_of (fun _ => run_guard_plain trivial) ?_
    cases hs : isShift op with
    | true => rw [hs] at he; exact eShift_ok he
    | false =>
      rw [hs] at he
      obtain ⟨hk, he⟩ := cond_some (c := k == k') he
      have hk : k = k' := by simpa using hk
      subst hk
      exact eIntOp_ok ⟨fun e => (by rw [e] at hs; cases hs), fun e => (by rw [e] at hs; cases hs)⟩ he
  · cases str_at hx
    cases str_at hy
    exact bin_of (fun _ => run_guard_plain trivial) (eStrOp_ok he)
  · exact gen _ _ hx hy he

theorem eUn_ok {op : UnOp} {x : Val} {x' : Value} (hx : SR H L x x') (he : eUn op C x = some r) : Val1 P H L E (Op.unary op x') C r := by
  obtain ⟨kx, dx⟩ := x
  cases kx <;> first | (cases he; done) | skip
  · rename_i k
    cases int_at hx
    cases op <;> first | (cases he; done) | skip
    · exact ⟨.int k (negI k dx), _, fun w _ => by simp only [Op.unary, Op.intArith, Sem.run_pure]; rfl, SR_int, he⟩
    · exact ⟨.int k (ibits .xor k (if k.signed then -1 else k.max) dx), _, fun w _ => by simp only [Op.unary, Op.intBits, Sem.run_pure]; rfl, SR_int, he⟩
  · cases bool_at hx
    cases op <;> first | (cases he; done) | skip
    exact ⟨.bool (!(dx : Bool)), _, fun w _ => by simp only [Op.unary, Sem.run_pure], SR_bool, he⟩

theorem run_bytes {P : Program} {w : World} {x : Value} {k : IntKind} {l : List Int} {news : List Value} (hs : Src P w 1 l.length x news) (hl : news = l.map (fun n => Value.int .u8 n)) (hx : ∃ a n c, x = .slice a n c) : (Conv.bytesToString x).run P w = .ok (.string (strOf l)) w := by
  obtain ⟨a, n, c, rfl⟩ := hx
  have h1 := hs.len w
  have h2 := hs.get w rfl
  simp only [Builtin.lenOf, Sem.run_pure, Result.ok.injEq, and_true] at h1
  subst hl h1
  have hfold : ∀ (l : List Int) (s : ByteArray), l.foldl (fun s n => s.push (UInt8.ofNat n.toNat)) s = ⟨s.data ++ (l.map (fun n => UInt8.ofNat n.toNat)).toArray⟩ := by
    intro l
    induction l with
    | nil => intro s; simp
    | cons x l ih =>
      intro s
      rw [List.foldl_cons, ih]
      apply ByteArray.ext
      simp [ByteArray.push]
  cases a with
  | none =>
    simp only [Builtin.firstCells, Sem.run_pure, Result.ok.injEq, and_true] at h2
    have : l = [] := by
      have := congrArg Array.size h2
      simp at this
      exact List.length_eq_zero_iff.1 this.symm
    subst this
    simp [Conv.bytesToString, strOf]
    rfl
  | some b =>
    simp only [Builtin.firstCells, Nat.mul_one] at h2
    rw [run_bytesToString (P := P) w b _ c l h2, hfold]
    congr 2
    apply ByteArray.ext
    simp [strOf]

theorem isSl_at (h : St σ H L a w) {v : Val} {x : Value} (hs : v.1.isSl = true) (hv : SR H L v x) : ∃ a n c, x = .slice a n c := by
  obtain ⟨k, d⟩ := v
  cases k <;> first | (simp [K.isSl] at hs; done) | skip
  · obtain ⟨_, a', c, rfl, _⟩ := sl_at hv; exact ⟨_, _, _, rfl⟩
  · have := SR_one hv rfl rfl
    cases (show [x] = _ from this)
    exact ⟨_, _, _, rfl⟩
  · obtain ⟨rfl, _⟩ := ms_at hv
    unfold Loc.hdr
    split <;> exact ⟨_, _, _, rfl⟩

theorem bytes_uniq {l : List Int} {news : List Value} (h : LvL (Lv H L (.int .u8)) l news) : news = l.map (fun n => Value.int .u8 n) := by
  induction l generalizing news with
  | nil => exact h
  | cons x l ih =>
    obtain ⟨a, b, rfl, h1, h2⟩ := h
    cases (show a = _ from h1)
    rw [ih h2]
    rfl

theorem push_bytes {t t' e : TypeId} (h : St σ H L a w) (hu : P.underlying t = some .string) (hu' : P.underlying t' = some (.slice e)) (hue : P.underlying e = some (.int .u8)) (s : ByteArray) {D : Kt R} (hpb : ¬ pb ≤ 1)
    (he : D ⟨.ms σ.next, ()⟩ (σ.push ⟨.row (.int .u8), bytesOf s⟩) = some r) : Lands P σ H L a w pb (convert t t' (.string s)) D r := by
  have hsz : (bytesOf s).length = s.size := by simp [bytesOf]
  let cap := grownCap w s.size 0 e
  have hcap : s.size ≤ cap := grownCap_ge w s.size 0 e
  let cs : Array Value := s.data.map (fun b => Value.int .u8 b.toNat) ++ Array.replicate (cap - s.size) (.int .u8 0)
  have hcs : cs = (((bytesOf s).map fun n => Value.int .u8 n) ++ List.replicate (cap - s.size) (Value.int .u8 0)).toArray := by
    apply Array.ext'
    simp [cs, bytesOf]
  have hcsz : cs.size = cap := by
    rw [hcs]
    simp [hsz]
    omega
  let w' := (w.drew.alloc (.cells cs e)).freeze ⟨w.heap.size, cap, none⟩ 1
  have hget : w'.heap[w.heap.size]? = some (.cells cs e (cap, cap + 1)) := by
    show ((w.drew.alloc (.cells cs e)).freeze ⟨w.heap.size, cap, none⟩ 1).heap[w.heap.size]? = _
    simp only [World.freeze, Nat.one_ne_zero, if_false, Array.getElem?_modify, if_true]
    rw [show (w.drew.alloc (.cells cs e)).heap[w.heap.size]? = some (.cells cs e) from alloc_at (w := w.drew)]
    simp
  have hold : ∀ b, b < w.heap.size → w'.heap[b]? = w.heap[b]? := by
    intro b hb
    show ((w.drew.alloc (.cells cs e)).freeze ⟨w.heap.size, cap, none⟩ 1).heap[b]? = _
    simp only [World.freeze, Nat.one_ne_zero, if_false, Array.getElem?_modify]
    rw [if_neg (by omega)]
    exact alloc_lt (w := w.drew) hb
  have hrun : (convert t t' (.string s)).run P w = .ok (.slice (some ⟨w.heap.size, 0, none⟩) s.size cap) w' := by
    have hdraw : (choose (.appendCap s.size 0 e)).run P w = .ok cap w.drew := by simp [Question.forced, cap, grownCap]
    have hshape : (w.drew.alloc (.cells cs e)).shape? w.heap.size = some (e, cap) := by
      simp only [World.shape?]
      rw [show (w.drew.alloc (.cells cs e)).heap[w.heap.size]? = some (.cells cs e) from alloc_at (w := w.drew)]
      simp [hcsz]
    simp only [convert, Sem.run_bind, run_underlying hu, run_underlying hu', run_underlying hue, Result.andThen_ok, Conv.stringToBytes, hdraw, newRow, run_newObj, World.alloc_eq, Sem.run_pure, markStringish, run_shape]
    rw [show (w.drew.alloc (.cells (s.data.map (fun b => Value.int .u8 b.toNat) ++ Array.replicate (cap - s.size) (.int .u8 0)) e)).shape? w.drew.heap.size = some (e, cap) from hshape]
    simp only [run_freeze, Result.andThen_ok]
    rfl
  have hst := h.push ⟨.row (.int .u8), bytesOf s⟩ ⟨w.heap.size, 0, s.size, cap, false, [], true⟩ (w' := w')
    (row_new (L := L) (k := .int .u8) (l := bytesOf s) rfl (bytes_lv (L := L) (bytesOf s)) (cap := cap) (zs := List.replicate (cap - s.size) (Value.int .u8 0)) (e := e) (z := (cap, cap + 1)) (Nat.le_trans (Nat.le_of_eq hsz) hcap) (by show (List.replicate (cap - s.size) _).length = (cap - (bytesOf s).length) * 1; rw [hsz]; simp)
      (by rw [← hcs]; intro o ho; rw [hcsz] at ho; omega) (by rw [← hcs]; exact hget) rfl rfl hsz.symm rfl) (fun _ => Nat.le_refl _) hold
    (by show _ ≤ ((w.drew.alloc (.cells cs e)).freeze _ 1).heap.size; simp [World.freeze]) rfl rfl rfl
  exact ⟨_, ⟨.ms σ.next, ()⟩, _, H, _, w', hrun, SR_mk (k := .ms σ.next) (us := [_]) ⟨by rw [upd_same]; rfl, by rw [upd_same]⟩, hst.1, hst.2, fun h => absurd h hpb, rfl, he⟩

theorem eConvert_ok {t t' : TypeId} {td td' te : TD} (ht : TdOk P t td) (ht' : TdOk P t' td') (hte : (∀ e, td.u = .sl e → uOk P e te.u = true) ∧ (td.u = .str → ∀ e, td'.u = .sl e → uOk P e te.u = true ∧ te.u = te.u)) (h : St σ H L a w) {D : Kt R} {x : Val} {x' : Value} (hx : SR H L x x')
    (he : eConvert pb td td' te σ D x = some r) : Lands P σ H L a w pb (convert t t' x') D r := by
  unfold eConvert at he
  have hu := ht.u
  have hu' := ht'.u
  split at he
  · rename_i k0 k k1 n h1 h2
    rw [h1] at hu
    rw [h2] at hu'
    cases int_at hx
    exact .val h (by simp only [convert, Sem.run_bind, run_underlying (u_int hu), run_underlying (u_int hu'), Result.andThen_ok, Conv.intToInt, Sem.run_pure]) SR_int he
  · rename_i s h1 h2
    rw [h1] at hu
    rw [h2] at hu'
    cases str_at hx
    exact .val h (by simp only [convert, Sem.run_bind, run_underlying (u_str hu), run_underlying (u_str hu'), Result.andThen_ok, Sem.run_pure]) SR_str he
  · rename_i k0 k1 n h1 h2
    rw [h1] at hu
    rw [h2] at hu'
    cases int_at hx
    exact .val h (by simp only [convert, Sem.run_bind, run_underlying (u_int hu), run_underlying (u_str hu'), Result.andThen_ok, Conv.intToString, Sem.run_pure]) SR_str he
  · rename_i e h1 h2
    rw [h1] at hu
    rw [h2] at hu'
    split at he
    · rename_i l h3 hl
      obtain ⟨hs, he⟩ := cond_some he
      obtain ⟨news, hsrc, hlv⟩ := items_ok (P := P) h hx hl
      have hue : P.underlying e = some (.int .u8) := u_int (by rw [← h3]; exact hte.1 e h1)
      have hsl := isSl_at h hs hx
      have hrun := run_bytes (P := P) (k := .u8) hsrc (bytes_uniq hlv) hsl
      obtain ⟨a', n', c', rfl⟩ := hsl
      exact .val h (by rw [run_convert_bytes_string w t t' e a' n' c' (u_sl hu) hue (u_str hu')]; exact hrun) SR_str he
    · cases he
  · rename_i e s h1 h2
    rw [h1] at hu
    rw [h2] at hu'
    split at he
    · rename_i h3
      obtain ⟨hpb, he⟩ := cond_none he
      have hpb := ble_ff hpb
      have hue : P.underlying e = some (.int .u8) := u_int (by rw [← h3]; exact (hte.2 h1 e h2).1)
      cases str_at hx
      exact push_bytes h (u_str hu) (u_sl hu') hue s hpb he
    · cases he
  · cases he
/-- numbers and strings -/
theorem eConvS_ok {E : Hp} {t t' : TypeId} {td td' te : TD} (ht : TdOk P t td) (ht' : TdOk P t' td') (hn : ∀ e, td.u ≠ .sl e) (hn' : ∀ e, td'.u ≠ .sl e) {D : Kt R} {x : Val} {x' : Value} (hx : SR H L x x')
    (he : eConvert pb td td' te σ D x = some r) : Val1 P H L E (convert t t' x') (fun v => D v σ) r := by
  unfold eConvert at he
  have hu := ht.u
  have hu' := ht'.u
  split at he
  · rename_i k0 k k1 n h1 h2
    rw [h1] at hu
    rw [h2] at hu'
    cases int_at hx
    exact ⟨_, _, fun w _ => by simp only [convert, Sem.run_bind, run_underlying (u_int hu), run_underlying (u_int hu'), Result.andThen_ok, Conv.intToInt, Sem.run_pure], SR_int, he⟩
  · rename_i s h1 h2
    rw [h1] at hu
    rw [h2] at hu'
    cases str_at hx
    exact ⟨_, _, fun w _ => by simp only [convert, Sem.run_bind, run_underlying (u_str hu), run_underlying (u_str hu'), Result.andThen_ok, Sem.run_pure], SR_str, he⟩
  · rename_i k0 k1 n h1 h2
    rw [h1] at hu
    rw [h2] at hu'
    cases int_at hx
    exact ⟨_, _, fun w _ => by simp only [convert, Sem.run_bind, run_underlying (u_int hu), run_underlying (u_str hu'), Result.andThen_ok, Conv.intToString, Sem.run_pure], SR_str, he⟩
  · rename_i e h1 h2
    exact absurd h1 (hn e)
  · rename_i e s h1 h2
    exact absurd h2 (hn' e)
  · cases he

end
end Go.Proofs.YtofendipdfepoaaDoor.Gp

/- Operations, thirteenth part: maps. -/
set_option linter.unusedVariables false
noncomputable section
namespace Go.Proofs.YtofendipdfepoaaDoor.Gp
open Go

section
variable {R : Type} {P : Program} {σ : State} {H : Hp} {L : Ls} {a : Act} {w : World} {pb : Nat} {r : R}

theorem streq_eq {a b : ByteArray} (h : streq a b = true) : a = b := by
  have h1 : a.toList = b.toList := by simpa [streq] using h
  rw [ByteArray.toList_eq, ByteArray.toList_eq] at h1
  have h2 : a.data = b.data := Array.toList_inj.1 h1
  cases a; cases b; simp only at h2; rw [h2]
theorem streq_refl (a : ByteArray) : streq a a = true := by simp [streq]
theorem eqB_eq : ∀ {k : K} {x y : k.den}, k.cmp = true → eqB k x y = true → x = y := by
  intro k
  induction k with
  | int k => intro x y _ h; exact eqI_eq h
  | bool => intro x y _ h; exact eqO_eq h
  | str => intro x y _ h; exact streq_eq h
  | unit => intro x y _ _; rfl
  | pair a b iha ihb =>
    intro x y hc h
    simp only [K.cmp, Bool.and_eq_true] at hc
    have h : (eqB a x.1 y.1 && eqB b x.2 y.2) = true := h
    simp only [Bool.and_eq_true] at h
    exact Prod.ext (iha hc.1 h.1) (ihb hc.2 h.2)
  | st k ih => intro x y hc h; exact ih (x := x) (y := y) hc h
  | arr n k ih =>
    intro x y hc h
    have key : ∀ (l m : List k.den), eqL (eqB k) l m = true → l = m := by
      intro l
      induction l with
      | nil => intro m h; cases m with | nil => rfl | cons => cases h
      | cons u l ihl =>
        intro m h
        cases m with
        | nil => cases h
        | cons v m =>
          simp only [eqL, Bool.and_eq_true] at h
          rw [ih hc h.1, ihl m h.2]
    exact key x y h
  | _ => intro x y hc; simp [K.cmp] at hc
theorem eqI_refl (a : Int) : eqI a a = true := by simp [eqI]
theorem eqO_refl (a : Bool) : eqO a a = true := by simp [eqO]
theorem eqB_refl : ∀ {k : K} {x : k.den}, k.cmp = true → eqB k x x = true := by
  intro k
  induction k with
  | int k => intro x _; exact eqI_refl x
  | bool => intro x _; exact eqO_refl x
  | str => intro x _; exact streq_refl x
  | unit => intro x _; rfl
  | pair a b iha ihb =>
    intro x hc
    simp only [K.cmp, Bool.and_eq_true] at hc
    show (eqB a x.1 x.1 && eqB b x.2 x.2) = true
    rw [iha hc.1, ihb hc.2]; rfl
  | st k ih => intro x hc; exact ih (x := x) hc
  | arr n k ih =>
    intro x hc
    have key : ∀ (l : List k.den), eqL (eqB k) l l = true := by
      intro l
      induction l with
      | nil => rfl
      | cons u l ihl => simp only [eqL, ih hc, ihl, Bool.and_self]
    exact key x
  | _ => intro x hc; simp [K.cmp] at hc
theorem Lv_det : ∀ {k : K} {d : k.den} {us vs : List Value}, k.cmp = true → Lv H L k d us → Lv H L k d vs → us = vs := by
  intro k
  induction k with
  | int k => intro d us vs _ h1 h2; exact (show us = _ from h1).trans (show vs = _ from h2).symm
  | bool => intro d us vs _ h1 h2; exact (show us = _ from h1).trans (show vs = _ from h2).symm
  | str => intro d us vs _ h1 h2; exact (show us = _ from h1).trans (show vs = _ from h2).symm
  | unit => intro d us vs _ h1 h2; exact (show us = _ from h1).trans (show vs = _ from h2).symm
  | pair a b iha ihb =>
    rintro d us vs hc ⟨x1, y1, rfl, a1, b1⟩ ⟨x2, y2, rfl, a2, b2⟩
    simp only [K.cmp, Bool.and_eq_true] at hc
    rw [iha hc.1 a1 a2, ihb hc.2 b1 b2]
  | st k ih => intro d us vs hc h1 h2; exact ih (d := d) hc h1 h2
  | arr n k ih =>
    rintro d us vs hc ⟨_, _, h1⟩ ⟨_, _, h2⟩
    have key : ∀ (l : List k.den) (us vs : List Value), LvL (Lv H L k) l us → LvL (Lv H L k) l vs → us = vs := by
      intro l
      induction l with
      | nil => intro us vs h1 h2; rw [show us = [] from h1, show vs = [] from h2]
      | cons x l ihl =>
        rintro us vs ⟨a1, b1, rfl, c1, d1⟩ ⟨a2, b2, rfl, c2, d2⟩
        rw [ih hc c1 c2, ihl _ _ d1 d2]
    exact key d us vs h1 h2
  | _ => intro d us vs hc; simp [K.cmp] at hc
theorem VR_det {k : K} {d : k.den} {x y : Value} (hc : k.cmp = true) (h1 : VR H L k d x) (h2 : VR H L k d y) : x = y := by
  obtain ⟨us, a1, rfl⟩ := h1
  obtain ⟨vs, a2, rfl⟩ := h2
  rw [Lv_det hc a1 a2]

theorem sb_int (n : Nat) (k : IntKind) (a : Int) : Instr.sameBits n (.int k a) (.int k a) = true := by cases n <;> simp [Instr.sameBits]
theorem sb_bool (n : Nat) (a : Bool) : Instr.sameBits n (.bool a) (.bool a) = true := by cases n <;> simp [Instr.sameBits]
theorem sb_str (n : Nat) (a : ByteArray) : Instr.sameBits n (.string a) (.string a) = true := by cases n <;> simp [Instr.sameBits, beq_toListBytes]
theorem sameBits_cell {n : Nat} : ∀ {k : K} {d : k.den} {us : List Value}, k.cmp = true → Lv H L k d us → ∀ v ∈ us, Instr.sameBits n v v = true := by
  have one : ∀ {v x : Value} {us : List Value}, us = [x] → Instr.sameBits n x x = true → v ∈ us → Instr.sameBits n v v = true := by
    intro v x us h1 h2 hv
    rw [h1, List.mem_singleton] at hv
    rw [hv]; exact h2
  intro k
  induction k with
  | int k => intro d us _ h v hv; exact one (show us = _ from h) (sb_int n k d) hv
  | bool => intro d us _ h v hv; exact one (show us = _ from h) (sb_bool n d) hv
  | str => intro d us _ h v hv; exact one (show us = _ from h) (sb_str n d) hv
  | unit => intro d us _ h v hv; rw [show us = [] from h] at hv; cases hv
  | pair a b iha ihb =>
    rintro d us hc ⟨x1, y1, rfl, a1, b1⟩ v hv
    simp only [K.cmp, Bool.and_eq_true] at hc
    rcases List.mem_append.1 hv with hv | hv
    · exact iha hc.1 a1 v hv
    · exact ihb hc.2 b1 v hv
  | st k ih => intro d us hc h; exact ih (d := d) hc h
  | arr n k ih => rintro d us hc ⟨_, _, h1⟩; exact LvL_mem (fun x vs h => ih hc h) h1
  | _ => intro d us hc; simp [K.cmp] at hc
theorem sameBits_ok {k : K} {d : k.den} {x : Value} (hc : k.cmp = true) (ho : k.one = true) (h : VR H L k d x) : Instr.sameBits 10000 x x = true := by
  obtain ⟨us, h1, rfl⟩ := h
  cases ha : k.agg with
  | true =>
    simp only [K.mk, ha, if_true]
    have := sameBits_cell (n := 9999) hc h1
    show (us.toArray.size == us.toArray.size && (us.toArray.toList.zip us.toArray.toList).all fun (x, y) => Instr.sameBits 9999 x y) = true
    simp only [beq_self_eq_true, Bool.true_and]
    rw [List.all_eq_true]
    rintro ⟨u, v⟩ huv
    have : u = v := by
      clear this h1
      induction us with
      | nil => simp at huv
      | cons x us ih =>
        rw [List.zip_cons_cons, List.mem_cons] at huv
        rcases huv with huv | huv
        · cases huv; rfl
        · exact ih huv
    subst this
    exact (sameBits_cell (n := 9999) hc h1) u (List.of_mem_zip huv).1
  | false =>
    obtain ⟨y, rfl⟩ := List.length_eq_one_iff.1 (Lv_w1 h1 ha ho)
    simp only [K.mk, ha]
    exact sameBits_cell hc h1 y (by simp)

theorem run_checkFields {em : Bool} {n m : Nat} (ih : ∀ {t : TypeId} {k : K} {d : k.den} {us : List Value}, cmpOk P n t k = true → Lv H L k d us → (Instr.checkKey em m t (k.mk us)).run P w = .ok () w) {us : List Value} :
    ∀ (fs : List Field) (k : K) (d : k.den) (off : Nat), cmpOk.goF fs k (cmpOk P n) P.cellsOf off = true → off + k.w = us.length → Lv H L k d (us.drop off) →
      (forIn fs PUnit.unit (fun (f : Field) (_ : PUnit) => (do
        if f.name ≠ "_" then
          let x ← part f.type us.toArray f.offset
          Instr.checkKey em m f.type x
          pure (ForInStep.yield PUnit.unit)
        else pure (ForInStep.yield PUnit.unit) : Sem (ForInStep PUnit)))).run P w = .ok PUnit.unit w
  | [], k, d, off, h, hu, h1 => by simp
  | [f], k, d, off, h, hu, h1 => by
    simp only [cmpOk.goF, Bool.and_eq_true, bne_iff_ne] at h
    obtain ⟨⟨⟨⟨g1, g2⟩, g3⟩, g4⟩, g5⟩ := h
    have g4 := Nat.eq_of_beq_eq_true g4
    have g5 := Nat.eq_of_beq_eq_true g5
    have e1 : (us.drop off).take k.w = us.drop off := List.take_of_length_le (by simp; omega)
    have p1 := run_part2 (w := w) g2 g5 (us := us) (off := off) (d := d) (by rw [e1]; exact h1) (by omega)
    rw [e1] at p1
    simp only [List.forIn_cons, ne_eq, g3, not_false_iff, if_true, Sem.run_bind, g4, p1, Result.andThen_ok, ih g2 h1, Sem.run_pure, List.forIn_nil]
  | f :: g :: r, k, d, off, h, hu, h1 => by
    cases k <;> first | (cases h; done) | skip
    rename_i ka kb
    obtain ⟨x1, y1, ex1, a1, b1⟩ := h1
    simp only [cmpOk.goF, Bool.and_eq_true, bne_iff_ne] at h
    obtain ⟨⟨⟨⟨g2, g3⟩, g4⟩, g5⟩, g6⟩ := h
    have g4 := Nat.eq_of_beq_eq_true g4
    have g5 := Nat.eq_of_beq_eq_true g5
    have lx1 := Lv_len a1
    have hw : (K.pair ka kb).w = ka.w + kb.w := rfl
    have e1 : (us.drop off).take ka.w = x1 := by rw [ex1, ← lx1, List.take_left]
    have d1 : us.drop (off + ka.w) = y1 := by rw [← List.drop_drop, ex1, ← lx1, List.drop_left]
    have p1 := run_part2 (w := w) g2 g5 (us := us) (off := off) (d := d.1) (by rw [e1]; exact a1) (by omega)
    rw [e1] at p1
    have rest := run_checkFields ih (us := us) (g :: r) kb d.2 (off + ka.w) g6 (by omega) (by rw [d1]; exact b1)
    rw [List.forIn_cons]
    simp only [ne_eq, g3, not_false_iff, if_true, Sem.run_bind, g4, p1, Result.andThen_ok, ih g2 a1, Sem.run_pure]
    exact rest
theorem run_checkKey {em : Bool} : ∀ (n : Nat) {t : TypeId} {k : K} {d : k.den} {us : List Value} (m : Nat), cmpOk P n t k = true → n ≤ m → Lv H L k d us → (Instr.checkKey em m t (k.mk us)).run P w = .ok () w
  | 0, _, _, _, _, _, h, _, _ => by cases h
  | n + 1, t, k, d, us, 0, h, hm, _ => by omega
  | n + 1, t, k, d, us, m + 1, h, hm, h1 => by
    have ih : ∀ {t : TypeId} {k : K} {d : k.den} {us : List Value}, cmpOk P n t k = true → Lv H L k d us → (Instr.checkKey em m t (k.mk us)).run P w = .ok () w :=
      fun h h1 => run_checkKey n m h (by omega) h1
    unfold cmpOk at h
    split at h
    · rename_i j k' hu
      cases (show us = _ from h1)
      simp [Instr.checkKey, run_underlying hu, K.mk, K.agg]
    · rename_i hu
      cases (show us = _ from h1)
      simp [Instr.checkKey, run_underlying hu, K.mk, K.agg]
    · rename_i hu
      cases (show us = _ from h1)
      simp [Instr.checkKey, run_underlying hu, K.mk, K.agg]
    · rename_i fs k hu
      simp only [Bool.and_eq_true, Bool.not_eq_true'] at h
      obtain ⟨hst, hg⟩ := h
      have h1 : Lv H L k d us := h1
      have := run_checkFields (em := em) ih (us := us) fs.toList k d 0 hg (by rw [Nat.zero_add]; exact (Lv_len h1).symm) h1
      simp only [K.mk, K.agg, if_true, Instr.checkKey, Sem.run_bind, run_underlying hu, Result.andThen_ok]
      rw [← Array.forIn_toList, this]
      rfl
    · rename_i len el n' k hu
      simp only [Bool.and_eq_true] at h
      obtain ⟨⟨hn, hc⟩, hz⟩ := h
      have hn := Nat.eq_of_beq_eq_true hn
      have hz := Nat.eq_of_beq_eq_true hz
      obtain ⟨hp, l1, v1⟩ := h1
      obtain ⟨d', hd'⟩ : ∃ d' : List k.den, d' = d := ⟨d, rfl⟩
      subst hd'
      obtain ⟨i, hi, _⟩ := cmp_info (w := w) hc
      have hsz : i.size = k.w := by rw [← hz]; simp [Program.cellsOf, hi]
      have key : ∀ (m' s : Nat), s + m' = len → (forIn (List.range' s m') PUnit.unit (fun (i : Nat) (_ : PUnit) => (do
            let z ← sizeOf el
            let x ← part el us.toArray (i * z)
            Instr.checkKey em m el x
            pure (ForInStep.yield PUnit.unit) : Sem (ForInStep PUnit)))).run P w = .ok PUnit.unit w := by
        intro m'
        induction m' with
        | zero => intro s hs; simp
        | succ m' ihm =>
          intro s hs
          have s1 : s < d'.length := by omega
          have ⟨a1, a2⟩ := LvL_get (w := k.w) (fun x vs h => Lv_len h) v1 (List.getElem?_eq_getElem s1)
          have p1 := run_part2 (w := w) hc hz a1 a2
          simp only [List.range'_succ, List.forIn_cons, Sem.run_bind, sizeOf, run_typeInfo hi, hsz, p1, Result.andThen_ok, ih hc a1, Sem.run_pure]
          have := ihm (s + 1) (by omega)
          simp only [sizeOf] at this
          exact this
      simp only [K.mk, K.agg, if_true, Instr.checkKey, Sem.run_bind, run_underlying hu, Result.andThen_ok]
      rw [Std.Legacy.Range.forIn_eq_forIn_range']
      have := key len 0 (by omega)
      simp only [Std.Legacy.Range.size, Nat.sub_zero, Nat.add_sub_cancel, Nat.div_one]
      rw [this]
      rfl
    · cases h

/-- where the key is found -/
def fres {kk kv : K} (k : kk.den) : List (kk.den × kv.den) → List MapEntry → Nat → Option (Nat × Value)
  | x :: l, e :: es, i => if eqB kk k x.1 then some (i, e.val) else fres k l es (i + 1)
  | _, _, _ => none
theorem same_int (j k : IntKind) (a b : Int) : Instr.sameNow (.int j) (.int k a) (.int k b) = some (eqI a b) := by simp [Instr.sameNow, eqI]
theorem same_str (a b : ByteArray) : Instr.sameNow .string (.string a) (.string b) = some (streq a b) := by simp only [Instr.sameNow, streq, beq_toListBytes]
theorem run_findKey {n : Nat} {t : TypeId} {kk kv : K} {k : kk.den} {x : Value} (hc : cmpOk P n t kk = true) (hn : n ≤ 10000) (hx : VR H L kk k x) : ∀ {l : List (kk.den × kv.den)} {es : List MapEntry}, es.length = l.length →
    (∀ (i : Nat) (e : MapEntry) (y : kk.den × kv.den), es[i]? = some e → l[i]? = some y → VR H L kk y.1 e.key) → (Instr.findKey t x es).run P w = .ok (fres k l es 0) w := by
  obtain ⟨ux, hx1, rfl⟩ := hx
  have ask : ∀ (l : List (kk.den × kv.den)) (es : List MapEntry) (i : Nat), es.length = l.length → (∀ (i : Nat) (e : MapEntry) (y : kk.den × kv.den), es[i]? = some e → l[i]? = some y → VR H L kk y.1 e.key) →
      (Instr.findAsking t (kk.mk ux) es i).run P w = .ok (fres k l es i) w := by
    intro l
    induction l with
    | nil => intro es i hl _; rw [List.length_eq_zero_iff.1 hl]; rfl
    | cons y l ih =>
      intro es i hl hk
      cases es with
      | nil => cases hl
      | cons e es =>
        obtain ⟨uy, hy1, hy2⟩ := hk 0 e y rfl rfl
        have heq : (Op.equal t (kk.mk ux) e.key).run P w = .ok (eqB kk k y.1) w := by rw [hy2]; exact run_equal n 10000 hc hn hx1 hy1
        simp only [Instr.findAsking, Sem.run_bind, heq, Result.andThen_ok, Sem.run_ite, Sem.run_pure, fres]
        rw [ih es (i + 1) (by simpa using hl) (fun j e' y' h1 h2 => hk (j + 1) e' y' (by simpa using h1) (by simpa using h2))]
        split <;> rfl
  intro l es hl hk
  have hask := ask l es 0 hl hk
  have hd : ∃ d, P.underlying t = some d ∧ (Instr.findNow d (kk.mk ux) es 0 = none ∨ Instr.findNow d (kk.mk ux) es 0 = some (fres k l es 0)) := by
    have atom : ∀ (d : TypeDesc), (∀ (y : kk.den × kv.den) (e : MapEntry), VR H L kk y.1 e.key → Instr.sameNow d (kk.mk ux) e.key = some (eqB kk k y.1)) → ∀ (l : List (kk.den × kv.den)) (es : List MapEntry) (i : Nat), es.length = l.length → (∀ (i : Nat) (e : MapEntry) (y : kk.den × kv.den), es[i]? = some e → l[i]? = some y → VR H L kk y.1 e.key) →
        Instr.findNow d (kk.mk ux) es i = some (fres k l es i) := by
      intro d hsame l
      induction l with
      | nil => intro es i hl _; rw [List.length_eq_zero_iff.1 hl]; rfl
      | cons y l ih =>
        intro es i hl hk
        cases es with
        | nil => cases hl
        | cons e es =>
          simp only [Instr.findNow, hsame y e (hk 0 e y rfl rfl), fres]
          have := ih es (i + 1) (by simpa using hl) (fun j e' y' h1 h2 => hk (j + 1) e' y' (by simpa using h1) (by simpa using h2))
          cases eqB kk k y.1 with
          | true => simp
          | false => simpa using this
    cases n with
    | zero => cases hc
    | succ n =>
      unfold cmpOk at hc
      split at hc
      · rename_i j k' hu
        refine ⟨_, hu, .inr (atom _ (fun y e hv => ?_) l es 0 hl hk)⟩
        obtain ⟨uy, hy1, hy2⟩ := hv
        cases (show ux = _ from hx1)
        cases (show uy = _ from hy1)
        rw [hy2]
        exact same_int j k' k y.1
      · rename_i hu
        refine ⟨_, hu, .inr (atom _ (fun y e hv => ?_) l es 0 hl hk)⟩
        obtain ⟨uy, hy1, hy2⟩ := hv
        cases (show ux = _ from hx1)
        cases (show uy = _ from hy1)
        rw [hy2]
        rfl
      · rename_i hu
        refine ⟨_, hu, .inr (atom _ (fun y e hv => ?_) l es 0 hl hk)⟩
        obtain ⟨uy, hy1, hy2⟩ := hv
        cases (show ux = _ from hx1)
        cases (show uy = _ from hy1)
        rw [hy2]
        exact same_str k y.1
      · rename_i fs k hu
        refine ⟨_, hu, ?_⟩
        cases es with
        | nil =>
          cases l with
          | nil => exact .inr rfl
          | cons => cases hl
        | cons e es => exact .inl (by simp [Instr.findNow, Instr.sameNow])
      · rename_i len el n' k hu
        refine ⟨_, hu, ?_⟩
        cases es with
        | nil =>
          cases l with
          | nil => exact .inr rfl
          | cons => cases hl
        | cons e es => exact .inl (by simp [Instr.findNow, Instr.sameNow])
      · cases hc
  obtain ⟨d, hu, hd⟩ := hd
  simp only [Instr.findKey, Sem.run_bind, run_underlying hu, Result.andThen_ok]
  rcases hd with hd | hd
  · simp only [hd]; exact hask
  · simp only [hd, Sem.run_pure]
end
end Go.Proofs.YtofendipdfepoaaDoor.Gp

/- Operations, fourteenth part: maps read and written. -/
set_option linter.unusedVariables false
noncomputable section
namespace Go.Proofs.YtofendipdfepoaaDoor.Gp
open Go

section
variable {R : Type} {P : Program} {σ : State} {H E : Hp} {L : Ls} {a : Act} {w : World} {pb : Nat} {r : R}

theorem fres_some {kk kv : K} {k : kk.den} : ∀ {l : List (kk.den × kv.den)} {es : List MapEntry} {i j : Nat} {v : Value}, es.length = l.length → fres k l es i = some (j, v) →
    j = i + mpos kk kv l k ∧ mpos kk kv l k < l.length ∧ ∃ e x, es[mpos kk kv l k]? = some e ∧ l[mpos kk kv l k]? = some x ∧ v = e.val ∧ eqB kk k x.1 = true ∧ mget kk kv l k = some x.2
  | [], es, i, j, v, hl, h => by cases es <;> cases h
  | y :: l, [], i, j, v, hl, h => by cases hl
  | y :: l, e :: es, i, j, v, hl, h => by
    simp only [fres] at h
    by_cases hb : eqB kk k y.1 = true
    · rw [if_pos hb] at h
      cases h
      have h0 : mpos kk kv (y :: l) k = 0 := by simp [mpos, List.findIdx_cons, hb]
      rw [h0]
      exact ⟨rfl, by simp, e, y, rfl, rfl, rfl, hb, by simp [mget, hb]⟩
    · rw [if_neg hb] at h
      obtain ⟨h1, h2, e', x, h3, h4, h5, h6, h7⟩ := fres_some (by simpa using hl) h
      have h0 : mpos kk kv (y :: l) k = mpos kk kv l k + 1 := by simp [mpos, List.findIdx_cons, hb]
      rw [h0]
      refine ⟨by omega, by simp; omega, e', x, by simpa using h3, by simpa using h4, h5, h6, ?_⟩
      simp only [mget, List.find?_cons, hb] at h7 ⊢
      exact h7
theorem fres_none {kk kv : K} {k : kk.den} : ∀ {l : List (kk.den × kv.den)} {es : List MapEntry} {i : Nat}, es.length = l.length → fres k l es i = none → mpos kk kv l k = l.length ∧ mget kk kv l k = none ∧ ∀ x ∈ l, eqB kk k x.1 = false
  | [], es, i, hl, h => ⟨rfl, rfl, fun x hx => by cases hx⟩
  | y :: l, [], i, hl, h => by cases hl
  | y :: l, e :: es, i, hl, h => by
    simp only [fres] at h
    by_cases hb : eqB kk k y.1 = true
    · rw [if_pos hb] at h; cases h
    · rw [if_neg hb] at h
      obtain ⟨h1, h2, h3⟩ := fres_none (by simpa using hl) h
      have h0 : mpos kk kv (y :: l) k = mpos kk kv l k + 1 := by simp [mpos, List.findIdx_cons, hb]
      refine ⟨by rw [h0, h1]; rfl, ?_, fun x hx => ?_⟩
      · simp only [mget, List.find?_cons, hb] at h2 ⊢
        exact h2
      · rcases List.mem_cons.1 hx with rfl | hx
        · simpa using hb
        · exact h3 x hx

theorem hp_map {i : Nat} {A B : K} {l : List (A.den × B.den)} (h : St σ H L a w) (hi : σ.heap i = ⟨.map A B, l⟩) : A.cmp = true ∧ B.pur = true ∧ ∃ es clock, w.heap[(L i).blk]? = some (.map es clock) ∧ ER H L A B l es.toList clock (L i).born := by
  have := h.hp.obj i
  rw [hi] at this
  exact this
theorem mm_at {i : Nat} {d : Unit} {x : Value} (hv : SR H L ⟨.mm i, d⟩ x) : x = .map (some (L i).blk) ∧ (L i).live = true := by
  have := SR_one hv rfl rfl
  simp only [Lv, List.cons.injEq, and_true] at this
  exact this
theorem run_getObj {b : Nat} {o : Go.Obj} (h : w.heap[b]? = some o) (ho : ∀ c e z, o ≠ .cells c e z) : (getObj b).run P w = .ok o w := by
  cases o <;> first | exact absurd rfl (ho _ _ _) | simp only [getObj, Sem.run, h]
theorem run_setObj {b : Nat} {o q : Go.Obj} (h : w.heap[b]? = some o) (ho : ∀ c e z, o ≠ .cells c e z) : (setObj b q).run P w = .ok () (World.setB w b q) := by
  cases o <;> first | exact absurd rfl (ho _ _ _) | (simp only [setObj, Sem.run, h]; rfl)

/-- a map's type -/
structure MapT (P : Program) (t : TypeId) (tk te : TD) (kt et : TypeId) : Prop where
  u : P.underlying t = some (.map kt et)
  k : TdOk P kt tk
  e : TdOk P et te
theorem mapT_ok {T : Types} (hT : TOk P T) {t : TypeId} {td : TD} (ht : TdOk P t td) {q : TD × TD} (h : mapT T td = some q) : ∃ kt et, MapT P t q.1 q.2 kt et := by
  unfold mapT at h
  split at h
  · rename_i x y hxy
    split at h
    · rename_i ta tb ha hb
      cases h
      exact ⟨x, y, u_map (by rw [← hxy]; exact ht.u), hT _ _ ha, hT _ _ hb⟩
    · cases h
  · cases h

theorem keyOk_ok {P : Program} {kt : TypeId} {tk : TD} (hk : TdOk P kt tk) {kk : K} (h : keyOk tk kk = true) : cmpOk P 40 kt kk = true ∧ kk.cmp = true ∧ kk.one = true := by
  simp only [keyOk, Bool.and_eq_true, beq_iff_eq] at h
  obtain ⟨⟨⟨h1, h2⟩, h3⟩, h4⟩ := h
  exact ⟨h2 ▸ (hk.plain h1).1, h3, h4⟩
theorem coe_key {kk : K} {x : Val} {x' : Value} {k : kk.den} (hx : SR H L x x') (ho : kk.one = true) (h : coe id [] kk x.1 x.2 = some k) : VR H L kk k x' := by
  have := coe_sr (Maps.id L) h hx
  exact (SR_iff (one_tup ho).1 (one_tup ho).2).1 this

/-- the key looked for, in a map of one's own -/
theorem run_find {kt : TypeId} {tk : TD} (hk : TdOk P kt tk) {A B : K} (hko : keyOk tk A = true) {k : A.den} {x : Value} (hx : VR H L A k x) {l : List (A.den × B.den)} {es : Array MapEntry} {clock : Nat} {born : List Nat} (her : ER H L A B l es.toList clock born) (em : Bool) :
    (Instr.checkKey em 10000 kt x).run P w = .ok () w ∧ (Instr.findKey kt x es.toList).run P w = .ok (fres k l es.toList 0) w := by
  obtain ⟨hc, hcmp, hone⟩ := keyOk_ok hk hko
  refine ⟨?_, run_findKey hc (by omega) hx her.len fun i e y h1 h2 => (her.key i e y h1 h2).1⟩
  obtain ⟨us, h1, rfl⟩ := hx
  exact run_checkKey 40 10000 hc (by omega) h1

theorem eLookup_ok {t kt et : TypeId} {tk te : TD} (hm : MapT P t tk te kt et) (h : St σ H L a w) {ok sp : Bool} {C : Val → Option R} {x m : Val} {x' m' : Value} (hx : SR H L x x') (hmm : SR H L m m') (hE : ∀ b o, w.heap[b]? = some o → E b = some o) (he : eLookup tk te σ ok sp C x m = some r) :
    Val1 P H L E (Instr.lookup t m' x' ok) C r := by
  obtain ⟨km, dm⟩ := m
  cases km <;> first | (cases he; done) | skip
  · rename_i i
    simp only [eLookup] at he
    split at he
    · rename_i A B l hi
      split at he
      · rename_i k z hk hz
        obtain ⟨hc, he⟩ := cond_some he
        simp only [Bool.and_eq_true] at hc
        obtain ⟨hko, hvo⟩ := hc
        simp only [valOk, Bool.and_eq_true] at hvo
        obtain ⟨⟨hty, hpur⟩, hone⟩ := hvo
        obtain ⟨hcm, hpu, es, clock, hb, her⟩ := hp_map h hi
        obtain ⟨rfl, hlv⟩ := mm_at hmm
        have hkx := coe_key hx (keyOk_ok hm.k hko).2.2 hk
        have hfind := fun w => run_find (w := w) hm.k hko hkx her es.isEmpty
        obtain ⟨iz, zv, hiz, hsz, hby, _, hzz, hzl, hzm⟩ := hm.e.info
        have hzero : VR H L B z zv := by
          have : VR H L te.zero.1 te.zero.2 zv := ⟨_, hzl H L, hzm⟩
          exact coe_vr (Maps.id L) hz this
        have hget : ∀ w, Stays E w → (getObj (L i).blk).run P w = .ok (.map es clock) w := fun w hw => run_getObj (hw _ _ (hE _ _ hb)) (fun _ _ _ h => by cases h)
        have fin : ∀ (v : B.den) (v' : Value) (b : Bool), VR H L B v v' → cond ok (C ⟨.tup (.pair B (.pair .bool .unit)), (v, b, ())⟩) (C ⟨B, v⟩) = some r →
            ∃ q u, (∀ w, ((Pure.pure (if ok then Value.tuple #[v', .bool b] else v') : Sem Value)).run P w = .ok q w) ∧ SR H L u q ∧ C u = some r := by
          intro v v' b hv hc
          cases ok with
          | true =>
            refine ⟨_, _, fun _ => rfl, ?_, hc⟩
            exact ⟨[v', .bool b], rfl, v', [.bool b], rfl, hv, .bool b, [], rfl, ⟨[.bool b], rfl, rfl⟩, rfl⟩
          | false => exact ⟨_, _, fun _ => rfl, (SR_iff (one_tup hone).1 (one_tup hone).2).2 hv, hc⟩
        cases hf : fres k l es.toList 0 with
        | some q =>
          obtain ⟨j, v⟩ := q
          have h1 := fun w => (hfind w).1
          have h2 := fun w => (hfind w).2
          simp only [hf] at h2
          obtain ⟨_, _, e, y, g1, g2, rfl, g4, g5⟩ := fres_some her.len hf
          rw [g5] at he
          have he2 : cond ok (C ⟨.tup (.pair B (.pair .bool .unit)), (y.2, true, ())⟩) (C ⟨B, y.2⟩) = some r := by
            cases ok with
            | true => exact he
            | false =>
              cases sp with
              | false => exact he
              | true => exact (cond_some (show cond _ _ none = _ from he)).2
          obtain ⟨q, u, f1, f2, f3⟩ := fin y.2 e.val true (her.key _ _ _ g1 g2).2 he2
          refine ⟨q, u, fun w hw => ?_, f2, f3⟩
          simp only [Instr.lookup, Sem.run_bind, run_underlying hm.u, Result.andThen_ok, hget w hw, Sem.run_pure, h1, h2]
          exact f1 w
        | none =>
          have h1 := fun w => (hfind w).1
          have h2 := fun w => (hfind w).2
          simp only [hf] at h2
          obtain ⟨_, g2, _⟩ := fres_none her.len hf
          rw [g2] at he
          have he2 : (ok = false ∧ sp = true ∧ te.zero.1.one = true ∧ C te.zero = some r) ∨ cond ok (C ⟨.tup (.pair B (.pair .bool .unit)), (z, false, ())⟩) (C ⟨B, z⟩) = some r := by
            cases ok with
            | true => exact .inr he
            | false =>
              cases sp with
              | false => exact .inr he
              | true =>
                obtain ⟨q1, q2⟩ := cond_some (show cond _ _ none = _ from he)
                exact .inl ⟨rfl, rfl, q1, q2⟩
          rcases he2 with ⟨rfl, rfl, hz1, he2⟩ | he2
          · have hzv : VR H L te.zero.1 te.zero.2 zv := ⟨_, hzl H L, hzm⟩
            refine ⟨zv, te.zero, fun w hw => ?_, (SR_iff (one_tup hz1).1 (one_tup hz1).2).2 hzv, he2⟩
            simp only [Instr.lookup, Sem.run_bind, run_underlying hm.u, Result.andThen_ok, hget w hw, Sem.run_pure, h1, h2, run_zeroValue hiz hzz]
            rfl
          obtain ⟨q, u, f1, f2, f3⟩ := fin z zv false hzero he2
          refine ⟨q, u, fun w hw => ?_, f2, f3⟩
          simp only [Instr.lookup, Sem.run_bind, run_underlying hm.u, Result.andThen_ok, hget w hw, Sem.run_pure, h1, h2, run_zeroValue hiz hzz]
          exact f1 w
      · cases he
    · cases he

theorem turns_born {H : Hp} {L : Ls} {i : Nat} {c : Loc} (hb : c.blk = (L i).blk) (hh : c.hdr = (L i).hdr) (ho : c.off = (L i).off) (hl : c.live = (L i).live) {g : (k : K) → k.den → Option Val} (hg : g = (fun _ _ => none) ∨ g = gStaleStamp i)
    (hbo : g = (fun _ _ => none) → ∀ j n, nthN (L i).born j = some n → nthN c.born j = some n) : Turns H L H (upd L i c) g := by
  have key : ∀ j, (upd L i c j).blk = (L j).blk ∧ (upd L i c j).hdr = (L j).hdr ∧ (upd L i c j).off = (L j).off ∧ (upd L i c j).live = (L j).live := by
    intro j
    by_cases hj : j = i
    · subst hj; rw [upd_same]; exact ⟨hb, hh, ho, hl⟩
    · rw [upd_other hj]; exact ⟨rfl, rfl, rfl, rfl⟩
  have hv : ∀ k d v, g k d = some v → v = U ∧ k.agg = false ∧ k.isUn = false ∧ k.isTup = false ∧ (∀ vs, Lv H L k d vs → ∃ x, vs = [x] ∧ x.oneCell' = true) := by
    intro k d v h
    rcases hg with rfl | rfl
    · cases h
    · cases k <;> simp only [gStaleStamp] at h <;> first | (cases h; done) | skip
      rename_i j
      cases hb : Nat.beq j i <;> rw [hb] at h <;> cases h
      exact ⟨rfl, rfl, rfl, rfl, fun vs hl => ⟨_, hl.choose_spec.1, rfl⟩⟩
  have hun : ∀ d, g .unit d = none := by rcases hg with rfl | rfl <;> exact fun _ => rfl
  have htu : ∀ k d, g (.tup k) d = none := by rcases hg with rfl | rfl <;> exact fun _ _ => rfl
  refine ⟨fun _ _ h => h, fun k d v vs h hl => ?_, fun k d v h => ?_, hun, htu, fun j d _ hl => ⟨(key j).2.1, by rw [(key j).2.2.2]; exact hl⟩, fun j d _ hl => ⟨(key j).1, by rw [(key j).2.2.2]; exact hl⟩,
    fun j p d _ hl => ⟨(key j).1, (key j).2.2.1, by rw [(key j).2.2.2]; exact hl⟩, fun j d hn hl => ⟨fun m n h => ?_, by rw [(key j).2.2.2]; exact hl⟩⟩
  · obtain ⟨h1, _, _, _, h3⟩ := hv k d v h
    rw [h1]
    exact h3 vs hl
  · obtain ⟨h1, h2, h3, _, _⟩ := hv k d v h
    rw [h1]
    exact ⟨h2, rfl, rfl, h3⟩
  · by_cases hj : j = i
    · subst hj
      rw [upd_same]
      rcases hg with hg | hg
      · exact hbo hg m n h
      · rw [hg] at hn
        simp only [gStaleStamp, beqT] at hn
        cases hn
    · rw [upd_other hj]; exact h

/-- a map's entries written -/
theorem put_map (h : St σ H L a w) {i : Nat} {A B : K} {l : List (A.den × B.den)} (hi : σ.heap i = ⟨.map A B, l⟩) {g : (k : K) → k.den → Option Val} (hg : g = (fun _ _ => none) ∨ g = gStaleStamp i) {l' : List (A.den × B.den)} {es' : Array MapEntry} {clock' : Nat} {born' : List Nat}
    (hbo : g = (fun _ _ => none) → ∀ j n, nthN (L i).born j = some n → nthN born' j = some n) (her : ER H L A B l' es'.toList clock' born') (hin : i < σ.next) :
    St ((σ.trav g).setO i ⟨.map A B, l'⟩) H (upd L i { L i with born := born' }) a (World.setB w (L i).blk (.map es' clock')) ∧ Mv σ L H w ((σ.trav g).setO i ⟨.map A B, l'⟩) (upd L i { L i with born := born' }) H (World.setB w (L i).blk (.map es' clock')) := by
  obtain ⟨hcm, hpu, es, clock, hb, _⟩ := hp_map h hi
  have hown : owns σ.heap L i := by unfold owns; rw [hi]; trivial
  have hlt : (L i).blk < w.heap.size := (Array.getElem?_eq_some_iff.1 hb).1
  exact h.alter (g := g) (w' := World.setB w (L i).blk (.map es' clock')) i ⟨.map A B, l'⟩ { L i with born := born' } (turns_born (c := { L i with born := born' }) rfl rfl rfl rfl hg hbo)
    ⟨hcm, hpu, es', clock', by rw [setB_get hlt, if_pos rfl], her.mono (fun _ _ h => h) hcm hpu⟩ hin (fun _ => .inl ⟨rfl, hown⟩)
    (fun b hb hn => by rw [setB_get hlt, if_neg (fun e => hn ⟨hown, e⟩)]) (by simp [World.setB]) rfl rfl rfl (fun _ => ⟨rfl, rfl, rfl, id⟩)

theorem er_put {A B : K} {l : List (A.den × B.den)} {es : List MapEntry} {clock : Nat} {born : List Nat} (h : ER H L A B l es clock born) (hc : A.cmp = true) {k : A.den} {y : B.den} {x v : Value} (hx : VR H L A k x) (hv : VR H L B y v) :
    (∀ (e : MapEntry) (z : A.den × B.den), es[mpos A B l k]? = some e → l[mpos A B l k]? = some z → eqB A k z.1 = true → mpos A B l k < l.length → ER H L A B (mput A B l k y) (es.modify (mpos A B l k) fun e => { e with key := x, val := v }) clock born) ∧
    (mpos A B l k = l.length → (∀ z ∈ l, eqB A k z.1 = false) → ER H L A B (mput A B l k y) (es ++ [{ key := x, val := v, born := clock }]) (clock + 1) (born ++ [clock])) := by
  constructor
  · intro e z he hz heq hlt
    have hkz : k = z.1 := eqB_eq hc heq
    unfold mput
    rw [if_pos hlt]
    refine ⟨?_, by simp [h.len], fun i e' y' h1 h2 => ?_, fun e' he' => ?_, ?_, ?_⟩
    · rw [h.born]
      apply List.ext_getElem?
      intro i
      simp only [List.getElem?_map, List.getElem?_modify]
      cases es[i]? with
      | none => rfl
      | some e => by_cases hi : mpos A B l k = i <;> simp [hi]
    · rw [List.getElem?_modify] at h1 h2
      cases h3 : es[i]? with
      | none => rw [h3] at h1; simp at h1
      | some e0 =>
        cases h4 : l[i]? with
        | none => rw [h4] at h2; simp at h2
        | some z0 =>
          rw [h3] at h1
          rw [h4] at h2
          simp only [Option.map_eq_map, Option.map_some, Option.some.injEq] at h1 h2
          by_cases hi : mpos A B l k = i
          · rw [if_pos hi] at h1 h2
            subst h1 h2
            exact ⟨hx, hv⟩
          · rw [if_neg hi] at h1 h2
            subst h1 h2
            exact h.key i _ _ h3 h4
    · obtain ⟨i, hi⟩ := List.mem_iff_getElem?.1 he'
      rw [List.getElem?_modify] at hi
      cases h3 : es[i]? with
      | none => rw [h3] at hi; simp at hi
      | some e0 =>
        rw [h3] at hi
        simp only [Option.map_eq_map, Option.map_some, Option.some.injEq] at hi
        have := h.fresh e0 (List.mem_of_getElem? h3)
        rw [← hi]
        by_cases hj : mpos A B l k = i
        · rw [if_pos hj]; exact this
        · rw [if_neg hj]; exact this
    · have : (es.modify (mpos A B l k) fun e => { e with key := x, val := v }).map (·.born) = es.map (·.born) := by
        apply List.ext_getElem?
        intro i
        simp only [List.getElem?_map, List.getElem?_modify]
        cases es[i]? with
        | none => rfl
        | some e => by_cases hi : mpos A B l k = i <;> simp [hi]
      rw [this]
      exact h.dif
    · have hm : l.modify (mpos A B l k) (fun _ => (k, y)) = l.set (mpos A B l k) (k, y) := by
        apply List.ext_getElem?
        intro i
        rw [List.getElem?_modify, List.getElem?_set]
        by_cases hi : mpos A B l k = i
        · subst hi
          rw [hz]
          simp [hlt]
        · simp [hi]
      have hfst : (l.modify (mpos A B l k) (fun _ => (k, y))).map (·.1) = l.map (·.1) := by
        apply List.ext_getElem?
        intro i
        simp only [List.getElem?_map, List.getElem?_modify]
        by_cases hi : mpos A B l k = i
        · subst hi
          rw [hz]
          simp [hkz]
        · cases l[i]? <;> simp [hi]
      have ha := h.apart
      rw [← List.pairwise_map (f := fun z : A.den × B.den => z.1) (R := fun a b => eqB A a b = false)] at ha ⊢
      rw [hfst]
      exact ha
  · intro hp hall
    unfold mput
    rw [if_neg (by omega)]
    refine ⟨by rw [h.born]; simp, by simp [h.len], fun i e' y' h1 h2 => ?_, fun e' he' => ?_, ?_, ?_⟩
    · by_cases hi : i < l.length
      · rw [List.getElem?_append_left (by rw [h.len]; exact hi)] at h1
        rw [List.getElem?_append_left hi] at h2
        exact h.key i _ _ h1 h2
      · rw [List.getElem?_append_right (by rw [h.len]; omega), h.len] at h1
        rw [List.getElem?_append_right (by omega)] at h2
        have : i - l.length = 0 := by
          rcases Nat.eq_zero_or_pos (i - l.length) with h0 | h0
          · exact h0
          · rw [List.getElem?_eq_none (by simp; omega)] at h2; cases h2
        rw [this] at h1 h2
        cases h1
        cases h2
        exact ⟨hx, hv⟩
    · rcases List.mem_append.1 he' with he' | he'
      · have := h.fresh e' he'; omega
      · rw [List.mem_singleton.1 he']; simp
    · rw [List.map_append, List.nodup_append]
      refine ⟨h.dif, by simp, fun a ha b hb => ?_⟩
      simp only [List.map_cons, List.map_nil, List.mem_singleton] at hb
      obtain ⟨e', he', rfl⟩ := List.mem_map.1 ha
      have := h.fresh e' he'
      omega
    · rw [List.pairwise_append]
      refine ⟨h.apart, by simp, fun u hu v' hv' => ?_⟩
      rw [List.mem_singleton.1 hv']
      cases hb : eqB A u.1 k with
      | false => rfl
      | true =>
        have := eqB_eq hc hb
        have h2 := hall u hu
        rw [← this, eqB_refl hc] at h2
        cases h2

theorem find_map {A B : K} {l : List (A.den × B.den)} {es : List MapEntry} {k : A.den} (hl : es.length = l.length) :
    (∃ e z, fres k l es 0 = some (mpos A B l k, e.val) ∧ es[mpos A B l k]? = some e ∧ l[mpos A B l k]? = some z ∧ eqB A k z.1 = true ∧ mpos A B l k < l.length ∧ mget A B l k = some z.2) ∨
    (fres k l es 0 = none ∧ mpos A B l k = l.length ∧ (∀ z ∈ l, eqB A k z.1 = false) ∧ mget A B l k = none) := by
  cases hf : fres k l es 0 with
  | some q =>
    obtain ⟨j, v⟩ := q
    obtain ⟨h1, h2, e, z, h3, h4, h5, h6, h7⟩ := fres_some hl hf
    rw [Nat.zero_add] at h1
    exact .inl ⟨e, z, by rw [h1, h5], h3, h4, h6, h2, h7⟩
  | none =>
    obtain ⟨h1, h2, h3⟩ := fres_none hl hf
    exact .inr ⟨rfl, h1, h3, h2⟩

/-- m[k] = v, in the machine -/
theorem run_mapPut (h : St σ H L a w) {i : Nat} {A B : K} {l : List (A.den × B.den)} (hi : σ.heap i = ⟨.map A B, l⟩) (hone : A.one = true) {k : A.den} {y : B.den} {x v : Value} (hx : VR H L A k x) (hv : VR H L B y v) (hin : i < σ.next) :
    ∃ es clock, w.heap[(L i).blk]? = some (.map es clock) ∧ ER H L A B l es.toList clock (L i).born ∧
      ((∃ e z, fres k l es.toList 0 = some (mpos A B l k, e.val) ∧ es[mpos A B l k]? = some e ∧ l[mpos A B l k]? = some z ∧ mget A B l k = some z.2 ∧ (Instr.keyThatStays e.key x).run P w = .ok x w ∧
          ∃ L', St (σ.setO i ⟨.map A B, mput A B l k y⟩) H L' a (World.setB w (L i).blk (.map (es.modify (mpos A B l k) fun e => { e with key := x, val := v }) clock)) ∧
            Mv σ L H w (σ.setO i ⟨.map A B, mput A B l k y⟩) L' H (World.setB w (L i).blk (.map (es.modify (mpos A B l k) fun e => { e with key := x, val := v }) clock)) ∧ (L' i).born = (L i).born ∧ (L' i).live = (L i).live ∧ (∀ {v x}, SR H L v x → SR H L' v x)) ∨
       (fres k l es.toList 0 = none ∧ mget A B l k = none ∧ mpos A B l k = l.length ∧
          ∃ L', St (σ.setO i ⟨.map A B, mput A B l k y⟩) H L' a (World.setB w (L i).blk (.map (es.push { key := x, val := v, born := clock }) (clock + 1))) ∧
            Mv σ L H w (σ.setO i ⟨.map A B, mput A B l k y⟩) L' H (World.setB w (L i).blk (.map (es.push { key := x, val := v, born := clock }) (clock + 1))) ∧ (L' i).born = (L i).born ++ [clock] ∧ (L' i).live = (L i).live ∧ (∀ {v x}, SR H L v x → SR H L' v x))) := by
  obtain ⟨hcm, hpu, es, clock, hb, her⟩ := hp_map h hi
  refine ⟨es, clock, hb, her, ?_⟩
  have hput := er_put her hcm hx hv
  have hsr : ∀ {born' : List Nat}, (∀ j n, nthN (L i).born j = some n → nthN born' j = some n) → ∀ {v x}, SR H L v x → SR H (upd L i { L i with born := born' }) v x := by
    intro born' hb v x hv
    have := (turns_born (H := H) (L := L) (i := i) (c := { L i with born := born' }) rfl rfl rfl rfl (g := fun _ _ => none) (.inl rfl) (fun _ => hb)).sr hv
    rwa [travV, trav_id] at this
  rcases find_map (k := k) her.len with ⟨e, z, g1, g2, g3, g4, g5, g6⟩ | ⟨g1, g2, g3, g4⟩
  · left
    have hm := put_map h hi (g := fun _ _ => none) (.inl rfl) (l' := mput A B l k y) (es' := es.modify (mpos A B l k) fun e => { e with key := x, val := v }) (clock' := clock) (born' := (L i).born) (fun _ _ _ h => h) (by
      rw [Array.toList_modify]
      exact hput.1 e z g2 g3 g4 g5) hin
    rw [State.trav_none] at hm
    refine ⟨e, z, g1, by simpa using g2, g3, g6, ?_, _, hm.1, hm.2, by rw [upd_same], by rw [upd_same], fun hv => hsr (fun _ _ h => h) hv⟩
    have hkz : k = z.1 := eqB_eq hcm g4
    have hk2 := (her.key _ _ _ g2 g3).1
    have : e.key = x := VR_det hcm hk2 (by rw [← hkz]; exact hx)
    rw [this]
    simp only [Instr.keyThatStays]
    rw [if_pos (sameBits_ok hcm hone hx)]
    rfl
  · right
    have hm := put_map h hi (g := fun _ _ => none) (.inl rfl) (l' := mput A B l k y) (es' := es.push { key := x, val := v, born := clock }) (clock' := clock + 1) (born' := (L i).born ++ [clock]) (fun _ j n h => by
      have h2 : (L i).born[j]? = some n := h
      have hj := (List.getElem?_eq_some_iff.1 h2).1
      show ((L i).born ++ [clock])[j]? = some n
      rw [List.getElem?_append_left hj]
      exact h2) (by
      rw [Array.toList_push]
      exact hput.2 g2 g3) hin
    rw [State.trav_none] at hm
    refine ⟨g1, g4, g2, _, hm.1, hm.2, by rw [upd_same], by rw [upd_same], fun hv => hsr (fun j n h => ?_) hv⟩
    have h2 : (L i).born[j]? = some n := h
    have hj := (List.getElem?_eq_some_iff.1 h2).1
    show ((L i).born ++ [clock])[j]? = some n
    rw [List.getElem?_append_left hj]
    exact h2

theorem coe_val {B : K} {v : Val} {x : Value} {y : B.den} (ho : B.one = true) (h : coe id [] B v.1 v.2 = some y) (hv : SR H L v x) : VR H L B y x :=
  (SR_iff (one_tup ho).1 (one_tup ho).2).1 (coe_sr (Maps.id L) h hv)

theorem eMapUpdate0_ok {t kt et : TypeId} {tk te : TD} (hm : MapT P t tk te kt et) (h : St σ H L a w) {C : State → Option R} {x v m : Val} {x' v' m' : Value} (hx : SR H L x x') (hv : SR H L v v') (hmm : SR H L m m') (he : eMapUpdate0 tk te σ C x v m = some r) :
    ∃ σ' L' w', (Instr.mapUpdate t m' x' v').run P w = .ok () w' ∧ St σ' H L' a w' ∧ Mv σ L H w σ' L' H w' ∧ σ'.n = σ.n ∧ C σ' = some r := by
  obtain ⟨km, dm⟩ := m
  cases km <;> first | (cases he; done) | skip
  rename_i i
  simp only [eMapUpdate0] at he
  split at he
  · rename_i A B l hi
    split at he
    · rename_i k y hk hy
      obtain ⟨hc, he⟩ := cond_some he
      simp only [Bool.and_eq_true] at hc
      obtain ⟨hko, hvo⟩ := hc
      simp only [valOk, Bool.and_eq_true] at hvo
      obtain ⟨rfl, hlv⟩ := mm_at hmm
      have hkone := (keyOk_ok hm.k hko).2.2
      have hkx := coe_key hx hkone hk
      have hyv := coe_val hvo.2 hy hv
      obtain ⟨es, clock, hb, her, hcase⟩ := run_mapPut (P := P) h hi hkone hkx hyv (h.live i hlv)
      obtain ⟨c1, c2⟩ := run_find (w := w) hm.k hko hkx her false
      have hget : (getObj (L i).blk).run P w = .ok (.map es clock) w := run_getObj hb (fun _ _ _ h => by cases h)
      rcases hcase with ⟨e, z, g1, g2, g3, _, g4, L', g5, g6, _⟩ | ⟨g1, _, _, L', g5, g6, _⟩
      · refine ⟨_, L', _, ?_, g5, g6, rfl, he⟩
        rw [g1] at c2
        simp only [Instr.mapUpdate, Sem.run_bind, run_underlying hm.u, Result.andThen_ok, hget, c1, c2, g2, Option.map_some, Option.getD_some, g4]
        exact run_setObj hb (fun _ _ _ h => by cases h)
      · refine ⟨_, L', _, ?_, g5, g6, rfl, he⟩
        rw [g1] at c2
        simp only [Instr.mapUpdate, Sem.run_bind, run_underlying hm.u, Result.andThen_ok, hget, c1, c2]
        exact run_setObj hb (fun _ _ _ h => by cases h)
    · cases he
  · cases he
theorem eMapUpdate_ok {t kt et : TypeId} {tk te : TD} (hm : MapT P t tk te kt et) (h : St σ H L a w) {C : State → Option R} {x v m : Val} {x' v' m' : Value} (hx : SR H L x x') (hv : SR H L v v') (hmm : SR H L m m') (he : eMapUpdate pb tk te σ C x v m = some r) :
    ∃ σ' H' L' w', (Instr.mapUpdate t m' x' v').run P w = .ok () w' ∧ St σ' H' L' a w' ∧ Mv σ L H w σ' L' H' w' ∧ ¬ pb ≤ 1 ∧ σ'.n = σ.n ∧ C σ' = some r := by
  unfold eMapUpdate at he
  obtain ⟨hpb, he⟩ := cond_none he
  obtain ⟨H1, h1, f1, hv1, n1, x1⟩ := freezeVal_ok v.1.msIds h hv
  obtain ⟨σ', L', w', g1, g2, g3, g4, g5⟩ := eMapUpdate0_ok hm h1 (hx.mono f1.ext) hv1 (hmm.mono f1.ext) he
  exact ⟨σ', H1, L', w', g1, g2, f1.trans g3, ble_ff hpb, g4.trans n1, g5⟩
end
end Go.Proofs.YtofendipdfepoaaDoor.Gp

/- Operations, fifteenth part: entries of maps, maps made; lengths, least and greatest, copies. -/
set_option linter.unusedVariables false
noncomputable section
namespace Go.Proofs.YtofendipdfepoaaDoor.Gp
open Go

section
variable {R : Type} {P : Program} {σ : State} {H : Hp} {L : Ls} {a : Act} {w : World} {pb : Nat} {r : R}

theorem eMapEntry_ok {t kt et : TypeId} {tk te : TD} (hm : MapT P t tk te kt et) (h : St σ H L a w) {C : Kt R} {x m : Val} {x' m' : Value} (hx : SR H L x x') (hmm : SR H L m m') (he : eMapEntry pb tk te σ C x m = some r) :
    Lands P σ H L a w pb (Instr.mapEntry t m' x') C r := by
  obtain ⟨km, dm⟩ := m
  have ⟨hpb, he2⟩ := cond_none (c := Nat.ble pb 1) he
  clear he
  cases km <;> first | (cases he2; done) | skip
  rename_i i
  have he := he2
  clear he2
  simp only at he
  split at he
  · rename_i A B l hi
    split at he
    · rename_i k z hk hz
      obtain ⟨hc, he⟩ := cond_some he
      simp only [Bool.and_eq_true] at hc
      obtain ⟨hko, hvo⟩ := hc
      simp only [valOk, Bool.and_eq_true] at hvo
      obtain ⟨rfl, hlv⟩ := mm_at hmm
      have hkone := (keyOk_ok hm.k hko).2.2
      have hkx := coe_key hx hkone hk
      obtain ⟨iz, zv, hiz, hsz, hby, _, hzz, hzl, hzm⟩ := hm.e.info
      have hzero : VR H L B z zv := by
        have : VR H L te.zero.1 te.zero.2 zv := ⟨_, hzl H L, hzm⟩
        exact coe_vr (Maps.id L) hz this
      obtain ⟨hcm, hpu, es, clock, hb, her⟩ := hp_map h hi
      obtain ⟨c1, c2⟩ := run_find (w := w) hm.k hko hkx her false
      have hget : (getObj (L i).blk).run P w = .ok (.map es clock) w := run_getObj hb (fun _ _ _ h => by cases h)
      have hin := h.live i hlv
      -- the value that the entry holds
      have tup : ∀ {L' : Ls} {v : B.den} {v' : Value} {n : Nat}, VR H L' B v v' → nthN (L' i).born (mpos A B l k) = some n → (L' i).live = true → SR H L' ⟨.tup (.pair B (.pair (.stamp i) .unit)), (v, mpos A B l k, ())⟩ (.tuple #[v', goInt n]) := by
        intro L' v v' n h1 h2 h3
        exact ⟨[v', goInt n], rfl, v', [goInt n], rfl, h1, goInt n, [], rfl, ⟨[goInt n], ⟨n, rfl, h2, h3⟩, rfl⟩, rfl⟩
      cases hg : mget A B l k with
      | some y =>
        rw [hg] at he
        simp only [Option.getD_some] at he
        rcases find_map (A := A) (B := B) (l := l) (es := es.toList) (k := k) her.len with ⟨e0, z0, q1, q2, q3, q4, q5, q6⟩ | ⟨_, _, _, h4⟩
        rotate_left
        · rw [hg] at h4; cases h4
        have hy : z0.2 = y := by rw [hg] at q6; cases q6; rfl
        have hv := (her.key _ _ _ q2 q3).2
        rw [hy] at hv
        obtain ⟨es2, clock2, hb2, her2, hcase⟩ := run_mapPut (P := P) h hi hkone hkx hv hin
        rw [hb] at hb2
        cases hb2
        rcases hcase with ⟨e, z1, g1, g2, g3, _, g4, L', g5, g6, g7, g8, g9⟩ | ⟨g1, g2, _⟩
        · rw [g1] at c2
          have hee : e = e0 := by
            have : es.toList[mpos A B l k]? = some e := by simpa using g2
            rw [q2] at this; cases this; rfl
          subst hee
          have hmod : (es.modify (mpos A B l k) fun e' => { e' with key := x' }) = es.modify (mpos A B l k) fun e' => { e' with key := x', val := e.val } := by
            apply Array.ext_getElem?
            intro j
            simp only [Array.getElem?_modify]
            by_cases hj : mpos A B l k = j
            · rw [if_pos hj, if_pos hj, ← hj, g2]; rfl
            · rw [if_neg hj, if_neg hj]
          have hborn : nthN (L' i).born (mpos A B l k) = some e.born := by
            rw [g7, her.born]
            show (es.toList.map (·.born))[mpos A B l k]? = some e.born
            rw [List.getElem?_map, q2]; rfl
          have hvL' : VR H L' B y e.val := (SR_iff (one_tup hvo.2).1 (one_tup hvo.2).2).1 (g9 ((SR_iff (one_tup hvo.2).1 (one_tup hvo.2).2).2 hv))
          refine ⟨_, _, _, H, L', _, ?_, tup hvL' hborn (by rw [g8]; exact hlv), g5, g6, fun h => absurd h (ble_ff hpb), rfl, he⟩
          simp only [Instr.mapEntry, Sem.run_bind, run_underlying hm.u, Result.andThen_ok, hget, c1, c2, g2, Option.map_some, Option.getD_some, g4]
          rw [run_setObj (P := P) (q := .map (es.modify (mpos A B l k) fun e' => { e' with key := x' }) clock) hb (fun _ _ _ h => by cases h), hmod]
          rfl
        · rw [hg] at g2; cases g2
      | none =>
        rw [hg] at he
        simp only [Option.getD_none] at he
        obtain ⟨es2, clock2, hb2, her2, hcase⟩ := run_mapPut (P := P) h hi hkone hkx hzero hin
        rw [hb] at hb2
        cases hb2
        rcases hcase with ⟨e, z1, _, _, _, g2, _⟩ | ⟨g1, g2, g3, L', g5, g6, g7, g8, g9⟩
        · rw [hg] at g2; cases g2
        · rw [g1] at c2
          have hborn : nthN (L' i).born (mpos A B l k) = some clock := by
            rw [g7, g3]
            have hl : (L i).born.length = List.length (α := A.den × B.den) l := by rw [her.born, List.length_map]; exact her.len
            show ((L i).born ++ [clock])[List.length (α := A.den × B.den) l]? = some clock
            rw [← hl, List.getElem?_append_right (Nat.le_refl _), Nat.sub_self]
            rfl
          have hvL' : VR H L' B z zv := (SR_iff (one_tup hvo.2).1 (one_tup hvo.2).2).1 (g9 ((SR_iff (one_tup hvo.2).1 (one_tup hvo.2).2).2 hzero))
          refine ⟨_, _, _, H, L', _, ?_, tup hvL' hborn (by rw [g8]; exact hlv), g5, g6, fun h => absurd h (ble_ff hpb), rfl, he⟩
          simp only [Instr.mapEntry, Sem.run_bind, run_underlying hm.u, Result.andThen_ok, hget, c1, c2, run_zeroValue hiz hzz]
          rw [run_setObj (P := P) (q := .map (es.push { key := x', val := zv, born := clock }) (clock + 1)) hb (fun _ _ _ h => by cases h)]
          rfl
    · cases he
  · cases he

theorem er_set {A B : K} {l : List (A.den × B.den)} {es : List MapEntry} {clock : Nat} {born : List Nat} (h : ER H L A B l es clock born) {p : Nat} {y : B.den} {v : Value} (hv : VR H L B y v) :
    ER H L A B (mset A B l p y) (es.modify p fun e => { e with val := v }) clock born := by
  have hborn : (es.modify p fun e => { e with val := v }).map (·.born) = es.map (·.born) := by
    apply List.ext_getElem?
    intro i
    simp only [List.getElem?_map, List.getElem?_modify]
    cases es[i]? with
    | none => rfl
    | some e => by_cases hi : p = i <;> simp [hi]
  have hfst : (l.modify p (fun e => (e.1, y))).map (·.1) = l.map (·.1) := by
    apply List.ext_getElem?
    intro i
    simp only [List.getElem?_map, List.getElem?_modify]
    cases l[i]? with
    | none => rfl
    | some e => by_cases hi : p = i <;> simp [hi]
  refine ⟨by rw [hborn]; exact h.born, by simp [mset, h.len], fun i e' y' h1 h2 => ?_, fun e' he' => ?_, by rw [hborn]; exact h.dif, ?_⟩
  · unfold mset at h2
    rw [List.getElem?_modify] at h1 h2
    cases h3 : es[i]? with
    | none => rw [h3] at h1; simp at h1
    | some e0 =>
      cases h4 : l[i]? with
      | none => rw [h4] at h2; simp at h2
      | some z0 =>
        rw [h3] at h1
        rw [h4] at h2
        simp only [Option.map_eq_map, Option.map_some, Option.some.injEq] at h1 h2
        have := h.key i _ _ h3 h4
        by_cases hi : p = i
        · rw [if_pos hi] at h1 h2
          subst h1 h2
          exact ⟨this.1, hv⟩
        · rw [if_neg hi] at h1 h2
          subst h1 h2
          exact this
  · obtain ⟨i, hi⟩ := List.mem_iff_getElem?.1 he'
    rw [List.getElem?_modify] at hi
    cases h3 : es[i]? with
    | none => rw [h3] at hi; simp at hi
    | some e0 =>
      rw [h3] at hi
      simp only [Option.map_eq_map, Option.map_some, Option.some.injEq] at hi
      have := h.fresh e0 (List.mem_of_getElem? h3)
      rw [← hi]
      by_cases hj : p = i
      · rw [if_pos hj]; exact this
      · rw [if_neg hj]; exact this
  · have ha := h.apart
    unfold mset
    rw [← List.pairwise_map (f := fun z : A.den × B.den => z.1) (R := fun a b => eqB A a b = false)] at ha ⊢
    rw [hfst]
    exact ha

theorem find_born {es : Array MapEntry} {p n : Nat} (hd : (es.toList.map (·.born)).Nodup) (hp : (es.toList.map (·.born))[p]? = some n) : es.findIdx? (fun e => (e.born : Int) == (n : Int)) = some p := by
  have hlt : p < es.size := by
    have := (List.getElem?_eq_some_iff.1 hp).1
    simpa using this
  have hpb : es[p].born = n := by
    rw [List.getElem?_map] at hp
    have : es.toList[p]? = some es[p] := by simp [hlt]
    rw [this] at hp
    simpa using hp
  rw [Array.findIdx?_eq_some_iff_getElem]
  refine ⟨hlt, by simp [hpb], fun j hj => ?_⟩
  simp only [beq_iff_eq]
  intro hjb
  have hjn : es[j].born = n := by exact_mod_cast hjb
  have h1 : (es.toList.map (·.born))[j]? = some n := by
    rw [List.getElem?_map]
    have : es.toList[j]? = some es[j] := by simp
    rw [this]
    simp [hjn]
  have := (List.getElem?_inj (by simp; omega) hd).1 (h1.trans hp.symm)
  omega

theorem eEntryStore0_ok {t kt et : TypeId} {tk te : TD} (hm : MapT P t tk te kt et) (h : St σ H L a w) {C : State → Option R} {s v m : Val} {s' v' m' : Value} (hs : SR H L s s') (hv : SR H L v v') (hmm : SR H L m m') (he : eEntryStore0 te σ C s v m = some r) :
    ∃ σ' L' w', (Instr.entryStore t m' s' v').run P w = .ok () w' ∧ St σ' H L' a w' ∧ Mv σ L H w σ' L' H w' ∧ σ'.n = σ.n ∧ C σ' = some r := by
  obtain ⟨km, dm⟩ := m
  obtain ⟨ks, p⟩ := s
  cases km <;> first | (cases he; done) | skip
  rename_i i
  cases ks <;> first | (cases he; done) | skip
  rename_i j
  simp only [eEntryStore0] at he
  split at he
  · rename_i A B l hi
    split at he
    · rename_i y hy
      obtain ⟨hc, he⟩ := cond_some he
      simp only [Bool.and_eq_true] at hc
      obtain ⟨hij, hvo⟩ := hc
      simp only [valOk, Bool.and_eq_true] at hvo
      cases Nat.eq_of_beq_eq_true hij
      obtain ⟨rfl, hlv⟩ := mm_at hmm
      have hyv := coe_val hvo.2 hy hv
      obtain ⟨hcm, hpu, es, clock, hb, her⟩ := hp_map h hi
      have hst := SR_one hs rfl rfl
      obtain ⟨n, hsn, hbn, _⟩ := hst
      cases hsn
      have hget : (getObj (L i).blk).run P w = .ok (.map es clock) w := run_getObj hb (fun _ _ _ h => by cases h)
      have hfi : es.findIdx? (fun e => (e.born : Int) == (n : Int)) = some p := find_born her.dif (by rw [← her.born]; exact hbn)
      have hm2 := put_map h hi (g := fun _ _ => none) (.inl rfl) (l' := mset A B l p y) (es' := es.modify p fun e => { e with val := v' }) (clock' := clock) (born' := (L i).born) (fun _ _ _ h => h) (Eq.mpr (congrArg (fun x => ER H L A B (mset A B l p y) x clock (L i).born) Array.toList_modify) (er_set her hyv)) (h.live i hlv)
      rw [State.trav_none] at hm2
      refine ⟨_, _, _, ?_, hm2.1, hm2.2, rfl, he⟩
      simp only [Instr.entryStore, Sem.run_bind, Sem.run_pure, Result.andThen_ok, hget, asInt, asIntOf, hfi]
      exact run_setObj hb (fun _ _ _ h => by cases h)
    · cases he
  · cases he
theorem eEntryStore_ok {t kt et : TypeId} {tk te : TD} (hm : MapT P t tk te kt et) (h : St σ H L a w) {C : State → Option R} {s v m : Val} {s' v' m' : Value} (hs : SR H L s s') (hv : SR H L v v') (hmm : SR H L m m') (he : eEntryStore pb te σ C s v m = some r) :
    ∃ σ' H' L' w', (Instr.entryStore t m' s' v').run P w = .ok () w' ∧ St σ' H' L' a w' ∧ Mv σ L H w σ' L' H' w' ∧ ¬ pb ≤ 1 ∧ σ'.n = σ.n ∧ C σ' = some r := by
  unfold eEntryStore at he
  obtain ⟨hpb, he⟩ := cond_none he
  obtain ⟨H1, h1, f1, hv1, n1, x1⟩ := freezeVal_ok v.1.msIds h hv
  obtain ⟨σ', L', w', g1, g2, g3, g4, g5⟩ := eEntryStore0_ok hm h1 (hs.mono f1.ext) hv1 (hmm.mono f1.ext) he
  exact ⟨σ', H1, L', w', g1, g2, f1.trans g3, ble_ff hpb, g4.trans n1, g5⟩

theorem eMakeMap_ok {t : TypeId} {td ta tb : TD} (h : St σ H L a w) {C : Kt R} (he : eMakeMap pb td ta tb σ C = some r) : LandsF P σ H L a w pb (Instr.makeMap t none) C r := by
  unfold eMakeMap at he
  split at he
  · obtain ⟨hc, he⟩ := cond_none he
    simp only [Bool.or_eq_false_iff, Bool.not_eq_false', Bool.and_eq_true] at hc
    obtain ⟨hpb, h1, h2⟩ := hc
    have hst := h.push ⟨.map ta.kind tb.kind, []⟩ ⟨w.heap.size, 0, 0, 0, false, [], true⟩ (w' := w.alloc (.map #[] 0)) ⟨h1, h2, #[], 0, alloc_at, ⟨rfl, rfl, fun i e x h => by simp at h, fun e h => by simp at h, by simp, List.Pairwise.nil⟩⟩ (fun _ => Nat.le_refl _)
      (fun b hb => alloc_lt hb) (by simp) rfl rfl rfl
    refine ⟨.map (some w.heap.size), ⟨.mm σ.next, ()⟩, _, H, _, _, ?_, SR_mk (k := .mm σ.next) (us := [_]) ⟨by rw [upd_same], by rw [upd_same]⟩, hst.1, hst.2, fun h => absurd h (ble_ff hpb), rfl, he, fun b hb => alloc_lt hb⟩
    simp [Instr.makeMap]
  · cases he
end
end Go.Proofs.YtofendipdfepoaaDoor.Gp

/- Operations, sixteenth part: built-ins; every operation. -/
set_option linter.unusedVariables false
noncomputable section
namespace Go.Proofs.YtofendipdfepoaaDoor.Gp
open Go

section
variable {R : Type} {P : Program} {σ : State} {H E : Hp} {L : Ls} {a : Act} {w : World} {pb : Nat} {r : R}

theorem eLen_ok {t : TypeId} {td : TD} (ht : TdOk P t td) (h : St σ H L a w) {C : Val → Option R} {x : Val} {x' : Value} (hx : SR H L x x') (hE : (∃ j, x.1 = .mm j) → ∀ b o, w.heap[b]? = some o → E b = some o) (he : eLen td σ C x = some r) {ats : Array TypeId} (h0 : ats[0]? = some t) {ty : TypeId} {more : Array Value} (h1 : more[0]? = some x') :
    Val1 P H L E (Builtin.len_ ats ty more) C r := by
  obtain ⟨k, d⟩ := x
  have hu := ht.u
  have arr : (match td.u with | .arr n _ => C ⟨.int .i64, ((n : Nat) : Int)⟩ | _ => none) = some r → Val1 P H L E (Builtin.len_ ats ty more) C r := by
    intro he
    split at he
    · rename_i n e hte
      rw [hte] at hu
      exact ⟨.int .i64 ((n : Nat) : Int), _, fun w hw => by simp only [Builtin.len_, h0, h1, Sem.run_bind, run_underlying (u_arr hu), Result.andThen_ok, Sem.run_pure]; rfl, SR_int, he⟩
    · cases he
  cases k with
  | str =>
    simp only [eLen] at he
    split at he
    · rename_i hte
      rw [hte] at hu
      cases str_at hx
      exact ⟨.int .i64 ((ByteArray.size d : Nat) : Int), _, fun w hw => by simp only [Builtin.len_, h0, h1, Sem.run_bind, run_underlying (u_str hu), Result.andThen_ok, Sem.run_pure]; rfl, SR_int, he⟩
    · cases he
  | nil =>
    simp only [eLen] at he
    split at he
    · rename_i e hte
      rw [hte] at hu
      have hx := SR_one hx rfl rfl
      cases (show [x'] = _ from hx)
      exact ⟨.int .i64 0, _, fun w hw => by simp only [Builtin.len_, h0, h1, Sem.run_bind, run_underlying (u_sl hu), Result.andThen_ok, Sem.run_pure]; rfl, SR_int, he⟩
    · cases he
  | sl k =>
    simp only [eLen] at he
    split at he
    · rename_i e hte
      rw [hte] at hu
      obtain ⟨_, a', c, rfl, _⟩ := sl_at hx
      exact ⟨.int .i64 ((List.length (α := k.den) d : Nat) : Int), _, fun w hw => by simp only [Builtin.len_, h0, h1, Sem.run_bind, run_underlying (u_sl hu), Result.andThen_ok, Sem.run_pure]; rfl, SR_int, he⟩
    · cases he
  | ms j =>
    simp only [eLen] at he
    split at he
    · rename_i e k l hte hj
      rw [hte] at hu
      obtain ⟨rfl, _⟩ := ms_at hx
      obtain ⟨_, hlen, hrow⟩ := hp_row h hj
      have hh : (L j).hdr = .slice (if (L j).nil then none else some ⟨(L j).blk, (L j).off, none⟩) (List.length (α := k.den) l) (L j).cap := by
        rcases hrow with ⟨g1, g2, g3⟩ | ⟨g1, g2, _⟩
        · simp only [Loc.hdr, g1, if_true, g2, g3]
        · simp only [Loc.hdr, g1, Bool.false_eq_true, if_false, hlen]
      rw [hh] at h1
      exact ⟨.int .i64 ((List.length (α := k.den) l : Nat) : Int), _, fun w hw => by simp only [Builtin.len_, h0, h1, Sem.run_bind, run_underlying (u_sl hu), Result.andThen_ok, Sem.run_pure]; rfl, SR_int, he⟩
    · cases he
  | nilm =>
    simp only [eLen] at he
    split at he
    · rename_i ka e hte
      rw [hte] at hu
      have hx := SR_one hx rfl rfl
      cases (show [x'] = _ from hx)
      exact ⟨.int .i64 0, _, fun w hw => by simp only [Builtin.len_, h0, h1, Sem.run_bind, run_underlying (u_map hu), Result.andThen_ok, Sem.run_pure]; rfl, SR_int, he⟩
    · cases he
  | mm j =>
    simp only [eLen] at he
    split at he
    · rename_i ka e A B l hte hj
      rw [hte] at hu
      obtain ⟨rfl, _⟩ := mm_at hx
      obtain ⟨_, _, es, clock, hb, her⟩ := hp_map h hj
      have hget : ∀ w, Stays E w → (getObj (L j).blk).run P w = .ok (.map es clock) w := fun w hw => run_getObj (hw _ _ (hE ⟨_, rfl⟩ _ _ hb)) (fun _ _ _ h => by cases h)
      have hsz : es.size = List.length (α := A.den × B.den) l := by rw [← her.len]; simp
      exact ⟨.int .i64 ((List.length (α := A.den × B.den) l : Nat) : Int), _, fun w hw => by simp only [Builtin.len_, h0, h1, Sem.run_bind, run_underlying (u_map hu), Result.andThen_ok, hget w hw, Sem.run_pure, hsz]; rfl, SR_int, he⟩
    · cases he
  | _ => exact arr he

/-- a list of values, each for its own -/
inductive SRs (H : Hp) (L : Ls) : List Val → List Value → Prop
  | nil : SRs H L [] []
  | cons {v x l r} (h : SR H L v x) (t : SRs H L l r) : SRs H L (v :: l) (x :: r)
theorem SRs.mono {H H' : Hp} {L : Ls} (hx : ∀ b o, H b = some o → H' b = some o) {l r} (h : SRs H L l r) : SRs H' L l r := by
  induction h with
  | nil => exact .nil
  | cons h t ih => exact .cons (h.mono hx) ih
theorem SRs.app {l r l' r'} (h : SRs H L l r) (k : SRs H L l' r') : SRs H L (l ++ l') (r ++ r') := by
  induction h with
  | nil => exact k
  | cons h t ih => exact .cons h ih
theorem ints_ok {k : IntKind} : ∀ {l : List Val} {r : List Value} {ns : List Int}, SRs H L l r → ints k l = some ns → r = ns.map (Value.int k)
  | [], _, ns, .nil, h => by cases h; rfl
  | ⟨kv, d⟩ :: l, x :: r, ns, .cons hv t, h => by
    cases kv <;> first | (cases h; done) | skip
    rename_i k'
    simp only [ints] at h
    split at h
    · rename_i l' hl
      obtain ⟨hk, h⟩ := cond_some h
      have hk : k = k' := by simpa using hk
      subst hk
      cases h
      rw [int_at hv, ints_ok t hl]
      rfl
    · cases h
theorem eMinMax_ok {mx : Bool} {C : Val → Option R} {l : List Val} {vs : Array Value} (hv : SRs H L l vs.toList) (he : eMinMax mx C l = some r) {ats : Array TypeId} {ty : TypeId} :
    Val1 P H L E (if mx then Builtin.max_ ats ty vs else Builtin.min_ ats ty vs) C r := by
  match l, hv, he with
  | ⟨kv, d⟩ :: l, hv, he =>
    generalize hvs : vs.toList = vl at hv
    cases hv with
    | cons h t =>
      rename_i x r'
      cases kv <;> first | (cases he; done) | skip
      rename_i k
      simp only [eMinMax] at he
      split at he
      · rename_i ns hns
        have hr := ints_ok t hns
        have hx := int_at h
        have key : ∀ (w : World) (mx : Bool) (ns : List Int) (n : Int), ((ns.map (Value.int k)).foldlM (if mx then Builtin.max2 else Builtin.min2) (.int k n)).run P w = .ok (.int k (ns.foldl (cond mx mxI mnI) n)) w := by
          intro w mx ns
          induction ns with
          | nil => intro n; simp
          | cons m ns ih =>
            intro n
            rw [List.map_cons, List.foldlM_cons, List.foldl_cons, Sem.run_bind]
            cases mx with
            | true =>
              simp only [if_true, Builtin.max2, Sem.run_pure, Result.andThen_ok]
              exact ih _
            | false =>
              simp only [Bool.false_eq_true, if_false, Builtin.min2, Sem.run_pure, Result.andThen_ok]
              exact ih _
        refine ⟨.int k (ns.foldl (cond mx mxI mnI) d), _, fun w _ => ?_, SR_int, he⟩
        have := key w mx ns d
        cases mx with
        | true =>
          simp only [if_true, Builtin.max_, hvs, hx, hr] at this ⊢
          exact this
        | false =>
          simp only [Bool.false_eq_true, if_false, Builtin.min_, hvs, hx, hr] at this ⊢
          exact this
      · cases he
theorem eCap_ok {t : TypeId} {td : TD} (ht : TdOk P t td) {e : TypeId} (hse : td.u = .sl e) {C : Val → Option R} {d : Unit} {x' : Value} (hx : SR H L ⟨.nil, d⟩ x') (he : C ⟨.int .i64, (0 : Int)⟩ = some r) {ats : Array TypeId} (h0 : ats[0]? = some t) {ty : TypeId} {more : Array Value} (h1 : more[0]? = some x') :
    Val1 P H L E (Builtin.cap_ ats ty more) C r := by
  have hu : P.underlying t = some (.slice e) := u_sl (by rw [← hse]; exact ht.u)
  have hs' := SR_one hx rfl rfl
  simp only [Lv, List.cons.injEq, and_true] at hs'
  subst hs'
  refine ⟨.int .i64 0, ⟨.int .i64, (0 : Int)⟩, fun w _ => ?_, SR_int, he⟩
  simp only [Builtin.cap_, h0, h1, Sem.run_bind, run_underlying hu, Result.andThen_ok]
  rfl

end
end Go.Proofs.YtofendipdfepoaaDoor.Gp

/- One operation: what the machine does with it, as a rule. -/
set_option linter.unusedVariables false
noncomputable section
namespace Go.Proofs.YtofendipdfepoaaDoor.Gp
open Go

theorem eArgs_mk {H : Hp} {L : Ls} {a : Act} {σ : State} (h : ∀ x, SR H L (opnd σ x) (a.eval x)) : ∀ l : List Operand, SRs H L (l.map (opnd σ)) (l.map a.eval)
  | [] => .nil
  | x :: l => .cons (h x) (eArgs_mk h l)
theorem parts_mk {H : Hp} {L : Ls} {a : Act} {σ : State} (h : ∀ x, SR H L (opnd σ x) (a.eval x)) : ∀ l : List (Nat × Operand), Parts H L (l.map (fun x => (x.1, opnd σ x.2))) (l.map (fun x => (x.1, a.eval x.2)))
  | [] => .nil
  | x :: l => .cons (h x.2) (parts_mk h l)

theorem valOf_sr {H : Hp} {L : Ls} (v : Value) : SR H L (valOf v) v := by
  unfold valOf
  split <;> first
    | exact SR_int
    | exact SR_bool
    | exact SR_str
    | exact SR_mk (k := .nil) (us := [_]) rfl
    | exact SR_mk (k := .nilm) (us := [_]) rfl
    | exact SR_mk (k := .nilp) (us := [_]) rfl
    | exact SR_mk (k := .nilf) (us := [_]) rfl
    | exact SR_mk (k := .nili) (us := [_]) rfl
    | exact SR_U

theorem opnd_ok {σ : State} {H : Hp} {L : Ls} {a : Act} {w : World} (h : St σ H L a w) (x : Operand) : SR H L (opnd σ x) (a.eval x) := by
  cases x with
  | tmp t => exact h.env t
  | const v => exact valOf_sr v
  | global g => exact SR_U
  | func f => exact SR_mk (k := .fn f .unit) (us := [.func (.func f) #[] #[]]) ⟨[], rfl, rfl⟩

/-- what follows an operation -/
def After {R : Type} (σ : State) (H : Hp) (L : Ls) (a : Act) (w : World) (pb : Nat) (fr : Bool) (C : Kt R) (r : R) (nx : Value → World → Prop) : Prop :=
  ∀ x v σ' H' L' w', SR H' L' v x → St σ' H' L' a w' → Mv σ L H w σ' L' H' w' → (pb ≤ 1 → σ'.heap = σ.heap ∧ σ'.next = σ.next ∧ ∀ i, (L i).live = true → L' i = L i) → σ'.n = σ.n → C v σ' = some r → (fr = true → ∀ b, b < w.heap.size → (∀ i, tb (pb - 3) i = true → (L i).blk ≠ b) → w'.heap[b]? = w.heap[b]?) → nx x w'

/-- the method's row is so -/
def methB (P : Program) (m : Meth) : Bool :=
  match P.info? m.t with
  | some i =>
    (match i.methods.find? (·.name == m.name) with
    | some r =>
      (match r.func with | some (f, true) => Nat.beq f m.f | _ => false) &&
      (match m.via, r.path.toList with
      | none, [] => (match P.underlying m.t with | some (.pointer _) => true | _ => false)
      | some (s, x), [p] => Nat.beq p.struct s && Nat.beq p.index x && p.deref &&
        (match P.underlying s with | some (.struct fs) => (match fs[x]? with | some f => (match P.underlying f.type with | some (.struct _) => true | _ => false) | none => false) | _ => false)
      | _, _ => false)
    | none => false)
  | none => false
theorem meth_run0 {P : Program} {t : TypeId} {name : String} {f : FuncId} (h : methB P ⟨t, name, f, none⟩ = true) (v : Value) (w : World) : (method (P.types.size + Made.depth) t v name).run P w = .ok (f, v) w := by
  unfold methB at h
  split at h
  · rename_i i hi
    split at h
    · rename_i r hr
      simp only [Bool.and_eq_true] at h
      obtain ⟨h1, h2⟩ := h
      split at h1
      · rename_i f' hf
        have hff := Nat.eq_of_beq_eq_true h1
        split at h2
        · rename_i hv hp
          split at h2
          · rename_i e hu
            show (method ((P.types.size + 99) + 1) t v name).run P w = _
            unfold method
            simp only [Sem.run_bind, run_typeInfo hi, Result.andThen_ok, hr, hp, follow, Sem.run_pure, hf, receiverAt, run_underlying hu, Place.get, hff]
          · cases h2
        · rename_i hv _; cases hv
        · cases h2
      · cases h1
    · cases h
  · cases h
theorem meth_run1 {P : Program} {t : TypeId} {name : String} {f : FuncId} {s : TypeId} {x : Nat} (h : methB P ⟨t, name, f, some (s, x)⟩ = true) (v u : Value) (w : World) (hx : (Instr.fieldAt s v x).run P w = .ok u w) (hv : ∃ a, v = .pointer (some a)) :
    (method (P.types.size + Made.depth) t v name).run P w = .ok (f, u) w := by
  obtain ⟨ad, rfl⟩ := hv
  unfold methB at h
  split at h
  · rename_i i hi
    split at h
    · rename_i r hr
      simp only [Bool.and_eq_true] at h
      obtain ⟨h1, h2⟩ := h
      split at h1
      · rename_i f' hf
        have hff := Nat.eq_of_beq_eq_true h1
        split at h2
        · rename_i hv _; cases hv
        · rename_i s' x' p hv hp
          cases hv
          simp only [Bool.and_eq_true] at h2
          obtain ⟨⟨⟨q1, q2⟩, q3⟩, q4⟩ := h2
          have q1 := Nat.eq_of_beq_eq_true q1
          have q2 := Nat.eq_of_beq_eq_true q2
          split at q4
          · rename_i fs hfs
            split at q4
            · rename_i fl hfl
              split at q4
              · rename_i gs hgs
                simp only [Instr.fieldAt, Sem.run_bind, run_underlying hfs, Result.andThen_ok, hfl, Instr.sureAddr, Sem.run_pure] at hx
                show (method ((P.types.size + 99) + 1) t _ name).run P w = _
                unfold method
                simp only [Sem.run_bind, run_typeInfo hi, Result.andThen_ok, hr, hp, follow, q1, q2, q3, run_underlying hfs, hfl, if_true, Place.get, Sem.run_pure, asAddr, hf]
                cases hfp : (fieldPlace ad fl).run P w with
                | ok a2 w2 =>
                  rw [hfp] at hx
                  simp only [Result.andThen_ok] at hx ⊢
                  cases hx
                  simp only [receiverAt, Sem.run_bind, run_underlying hgs, Result.andThen_ok, Sem.run_pure, hff]
                | _ => rw [hfp] at hx; cases hx
              · cases q4
            · cases q4
          · cases q4
        · cases h2
      · cases h1
    · cases h
  · cases h
theorem first_at (x : Value) (l : Array Value) : (#[x] ++ l)[0]? = some x := by
  rw [Array.getElem?_append_left (by simp)]
  rfl
theorem first_off (x : Value) (l : Array Value) : (#[x] ++ l).extract 1 (#[x] ++ l).size = l := by
  apply Array.ext
  · simp
  · intro i h1 h2
    simp only [Array.getElem_extract]
    rw [Array.getElem_append_right (by simp)]
    simp
theorem findM_ok {l : List Meth} {t : TypeId} {n : String} {m : Meth} : findM l t n = some m → m ∈ l ∧ m.t = t ∧ m.name = n := by
  induction l with
  | nil => intro h; cases h
  | cons x r ih =>
    intro h
    unfold findM at h
    cases hb : (Nat.beq x.t t && (x.name == n)) with
    | true =>
      rw [hb] at h
      cases h
      simp only [Bool.and_eq_true] at hb
      exact ⟨List.mem_cons_self .., Nat.eq_of_beq_eq_true hb.1, eq_of_beq hb.2⟩
    | false =>
      rw [hb] at h
      obtain ⟨a, b⟩ := ih h
      exact ⟨List.mem_cons_of_mem _ a, b⟩
/-- calls are as their contracts say -/
def CallsOk (P : Program) (X : Cx) : Prop :=
  (∀ m ∈ X.A.meths, methB P m = true) ∧
  ∀ {R : Type} {pb : Nat} {f : FuncId} {σ : State} {H : Hp} {L : Ls} {a : Act} {w : World} {C : Kt R} {vs : List Val} {xs : Array Value} {r : R}, St σ H L a w → SRs H L vs xs.toList →
    eCall pb X.Γ X.fuel f σ C vs = some r → ∀ {o : Oper} {next : Act → World → Prop} {Q : Exit → Act → World → Prop}, After σ H L a w pb (!(Nat.beq pb 2)) C r (fun x w' => next (a.put o.dst x) w') →
    o.upon P a next Q ((callFunc f xs).run P w)

section
variable {R : Type} {P : Program} {σ : State} {H : Hp} {L : Ls} {a : Act} {w : World} {pb : Nat} {C : Kt R} {r : R} {o : Oper} {next : Act → World → Prop} {Q : Exit → Act → World → Prop} {fr : Bool}

theorem wp_val {s : Sem Value} (hf : fr = false) (ho : execOp a.eval o = (do pure (.value (← s)))) (hl : Lands P σ H L a w pb s C r) (hn : After σ H L a w pb fr C r (fun x w' => next (a.put o.dst x) w')) : o.wp P a w next Q := by
  obtain ⟨x, v, σ', H', L', w', hr, hv, hst, hm, hpb, hsn, hc⟩ := hl
  unfold Oper.wp
  rw [ho]
  simp only [Sem.run_bind, hr, Result.andThen_ok, Sem.run_pure, Oper.upon_value]
  exact hn x v σ' H' L' w' hv hst hm hpb hsn hc (fun h => by rw [hf] at h; cases h)
theorem wp_valF {s : Sem Value} (ho : execOp a.eval o = (do pure (.value (← s)))) (hl : LandsF P σ H L a w pb s C r) (hn : After σ H L a w pb fr C r (fun x w' => next (a.put o.dst x) w')) : o.wp P a w next Q := by
  obtain ⟨x, v, σ', H', L', w', hr, hv, hst, hm, hpb, hsn, hc, hf⟩ := hl
  unfold Oper.wp
  rw [ho]
  simp only [Sem.run_bind, hr, Result.andThen_ok, Sem.run_pure, Oper.upon_value]
  exact hn x v σ' H' L' w' hv hst hm hpb hsn hc (fun _ b hb _ => hf b hb)
theorem wp_valE {s : Sem Value} (ho : execOp a.eval o = (do pure (.value (← s)))) (hl : LandsE P σ H L a w pb (mem w) s C r) (hn : After σ H L a w pb fr C r (fun x w' => next (a.put o.dst x) w')) : o.wp P a w next Q := by
  obtain ⟨x, v, σ', H', L', hr, hv, hst, hm, hpb, hsn, hc⟩ := hl
  exact wp_valF ho ⟨x, v, σ', H', L', w, hr w (fun _ _ h => h), hv, hst, hm, hpb, hsn, hc, fun _ _ => rfl⟩ hn
theorem wp_val1 (h : St σ H L a w) {s : Sem Value} (ho : execOp a.eval o = (do pure (.value (← s)))) (hl : Val1 P H L (mem w) s (fun v => C v σ) r) (hn : After σ H L a w pb fr C r (fun x w' => next (a.put o.dst x) w')) : o.wp P a w next Q := by
  exact wp_valE ho (hl.landsE h) hn
theorem wp_unit {s : Sem Unit} (hf : fr = false) (ho : execOp a.eval o = (do s; pure .skip))
    (hl : ∃ σ' H' L' w', s.run P w = .ok () w' ∧ St σ' H' L' a w' ∧ Mv σ L H w σ' L' H' w' ∧ ¬ pb ≤ 1 ∧ σ'.n = σ.n ∧ C U σ' = some r) (hn : After σ H L a w pb fr C r (fun x w' => next (a.put o.dst x) w')) : o.wp P a w next Q := by
  obtain ⟨σ', H', L', w', hr, hst, hm, hpb, hsn, hc⟩ := hl
  unfold Oper.wp
  rw [ho]
  simp only [Sem.run_bind, hr, Result.andThen_ok, Sem.run_pure, Oper.upon_skip]
  exact hn _ U σ' H' L' w' SR_U hst hm (fun h => absurd h hpb) hsn hc (fun h => by rw [hf] at h; cases h)
theorem wp_unitF {s : Sem Unit} (ho : execOp a.eval o = (do s; pure .skip))
    (hl : ∃ σ' H' L' w', s.run P w = .ok () w' ∧ St σ' H' L' a w' ∧ Mv σ L H w σ' L' H' w' ∧ ¬ pb ≤ 1 ∧ σ'.n = σ.n ∧ C U σ' = some r ∧ (fr = true → ∀ b, b < w.heap.size → (∀ i, tb (pb - 3) i = true → (L i).blk ≠ b) → w'.heap[b]? = w.heap[b]?)) (hn : After σ H L a w pb fr C r (fun x w' => next (a.put o.dst x) w')) : o.wp P a w next Q := by
  obtain ⟨σ', H', L', w', hr, hst, hm, hpb, hsn, hc, hf⟩ := hl
  unfold Oper.wp
  rw [ho]
  simp only [Sem.run_bind, hr, Result.andThen_ok, Sem.run_pure, Oper.upon_skip]
  exact hn _ U σ' H' L' w' SR_U hst hm (fun h => absurd h hpb) hsn hc hf
/-- captured values, as values -/
theorem caps_cells : ∀ {k : K} {d : k.den} {us : List Value}, k.caps = true → Lv H L k d us → SRs H L (capsOf k d) us := by
  intro k
  induction k with
  | pair a b _ ihb =>
    rintro d us hc ⟨x, y, rfl, h1, h2⟩
    simp only [K.caps, Bool.and_eq_true, Bool.not_eq_true'] at hc
    obtain ⟨u, rfl⟩ := List.length_eq_one_iff.1 (Lv_w1 h1 hc.1.2 hc.1.1)
    have h3 : SR H L ⟨a, d.1⟩ u := by
      have := SR_mk h1
      rwa [mk_flat hc.1.2 rfl] at this
    exact .cons h3 (ihb hc.2 h2)
  | unit => intro d us _ h; rw [show us = [] from h]; exact .nil
  | _ => intro d us hc; simp [K.caps] at hc
theorem mkCaps_lv : ∀ {l : List Val} {us : List Value}, (mkCaps l).1.caps = true → SRs H L l us → Lv H L (mkCaps l).1 (mkCaps l).2 us
  | [], _, _, .nil => rfl
  | ⟨k, d⟩ :: l, x :: us, hc, .cons h t => by
    simp only [mkCaps, K.caps, Bool.and_eq_true, Bool.not_eq_true'] at hc
    exact ⟨[x], us, rfl, SR_one h hc.1.2 hc.1.1, mkCaps_lv hc.2 t⟩

theorem nilCheck_run {x : Value} (ρ : Operand → Value) {y : Operand} {o : Oper} (hy : ρ y = x) (ho : o.op = .nilCheck y)
    (hx : (∃ q, x = .pointer (some q)) ∨ ∃ f us, x = .func (.func f) #[] us) : execOp ρ o = pure (.value x) := by
  simp only [execOp, ho, hy]
  rcases hx with ⟨q, rfl⟩ | ⟨f, us, rfl⟩ <;> rfl

theorem eBuiltin_wp {X : Cx} (hT : TOk P X.T) (h : St σ H L a w) {c : Call} {b : Builtin} (hb : c.callee = .builtin b) (ho : o.op = .call c) {vs : List Val} {xs : List Value} (hxs : (c.args.map a.eval).toList = xs) (hvs : SRs H L vs xs)
    (hf : fr = true → b = .append → False) (he : eBuiltin X pb b c.argTypes.toList σ C vs = some r) (hn : After σ H L a w pb fr C r (fun x w' => next (a.put o.dst x) w')) : o.wp P a w next Q := by
  have hx : c.args.map a.eval = xs.toArray := by rw [← hxs, Array.toArray_toList]
  obtain ⟨cs, hex⟩ : ∃ cs, execOp a.eval o = (builtin b c.argTypes o.type cs xs.toArray) := ⟨_, by
    simp only [execOp, ho, resolve, hb, hx, pure_bind, invoke]
    rfl⟩
  unfold eBuiltin at he
  split at he
  · rename_i t ats x vs' hats
    cases hvs with
    | cons hx0 ht0 =>
    rename_i x' r'
    split at he
    · rename_i td htd
      have h0 : c.argTypes[0]? = some t := by rw [← Array.getElem?_toList, hats]; rfl
      exact wp_val1 h (s := Builtin.len_ c.argTypes o.type (x' :: r').toArray) hex (eLen_ok (hT _ _ htd) h hx0 (fun _ _ _ h => h) he h0 rfl) hn
    · cases he
  · rename_i t ats s x hats
    cases hvs with
    | cons hx0 ht0 =>
    cases ht0 with
    | cons hx1 ht1 =>
    cases ht1
    split at he
    · rename_i td htd
      split at he
      · rename_i e hse
        split at he
        · rename_i te hte
          have h0 : c.argTypes[0]? = some t := by rw [← Array.getElem?_toList, hats]; rfl
          cases hsrc : srcT X.T c.argTypes.toList[1]? with
          | true =>
            rw [hsrc] at he
            have he : eAppend pb td te σ C s x = some r := he
            have hs := hsrc
            unfold srcT at hs
            split at hs
            · rename_i t2 ht2
              split at hs
              · rename_i td2 htd2
                have hu2 := (hT _ _ htd2).u
                have h1 : c.argTypes[1]? = some t2 := by rw [← Array.getElem?_toList]; exact ht2
                split at hs
                · rename_i e2 he2
                  rw [he2] at hu2
                  exact wp_val (by cases hfr : fr with | false => rfl | true => exact (hf hfr rfl).elim) (s := Builtin.append_ c.argTypes o.type #[_, _]) hex (eAppend_ok (hT _ _ htd) (hT _ _ hte) hse h0 h1 (u_sl hu2) (.inl ⟨_, rfl⟩) h hx0 hx1 he) hn
                · rename_i he2
                  rw [he2] at hu2
                  exact wp_val (by cases hfr : fr with | false => rfl | true => exact (hf hfr rfl).elim) (s := Builtin.append_ c.argTypes o.type #[_, _]) hex (eAppend_ok (hT _ _ htd) (hT _ _ hte) hse h0 h1 (u_str hu2) (.inr rfl) h hx0 hx1 he) hn
                · cases hs
              · cases hs
            · cases hs
          | false =>
            rw [hsrc] at he
            have he : cond (intT X.T c.argTypes.toList[1]?) (eAppendN pb td te σ C s x) none = some r := he
            obtain ⟨hs, he⟩ := cond_some he
            unfold intT at hs
            split at hs
            · rename_i t2 ht2
              split at hs
              · rename_i td2 htd2
                have hu2 := (hT _ _ htd2).u
                have h1 : c.argTypes[1]? = some t2 := by rw [← Array.getElem?_toList]; exact ht2
                split at hs
                · rename_i k2 he2
                  rw [he2] at hu2
                  exact wp_val (by cases hfr : fr with | false => rfl | true => exact (hf hfr rfl).elim) (s := Builtin.append_ c.argTypes o.type #[_, _]) hex (eAppendN_ok (hT _ _ htd) (hT _ _ hte) hse h0 h1 (u_int hu2) h hx0 hx1 he) hn
                · cases hs
              · cases hs
            · cases hs
        · cases he
      · cases he
    · cases he
  · rename_i t ats d vs' hats
    cases hvs with
    | cons hx0 ht0 =>
    rename_i x' r'
    split at he
    · rename_i td htd
      split at he
      · rename_i e hse
        have h0 : c.argTypes[0]? = some t := by rw [← Array.getElem?_toList, hats]; rfl
        exact wp_val1 h (s := Builtin.cap_ c.argTypes o.type (x' :: r').toArray) hex (eCap_ok (hT _ _ htd) hse hx0 he h0 rfl) hn
      · cases he
    · cases he
  · exact wp_val1 h (s := Builtin.min_ c.argTypes o.type xs.toArray) hex (eMinMax_ok (mx := false) (ats := c.argTypes) (ty := o.type) hvs he) hn
  · exact wp_val1 h (s := Builtin.max_ c.argTypes o.type xs.toArray) hex (eMinMax_ok (mx := true) (ats := c.argTypes) (ty := o.type) hvs he) hn
  · cases he

theorem convT_ok {T : Types} (hT : TOk P T) {t' : TypeId} {td td' te : TD} (h : convT T td td' = some te) :
    (∀ e, td.u = .sl e → uOk P e te.u = true) ∧ (td.u = .str → ∀ e, td'.u = .sl e → uOk P e te.u = true ∧ te.u = te.u) := by
  unfold convT at h
  constructor
  · intro e he
    rw [he] at h
    exact (hT _ _ h).u
  · intro hs e he
    rw [hs, he] at h
    exact ⟨(hT _ _ h).u, rfl⟩

theorem u_not_ifc {P : Program} {t : TypeId} {u : TU} (h : uOk P t u = true) (hn : u = .ifc → False) : ∀ ms, P.underlying t ≠ some (.interface ms) := by
  intro ms hms
  unfold uOk at h
  rw [hms] at h
  cases u <;> first | (cases h; done) | exact hn rfl

/-- a value, in every world in which E stands, for which C answers r -/
def LandsV {R : Type} (P : Program) (σ : State) (H : Hp) (L : Ls) (a : Act) (w : World) (pb : Nat) (E : Hp) (o : Oper) (C : Kt R) (r : R) : Prop :=
  ∃ x v σ' H' L', (∀ w', Stays E w' → (execOp a.eval o).run P w' = .ok (.value x) w') ∧ SR H' L' v x ∧ St σ' H' L' a w ∧ Mv σ L H w σ' L' H' w ∧
    (pb ≤ 1 → σ'.heap = σ.heap ∧ σ'.next = σ.next ∧ ∀ i, (L i).live = true → L' i = L i) ∧ σ'.n = σ.n ∧ C v σ' = some r
theorem LandsE.landsV {E : Hp} {s : Sem Value} (ho : execOp a.eval o = (do pure (.value (← s)))) (h : LandsE P σ H L a w pb E s C r) : LandsV P σ H L a w pb E o C r := by
  obtain ⟨x, v, σ', H', L', h1, h2⟩ := h
  refine ⟨x, v, σ', H', L', fun w' hw => ?_, h2⟩
  rw [ho]
  simp only [Sem.run_bind, h1 w' hw, Result.andThen_ok, Sem.run_pure]
theorem Val1.landsV {E : Hp} {s : Sem Value} (h : St σ H L a w) (ho : execOp a.eval o = (do pure (.value (← s)))) (hl : Val1 P H L E s (fun v => C v σ) r) : LandsV P σ H L a w pb E o C r := (hl.landsE h).landsV ho
theorem LandsV.pure {E : Hp} (h : St σ H L a w) {x : Value} {v : Val} (ho : execOp a.eval o = pure (.value x)) (hv : SR H L v x) (hc : C v σ = some r) : LandsV P σ H L a w pb E o C r :=
  ⟨x, v, σ, H, L, fun w' _ => by rw [ho]; rfl, hv, h, Mv.refl _ _ _ _, fun _ => ⟨rfl, rfl, fun _ _ => rfl⟩, rfl, hc⟩
theorem wp_valV (hl : LandsV P σ H L a w pb (mem w) o C r) (hn : After σ H L a w pb fr C r (fun x w' => next (a.put o.dst x) w')) : o.wp P a w next Q := by
  obtain ⟨x, v, σ', H', L', hr, hv, hst, hm, hpb, hsn, hc⟩ := hl
  unfold Oper.wp
  rw [hr w (fun _ _ h => h)]
  simp only [Oper.upon_value]
  exact hn x v σ' H' L' w hv hst hm hpb hsn hc (fun _ _ _ _ => rfl)

theorem isSlT_ok {T : Types} {t : TypeId} {td : TD} (h : isSlT T t = false) (ht : tget T t = some td) : ∀ e, td.u ≠ .sl e := by
  intro e he
  unfold isSlT at h
  rw [ht] at h
  simp only [he] at h
  cases h

/-- operations that yield a value and change nothing -/
theorem eOp_val {X : Cx} (hT : TOk P X.T) {E : Hp} (h : St σ H L a w) (hop : vOp X.T o.op = true) (hH : ∀ b q, H b = some q → E b = some q) (hE : weakOk o.op σ = false → (∀ b q, w.heap[b]? = some q → E b = some q) ∨ ∃ t y i p, o.op = .load t y ∧ (opnd σ y).1 = .ptr i p ∧ ∀ q, w.heap[(L i).blk]? = some q → E (L i).blk = some q)
    (he : eOp X pb o σ C = some r) : LandsV P σ H L a w pb E o C r := by
  have hv := opnd_ok h
  have ho : ∃ op, o.op = op := ⟨_, rfl⟩
  obtain ⟨op, ho⟩ := ho
  unfold eOp at he
  rw [ho] at he hop hE
  cases op <;> first | (cases hop; done) | simp only at he
  case move x => exact .pure h (by simp only [execOp, ho] <;> rfl) (hv x) he
  case assign x => exact .pure h (by simp only [execOp, ho] <;> rfl) (hv x) he
  case pick c x y =>
    have h1 := hv c; have h2 := hv x; have h3 := hv y
    split at he
    · rename_i cv xv yv e1 e2 e3
      rw [e1] at h1; rw [e2] at h2; rw [e3] at h3
      have g1 := bool_at h1; have g2 := bool_at h2; have g3 := bool_at h3
      refine .pure h (x := .bool (cond cv xv yv)) ?_ SR_bool he
      simp only [execOp, ho, g1, g2, g3, asBool]
      cases cv <;> rfl
    · cases he
  case load t x =>
    split at he
    · rename_i td htd
      exact Val1.landsV h (by simp only [execOp, ho] <;> rfl) (eLoad_ok (hT _ _ htd) h (hv x) hH (fun i p hp => by
        rcases hE (by simp only [weakOk]; generalize opnd σ x = v at hp ⊢; obtain ⟨k, d⟩ := v; cases hp; rfl) with h1 | ⟨t', y, i', p', e1, e2, h1⟩
        · exact fun q hq => h1 _ q hq
        · cases e1
          rw [hp] at e2
          cases e2
          exact h1) he)
    · cases he
  case fieldAddr t x f =>
    split at he
    · rename_i td htd
      exact Val1.landsV h (by simp only [execOp, ho] <;> rfl) (eFieldAddr_ok (hT _ _ htd) h (hv x) he)
    · cases he
  case indexAddr t x i =>
    split at he
    · rename_i td htd
      split at he
      · rename_i e hu
        split at he
        · rename_i te hte
          exact Val1.landsV h (by simp only [execOp, ho] <;> rfl) (eIndexAddr_ok (hT _ _ htd) (.inl hu) (hT _ _ hte) h (hv i) (hv x) he)
        · cases he
      · rename_i n e hu
        split at he
        · rename_i te hte
          exact Val1.landsV h (by simp only [execOp, ho] <;> rfl) (eIndexAddr_ok (hT _ _ htd) (.inr ⟨_, hu⟩) (hT _ _ hte) h (hv i) (hv x) he)
        · cases he
      · cases he
    · cases he
  case index t x i =>
    split at he
    · rename_i td htd
      have hu := (hT _ _ htd).u
      split at he
      · rename_i n e hu'
        rw [hu'] at hu
        split at he
        · rename_i te hte
          exact Val1.landsV h (by simp only [execOp, ho] <;> rfl) (eIndexA_ok (u_arr hu) (hT _ _ hte) h (hv i) (hv x) he)
        · cases he
      · rename_i hu'
        rw [hu'] at hu
        exact Val1.landsV h (by simp only [execOp, ho] <;> rfl) (eIndexS_ok (u_str hu) h (hv i) (hv x) he)
      · cases he
    · cases he
  case field t x f =>
    split at he
    · rename_i td htd
      exact Val1.landsV h (by simp only [execOp, ho] <;> rfl) (eField_ok hT (hT _ _ htd) h (hv x) he)
    · cases he
  case slice t x lo hi mx =>
    cases mx with
    | some _ => cases he
    | none =>
    simp only at he
    have m1 : ∀ (l : Option Operand) v, l.map (opnd σ) = some v → ∃ x, l.map a.eval = some x ∧ SR H L v x := by
      intro l v hl
      cases l with
      | none => cases hl
      | some l => cases hl; exact ⟨_, rfl, hv l⟩
    have m2 : ∀ (l : Option Operand), l.map (opnd σ) = none → l.map a.eval = none := by
      intro l hl
      cases l with
      | none => rfl
      | some l => cases hl
    split at he
    · rename_i td htd
      split at he
      · rename_i e hu
        split at he
        · rename_i te hte
          exact LandsE.landsV (by simp only [execOp, ho] <;> rfl) (eSlice_ok (E := E) (hT _ _ htd) (fun e' he' => by rw [hu] at he'; cases he'; exact ⟨te, hT _ _ hte, rfl⟩) h (m1 lo) (m2 lo) (m1 hi) (m2 hi) (hv x) he)
        · cases he
      · rename_i hu
        exact LandsE.landsV (by simp only [execOp, ho] <;> rfl) (eSlice_ok (E := E) (hT _ _ htd) (fun e' he' => by rw [hu] at he'; cases he') h (m1 lo) (m2 lo) (m1 hi) (m2 hi) (hv x) he)
      · cases he
    · cases he
  case build t ps =>
    split at he
    · rename_i td htd
      have := parts_mk hv ps.toList
      exact Val1.landsV h (by simp only [execOp, ho] <;> rfl) (eBuild_ok (vparts := ps.map (fun x => (x.1, a.eval x.2))) hT (hT _ _ htd) h (by rw [Array.toList_map]; exact this) he)
    · cases he
  case extract x i =>
    have hx := hv x
    split at he
    · rename_i k d hk
      rw [hk] at hx
      obtain ⟨l, hl, htr⟩ := hx
      split at he
      · rename_i v hv'
        obtain ⟨y, hy, hsr⟩ := eExtract_ok htr hv'
        refine Val1.landsV h (s := Instr.extract (a.eval x) i) (by simp only [execOp, ho] <;> rfl) ⟨y, v, fun w _ => ?_, hsr, he⟩
        rw [hl]
        simp [Instr.extract, hy]
      · cases he
    · cases he
  case binOp op t x y g =>
    split at he
    · rename_i td htd
      refine Val1.landsV h (by simp only [execOp, ho] <;> rfl) (eBin_ok (hT _ _ htd) h (xo := x) (yo := y) ?_ (hv x) (hv y) he)
      intro hl
      cases y <;> first | (cases hl; done) | exact ⟨_, rfl⟩
    · cases he
  case unOp op t x => exact Val1.landsV h (by simp only [execOp, ho] <;> rfl) (eUn_ok (hv x) he)
  case lookup t m x ok =>
    split at he
    · rename_i td htd
      split at he
      · rename_i q hq
        obtain ⟨kt, et, hm⟩ := mapT_ok hT (hT _ _ htd) hq
        exact Val1.landsV h (by simp only [execOp, ho] <;> rfl) (eLookup_ok hm h (hv x) (hv m) ((hE rfl).elim id (fun ⟨_, _, _, _, e1, _⟩ => by cases e1)) he)
      · cases he
    · cases he
  case makeFunc fn first caps =>
    cases fn <;> first | (cases he; done) | skip
    rename_i f
    obtain ⟨hc, he⟩ := cond_some he
    simp only [Bool.and_eq_true] at hc
    have hf : first = #[] := by simpa using hc.1
    have hl := mkCaps_lv hc.2 (eArgs_mk hv caps.toList)
    refine .pure h (x := .func (.func f) #[] (caps.map a.eval)) ?_ (SR_mk (k := .fn f _) (us := [_]) ⟨(caps.map a.eval).toList, by rw [Array.toArray_toList], by rw [Array.toList_map]; exact hl⟩) he
    simp only [execOp, ho, Instr.makeFunc, hf, pure_bind, Array.map_empty]
  case makeInterface t x =>
    obtain ⟨h1, he⟩ := cond_some he
    split at he
    · rename_i td htd
      have hu := (hT _ _ htd).u
      have hni : (∀ ms, P.underlying t ≠ some (.interface ms)) ∧ (∃ d, P.underlying t = some d) := by
        split at he
        · cases he
        · rename_i hne
          obtain ⟨d, hd, hagg⟩ := u_agg hu
          exact ⟨u_not_ifc hu hne, d, hd⟩
      have he' : C ⟨.ifc t (opnd σ x).1, (opnd σ x).2⟩ σ = some r := by
        split at he
        · cases he
        · exact he
      obtain ⟨hni, d, hd⟩ := hni
      obtain ⟨g1, g2⟩ := SR_cells (hv x) h1
      refine Val1.landsV h (s := Instr.makeInterface t (a.eval x)) (by simp only [execOp, ho] <;> rfl) ⟨.iface t (a.eval x), _, fun w _ => ?_, SR_mk (k := .ifc t _) (us := [_]) ⟨_, by rw [← g2], g1⟩, he'⟩
      simp only [Instr.makeInterface, Sem.run_bind, run_underlying hd, Result.andThen_ok]
      cases d <;> first | (exact absurd hd (hni _)) | rfl
    · cases he
  case nilCheck x =>
    have hx := hv x
    split at he
    · rename_i i p d hk
      rw [hk] at hx
      obtain ⟨e, _⟩ := ptr_at hx
      exact .pure h (nilCheck_run a.eval rfl ho (.inl ⟨_, e⟩)) hx he
    · rename_i k d hk
      rw [hk] at hx
      obtain ⟨_, b, o', cs, e, z, e1, _⟩ := fp_at hx
      exact .pure h (nilCheck_run a.eval rfl ho (.inl ⟨_, e1⟩)) hx he
    · rename_i f c d hk
      rw [hk] at hx
      obtain ⟨us, e1, _⟩ := SR_one hx rfl rfl
      have e2 : a.eval x = .func (.func f) #[] us.toArray := by simpa using e1
      exact .pure h (nilCheck_run a.eval rfl ho (.inr ⟨_, _, e2⟩)) hx he
    · cases he
  case convert t t' x =>
    simp only [vOp, Bool.and_eq_true, Bool.not_eq_true'] at hop
    split at he
    · rename_i td td' htd htd'
      split at he
      · rename_i te hte
        exact Val1.landsV h (by simp only [execOp, ho] <;> rfl) (eConvS_ok (hT _ _ htd) (hT _ _ htd') (isSlT_ok hop.1 htd) (isSlT_ok hop.2 htd') (hv x) he)
      · cases he
    · cases he
  case call c =>
    have hargs := eArgs_mk hv c.args.toList
    split at he
    · rename_i b hb
      have hx : c.args.map a.eval = (c.args.toList.map a.eval).toArray := by rw [← Array.toList_map, Array.toArray_toList]
      obtain ⟨cs, hex⟩ : ∃ cs, execOp a.eval o = (builtin b c.argTypes o.type cs (c.args.toList.map a.eval).toArray) := ⟨_, by
        simp only [execOp, ho, resolve, hb, hx, pure_bind, invoke]
        rfl⟩
      simp only [vOp, hb] at hop
      unfold eBuiltin at he
      generalize hvs : c.args.toList.map (opnd σ) = vs at he hargs
      generalize c.args.toList.map a.eval = xs at hargs hex
      split at he
      · rename_i t ats x vs' hats
        cases hargs with
        | cons hx0 ht0 =>
        rename_i x' r'
        split at he
        · rename_i td htd
          have h0 : c.argTypes[0]? = some t := by rw [← Array.getElem?_toList, hats]; rfl
          refine Val1.landsV h (s := Builtin.len_ c.argTypes o.type (x' :: r').toArray) hex (eLen_ok (hT _ _ htd) h hx0 (fun ⟨j, hj⟩ => (hE ?_).elim id (fun ⟨_, _, _, _, e1, _⟩ => by cases e1)) he h0 rfl)
          simp only [weakOk, hvs]
          obtain ⟨k, d⟩ := x
          cases hj
          rfl
        · cases he
      · cases hop
      · rename_i t ats d vs' hats
        cases hargs with
        | cons hx0 ht0 =>
        rename_i x' r'
        split at he
        · rename_i td htd
          split at he
          · rename_i e hse
            have h0 : c.argTypes[0]? = some t := by rw [← Array.getElem?_toList, hats]; rfl
            exact Val1.landsV h (s := Builtin.cap_ c.argTypes o.type (x' :: r').toArray) hex (eCap_ok (hT _ _ htd) hse hx0 he h0 rfl)
          · cases he
        · cases he
      · exact Val1.landsV h (s := Builtin.min_ c.argTypes o.type xs.toArray) hex (eMinMax_ok (mx := false) (ats := c.argTypes) (ty := o.type) hargs he)
      · exact Val1.landsV h (s := Builtin.max_ c.argTypes o.type xs.toArray) hex (eMinMax_ok (mx := true) (ats := c.argTypes) (ty := o.type) hargs he)
      · cases he
    · rename_i f hf
      simp only [vOp, hf] at hop
      cases hop
    · rename_i rv name hf
      simp only [vOp, hf] at hop
      cases hop

theorem keepV_ok (A : Ann) (x : Operand) (v : Val) (h : St σ H L a w) : ∃ H', St (keepV A x v σ) H' L a w ∧ Mv σ L H w (keepV A x v σ) L H' w ∧ (keepV A x v σ).n = σ.n := by
  unfold keepV
  split
  · rename_i d i p ix
    cases A.keeps.any (Nat.beq d) with
    | true => exact h.freezeV i
    | false => exact ⟨H, h, Mv.refl _ _ _ _, rfl⟩
  · exact ⟨H, h, Mv.refl _ _ _ _, rfl⟩

theorem eOp_wp {X : Cx} (hT : TOk P X.T) (hcalls : CallsOk P X) (h : St σ H L a w) (he : eOp X pb o σ C = some r)
    (hn : After σ H L a w pb (!(Nat.beq pb 2) && (freshOp o.op || storeT (pb - 3) o.op σ)) C r (fun x w' => next (a.put o.dst x) w')) : o.wp P a w next Q := by
  cases hop : vOp X.T o.op with
  | true => exact wp_valV (eOp_val hT h hop h.hp.agree (fun _ => .inl (fun _ _ h => h)) he) hn
  | false =>
  have hv := opnd_ok h
  have ho : ∃ op, o.op = op := ⟨_, rfl⟩
  obtain ⟨op, ho⟩ := ho
  unfold eOp at he
  rw [ho] at he hn hop
  cases op <;> first | (cases he; done) | (cases hop; done) | simp only at he
  case alloc t =>
    split at he
    · rename_i td htd
      obtain ⟨hpb, he⟩ := cond_none he
      exact wp_valF (by simp only [execOp, ho] <;> rfl) (eAlloc_ok (hT _ _ htd) h (fun hp => by rw [Nat.ble_eq_true_of_le hp] at hpb; cases hpb) he) hn
    · cases he
  case box t x =>
    cases hk : keptD X.A o.dst with
    | true =>
      rw [hk] at he
      obtain ⟨h1, he⟩ := cond_some (show cond _ _ none = _ from he)
      exact wp_valF (by simp only [execOp, ho] <;> rfl) (eBoxKeep_ok (t := t) h (hv x) h1 he) hn
    | false =>
    rw [hk] at he
    have he : cond _ none _ = _ := he
    obtain ⟨hpb, he⟩ := cond_none he
    simp only [Bool.or_eq_false_iff, Bool.not_eq_false'] at hpb
    exact wp_valF (by simp only [execOp, ho] <;> rfl) (eBox_ok (t := t) h (hv x) hpb.2 (fun hp => by rw [Nat.ble_eq_true_of_le hp] at hpb; cases hpb.1) he) hn
  case store t x y =>
    split at he
    · rename_i td htd
      obtain ⟨σ', H', w', g1, g2, g3, g4, g5, g6, g7⟩ := eStore_ok (hT _ _ htd) h (hv y) (hv x) he
      obtain ⟨H2, k1, k2, k3⟩ := keepV_ok X.A x (opnd σ' x) g2
      refine wp_unitF (by simp only [execOp, ho] <;> rfl) ⟨_, H2, L, w', g1, k1, g3.trans k2, g4, k3.trans g5, g6, fun hf b _ hb => g7 b (fun i q d hp e => ?_)⟩ hn
      simp only [freshOp, storeT, Bool.false_or, Bool.and_eq_true, hp] at hf
      exact hb i hf.2 e.symm
    · cases he
  case makeSlice t n c =>
    split at he
    · rename_i td htd
      split at he
      · rename_i e hu
        split at he
        · rename_i te hte
          exact wp_valF (by simp only [execOp, ho] <;> rfl) (eMakeSlice_ok (hT _ _ htd) (hT _ _ hte) hu h (hv n) (hv c) he) hn
        · cases he
      · cases he
    · cases he
  case buildSlice t n ps =>
    split at he
    · rename_i td htd
      split at he
      · rename_i e hu
        split at he
        · rename_i te hte
          have := parts_mk hv ps.toList
          exact wp_valF (by simp only [execOp, ho] <;> rfl) (eBuildSlice_ok (vparts := ps.map (fun x => (x.1, a.eval x.2))) (hT _ _ htd) (hT _ _ hte) hu h (by rw [Array.toList_map]; exact this) he) hn
        · cases he
      · cases he
    · cases he
  case convert t t' x =>
    split at he
    · rename_i td td' htd htd'
      split at he
      · rename_i te hte
        exact wp_val (by simp [freshOp, storeT]) (by simp only [execOp, ho] <;> rfl) (eConvert_ok (hT _ _ htd) (hT _ _ htd') (convT_ok hT (t' := t') hte) h (hv x) he) hn
      · cases he
    · cases he
  case makeMap t hh =>
    split at he
    · rename_i td htd
      split at he
      · exact wp_valF (by simp only [execOp, ho] <;> rfl) (eMakeMap_ok h he) hn
      · cases he
    · cases he
  case mapUpdate t m x v =>
    split at he
    · rename_i td htd
      split at he
      · rename_i q hq
        obtain ⟨kt, et, hm⟩ := mapT_ok hT (hT _ _ htd) hq
        exact wp_unit (by simp [freshOp, storeT]) (by simp only [execOp, ho] <;> rfl) (eMapUpdate_ok hm h (hv x) (hv v) (hv m) he) hn
      · cases he
    · cases he
  case insert t m x v =>
    split at he
    · rename_i td htd
      split at he
      · rename_i q hq
        obtain ⟨kt, et, hm⟩ := mapT_ok hT (hT _ _ htd) hq
        exact wp_unit (by simp [freshOp, storeT]) (by simp only [execOp, ho] <;> rfl) (eMapUpdate_ok hm h (hv x) (hv v) (hv m) he) hn
      · cases he
    · cases he
  case mapEntry t m x =>
    split at he
    · rename_i td htd
      split at he
      · rename_i q hq
        obtain ⟨kt, et, hm⟩ := mapT_ok hT (hT _ _ htd) hq
        exact wp_val (by simp [freshOp, storeT]) (by simp only [execOp, ho] <;> rfl) (eMapEntry_ok hm h (hv x) (hv m) he) hn
      · cases he
    · cases he
  case entryStore t m s v =>
    split at he
    · rename_i td htd
      split at he
      · rename_i q hq
        obtain ⟨kt, et, hm⟩ := mapT_ok hT (hT _ _ htd) hq
        exact wp_unit (by simp [freshOp, storeT]) (by simp only [execOp, ho] <;> rfl) (eEntryStore_ok hm h (hv s) (hv v) (hv m) he) hn
      · cases he
    · cases he
  case call c =>
    have hargs := eArgs_mk hv c.args.toList
    split at he
    · rename_i b hb
      exact eBuiltin_wp hT h hb ho (xs := c.args.toList.map a.eval) (by rw [Array.toList_map]) hargs (fun hf hb' => by obtain ⟨cal, as, ts⟩ := c; simp only at hb; rw [hb, hb'] at hf; simp [freshOp, storeT] at hf) he hn
    · rename_i f hf
      have hfv := hv f
      split at he
      · rename_i g cs d hk
        rw [hk] at hfv
        obtain ⟨us, e1, hl⟩ := SR_one hfv rfl rfl
        obtain ⟨hc, he⟩ := cond_some he
        have hx : a.eval f = .func (.func g) #[] us.toArray := by simpa using e1
        have hall := hargs.app (caps_cells hc hl)
        unfold Oper.wp
        have : execOp a.eval o = callFunc g (c.args.map a.eval ++ us.toArray) := by
          simp only [execOp, ho, resolve, hf, hx, Deferred.ofValue, pure_bind, invoke, Array.empty_append]
        rw [this]
        have hfr : freshOp (.call c) = true := by
          obtain ⟨cal, as, ts⟩ := c
          simp only at hf
          subst hf
          rfl
        rw [hfr, Bool.true_or, Bool.and_true] at hn
        exact hcalls.2 h (by rw [Array.toList_append, Array.toList_map]; exact hall) he hn
      · cases he
    · rename_i rv name hf
      have hfv := hv rv
      have hfr : freshOp (.call c) = true := by
        obtain ⟨cal, as, ts⟩ := c
        simp only at hf
        subst hf
        rfl
      rw [hfr, Bool.true_or, Bool.and_true] at hn
      split at he
      · rename_i t k d hk
        rw [hk] at hfv
        obtain ⟨us, e1, hl⟩ := SR_one hfv rfl rfl
        have hx : a.eval rv = .iface t (k.mk us) := by simpa using e1
        have hkv : SR H L ⟨k, d⟩ (k.mk us) := SR_mk hl
        have hex : execOp a.eval o = callMethod (a.eval rv) name (c.args.map a.eval) := by
          simp only [execOp, ho, resolve, hf, pure_bind, invoke]
          rw [first_at]
          simp only [first_off]
        have fin : ∀ (f : FuncId) (u : Value), (method (P.types.size + Made.depth) t (k.mk us) name).run P w = .ok (f, u) w → (execOp a.eval o).run P w = (callFunc f (#[u] ++ c.args.map a.eval)).run P w := by
          intro f u hm
          rw [hex, hx]
          simp only [callMethod, Sem.run_bind, run_program, Result.andThen_ok, hm]
        split at he
        · rename_i t' n' f hm
          obtain ⟨m1, m2, m3⟩ := findM_ok hm
          have hb := hcalls.1 _ m1
          simp only at m2 m3
          subst m2
          subst m3
          unfold Oper.wp
          rw [fin f _ (meth_run0 hb _ w)]
          exact hcalls.2 h (by rw [Array.toList_append, Array.toList_map]; exact .cons hkv hargs) he hn
        · rename_i t' n' f s x hm
          obtain ⟨m1, m2, m3⟩ := findM_ok hm
          have hb := hcalls.1 _ m1
          simp only at m2 m3
          subst m2
          subst m3
          split at he
          · rename_i i p d
            split at he
            · rename_i td htd
              obtain ⟨u, v, g1, g2, g3⟩ := eFieldAddr_ok (E := H) (hT _ _ htd) h hkv he
              unfold Oper.wp
              rw [fin f u (meth_run1 hb _ u w (g1 w h.hp.agree) (by obtain ⟨e2, _⟩ := ptr_at hkv; exact ⟨_, e2⟩))]
              exact hcalls.2 h (by rw [Array.toList_append, Array.toList_map]; exact .cons g2 hargs) g3 hn
            · cases he
          · cases he
        · cases he
      · cases he
end
end Go.Proofs.YtofendipdfepoaaDoor.Gp

/- Calls: what a contract says, and that a call is as it says. First part: lists, turns. -/
set_option linter.unusedVariables false
noncomputable section
namespace Go.Proofs.YtofendipdfepoaaDoor.Gp
open Go

theorem hhead_cons {k : K} {r : List K} (d : k.den) (e : HL r) : hhead (hcons d e) = d := by cases r <;> rfl
theorem htail_cons {k : K} {r : List K} (d : k.den) (e : HL r) : htail (hcons d e) = e := by cases r <;> rfl

theorem packL_cons {ρ : Nat → Nat} {vj : List Nat} {k : K} {ks : List K} {v : Val} {vs : List Val} {ds : HL (k :: ks)} (h : packL ρ vj (k :: ks) (v :: vs) = some ds) :
    ∃ d e, coe ρ vj k v.1 v.2 = some d ∧ packL ρ vj ks vs = some e ∧ ds = hcons d e := by
  simp only [packL] at h
  split at h
  · rename_i d e h1 h2
    cases h
    exact ⟨d, e, h1, h2, rfl⟩
  · cases h
theorem packL_srs {H : Hp} {L Lt : Ls} {ρ : Nat → Nat} {vj : List Nat} (m : Maps L Lt ρ vj) : ∀ {ks : List K} {vs : List Val} {xs : List Value} {ds : HL ks}, SRs H L vs xs → packL ρ vj ks vs = some ds → vs.length = ks.length → SRs H Lt (unpackL ks ds) xs
  | [], _, _, ds, .nil, _, _ => .nil
  | k :: ks, v :: vs, x :: xs, ds, .cons h t, hp, hl => by
    simp only [packL] at hp
    split at hp
    · rename_i d e h1 h2
      cases hp
      simp only [unpackL, hhead_cons, htail_cons]
      exact .cons (coe_sr m h1 h) (packL_srs m t h2 (by simpa using hl))
    · cases hp
  | [], v :: vs, _, ds, _, _, hl => by simp at hl
  | k :: ks, [], _, ds, _, _, hl => by simp at hl

theorem assoc_from : ∀ {l : List OK} {i0 i : Nat} {d : HL (l.map (·.toK))}, i0 + l.length ≤ i ∨ i < i0 → assoc O.dead (objsFrom i0 l d) i = O.dead
  | [], _, _, _, _ => rfl
  | s :: r, i0, i, d, h => by
    simp only [objsFrom, assoc]
    have hne : i ≠ i0 := by simp only [List.length_cons] at h; omega
    rw [beqF hne]
    exact assoc_from (by simp only [List.length_cons] at h; omega)

/-- the objects that are handed over -/
theorem objs_at {ρ : Nat → Nat} {vj : List Nat} {σ : State} : ∀ {l : List OK} {i0 i : Nat} {os : HL (l.map (·.toK))}, packL ρ vj (l.map (·.toK)) (objVals σ ρ i0 l.length) = some os → okObjs σ ρ i0 l = true → i0 ≤ i → i < i0 + l.length →
    ∃ s e, l[i - i0]? = some s ∧ assoc O.dead (objsFrom i0 l os) i = ⟨s, e⟩ ∧ coe ρ vj s.toK (σ.heap (ρ i)).1.toK (σ.heap (ρ i)).2 = some e ∧ s.isDead = false ∧ s.same (σ.heap (ρ i)).1 = true
  | [], _, _, _, _, _, h1, h2 => by simp at h2; omega
  | s :: r, i0, i, os, hp, hk, h1, h2 => by
    obtain ⟨d, e, hd, he, rfl⟩ := packL_cons (ks := r.map (·.toK)) (v := ⟨(σ.heap (ρ i0)).1.toK, (σ.heap (ρ i0)).2⟩) hp
    · skip
      simp only [okObjs, Bool.and_eq_true, Bool.not_eq_true'] at hk
      simp only [objsFrom, assoc]
      by_cases hi : i = i0
      · subst hi
        rw [beqT, Nat.sub_self]
        exact ⟨s, d, rfl, by rw [hhead_cons]; rfl, hd, hk.1.1, hk.1.2⟩
      · rw [beqF hi, show i - i0 = (i - (i0 + 1)) + 1 by omega, List.getElem?_cons_succ]
        have := objs_at (i := i) he hk.2 (by omega) (by simp only [List.length_cons] at h2; omega)
        rw [htail_cons]
        exact this

theorem distinct_inj {ren : Nat → Nat} {n : Nat} (h : distinct (images ren n) = true) : ∀ i j, i < n → j < n → ren i = ren j → i = j := by
  have key : ∀ (l : List Nat), distinct l = true → l.Nodup := by
    intro l
    induction l with
    | nil => intro _; exact List.nodup_nil
    | cons a l ih =>
      intro h
      simp only [distinct, Bool.and_eq_true, Bool.not_eq_true', List.any_eq_false] at h
      exact List.nodup_cons.2 ⟨fun hm => h.1 a hm (beqT a), ih h.2⟩
  have h := key _ h
  unfold images at h
  intro i j hi hj he
  have h := List.pairwise_iff_getElem.1 h
  rcases Nat.lt_trichotomy i j with hij | hij | hij
  · have := h i j (by simpa using hi) (by simpa using hj) hij
    rw [List.getElem_map, List.getElem_map, List.getElem_range, List.getElem_range] at this
    exact absurd he this
  · exact hij
  · have := h j i (by simpa using hj) (by simpa using hi) hij
    rw [List.getElem_map, List.getElem_map, List.getElem_range, List.getElem_range] at this
    exact absurd he.symm this

theorem Lv_scal {H H' : Hp} {L L' : Ls} : ∀ {k : K} {d : k.den} {vs : List Value}, k.scal = true → Lv H L k d vs → Lv H' L' k d vs := by
  intro k
  induction k with
  | pair a b iha ihb =>
    rintro d vs hp ⟨x, y, rfl, h1, h2⟩
    simp only [K.scal, Bool.and_eq_true] at hp
    exact ⟨x, y, rfl, iha hp.1 h1, ihb hp.2 h2⟩
  | st k ih => intro d vs hp h; exact ih (d := d) hp h
  | tup k ih => intro d vs hp h; exact h.elim
  | arr n k ih => rintro d vs hp ⟨h0, h1, h2⟩; exact ⟨h0, h1, LvL_mono (fun x us h => ih hp h) h2⟩
  | int | bool | str | unit => intro d vs hp h; exact h
  | _ => intro d vs hp; simp [K.scal] at hp
theorem VR_scal {H H' : Hp} {L L' : Ls} {k : K} {d : k.den} {x : Value} (hs : k.scal = true) (h : VR H L k d x) : VR H' L' k d x := by
  obtain ⟨us, h1, h2⟩ := h
  exact ⟨us, Lv_scal hs h1, h2⟩
theorem Lv_hfr {H H' : Hp} {L : Ls} : ∀ {k : K} {d : k.den} {vs : List Value}, k.hfr = true → Lv H L k d vs → Lv H' L k d vs := by
  intro k
  induction k with
  | pair a b iha ihb =>
    rintro d vs hp ⟨x, y, rfl, h1, h2⟩
    simp only [K.hfr, Bool.and_eq_true] at hp
    exact ⟨x, y, rfl, iha hp.1 h1, ihb hp.2 h2⟩
  | st k ih => intro d vs hp h; exact ih (d := d) hp h
  | tup k ih => intro d vs hp h; exact h.elim
  | arr n k ih => rintro d vs hp ⟨h0, h1, h2⟩; exact ⟨h0, h1, LvL_mono (fun x us h => ih hp h) h2⟩
  | fn f c ih => rintro d vs hp ⟨us, h1, h2⟩; exact ⟨us, h1, ih hp h2⟩
  | ifc t k ih => rintro d vs hp ⟨us, h1, h2⟩; exact ⟨us, h1, ih hp h2⟩
  | sl k => intro d vs hp; simp [K.hfr] at hp
  | fp k => intro d vs hp; simp [K.hfr] at hp
  | _ => intro d vs hp h; exact h
theorem VR_hfr {H H' : Hp} {L : Ls} {k : K} {d : k.den} {x : Value} (hs : k.hfr = true) (h : VR H L k d x) : VR H' L k d x := by
  obtain ⟨us, h1, h2⟩ := h
  exact ⟨us, Lv_hfr hs h1, h2⟩
theorem TR_hfr {H H' : Hp} {L : Ls} : ∀ {k : K} {d : k.den} {l : List Value}, k.hfr = true → TR H L k d l → TR H' L k d l := by
  intro k
  induction k with
  | pair a b iha ihb =>
    rintro d l hp ⟨v, r, rfl, h1, h2⟩
    simp only [K.hfr, Bool.and_eq_true] at hp
    exact ⟨v, r, rfl, VR_hfr hp.1 h1, ihb hp.2 h2⟩
  | unit => intro d l _ h; exact h
  | _ => intro d l _ h; exact h.elim
theorem SR_hfr {H H' : Hp} {L : Ls} {k : K} {d : k.den} {x : Value} (hs : k.hfr = true) (h : SR H L ⟨k, d⟩ x) : SR H' L ⟨k, d⟩ x := by
  cases k <;> first
    | trivial
    | (obtain ⟨l, h1, h2⟩ := h; exact ⟨l, h1, TR_hfr hs h2⟩)
    | exact VR_hfr hs h

-- TURNS
theorem turns_part {H : Hp} {L L' : Ls} {i : Nat} {g : (k : K) → k.den → Option Val} (hg : ∀ k d v, g k d = some v → v = U ∧ gStale i k d = some U) (hL : ∀ j, j ≠ i → L' j = L j)
    (hms : (∀ d, g (.ms i) d = none) → (L i).live = true → (L' i).hdr = (L i).hdr)
    (hst : (∀ d, g (.stamp i) d = none) → False)
    (hb : (L' i).blk = (L i).blk) (ho : (L' i).off = (L i).off) (hl : (L i).live = true → (L' i).live = true)
    (hun : ∀ k d d', g k d = none → g k d' = none) : Turns H L H L' g := by
  have base := turns_stale (H := H) (L := L) (L' := L') (i := i) hL
  refine ⟨fun _ _ h => h, fun k d v vs h hl => ?_, fun k d v h => ?_, fun d => ?_, fun k d => ?_, ?_, ?_, ?_, ?_⟩
  · obtain ⟨rfl, h2⟩ := hg k d v h
    exact base.some k d U vs h2 hl
  · obtain ⟨rfl, h2⟩ := hg k d v h
    exact base.one k d U h2
  · cases hh : g .unit d with
    | none => rfl
    | some v => have := (hg _ _ _ hh).2; cases this
  · cases hh : g (.tup k) d with
    | none => rfl
    | some v => have := (hg _ _ _ hh).2; cases this
  · intro j d h hlv
    by_cases hj : j = i
    · subst hj
      exact ⟨hms (fun d' => hun _ _ _ h) hlv, hl hlv⟩
    · rw [hL j hj]; exact ⟨rfl, hlv⟩
  · intro j d h hlv
    by_cases hj : j = i
    · subst hj; exact ⟨hb, hl hlv⟩
    · rw [hL j hj]; exact ⟨rfl, hlv⟩
  · intro j p d h hlv
    by_cases hj : j = i
    · subst hj; exact ⟨hb, ho, hl hlv⟩
    · rw [hL j hj]; exact ⟨rfl, rfl, hlv⟩
  · intro j d h hlv
    by_cases hj : j = i
    · subst hj; exact (hst (fun d' => hun _ _ _ h)).elim
    · rw [hL j hj]; exact ⟨fun _ _ h => h, hlv⟩

theorem cond_U {b : Bool} {v : Val} (h : (cond b (some U) none) = some v) : v = U ∧ b = true := by
  cases b with
  | false => cases h
  | true => cases h; exact ⟨rfl, rfl⟩
theorem turns_only {H : Hp} {L L' : Ls} {i : Nat} (hL : ∀ j, j ≠ i → L' j = L j) (hb : (L' i).blk = (L i).blk) (ho : (L' i).off = (L i).off) (hl : (L i).live = true → (L' i).live = true) : Turns H L H L' (gOnly i) := by
  refine turns_part (fun k d v h => ?_) hL (fun h => ?_) (fun h => ?_) hb ho hl (fun k d d' h => ?_)
  · cases k <;> first | (cases h; done) | (obtain ⟨h1, h2⟩ := cond_U h; exact ⟨h1, by simp only [gStale, h2]; rfl⟩)
  · have := h (); simp only [gOnly, beqT] at this; cases this
  · have := h (0 : Nat); simp only [gOnly, beqT] at this; cases this
  · cases k <;> exact h
theorem turns_stamp {H : Hp} {L L' : Ls} {i : Nat} (hL : ∀ j, j ≠ i → L' j = L j) (hh : (L' i).hdr = (L i).hdr) (hb : (L' i).blk = (L i).blk) (ho : (L' i).off = (L i).off) (hl : (L i).live = true → (L' i).live = true) : Turns H L H L' (gStaleStamp i) := by
  refine turns_part (fun k d v h => ?_) hL (fun h _ => hh) (fun h => ?_) hb ho hl (fun k d d' h => ?_)
  · cases k <;> first | (cases h; done) | (obtain ⟨h1, h2⟩ := cond_U h; exact ⟨h1, by simp only [gStale, h2]; rfl⟩)
  · have := h (0 : Nat); simp only [gStaleStamp, beqT] at this; cases this
  · cases k <;> exact h

theorem turns_ren {H H' : Hp} {L L' : Ls} {f : Nat → Nat} (hx : ∀ b o, H b = some o → H' b = some o) (hL : ∀ i, (L i).live = true → L' (f i) = L i) : Turns H L H' L' (gRen f) := by
  refine ⟨hx, fun k d v vs h hl => ?_, fun k d v h => ?_, fun _ => rfl, fun _ _ => rfl, fun i d h => (by cases h), fun i d h => (by cases h), fun i p d h => (by cases h), fun i d h => (by cases h)⟩
  · cases k <;> simp only [gRen] at h <;> first | (cases h; done) | skip
    · cases h
      exact ⟨by rw [hL _ hl.2]; exact hl.1, by rw [hL _ hl.2]; exact hl.2⟩
    · cases h
      exact ⟨by rw [hL _ hl.2]; exact hl.1, by rw [hL _ hl.2]; exact hl.2⟩
    · cases h
      exact ⟨by rw [hL _ hl.2]; exact hl.1, by rw [hL _ hl.2]; exact hl.2⟩
    · cases h
      obtain ⟨n, h1, h2, h3⟩ := hl
      exact ⟨n, h1, by rw [hL _ h3]; exact h2, by rw [hL _ h3]; exact h3⟩
  · cases k <;> simp only [gRen] at h <;> first | (cases h; done) | (cases h; exact ⟨rfl, rfl, rfl, rfl⟩)
end Go.Proofs.YtofendipdfepoaaDoor.Gp

/- Calls, second part: what a contract says; the caller's state behind a call. -/
set_option linter.unusedVariables false
noncomputable section
namespace Go.Proofs.YtofendipdfepoaaDoor.Gp
open Go

structure Post (s : Sig) (heap : Nat → O) (L : Ls) (H : Hp) (w : World) (heap' : Nat → O) (L' : Ls) (H' : Hp) (w' : World) : Prop where
  fr : Fr (Own heap L) H w (Own heap' L') H' w'
  keep : ∀ i, i < s.objs.length → (heap i).1.isVM = true → (heap' i).1.isVM = true ∧ (L' i).blk = (L i).blk ∧ (L' i).off = (L i).off ∧ ((L i).live = true → (L' i).live = true)
  fix : ∀ i, s.fix.any (Nat.beq i) = true → (L' i).hdr = (L i).hdr ∧ (L' i).blk = (L i).blk ∧ (L' i).off = (L i).off ∧ ((L i).live = true → (L' i).live = true)

/-- a contract holds -/
def SoundAt (P : Program) (fuel : Nat) (s : Sig) : Prop :=
  (∃ fn c, P.funcs[s.f]? = some fn ∧ (fn.name == "runtime.NumGoroutine") = false ∧ fn.body = some c) ∧
  ∀ (ds : HL s.params) (os : HL (s.objs.map (·.toK))) (q : s.res.den × HL (s.outs.map (·.toK))), s.run fuel ds os = some q → ∀ (xs : Array Value) (w : World) (H : Hp) (L : Ls), SRs H L (unpackL s.params ds) xs.toList →
    HeapOk (assoc O.dead (objsFrom 0 s.objs os)) H L w → (∀ i, (L i).live = true → i < s.objs.length) →
    Calls P s.f xs w fun e w' => ∃ v H' L', e = .returned v ∧ SR H' L' ⟨s.res, q.1⟩ v ∧ HeapOk (assoc O.dead (objsFrom 0 s.outs q.2)) H' L' w' ∧ (∀ i, (L' i).live = true → i < s.outs.length) ∧
      Post s (assoc O.dead (objsFrom 0 s.objs os)) L H w (assoc O.dead (objsFrom 0 s.outs q.2)) L' H' w'

def ownsT (s : OK) (nil : Bool) : Prop :=
  match s with
  | .dead => False
  | .row _ => nil = false
  | _ => True
theorem owns_iff {heap : Nat → O} {L : Ls} {i : Nat} : owns heap L i ↔ ownsT (heap i).1 (L i).nil := Iff.rfl
theorem ownsT_trav {g} {o : O} {b : Bool} : ownsT (travO g o).1 b ↔ ownsT o.1 b := by
  obtain ⟨s, d⟩ := o
  cases s <;> exact Iff.rfl
theorem ownsT_same {s t : OK} {b : Bool} (h : s.same t = true) : ownsT s b ↔ ownsT t b := by
  cases s <;> cases t <;> first | exact Iff.rfl | (cases h; done)
theorem ownsT_dead {s : OK} {b : Bool} (h : s.isDead = true) : ¬ ownsT s b := by
  cases s <;> first | exact id | (cases h; done)

theorem putOuts_at {f : Nat → Nat} : ∀ {l : List OK} {i0 : Nat} {d : HL (l.map (·.toK))} {σ : State}, (∀ i j, f i = f j → i = j) →
    (∀ i, i0 ≤ i → i < i0 + l.length → (putOuts f (objsFrom i0 l d) σ).heap (f i) = travO (gRen f) (assoc O.dead (objsFrom i0 l d) i)) ∧
    (∀ j, (∀ i, i0 ≤ i → i < i0 + l.length → f i ≠ j) → (putOuts f (objsFrom i0 l d) σ).heap j = σ.heap j) ∧
    (putOuts f (objsFrom i0 l d) σ).env = σ.env ∧ (putOuts f (objsFrom i0 l d) σ).n = σ.n ∧ (putOuts f (objsFrom i0 l d) σ).m = σ.m
  | [], i0, d, σ, _ => ⟨fun i h1 h2 => by simp at h2; omega, fun _ _ => rfl, rfl, rfl, rfl⟩
  | s :: r, i0, d, σ, hf => by
    obtain ⟨g1, g2, g3, g4, g5⟩ := putOuts_at (l := r) (i0 := i0 + 1) (d := htail d) (σ := σ.setO (f i0) (travO (gRen f) ⟨s, hhead d⟩)) hf
    have e : putOuts f (objsFrom i0 (s :: r) d) σ = putOuts f (objsFrom (i0 + 1) r (htail d)) (σ.setO (f i0) (travO (gRen f) ⟨s, hhead d⟩)) := rfl
    rw [e]
    refine ⟨fun i h1 h2 => ?_, fun j hj => ?_, g3, g4, g5⟩
    · simp only [objsFrom, assoc]
      by_cases hi : i = i0
      · subst hi
        rw [beqT]
        rw [g2 (f i) (fun k h3 _ e => by have := hf _ _ e; omega)]
        exact upd_same _ _ _
      · rw [beqF hi]
        exact g1 i (by omega) (by simp only [List.length_cons] at h2; omega)
    · rw [g2 j (fun i h1 h2 => hj i (by omega) (by simp only [List.length_cons]; omega))]
      exact upd_other (fun e => hj i0 (Nat.le_refl _) (by simp only [List.length_cons]; omega) e.symm)

theorem fold_turn {s : Sig} {ren : Nat → Nat} {H : Hp} {L' : Ls} : ∀ (is : List Nat) {σ : State} {Lc : Ls}, is.Pairwise (fun i j => ren i ≠ ren j) →
    (∀ i ∈ is, ∀ Ld : Ls, Ld (ren i) = Lc (ren i) → Turns H Ld H (upd Ld (ren i) (L' i)) (s.turn i (ren i))) →
    ∃ Le : Ls, (∀ i ∈ is, Le (ren i) = L' i) ∧ (∀ j, (∀ i ∈ is, ren i ≠ j) → Le j = Lc j) ∧
      (∀ t x, SR H Lc (σ.env t) x → SR H Le ((is.foldl (fun σ i => σ.trav (s.turn i (ren i))) σ).env t) x) ∧
      (∀ j w c, OR H Lc w c (σ.heap j).1 (σ.heap j).2 → OR H Le w c ((is.foldl (fun σ i => σ.trav (s.turn i (ren i))) σ).heap j).1 ((is.foldl (fun σ i => σ.trav (s.turn i (ren i))) σ).heap j).2) ∧
      (∀ j, ((is.foldl (fun σ i => σ.trav (s.turn i (ren i))) σ).heap j).1.isDead = (σ.heap j).1.isDead ∧ ((is.foldl (fun σ i => σ.trav (s.turn i (ren i))) σ).heap j).1.isVM = (σ.heap j).1.isVM ∧
        (∀ b, ownsT ((is.foldl (fun σ i => σ.trav (s.turn i (ren i))) σ).heap j).1 b ↔ ownsT (σ.heap j).1 b)) ∧
      (is.foldl (fun σ i => σ.trav (s.turn i (ren i))) σ).n = σ.n ∧ (is.foldl (fun σ i => σ.trav (s.turn i (ren i))) σ).m = σ.m
  | [], σ, Lc, _, _ => ⟨Lc, fun _ h => (by cases h), fun _ _ => rfl, fun _ _ h => h, fun _ _ _ h => h, fun _ => ⟨rfl, rfl, fun _ => Iff.rfl⟩, rfl, rfl⟩
  | i :: is, σ, Lc, hp, ht => by
    have hp := List.pairwise_cons.1 hp
    have t0 := ht i (List.mem_cons_self ..) Lc rfl
    obtain ⟨Le, h1, h2, h3, h4, h5, h6, h7⟩ := fold_turn (s := s) (ren := ren) (H := H) (L' := L') is (σ := σ.trav (s.turn i (ren i))) (Lc := upd Lc (ren i) (L' i)) hp.2
      (fun j hj Ld hd => ht j (List.mem_cons_of_mem _ hj) Ld (by rw [hd, upd_other (fun e => hp.1 j hj e.symm)]))
    refine ⟨Le, fun j hj => ?_, fun j hj => ?_, fun t x hx => h3 t x (t0.sr hx), fun j w c hx => h4 j w c (OR.turn t0 hx), fun j => ?_, h6, h7⟩
    · rcases List.mem_cons.1 hj with rfl | hj
      · rw [h2 _ (fun k hk e => hp.1 k hk e.symm)]
        exact upd_same _ _ _
      · exact h1 j hj
    · rw [h2 j (fun k hk => hj k (List.mem_cons_of_mem _ hk)), upd_other (fun e => hj i (List.mem_cons_self ..) e.symm)]
    · obtain ⟨a1, a2, a3⟩ := h5 j
      exact ⟨a1.trans travO_fst, a2.trans travO_vm, fun b => (a3 b).trans ownsT_trav⟩

theorem outs_at : ∀ {l : List OK} {i0 i : Nat} {d : HL (l.map (·.toK))}, (assoc O.dead (objsFrom i0 l d) i).1.isDead = true ∨ (assoc O.dead (objsFrom i0 l d) i).1 ∈ l
  | [], _, _, _ => .inl rfl
  | s :: r, i0, i, d => by
    simp only [objsFrom, assoc]
    by_cases hi : i = i0
    · subst hi; rw [beqT]; exact .inr (List.mem_cons_self ..)
    · rw [beqF hi]
      rcases outs_at (l := r) (i0 := i0 + 1) (i := i) (d := htail d) with h | h
      · exact .inl h
      · exact .inr (List.mem_cons_of_mem _ h)

theorem OR_hfr {H H' : Hp} {L : Ls} {w : World} {c : Loc} {s : OK} {d : s.toK.den} (hs : s.hfr = true) (h : OR H L w c s d) : OR H' L w c s d := by
  cases s with
  | dead => trivial
  | var k =>
    obtain ⟨h1, cs, e, z, h2, h3, h4⟩ := h
    exact ⟨h1, cs, e, z, h2, h3, Lv_hfr hs h4⟩
  | row k =>
    obtain ⟨h1, h2, h3⟩ := h
    refine ⟨h1, h2, h3.imp id ?_⟩
    rintro ⟨g1, g2, cs, e, z, g3, g4, g5, g6⟩
    exact ⟨g1, g2, cs, e, z, g3, g4, g5, LvL_mono (fun x us h => Lv_scal hs h) g6⟩
  | map a b =>
    obtain ⟨h1, h2, es, clock, h3, h4⟩ := h
    have hs : a.scal = true ∧ b.scal = true := by simpa [OK.hfr] using hs
    exact ⟨h1, h2, es, clock, h3, ⟨h4.born, h4.len, fun i e x he hx => ⟨VR_scal hs.1 (h4.key i e x he hx).1, VR_scal hs.2 (h4.key i e x he hx).2⟩, h4.fresh, h4.dif, h4.apart⟩⟩

/-- an object handed over, as the callee sees it -/
theorem OR_hand {H Hl : Hp} {L Lc : Ls} {ren : Nat → Nat} {vj : List Nat} {w : World} {c : Loc} {s : OK} {e : s.toK.den} {o : O} (m : Maps L Lc ren vj) (hx : ∀ b o, H b = some o → Hl b = some o) (hs : s.same o.1 = true) (hd : s.isDead = false)
    (hc : coe ren vj s.toK o.1.toK o.2 = some e) (h : OR H L w c o.1 o.2) : OR Hl Lc w c s e := by
  obtain ⟨t, d⟩ := o
  cases s <;> cases t <;> first | (cases hs; done) | (cases hd; done) | skip
  · obtain ⟨h1, cs, e', z, h2, h3, h4⟩ := h
    exact ⟨h1, cs, e', z, h2, h3, (coe_lv m hc (h4.mono hx)).1⟩
  · rename_i k k'
    rcases into_sl (k := k) (k' := .sl k') hc with ⟨⟨d', hd'⟩, _⟩ | ⟨_, hd'⟩
    · cases hd'
    · cases hd'
      exact OR.mono (s := .row k) hx (fun k' e => by cases e) h
  · rename_i a b a' b'
    rcases into_sl (k := .pair a b) (k' := .sl (.pair a' b')) hc with ⟨⟨d', hd'⟩, _⟩ | ⟨_, hd'⟩
    · cases hd'
    · cases hd'
      exact OR.mono (s := .map a b) hx (fun k' e => by cases e) h
end Go.Proofs.YtofendipdfepoaaDoor.Gp

/- Calls, third part: a call, seen from the caller. -/
set_option linter.unusedVariables false
noncomputable section
namespace Go.Proofs.YtofendipdfepoaaDoor.Gp
open Go

open Classical in
/-- where things are behind the call -/
noncomputable def locs (back : Nat → Nat) (L L' : Ls) : Ls := fun j => if h : ∃ i, back i = j then L' h.choose else L j
theorem locs_back {back : Nat → Nat} {L L' : Ls} (hb : ∀ i j, back i = back j → i = j) (i : Nat) : locs back L L' (back i) = L' i := by
  have h : ∃ k, back k = back i := ⟨i, rfl⟩
  unfold locs
  rw [dif_pos h, hb _ _ h.choose_spec]
theorem locs_other {back : Nat → Nat} {L L' : Ls} {j : Nat} (h : ∀ i, back i ≠ j) : locs back L L' j = L j := by
  unfold locs
  rw [dif_neg (fun ⟨i, hi⟩ => h i hi)]
open Classical in
noncomputable def hpBack (H Hl H' : Hp) : Hp := fun b => if (∃ o, Hl b = some o) ∧ H b = none then none else H' b

theorem blt_lt {a b : Nat} (h : a < b) : Nat.blt a b = true := Nat.ble_eq_true_of_le h
theorem blt_ge {a b : Nat} (h : b ≤ a) : Nat.blt a b = false := by
  cases hb : Nat.blt a b with
  | false => rfl
  | true => have := Nat.le_of_ble_eq_true hb; omega
theorem call_core {P : Program} {fuel : Nat} {s : Sig} (hs : SoundAt P fuel s) (hnN : s.objs.length ≤ s.outs.length) {σ : State} {H : Hp} {L : Ls} {a : Act} {w : World} (h : St σ H L a w) {Hl : Hp} (hx : ∀ b o, H b = some o → Hl b = some o) (hag : ∀ b o, Hl b = some o → w.heap[b]? = some o)
    {ren : Nat → Nat} (hren : ∀ i, s.objs.length ≤ i → ren i = σ.next) (hobj : okObjs σ ren 0 s.objs = true) (hdis : distinct (images ren s.objs.length) = true)
    (hap : ∀ i, i < s.objs.length → owns σ.heap L (ren i) → Hl (L (ren i)).blk = none) (hsc : s.scal = true ∨ Hl = H)
    {vs : List Val} {xs : Array Value} (hv : SRs Hl L vs xs.toList) (hlen : vs.length = s.params.length) {ds : HL s.params} (hds : packL ren [] s.params vs = some ds)
    {os : HL (s.objs.map (·.toK))} (hos : packL ren [] (s.objs.map (·.toK)) (objVals σ ren 0 s.objs.length) = some os) {q : s.res.den × HL (s.outs.map (·.toK))} (hr : s.run fuel ds os = some q) :
    Calls P s.f xs w fun e w' => ∃ v H' L', e = .returned v ∧ SR H' L' (s.after ⟨σ, ren, ds, os⟩ q).1 v ∧ St (s.after ⟨σ, ren, ds, os⟩ q).2 H' L' a w' ∧ Mv σ L H w (s.after ⟨σ, ren, ds, os⟩ q).2 L' H' w' ∧
      (s.after ⟨σ, ren, ds, os⟩ q).2.n = σ.n ∧ (∀ b, b < w.heap.size → (∀ i, i < s.objs.length → (L (ren i)).blk ≠ b) → w'.heap[b]? = w.heap[b]?) ∧ (s.objs = [] → s.outs = [] → (s.after ⟨σ, ren, ds, os⟩ q).2.heap = σ.heap ∧ (s.after ⟨σ, ren, ds, os⟩ q).2.next = σ.next ∧ ∀ i, (L i).live = true → L' i = L i) := by
  have hm : Maps L (fun i => L (ren i)) ren [] := ⟨fun _ _ => rfl, fun _ hh => by cases hh⟩
  have hat : ∀ i, i < s.objs.length → ∃ k e, s.objs[i]? = some k ∧ assoc O.dead (objsFrom 0 s.objs os) i = ⟨k, e⟩ ∧ coe ren [] k.toK (σ.heap (ren i)).1.toK (σ.heap (ren i)).2 = some e ∧ k.isDead = false ∧ k.same (σ.heap (ren i)).1 = true := by
    intro i hi
    have := objs_at (i := i) hos hobj (Nat.zero_le _) (by omega)
    rwa [Nat.sub_zero] at this
  have hout : ∀ i, s.objs.length ≤ i → assoc O.dead (objsFrom 0 s.objs os) i = O.dead := fun i hi => assoc_from (.inl (by omega))
  have hlt : ∀ i, i < s.objs.length → ren i < σ.next := by
    intro i hi
    obtain ⟨k, e, _, _, _, hd, hsm⟩ := hat i hi
    by_cases hlt : ren i < σ.next
    · exact hlt
    · have := h.top (ren i) (by omega)
      exfalso
      revert hsm this
      cases k <;> cases (σ.heap (ren i)).1 <;> simp [OK.same, OK.isDead] at hd ⊢
  have hinj := distinct_inj hdis
  have hown : ∀ i, owns (assoc O.dead (objsFrom 0 s.objs os)) (fun i => L (ren i)) i → i < s.objs.length ∧ owns σ.heap L (ren i) := by
    intro i ho
    by_cases hi : i < s.objs.length
    · obtain ⟨k, e, _, he, _, _, hsm⟩ := hat i hi
      rw [owns_iff, he] at ho
      exact ⟨hi, (ownsT_same hsm).1 ho⟩
    · rw [owns_iff, hout i (by omega)] at ho
      exact ho.elim
  have hOwn : ∀ b, Own (assoc O.dead (objsFrom 0 s.objs os)) (fun i => L (ren i)) b → Own σ.heap L b := by
    rintro b ⟨i, hi, rfl⟩
    exact ⟨ren i, (hown i hi).2, rfl⟩
  have hheap : HeapOk (assoc O.dead (objsFrom 0 s.objs os)) Hl (fun i => L (ren i)) w := by
    refine ⟨fun i => ?_, hag, fun i hi => hap i (hown i hi).1 (hown i hi).2, fun i j hi hj he => hinj i j (hown i hi).1 (hown j hj).1 (h.hp.inj _ _ (hown i hi).2 (hown j hj).2 he), h.hp.glob.mono hx⟩
    by_cases hi : i < s.objs.length
    · obtain ⟨k, e, _, he, hc, hd, hsm⟩ := hat i hi
      rw [he]
      exact OR_hand hm hx hsm hd hc (h.hp.obj (ren i))
    · rw [hout i (by omega)]
      trivial
  have hlive : ∀ i, (L (ren i)).live = true → i < s.objs.length := by
    intro i hi
    by_cases hlt : i < s.objs.length
    · exact hlt
    · have := h.live _ hi
      rw [hren i (by omega)] at this
      omega
  refine Calls.mono (hs.2 ds os q hr xs w Hl (fun i => L (ren i)) (packL_srs hm hv hds hlen) hheap hlive) fun e w' hh => ?_
  obtain ⟨v, H', L', rfl, hres, hhp, hlv, hpost⟩ := hh
  -- names behind the call
  have hback1 : ∀ i, i < s.objs.length → s.back ren σ.next i = ren i := fun i hi => by unfold Sig.back; rw [blt_lt hi]; rfl
  have hback2 : ∀ i, s.objs.length ≤ i → s.back ren σ.next i = σ.next + (i - s.objs.length) := fun i hi => by
    unfold Sig.back; rw [blt_ge hi]; rfl
  have hbi : ∀ i j, s.back ren σ.next i = s.back ren σ.next j → i = j := by
    intro i j he
    by_cases hi : i < s.objs.length <;> by_cases hj : j < s.objs.length
    · rw [hback1 i hi, hback1 j hj] at he; exact hinj i j hi hj he
    · rw [hback1 i hi, hback2 j (by omega)] at he; have := hlt i hi; omega
    · rw [hback2 i (by omega), hback1 j hj] at he; have := hlt j hj; omega
    · rw [hback2 i (by omega), hback2 j (by omega)] at he; omega
  have hcov : ∀ j, (∀ i, s.back ren σ.next i ≠ j) → j < σ.next ∧ ∀ i, i < s.objs.length → ren i ≠ j := by
    intro j hj
    refine ⟨?_, fun i hi e => hj i (by rw [hback1 i hi]; exact e)⟩
    by_cases hlt : j < σ.next
    · exact hlt
    · exact absurd (by rw [hback2 _ (by omega)]; omega) (hj (s.objs.length + (j - σ.next)))
  -- frozen memory behind the call
  have f1 : ∀ b o, H b = some o → hpBack H Hl H' b = some o := by
    intro b o hb
    unfold hpBack
    rw [if_neg (fun hc => by rw [hc.2] at hb; cases hb)]
    exact hpost.fr.ext _ _ (hx _ _ hb)
  have f2 : ∀ b o, hpBack H Hl H' b = some o → H' b = some o := by
    intro b o hb
    unfold hpBack at hb
    split at hb
    · cases hb
    · exact hb
  have f3 : ∀ b o, hpBack H Hl H' b = some o → H b = some o ∨ Own (assoc O.dead (objsFrom 0 s.objs os)) (fun i => L (ren i)) b ∨ w.heap.size ≤ b := by
    intro b o hb
    have h2 := f2 b o hb
    rcases hpost.fr.new b o h2 with h3 | h3
    · cases hHb : H b with
      | none =>
        unfold hpBack at hb
        rw [if_pos ⟨⟨o, h3⟩, hHb⟩] at hb
        cases hb
      | some o' =>
        have := hx _ _ hHb
        rw [this] at h3
        exact .inl h3
    · exact .inr h3
  have f4 : s.scal = true ∨ ∀ b o, H' b = some o → hpBack H Hl H' b = some o := by
    rcases hsc with hsc | hsc
    · exact .inl hsc
    · refine .inr fun b o hb => ?_
      unfold hpBack
      rw [if_neg (fun hc => by obtain ⟨⟨o', h1⟩, h2⟩ := hc; rw [hsc, h2] at h1; cases h1)]
      exact hb
  have hres2 : SR (hpBack H Hl H') L' ⟨s.res, q.1⟩ v := by
    rcases f4 with hsc | hm
    · simp only [Sig.scal, Bool.and_eq_true] at hsc
      exact SR_hfr hsc.1 hres
    · exact hres.mono hm
  have hobj2 : ∀ i, OR (hpBack H Hl H') L' w' (L' i) (assoc O.dead (objsFrom 0 s.outs q.2) i).1 (assoc O.dead (objsFrom 0 s.outs q.2) i).2 := by
    intro i
    have h0 := hhp.obj i
    rcases f4 with hsc | hm
    · simp only [Sig.scal, Bool.and_eq_true] at hsc
      rcases outs_at (l := s.outs) (i0 := 0) (i := i) (d := q.2) with hd | hmem
      · exact isDead_of hd
      · exact OR_hfr (List.all_eq_true.1 hsc.2 _ hmem) h0
    · exact OR.dead hm (fun _ _ => rfl) h0
  -- what else refers to what was handed over
  obtain ⟨Le, e1, e2, e3, e4, e5, e6, e7⟩ := fold_turn (s := s) (ren := ren) (H := H) (L' := L') (List.range s.objs.length) (σ := σ) (Lc := L)
    (List.pairwise_iff_getElem.2 (fun i j hi hj hij he => by
      simp only [List.getElem_range] at he
      have := hinj _ _ (by simpa using hi) (by simpa using hj) he
      omega))
    (fun i hi Ld hd => by
      have hi : i < s.objs.length := by simpa using hi
      obtain ⟨k, e, hk, he, hc, hdd, hsm⟩ := hat i hi
      have hother : ∀ j, j ≠ ren i → upd Ld (ren i) (L' i) j = Ld j := fun j hj => upd_other hj
      unfold Sig.turn
      rw [hk]
      have vm : (k.isVM = true) → Turns H Ld H (upd Ld (ren i) (L' i)) (gOnly (ren i)) := by
        intro hvm
        obtain ⟨_, g2, g3, g4⟩ := hpost.keep i hi (by rw [he]; exact hvm)
        exact turns_only hother (by rw [upd_same, hd]; exact g2) (by rw [upd_same, hd]; exact g3) (by rw [upd_same, hd]; exact g4)
      cases k with
      | dead => cases hdd
      | var k => exact vm rfl
      | map a b => exact vm rfl
      | row k =>
        show Turns H Ld H _ (cond _ (gStaleStamp _) (gStale _))
        cases hf : s.fix.any (Nat.beq i) with
        | true =>
          obtain ⟨g1, g2, g3, g4⟩ := hpost.fix i hf
          exact turns_stamp hother (by rw [upd_same, hd]; exact g1) (by rw [upd_same, hd]; exact g2) (by rw [upd_same, hd]; exact g3) (by rw [upd_same, hd]; exact g4)
        | false => exact turns_stale hother)
  obtain ⟨p1, p2, p3, p4, p5⟩ := putOuts_at (f := s.back ren σ.next) (l := s.outs) (i0 := 0) (d := q.2) (σ := (List.range s.objs.length).foldl (fun σ i => σ.trav (s.turn i (ren i))) σ) hbi
  have hafter : (s.after ⟨σ, ren, ds, os⟩ q) = (travV (gRen (s.back ren σ.next)) ⟨s.res, q.1⟩, { putOuts (s.back ren σ.next) (objsFrom 0 s.outs q.2) ((List.range s.objs.length).foldl (fun σ i => σ.trav (s.turn i (ren i))) σ) with next := σ.next + (s.outs.length - s.objs.length) }) := rfl
  rw [hafter]
  generalize hσ1 : (List.range s.objs.length).foldl (fun σ i => σ.trav (s.turn i (ren i))) σ = σ1 at e3 e4 e5 e6 e7 p1 p2 p3 p4 p5 ⊢
  generalize hσ2 : putOuts (s.back ren σ.next) (objsFrom 0 s.outs q.2) σ1 = σ2 at p1 p2 p3 p4 p5 ⊢
  have hLb := locs_back (L := L) (L' := L') hbi
  have hLo : ∀ j, (∀ i, s.back ren σ.next i ≠ j) → locs (s.back ren σ.next) L L' j = L j := fun j hj => locs_other hj
  have tr : Turns (hpBack H Hl H') L' (hpBack H Hl H') (locs (s.back ren σ.next) L L') (gRen (s.back ren σ.next)) := turns_ren (fun _ _ h => h) (fun i _ => hLb i)
  -- the objects
  have hin : ∀ i, i < s.outs.length → σ2.heap (s.back ren σ.next i) = travO (gRen (s.back ren σ.next)) (assoc O.dead (objsFrom 0 s.outs q.2) i) := fun i hi => p1 i (Nat.zero_le _) (by omega)
  have hnew : ∀ i, s.outs.length ≤ i → (σ2.heap (s.back ren σ.next i)).1.isDead = true := by
    intro i hi
    rw [p2 _ (fun k _ hk e => by have := hbi _ _ e; omega), (e5 _).1]
    exact h.top _ (by rw [hback2 i (by omega)]; omega)
  have hoth : ∀ j, (∀ i, s.back ren σ.next i ≠ j) → σ2.heap j = σ1.heap j := fun j hj => p2 j (fun i _ _ => hj i)
  have hLe : ∀ j, (Le j).live = true → locs (s.back ren σ.next) L L' j = Le j := by
    intro j hj
    by_cases hc : ∃ i, s.back ren σ.next i = j
    · obtain ⟨i, rfl⟩ := hc
      rw [hLb]
      by_cases hi : i < s.objs.length
      · rw [hback1 i hi]; exact (e1 i (by simpa using hi)).symm
      · rw [hback2 i (by omega)] at hj
        rw [e2 _ (fun k hk e => by have := hlt k (by simpa using hk); omega)] at hj
        have := h.live _ hj
        omega
    · have hc' : ∀ i, s.back ren σ.next i ≠ j := fun i hi => hc ⟨i, hi⟩
      rw [hLo j hc', e2 j (fun i hi => (hcov j hc').2 i (by simpa using hi))]
  have howns : ∀ j, owns σ2.heap (locs (s.back ren σ.next) L L') j → (∃ i, i < s.outs.length ∧ s.back ren σ.next i = j ∧ owns (assoc O.dead (objsFrom 0 s.outs q.2)) L' i) ∨ ((∀ i, s.back ren σ.next i ≠ j) ∧ owns σ.heap L j) := by
    intro j ho
    by_cases hc : ∃ i, s.back ren σ.next i = j
    · obtain ⟨i, rfl⟩ := hc
      by_cases hi : i < s.outs.length
      · refine .inl ⟨i, hi, rfl, ?_⟩
        rw [owns_iff, hin i hi, hLb] at ho
        exact ownsT_trav.1 ho
      · exact absurd ho (ownsT_dead (hnew i (by omega)))
    · have hc' : ∀ i, s.back ren σ.next i ≠ j := fun i hi => hc ⟨i, hi⟩
      refine .inr ⟨hc', ?_⟩
      rw [owns_iff, hoth j hc', hLo j hc'] at ho
      exact ((e5 j).2.2 _).1 ho
  have hkeepb : ∀ j, (∀ i, s.back ren σ.next i ≠ j) → owns σ.heap L j → (L j).blk < w.heap.size ∧ ¬ Own (assoc O.dead (objsFrom 0 s.objs os)) (fun i => L (ren i)) (L j).blk := by
    intro j hc ho
    refine ⟨OR.lt (h.hp.obj j) ho, fun ⟨i, hi, he⟩ => ?_⟩
    obtain ⟨hi1, hi2⟩ := hown i hi
    exact (hcov j hc).2 i hi1 (h.hp.inj _ _ hi2 ho he)
  have hst : St { σ2 with next := σ.next + (s.outs.length - s.objs.length) } (hpBack H Hl H') (locs (s.back ren σ.next) L L') a w' := by
    refine ⟨⟨fun j => ?_, fun b o hb => hhp.agree b o (f2 b o hb), fun j hj => ?_, fun j k hj hk he => ?_, h.hp.glob.mono f1⟩, fun t => ?_, fun j hj => ?_, ?_, fun j hj => ?_, ?_⟩
    · show OR _ _ w' _ (σ2.heap j).1 (σ2.heap j).2
      by_cases hc : ∃ i, s.back ren σ.next i = j
      · obtain ⟨i, rfl⟩ := hc
        by_cases hi : i < s.outs.length
        · rw [hin i hi, hLb]
          exact OR.turn tr (hobj2 i)
        · exact isDead_of (hnew i (by omega))
      · have hc' : ∀ i, s.back ren σ.next i ≠ j := fun i hi => hc ⟨i, hi⟩
        rw [hoth j hc', hLo j hc']
        have h1 := e4 j w (L j) (h.hp.obj j)
        have h2 : OR H Le w' (L j) (σ1.heap j).1 (σ1.heap j).2 := OR.world (L0 := L) h1 (fun ho => by
          have ho : owns σ.heap L j := ((e5 j).2.2 _).1 ho
          obtain ⟨g1, g2⟩ := hkeepb j hc' ho
          exact hpost.fr.same _ g1 g2)
        exact OR.dead f1 hLe h2
    · rcases howns j hj with ⟨i, hi, rfl, ho⟩ | ⟨hc, ho⟩
      · rw [hLb]
        cases hb : hpBack H Hl H' (L' i).blk with
        | none => rfl
        | some o => have := hhp.apart i ho; rw [f2 _ _ hb] at this; cases this
      · rw [hLo j hc]
        obtain ⟨g1, g2⟩ := hkeepb j hc ho
        cases hb : hpBack H Hl H' (L j).blk with
        | none => rfl
        | some o =>
          rcases f3 _ _ hb with g | g | g
          · rw [h.hp.apart j ho] at g; cases g
          · exact absurd g g2
          · omega
    · rcases howns j hj with ⟨i, hi, rfl, ho⟩ | ⟨hc, ho⟩ <;> rcases howns k hk with ⟨i', hi', rfl, ho'⟩ | ⟨hc', ho'⟩
      · rw [hLb, hLb] at he
        rw [hhp.inj i i' ho ho' he]
      · exfalso
        rw [hLb, hLo k hc'] at he
        obtain ⟨g1, g2⟩ := hkeepb k hc' ho'
        rcases hpost.fr.own _ ⟨i, ho, he⟩ with g | g
        · exact g2 g
        · omega
      · exfalso
        rw [hLb, hLo j hc] at he
        obtain ⟨g1, g2⟩ := hkeepb j hc ho
        rcases hpost.fr.own _ ⟨i', ho', he.symm⟩ with g | g
        · exact g2 g
        · omega
      · rw [hLo j hc, hLo k hc'] at he
        exact h.hp.inj j k ho ho' he
    · show SR _ _ (σ2.env t) _
      rw [p3]
      exact (e3 t _ (h.env t)).dead f1 hLe
    · show (σ2.heap j).1.isDead = true
      by_cases hc : ∃ i, s.back ren σ.next i = j
      · obtain ⟨i, rfl⟩ := hc
        have hj : σ.next + (s.outs.length - s.objs.length) ≤ s.back ren σ.next i := hj
        by_cases hi : i < s.outs.length
        · by_cases hi2 : i < s.objs.length
          · rw [hback1 i hi2] at hj; have := hlt i hi2; omega
          · rw [hback2 i (by omega)] at hj; omega
        · exact hnew i (by omega)
      · have hc' : ∀ i, s.back ren σ.next i ≠ j := fun i hi => hc ⟨i, hi⟩
        have := (hcov j hc').1
        have hj : σ.next + (s.outs.length - s.objs.length) ≤ j := hj
        omega
    · show a.tmps.size = σ2.n
      rw [p4, e6]; exact h.size
    · show j < σ.next + (s.outs.length - s.objs.length)
      by_cases hc : ∃ i, s.back ren σ.next i = j
      · obtain ⟨i, rfl⟩ := hc
        rw [hLb] at hj
        have := hlv i hj
        by_cases hi2 : i < s.objs.length
        · rw [hback1 i hi2]; have := hlt i hi2; omega
        · rw [hback2 i (by omega)]; omega
      · have hc' : ∀ i, s.back ren σ.next i ≠ j := fun i hi => hc ⟨i, hi⟩
        have := (hcov j hc').1
        omega
    · show σ2.m ≤ σ.next + (s.outs.length - s.objs.length)
      rw [p5, e7]
      have := h.mle
      omega
  refine ⟨v, hpBack H Hl H', locs (s.back ren σ.next) L L', rfl, tr.sr hres2, hst, ⟨⟨f1, fun b hb hn => hpost.fr.same b hb (fun hc => hn (hOwn b hc)), fun b o hb => ?_, fun b hb => ?_, hpost.fr.size, hpost.fr.os, hpost.fr.tape, hpost.fr.output⟩, ?_, fun i hi hvm => ?_⟩, ?_, fun b hb hne => hpost.fr.same b hb (fun ⟨i, hi, e⟩ => hne i (hown i hi).1 e), fun h1 h2 => ?_⟩
  · rcases f3 b o hb with g | g | g
    · exact .inl g
    · exact .inr (.inl (hOwn b g))
    · exact .inr (.inr g)
  · obtain ⟨j, hj, rfl⟩ := hb
    rcases howns j hj with ⟨i, hi, rfl, ho⟩ | ⟨hc, ho⟩
    · rw [hLb]
      rcases hpost.fr.own _ ⟨i, ho, rfl⟩ with g | g
      · exact .inl (hOwn _ g)
      · exact .inr g
    · rw [hLo j hc]
      exact .inl ⟨j, ho, rfl⟩
  · show σ2.m = σ.m
    rw [p5, e7]
  · show (σ2.heap i).1.isVM = true ∧ _
    by_cases hc : ∃ k, s.back ren σ.next k = i
    · obtain ⟨k, rfl⟩ := hc
      have hk : k < s.objs.length := by
        by_cases hk : k < s.objs.length
        · exact hk
        · rw [hback2 k (by omega)] at hi; have := h.mle; omega
      obtain ⟨c, e, _, he, _, _, hsm⟩ := hat k hk
      have hvm' : c.isVM = true := by
        rw [hback1 k hk] at hvm
        revert hsm hvm
        cases c <;> cases (σ.heap (ren k)).1 <;> simp [OK.same, OK.isVM]
      obtain ⟨g1, g2, g3, g4⟩ := hpost.keep k hk (by rw [he]; exact hvm')
      rw [hin k (by omega), hLb, travO_vm, hback1 k hk]
      exact ⟨g1, g2, g3, g4⟩
    · have hc' : ∀ k, s.back ren σ.next k ≠ i := fun k hk => hc ⟨k, hk⟩
      rw [hoth i hc', hLo i hc', (e5 i).2.1]
      exact ⟨hvm, rfl, rfl, id⟩
  · show σ2.n = σ.n
    rw [p4, e6]
  · have hs1 : σ1 = σ := by rw [← hσ1, h1]; rfl
    have hn1 : s.objs.length = 0 := by rw [h1]; rfl
    have hn2 : s.outs.length = 0 := by rw [h2]; rfl
    refine ⟨?_, by rw [hn1, hn2]; rfl, ?_⟩
    · show σ2.heap = σ.heap
      funext j
      rw [p2 j (fun i _ hi => by omega), hs1]
    · intro j hj
      have := h.live j hj
      refine hLo j (fun i hi => ?_)
      rw [hback2 i (by omega)] at hi
      omega
end Go.Proofs.YtofendipdfepoaaDoor.Gp
