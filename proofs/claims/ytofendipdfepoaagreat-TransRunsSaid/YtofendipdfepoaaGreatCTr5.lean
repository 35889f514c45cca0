/- Merged texts of one claim: a Go law, its functions without memory, and the plain law. The law returns true for every input; conditions: as the row says. -/
import Derived.Test.YtofendipdfepoaaGreatRows
import Derived.ChangeArms
import Derived.OpenShut
import Derived.SizedLaws
import Derived.Deep.Slices
import Derived.Below
import Derived.WalkKit
import Derived.ProofKit
import Derived.ShutString
import Derived.ChangeOld
import Derived.Test.YtofendipdfepoaaGreatCTr0
import Derived.Test.YtofendipdfepoaaGreatCTr1
import Derived.Test.YtofendipdfepoaaGreatCTr2
import Derived.Test.YtofendipdfepoaaGreatCTr3
import Derived.Test.YtofendipdfepoaaGreatCTr4
/- A cycle: the steps of it, the bus. No program in sight. -/
set_option linter.unusedVariables false
set_option maxRecDepth 100000
noncomputable section
namespace Go.Proofs.YtofendipdfepoaaGreat.Tr
open Go Go.Proofs.YtofendipdfepoaaGreat.Gp

abbrev Mv := Bool × Int × Int × Int × List Stp4
abbrev Mp := List (Int × Int)
abbrev Cor := List Int × Int × Int × Bool
abbrev Bs := Int × Int × Int
theorem stA_ends (b : Ab) (s : Stp4) : ∀ E ∈ b.2.2, E ∈ (stA b s).2.2 := by
  intro E hE
  unfold stA
  split
  · exact List.mem_append_left _ hE
  · exact hE
theorem foldA_ends : ∀ (l : List Stp4) (b : Ab), ∀ E ∈ b.2.2, E ∈ (l.foldl stA b).2.2
  | [], _, E, h => h
  | s :: l, b, E, h => foldA_ends l (stA b s) E (stA_ends b s E h)
/-- the steps of a cycle from one on -/
structure StepsOk (l : List Stp4) (i : Nat) (suf : List Stp4) (r r' : List Int) (e : Bool) : Prop where
  run : ∀ (x : Mv) (o1 : Mp) (o3 : List Int) (o4 : Bs) (o5 : Bs), x.2.2.2.2 = l → Gp.Lp (fun k => one28.l0 k x) ((), (), (), (), (i : Int), (), o1, r, o3, o4, o5) (if e = true then .inr ((r', o5, true, ()), (), o1) else .inl ((), (), (), (), (), o1, r', o3, o4, o5))
  tell : ∀ (x : Cyc) (c : Cpu) (op at_ : Int) (nmi : Bool) (z : List Int × Int × Int × Bool), x.2.2.2 = l → Gp.Lp (fun k => Tell63.l0 k x) (c, (), (), (i : Int), (r, op, at_, nmi), z) (if e = true then .inr ((r', -1, 0, nmi), ()) else .inl (c, (), (), (r', op, at_, nmi), z))
  fit : FitR r'
  snd : ∀ b : Ab, Inv b.1 → Snd b.1 r → if e = true then ∃ E ∈ (suf.foldl stA b).2.2, Snd E.1 r' else Snd (suf.foldl stA b).1 r'
theorem steps_ex (l : List Stp4) (hl : l.length ≤ 6) (hs : ∀ s ∈ l, OkS s) : ∀ (suf pre : List Stp4), l = pre ++ suf → ∀ r, FitR r → ∃ r' e, StepsOk l pre.length suf r r' e := by
  intro suf
  induction suf with
  | nil =>
    intro pre h r hr
    rw [List.append_nil] at h
    subst h
    refine ⟨r, false, fun x o1 o3 o4 o5 hx => .done ?_, fun x c op at_ nmi z hx => .done ?_, hr, fun b hb hS => ?_⟩
    · simp only [one28.l0]
      exact .no (by rw [hx]; simp) (.now _)
    · simp only [Tell63.l0]
      exact .no (by rw [hx]; simp) (.now _)
    · exact hS
  | cons s suf ih =>
    intro pre h r hr
    have hx : l[pre.length]? = some s := by rw [h]; simp
    have hi := get_lt hx
    have hok := hs s (get_mem hx)
    have hpl : (((pre ++ [s]).length : Nat) : Int) = (pre.length : Int) + 1 := by simp
    have hw : w64 ((pre.length : Int) + 1) = (((pre ++ [s]).length : Nat) : Int) := by rw [hpl]; exact w64_id (by omega) (by omega)
    by_cases h24 : s.1 = 24
    · obtain ⟨d, to, fr, n⟩ := s
      have h24 : d = 24 := h24
      subst h24
      obtain ⟨e, he⟩ := do_if (to := to) (fr := fr) (n := n) hr.len
      rw [fitL_id hr] at he
      cases e with
      | true =>
        refine ⟨r, true, fun x o1 o3 o4 o5 hx2 => .done ?_, fun x c op at_ nmi z hx2 => .done ?_, hr, fun b hb hS => ?_⟩
        · subst hx2
          simp only [one28.l0]
          exact .yes (decide_eq_true (by omega)) (.val (rd_some' hx) (.bind he (.yes rfl (.now _))))
        · subst hx2
          simp only [Tell63.l0]
          exact .yes (decide_eq_true (by omega)) (.val (rd_some' hx) (.bind he (.yes rfl (.now _))))
        · show ∃ E ∈ (suf.foldl stA (stA b (24, to, fr, n))).2.2, Snd E.1 r
          refine ⟨(b.1, b.2.1), foldA_ends _ _ _ ?_, hS⟩
          unfold stA
          rw [if_pos rfl]
          exact List.mem_append_right _ (List.mem_singleton.2 rfl)
      | false =>
        obtain ⟨r', e', g⟩ := ih (pre ++ [(24, to, fr, n)]) (by rw [h]; simp) r hr
        refine ⟨r', e', fun x o1 o3 o4 o5 hx2 => .step ?_ (g.run x o1 o3 o4 o5 hx2), fun x c op at_ nmi z hx2 => .step ?_ (g.tell x c op at_ nmi z hx2), g.fit, fun b hb hS => ?_⟩
        · subst hx2
          simp only [one28.l0]
          refine .yes (decide_eq_true (by omega)) (.val (rd_some' hx) (.bind he (.no rfl (.now' ?_))))
          rw [hw]
        · subst hx2
          simp only [Tell63.l0]
          refine .yes (decide_eq_true (by omega)) (.val (rd_some' hx) (.bind he (.no rfl (.now' ?_))))
          rw [hw]
        · have hst : (stA b (24, to, fr, n)).1 = b.1 := by unfold stA; rw [if_pos rfl]
          exact g.snd (stA b (24, to, fr, n)) (by rw [hst]; exact hb) (by rw [hst]; exact hS)
    · obtain ⟨r1, he, hf, hsn⟩ := do_ok hok h24 hr
      obtain ⟨r', e', g⟩ := ih (pre ++ [s]) (by rw [h]; simp) r1 hf
      refine ⟨r', e', fun x o1 o3 o4 o5 hx2 => .step ?_ (g.run x o1 o3 o4 o5 hx2), fun x c op at_ nmi z hx2 => .step ?_ (g.tell x c op at_ nmi z hx2), g.fit, fun b hb hS => ?_⟩
      · subst hx2
        simp only [one28.l0]
        refine .yes (decide_eq_true (by omega)) (.val (rd_some' hx) (.bind he (.no rfl (.now' ?_))))
        rw [hw]
      · subst hx2
        simp only [Tell63.l0]
        refine .yes (decide_eq_true (by omega)) (.val (rd_some' hx) (.bind he (.no rfl (.now' ?_))))
        rw [hw]
      · have hst : (stA b s).1 = stepA b.1 s := by unfold stA; rw [if_neg h24]
        exact g.snd (stA b s) (by rw [hst]; exact hb.step s) (by rw [hst]; exact hsn _ hb hS)
-- the bus
def placeR (a : Int) (r : List Int) : Int × List Int :=
  if a = 0 then (r.getD 7 0, r.set 7 ((r.getD 7 0 + 1) % 65536))
  else if a = 1 then (r.getD 7 0, r)
  else if a = 2 then (r.getD 8 0, r)
  else if a = 3 then ((r.getD 8 0 + 1) % 65536, r)
  else if a = 4 then (256 + r.getD 3 0, r.set 3 ((r.getD 3 0 - 1) % 256))
  else if a = 5 then (256 + (r.getD 3 0 + 1) % 256, r.set 3 ((r.getD 3 0 + 1) % 256))
  else (([65534, 65535, 65530, 65531, 65532, 65533] : List Int).getD (a - 6).toNat 0, r)
theorem fitR_set {r : List Int} (h : FitR r) {i : Nat} {x : Int} (hx : 0 ≤ x ∧ x < wB i) : FitR (r.set i x) := by
  refine ⟨by rw [List.length_set]; exact h.len, fun j hj => ?_⟩
  rw [getD_set]
  split
  · rename_i hc; rw [← hc.1]; exact hx
  · exact h.ok j hj
theorem wB7 : wB 7 = 65536 := rfl
theorem wB8 : wB 8 = 65536 := rfl
theorem wB3 : wB 3 = 256 := rfl
theorem placeR_ok {a : Int} (ha : 0 ≤ a ∧ a < 12) {r : List Int} (h : FitR r) : FitR (placeR a r).2 ∧ 0 ≤ (placeR a r).1 ∧ (placeR a r).1 < 65536 := by
  have h7 := h.ok 7 (by decide)
  have h8 := h.ok 8 (by decide)
  have h3 := h.ok 3 (by decide)
  rw [wB7] at h7
  rw [wB8] at h8
  rw [wB3] at h3
  unfold placeR
  split
  · exact ⟨fitR_set h (by rw [wB7]; omega), h7.1, h7.2⟩
  split
  · exact ⟨h, h7.1, h7.2⟩
  split
  · exact ⟨h, h8.1, h8.2⟩
  split
  · exact ⟨h, by show 0 ≤ (r.getD 8 0 + 1) % 65536; omega, by show (r.getD 8 0 + 1) % 65536 < 65536; omega⟩
  split
  · exact ⟨fitR_set h (by rw [wB3]; omega), by show 0 ≤ 256 + r.getD 3 0; omega, by show 256 + r.getD 3 0 < 65536; omega⟩
  split
  · exact ⟨fitR_set h (by rw [wB3]; omega), by show 0 ≤ 256 + (r.getD 3 0 + 1) % 256; omega, by show 256 + (r.getD 3 0 + 1) % 256 < 65536; omega⟩
  · refine ⟨h, ?_⟩
    show 0 ≤ (([65534, 65535, 65530, 65531, 65532, 65533] : List Int).getD (a - 6).toNat 0) ∧ (([65534, 65535, 65530, 65531, 65532, 65533] : List Int).getD (a - 6).toNat 0) < 65536
    rcases (show a = 6 ∨ a = 7 ∨ a = 8 ∨ a = 9 ∨ a = 10 ∨ a = 11 by omega) with rfl | rfl | rfl | rfl | rfl | rfl <;> exact ⟨by decide, by decide⟩
theorem place_p {a : Int} (ha : 0 ≤ a ∧ a < 12) {r : List Int} (h : FitR r) : Ev (fun k => place60 k a r) (((placeR a r).1, (placeR a r).2, ()), ()) := by
  have h7 := h.ok 7 (by decide)
  have h8 := h.ok 8 (by decide)
  have h3 := h.ok 3 (by decide)
  rw [wB7] at h7
  rw [wB8] at h8
  rw [wB3] at h3
  have r7 : rd r 7 = some (r.getD 7 0) := rd9 h.len (i := 7) (by decide)
  have r8 : rd r 8 = some (r.getD 8 0) := rd9 h.len (i := 8) (by decide)
  have r3 : rd r 3 = some (r.getD 3 0) := rd9 h.len (i := 3) (by decide)
  have hw : ∀ z : Int, -10 ≤ z → z ≤ 1000000 → w64 z = z := fun z h0 h1 => w64_id (by omega) (by omega)
  unfold place60
  rcases (show a = 0 ∨ a = 1 ∨ a = 2 ∨ a = 3 ∨ a = 4 ∨ a = 5 ∨ a = 6 ∨ a = 7 ∨ a = 8 ∨ a = 9 ∨ a = 10 ∨ a = 11 by omega) with rfl | rfl | rfl | rfl | rfl | rfl | rfl | rfl | rfl | rfl | rfl | rfl
  · refine .yes rfl (.val (if_pos (by decide)) (.val r7 ?_))
    rw [hw _ (by omega) (by omega)]
    exact .bind (low16_ev _) (.val (if_pos (by decide)) (.val r7 (.now _)))
  · exact .no rfl (.yes rfl (.val (if_pos (by decide)) (.val r7 (.now _))))
  · exact .no rfl (.no rfl (.yes rfl (.val (if_pos (by decide)) (.val r8 (.now _)))))
  · refine .no rfl (.no rfl (.no rfl (.yes rfl (.val (if_pos (by decide)) (.val r8 ?_)))))
    rw [hw _ (by omega) (by omega)]
    exact .bind (low16_ev _) (.now _)
  · refine .no rfl (.no rfl (.no rfl (.no rfl (.yes rfl (.val (if_pos (by decide)) (.val r3 (.val (if_pos (by decide)) (.val r3 ?_))))))))
    rw [hw (r.getD 3 0 - 1) (by omega) (by omega), hw (256 + r.getD 3 0) (by omega) (by omega)]
    exact .bind (low8_ev _) (.val (if_pos (by decide)) (.val r3 (.now _)))
  · refine .no rfl (.no rfl (.no rfl (.no rfl (.no rfl (.yes rfl (.val (if_pos (by decide)) (.val r3 ?_)))))))
    rw [hw (r.getD 3 0 + 1) (by omega) (by omega)]
    refine .bind (low8_ev _) (.val (if_pos (by decide)) (.val r3 (.val (if_pos (by decide)) (.val (a := (r.getD 3 0 + 1) % 256) ?_ (.now' ?_)))))
    · have := rd9 (r := r.set 3 ((r.getD 3 0 + 1) % 256)) (by rw [List.length_set]; exact h.len) (i := 3) (by decide)
      refine this.trans ?_
      show some ((r.set 3 ((r.getD 3 0 + 1) % 256)).getD 3 0) = _
      rw [getD_set, if_pos ⟨rfl, by rw [h.len]; decide⟩]
    · rw [hw _ (by omega) (by omega)]; rfl
  all_goals exact .no rfl (.no rfl (.no rfl (.no rfl (.no rfl (.no rfl (.bind (.val rfl (.val rfl (.now _))) (.now _)))))))
theorem place_r {a : Int} (ha : 0 ≤ a ∧ a < 12) {r : List Int} (h : FitR r) : Ev (fun k => place112 k a r) (((placeR a r).1, (placeR a r).2, ()), ()) := by
  have h7 := h.ok 7 (by decide)
  have h8 := h.ok 8 (by decide)
  have h3 := h.ok 3 (by decide)
  rw [wB7] at h7
  rw [wB8] at h8
  rw [wB3] at h3
  have r7 : rd r 7 = some (r.getD 7 0) := rd9 h.len (i := 7) (by decide)
  have r8 : rd r 8 = some (r.getD 8 0) := rd9 h.len (i := 8) (by decide)
  have r3 : rd r 3 = some (r.getD 3 0) := rd9 h.len (i := 3) (by decide)
  have hw : ∀ z : Int, -10 ≤ z → z ≤ 1000000 → w64 z = z := fun z h0 h1 => w64_id (by omega) (by omega)
  unfold place112
  rcases (show a = 0 ∨ a = 1 ∨ a = 2 ∨ a = 3 ∨ a = 4 ∨ a = 5 ∨ a = 6 ∨ a = 7 ∨ a = 8 ∨ a = 9 ∨ a = 10 ∨ a = 11 by omega) with rfl | rfl | rfl | rfl | rfl | rfl | rfl | rfl | rfl | rfl | rfl | rfl
  · refine .yes rfl (.val (if_pos (by decide)) (.val r7 ?_))
    rw [hw _ (by omega) (by omega)]
    exact .bind (low16_ev _) (.val (if_pos (by decide)) (.val r7 (.now _)))
  · exact .no rfl (.yes rfl (.val (if_pos (by decide)) (.val r7 (.now _))))
  · exact .no rfl (.no rfl (.yes rfl (.val (if_pos (by decide)) (.val r8 (.now _)))))
  · refine .no rfl (.no rfl (.no rfl (.yes rfl (.val (if_pos (by decide)) (.val r8 ?_)))))
    rw [hw _ (by omega) (by omega)]
    exact .bind (low16_ev _) (.now _)
  · refine .no rfl (.no rfl (.no rfl (.no rfl (.yes rfl (.val (if_pos (by decide)) (.val r3 (.val (if_pos (by decide)) (.val r3 ?_))))))))
    rw [hw (r.getD 3 0 - 1) (by omega) (by omega), hw (256 + r.getD 3 0) (by omega) (by omega)]
    exact .bind (low8_ev _) (.val (if_pos (by decide)) (.val r3 (.now _)))
  · refine .no rfl (.no rfl (.no rfl (.no rfl (.no rfl (.yes rfl (.val (if_pos (by decide)) (.val r3 ?_)))))))
    rw [hw (r.getD 3 0 + 1) (by omega) (by omega)]
    refine .bind (low8_ev _) (.val (if_pos (by decide)) (.val r3 (.val (if_pos (by decide)) (.val (a := (r.getD 3 0 + 1) % 256) ?_ (.now' ?_)))))
    · have := rd9 (r := r.set 3 ((r.getD 3 0 + 1) % 256)) (by rw [List.length_set]; exact h.len) (i := 3) (by decide)
      refine this.trans ?_
      show some ((r.set 3 ((r.getD 3 0 + 1) % 256)).getD 3 0) = _
      rw [getD_set, if_pos ⟨rfl, by rw [h.len]; decide⟩]
    · rw [hw _ (by omega) (by omega)]; rfl
  all_goals exact .no rfl (.no rfl (.no rfl (.no rfl (.no rfl (.no rfl (.no rfl (.bind (.val rfl (.val rfl (.now _))) (.now _))))))))
end Go.Proofs.YtofendipdfepoaaGreat.Tr

/- A cycle of a block, and a cycle of a processor. No program in sight. -/
set_option linter.unusedVariables false
set_option maxRecDepth 100000
noncomputable section
namespace Go.Proofs.YtofendipdfepoaaGreat.Tr
open Go Go.Proofs.YtofendipdfepoaaGreat.Gp

def memV (mp : Mp) (a : Int) : Int := if Option.isSome (mget (.int .i64) (.int .i64) mp a) = true then Option.getD (α := Int) (mget (.int .i64) (.int .i64) mp a) 0 else Int.tmod (w64 ((w64 ((w64 (7 * a)) + (quoI .i64 a 256))) + 3)) 256
def memR (mp : Mp) (a : Int) : Int := memV mp a % 256
theorem read_ev (mp : Mp) (a : Int) : Ev (fun k => Read197 k () a () mp) (memV mp a, (), mp) := by
  unfold Read197 memV
  cases h : Option.isSome (mget (.int .i64) (.int .i64) mp a) with
  | true => exact .yes h (.now' (by rw [if_pos rfl]))
  | false => exact .no h (.now' (by rw [if_neg (by decide)]))
theorem memR_in (mp : Mp) (a : Int) : 0 ≤ memR mp a ∧ memR mp a < 256 := by unfold memR; omega
def busO (first : Bool) (c : Cyc) (r : List Int) (mp : Mp) : Bs × List Int × Mp :=
  if c.1 = 0 then ((0, 0, 0), r, mp)
  else if c.1 = 1 then ((1, (placeR c.2.1 r).1, memR mp (placeR c.2.1 r).1), if first = true then (placeR c.2.1 r).2 else (placeR c.2.1 r).2.set c.2.2.1.toNat (memR mp (placeR c.2.1 r).1), mp)
  else ((2, (placeR c.2.1 r).1, r.getD c.2.2.1.toNat 0 % 256), (placeR c.2.1 r).2, mput (.int .i64) (.int .i64) mp (placeR c.2.1 r).1 (r.getD c.2.2.1.toNat 0 % 256))
theorem wB_low {i : Int} (h : 0 ≤ i) (hl : wd i = false) : wB i.toNat = 256 := if_neg (by rw [wdN_nat h, hl]; decide)
theorem busO_fit {first : Bool} {c : Cyc} (hc : OkC c) {r : List Int} (h : FitR r) (mp : Mp) : FitR (busO first c r mp).2.1 := by
  have hp := placeR_ok hc.at' h
  unfold busO
  split
  · exact h
  split
  · cases first with
    | true => exact hp.1
    | false =>
      show FitR ((placeR c.2.1 r).2.set c.2.2.1.toNat (memR mp (placeR c.2.1 r).1))
      exact fitR_set hp.1 (by rw [wB_low hc.reg.1 hc.low]; exact memR_in _ _)
  · exact hp.1
theorem one_cy {first : Bool} {c : Cyc} (hc : OkC c) {r : List Int} (h : FitR r) (mp : Mp) {r' : List Int} {e : Bool} (hs : StepsOk c.2.2.2 0 c.2.2.2 (busO first c r mp).2.1 r' e) :
    Ev (fun k => one28 k (first, c.1, c.2.1, c.2.2.1, c.2.2.2) r () () mp) ((r', (busO first c r mp).1, e, ()), (), (busO first c r mp).2.2) := by
  have hrun := hs.run (first, c.1, c.2.1, c.2.2.1, c.2.2.2)
  have hplace := place_p hc.at' h
  have hrr := rd9 h.len (i := c.2.2.1) hc.reg
  have hrp : ∀ (q : List Int), q.length = 9 → rd q c.2.2.1 = some (q.getD c.2.2.1.toNat 0) := fun q hq => rd9 hq hc.reg
  have hpl := (placeR_ok hc.at' h).1.len
  have hb := hc.bus
  have fin : ∀ (o1 : Mp) (r2 : List Int) (o5 : Bs) (o3 : List Int) (o4 : Bs), r2 = (busO first c r mp).2.1 → o1 = (busO first c r mp).2.2 → o5 = (busO first c r mp).1 →
      Ev (fun k => Option.bind (loopN (one28.l0 k (first, c.1, c.2.1, c.2.2.1, c.2.2.2)) k ((), (), (), (), 0, (), o1, r2, o3, o4, o5)) (joined fun ((_, _, _, _, _, o1_6, o2_5, _, _, o5_5) : Unit × Unit × Unit × Unit × Unit × Mp × List Int × List Int × Bs × Bs) => some ((o2_5, o5_5, false, ()), (), o1_6)))
        ((r', (busO first c r mp).1, e, ()), (), (busO first c r mp).2.2) := by
    rintro o1 r2 o5 o3 o4 rfl rfl rfl
    have := hrun (busO first c r mp).2.2 o3 o4 (busO first c r mp).1 rfl
    cases e with
    | true =>
      rw [if_pos rfl] at this
      exact .joinR this.ev
    | false =>
      rw [if_neg (by decide)] at this
      exact .joinL (S := Unit) this.ev (.now _)
  unfold one28
  rcases (show c.1 = 0 ∨ c.1 = 1 ∨ c.1 = 2 by omega) with hb | hb | hb
  · have e : busO first c r mp = ((0, 0, 0), r, mp) := by unfold busO; rw [if_pos hb]
    refine .bind (a := ((first, c.1, c.2.1, c.2.2.1, c.2.2.2), (), (), (), (), (), mp, r, (List.replicate 9 0), (0, 0, 0), 0, 0, 0)) (.no (by rw [hb]; rfl) (.now _)) (fin _ _ _ _ _ ?_ ?_ ?_)
    · rw [e]
    · rw [e]
    · rw [e]
  · have e : busO first c r mp = ((1, (placeR c.2.1 r).1, memR mp (placeR c.2.1 r).1), if first = true then (placeR c.2.1 r).2 else (placeR c.2.1 r).2.set c.2.2.1.toNat (memR mp (placeR c.2.1 r).1), mp) := by
      unfold busO
      rw [if_neg (by omega), if_pos hb]
    refine .bind (a := ((first, c.1, c.2.1, c.2.2.1, c.2.2.2), (), (), (), (), (), mp, (if first = true then (placeR c.2.1 r).2 else (placeR c.2.1 r).2.set c.2.2.1.toNat (memR mp (placeR c.2.1 r).1)), (List.replicate 9 0), (0, 0, 0), c.1, (placeR c.2.1 r).1, memR mp (placeR c.2.1 r).1)) (.yes (by rw [hb]; rfl) (.bind (.no (by rw [hb]; rfl) (.now _)) (.bind hplace (.bind (.yes (by rw [hb]; rfl) (.bind (read_ev _ _) (.bind (low8_ev _) (.bind (a := ((first, c.1, c.2.1, c.2.2.1, c.2.2.2), (), (), (), (), (), mp, (if first = true then (placeR c.2.1 r).2 else (placeR c.2.1 r).2.set c.2.2.1.toNat (memR mp (placeR c.2.1 r).1)), (List.replicate 9 0), (0, 0, 0), c.1, (placeR c.2.1 r).1, memR mp (placeR c.2.1 r).1)) ?_ (.now _))))) (.now _))))) (fin _ _ _ _ _ ?_ ?_ ?_)
    · cases first with
      | true => exact .no rfl (.now _)
      | false => exact .yes rfl (.val (if_pos hc.reg) (.val (hrp _ hpl) (.now _)))
    · rw [e]
    · rw [e]
    · rw [e, hb]
  · have e : busO first c r mp = ((2, (placeR c.2.1 r).1, r.getD c.2.2.1.toNat 0 % 256), (placeR c.2.1 r).2, mput (.int .i64) (.int .i64) mp (placeR c.2.1 r).1 (r.getD c.2.2.1.toNat 0 % 256)) := by
      unfold busO
      rw [if_neg (by omega), if_neg (by omega)]
      rfl
    refine .bind (a := ((first, c.1, c.2.1, c.2.2.1, c.2.2.2), (), (), (), (), (), mput (.int .i64) (.int .i64) mp (placeR c.2.1 r).1 (r.getD c.2.2.1.toNat 0 % 256), (placeR c.2.1 r).2, (List.replicate 9 0), (0, 0, 0), c.1, (placeR c.2.1 r).1, r.getD c.2.2.1.toNat 0 % 256)) (.yes (by rw [hb]; rfl) (.bind (.yes (by rw [hb]; rfl) (.val (if_pos hc.reg) (.val hrr (.bind (low8_ev _) (.now _))))) (.bind hplace (.bind (.no (by rw [hb]; rfl) (.bind (.now _) (.now _))) (.now _))))) (fin _ _ _ _ _ ?_ ?_ ?_)
    · rw [e]
    · rw [e]
    · rw [e, hb]
end Go.Proofs.YtofendipdfepoaaGreat.Tr

/- Cycles of a processor. No program in sight. -/
set_option linter.unusedVariables false
set_option maxRecDepth 100000
noncomputable section
namespace Go.Proofs.YtofendipdfepoaaGreat.Tr
open Go Go.Proofs.YtofendipdfepoaaGreat.Gp

def cycV (c : Cpu) (op : Int) : List Cyc := match findI c op with | some x => x.2.2.2 | none => []
theorem cycles_ev {c : Cpu} (hc : Wc c) {op : Int} (ho : 0 ≤ op ∧ op ≤ 255) : Ev (fun k => cycles115 k c op) (cycV c op, ()) := by
  have hl := hc.len
  have key : ∀ (suf pre : List Ins), c.2.1 = pre ++ suf → Gp.Lp (fun k => cycles115.l0 k c op) (pre.length : Int) (match suf.find? (fun x => x.1 == op) with | some x => .inr (x.2.2.2, ()) | none => .inl ()) := by
    intro suf
    induction suf with
    | nil =>
      intro pre h
      rw [List.append_nil] at h
      refine .done ?_
      simp only [cycles115.l0]
      exact .no (by rw [h]; simp) (.now _)
    | cons x suf ih =>
      intro pre h
      have hx : c.2.1[pre.length]? = some x := by rw [h]; simp
      have hi := get_lt hx
      have hcond : cond (cond (x.1 == op) (decide (op ≥ 0)) false) (decide (op ≤ 255)) false = (x.1 == op) := by
        rw [decide_eq_true (show op ≥ 0 from ho.1), decide_eq_true ho.2]
        cases (x.1 == op) <;> rfl
      cases he : x.1 == op with
      | true =>
        rw [List.find?_cons_of_pos (by exact he)]
        refine .done ?_
        simp only [cycles115.l0]
        exact .yes (decide_eq_true (by omega)) (.val (rd_some' hx) (.yes (by rw [hcond]; exact he) (.now _)))
      | false =>
        rw [List.find?_cons_of_neg (by rw [he]; decide)]
        have := ih (pre ++ [x]) (by rw [h]; simp)
        rw [List.length_append, List.length_singleton] at this
        refine .step ?_ this
        simp only [cycles115.l0]
        refine .yes (decide_eq_true (by omega)) (.val (rd_some' hx) (.no (by rw [hcond]; exact he) (.now' ?_)))
        rw [w64_succ (by omega)]
  have h0 := key c.2.1 [] rfl
  unfold cycles115 cycV findI
  refine .no (beq_false_of_ne (by omega)) (.no (beq_false_of_ne (by omega)) (.no (beq_false_of_ne (by omega)) ?_))
  cases h : c.2.1.find? (fun x => x.1 == op) with
  | none =>
    rw [h] at h0
    exact .joinL (S := Unit) h0.ev (.now _)
  | some x =>
    rw [h] at h0
    exact .joinR h0.ev
theorem doing_ev {c : Cpu} (hc : Wc c) {op : Int} (ho : 0 ≤ op ∧ op ≤ 255) {i : Nat} {y : Cyc} (hy : (cycV c op)[i]? = some y) (r : List Int) (nmi : Bool) : Ev (fun k => doing113 k c (r, op, (i : Int), nmi)) ((y, true, ()), ()) := by
  have hi := get_lt hy
  unfold doing113
  refine .bind (cycles_ev hc ho) (.no ?_ (.val (rd_some' hy) (.now _)))
  show cond (cond (op == (-1)) true (decide ((i : Int) < 0))) true (decide ((i : Int) ≥ ((cycV c op).length : Int))) = false
  rw [beq_false_of_ne (show op ≠ -1 by omega), decide_eq_false (show ¬ (i : Int) < 0 by omega)]
  exact decide_eq_false (by omega)
theorem start_ev (c : Cpu) (r : List Int) (a : Int) : Ev (fun k => start111 k c (r, -1, a, false) false) ((r, -1, a, false), ()) := by
  have h0 : Gp.Lp (fun k => start111.l0 k false) (c, (), (), (), (0 : Int), (r, (-1 : Int), a, false), ((List.replicate 9 0 : List Int), (0 : Int), (0 : Int), false), ([257, 256] : List Int)) (.inl ((), (), (r, (-1 : Int), a, false), ((List.replicate 9 0 : List Int), (0 : Int), (0 : Int), false))) := by
    refine .step (s' := (c, (), (), (), (1 : Int), (r, (-1 : Int), a, false), ((List.replicate 9 0 : List Int), (0 : Int), (0 : Int), false), ([257, 256] : List Int))) ?_ (.step (s' := (c, (), (), (), (2 : Int), (r, (-1 : Int), a, false), ((List.replicate 9 0 : List Int), (0 : Int), (0 : Int), false), ([257, 256] : List Int))) ?_ (.done ?_))
    · simp only [start111.l0]
      exact .yes rfl (.val rfl (.val rfl (.bind (.no rfl (.now _)) (.bind (.no rfl (.now _)) (.no rfl (.now' rfl))))))
    · simp only [start111.l0]
      exact .yes rfl (.val rfl (.val rfl (.bind (.yes rfl (.bind (.no rfl (.now _)) (.now _))) (.bind (.no rfl (.now _)) (.no rfl (.now' rfl))))))
    · simp only [start111.l0]
      exact .no rfl (.now _)
  unfold start111
  exact .joinL (S := Unit) h0.ev (.now _)
/-- the cycle that reads the byte of an instruction -/
theorem core_first {c : Cpu} (hc : Wc c) {r : List Int} (hl : r.length = 9) (a : Int) (mp : Mp) {x : Ins} (hx : findI c (memR mp ((fitL r).getD 7 0)) = some x) :
    Ev (fun k => Cycle29 k c (r, -1, a, false) false () () mp) ((((fitL r).set 7 (((fitL r).getD 7 0 + 1) % 65536), (if 0 < x.2.2.2.length then memR mp ((fitL r).getD 7 0) else -1), 0, false), (1, (fitL r).getD 7 0, memR mp ((fitL r).getD 7 0)), ()), (), mp) := by
  have hf := fitL_ok r
  have hg7 := hf.ok 7 (by decide)
  rw [wB7] at hg7
  have hm := memR_in mp ((fitL r).getD 7 0)
  have hset : FitR ((fitL r).set 7 (((fitL r).getD 7 0 + 1) % 65536)) := fitR_set hf (by rw [wB7]; omega)
  have hfind := find_ev hc (memR mp ((fitL r).getD 7 0))
  rw [show findR c (memR mp ((fitL r).getD 7 0)) = (x, true, ()) from by unfold findR; rw [hx]] at hfind
  have hask : Ev (fun k => Ask62 k c (r, -1, a, false) false) ((((fitL r).set 7 (((fitL r).getD 7 0 + 1) % 65536), -1, a, false), (1, (fitL r).getD 7 0, 0), ()), ()) := by
    unfold Ask62
    exact .bind (fit_ev hl) (.bind (.yes rfl (.bind (start_ev c _ a) (.now _))) (.yes rfl (.bind (place_r (a := 0) (by decide) hf) (.now _))))
  have htell : Ev (fun k => Tell63 k c ((fitL r).set 7 (((fitL r).getD 7 0 + 1) % 65536), -1, a, false) (memR mp ((fitL r).getD 7 0))) ((((fitL r).set 7 (((fitL r).getD 7 0 + 1) % 65536), (if 0 < x.2.2.2.length then memR mp ((fitL r).getD 7 0) else -1), 0, false)), ()) := by
    have hlow := low8_ev (memR mp ((fitL r).getD 7 0))
    rw [show memR mp ((fitL r).getD 7 0) % 256 = memR mp ((fitL r).getD 7 0) by omega] at hlow
    have hfit := fit_ev hset.len
    rw [fitL_id hset] at hfit
    unfold Tell63
    refine .bind hlow (.bind hfit (.yes rfl (.bind hfind ?_)))
    by_cases hlen : 0 < x.2.2.2.length
    · rw [if_pos hlen]
      exact .bind (.no rfl (.bind (.yes (decide_eq_true (show ((x.2.2.2.length : Nat) : Int) > 0 by omega)) (.now _)) (.now _))) (.now _)
    · rw [if_neg hlen]
      exact .bind (.no rfl (.bind (.no (decide_eq_false (show ¬ ((x.2.2.2.length : Nat) : Int) > 0 by omega)) (.now _)) (.now _))) (.now _)
  unfold Cycle29
  exact .bind hask (.bind (.yes rfl (.bind (read_ev _ _) (.bind (low8_ev _) (.now _)))) (.bind htell (.now _)))
/-- a cycle behind it -/
theorem core_cy {c : Cpu} (hc : Wc c) {op : Int} (ho : 0 ≤ op ∧ op ≤ 255) {i : Nat} {y : Cyc} (hy : (cycV c op)[i]? = some y) (hi8 : (cycV c op).length ≤ 8) (hcy : OkC y) {r : List Int} (h : FitR r) (mp : Mp) {r' : List Int} {e : Bool} (hs : StepsOk y.2.2.2 0 y.2.2.2 (busO false y r mp).2.1 r' e) :
    Ev (fun k => Cycle29 k c (r, op, (i : Int), false) false () () mp) ((((if e = true ∨ i + 1 ≥ (cycV c op).length then (r', -1, 0, false) else (r', op, ((i + 1 : Nat) : Int), false)) : Cor), (busO false y r mp).1, ()), (), (busO false y r mp).2.2) := by
  have hlt := get_lt hy
  have hplace := place_r hcy.at' h
  have hpl := placeR_ok hcy.at' h
  have hrr := rd9 h.len (i := y.2.2.1) hcy.reg
  have hfit := fit_ev h.len
  rw [fitL_id h] at hfit
  have hb := hcy.bus
  have hne : (op == (-1)) = false := beq_false_of_ne (by omega)
  have hwi : w64 ((i : Int) + 1) = ((i + 1 : Nat) : Int) := w64_succ (by omega)
  have htail : Ev (fun k => Option.bind (loopN (Tell63.l0 k y) k (c, (), (), 0, ((busO false y r mp).2.1, op, w64 ((i : Int) + 1), false), ((List.replicate 9 0 : List Int), (0 : Int), (0 : Int), false))) (joined fun ((c_3, _, _, o0_4, o1_4) : Cpu × Unit × Unit × Cor × Cor) =>
        (cycles115 k c_3 o0_4.2.1).bind fun t102 =>
        Option.bind
          (cond (decide (o0_4.2.2.1 ≥ (List.length t102.1 : Int)))
            (some ((), (), (o0_4.1, (-1), 0, o0_4.2.2.2), o1_4))
            (some ((), (), o0_4, o1_4))) fun ((_, _, o0_5, _) : Unit × Unit × Cor × Cor) =>
        some (o0_5, ()))) ((if e = true ∨ i + 1 ≥ (cycV c op).length then (r', -1, 0, false) else (r', op, ((i + 1 : Nat) : Int), false)), ()) := by
    have := hs.tell y c op ((i + 1 : Nat) : Int) false ((List.replicate 9 0 : List Int), (0 : Int), (0 : Int), false) rfl
    rw [hwi]
    cases e with
    | true =>
      rw [if_pos rfl] at this
      rw [if_pos (.inl rfl)]
      exact .joinR this.ev
    | false =>
      rw [if_neg (by decide)] at this
      refine .joinL (S := Unit) this.ev (.bind (cycles_ev hc ho) ?_)
      by_cases hge : i + 1 ≥ (cycV c op).length
      · rw [if_pos (.inr hge)]
        exact .bind (.yes (decide_eq_true (show (((i + 1 : Nat) : Int)) ≥ ((cycV c op).length : Int) by omega)) (.now _)) (.now _)
      · rw [if_neg (fun hq => hq.elim (fun h => by cases h) hge)]
        exact .bind (.no (decide_eq_false (show ¬ (((i + 1 : Nat) : Int)) ≥ ((cycV c op).length : Int) by omega)) (.now _)) (.now _)
  have hdo : ∀ q : List Int, Ev (fun k => doing113 k c (q, op, (i : Int), false)) ((y, true, ()), ()) := fun q => doing_ev hc ho hy q false
  rcases (show y.1 = 0 ∨ y.1 = 1 ∨ y.1 = 2 by omega) with hy0 | hy0 | hy0
  · have e0 : busO false y r mp = ((0, 0, 0), r, mp) := by unfold busO; rw [if_pos hy0]
    rw [e0] at htail ⊢
    have hask : Ev (fun k => Ask62 k c (r, op, (i : Int), false) false) (((r, op, (i : Int), false), (0, 0, 0), ()), ()) := by
      unfold Ask62
      exact .bind hfit (.bind (.no hne (.now _)) (.no hne (.bind (hdo _) (.yes (by show cond (!true) true (y.1 == 0) = true; rw [hy0]; rfl) (.now _)))))
    have htell : ∀ d, Ev (fun k => Tell63 k c (r, op, (i : Int), false) d) ((if e = true ∨ i + 1 ≥ (cycV c op).length then (r', -1, 0, false) else (r', op, ((i + 1 : Nat) : Int), false)), ()) := by
      intro d
      unfold Tell63
      refine .bind (low8_ev d) (.bind hfit (.no hne (.bind (hdo _) (.no rfl (.bind (a := (c, (), (), y, (r, op, (i : Int), false), ((List.replicate 9 0 : List Int), (0 : Int), (0 : Int), false))) (.no ?_ (.now _)) htail)))))
      show cond (cond (y.1 == 1) (decide (y.2.2.1 ≥ 0)) false) (decide (y.2.2.1 < 9)) false = false
      rw [hy0]; rfl
    unfold Cycle29
    exact .bind hask (.bind (.no rfl (.bind (.no rfl (.now _)) (.now _))) (.bind (htell _) (.now _)))
  · have e1 : busO false y r mp = ((1, (placeR y.2.1 r).1, memR mp (placeR y.2.1 r).1), (placeR y.2.1 r).2.set y.2.2.1.toNat (memR mp (placeR y.2.1 r).1), mp) := by
      unfold busO
      rw [if_neg (by omega), if_pos hy0, if_neg (by decide)]
    rw [e1] at htail ⊢
    have hfit2 := fit_ev hpl.1.len
    rw [fitL_id hpl.1] at hfit2
    have hask : Ev (fun k => Ask62 k c (r, op, (i : Int), false) false) ((((placeR y.2.1 r).2, op, (i : Int), false), (1, (placeR y.2.1 r).1, 0), ()), ()) := by
      unfold Ask62
      refine .bind hfit (.bind (.no hne (.now _)) (.no hne (.bind (hdo _) (.no ?_ (.bind (.no ?_ (.now _)) (.bind hplace (.now' ?_)))))))
      · show cond (!true) true (y.1 == 0) = false; rw [hy0]; rfl
      · show cond (cond (y.1 == 2) (decide (y.2.2.1 ≥ 0)) false) (decide (y.2.2.1 < 9)) false = false; rw [hy0]; rfl
      · show ((((placeR y.2.1 r).2, op, (i : Int), false), (y.1, (placeR y.2.1 r).1, 0), ()), ()) = _
        rw [hy0]
    have hm := memR_in mp (placeR y.2.1 r).1
    have htell : Ev (fun k => Tell63 k c ((placeR y.2.1 r).2, op, (i : Int), false) (memR mp (placeR y.2.1 r).1)) ((if e = true ∨ i + 1 ≥ (cycV c op).length then (r', -1, 0, false) else (r', op, ((i + 1 : Nat) : Int), false)), ()) := by
      have hlow := low8_ev (memR mp (placeR y.2.1 r).1)
      rw [show memR mp (placeR y.2.1 r).1 % 256 = memR mp (placeR y.2.1 r).1 by omega] at hlow
      unfold Tell63
      refine .bind hlow (.bind hfit2 (.no hne (.bind (hdo _) (.no rfl (.bind (a := (c, (), (), y, (((placeR y.2.1 r).2.set y.2.2.1.toNat (memR mp (placeR y.2.1 r).1)), op, (i : Int), false), ((List.replicate 9 0 : List Int), (0 : Int), (0 : Int), false))) (.yes ?_ (.val (if_pos hcy.reg) (.val (rd9 hpl.1.len hcy.reg) (.now _)))) htail)))))
      show cond (cond (y.1 == 1) (decide (y.2.2.1 ≥ 0)) false) (decide (y.2.2.1 < 9)) false = true
      rw [hy0, decide_eq_true (show y.2.2.1 ≥ 0 from hcy.reg.1), decide_eq_true hcy.reg.2]; rfl
    unfold Cycle29
    exact .bind hask (.bind (.yes rfl (.bind (read_ev _ _) (.bind (low8_ev _) (.now _)))) (.bind htell (.now _)))
  · have e2 : busO false y r mp = ((2, (placeR y.2.1 r).1, r.getD y.2.2.1.toNat 0 % 256), (placeR y.2.1 r).2, mput (.int .i64) (.int .i64) mp (placeR y.2.1 r).1 (r.getD y.2.2.1.toNat 0 % 256)) := by
      unfold busO
      rw [if_neg (by omega), if_neg (by omega)]
      rfl
    rw [e2] at htail ⊢
    have hfit2 := fit_ev hpl.1.len
    rw [fitL_id hpl.1] at hfit2
    have hask : Ev (fun k => Ask62 k c (r, op, (i : Int), false) false) ((((placeR y.2.1 r).2, op, (i : Int), false), (2, (placeR y.2.1 r).1, r.getD y.2.2.1.toNat 0 % 256), ()), ()) := by
      unfold Ask62
      refine .bind hfit (.bind (.no hne (.now _)) (.no hne (.bind (hdo _) (.no ?_ (.bind (.yes ?_ (.val (if_pos hcy.reg) (.val hrr (.bind (low8_ev _) (.now _))))) (.bind hplace (.now' ?_)))))))
      · show cond (!true) true (y.1 == 0) = false; rw [hy0]; rfl
      · show cond (cond (y.1 == 2) (decide (y.2.2.1 ≥ 0)) false) (decide (y.2.2.1 < 9)) false = true
        rw [hy0, decide_eq_true (show y.2.2.1 ≥ 0 from hcy.reg.1), decide_eq_true hcy.reg.2]; rfl
      · show ((((placeR y.2.1 r).2, op, (i : Int), false), (y.1, (placeR y.2.1 r).1, r.getD y.2.2.1.toNat 0 % 256), ()), ()) = _
        rw [hy0]
    have htell : ∀ d, Ev (fun k => Tell63 k c ((placeR y.2.1 r).2, op, (i : Int), false) d) ((if e = true ∨ i + 1 ≥ (cycV c op).length then (r', -1, 0, false) else (r', op, ((i + 1 : Nat) : Int), false)), ()) := by
      intro d
      unfold Tell63
      refine .bind (low8_ev d) (.bind hfit2 (.no hne (.bind (hdo _) (.no rfl (.bind (a := (c, (), (), y, ((placeR y.2.1 r).2, op, (i : Int), false), ((List.replicate 9 0 : List Int), (0 : Int), (0 : Int), false))) (.no ?_ (.now _)) htail)))))
      show cond (cond (y.1 == 1) (decide (y.2.2.1 ≥ 0)) false) (decide (y.2.2.1 < 9)) false = false
      rw [hy0]; rfl
    unfold Cycle29
    exact .bind hask (.bind (.no rfl (.bind (.yes rfl (.bind (.now _) (.now _))) (.now _))) (.bind (htell _) (.now _)))
end Go.Proofs.YtofendipdfepoaaGreat.Tr

/- What is known of registers stays so: the bus of a cycle; memories. No program in sight. -/
set_option linter.unusedVariables false
set_option maxRecDepth 100000
noncomputable section
namespace Go.Proofs.YtofendipdfepoaaGreat.Tr
open Go Go.Proofs.YtofendipdfepoaaGreat.Gp

/-- the memory holds the bytes of a piece -/
def Holds (code : Cod) (mp : Mp) : Prop := ∀ (a : Int) (n : Nat), atI code a = some n → memR mp a = (n : Int)
/-- a bus does not write into a piece -/
def Off (code : Cod) (b : Bs) : Prop := b.1 = 2 → b.2.1 < code.1 ∨ code.1 + (code.2.1.length : Int) ≤ b.2.1
def mgI (mp : Mp) (a : Int) : Option Int := mget (.int .i64) (.int .i64) mp a
def mpI (mp : Mp) (a v : Int) : Mp := mput (.int .i64) (.int .i64) mp a v
theorem mg_same (mp : Mp) (a v : Int) : mgI (mpI mp a v) a = some v :=
  (mget_mput (kk := .int .i64) (kv := .int .i64) rfl).trans (if_pos (eqB_refl (k := .int .i64) rfl))
theorem mg_other (mp : Mp) (a v : Int) {x : Int} (h : x ≠ a) : mgI (mpI mp a v) x = mgI mp x :=
  (mget_mput (kk := .int .i64) (kv := .int .i64) rfl).trans (if_neg (fun e => h (eqB_eq (k := .int .i64) rfl e)))
def memI (mp : Mp) (a : Int) : Int := (match mgI mp a with | some v => v | none => Int.tmod (w64 ((w64 ((w64 (7 * a)) + (quoI .i64 a 256))) + 3)) 256) % 256
theorem memR_I (mp : Mp) (a : Int) : memR mp a = memI mp a := by
  show (if Option.isSome (mgI mp a) = true then Option.getD (α := Int) (mgI mp a) 0 else _) % 256 = _
  unfold memI
  cases mgI mp a with
  | none => rfl
  | some v => rfl
theorem memR_put (mp : Mp) (a v x : Int) : memR (mpI mp a v) x = if x = a then v % 256 else memR mp x := by
  rw [memR_I, memR_I]
  unfold memI
  by_cases h : x = a
  · subst h
    rw [mg_same, if_pos rfl]
  · rw [mg_other _ _ _ h, if_neg h]
theorem holds_put {code : Cod} {mp : Mp} (h : Holds code mp) {a v : Int} (ha : a < code.1 ∨ code.1 + (code.2.1.length : Int) ≤ a) : Holds code (mput (.int .i64) (.int .i64) mp a v) := by
  intro x n hx
  show memR (mpI mp a v) x = _
  rw [memR_put, if_neg]
  · exact h x n hx
  · intro e
    unfold atI at hx
    split at hx
    · rename_i g
      omega
    · cases hx
theorem busO_two {first : Bool} {c : Cyc} {r : List Int} {mp : Mp} (h : c.1 ≠ 0) (h1 : c.1 ≠ 1) : busO first c r mp = ((2, (placeR c.2.1 r).1, r.getD c.2.2.1.toNat 0 % 256), (placeR c.2.1 r).2, mput (.int .i64) (.int .i64) mp (placeR c.2.1 r).1 (r.getD c.2.2.1.toNat 0 % 256)) := by
  unfold busO
  rw [if_neg h, if_neg h1]
  rfl
theorem busO_one {c : Cyc} {r : List Int} {mp : Mp} (h1 : c.1 = 1) : busO false c r mp = ((1, (placeR c.2.1 r).1, memR mp (placeR c.2.1 r).1), (placeR c.2.1 r).2.set c.2.2.1.toNat (memR mp (placeR c.2.1 r).1), mp) := by
  unfold busO
  rw [if_neg (by omega), if_pos h1, if_neg (by decide)]
theorem busO_zero {first : Bool} {c : Cyc} {r : List Int} {mp : Mp} (h : c.1 = 0) : busO first c r mp = ((0, 0, 0), r, mp) := by
  unfold busO
  rw [if_pos h]
theorem busO_holds {code : Cod} {c : Cyc} {r : List Int} {mp : Mp} (h : Holds code mp) (hO : Off code (busO false c r mp).1) : Holds code (busO false c r mp).2.2 := by
  by_cases h0 : c.1 = 0
  · rw [busO_zero h0]; exact h
  · by_cases h1 : c.1 = 1
    · rw [busO_one h1]; exact h
    · rw [busO_two h0 h1] at hO ⊢
      exact holds_put h (hO rfl)
theorem mov_snd {A : Rg} {r : List Int} (hr : FitR r) (hS : Snd A r) {a : Int} (ha : 0 ≤ a ∧ a < 12) : Snd (movA A a) (placeR a r).2 := by
  have h7 := hr.ok 7 (by decide)
  have h3 := hr.ok 3 (by decide)
  rw [wB7] at h7
  rw [wB3] at h3
  have key : ∀ (i : Nat) (x b : Int), i < 9 → 0 ≤ x → x < wB i → x % wB i = (r.getD i 0 + b) % wB i → Snd (addA A i b) (r.set i x) := by
    intro i x b hi h0 h1 h2
    have := snd_set hr hS hi (x := x) (sb_add hr hS hi (b := b) h2)
    rw [fitL_id (fitR_set hr ⟨h0, h1⟩)] at this
    exact this
  unfold movA placeR
  by_cases e0 : a = 0
  · rw [if_pos e0, if_pos e0]
    exact key 7 _ 1 (by decide) (by omega) (by rw [wB7]; omega) (by rw [wB7]; omega)
  rw [if_neg e0, if_neg e0]
  by_cases e1 : a = 1
  · rw [if_pos e1, if_neg (by omega), if_neg (by omega)]
    exact hS
  rw [if_neg e1]
  by_cases e2 : a = 2
  · rw [if_pos e2, if_neg (by omega), if_neg (by omega)]
    exact hS
  rw [if_neg e2]
  by_cases e3 : a = 3
  · rw [if_pos e3, if_neg (by omega), if_neg (by omega)]
    exact hS
  rw [if_neg e3]
  by_cases e4 : a = 4
  · rw [if_pos e4, if_pos e4]
    exact key 3 _ (-1) (by decide) (by omega) (by rw [wB3]; omega) (by rw [wB3]; omega)
  rw [if_neg e4, if_neg e4]
  by_cases e5 : a = 5
  · rw [if_pos e5, if_pos e5]
    exact key 3 _ 1 (by decide) (by omega) (by rw [wB3]; omega) (by rw [wB3]; omega)
  rw [if_neg e5, if_neg e5]
  exact hS
theorem bus_snd {code : Cod} {c : Cyc} (hc : OkC c) {A : Rg} {P : Psh} {r : List Int} (hr : FitR r) (hS : Snd A r) {mp : Mp} (hH : Holds code mp) (h0 : c.1 ≠ 0) : Snd (busA code A P c).1 (busO false c r mp).2.1 := by
  have hp := placeR_ok hc.at' hr
  have hm := mov_snd hr hS hc.at'
  unfold busA
  by_cases h1 : c.1 = 1
  · rw [if_pos h1, busO_one h1]
    have hv := memR_in mp (placeR c.2.1 r).1
    have hreg : c.2.2.1.toNat < 9 := by have := hc.reg; omega
    have hwb := wB_low hc.reg.1 hc.low
    have hwd : wdN c.2.2.1.toNat = false := by rw [wdN_nat hc.reg.1]; exact hc.low
    have hfit : FitR ((placeR c.2.1 r).2.set c.2.2.1.toNat (memR mp (placeR c.2.1 r).1)) := fitR_set hp.1 (by rw [hwb]; exact hv)
    have := snd_set hp.1 hm hreg (x := memR mp (placeR c.2.1 r).1) (y := ((dataA code A c.2.1).map (· % 256), (dataA code A c.2.1).map (fun n => n / 256 % 256))) ?_
    · rw [fitL_id hfit] at this
      exact this
    · rw [hwb, hwd]
      refine ⟨fun l hl => ?_, fun h => by cases h⟩
      unfold dataA at hl
      split at hl
      · rename_i ha
        have hpl : (placeR c.2.1 r).1 = r.getD 7 0 := by
          unfold placeR
          rcases ha with ha | ha
          · rw [if_pos ha]
          · rw [if_neg (by omega), if_pos ha]
        cases hw : wholeA A 7 with
        | none =>
          rw [hw] at hl
          have : atI code (eP none) = none := by
            exact if_neg (fun g => absurd g.1 (by show ¬ (0 : Int) ≤ -1; decide))
          rw [this] at hl
          cases hl
        | some n =>
          have hn := whole_is hr hS (by decide) hw
          rw [hw] at hl
          cases hat : atI code (eP (some n)) with
          | none => rw [hat] at hl; cases hl
          | some m =>
            rw [hat] at hl
            have hl : m % 256 = l := Option.some.inj hl
            have := hH _ _ hat
            rw [hpl, hn]
            have e : eP (some n) = (n : Int) := rfl
            rw [e] at this
            rw [this]
            omega
      · cases hl
  · rw [if_neg h1, busO_two h0 h1]
    exact hm
theorem cyB_snd {code : Cod} {c : Cyc} (hc : OkC c) {b : Ab} {r : List Int} (hr : FitR r) (hS : Snd b.1 r) {mp : Mp} (hH : Holds code mp) : Snd (cyB code b c).1 (busO false c r mp).2.1 := by
  unfold cyB
  by_cases h0 : c.1 = 0
  · rw [if_neg (by omega), busO_zero h0]
    exact hS
  · rw [if_pos h0]
    exact bus_snd (P := b.2.1) hc hr hS hH h0
theorem cyB_inv {code : Cod} (hd : OkD code) {c : Cyc} {b : Ab} (hb : Inv b.1) : Inv (cyB code b c).1 := by
  unfold cyB
  split
  · show Inv (busA code b.1 b.2.1 c).1
    unfold busA
    split
    · exact (hb.mov _).set _ _
    · exact hb.mov _
  · exact hb
theorem cyB_ends {code : Cod} {c : Cyc} {b : Ab} : (cyB code b c).2.2 = b.2.2 := by
  unfold cyB
  split <;> rfl
theorem foldA_inv : ∀ (l : List Stp4) (b : Ab), Inv b.1 → Inv (l.foldl stA b).1
  | [], _, h => h
  | s :: l, b, h => foldA_inv l (stA b s) (by
      unfold stA
      split
      · exact h
      · exact h.step s)
theorem cyA_ends {code : Cod} {c : Cyc} {b : Ab} : ∀ E ∈ b.2.2, E ∈ (cyA code b c).2.2 := by
  intro E hE
  unfold cyA
  exact foldA_ends _ _ E (by rw [cyB_ends]; exact hE)
theorem foldC_ends {code : Cod} : ∀ (l : List Cyc) (b : Ab), ∀ E ∈ b.2.2, E ∈ (l.foldl (cyA code) b).2.2
  | [], _, E, h => h
  | c :: l, b, E, h => foldC_ends l (cyA code b c) E (cyA_ends E h)
end Go.Proofs.YtofendipdfepoaaGreat.Tr

/- The cycles of an instruction, in a block and in a processor. No program in sight. -/
set_option linter.unusedVariables false
set_option maxRecDepth 100000
noncomputable section
namespace Go.Proofs.YtofendipdfepoaaGreat.Tr
open Go Go.Proofs.YtofendipdfepoaaGreat.Gp

abbrev Blk := Int × List Int × Int × Bool × List Mv
def mvC (y : Cyc) : Mv := (false, y.1, y.2.1, y.2.2.1, y.2.2.2)
theorem mvs_at {blk : Blk} {P Q : List Mv} {y : Mv} (h : blk.2.2.2.2 = P ++ y :: Q) : blk.2.2.2.2[P.length]? = some y := by rw [h]; simp
theorem skip_run {blk : Blk} (hl : blk.2.2.2.2.length ≤ 1000) {mp : Mp} {o2 o3 : Cor} {o7 : List Bs} {v : Unit × Unit × Unit × Unit × Mp × Cor × Cor × List Bs} : ∀ (suf : List Cyc) (P Q : List Mv), blk.2.2.2.2 = P ++ suf.map mvC ++ Q →
    Gp.Lp (fun k => Run8.l0 k blk) ((), (), (), (), true, ((P.length + suf.length : Nat) : Int), (), mp, o2, o3, o7) v → Gp.Lp (fun k => Run8.l0 k blk) ((), (), (), (), true, (P.length : Int), (), mp, o2, o3, o7) v
  | [], P, Q, _, h => h
  | y :: suf, P, Q, e, h => by
    have hx : blk.2.2.2.2[P.length]? = some (mvC y) := mvs_at (Q := suf.map mvC ++ Q) (by rw [e]; simp)
    have hi := get_lt hx
    have ih := skip_run hl suf (P ++ [mvC y]) Q (by rw [e]; simp) (v := v) (mp := mp) (o2 := o2) (o3 := o3) (o7 := o7) (by
      have : (P ++ [mvC y]).length + suf.length = P.length + (y :: suf).length := by simp; omega
      rw [this]; exact h)
    refine .step ?_ ih
    simp only [Run8.l0]
    refine .yes (decide_eq_true (by omega)) (.bind (.val (rd_some' hx) (.yes rfl (.now _))) (.now' ?_))
    rw [w64_id (by omega) (by omega)]
    have : (((P ++ [mvC y]).length : Nat) : Int) = (P.length : Int) + 1 := by simp
    rw [this]
structure CysOk (x : Ins) (i : Nat) (suf : List Cyc) (r : List Int) (mp : Mp) (r' : List Int) (bs : List Bs) (mp' : Mp) : Prop where
  fit : FitR r'
  len : bs.length ≤ suf.length
  nil : suf = [] → r' = r ∧ bs = [] ∧ mp' = mp
  run : ∀ (blk : Blk) (P Q : List Mv), blk.2.2.2.2 = P ++ suf.map mvC ++ Q → blk.2.2.2.2.length ≤ 1000 → ∀ (t : Int × Int × Bool) (o3 : Cor) (o7 : List Bs) (v : Unit × Unit × Unit × Unit × Mp × Cor × Cor × List Bs), o7.length + suf.length ≤ 1000 →
    (∀ sk, Gp.Lp (fun k => Run8.l0 k blk) ((), (), (), (), sk, ((P.length + suf.length : Nat) : Int), (), mp', (r', t), o3, o7 ++ bs) v) → Gp.Lp (fun k => Run8.l0 k blk) ((), (), (), (), false, (P.length : Int), (), mp, (r, t), o3, o7) v
  whole : suf ≠ [] → ∀ (c : Cpu) (op : Int), Wc c → 0 ≤ op ∧ op ≤ 255 → cycV c op = x.2.2.2 → ∀ (t10 : Int) (o3 : Cor) (o6 : List Bs), 0 ≤ t10 → t10 + (suf.length : Int) ≤ 20 → o6.length + suf.length ≤ 1000 →
    Gp.Lp (fun k => Run9.l0 k) ((), c, (), (), (), t10, (), mp, (r, op, (i : Int), false), o3, o6) ((), (), (), (), mp', (r', -1, 0, false), o3, o6 ++ bs)
  snd : ∀ code, OkD code → ∀ b : Ab, Inv b.1 → Snd b.1 r → Holds code mp → (∀ w ∈ bs, Off code w) → ∃ E ∈ (suf.foldl (cyA code) b).2.2 ++ [((suf.foldl (cyA code) b).1, (suf.foldl (cyA code) b).2.1)], Snd E.1 r'
  mem : ∀ code, Holds code mp → (∀ w ∈ bs, Off code w) → Holds code mp'
theorem room24 {a b : Nat} (h : a + b ≤ 1000) : (if room (a + b) 24 then some () else none : Option Unit) = some () := if_pos (room_ok (by omega))
theorem cys_ex {x : Ins} (hx : OkI x) : ∀ (suf pre : List Cyc), x.2.2.2 = pre ++ suf → ∀ r mp, FitR r → ∃ r' bs mp', CysOk x pre.length suf r mp r' bs mp' := by
  intro suf
  induction suf with
  | nil =>
    intro pre h r mp hr
    exact ⟨r, [], mp, hr, Nat.le_refl _, fun _ => ⟨rfl, rfl, rfl⟩, fun blk P Q e hl t o3 o7 v ho hv => by simpa using hv false, fun h => absurd rfl h, fun code hd b hb hS hH hO => ⟨_, List.mem_append_right _ (List.mem_singleton.2 rfl), hS⟩, fun code hH hO => hH⟩
  | cons y suf ih =>
    intro pre h r mp hr
    have h8 := hx.cyc.len
    have hyx : x.2.2.2[pre.length]? = some y := by rw [h]; simp
    have hy := hx.cyc.ok y (get_mem hyx)
    have hbf := busO_fit (first := false) hy hr mp
    obtain ⟨r1, e, hs⟩ := steps_ex y.2.2.2 hy.len hy.steps y.2.2.2 [] rfl _ hbf
    have hone := one_cy (first := false) hy hr mp hs
    have hmv : ∀ {blk : Blk} {P Q : List Mv}, blk.2.2.2.2 = P ++ (y :: suf).map mvC ++ Q → blk.2.2.2.2[P.length]? = some (mvC y) := fun {blk P Q} e => mvs_at (Q := suf.map mvC ++ Q) (by rw [e]; simp)
    have hP : ∀ P : List Mv, ((((P ++ [mvC y]).length) : Nat) : Int) = (P.length : Int) + 1 := fun P => by simp
    have hbody : ∀ (blk : Blk) (P Q : List Mv), blk.2.2.2.2 = P ++ (y :: suf).map mvC ++ Q → blk.2.2.2.2.length ≤ 1000 → ∀ (t : Int × Int × Bool) (o3 : Cor) (o7 : List Bs), o7.length + 1 ≤ 1000 →
        Ev (fun k => Run8.l0 k blk ((), (), (), (), false, (P.length : Int), (), mp, (r, t), o3, o7)) (.inl ((), (), (), (), e, (((P ++ [mvC y]).length : Nat) : Int), (), (busO false y r mp).2.2, (r1, t), o3, o7 ++ [(busO false y r mp).1])) := by
      intro blk P Q eq hl t o3 o7 ho
      have hm := hmv eq
      have hi := get_lt hm
      simp only [Run8.l0]
      refine .yes (decide_eq_true (by omega)) (.bind (.val (rd_some' hm) (.no rfl (.bind hone (.val (room24 (by simpa using ho)) (.now _))))) (.now' ?_))
      rw [w64_id (by omega) (by omega), hP]
    have hsndB : ∀ code, OkD code → ∀ b : Ab, Inv b.1 → Snd b.1 r → Holds code mp → if e = true then ∃ E ∈ (cyA code b y).2.2, Snd E.1 r1 else Snd (cyA code b y).1 r1 := fun code hd b hb hS hH => hs.snd (cyB code b y) (cyB_inv hd hb) (cyB_snd hy hr hS hH)
    have hcore : ∀ (c : Cpu) (op : Int), Wc c → 0 ≤ op ∧ op ≤ 255 → cycV c op = x.2.2.2 → Ev (fun k => Cycle29 k c (r, op, (pre.length : Int), false) false () () mp) ((((if e = true ∨ pre.length + 1 ≥ x.2.2.2.length then (r1, -1, 0, false) else (r1, op, ((pre.length + 1 : Nat) : Int), false)) : Cor), (busO false y r mp).1, ()), (), (busO false y r mp).2.2) := by
      intro c op hc ho hv
      have := core_cy hc ho (i := pre.length) (y := y) (by rw [hv]; exact hyx) (by rw [hv]; exact h8) hy hr mp hs
      rw [hv] at this
      exact this
    have hlx : x.2.2.2.length = pre.length + 1 + suf.length := by rw [h]; simp; omega
    cases e with
    | true =>
      refine ⟨r1, [(busO false y r mp).1], (busO false y r mp).2.2, hs.fit, by simp, fun h => (by cases h), fun blk P Q eq hl t o3 o7 v ho hv => ?_, fun _ c op hc hop hcv t10 o3 o6 h0 h20 ho => ?_, fun code hd b hb hS hH hO => ?_, fun code hH hO => busO_holds hH (hO _ (List.mem_singleton.2 rfl))⟩
      · rw [List.length_cons] at ho
        refine .step (hbody blk P Q eq hl t o3 o7 (by omega)) (skip_run hl suf (P ++ [mvC y]) Q (by rw [eq]; simp) ?_)
        have : (P ++ [mvC y]).length + suf.length = P.length + (y :: suf).length := by simp; omega
        rw [this]
        exact hv true
      · rw [List.length_cons] at h20 ho
        have hC := hcore c op hc hop hcv
        rw [if_pos (.inl rfl)] at hC
        refine .done ?_
        simp only [Run9.l0]
        exact .yes (decide_eq_true (by omega)) (.bind hC (.val (room24 (by simp; omega)) (.yes rfl (.now _))))
      · have := hsndB code hd b hb hS hH
        rw [if_pos rfl] at this
        obtain ⟨E, hE, g⟩ := this
        exact ⟨E, List.mem_append_left _ (foldC_ends suf _ E hE), g⟩
    | false =>
      obtain ⟨r2, bs, mp2, g⟩ := ih (pre ++ [y]) (by rw [h]; simp) r1 (busO false y r mp).2.2 hs.fit
      have hgl := g.len
      refine ⟨r2, (busO false y r mp).1 :: bs, mp2, g.fit, by simp; omega, fun h => (by cases h), fun blk P Q eq hl t o3 o7 v ho hv => ?_, fun _ c op hc hop hcv t10 o3 o6 h0 h20 ho => ?_, fun code hd b hb hS hH hO => ?_, fun code hH hO => ?_⟩
      · rw [List.length_cons] at ho
        refine .step (hbody blk P Q eq hl t o3 o7 (by omega)) (g.run blk (P ++ [mvC y]) Q (by rw [eq]; simp) hl t o3 _ v (by simp; omega) fun sk => ?_)
        have : (P ++ [mvC y]).length + suf.length = P.length + (y :: suf).length := by simp; omega
        rw [this, List.append_assoc]
        exact hv sk
      · rw [List.length_cons] at h20 ho
        have hC := hcore c op hc hop hcv
        by_cases hsuf : suf = []
        · obtain ⟨rfl, rfl, rfl⟩ := g.nil hsuf
          subst hsuf
          rw [if_pos (.inr (by rw [hlx]; simp))] at hC
          refine .done ?_
          simp only [Run9.l0]
          exact .yes (decide_eq_true (by omega)) (.bind hC (.val (room24 (by simp; omega)) (.yes rfl (.now _))))
        · have hpos : 0 < suf.length := List.length_pos_iff.2 hsuf
          rw [if_neg (fun hq => hq.elim (fun h => by cases h) (fun h => by omega))] at hC
          have hw := g.whole hsuf c op hc hop hcv (t10 + 1) o3 (o6 ++ [(busO false y r mp).1]) (by omega) (by omega) (by simp; omega)
          have hpl : (((pre ++ [y]).length : Nat) : Int) = ((pre.length + 1 : Nat) : Int) := by simp
          rw [hpl, List.append_assoc] at hw
          refine .step ?_ hw
          simp only [Run9.l0]
          refine .yes (decide_eq_true (by omega)) (.bind hC (.val (room24 (by simp; omega)) (.no ?_ (.now' ?_))))
          · show cond (op == -1) true (op == 259) = false
            rw [beq_false_of_ne (show op ≠ -1 by omega)]
            exact beq_false_of_ne (by omega)
          · rw [w64_id (by omega) (by omega)]
      · have := hsndB code hd b hb hS hH
        rw [if_neg (by decide)] at this
        have hH2 := busO_holds hH (hO _ (List.mem_cons_self ..))
        exact g.snd code hd (cyA code b y) (foldA_inv _ _ (cyB_inv hd hb)) this hH2 (fun w hw => hO w (List.mem_cons_of_mem _ hw))
      · exact g.mem code (busO_holds hH (hO _ (List.mem_cons_self ..))) (fun w hw => hO w (List.mem_cons_of_mem _ hw))
end Go.Proofs.YtofendipdfepoaaGreat.Tr

/- An instruction, in a block and in a processor. No program in sight. -/
set_option linter.unusedVariables false
set_option maxRecDepth 100000
noncomputable section
namespace Go.Proofs.YtofendipdfepoaaGreat.Tr
open Go Go.Proofs.YtofendipdfepoaaGreat.Gp

def movesI (x : Ins) : List Mv := (true, 1, 0, 0, []) :: x.2.2.2.map (fun y => (false, y.1, y.2.1, y.2.2.1, y.2.2.2))
theorem movesI_mv (x : Ins) : movesI x = (true, 1, 0, 0, []) :: x.2.2.2.map mvC := rfl
theorem steps_nil {r : List Int} (hr : FitR r) : StepsOk [] 0 [] r r false := by
  refine ⟨fun x o1 o3 o4 o5 hx => .done ?_, fun x c op at_ nmi z hx => .done ?_, hr, fun b hb hS => hS⟩
  · simp only [one28.l0]
    exact .no (by rw [hx]; simp) (.now _)
  · simp only [Tell63.l0]
    exact .no (by rw [hx]; simp) (.now _)
def firstC : Cyc := (1, 0, 0, [])
theorem firstC_ok : OkC firstC := ⟨⟨by decide, by decide⟩, ⟨by decide, by decide⟩, ⟨by decide, by decide⟩, rfl, Nat.zero_le _, fun s hs => by cases hs⟩
def next7 (r : List Int) : List Int := r.set 7 ((r.getD 7 0 + 1) % 65536)
theorem first_ev {r : List Int} (hr : FitR r) (mp : Mp) : FitR (next7 r) ∧ Ev (fun k => one28 k (true, 1, 0, 0, []) r () () mp) ((next7 r, (1, r.getD 7 0, memR mp (r.getD 7 0)), false, ()), (), mp) := by
  have hbf := busO_fit (first := true) firstC_ok hr mp
  exact ⟨hbf, one_cy (first := true) firstC_ok hr mp (steps_nil hbf)⟩
theorem snd_first {r : List Int} (hr : FitR r) : Snd (setA A0 7 (pc1 (r.getD 7 0))) (next7 r) := by
  have h7 := hr.ok 7 (by decide)
  rw [wB7] at h7
  have hS : Snd A0 r := fun i hi => sb_none
  have := snd_set hr hS (to := 7) (by decide) (x := (r.getD 7 0 + 1) % 65536) (y := ((pc1 (r.getD 7 0)).map (· % 256), (pc1 (r.getD 7 0)).map (fun n => n / 256 % 256))) (sb_num (n := ((r.getD 7 0 + 1) % 65536).toNat) (by rw [wB7]; omega) (by omega))
  rw [fitL_id (fitR_set hr (by rw [wB7]; omega))] at this
  exact this
structure InsOk (x : Ins) (r : List Int) (mp : Mp) (r' : List Int) (bs : List Bs) (mp' : Mp) : Prop where
  fit : FitR r'
  len : bs.length ≤ 9
  run : ∀ (blk : Blk) (P Q : List Mv), blk.2.2.2.2 = P ++ movesI x ++ Q → blk.2.2.2.2.length ≤ 1000 → ∀ (sk : Bool) (t : Int × Int × Bool) (o3 : Cor) (o7 : List Bs) (v : Unit × Unit × Unit × Unit × Mp × Cor × Cor × List Bs), o7.length + 9 ≤ 1000 →
    (∀ sk, Gp.Lp (fun k => Run8.l0 k blk) ((), (), (), (), sk, ((P.length + (movesI x).length : Nat) : Int), (), mp', (r', t), o3, o7 ++ bs) v) → Gp.Lp (fun k => Run8.l0 k blk) ((), (), (), (), sk, (P.length : Int), (), mp, (r, t), o3, o7) v
  whole : ∀ (c : Cpu), Wc c → ∀ (r0 : List Int) (a : Int), r0.length = 9 → fitL r0 = r → findI c (memR mp (r.getD 7 0)) = some x → Ev (fun k => Run9 k c (r0, -1, a, false) () () mp) (((r', -1, 0, false), bs, ()), (), mp')
  snd : ∀ code, OkD code → Holds code mp → (∀ w ∈ bs, Off code w) → ∃ E ∈ ends1 code x (r.getD 7 0) A0, Snd E.1 r'
  mem : ∀ code, Holds code mp → (∀ w ∈ bs, Off code w) → Holds code mp'
theorem ins_ex {x : Ins} (hx : OkI x) {r : List Int} (hr : FitR r) (mp : Mp) : ∃ r' bs mp', InsOk x r mp r' bs mp' := by
  obtain ⟨hf, h1⟩ := first_ev hr mp
  obtain ⟨r', bs, mp', g⟩ := cys_ex hx x.2.2.2 [] rfl (next7 r) mp hf
  have h8 := hx.cyc.len
  have hgl := g.len
  have hml : (movesI x).length = 1 + x.2.2.2.length := by rw [movesI_mv, List.length_cons, List.length_map]; omega
  refine ⟨r', (1, r.getD 7 0, memR mp (r.getD 7 0)) :: bs, mp', g.fit, by simp; omega, fun blk P Q eq hl sk t o3 o7 v ho hv => ?_, fun c hc r0 a h9 hr0 hfi => ?_, fun code hd hH hO => ?_, fun code hH hO => g.mem code hH (fun w hw => hO w (List.mem_cons_of_mem _ hw))⟩
  · have hm : blk.2.2.2.2[P.length]? = some ((true, 1, 0, 0, []) : Mv) := mvs_at (Q := x.2.2.2.map mvC ++ Q) (by rw [eq, movesI_mv]; simp)
    have hi := get_lt hm
    refine .step (s' := ((), (), (), (), false, (((P ++ [((true, 1, 0, 0, []) : Mv)]).length : Nat) : Int), (), mp, (next7 r, t), o3, o7 ++ [(1, r.getD 7 0, memR mp (r.getD 7 0))])) ?_ (g.run blk (P ++ [(true, 1, 0, 0, [])]) Q (by rw [eq, movesI_mv]; simp) hl t o3 _ v (by simp; omega) fun sk => ?_)
    · simp only [Run8.l0]
      refine .yes (decide_eq_true (by omega)) (.bind (.val (rd_some' hm) (.no (by cases sk <;> rfl) (.bind h1 (.val (room24 (by simp; omega)) (.now _))))) (.now' ?_))
      rw [w64_id (by omega) (by omega)]
      have : (((P ++ [((true, 1, 0, 0, []) : Mv)]).length : Nat) : Int) = (P.length : Int) + 1 := by simp
      rw [this]
    · have : (P ++ [((true, 1, 0, 0, []) : Mv)]).length + x.2.2.2.length = P.length + (movesI x).length := by rw [hml]; simp; omega
      rw [this, List.append_assoc]
      exact hv sk
  · subst hr0
    have hC := core_first hc h9 a mp hfi
    have hop := memR_in mp ((fitL r0).getD 7 0)
    have hcv : cycV c (memR mp ((fitL r0).getD 7 0)) = x.2.2.2 := by unfold cycV; rw [hfi]
    unfold Run9
    by_cases hlen : 0 < x.2.2.2.length
    · rw [if_pos hlen] at hC
      have hw := g.whole (List.length_pos_iff.1 hlen) c _ hc (by omega) hcv 1 (List.replicate 9 0, 0, 0, false) [(1, (fitL r0).getD 7 0, memR mp ((fitL r0).getD 7 0))] (by decide) (by omega) (by simp; omega)
      refine .bind (Gp.Lp.ev (.step ?_ hw)) (.now _)
      simp only [Run9.l0]
      refine .yes rfl (.bind hC (.val (room24 (by simp)) (.no ?_ (.now' rfl))))
      show cond (memR mp ((fitL r0).getD 7 0) == -1) true (memR mp ((fitL r0).getD 7 0) == 259) = false
      rw [beq_false_of_ne (show memR mp ((fitL r0).getD 7 0) ≠ -1 by omega)]
      exact beq_false_of_ne (by omega)
    · rw [if_neg hlen] at hC
      obtain ⟨e1, e2, e3⟩ := g.nil (List.length_eq_zero_iff.1 (by omega))
      rw [e1, e2, e3]
      refine .bind (a := ((), (), (), (), mp, (next7 (fitL r0), -1, 0, false), (List.replicate 9 0, 0, 0, false), [(1, (fitL r0).getD 7 0, memR mp ((fitL r0).getD 7 0))])) (Gp.Lp.ev (.done ?_)) (.now _)
      simp only [Run9.l0]
      exact .yes rfl (.bind hC (.val (room24 (by simp)) (.yes rfl (.now _))))
  · exact g.snd code hd (setA A0 7 (pc1 (r.getD 7 0)), [], []) (inv0.set _ _) (snd_first hr) hH (fun w hw => hO w (List.mem_cons_of_mem _ hw))
/-- .. jammed or not known: a processor that reads no instruction answers all the same -/
theorem jam_ev {c : Cpu} (hc : Wc c) {r : List Int} (hl : r.length = 9) (a : Int) (mp : Mp) (hx : findI c (memR mp ((fitL r).getD 7 0)) = none) :
    Ev (fun k => Run9 k c (r, -1, a, false) () () mp) (((next7 (fitL r), 259, 0, false), [(1, (fitL r).getD 7 0, memR mp ((fitL r).getD 7 0))], ()), (), mp) := by
  have hf := fitL_ok r
  have hg7 := hf.ok 7 (by decide)
  rw [wB7] at hg7
  have hm := memR_in mp ((fitL r).getD 7 0)
  have hset : FitR (next7 (fitL r)) := fitR_set hf (by rw [wB7]; omega)
  have hfind := find_ev hc (memR mp ((fitL r).getD 7 0))
  rw [show findR c (memR mp ((fitL r).getD 7 0)) = (none4, false, ()) from by unfold findR; rw [hx]] at hfind
  have hask : Ev (fun k => Ask62 k c (r, -1, a, false) false) (((next7 (fitL r), -1, a, false), (1, (fitL r).getD 7 0, 0), ()), ()) := by
    unfold Ask62
    exact .bind (fit_ev hl) (.bind (.yes rfl (.bind (start_ev c _ a) (.now _))) (.yes rfl (.bind (place_r (a := 0) (by decide) hf) (.now _))))
  have htell : Ev (fun k => Tell63 k c (next7 (fitL r), -1, a, false) (memR mp ((fitL r).getD 7 0))) ((next7 (fitL r), 259, 0, false), ()) := by
    have hlow := low8_ev (memR mp ((fitL r).getD 7 0))
    rw [show memR mp ((fitL r).getD 7 0) % 256 = memR mp ((fitL r).getD 7 0) by omega] at hlow
    have hfit := fit_ev hset.len
    rw [fitL_id hset] at hfit
    unfold Tell63
    exact .bind hlow (.bind hfit (.yes rfl (.bind hfind (.bind (.yes rfl (.now _)) (.now _)))))
  have hC : Ev (fun k => Cycle29 k c (r, -1, a, false) false () () mp) (((next7 (fitL r), 259, 0, false), (1, (fitL r).getD 7 0, memR mp ((fitL r).getD 7 0)), ()), (), mp) := by
    unfold Cycle29
    exact .bind hask (.bind (.yes rfl (.bind (read_ev _ _) (.bind (low8_ev _) (.now _)))) (.bind htell (.now _)))
  unfold Run9
  refine .bind (a := ((), (), (), (), mp, (next7 (fitL r), 259, 0, false), (List.replicate 9 0, 0, 0, false), [(1, (fitL r).getD 7 0, memR mp ((fitL r).getD 7 0))])) (Gp.Lp.ev (.done ?_)) (.now _)
  simp only [Run9.l0]
  exact .yes rfl (.bind hC (.val (room24 (by simp)) (.yes rfl (.now _))))
theorem jammed_ev {c : Cpu} (hc : Wc c) {r : List Int} (hr : FitR r) (mp : Mp) : Ev (fun k => Run9 k c (r, 259, 0, false) () () mp) (((r, 259, 0, false), [(0, 0, 0)], ()), (), mp) := by
  have hfit := fit_ev hr.len
  rw [fitL_id hr] at hfit
  have hcy : Ev (fun k => cycles115 k c 259) ([], ()) := by
    have hl := hc.len
    have key : ∀ (n i : Nat), i + n = c.2.1.length → Gp.Lp (fun k => cycles115.l0 k c 259) (i : Int) (.inl ()) := by
      intro n
      induction n with
      | zero =>
        intro i hi
        refine .done ?_
        simp only [cycles115.l0]
        exact .no (decide_eq_false (by omega)) (.now _)
      | succ n ih =>
        intro i hi
        have hx : c.2.1[i]? = some c.2.1[i] := List.getElem?_eq_getElem (by omega)
        refine .step ?_ (ih (i + 1) (by omega))
        simp only [cycles115.l0]
        refine .yes (decide_eq_true (by omega)) (.val (rd_some' hx) (.no (by cases ((c.2.1[i]).1 == (259 : Int)) <;> rfl) (.now' ?_)))
        rw [w64_succ (by omega)]
    unfold cycles115
    exact .no rfl (.no rfl (.no rfl (.joinL (S := Unit) (key c.2.1.length 0 (by omega)).ev (.now _))))
  have hdo : ∀ q, Ev (fun k => doing113 k c (q, 259, 0, false)) (((0, 0, 0, []), false, ()), ()) := by
    intro q
    unfold doing113
    exact .bind hcy (.yes rfl (.now _))
  have hask : Ev (fun k => Ask62 k c (r, 259, 0, false) false) (((r, 259, 0, false), (0, 0, 0), ()), ()) := by
    unfold Ask62
    exact .bind hfit (.bind (.no rfl (.now _)) (.no rfl (.bind (hdo _) (.yes rfl (.now _)))))
  have htell : ∀ d, Ev (fun k => Tell63 k c (r, 259, 0, false) d) ((r, 259, 0, false), ()) := by
    intro d
    unfold Tell63 ended114
    exact .bind (low8_ev d) (.bind hfit (.no rfl (.bind (hdo _) (.yes rfl (.bind (.bind (.no rfl (.now _)) (.now _)) (.now _))))))
  have hC : Ev (fun k => Cycle29 k c (r, 259, 0, false) false () () mp) (((r, 259, 0, false), (0, 0, 0), ()), (), mp) := by
    unfold Cycle29
    exact .bind hask (.bind (.no rfl (.bind (.no rfl (.now _)) (.now _))) (.bind (htell _) (.now _)))
  unfold Run9
  refine .bind (a := ((), (), (), (), mp, (r, 259, 0, false), (List.replicate 9 0, 0, 0, false), [(0, 0, 0)])) (Gp.Lp.ev (.done ?_)) (.now _)
  simp only [Run9.l0]
  exact .yes rfl (.bind hC (.val (room24 (by simp)) (.yes rfl (.now _))))
end Go.Proofs.YtofendipdfepoaaGreat.Tr

/- More fuel, no other answer: the functions. Printed by mono.py. -/
set_option linter.unusedVariables false
set_option maxRecDepth 100000
noncomputable section
namespace Go.Proofs.YtofendipdfepoaaGreat.Tr
open Go Go.Proofs.YtofendipdfepoaaGreat.Gp
theorem Name64.l0.mono : ∀ a0_, ∀ s, Mono (fun k => Name64.l0 k a0_ s) := by
  intro a0_
  unfold Name64.l0
  repeat' (first | exact Mono.const _ | with_reducible refine Mono.cond ?_ ?_ | with_reducible refine Mono.orNil ?_ ?_ | with_reducible refine Mono.agree ?_ ?_ | with_reducible refine Mono.joined ?_ ?_ | with_reducible refine Mono.bind ?_ ?_ | with_reducible refine Mono.loop ?_ | with_reducible refine Mono.prod ?_ | intro _ | (dsimp only))

theorem Name64.mono : ∀ a0_, Mono (fun k => Name64 k a0_) := by
  intro a0_
  unfold Name64
  repeat' (first | exact Mono.const _ | with_reducible exact Name64.l0.mono _ | with_reducible refine Mono.cond ?_ ?_ | with_reducible refine Mono.orNil ?_ ?_ | with_reducible refine Mono.agree ?_ ?_ | with_reducible refine Mono.joined ?_ ?_ | with_reducible refine Mono.bind ?_ ?_ | with_reducible refine Mono.loop ?_ | with_reducible refine Mono.prod ?_ | intro _ | (dsimp only))

theorem Size65.mono : ∀ a0_, Mono (fun k => Size65 k a0_) := by
  intro a0_
  unfold Size65
  repeat' (first | exact Mono.const _ | with_reducible refine Mono.cond ?_ ?_ | with_reducible refine Mono.orNil ?_ ?_ | with_reducible refine Mono.agree ?_ ?_ | with_reducible refine Mono.joined ?_ ?_ | with_reducible refine Mono.bind ?_ ?_ | with_reducible refine Mono.loop ?_ | with_reducible refine Mono.prod ?_ | intro _ | (dsimp only))

theorem Check167.mono : ∀ a0_ a1_, Mono (fun k => Check167 k a0_ a1_) := by
  intro a0_ a1_
  unfold Check167
  repeat' (first | exact Mono.const _ | with_reducible refine Mono.cond ?_ ?_ | with_reducible refine Mono.orNil ?_ ?_ | with_reducible refine Mono.agree ?_ ?_ | with_reducible refine Mono.joined ?_ ?_ | with_reducible refine Mono.bind ?_ ?_ | with_reducible refine Mono.loop ?_ | with_reducible refine Mono.prod ?_ | intro _ | (dsimp only))

theorem IndexFunc45.l0.mono : ∀ a0_, ∀ s, Mono (fun k => IndexFunc45.l0 k a0_ s) := by
  intro a0_
  unfold IndexFunc45.l0
  repeat' (first | exact Mono.const _ | with_reducible exact Check167.mono _ _ | with_reducible refine Mono.cond ?_ ?_ | with_reducible refine Mono.orNil ?_ ?_ | with_reducible refine Mono.agree ?_ ?_ | with_reducible refine Mono.joined ?_ ?_ | with_reducible refine Mono.bind ?_ ?_ | with_reducible refine Mono.loop ?_ | with_reducible refine Mono.prod ?_ | intro _ | (dsimp only))

theorem IndexFunc45.mono : ∀ a0_ a1_, Mono (fun k => IndexFunc45 k a0_ a1_) := by
  intro a0_ a1_
  unfold IndexFunc45
  repeat' (first | exact Mono.const _ | with_reducible exact IndexFunc45.l0.mono _ | with_reducible refine Mono.cond ?_ ?_ | with_reducible refine Mono.orNil ?_ ?_ | with_reducible refine Mono.agree ?_ ?_ | with_reducible refine Mono.joined ?_ ?_ | with_reducible refine Mono.bind ?_ ?_ | with_reducible refine Mono.loop ?_ | with_reducible refine Mono.prod ?_ | intro _ | (dsimp only))

theorem ContainsFunc66.mono : ∀ a0_ a1_, Mono (fun k => ContainsFunc66 k a0_ a1_) := by
  intro a0_ a1_
  unfold ContainsFunc66
  repeat' (first | exact Mono.const _ | with_reducible exact IndexFunc45.mono _ _ | with_reducible refine Mono.cond ?_ ?_ | with_reducible refine Mono.orNil ?_ ?_ | with_reducible refine Mono.agree ?_ ?_ | with_reducible refine Mono.joined ?_ ?_ | with_reducible refine Mono.bind ?_ ?_ | with_reducible refine Mono.loop ?_ | with_reducible refine Mono.prod ?_ | intro _ | (dsimp only))

theorem register148.mono : ∀ a0_, Mono (fun k => register148 k a0_) := by
  intro a0_
  unfold register148
  repeat' (first | exact Mono.const _ | with_reducible refine Mono.cond ?_ ?_ | with_reducible refine Mono.orNil ?_ ?_ | with_reducible refine Mono.agree ?_ ?_ | with_reducible refine Mono.joined ?_ ?_ | with_reducible refine Mono.bind ?_ ?_ | with_reducible refine Mono.loop ?_ | with_reducible refine Mono.prod ?_ | intro _ | (dsimp only))

theorem Wide76.mono : ∀ a0_, Mono (fun k => Wide76 k a0_) := by
  intro a0_
  unfold Wide76
  repeat' (first | exact Mono.const _ | with_reducible refine Mono.cond ?_ ?_ | with_reducible refine Mono.orNil ?_ ?_ | with_reducible refine Mono.agree ?_ ?_ | with_reducible refine Mono.joined ?_ ?_ | with_reducible refine Mono.bind ?_ ?_ | with_reducible refine Mono.loop ?_ | with_reducible refine Mono.prod ?_ | intro _ | (dsimp only))

theorem uses174.mono : ∀ a0_, Mono (fun k => uses174 k a0_) := by
  intro a0_
  unfold uses174
  repeat' (first | exact Mono.const _ | with_reducible refine Mono.cond ?_ ?_ | with_reducible refine Mono.orNil ?_ ?_ | with_reducible refine Mono.agree ?_ ?_ | with_reducible refine Mono.joined ?_ ?_ | with_reducible refine Mono.bind ?_ ?_ | with_reducible refine Mono.loop ?_ | with_reducible refine Mono.prod ?_ | intro _ | (dsimp only))

theorem fits175.mono : ∀ a0_ a1_, Mono (fun k => fits175 k a0_ a1_) := by
  intro a0_ a1_
  unfold fits175
  repeat' (first | exact Mono.const _ | with_reducible exact register148.mono _ | with_reducible exact Wide76.mono _ | with_reducible refine Mono.cond ?_ ?_ | with_reducible refine Mono.orNil ?_ ?_ | with_reducible refine Mono.agree ?_ ?_ | with_reducible refine Mono.joined ?_ ?_ | with_reducible refine Mono.bind ?_ ?_ | with_reducible refine Mono.loop ?_ | with_reducible refine Mono.prod ?_ | intro _ | (dsimp only))

theorem step149.mono : ∀ a0_, Mono (fun k => step149 k a0_) := by
  intro a0_
  unfold step149
  repeat' (first | exact Mono.const _ | with_reducible exact register148.mono _ | with_reducible exact Wide76.mono _ | with_reducible exact uses174.mono _ | with_reducible exact fits175.mono _ _ | with_reducible refine Mono.cond ?_ ?_ | with_reducible refine Mono.orNil ?_ ?_ | with_reducible refine Mono.agree ?_ ?_ | with_reducible refine Mono.joined ?_ ?_ | with_reducible refine Mono.bind ?_ ?_ | with_reducible refine Mono.loop ?_ | with_reducible refine Mono.prod ?_ | intro _ | (dsimp only))

theorem cycle116.l0.mono : ∀ a0_, ∀ s, Mono (fun k => cycle116.l0 k a0_ s) := by
  intro a0_
  unfold cycle116.l0
  repeat' (first | exact Mono.const _ | with_reducible exact step149.mono _ | with_reducible refine Mono.cond ?_ ?_ | with_reducible refine Mono.orNil ?_ ?_ | with_reducible refine Mono.agree ?_ ?_ | with_reducible refine Mono.joined ?_ ?_ | with_reducible refine Mono.bind ?_ ?_ | with_reducible refine Mono.loop ?_ | with_reducible refine Mono.prod ?_ | intro _ | (dsimp only))

theorem cycle116.mono : ∀ a0_, Mono (fun k => cycle116 k a0_) := by
  intro a0_
  unfold cycle116
  repeat' (first | exact Mono.const _ | with_reducible exact register148.mono _ | with_reducible exact Wide76.mono _ | with_reducible exact cycle116.l0.mono _ | with_reducible refine Mono.cond ?_ ?_ | with_reducible refine Mono.orNil ?_ ?_ | with_reducible refine Mono.agree ?_ ?_ | with_reducible refine Mono.joined ?_ ?_ | with_reducible refine Mono.bind ?_ ?_ | with_reducible refine Mono.loop ?_ | with_reducible refine Mono.prod ?_ | intro _ | (dsimp only))

theorem cycles68.l0.mono : ∀ a0_, ∀ s, Mono (fun k => cycles68.l0 k a0_ s) := by
  intro a0_
  unfold cycles68.l0
  repeat' (first | exact Mono.const _ | with_reducible exact cycle116.mono _ | with_reducible refine Mono.cond ?_ ?_ | with_reducible refine Mono.orNil ?_ ?_ | with_reducible refine Mono.agree ?_ ?_ | with_reducible refine Mono.joined ?_ ?_ | with_reducible refine Mono.bind ?_ ?_ | with_reducible refine Mono.loop ?_ | with_reducible refine Mono.prod ?_ | intro _ | (dsimp only))

theorem cycles68.mono : ∀ a0_, Mono (fun k => cycles68 k a0_) := by
  intro a0_
  unfold cycles68
  repeat' (first | exact Mono.const _ | with_reducible exact cycles68.l0.mono _ | with_reducible refine Mono.cond ?_ ?_ | with_reducible refine Mono.orNil ?_ ?_ | with_reducible refine Mono.agree ?_ ?_ | with_reducible refine Mono.joined ?_ ?_ | with_reducible refine Mono.bind ?_ ?_ | with_reducible refine Mono.loop ?_ | with_reducible refine Mono.prod ?_ | intro _ | (dsimp only))

theorem operand69.l0.mono : ∀ a0_, ∀ s, Mono (fun k => operand69.l0 k a0_ s) := by
  intro a0_
  unfold operand69.l0
  repeat' (first | exact Mono.const _ | with_reducible refine Mono.cond ?_ ?_ | with_reducible refine Mono.orNil ?_ ?_ | with_reducible refine Mono.agree ?_ ?_ | with_reducible refine Mono.joined ?_ ?_ | with_reducible refine Mono.bind ?_ ?_ | with_reducible refine Mono.loop ?_ | with_reducible refine Mono.prod ?_ | intro _ | (dsimp only))

theorem operand69.mono : ∀ a0_, Mono (fun k => operand69 k a0_) := by
  intro a0_
  unfold operand69
  repeat' (first | exact Mono.const _ | with_reducible exact operand69.l0.mono _ | with_reducible refine Mono.cond ?_ ?_ | with_reducible refine Mono.orNil ?_ ?_ | with_reducible refine Mono.agree ?_ ?_ | with_reducible refine Mono.joined ?_ ?_ | with_reducible refine Mono.bind ?_ ?_ | with_reducible refine Mono.loop ?_ | with_reducible refine Mono.prod ?_ | intro _ | (dsimp only))

theorem Check30.l0.mono : ∀ a0_, ∀ s, Mono (fun k => Check30.l0 k a0_ s) := by
  intro a0_
  unfold Check30.l0
  repeat' (first | exact Mono.const _ | with_reducible exact Name64.mono _ | with_reducible exact Size65.mono _ | with_reducible exact ContainsFunc66.mono _ _ | with_reducible exact cycles68.mono _ | with_reducible exact operand69.mono _ | with_reducible refine Mono.cond ?_ ?_ | with_reducible refine Mono.orNil ?_ ?_ | with_reducible refine Mono.agree ?_ ?_ | with_reducible refine Mono.joined ?_ ?_ | with_reducible refine Mono.bind ?_ ?_ | with_reducible refine Mono.loop ?_ | with_reducible refine Mono.prod ?_ | intro _ | (dsimp only))

theorem Check30.l1.mono : ∀ a0_, ∀ s, Mono (fun k => Check30.l1 k a0_ s) := by
  intro a0_
  unfold Check30.l1
  repeat' (first | exact Mono.const _ | with_reducible exact cycles68.mono _ | with_reducible refine Mono.cond ?_ ?_ | with_reducible refine Mono.orNil ?_ ?_ | with_reducible refine Mono.agree ?_ ?_ | with_reducible refine Mono.joined ?_ ?_ | with_reducible refine Mono.bind ?_ ?_ | with_reducible refine Mono.loop ?_ | with_reducible refine Mono.prod ?_ | intro _ | (dsimp only))

theorem Check30.mono : ∀ a0_, Mono (fun k => Check30 k a0_) := by
  intro a0_
  unfold Check30
  repeat' (first | exact Mono.const _ | with_reducible exact Name64.mono _ | with_reducible exact Check30.l0.mono _ | with_reducible exact Check30.l1.mono _ | with_reducible refine Mono.cond ?_ ?_ | with_reducible refine Mono.orNil ?_ ?_ | with_reducible refine Mono.agree ?_ ?_ | with_reducible refine Mono.joined ?_ ?_ | with_reducible refine Mono.bind ?_ ?_ | with_reducible refine Mono.loop ?_ | with_reducible refine Mono.prod ?_ | intro _ | (dsimp only))

theorem Check43.mono : ∀ a0_ a1_, Mono (fun k => Check43 k a0_ a1_) := by
  intro a0_ a1_
  unfold Check43
  repeat' (first | exact Mono.const _ | with_reducible exact Check30.mono _ | with_reducible refine Mono.cond ?_ ?_ | with_reducible refine Mono.orNil ?_ ?_ | with_reducible refine Mono.agree ?_ ?_ | with_reducible refine Mono.joined ?_ ?_ | with_reducible refine Mono.bind ?_ ?_ | with_reducible refine Mono.loop ?_ | with_reducible refine Mono.prod ?_ | intro _ | (dsimp only))

theorem two97.mono : ∀ a0_ a1_ a2_, Mono (fun k => two97 k a0_ a1_ a2_) := by
  intro a0_ a1_ a2_
  unfold two97
  repeat' (first | exact Mono.const _ | with_reducible refine Mono.cond ?_ ?_ | with_reducible refine Mono.orNil ?_ ?_ | with_reducible refine Mono.agree ?_ ?_ | with_reducible refine Mono.joined ?_ ?_ | with_reducible refine Mono.bind ?_ ?_ | with_reducible refine Mono.loop ?_ | with_reducible refine Mono.prod ?_ | intro _ | (dsimp only))

theorem one98.mono : ∀ a0_ a1_, Mono (fun k => one98 k a0_ a1_) := by
  intro a0_ a1_
  unfold one98
  repeat' (first | exact Mono.const _ | with_reducible refine Mono.cond ?_ ?_ | with_reducible refine Mono.orNil ?_ ?_ | with_reducible refine Mono.agree ?_ ?_ | with_reducible refine Mono.joined ?_ ?_ | with_reducible refine Mono.bind ?_ ?_ | with_reducible refine Mono.loop ?_ | with_reducible refine Mono.prod ?_ | intro _ | (dsimp only))

theorem zero173.mono : Mono (fun k => zero173 k) := by
  unfold zero173
  repeat' (first | exact Mono.const _ | with_reducible refine Mono.cond ?_ ?_ | with_reducible refine Mono.orNil ?_ ?_ | with_reducible refine Mono.agree ?_ ?_ | with_reducible refine Mono.joined ?_ ?_ | with_reducible refine Mono.bind ?_ ?_ | with_reducible refine Mono.loop ?_ | with_reducible refine Mono.prod ?_ | intro _ | (dsimp only))

theorem rd52.mono : ∀ a0_ a1_ a2_ a3_, Mono (fun k => rd52 k a0_ a1_ a2_ a3_) := by
  intro a0_ a1_ a2_ a3_
  unfold rd52
  repeat' (first | exact Mono.const _ | with_reducible refine Mono.cond ?_ ?_ | with_reducible refine Mono.orNil ?_ ?_ | with_reducible refine Mono.agree ?_ ?_ | with_reducible refine Mono.joined ?_ ?_ | with_reducible refine Mono.bind ?_ ?_ | with_reducible refine Mono.loop ?_ | with_reducible refine Mono.prod ?_ | intro _ | (dsimp only))

theorem no96.mono : ∀ a0_, Mono (fun k => no96 k a0_) := by
  intro a0_
  unfold no96
  repeat' (first | exact Mono.const _ | with_reducible refine Mono.cond ?_ ?_ | with_reducible refine Mono.orNil ?_ ?_ | with_reducible refine Mono.agree ?_ ?_ | with_reducible refine Mono.joined ?_ ?_ | with_reducible refine Mono.bind ?_ ?_ | with_reducible refine Mono.loop ?_ | with_reducible refine Mono.prod ?_ | intro _ | (dsimp only))

theorem rd52'.mono : ∀ a0_ a1_ a2_, Mono (fun k => rd52' k a0_ a1_ a2_) := by
  intro a0_ a1_ a2_
  unfold rd52'
  repeat' (first | exact Mono.const _ | with_reducible refine Mono.cond ?_ ?_ | with_reducible refine Mono.orNil ?_ ?_ | with_reducible refine Mono.agree ?_ ?_ | with_reducible refine Mono.joined ?_ ?_ | with_reducible refine Mono.bind ?_ ?_ | with_reducible refine Mono.loop ?_ | with_reducible refine Mono.prod ?_ | intro _ | (dsimp only))

theorem jump53.mono : ∀ a0_, Mono (fun k => jump53 k a0_) := by
  intro a0_
  unfold jump53
  repeat' (first | exact Mono.const _ | with_reducible exact two97.mono _ _ _ | with_reducible refine Mono.cond ?_ ?_ | with_reducible refine Mono.orNil ?_ ?_ | with_reducible refine Mono.agree ?_ ?_ | with_reducible refine Mono.joined ?_ ?_ | with_reducible refine Mono.bind ?_ ?_ | with_reducible refine Mono.loop ?_ | with_reducible refine Mono.prod ?_ | intro _ | (dsimp only))

theorem lead139.mono : ∀ a0_, Mono (fun k => lead139 k a0_) := by
  intro a0_
  unfold lead139
  repeat' (first | exact Mono.const _ | with_reducible exact two97.mono _ _ _ | with_reducible exact zero173.mono | with_reducible exact rd52.mono _ _ _ _ | with_reducible exact no96.mono _ | with_reducible exact rd52'.mono _ _ _ | with_reducible exact jump53.mono _ | with_reducible refine Mono.cond ?_ ?_ | with_reducible refine Mono.orNil ?_ ?_ | with_reducible refine Mono.agree ?_ ?_ | with_reducible refine Mono.joined ?_ ?_ | with_reducible refine Mono.bind ?_ ?_ | with_reducible refine Mono.loop ?_ | with_reducible refine Mono.prod ?_ | intro _ | (dsimp only))

theorem rd52''.mono : ∀ a0_ a1_ a2_, Mono (fun k => rd52'' k a0_ a1_ a2_) := by
  intro a0_ a1_ a2_
  unfold rd52''
  repeat' (first | exact Mono.const _ | with_reducible refine Mono.cond ?_ ?_ | with_reducible refine Mono.orNil ?_ ?_ | with_reducible refine Mono.agree ?_ ?_ | with_reducible refine Mono.joined ?_ ?_ | with_reducible refine Mono.bind ?_ ?_ | with_reducible refine Mono.loop ?_ | with_reducible refine Mono.prod ?_ | intro _ | (dsimp only))

theorem reads138.mono : ∀ a0_ a1_, Mono (fun k => reads138 k a0_ a1_) := by
  intro a0_ a1_
  unfold reads138
  repeat' (first | exact Mono.const _ | with_reducible exact lead139.mono _ | with_reducible exact rd52''.mono _ _ _ | with_reducible refine Mono.cond ?_ ?_ | with_reducible refine Mono.orNil ?_ ?_ | with_reducible refine Mono.agree ?_ ?_ | with_reducible refine Mono.joined ?_ ?_ | with_reducible refine Mono.bind ?_ ?_ | with_reducible refine Mono.loop ?_ | with_reducible refine Mono.prod ?_ | intro _ | (dsimp only))

theorem add95.mono : ∀ a0_ a1_ a2_ a3_ a4_ a5_, Mono (fun k => add95 k a0_ a1_ a2_ a3_ a4_ a5_) := by
  intro a0_ a1_ a2_ a3_ a4_ a5_
  unfold add95
  repeat' (first | exact Mono.const _ | with_reducible refine Mono.cond ?_ ?_ | with_reducible refine Mono.orNil ?_ ?_ | with_reducible refine Mono.agree ?_ ?_ | with_reducible refine Mono.joined ?_ ?_ | with_reducible refine Mono.bind ?_ ?_ | with_reducible refine Mono.loop ?_ | with_reducible refine Mono.prod ?_ | intro _ | (dsimp only))

theorem loads91.l0.mono : ∀ a0_ a1_ a2_, ∀ s, Mono (fun k => loads91.l0 k a0_ a1_ a2_ s) := by
  intro a0_ a1_ a2_
  unfold loads91.l0
  repeat' (first | exact Mono.const _ | with_reducible exact two97.mono _ _ _ | with_reducible exact one98.mono _ _ | with_reducible exact reads138.mono _ _ | with_reducible exact add95.mono _ _ _ _ _ _ | with_reducible refine Mono.cond ?_ ?_ | with_reducible refine Mono.orNil ?_ ?_ | with_reducible refine Mono.agree ?_ ?_ | with_reducible refine Mono.joined ?_ ?_ | with_reducible refine Mono.bind ?_ ?_ | with_reducible refine Mono.loop ?_ | with_reducible refine Mono.prod ?_ | intro _ | (dsimp only))

theorem loads91.mono : ∀ a0_ a1_ a2_ a3_ a4_ a5_, Mono (fun k => loads91 k a0_ a1_ a2_ a3_ a4_ a5_) := by
  intro a0_ a1_ a2_ a3_ a4_ a5_
  unfold loads91
  repeat' (first | exact Mono.const _ | with_reducible exact loads91.l0.mono _ _ _ | with_reducible refine Mono.cond ?_ ?_ | with_reducible refine Mono.orNil ?_ ?_ | with_reducible refine Mono.agree ?_ ?_ | with_reducible refine Mono.joined ?_ ?_ | with_reducible refine Mono.bind ?_ ?_ | with_reducible refine Mono.loop ?_ | with_reducible refine Mono.prod ?_ | intro _ | (dsimp only))

theorem wr99.mono : ∀ a0_ a1_ a2_, Mono (fun k => wr99 k a0_ a1_ a2_) := by
  intro a0_ a1_ a2_
  unfold wr99
  repeat' (first | exact Mono.const _ | with_reducible refine Mono.cond ?_ ?_ | with_reducible refine Mono.orNil ?_ ?_ | with_reducible refine Mono.agree ?_ ?_ | with_reducible refine Mono.joined ?_ ?_ | with_reducible refine Mono.bind ?_ ?_ | with_reducible refine Mono.loop ?_ | with_reducible refine Mono.prod ?_ | intro _ | (dsimp only))

theorem stores92.l0.mono : ∀ a0_ a1_ a2_, ∀ s, Mono (fun k => stores92.l0 k a0_ a1_ a2_ s) := by
  intro a0_ a1_ a2_
  unfold stores92.l0
  repeat' (first | exact Mono.const _ | with_reducible exact lead139.mono _ | with_reducible exact add95.mono _ _ _ _ _ _ | with_reducible exact wr99.mono _ _ _ | with_reducible refine Mono.cond ?_ ?_ | with_reducible refine Mono.orNil ?_ ?_ | with_reducible refine Mono.agree ?_ ?_ | with_reducible refine Mono.joined ?_ ?_ | with_reducible refine Mono.bind ?_ ?_ | with_reducible refine Mono.loop ?_ | with_reducible refine Mono.prod ?_ | intro _ | (dsimp only))

theorem stores92.mono : ∀ a0_ a1_ a2_ a3_ a4_ a5_, Mono (fun k => stores92 k a0_ a1_ a2_ a3_ a4_ a5_) := by
  intro a0_ a1_ a2_ a3_ a4_ a5_
  unfold stores92
  repeat' (first | exact Mono.const _ | with_reducible exact stores92.l0.mono _ _ _ | with_reducible refine Mono.cond ?_ ?_ | with_reducible refine Mono.orNil ?_ ?_ | with_reducible refine Mono.agree ?_ ?_ | with_reducible refine Mono.joined ?_ ?_ | with_reducible refine Mono.bind ?_ ?_ | with_reducible refine Mono.loop ?_ | with_reducible refine Mono.prod ?_ | intro _ | (dsimp only))

theorem joins93.l0.mono : ∀ a0_ a1_ a2_ a3_, ∀ s, Mono (fun k => joins93.l0 k a0_ a1_ a2_ a3_ s) := by
  intro a0_ a1_ a2_ a3_
  unfold joins93.l0
  repeat' (first | exact Mono.const _ | with_reducible exact two97.mono _ _ _ | with_reducible exact reads138.mono _ _ | with_reducible exact add95.mono _ _ _ _ _ _ | with_reducible refine Mono.cond ?_ ?_ | with_reducible refine Mono.orNil ?_ ?_ | with_reducible refine Mono.agree ?_ ?_ | with_reducible refine Mono.joined ?_ ?_ | with_reducible refine Mono.bind ?_ ?_ | with_reducible refine Mono.loop ?_ | with_reducible refine Mono.prod ?_ | intro _ | (dsimp only))

theorem joins93.mono : ∀ a0_ a1_ a2_ a3_ a4_ a5_ a6_, Mono (fun k => joins93 k a0_ a1_ a2_ a3_ a4_ a5_ a6_) := by
  intro a0_ a1_ a2_ a3_ a4_ a5_ a6_
  unfold joins93
  repeat' (first | exact Mono.const _ | with_reducible exact joins93.l0.mono _ _ _ _ | with_reducible refine Mono.cond ?_ ?_ | with_reducible refine Mono.orNil ?_ ?_ | with_reducible refine Mono.agree ?_ ?_ | with_reducible refine Mono.joined ?_ ?_ | with_reducible refine Mono.bind ?_ ?_ | with_reducible refine Mono.loop ?_ | with_reducible refine Mono.prod ?_ | intro _ | (dsimp only))

theorem turns94.l0.mono : ∀ a0_ a1_ a2_, ∀ s, Mono (fun k => turns94.l0 k a0_ a1_ a2_ s) := by
  intro a0_ a1_ a2_
  unfold turns94.l0
  repeat' (first | exact Mono.const _ | with_reducible exact one98.mono _ _ | with_reducible exact no96.mono _ | with_reducible exact lead139.mono _ | with_reducible exact rd52''.mono _ _ _ | with_reducible exact add95.mono _ _ _ _ _ _ | with_reducible exact wr99.mono _ _ _ | with_reducible refine Mono.cond ?_ ?_ | with_reducible refine Mono.orNil ?_ ?_ | with_reducible refine Mono.agree ?_ ?_ | with_reducible refine Mono.joined ?_ ?_ | with_reducible refine Mono.bind ?_ ?_ | with_reducible refine Mono.loop ?_ | with_reducible refine Mono.prod ?_ | intro _ | (dsimp only))

theorem turns94.mono : ∀ a0_ a1_ a2_ a3_ a4_ a5_, Mono (fun k => turns94 k a0_ a1_ a2_ a3_ a4_ a5_) := by
  intro a0_ a1_ a2_ a3_ a4_ a5_
  unfold turns94
  repeat' (first | exact Mono.const _ | with_reducible exact turns94.l0.mono _ _ _ | with_reducible refine Mono.cond ?_ ?_ | with_reducible refine Mono.orNil ?_ ?_ | with_reducible refine Mono.agree ?_ ?_ | with_reducible refine Mono.joined ?_ ?_ | with_reducible refine Mono.bind ?_ ?_ | with_reducible refine Mono.loop ?_ | with_reducible refine Mono.prod ?_ | intro _ | (dsimp only))

theorem memory49.l0.mono : ∀ s, Mono (fun k => memory49.l0 k s) := by
  unfold memory49.l0
  repeat' (first | exact Mono.const _ | with_reducible exact joins93.mono _ _ _ _ _ _ _ | with_reducible refine Mono.cond ?_ ?_ | with_reducible refine Mono.orNil ?_ ?_ | with_reducible refine Mono.agree ?_ ?_ | with_reducible refine Mono.joined ?_ ?_ | with_reducible refine Mono.bind ?_ ?_ | with_reducible refine Mono.loop ?_ | with_reducible refine Mono.prod ?_ | intro _ | (dsimp only))

theorem memory49.mono : ∀ a0_ a1_ a2_, Mono (fun k => memory49 k a0_ a1_ a2_) := by
  intro a0_ a1_ a2_
  unfold memory49
  repeat' (first | exact Mono.const _ | with_reducible exact loads91.mono _ _ _ _ _ _ | with_reducible exact stores92.mono _ _ _ _ _ _ | with_reducible exact joins93.mono _ _ _ _ _ _ _ | with_reducible exact turns94.mono _ _ _ _ _ _ | with_reducible exact memory49.l0.mono | with_reducible refine Mono.cond ?_ ?_ | with_reducible refine Mono.orNil ?_ ?_ | with_reducible refine Mono.agree ?_ ?_ | with_reducible refine Mono.joined ?_ ?_ | with_reducible refine Mono.bind ?_ ?_ | with_reducible refine Mono.loop ?_ | with_reducible refine Mono.prod ?_ | intro _ | (dsimp only))

theorem alone50.l0.mono : ∀ s, Mono (fun k => alone50.l0 k s) := by
  unfold alone50.l0
  repeat' (first | exact Mono.const _ | with_reducible exact two97.mono _ _ _ | with_reducible exact one98.mono _ _ | with_reducible exact no96.mono _ | with_reducible exact add95.mono _ _ _ _ _ _ | with_reducible refine Mono.cond ?_ ?_ | with_reducible refine Mono.orNil ?_ ?_ | with_reducible refine Mono.agree ?_ ?_ | with_reducible refine Mono.joined ?_ ?_ | with_reducible refine Mono.bind ?_ ?_ | with_reducible refine Mono.loop ?_ | with_reducible refine Mono.prod ?_ | intro _ | (dsimp only))

theorem alone50.mono : ∀ a0_ a1_ a2_, Mono (fun k => alone50 k a0_ a1_ a2_) := by
  intro a0_ a1_ a2_
  unfold alone50
  repeat' (first | exact Mono.const _ | with_reducible exact two97.mono _ _ _ | with_reducible exact one98.mono _ _ | with_reducible exact no96.mono _ | with_reducible exact rd52''.mono _ _ _ | with_reducible exact add95.mono _ _ _ _ _ _ | with_reducible exact wr99.mono _ _ _ | with_reducible exact alone50.l0.mono | with_reducible refine Mono.cond ?_ ?_ | with_reducible refine Mono.orNil ?_ ?_ | with_reducible refine Mono.agree ?_ ?_ | with_reducible refine Mono.joined ?_ ?_ | with_reducible refine Mono.bind ?_ ?_ | with_reducible refine Mono.loop ?_ | with_reducible refine Mono.prod ?_ | intro _ | (dsimp only))

theorem jump53'.mono : ∀ a0_, Mono (fun k => jump53' k a0_) := by
  intro a0_
  unfold jump53'
  repeat' (first | exact Mono.const _ | with_reducible exact two97.mono _ _ _ | with_reducible refine Mono.cond ?_ ?_ | with_reducible refine Mono.orNil ?_ ?_ | with_reducible refine Mono.agree ?_ ?_ | with_reducible refine Mono.joined ?_ ?_ | with_reducible refine Mono.bind ?_ ?_ | with_reducible refine Mono.loop ?_ | with_reducible refine Mono.prod ?_ | intro _ | (dsimp only))

theorem ways51.l0.mono : ∀ s, Mono (fun k => ways51.l0 k s) := by
  unfold ways51.l0
  repeat' (first | exact Mono.const _ | with_reducible exact two97.mono _ _ _ | with_reducible exact no96.mono _ | with_reducible exact rd52''.mono _ _ _ | with_reducible exact add95.mono _ _ _ _ _ _ | with_reducible refine Mono.cond ?_ ?_ | with_reducible refine Mono.orNil ?_ ?_ | with_reducible refine Mono.agree ?_ ?_ | with_reducible refine Mono.joined ?_ ?_ | with_reducible refine Mono.bind ?_ ?_ | with_reducible refine Mono.loop ?_ | with_reducible refine Mono.prod ?_ | intro _ | (dsimp only))

theorem ways51.mono : ∀ a0_ a1_ a2_, Mono (fun k => ways51 k a0_ a1_ a2_) := by
  intro a0_ a1_ a2_
  unfold ways51
  repeat' (first | exact Mono.const _ | with_reducible exact two97.mono _ _ _ | with_reducible exact rd52''.mono _ _ _ | with_reducible exact add95.mono _ _ _ _ _ _ | with_reducible exact wr99.mono _ _ _ | with_reducible exact jump53'.mono _ | with_reducible exact ways51.l0.mono | with_reducible refine Mono.cond ?_ ?_ | with_reducible refine Mono.orNil ?_ ?_ | with_reducible refine Mono.agree ?_ ?_ | with_reducible refine Mono.joined ?_ ?_ | with_reducible refine Mono.bind ?_ ?_ | with_reducible refine Mono.loop ?_ | with_reducible refine Mono.prod ?_ | intro _ | (dsimp only))

theorem answers54.mono : ∀ a0_ a1_, Mono (fun k => answers54 k a0_ a1_) := by
  intro a0_ a1_
  unfold answers54
  repeat' (first | exact Mono.const _ | with_reducible exact two97.mono _ _ _ | with_reducible exact no96.mono _ | with_reducible exact rd52''.mono _ _ _ | with_reducible exact wr99.mono _ _ _ | with_reducible exact jump53'.mono _ | with_reducible refine Mono.cond ?_ ?_ | with_reducible refine Mono.orNil ?_ ?_ | with_reducible refine Mono.agree ?_ ?_ | with_reducible refine Mono.joined ?_ ?_ | with_reducible refine Mono.bind ?_ ?_ | with_reducible refine Mono.loop ?_ | with_reducible refine Mono.prod ?_ | intro _ | (dsimp only))

theorem Cpu23.mono : Mono (fun k => Cpu23 k) := by
  unfold Cpu23
  repeat' (first | exact Mono.const _ | with_reducible exact jump53.mono _ | with_reducible exact rd52''.mono _ _ _ | with_reducible exact memory49.mono _ _ _ | with_reducible exact alone50.mono _ _ _ | with_reducible exact ways51.mono _ _ _ | with_reducible exact answers54.mono _ _ | with_reducible refine Mono.cond ?_ ?_ | with_reducible refine Mono.orNil ?_ ?_ | with_reducible refine Mono.agree ?_ ?_ | with_reducible refine Mono.joined ?_ ?_ | with_reducible refine Mono.bind ?_ ?_ | with_reducible refine Mono.loop ?_ | with_reducible refine Mono.prod ?_ | intro _ | (dsimp only))

theorem Named1100.mono : ∀ a0_ a1_ a2_, Mono (fun k => Named1100 k a0_ a1_ a2_) := by
  intro a0_ a1_ a2_
  unfold Named1100
  repeat' (first | exact Mono.const _ | with_reducible refine Mono.cond ?_ ?_ | with_reducible refine Mono.orNil ?_ ?_ | with_reducible refine Mono.agree ?_ ?_ | with_reducible refine Mono.joined ?_ ?_ | with_reducible refine Mono.bind ?_ ?_ | with_reducible refine Mono.loop ?_ | with_reducible refine Mono.prod ?_ | intro _ | (dsimp only))

theorem IndexFunc45''.l0.mono : ∀ a0_, ∀ s, Mono (fun k => IndexFunc45''.l0 k a0_ s) := by
  intro a0_
  unfold IndexFunc45''.l0
  repeat' (first | exact Mono.const _ | with_reducible exact Named1100.mono _ _ _ | with_reducible refine Mono.cond ?_ ?_ | with_reducible refine Mono.orNil ?_ ?_ | with_reducible refine Mono.agree ?_ ?_ | with_reducible refine Mono.joined ?_ ?_ | with_reducible refine Mono.bind ?_ ?_ | with_reducible refine Mono.loop ?_ | with_reducible refine Mono.prod ?_ | intro _ | (dsimp only))

theorem IndexFunc45''.mono : ∀ a0_ a1_, Mono (fun k => IndexFunc45'' k a0_ a1_) := by
  intro a0_ a1_
  unfold IndexFunc45''
  repeat' (first | exact Mono.const _ | with_reducible exact IndexFunc45''.l0.mono _ | with_reducible refine Mono.cond ?_ ?_ | with_reducible refine Mono.orNil ?_ ?_ | with_reducible refine Mono.agree ?_ ?_ | with_reducible refine Mono.joined ?_ ?_ | with_reducible refine Mono.bind ?_ ?_ | with_reducible refine Mono.loop ?_ | with_reducible refine Mono.prod ?_ | intro _ | (dsimp only))

end Go.Proofs.YtofendipdfepoaaGreat.Tr

/- What an argument of a law reads as, kind by kind. -/
set_option linter.unusedVariables false
noncomputable section
namespace Go.Proofs.YtofendipdfepoaaGreat.Gp
open Go Go.ChangeShapes Go.WideShapes Go.RowKit

/-- the input's memory, all of it frozen -/
def memH (W : World) : Hp := fun b => W.heap[b]?

structure Gd (P : Program) (t : TypeId) (k : K) (wf : k.den → Prop) (siz : k.den → Nat) : Prop where
  cells : P.cellsOf t = k.w
  one : k.one = true
  pur : k.pur = true
  val : ∀ {W : World} {r : Reach} {base : Nat} {v : Value}, Value.okWide P W r base t v → v = k.mk v.cells.toList
  read : ∀ {H : Type} {enc : TypeId × Value → H} {W : World} {base : Nat} {spare : Nat → Bool} {held : Bool} {fuel : Nat} {cs : List Value} {x : DataW H × List MemPlace},
    DataW.trod enc P W base spare held fuel t cs = some x → (∀ n ∈ x.1.weights P t, n ≤ reachBytes) → ∃ y, (∀ L, Lv (memH W) L k y cs) ∧ wf y ∧ siz y ≤ Rows.uptoBulk x.1

variable {P : Program}

theorem str_len {s : ByteArray} : s.data.toList.length = s.size := Array.length_toList
theorem gd_int {t : TypeId} {k : IntKind} (hu : P.underlying t = some (.int k)) (hc : P.cellsOf t = 1) : Gd P t (.int k) (fun (y : Int) => (Lit.int k y).wf = true) (fun _ => 1) :=
  ⟨hc, rfl, rfl, fun h => by obtain ⟨n, rfl⟩ := okWide_int hu h; rfl, fun h _ => by
    obtain ⟨n, rfl, rfl, hw⟩ := DataW.trod_int hu h
    exact ⟨n, fun _ => rfl, hw, by simp [Rows.uptoBulk]⟩⟩
theorem gd_str {t : TypeId} (hu : P.underlying t = some .string) (hc : P.cellsOf t = 1) : Gd P t .str (fun (y : ByteArray) => y.size ≤ 140737488351232) (fun (y : ByteArray) => y.size + 1) :=
  ⟨hc, rfl, rfl, fun h => by
    simp only [Value.okWide, hu, Cell.okWide] at h
    rename_i v
    cases v <;> first | rfl | (simp_all [Cell.ok]; done), fun h hw => by
    obtain ⟨s, rfl, rfl, _⟩ := DataW.trod_string hu h
    refine ⟨s, fun _ => rfl, ?_, ?_⟩
    · have := hw s.data.toList.length (by simp [DataW.weights])
      rw [str_len] at this
      exact this
    · simp only [Rows.uptoBulk]
      rw [str_len]
      omega⟩

theorem weights_all {H : Type} {e : TypeId} {n : Nat} : ∀ {l : List (DataW H)} {d : DataW H}, d ∈ l → n ∈ d.weights P e → n ∈ DataW.weightsAll P e l
  | x :: r, d, hd, hn => by
    rw [DataW.weightsAll]
    rcases List.mem_cons.1 hd with rfl | hd
    · exact List.mem_append_left _ hn
    · exact List.mem_append_right _ (weights_all hd hn)
theorem buildL {α : Type} {H : Type} {wf : α → Prop} {siz : α → Nat} : ∀ (es : List (DataW H × List MemPlace)) (p : Nat → α → Prop),
    (∀ i x, es[i]? = some x → ∃ y, p i y ∧ wf y ∧ siz y ≤ Rows.uptoBulk x.1) →
    ∃ ys : List α, ys.length = es.length ∧ (∀ j y, ys[j]? = some y → p j y ∧ wf y) ∧ (ys.map siz).sum ≤ Rows.uptoBulkAll (es.map (·.1))
  | [], _, _ => ⟨[], rfl, fun j y h => by simp at h, by simp⟩
  | x :: r, p, h => by
    obtain ⟨y, hp, hw, hs⟩ := h 0 x rfl
    obtain ⟨ys, hl, hy, hsum⟩ := buildL r (fun i => p (i + 1)) (fun i x hx => h (i + 1) x (by simpa using hx))
    refine ⟨y :: ys, by simp [hl], fun j z hz => ?_, ?_⟩
    · cases j with
      | zero => simp only [List.getElem?_cons_zero, Option.some.injEq] at hz; subst hz; exact ⟨hp, hw⟩
      | succ j => exact hy j z (by simpa using hz)
    · simp only [List.map_cons, List.sum_cons, Rows.uptoBulkAll]
      omega

def sizL {α : Type} (siz : α → Nat) (l : List α) : Nat := (l.map siz).sum + 1
def wfL {α : Type} (B : Nat) (wf : α → Prop) (l : List α) : Prop := l.length * B ≤ 140737488351232 ∧ ∀ y ∈ l, wf y

theorem LvL_mk {α : Type} {R : α → List Value → Prop} {w : Nat} {C : List Value} : ∀ {ys : List α} {o : Nat}, (∀ j y, ys[j]? = some y → ∃ c : List Value, c.length = w ∧ R y c ∧ ∀ i u, c[i]? = some u → C[o + (j * w + i)]? = some u) →
    LvL R ys ((C.drop o).take (ys.length * w))
  | [], o, h => by simp [LvL]
  | y :: ys, o, h => by
    obtain ⟨c, hc, hr, hu⟩ := h 0 y rfl
    have e : (C.drop o).take w = c := by
      apply List.ext_getElem?
      intro i
      rw [cut_get]
      by_cases hi : i < w
      · rw [if_pos hi]
        have hi' : i < c.length := by omega
        have := hu i c[i] (List.getElem?_eq_getElem hi')
        rw [Nat.zero_mul, Nat.zero_add] at this
        rw [this, List.getElem?_eq_getElem hi']
      · rw [if_neg hi, List.getElem?_eq_none (by omega)]
    refine ⟨c, (C.drop (o + w)).take (ys.length * w), ?_, hr, LvL_mk (fun j z hz => ?_)⟩
    · rw [List.length_cons, Nat.add_mul, Nat.one_mul, Nat.add_comm (ys.length * w) w, List.take_add, e, List.drop_drop]
    · obtain ⟨c', h1, h2, h3⟩ := h (j + 1) z hz
      refine ⟨c', h1, h2, fun i u hi => ?_⟩
      have := h3 i u hi
      rw [Nat.add_mul, Nat.one_mul] at this
      rw [show o + w + (j * w + i) = o + (j * w + w + i) by omega]
      exact this

theorem gd_sl {t e : TypeId} {k : K} {wf : k.den → Prop} {siz : k.den → Nat} {B : Nat} (hu : P.underlying t = some (.slice e)) (hc : P.cellsOf t = 1) (hB : P.bytesOf e = B) (hk : 0 < k.w) (r : Gd P e k wf siz) :
    Gd P t (.sl k) (wfL (α := k.den) B wf) (sizL (α := k.den) siz) :=
  ⟨hc, rfl, r.pur, fun h => by obtain ⟨a, len, cap, rfl⟩ := okWide_slice hu h; rfl, fun {H enc W base spare held fuel cs x} h hw => by
    rcases DataW.trod_slice hu h with ⟨rfl, rfl⟩ | ⟨a, len, cap, elems, rest, n, _, rfl, rfl, hb, hl, hm, hlen, hel, _, _⟩
    · exact ⟨([] : List k.den), fun L => ⟨r.pur, none, 0, rfl, Nat.le_refl _, fun hn => absurd rfl hn⟩, ⟨by simp, fun y hy => by simp at hy⟩, by simp [sizL, Rows.uptoBulk]⟩
    · simp only [DataW.weights, hu] at hw
      have hw1 : (elems.length + rest.length) * B ≤ 140737488351232 := by
        have := hw ((elems.length + rest.length) * B) (by simp [hB])
        exact this
      obtain ⟨ys, hyl, hyp, hys⟩ := buildL (wf := wf) (siz := siz) elems (fun i y => ∃ c : List Value, c.length = k.w ∧ (∀ L, Lv (memH W) L k y c) ∧ ∀ j u, c[j]? = some u → W.cell? (a.add (i * k.w + j)) = some u) (fun i z hz => by
        have hi : i < len := by
          have := (List.getElem?_eq_some_iff.1 hz).1
          omega
        have h1 := hel i hi
        rw [hz] at h1
        obtain ⟨c, hc1, hc2⟩ := Option.bind_eq_some_iff.1 h1
        obtain ⟨y, hK, hwf, hsz⟩ := r.read hc2 (fun q hq => hw q (List.mem_cons_of_mem _ (List.mem_append_left _ (weights_all (List.mem_map.2 ⟨z, List.mem_of_getElem? hz, rfl⟩) hq))))
        obtain ⟨_, hcl, hcell⟩ := World.cells?_some hc1
        refine ⟨y, ⟨c, Lv_len (hK default), hK, fun j u hu => ?_⟩, hwf, hsz⟩
        have hj : j < P.cellsOf e := by
          have := (List.getElem?_eq_some_iff.1 hu).1
          omega
        have h3 := hcell j hj
        rw [Go.Deep.add_add, r.cells] at h3
        rw [h3]
        exact hu)
      refine ⟨ys, fun L => ⟨r.pur, some a, cap, by rw [hyl, hlen], by omega, fun hn => ?_⟩, ⟨?_, fun y hy => ?_⟩, ?_⟩
      · have hn : ys.length ≠ 0 := hn
        obtain ⟨y, hy⟩ : ∃ y, ys[0]? = some y := ⟨ys[0]'(by omega), List.getElem?_eq_getElem (by omega)⟩
        obtain ⟨c, c1, c2, c3⟩ := (hyp 0 y hy).1
        obtain ⟨u, hu0⟩ : ∃ u, c[0]? = some u := ⟨c[0]'(by omega), List.getElem?_eq_getElem (by omega)⟩
        have hcell := c3 0 u hu0
        rw [Nat.zero_mul, Nat.zero_add, show a.add 0 = a from rfl] at hcell
        unfold World.cell? at hcell
        split at hcell
        · rename_i C ee zz hblk
          split at hcell
          · cases hcell
          · rename_i hsp
            have hsp : a.spot = none := by cases hs : a.spot with | none => rfl | some q => rw [hs] at hsp; exact absurd rfl hsp
            refine ⟨a.block, a.off, C, ee, zz, by cases a; simp only at hsp; rw [hsp], hblk, LvL_mk (C := C.toList) (fun j y hy => ?_)⟩
            obtain ⟨c, c1, c2, c3⟩ := (hyp j y hy).1
            refine ⟨c, c1, c2 L, fun i u hi => ?_⟩
            have h5 := c3 i u hi
            have hadd : (a.add (j * k.w + i)).block = a.block ∧ (a.add (j * k.w + i)).off = a.off + (j * k.w + i) ∧ (a.add (j * k.w + i)).spot = none := by
              unfold Addr.add
              split
              · rename_i h0; exact ⟨rfl, by omega, hsp⟩
              · exact ⟨rfl, rfl, rfl⟩
            unfold World.cell? at h5
            rw [hadd.1, hblk, hadd.2.1, hadd.2.2] at h5
            rw [Array.getElem?_toList]
            exact h5
        · cases hcell
      · rw [hyl]
        exact Nat.le_trans (Nat.mul_le_mul_right _ (Nat.le_add_right _ _)) hw1
      · obtain ⟨j, hj⟩ := List.mem_iff_getElem?.1 hy
        exact (hyp j y hj).2
      · simp only [sizL, Rows.uptoBulk]
        omega⟩

/-- arrays -/
def sizA {α : Type} (siz : α → Nat) (l : List α) : Nat := (l.map siz).sum
def wfA {α : Type} (n : Nat) (wf : α → Prop) (l : List α) : Prop := l.length = n ∧ ∀ y ∈ l, wf y
theorem gd_arr {t e : TypeId} {n : Nat} {k : K} {wf : k.den → Prop} {siz : k.den → Nat} (hu : P.underlying t = some (.array n e)) (hc : P.cellsOf t = n * k.w) (r : Gd P e k wf siz) :
    Gd P t (.arr n k) (wfA (α := k.den) n wf) (sizA (α := k.den) siz) :=
  ⟨hc, rfl, r.pur, fun h => by
    simp only [Value.okWide, hu] at h
    obtain ⟨cs, rfl, _⟩ := h
    rfl, fun {H enc W base spare held fuel cs x} h hw => by
    obtain ⟨xs, m, _, rfl, hl, hxl, hx⟩ := DataW.trod_array hu h
    simp only [DataW.weights, hu] at hw
    obtain ⟨ys, hyl, hyp, hys⟩ := buildL (wf := wf) (siz := siz) xs (fun i y => ∀ L, Lv (memH W) L k y ((cs.drop (i * k.w)).take k.w)) (fun i z hz => by
      have hi : i < n := by
        have := (List.getElem?_eq_some_iff.1 hz).1
        omega
      have h1 := hx i hi
      rw [hz, r.cells] at h1
      obtain ⟨y, hK, hwf, hsz⟩ := r.read h1 (fun q hq => hw q (weights_all (List.mem_map.2 ⟨z, List.mem_of_getElem? hz, rfl⟩) hq))
      exact ⟨y, hK, hwf, hsz⟩)
    refine ⟨ys, fun L => ⟨r.pur, hyl.trans hxl, ?_⟩, ⟨hyl.trans hxl, fun y hy => ?_⟩, ?_⟩
    · have := LvL_mk (w := k.w) (R := Lv (memH W) L k) (C := cs) (ys := ys) (o := 0) (fun j y hy => ⟨(cs.drop (j * k.w)).take k.w, Lv_len ((hyp j y hy).1 L), (hyp j y hy).1 L, fun i u hi => by
        rw [cut_get] at hi
        split at hi
        · rw [Nat.zero_add]; exact hi
        · cases hi⟩)
      rwa [List.drop_zero, List.take_of_length_le (by rw [hl, hc, hyl, hxl]; exact Nat.le_refl _)] at this
    · obtain ⟨j, hj⟩ := List.mem_iff_getElem?.1 hy
      exact (hyp j y hj).2
    · simp only [sizA, Rows.uptoBulk]
      omega⟩

/-- fields in line, from cell 'off' on -/
structure GdF (P : Program) (off : Nat) (fs : List Field) (k : K) (wf : k.den → Prop) (siz : k.den → Nat) : Prop where
  pur : k.pur = true
  read : ∀ {H : Type} {enc : TypeId × Value → H} {W : World} {base : Nat} {spare : Nat → Bool} {held : Bool} {fuel : Nat} {cs : List Value} {xs : List (DataW H × List MemPlace)},
    cs.length = off + k.w → xs.length = fs.length →
    (∀ (i : Nat) (f : Field), fs[i]? = some f → DataW.trod enc P W base spare held fuel f.type ((cs.drop f.offset).take (P.cellsOf f.type)) = xs[i]?) →
    (∀ n ∈ DataW.weightsEach P (fs.map (·.type)) (xs.map (·.1)), n ≤ reachBytes) →
    ∃ y, (∀ L, Lv (memH W) L k y (cs.drop off)) ∧ wf y ∧ siz y ≤ Rows.uptoBulkAll (xs.map (·.1))

theorem gdf_cons {off : Nat} {f : Field} {fs : List Field} {k k' : K} {wf : k.den → Prop} {wf' : k'.den → Prop} {siz : k.den → Nat} {siz' : k'.den → Nat} (ho : f.offset = off) (r : Gd P f.type k wf siz)
    (rs : GdF P (off + k.w) fs k' wf' siz') : GdF P off (f :: fs) (.pair k k') (fun (y : k.den × k'.den) => wf y.1 ∧ wf' y.2) (fun (y : k.den × k'.den) => siz y.1 + siz' y.2) := by
  refine ⟨by simp only [K.pur, r.pur, rs.pur]; rfl, ?_⟩
  intro H enc W base spare held fuel cs xs hl hxl hx hw
  have hl' : cs.length = off + (k.w + k'.w) := hl
  match xs, hxl with
  | x :: xs, hxl =>
    have h := hx 0 f rfl
    rw [ho, r.cells] at h
    simp only [List.getElem?_cons_zero] at h
    obtain ⟨y, h1, h2, h3⟩ := r.read h (fun n hn => hw n (by simp [DataW.weightsEach, hn]))
    obtain ⟨z, g1, g2, g3⟩ := rs.read (enc := enc) (W := W) (base := base) (spare := spare) (held := held) (fuel := fuel) (cs := cs) (xs := xs) (by omega) (by simpa using hxl)
      (fun i g hg => by simpa using hx (i + 1) g (by simpa using hg)) (fun n hn => hw n (by simp only [List.map_cons, DataW.weightsEach]; exact List.mem_append_right _ hn))
    refine ⟨(y, z), fun L => ⟨(cs.drop off).take k.w, cs.drop (off + k.w), ?_, h1 L, g1 L⟩, ⟨h2, g2⟩, ?_⟩
    · rw [← List.drop_drop]
      exact (List.take_append_drop _ _).symm
    · simp only [List.map_cons, Rows.uptoBulkAll]
      omega
theorem gdf_one {off : Nat} {f : Field} {k : K} {wf : k.den → Prop} {siz : k.den → Nat} (ho : f.offset = off) (r : Gd P f.type k wf siz) : GdF P off [f] k wf siz := by
  refine ⟨r.pur, ?_⟩
  intro H enc W base spare held fuel cs xs hl hxl hx hw
  match xs, hxl with
  | [x], hxl =>
    have h := hx 0 f rfl
    rw [ho, r.cells] at h
    simp only [List.getElem?_cons_zero] at h
    have e : (cs.drop off).take k.w = cs.drop off := List.take_of_length_le (by rw [List.length_drop, hl]; omega)
    rw [e] at h
    obtain ⟨y, h1, h2, h3⟩ := r.read h (fun n hn => hw n (by simp [DataW.weightsEach, hn]))
    refine ⟨y, h1, h2, ?_⟩
    simp only [List.map_cons, List.map_nil, Rows.uptoBulkAll]
    omega
theorem gd_st {t : TypeId} {fs : Array Field} {k : K} {wf : k.den → Prop} {siz : k.den → Nat} (hu : P.underlying t = some (.struct fs)) (hc : P.cellsOf t = k.w) (r : GdF P 0 fs.toList k wf siz) : Gd P t (.st k) wf siz :=
  ⟨hc, rfl, r.pur, fun h => by
    simp only [Value.okWide, hu] at h
    obtain ⟨cs, rfl, _⟩ := h
    rfl, fun h hw => by
    obtain ⟨xs, n, _, rfl, hl, hxl, hx⟩ := DataW.trod_struct hu h
    obtain ⟨y, h1, h2, h3⟩ := r.read (by rw [hl, hc]; omega) (by rw [hxl]; simp) (fun i f hf => hx i f (by simpa using hf)) (fun n hn => hw n (by simp only [DataW.weights, hu]; exact hn))
    refine ⟨y, h1, h2, ?_⟩
    simp only [Rows.uptoBulk]
    omega⟩

/-- an argument -/
theorem Gd.arg {t : TypeId} {k : K} {wf : k.den → Prop} {siz : k.den → Nat} (r : Gd P t k wf siz) {H : Type} {enc : TypeId × Value → H} {W : World} {base : Nat} {spare : Nat → Bool} {held : Bool} {rr : Reach} {b2 : Nat} {v : Value} {x : DataW H} {ps : List MemPlace}
    (hval : Value.okWide P W rr b2 t v) (h : DataW.Trod enc P W base spare held t v x ps) (hw : ∀ n ∈ x.weights P t, n ≤ reachBytes) : ∃ y : k.den, (∀ L, SR (memH W) L ⟨k, y⟩ v) ∧ wf y ∧ siz y ≤ Rows.uptoBulk x := by
  obtain ⟨fuel, hf⟩ := h
  obtain ⟨y, h1, h2, h3⟩ := r.read hf hw
  refine ⟨y, fun L => ?_, h2, h3⟩
  rw [r.val hval]
  exact SR_mk (h1 L)

def noLoc : Ls := fun _ => default
theorem law_calls {fuel : Nat} {f : FuncId} {params : List K} {run : Nat → HL params → HL (List.map (·.toK) ([] : List OK)) → Option (K.bool.den × HL (List.map (·.toK) ([] : List OK)))} (hs : SoundAt P fuel ⟨f, params, [], .bool, [], [], run⟩) {ds : HL params}
    (hr : run fuel ds () = some (true, ())) {args : Array Value} {W : World} (hv : SRs (memH W) noLoc (unpackL params ds) args.toList) (hg : GH (memH W) := by exact GH.none _) : Calls P f args W (fun e W' => e = .returned (.bool true) ∧ Below W.heap.size W W') := by
  have hno : ∀ b, ¬ Own (assoc O.dead (objsFrom 0 ([] : List OK) ())) noLoc b := fun b ⟨i, hi, _⟩ => hi
  refine Calls.mono (hs.2 ds () (true, ()) hr args W (memH W) noLoc hv ⟨fun i => trivial, fun b o h => h, fun i hi => hi.elim, fun i j hi => hi.elim, hg⟩ (fun i hi => by cases hi)) fun e W' hh => ?_
  obtain ⟨v, H', L', rfl, h1, _, _, hp⟩ := hh
  have h1 : SR H' L' ⟨.bool, true⟩ v := h1
  refine ⟨by rw [bool_at h1], hp.fr.os, hp.fr.tape, hp.fr.output, hp.fr.size, fun b hb => hp.fr.same b hb (hno b)⟩
/-- The weights of one argument. -/
theorem weights_at {H : Type} {ts : List TypeId} {ds : List (DataW H)} (hsz : (DataW.weightsEach P ts ds).all (· ≤ reachBytes) = true) (j : Nat) {t : TypeId} {d : DataW H} (ht : ts[j]? = some t) (hd : ds[j]? = some d) :
    ∀ n ∈ d.weights P t, n ≤ reachBytes := fun n hn => by
  have := List.all_eq_true.1 hsz n (DataW.weights_mem_each ht hd n hn)
  simpa using this

end Go.Proofs.YtofendipdfepoaaGreat.Gp

/- What a made block stands on: the pinned processor. No program in sight. -/
set_option linter.unusedVariables false
set_option maxRecDepth 100000
noncomputable section
namespace Go.Proofs.YtofendipdfepoaaGreat.Tr
open Go Go.Proofs.YtofendipdfepoaaGreat.Gp

theorem Ev.one {α : Type} {f : Nat → Option α} {v w : α} (h : Ev f v) (h2 : Ev f w) : v = w := by
  obtain ⟨n, h⟩ := h
  obtain ⟨m, h2⟩ := h2
  have a := h (max n m) (by omega)
  rw [h2 (max n m) (by omega)] at a
  exact (Option.some.inj a).symm
def cpuV : Cpu := match Cpu23 20 with | some v => v.1 | none => (ByteArray.mk #[], [], [], [], [])
def isS {α : Type} (o : Option α) : Bool := match o with | some _ => true | none => false
theorem isS_some {α : Type} {o : Option α} (h : isS o = true) : ∃ v, o = some v := by
  cases o with
  | none => cases h
  | some v => exact ⟨v, rfl⟩
theorem cpu_isS : isS (Cpu23 20) = true := by kernel_rfl
theorem cpu_ev : Ev (fun k => Cpu23 k) (cpuV, ()) := by
  obtain ⟨v, hv⟩ := isS_some cpu_isS
  have e : cpuV = v.1 := by unfold cpuV; rw [hv]
  rw [e]
  exact Mono.ev Cpu23.mono hv
def wcycB (l : List Cyc) : Bool := Nat.ble (l.length * 48) 140737488351232 && l.all (fun y => Nat.ble (y.2.2.2.length * 32) 140737488351232)
def wcB (c : Cpu) : Bool := Nat.ble (c.2.1.length * 56) 140737488351232 && c.2.1.all (fun x => wcycB x.2.2.2) && wcycB c.2.2.1 && wcycB c.2.2.2.1 && wcycB c.2.2.2.2
theorem wcyc_of {l : List Cyc} (h : wcycB l = true) : Wcyc l := by
  unfold wcycB at h
  simp only [Bool.and_eq_true] at h
  exact ⟨Nat.le_of_ble_eq_true h.1, fun y hy => Nat.le_of_ble_eq_true (List.all_eq_true.1 h.2 y hy)⟩
theorem wc_of {c : Cpu} (h : wcB c = true) : Wc c := by
  unfold wcB at h
  simp only [Bool.and_eq_true] at h
  exact ⟨Nat.le_of_ble_eq_true h.1.1.1.1, fun x hx => wcyc_of (List.all_eq_true.1 h.1.1.1.2 x hx), wcyc_of h.1.1.2, wcyc_of h.1.2, wcyc_of h.2⟩
theorem cpu_wcB : wcB cpuV = true := by kernel_rfl
theorem cpu_wc : Wc cpuV := wc_of cpu_wcB
def isN (name : ByteArray) (mode : Int) (x : Ins) : Bool := cond (streq x.2.1 name) (x.2.2.1 == mode) false
theorem nidx_lp {c : Cpu} (hc : Wc c) (name : ByteArray) (mode : Int) : ∀ (suf pre : List Ins), c.2.1 = pre ++ suf → ∃ r, Lp (fun k => IndexFunc45''.l0 k c.2.1) ((name, mode, ()), (pre.length : Int)) r ∧
    (match suf.find? (isN name mode) with | none => r = .inl () | some x => ∃ j : Nat, r = .inr ((j : Int), ()) ∧ c.2.1[j]? = some x) := by
  have hl := hc.len
  intro suf
  induction suf with
  | nil =>
    intro pre h
    rw [List.append_nil] at h
    refine ⟨.inl (), .done ?_, rfl⟩
    simp only [IndexFunc45''.l0]
    exact .no (decide_eq_false (by rw [h]; omega)) (.now _)
  | cons x suf ih =>
    intro pre h
    have hx : c.2.1[pre.length]? = some x := by rw [h]; simp
    have hlt := get_lt hx
    cases hp : isN name mode x with
    | true =>
      refine ⟨.inr ((pre.length : Int), ()), .done ?_, ?_⟩
      · simp only [IndexFunc45''.l0]
        refine .yes (decide_eq_true (by omega)) (.val (rd_some' hx) (.bind (a := (true, ())) (.const ?_) (.yes rfl (.now _))))
        show some (isN name mode x, ()) = _
        rw [hp]
      · rw [List.find?_cons_of_pos (by exact hp)]
        exact ⟨pre.length, rfl, hx⟩
    | false =>
      obtain ⟨r, h1, h2⟩ := ih (pre ++ [x]) (by rw [h]; simp)
      refine ⟨r, .step ?_ h1, ?_⟩
      · simp only [IndexFunc45''.l0]
        refine .yes (decide_eq_true (by omega)) (.val (rd_some' hx) (.bind (a := (false, ())) (.const ?_) (.no rfl (.now' ?_))))
        · show some (isN name mode x, ()) = _
          rw [hp]
        · rw [w64_succ (by omega)]; simp
      · rw [List.find?_cons_of_neg (by rw [hp]; decide)]
        exact h2
def namedR (c : Cpu) (name : ByteArray) (mode : Int) : Ins × Bool × Unit := match c.2.1.find? (isN name mode) with | some x => (x, true, ()) | none => (none4, false, ())
theorem named_ev {c : Cpu} (hc : Wc c) (name : ByteArray) (mode : Int) : Ev (fun k => Named55 k c name mode) (namedR c name mode, ()) := by
  unfold Named55 IndexFunc45''
  obtain ⟨r, h1, h2⟩ := nidx_lp hc name mode c.2.1 [] rfl
  unfold namedR
  cases hf : c.2.1.find? (isN name mode) with
  | none =>
    rw [hf] at h2
    subst h2
    exact .bind (.joinL (S := Unit) h1.ev (.now _)) (.yes rfl (.now _))
  | some x =>
    rw [hf] at h2
    obtain ⟨j, rfl, hj⟩ := h2
    exact .bind (.joinR h1.ev) (.no (decide_eq_false (by show ¬ (j : Int) < 0; omega)) (.val (rd_some' hj) (.bind (copy_ev x (hc.ins x (get_mem hj))) (.now _))))
theorem wrap8 (x : Int) : 0 ≤ IntKind.wrap .u8 x ∧ IntKind.wrap .u8 x < 256 := by
  have e2 : (2 : Int) ^ 8 = 256 := by decide
  simp only [IntKind.wrap, IntKind.signed, IntKind.bits, Bool.false_and, e2]
  constructor
  · simp; omega
  · simp; omega
def nopB : List Int := [IntKind.wrap .u8 (namedR cpuV (ByteArray.mk #[110, 111, 112]) 0).1.1, IntKind.wrap .u8 (namedR cpuV (ByteArray.mk #[106, 109, 112]) 4).1.1, 0, 2]
theorem nop_ev : Ev (fun k => nop24 k) ((512, nopB, []), ()) := by
  unfold nop24
  exact .bind cpu_ev (.bind (named_ev cpu_wc _ _) (.bind cpu_ev (.bind (named_ev cpu_wc _ _) (.now _))))
theorem lit8 {k : Int} (h : (Lit.int .u8 k).wf = true) : 0 ≤ k ∧ k < 256 := by
  simp [Lit.wf, IntKind.min, IntKind.max, IntKind.signed, IntKind.bits] at h
  omega
abbrev WfCpu (c : Cpu) : Prop := (c.1.size ≤ 140737488351232) ∧ wfL (α := Ins) 56 (fun x => (Lit.int .i64 x.1).wf = true ∧ x.2.1.size ≤ 140737488351232 ∧ (Lit.int .i64 x.2.2.1).wf = true ∧ wfL (α := Cyc) 48 (fun y => (Lit.int .i64 y.1).wf = true ∧ (Lit.int .i64 y.2.1).wf = true ∧ (Lit.int .i64 y.2.2.1).wf = true ∧ wfL (α := Stp4) 32 (fun z => (Lit.int .i64 z.1).wf = true ∧ (Lit.int .i64 z.2.1).wf = true ∧ (Lit.int .i64 z.2.2.1).wf = true ∧ (Lit.int .i64 z.2.2.2).wf = true) y.2.2.2) x.2.2.2) c.2.1 ∧
    wfL (α := Cyc) 48 (fun y => (Lit.int .i64 y.1).wf = true ∧ (Lit.int .i64 y.2.1).wf = true ∧ (Lit.int .i64 y.2.2.1).wf = true ∧ wfL (α := Stp4) 32 (fun z => (Lit.int .i64 z.1).wf = true ∧ (Lit.int .i64 z.2.1).wf = true ∧ (Lit.int .i64 z.2.2.1).wf = true ∧ (Lit.int .i64 z.2.2.2).wf = true) y.2.2.2) c.2.2.1 ∧
    wfL (α := Cyc) 48 (fun y => (Lit.int .i64 y.1).wf = true ∧ (Lit.int .i64 y.2.1).wf = true ∧ (Lit.int .i64 y.2.2.1).wf = true ∧ wfL (α := Stp4) 32 (fun z => (Lit.int .i64 z.1).wf = true ∧ (Lit.int .i64 z.2.1).wf = true ∧ (Lit.int .i64 z.2.2.1).wf = true ∧ (Lit.int .i64 z.2.2.2).wf = true) y.2.2.2) c.2.2.2.1 ∧
    wfL (α := Cyc) 48 (fun y => (Lit.int .i64 y.1).wf = true ∧ (Lit.int .i64 y.2.1).wf = true ∧ (Lit.int .i64 y.2.2.1).wf = true ∧ wfL (α := Stp4) 32 (fun z => (Lit.int .i64 z.1).wf = true ∧ (Lit.int .i64 z.2.1).wf = true ∧ (Lit.int .i64 z.2.2.1).wf = true ∧ (Lit.int .i64 z.2.2.2).wf = true) y.2.2.2) c.2.2.2.2
theorem wc_row {c : Cpu} (h : WfCpu c) : Wc c ∧ Wn c := by
  obtain ⟨h1, h2, h3, h4, h5⟩ := h
  exact ⟨⟨h2.1, fun x hx => ⟨(h2.2 x hx).2.2.2.1, fun y hy => ((h2.2 x hx).2.2.2.2 y hy).2.2.2.1⟩, ⟨h3.1, fun y hy => (h3.2 y hy).2.2.2.1⟩, ⟨h4.1, fun y hy => (h4.2 y hy).2.2.2.1⟩, ⟨h5.1, fun y hy => (h5.2 y hy).2.2.2.1⟩⟩, h1, fun x hx => (h2.2 x hx).2.1⟩
def wnB (c : Cpu) : Bool := Nat.ble c.1.size 140737488351232 && c.2.1.all (fun x => Nat.ble x.2.1.size 140737488351232)
theorem wn_of {c : Cpu} (h : wnB c = true) : Wn c := by
  unfold wnB at h
  rw [Bool.and_eq_true, List.all_eq_true] at h
  exact ⟨Nat.le_of_ble_eq_true h.1, fun x hx => Nat.le_of_ble_eq_true (h.2 x hx)⟩
theorem cpu_wn : Wn cpuV := wn_of (by kernel_rfl)
def nopC : Cod := (512, nopB, [])
theorem nop_okd : OkD nopC := by
  refine ⟨by show nopB.length ≤ 65536; decide, ⟨by show (0 : Int) ≤ 512; decide, by show (512 : Int) ≤ 65536 - (nopB.length : Int); have : nopB.length = 4 := rfl; omega⟩, fun x hx => ?_⟩
  have hx : x ∈ nopB := hx
  unfold nopB at hx
  simp only [List.mem_cons, List.not_mem_nil, or_false] at hx
  rcases hx with rfl | rfl | rfl | rfl
  · exact wrap8 _
  · exact wrap8 _
  · decide
  · decide
def isZ (o : Option (Int × Unit)) : Bool := match o with | some v => v.1 == 0 | none => false
theorem wayA_len {code : Cod} {x : Ins} (hx : OkI x) (addr : Int) {A : Rg} (hA : Inv A) : (wayA code x addr A).2.1.length ≤ 100000 := by
  obtain ⟨hlen, _⟩ := ends_ok (code := code) hx.cyc (hA.set 7 (pc1 addr))
  have h1 := toL_len (ends1 code x addr A)
  have h2 : (ends1 code x addr A).length ≤ 60 := hlen
  have h3 := sortI_len (toL (ends1 code x addr A))
  show (compI (sortI (toL (ends1 code x addr A)))).length ≤ 100000
  have : (compI (sortI (toL (ends1 code x addr A)))).length ≤ (sortI (toL (ends1 code x addr A))).length := by
    show (Lib.compactUpTo _ _).length ≤ _
    unfold Lib.compactUpTo
    rw [List.length_map]
    exact Nat.le_trans (List.length_filter_le _ _) (by rw [List.length_range]; exact Nat.le_refl _)
  omega
theorem nextR_len {c : Cpu} {code : Cod} (hp : OkP c code) (hd : OkD code) (addr : Int) : (nextR c code addr).1.2.1.length ≤ 100000 := by
  have hbo := begun_ok hp hd (addr := addr)
  unfold nextR
  by_cases h : (begunR c code addr).2.1 ≠ 0
  · rw [if_pos h]; exact Nat.zero_le _
  · rw [if_neg h]
    exact wayA_len (hbo (by omega)).1 addr inv0
theorem cpu_isZ : isZ (Check43 400 cpuV nopC) = true := by kernel_rfl
theorem cpu_okp : OkP cpuV nopC ∧ Ev (fun k => Check43 k cpuV nopC) (0, ()) := by
  obtain ⟨e, h2, h3⟩ := fault_ok cpu_wc cpu_wn nopC
  have : e = 0 := by
    have hz := cpu_isZ
    cases hv : Check43 400 cpuV nopC with
    | none => rw [hv] at hz; cases hz
    | some v =>
      rw [hv] at hz
      have hz : v.1 = 0 := by simpa [isZ] using hz
      have := Ev.one h2 (Mono.ev (Check43.mono _ _) hv)
      have := congrArg Prod.fst this
      have this : e = v.1 := this
      omega
  subst this
  exact ⟨h3 rfl, h2⟩

end Go.Proofs.YtofendipdfepoaaGreat.Tr

/- Blocks: the moves of an instruction, whether it leads away. No program in sight. -/
set_option linter.unusedVariables false
set_option maxRecDepth 100000
noncomputable section
namespace Go.Proofs.YtofendipdfepoaaGreat.Tr
open Go Go.Proofs.YtofendipdfepoaaGreat.Gp

theorem eq_walk {α : Type} [DecidableEq α] : ∀ (s1 s2 : List α), s1.length = s2.length →
    walk (fun (_ : Unit) (p : α × α) => if p.1 = p.2 then Sum.inl () else Sum.inr (Sum.inr (false, ()))) (fun _ => Sum.inl ()) (s1.zip s2) () = (if s1 = s2 then Sum.inl () else Sum.inr (false, ()) : Unit ⊕ (Bool × Unit))
  | [], [], _ => by simp [walk]
  | x :: s1, y :: s2, h => by
    have ih := eq_walk s1 s2 (by simpa using h)
    rw [List.zip_cons_cons, walk_cons]
    by_cases hxy : x = y
    · subst hxy
      simp only [if_true, List.cons.injEq, true_and]
      exact ih
    · simp [hxy]
theorem zip_get {α : Type} {s1 s2 : List α} {i : Nat} {p : α × α} (h : (s1.zip s2)[i]? = some p) : s1[i]? = some p.1 ∧ s2[i]? = some p.2 := by
  rw [List.getElem?_zip_eq_some] at h
  exact h
theorem eqI_ev (s1 s2 : List Int) (hl : s1.length ≤ 9000000000000000000) : Ev (fun k => Equal17 k s1 s2) (decide (s1 = s2), ()) := by
  unfold Equal17
  by_cases hlen : s1.length = s2.length
  · refine .no (by rw [hlen]; simp) ?_
    have : Gp.Lp (fun k => Equal17.l0 k s1 s2) (0 : Int) (walk (fun (_ : Unit) (p : Int × Int) => if p.1 = p.2 then Sum.inl () else Sum.inr (Sum.inr (false, ()))) (fun _ => Sum.inl ()) (s1.zip s2) ()) := by
      refine Lp.walk (body := fun k => Equal17.l0 k s1 s2) (s1.zip s2) (fun (_ : Unit) i => i) _ _ (fun _ _ => True) (fun i x b hx _ => ⟨?_, fun _ _ => trivial⟩) (fun b _ => ?_) trivial
      · obtain ⟨h1, h2⟩ := zip_get hx
        have hi := get_lt h1
        simp only [Equal17.l0]
        refine .yes (decide_eq_true (by omega)) (.val (rd_some' h1) (.val (rd_some' h2) ?_))
        by_cases h : x.1 = x.2
        · rw [if_pos h]
          refine .no (by rw [h]; simp) (.now' ?_)
          rw [w64_id (by omega) (by omega)]
        · rw [if_neg h]
          exact .yes (bne_iff_ne.2 h) (.now _)
      · simp only [Equal17.l0]
        refine .no (decide_eq_false ?_) (.now _)
        rw [List.length_zip, hlen, Nat.min_self]; omega
    rw [eq_walk s1 s2 hlen] at this
    by_cases h : s1 = s2
    · rw [if_pos h] at this
      exact .joinL (S := Unit) this.ev (.now' (by rw [decide_eq_true h]))
    · rw [if_neg h] at this
      rw [decide_eq_false h]
      exact .joinR this.ev
  · refine .yes (bne_iff_ne.2 (by omega)) (.now' ?_)
    rw [decide_eq_false (fun h => hlen (by rw [h]))]
theorem movesI_len {x : Ins} (hx : OkI x) : (movesI x).length ≤ 9 := by
  have := hx.cyc.len
  show (x.2.2.2.map _).length + 1 ≤ 9
  rw [List.length_map]; omega
theorem clonesM_ev (s : List Stp4) (h : s.length * 32 ≤ 140737488351232) : Ev (fun k => Clone48' k s) (s, ()) := by
  unfold Clone48'
  have e : (if room (0 + List.length s) 32 then some () else none : Option Unit) = some () := if_pos (room_ok (by omega))
  refine Ev.const ?_
  rw [orNil_same (fun h0 => ?_)]
  · show Option.bind _ _ = _
    rw [e]; rfl
  · have := List.length_eq_zero_iff.1 h0
    subst this
    rw [e]; rfl
theorem movesL {body : Nat → Unit × Int × List Mv → Option ((Unit × Int × List Mv) ⊕ (Unit × List Mv))} (l : List Cyc) (hl : l.length ≤ 8) (o : List Mv) (ho : o.length ≤ 1)
    (hs : ∀ (i : Nat) y (o : List Mv), l[i]? = some y → o.length ≤ 9 → Ev (fun k => body k ((), (i : Int), o)) (.inl ((), (i : Int) + 1, o ++ [(false, y.1, y.2.1, y.2.2.1, y.2.2.2)])))
    (hd : ∀ o, Ev (fun k => body k ((), (l.length : Int), o)) (.inr ((), o))) : Gp.Lp body ((), 0, o) ((), o ++ l.map (fun y => (false, y.1, y.2.1, y.2.2.1, y.2.2.2))) := by
  have := Lp.fold (body := body) l (fun (b : List Mv) i => ((), i, b)) (fun b y => b ++ [(false, y.1, y.2.1, y.2.2.1, y.2.2.2)]) (fun b => ((), b)) (fun i b => b.length ≤ 1 + i)
    (fun i x b hx hb => by
      have hi := get_lt hx
      exact ⟨hs i x b hx (by omega), by simp; omega⟩) (fun b hb => hd b) (b := o) (by omega)
  rw [foldl_snoc (fun (y : Cyc) => ((false, y.1, y.2.1, y.2.2.1, y.2.2.2) : Mv))] at this
  exact this
theorem moves_p {x : Ins} (hx : OkI x) : Ev (fun k => moves21 k x) (movesI x, ()) := by
  have hl := hx.cyc.len
  unfold moves21
  refine .bind (Lp.ev (movesL x.2.2.2 hl [(true, 1, 0, 0, [])] (Nat.le_refl _) (fun i y o hy ho => ?_) (fun o => ?_))) (.now _)
  · have hi := get_lt hy
    have hst := (hx.cyc.ok y (get_mem hy)).len
    simp only [moves21.l0]
    refine .yes (decide_eq_true (by omega)) (.val (rd_some' hy) (.bind (clonesM_ev _ (by omega)) (.val (if_pos (room_ok (by simp; omega))) (.now' ?_))))
    rw [w64_id (by omega) (by omega)]
  · simp only [moves21.l0]
    exact .no (decide_eq_false (by omega)) (.now _)
def lenI (x : Ins) : Nat := 1 + sizeV x.2.2.1
theorem lenI_le (x : Ins) : 1 ≤ lenI x ∧ lenI x ≤ 3 := by
  have := sizeV_le x.2.2.1
  unfold lenI; omega
def awayA (c : Cpu) (at_ : Int) (b : List Int) : Bool := (nextR c (at_, b, []) at_).1.2.2.1 || !decide ((nextR c (at_, b, []) at_).1.2.1 = [(at_ + (nextR c (at_, b, []) at_).1.1) % 65536])
theorem nextR_size {c : Cpu} {code : Cod} (addr : Int) : 0 ≤ (nextR c code addr).1.1 ∧ (nextR c code addr).1.1 ≤ 3 := by
  unfold nextR
  split
  · show (0 : Int) ≤ 0 ∧ (0 : Int) ≤ 3
    decide
  · have := sizeV_le (begunR c code addr).1.2.2.1
    show 0 ≤ 1 + (sizeV _ : Int) ∧ 1 + (sizeV _ : Int) ≤ 3
    omega
structure Piece (c : Cpu) (at_ : Int) (b : List Int) : Prop where
  p : OkP c (at_, b, [])
  d : OkD (at_, b, [])
  small : b.length ≤ 3
theorem check0 {c : Cpu} (hc : Wc c) (hn : Wn c) (h8 : Ev (fun k => Check30 k c) (0, ())) {at_ : Int} {b : List Int} (h : Piece c at_ b) : Ev (fun k => Check43 k c (at_, b, [])) (0, ()) := by
  have hb := h.p.base
  have hs := h.small
  have hb : 0 ≤ at_ ∧ at_ ≤ 65536 - (b.length : Int) := hb
  unfold Check43
  refine .bind h8 (.no rfl (.no (decide_eq_false ?_) (.no ?_ (.now _))))
  · show ¬ ((b.length : Int) > 4096)
    omega
  · show cond (decide (at_ < 0)) true (decide (at_ > w64 (65536 - (b.length : Int)))) = false
    rw [w64_id (by omega) (by omega), decide_eq_false (by omega)]
    exact decide_eq_false (by omega)
theorem away_p {c : Cpu} (hc : Wc c) (hn : Wn c) (h8 : Ev (fun k => Check30 k c) (0, ())) {at_ : Int} {b : List Int} (h : Piece c at_ b) : Ev (fun k => away22 k c at_ b) (awayA c at_ b, ()) := by
  have hb : 0 ≤ at_ ∧ at_ ≤ 65536 - (b.length : Int) := h.p.base
  have hN := next_p hc h.p h.d (addr := at_) ⟨by omega, by omega⟩ (check0 hc hn h8 h)
  have hsz := nextR_size (c := c) (code := (at_, b, [])) at_
  have hlen := nextR_len h.p h.d at_
  unfold awayA
  generalize nextR c (at_, b, []) at_ = z at hN hsz hlen
  have hw : w64 (at_ + z.1.1) = at_ + z.1.1 := w64_id (by omega) (by omega)
  have hL : Ev (fun k => Low25 k (w64 (at_ + z.1.1)) 16) ((at_ + z.1.1) % 65536, ()) := by rw [hw]; exact low16_ev _
  unfold away22
  refine .bind hN ?_
  cases ho : z.1.2.2.1 with
  | true => exact .bind (a := true) (.yes rfl (.now _)) (.now' (by simp))
  | false =>
    refine .bind (a := !decide (z.1.2.1 = [(at_ + z.1.1) % 65536])) (.no rfl (.bind hL (.bind (eqI_ev _ _ (by show z.1.2.1.length ≤ _; omega)) (.now _)))) (.now' (by simp))
end Go.Proofs.YtofendipdfepoaaGreat.Tr

/- Blocks: a row of bytes as instructions. No program in sight. -/
set_option linter.unusedVariables false
set_option maxRecDepth 100000
noncomputable section
namespace Go.Proofs.YtofendipdfepoaaGreat.Tr
open Go Go.Proofs.YtofendipdfepoaaGreat.Gp

def tot (xs : List Ins) : Nat := (xs.map lenI).sum
theorem tot_snoc (xs : List Ins) (x : Ins) : tot (xs ++ [x]) = tot xs + lenI x := by simp [tot]
theorem tot_take {xs : List Ins} {i : Nat} {x : Ins} (h : xs[i]? = some x) : tot (xs.take (i + 1)) = tot (xs.take i) + lenI x := by
  rw [List.take_add_one, h]
  exact tot_snoc _ _
theorem tot_mono (xs : List Ins) (i : Nat) : tot (xs.take i) ≤ tot xs := by
  have e : tot (xs.take i ++ xs.drop i) = tot (xs.take i) + tot (xs.drop i) := by unfold tot; rw [List.map_append, List.sum_append]
  rw [List.take_append_drop] at e
  omega
theorem tot_le {xs : List Ins} : tot xs ≤ 3 * xs.length := by
  induction xs with
  | nil => exact Nat.le_refl _
  | cons x xs ih =>
    have := (lenI_le x).2
    have e : tot (x :: xs) = lenI x + tot xs := by simp [tot]
    rw [e, List.length_cons]; omega
def step1 (c : Cpu) (left : List Int) : Ins ⊕ Int := match left with
  | [] => .inr 13
  | op :: l => match findI c op with
    | none => .inr 4
    | some x => if lenI x > l.length + 1 then .inr 13 else .inl x
theorem step1_inl {c : Cpu} {left : List Int} {x : Ins} (h : step1 c left = .inl x) : ∃ op l, left = op :: l ∧ findI c op = some x ∧ lenI x ≤ left.length := by
  cases left with
  | nil => cases h
  | cons op l =>
    refine ⟨op, l, rfl, ?_⟩
    unfold step1 at h
    cases hf : findI c op with
    | none => simp only [hf] at h; cases h
    | some y =>
      simp only [hf] at h
      split at h
      · cases h
      · cases h
        exact ⟨rfl, by rw [List.length_cons]; omega⟩
theorem step1_mk {c : Cpu} {op : Int} {l : List Int} {x : Ins} (h : findI c op = some x) (hl : lenI x ≤ l.length + 1) : step1 c (op :: l) = .inl x := by
  unfold step1
  simp only [h]
  exact if_neg (by omega)
theorem step1_app {c : Cpu} {l m : List Int} {x : Ins} (h : step1 c l = .inl x) : step1 c (l ++ m) = .inl x := by
  obtain ⟨op, l, rfl, h1, h2⟩ := step1_inl h
  rw [List.cons_append]
  refine step1_mk h1 ?_
  rw [List.length_append]
  rw [List.length_cons] at h2
  omega
structure Parsed (c : Cpu) (bytes : List Int) (xs : List Ins) : Prop where
  len : tot xs ≤ bytes.length
  at' : ∀ i x, xs[i]? = some x → step1 c (bytes.drop (tot (xs.take i))) = .inl x
theorem parsed_nil {c : Cpu} {bytes : List Int} : Parsed c bytes [] := ⟨Nat.zero_le _, fun i x h => by simp at h⟩
theorem parsed_snoc {c : Cpu} {bytes : List Int} {xs : List Ins} {x : Ins} (h : Parsed c bytes xs) (hx : step1 c (bytes.drop (tot xs)) = .inl x) : Parsed c bytes (xs ++ [x]) := by
  refine ⟨?_, fun i y hy => ?_⟩
  · obtain ⟨op, l, _, _, h3⟩ := step1_inl hx
    have := h.len
    rw [List.length_drop] at h3
    rw [tot_snoc]; omega
  · by_cases hi : i < xs.length
    · rw [List.getElem?_append_left hi] at hy
      rw [List.take_append_of_le_length (by omega)]
      exact h.at' i y hy
    · have hlt := get_lt hy
      simp at hlt
      have : i = xs.length := by omega
      subst this
      simp at hy
      subst hy
      rw [List.take_left]
      exact hx
theorem parsed_ok {c : Cpu} (hi : ∀ x ∈ c.2.1, OkI x) {bytes : List Int} {xs : List Ins} (h : Parsed c bytes xs) : ∀ x ∈ xs, OkI x := by
  intro x hx
  obtain ⟨i, hxi⟩ := List.mem_iff_getElem?.1 hx
  obtain ⟨op, l, _, h2, _⟩ := step1_inl (h.at' i x hxi)
  exact hi x (findI_mem h2)
def movs (xs : List Ins) : List Mv := xs.flatMap movesI
theorem movs_snoc (xs : List Ins) (x : Ins) : movs (xs ++ [x]) = movs xs ++ movesI x := by simp [movs]
theorem movs_len {xs : List Ins} (h : ∀ x ∈ xs, OkI x) : (movs xs).length ≤ 9 * xs.length := by
  induction xs with
  | nil => exact Nat.le_refl _
  | cons x xs ih =>
    have h1 := movesI_len (h x (List.mem_cons_self ..))
    have h2 := ih fun y hy => h y (List.mem_cons_of_mem _ hy)
    have e : movs (x :: xs) = movesI x ++ movs xs := rfl
    rw [e, List.length_append, List.length_cons]; omega
def awf (c : Cpu) (base : Int) (bytes : List Int) (xs : List Ins) (i : Nat) : Bool :=
  awayA c (base + (tot (xs.take i) : Int)) ((bytes.drop (tot (xs.take i))).take (match xs[i]? with | some x => lenI x | none => 0))
theorem awf_at {c : Cpu} {base : Int} {bytes : List Int} {xs : List Ins} {i : Nat} {x : Ins} (h : xs[i]? = some x) : awf c base bytes xs i = awayA c (base + (tot (xs.take i) : Int)) ((bytes.drop (tot (xs.take i))).take (lenI x)) := by
  unfold awf
  rw [h]
structure Base (c : Cpu) (b : Blk) : Prop where
  ins : ∀ x ∈ c.2.1, OkI x
  at' : 0 ≤ b.1 ∧ b.1 ≤ 65536 - (b.2.1.length : Int)
  byte : ∀ x ∈ b.2.1, 0 ≤ x ∧ x < 256
theorem piece_of {c : Cpu} {b : Blk} (h : Base c b) {t n : Nat} (hn : n ≤ 3) (ht : t + n ≤ b.2.1.length) : Piece c (b.1 + (t : Int)) ((b.2.1.drop t).take n) := by
  have ha := h.at'
  have hl : ((b.2.1.drop t).take n).length = n := by rw [List.length_take, List.length_drop]; omega
  have hb : 0 ≤ b.1 + (t : Int) ∧ b.1 + (t : Int) ≤ 65536 - (((b.2.1.drop t).take n).length : Int) := by rw [hl]; omega
  refine ⟨⟨h.ins, ?_, hb⟩, ⟨?_, hb, fun x hx => h.byte x (List.mem_of_mem_drop (List.mem_of_mem_take hx))⟩, by omega⟩
  · show ((b.2.1.drop t).take n).length ≤ 65536; omega
  · show ((b.2.1.drop t).take n).length ≤ 65536; omega
theorem parsed_next {c : Cpu} {bytes : List Int} {xs : List Ins} (h : Parsed c bytes xs) {i : Nat} {x : Ins} (hx : xs[i]? = some x) : tot (xs.take i) + lenI x ≤ bytes.length := by
  have h1 := tot_take hx
  have h2 := tot_mono xs (i + 1)
  have := h.len
  omega
theorem find_b {c : Cpu} (hc : Wc c) {b : Blk} (h : Base c b) {t : Nat} {op : Int} {l : List Int} (e : b.2.1.drop t = op :: l) : w64 op = op := by
  have := h.byte op (List.mem_of_mem_drop (by rw [e]; exact List.mem_cons_self ..))
  exact w64_id (by omega) (by omega)
theorem step1_ne {c : Cpu} {left : List Int} {e : Int} (h : step1 c left = .inr e) : e ≠ 0 := by
  unfold step1 at h
  cases left with
  | nil => cases h; decide
  | cons op l =>
    simp only at h
    cases hf : findI c op with
    | none => rw [hf] at h; cases h; decide
    | some x =>
      rw [hf] at h
      simp only at h
      split at h
      · cases h; decide
      · cases h
abbrev codB (b : Blk) : Cod := (b.1, b.2.1, [])
theorem at_t {b : Blk} (h0 : 0 ≤ b.1) {t : Nat} (ht : t < b.2.1.length) : atI (codB b) (b.1 + (t : Int)) = some (b.2.1.getD t 0).toNat := by
  unfold atI
  rw [if_pos ⟨by omega, by show b.1 ≤ _; omega, by show b.1 + (t : Int) < b.1 + (b.2.1.length : Int); omega⟩]
  congr 2
  show b.2.1.getD (b.1 + (t : Int) - b.1).toNat 0 = _
  congr 1
  omega
theorem at_o {b : Blk} {t : Nat} (ht : b.2.1.length ≤ t) : atI (codB b) (b.1 + (t : Int)) = none := by
  unfold atI
  exact if_neg (fun h => by have : b.1 + (t : Int) < b.1 + (b.2.1.length : Int) := h.2.2; omega)
theorem drop_get {l m : List Int} {t : Nat} {op : Int} (h : l.drop t = op :: m) : t < l.length ∧ l.getD t 0 = op := by
  have h1 : t < l.length := by
    rcases Nat.lt_or_ge t l.length with h2 | h2
    · exact h2
    · rw [List.drop_eq_nil_of_le h2] at h; cases h
  refine ⟨h1, ?_⟩
  rw [List.drop_eq_getElem_cons h1] at h
  cases h
  rw [List.getD_eq_getElem?_getD, List.getElem?_eq_getElem h1]; rfl
theorem begun_inl {c : Cpu} {b : Blk} (h : Base c b) {t : Nat} {x : Ins} (hs : step1 c (b.2.1.drop t) = .inl x) : begunR c (codB b) (b.1 + (t : Int)) = (x, 0, ()) := by
  obtain ⟨op, l, e1, e2, e3⟩ := step1_inl hs
  obtain ⟨g1, g2⟩ := drop_get e1
  have ho := h.byte op (List.mem_of_mem_drop (by rw [e1]; exact List.mem_cons_self ..))
  have h0 := h.at'.1
  unfold begunR
  rw [at_t h0 g1, g2]
  have : ((op.toNat : Nat) : Int) = op := Int.toNat_of_nonneg ho.1
  simp only [this, e2]
  rw [List.length_drop] at e3
  unfold lenI at e3
  rw [show b.1 + (t : Int) + (sizeV x.2.2.1 : Int) = b.1 + ((t + sizeV x.2.2.1 : Nat) : Int) by omega, at_t h0 (by omega)]
theorem begun_inr {c : Cpu} {b : Blk} (h : Base c b) {t : Nat} {e : Int} (hs : step1 c (b.2.1.drop t) = .inr e) : ∃ e', begunR c (codB b) (b.1 + (t : Int)) = (none4, e', ()) ∧ (if e' = 19 then 13 else e') = e := by
  have h0 := h.at'.1
  unfold begunR
  cases hd : b.2.1.drop t with
  | nil =>
    rw [hd] at hs
    cases hs
    have : b.2.1.length ≤ t := List.drop_eq_nil_iff.1 hd
    rw [at_o this]
    exact ⟨19, rfl, rfl⟩
  | cons op l =>
    obtain ⟨g1, g2⟩ := drop_get hd
    have ho := h.byte op (List.mem_of_mem_drop (by rw [hd]; exact List.mem_cons_self ..))
    have hop : ((op.toNat : Nat) : Int) = op := Int.toNat_of_nonneg ho.1
    rw [at_t h0 g1, g2]
    simp only [hop]
    rw [hd] at hs
    unfold step1 at hs
    cases hf : findI c op with
    | none =>
      simp only [hf] at hs
      cases hs
      exact ⟨4, rfl, rfl⟩
    | some x =>
      simp only [hf] at hs
      split at hs
      · cases hs
        rename_i hl
        have hdl := congrArg List.length hd
        rw [List.length_drop, List.length_cons] at hdl
        unfold lenI at hl
        simp only
        rw [show b.1 + (t : Int) + (sizeV x.2.2.1 : Int) = b.1 + ((t + sizeV x.2.2.1 : Nat) : Int) by omega, at_o (by omega)]
        exact ⟨13, rfl, rfl⟩
      · cases hs
end Go.Proofs.YtofendipdfepoaaGreat.Tr

/- Blocks: how they are made. No program in sight. -/
set_option linter.unusedVariables false
set_option maxRecDepth 100000
noncomputable section
namespace Go.Proofs.YtofendipdfepoaaGreat.Tr
open Go Go.Proofs.YtofendipdfepoaaGreat.Gp

abbrev MkS := List Ins × List Int × Bool
def makeB (c : Cpu) (bytes : List Int) (t0 : Nat) (addr : Int) : Nat → List Ins → List Int → Bool → MkS
  | 0, xs, bs, last => (xs, bs, last)
  | n + 1, xs, bs, last => if last then (xs, bs, last) else match step1 c (bytes.drop (t0 + bs.length)) with
    | .inr _ => (xs, bs, last)
    | .inl x => makeB c bytes t0 addr n (xs ++ [x]) (bs ++ (bytes.drop (t0 + bs.length)).take (lenI x)) (awayA c (addr + (bs.length : Int)) ((bytes.drop (t0 + bs.length)).take (lenI x)))
structure Made (c : Cpu) (code : Cod) (t0 : Nat) (addr : Int) (xs : List Ins) (bs : List Int) (last : Bool) : Prop where
  tot : tot xs = bs.length
  pars : Parsed c bs xs
  len : xs.length ≤ 64
  mem : ∀ y ∈ bs, y ∈ code.2.1
  fits : t0 + bs.length ≤ code.2.1.length
  aw : ∀ i, i < xs.length → awf c addr bs xs i = (last && decide (i + 1 = xs.length))
theorem made_nil {c : Cpu} {code : Cod} {t0 : Nat} {addr : Int} (h : t0 ≤ code.2.1.length) : Made c code t0 addr [] [] false :=
  ⟨rfl, parsed_nil, Nat.zero_le _, (fun y hy => by cases hy), h, fun i hi => absurd hi (Nat.not_lt_zero _)⟩
theorem parsed_app {c : Cpu} {bs m : List Int} {xs : List Ins} (h : Parsed c bs xs) : Parsed c (bs ++ m) xs := by
  refine ⟨by rw [List.length_append]; have := h.len; omega, fun i x hx => ?_⟩
  have := parsed_next h hx
  rw [List.drop_append_of_le_length (by omega)]
  exact step1_app (h.at' i x hx)
theorem awf_app {c : Cpu} {base : Int} {bs m : List Int} {xs : List Ins} (h : Parsed c bs xs) {i : Nat} {x : Ins} (hx : xs[i]? = some x) : awf c base (bs ++ m) xs i = awf c base bs xs i := by
  have := parsed_next h hx
  rw [awf_at hx, awf_at hx, List.drop_append_of_le_length (by omega), List.take_append_of_le_length (by rw [List.length_drop]; omega)]
theorem awf_snoc {c : Cpu} {base : Int} {bs : List Int} {xs : List Ins} {x : Ins} {i : Nat} (h : i < xs.length) : awf c base bs (xs ++ [x]) i = awf c base bs xs i := by
  have hx : xs[i]? = some xs[i] := List.getElem?_eq_getElem h
  have hx2 : (xs ++ [x])[i]? = some xs[i] := by rw [List.getElem?_append_left h]; exact hx
  rw [awf_at hx, awf_at hx2, List.take_append_of_le_length (by omega)]
theorem made_snoc {c : Cpu} {code : Cod} {t0 : Nat} {addr : Int} {xs : List Ins} {bs : List Int} (h : Made c code t0 addr xs bs false) (hl : xs.length < 64) {x : Ins} (hs : step1 c (code.2.1.drop (t0 + bs.length)) = .inl x) :
    Made c code t0 addr (xs ++ [x]) (bs ++ (code.2.1.drop (t0 + bs.length)).take (lenI x)) (awayA c (addr + (bs.length : Int)) ((code.2.1.drop (t0 + bs.length)).take (lenI x))) := by
  obtain ⟨op, l, e1, e2, e3⟩ := step1_inl hs
  have hl3 := lenI_le x
  have hsl : ((code.2.1.drop (t0 + bs.length)).take (lenI x)).length = lenI x := by rw [List.length_take]; omega
  have hs2 : step1 c ((code.2.1.drop (t0 + bs.length)).take (lenI x)) = .inl x := by
    rw [e1] at hsl ⊢
    obtain ⟨n, hn⟩ : ∃ n, lenI x = n + 1 := ⟨lenI x - 1, by omega⟩
    rw [hn, List.take_succ_cons] at hsl ⊢
    rw [List.length_cons] at hsl
    exact step1_mk e2 (by omega)
  have hd : (bs ++ (code.2.1.drop (t0 + bs.length)).take (lenI x)).drop (Tr.tot xs) = (code.2.1.drop (t0 + bs.length)).take (lenI x) := by rw [h.tot, List.drop_left]
  rw [List.length_drop] at e3
  have hpx : Parsed c (bs ++ (code.2.1.drop (t0 + bs.length)).take (lenI x)) (xs ++ [x]) := parsed_snoc (parsed_app h.pars) (by rw [hd]; exact hs2)
  refine ⟨?_, hpx, by simp; omega, fun y hy => ?_, ?_, fun i hi => ?_⟩
  · rw [tot_snoc, List.length_append, hsl, h.tot]
  · rcases List.mem_append.1 hy with hy | hy
    · exact h.mem y hy
    · exact List.mem_of_mem_drop (List.mem_of_mem_take hy)
  · rw [List.length_append, hsl]; omega
  · by_cases hix : i < xs.length
    · have hx : xs[i]? = some xs[i] := List.getElem?_eq_getElem hix
      rw [awf_snoc hix, awf_app h.pars hx, h.aw i hix]
      rw [decide_eq_false (p := i + 1 = (xs ++ [x]).length) (by simp; omega), Bool.and_false]; rfl
    · have hi2 : i = xs.length := by simp at hi; omega
      subst hi2
      rw [awf_at (x := x) (by simp), List.take_left, h.tot, List.drop_left]
      rw [decide_eq_true (p := xs.length + 1 = (xs ++ [x]).length) (by simp), Bool.and_true, List.take_of_length_le (by omega)]
theorem makeB_made {c : Cpu} {code : Cod} {t0 : Nat} {addr : Int} : ∀ n xs bs last, xs.length + n = 64 → Made c code t0 addr xs bs last →
    Made c code t0 addr (makeB c code.2.1 t0 addr n xs bs last).1 (makeB c code.2.1 t0 addr n xs bs last).2.1 (makeB c code.2.1 t0 addr n xs bs last).2.2 ∧ xs.length ≤ (makeB c code.2.1 t0 addr n xs bs last).1.length
  | 0, xs, bs, last, e, h => ⟨h, Nat.le_refl _⟩
  | n + 1, xs, bs, last, e, h => by
    unfold makeB
    cases last with
    | true => exact ⟨h, Nat.le_refl _⟩
    | false =>
      rw [if_neg (by decide)]
      cases hs : step1 c (code.2.1.drop (t0 + bs.length)) with
      | inr e => exact ⟨h, Nat.le_refl _⟩
      | inl x =>
        obtain ⟨h1, h2⟩ := makeB_made n _ _ _ (by simp; omega) (made_snoc h (by omega) hs)
        refine ⟨h1, Nat.le_trans ?_ h2⟩
        simp
abbrev codK (code : Cod) : Blk := (code.1, code.2.1, 0, false, [])
theorem base_c {c : Cpu} {code : Cod} (hp : OkP c code) (hd : OkD code) : Base c (codK code) := ⟨hp.ins, hp.base, hd.byte⟩
theorem begun_c {c : Cpu} {code : Cod} (a : Int) : begunR c code a = begunR c (codB (codK code)) a := rfl
abbrev ZS := Int × Unit × Int × Bool × Unit
theorem make_lp {c : Cpu} (hc : Wc c) (hn : Wn c) (h8 : Ev (fun k => Check30 k c) (0, ())) {code : Cod} (hp : OkP c code) (hd : OkD code) (h0 : Ev (fun k => Check43 k c code) (0, ())) {t0 : Nat} {addr : Int} (ha : addr = code.1 + (t0 : Int)) (o0 : ZS) :
    ∀ n xs bs last, xs.length + n = 64 → Made c code t0 addr xs bs last →
      Gp.Lp (fun k => Make5.l0 k addr) (c, code, (), (), o0, (addr, (), (xs.length : Int), last, ()), bs, movs xs)
        ((), (), o0, (addr, (), ((makeB c code.2.1 t0 addr n xs bs last).1.length : Int), (makeB c code.2.1 t0 addr n xs bs last).2.2, ()), (makeB c code.2.1 t0 addr n xs bs last).2.1, movs (makeB c code.2.1 t0 addr n xs bs last).1) := by
  have hb := hd.base
  have hcl := hd.len
  have hB := base_c hp hd
  intro n
  induction n with
  | zero =>
    intro xs bs last hx hm
    refine .done ?_
    simp only [Make5.l0]
    exact .no (by rw [decide_eq_false (by omega)]; rfl) (.now _)
  | succ n ih =>
    intro xs bs last hx hm
    have hlt : decide ((xs.length : Int) < 64) = true := decide_eq_true (by omega)
    unfold makeB
    cases last with
    | true =>
      refine .done ?_
      simp only [Make5.l0]
      exact .no (by rw [hlt]; rfl) (.now _)
    | false =>
      rw [if_neg (by decide)]
      have hcnd : cond (decide ((xs.length : Int) < 64)) (!false) false = true := by rw [hlt]; rfl
      have hfit := hm.fits
      have hxl := hm.len
      have htot := hm.tot
      have ht := @tot_le xs
      have hat : addr + (bs.length : Int) = code.1 + ((t0 + bs.length : Nat) : Int) := by rw [ha]; omega
      have hwa : w64 (addr + (bs.length : Int)) = addr + (bs.length : Int) := w64_id (by omega) (by omega)
      have hN := next_p hc hp hd (addr := addr + (bs.length : Int)) ⟨by omega, by omega⟩ h0
      have hok := parsed_ok hp.ins hm.pars
      have hml := movs_len hok
      cases hs : step1 c (code.2.1.drop (t0 + bs.length)) with
      | inr e =>
        obtain ⟨e', he', hee⟩ := begun_inr hB (t := t0 + bs.length) hs
        have hbg : begunR c code (addr + (bs.length : Int)) = (none4, e', ()) := by rw [begun_c, hat]; exact he'
        have hne : e' ≠ 0 := fun h => step1_ne hs (by rw [← hee, h]; rfl)
        have hnx : nextR c code (addr + (bs.length : Int)) = (zeroW, e', ()) := by unfold nextR; rw [hbg]; exact if_pos hne
        rw [hnx] at hN
        refine .done ?_
        simp only [Make5.l0]
        refine .yes hcnd ?_
        rw [hwa]
        exact .bind hN (.yes (bne_iff_ne.2 hne) (.now _))
      | inl x =>
        obtain ⟨op, l, e1, e2, e3⟩ := step1_inl hs
        have hl3 := lenI_le x
        have hox := hp.ins x (findI_mem e2)
        have hmi := movesI_len hox
        have hbg : begunR c code (addr + (bs.length : Int)) = (x, 0, ()) := by rw [begun_c, hat]; exact begun_inl hB (t := t0 + bs.length) hs
        have hnx : nextR c code (addr + (bs.length : Int)) = (wayA code x (addr + (bs.length : Int)) A0, 0, ()) := by unfold nextR; rw [hbg]; exact if_neg (by simp)
        rw [hnx] at hN
        have hwsz : (wayA code x (addr + (bs.length : Int)) A0).1 = (lenI x : Int) := by show 1 + (sizeV x.2.2.1 : Int) = _; unfold lenI; omega
        rw [List.length_drop] at e3
        have hk : addr + (bs.length : Int) - code.1 = ((t0 + bs.length : Nat) : Int) := by omega
        have hwk : w64 (addr + (bs.length : Int) - code.1) = ((t0 + bs.length : Nat) : Int) := by rw [hk]; exact w64_id (by omega) (by omega)
        have hwe : w64 (((t0 + bs.length : Nat) : Int) + (lenI x : Int)) = ((t0 + bs.length + lenI x : Nat) : Int) := by rw [w64_id (by omega) (by omega)]; omega
        have hsl : slc code.2.1 ((t0 + bs.length : Nat) : Int) ((t0 + bs.length + lenI x : Nat) : Int) = some ((code.2.1.drop (t0 + bs.length)).take (lenI x)) := by
          rw [slc_ok (by omega) (by omega), List.drop_take]
          congr 2
          omega
        have hpc := piece_of hB (t := t0 + bs.length) (n := lenI x) hl3.2 (by show t0 + bs.length + lenI x ≤ code.2.1.length; omega)
        have hpc : Piece c (addr + (bs.length : Int)) ((code.2.1.drop (t0 + bs.length)).take (lenI x)) := by rw [hat]; exact hpc
        have hA := away_p hc hn h8 hpc
        have hgl : ((code.2.1.drop (t0 + bs.length)).take (lenI x)).length = lenI x := by rw [List.length_take, List.length_drop]; omega
        have hop := drop_get e1
        have hrd : rd code.2.1 ((t0 + bs.length : Nat) : Int) = some op := by
          rw [rd_nat, List.getElem?_eq_getElem hop.1]
          have := hop.2
          rw [List.getD_eq_getElem?_getD, List.getElem?_eq_getElem hop.1] at this
          exact congrArg some this
        have hf := find_ev hc op
        rw [show findR c op = (x, true, ()) from by unfold findR; rw [e2]] at hf
        have hw : w64 op = op := find_b hc hB e1
        have i1 := ih (xs ++ [x]) (bs ++ (code.2.1.drop (t0 + bs.length)).take (lenI x)) _ (by simp; omega) (made_snoc hm (by omega) hs)
        have hsz1 : w64 ((xs.length : Int) + 1) = (((xs ++ [x]).length : Nat) : Int) := by rw [w64_id (by omega) (by omega)]; simp
        refine .step ?_ i1
        · simp only [Make5.l0]
          refine .yes hcnd ?_
          rw [hwa]
          refine .bind hN (.no rfl ?_)
          rw [hwk]
          refine .bind (a := (c, code, (), (), wayA code x (addr + (bs.length : Int)) A0, x, o0, (addr, (), (xs.length : Int), false, ()), bs, movs xs)) (.val hrd ?_) ?_
          · rw [hw]
            exact Ev.agr (.bind hf (.now _)) (.bind hf (.now _))
          · show Ev (fun k => (slc code.2.1 ((t0 + bs.length : Nat) : Int) (w64 (((t0 + bs.length : Nat) : Int) + (wayA code x (addr + (bs.length : Int)) A0).1))).bind _) _
            rw [hwsz, hwe]
            refine .val hsl (.val (if_pos (room_ok ?_)) (.bind (moves_p hox) (.val (if_pos (room_ok ?_)) (.val hsl (.bind hA (.now' ?_))))))
            · show (bs.length + ((code.2.1.drop (t0 + bs.length)).take (lenI x)).length) * 1 ≤ _
              rw [hgl]; omega
            · show ((movs xs).length + (movesI x).length) * 56 ≤ _
              omega
            · rw [hsz1, movs_snoc]
def zeroB : Blk := (0, [], 0, false, [])
def mkT (code : Cod) (addr : Int) : Nat := (addr - code.1).toNat
def mkR (c : Cpu) (code : Cod) (addr : Int) : MkS := makeB c code.2.1 (mkT code addr) addr 64 [] [] false
def mkV (c : Cpu) (code : Cod) (addr : Int) : Blk := (addr, (mkR c code addr).2.1, ((mkR c code addr).1.length : Int), (mkR c code addr).2.2, movs (mkR c code addr).1)
def makeV (c : Cpu) (code : Cod) (addr : Int) : Blk × Int × Unit := if (begunR c code addr).2.1 ≠ 0 then (zeroB, (begunR c code addr).2.1, ()) else (mkV c code addr, 0, ())
theorem begun_in {c : Cpu} {code : Cod} {addr : Int} (h : (begunR c code addr).2.1 = 0) : code.1 ≤ addr ∧ addr < code.1 + (code.2.1.length : Int) := by
  unfold begunR at h
  cases h1 : atI code addr with
  | none => rw [h1] at h; cases h
  | some n =>
    unfold atI at h1
    split at h1
    · rename_i g
      exact g.2
    · cases h1
theorem make_ev {c : Cpu} (hc : Wc c) (hn : Wn c) (h8 : Ev (fun k => Check30 k c) (0, ())) {code : Cod} (hp : OkP c code) (hd : OkD code) {addr : Int} (ha : -9223372036854775808 ≤ addr ∧ addr ≤ 9223372036854775807) (h0 : Ev (fun k => Check43 k c code) (0, ())) :
    Ev (fun k => Make5 k c code addr) (makeV c code addr, ()) := by
  have hN := next_p hc hp hd ha h0
  have hb := hd.base
  unfold makeV Make5
  by_cases he : (begunR c code addr).2.1 ≠ 0
  · rw [if_pos he]
    have hnx : nextR c code addr = (zeroW, (begunR c code addr).2.1, ()) := by unfold nextR; exact if_pos he
    rw [hnx] at hN
    exact .bind hN (.yes (bne_iff_ne.2 he) (.now _))
  · rw [if_neg he]
    have he : (begunR c code addr).2.1 = 0 := by omega
    obtain ⟨g1, g2⟩ := begun_in he
    have hnx : (nextR c code addr).2.1 = 0 := by unfold nextR; rw [if_neg (by omega)]
    have l1 := make_lp hc hn h8 hp hd h0 (t0 := mkT code addr) (addr := addr) (by unfold mkT; omega) (0, (), 0, false, ()) 64 [] [] false rfl (made_nil (by unfold mkT; omega))
    exact .bind hN (.no (by rw [hnx]; rfl) (.bind l1.ev (.now _)))
theorem check8_of {c : Cpu} (hc : Wc c) (hn : Wn c) {code : Cod} (h0 : Ev (fun k => Check43 k c code) (0, ())) : Ev (fun k => Check30 k c) (0, ()) ∧ ∀ x ∈ c.2.1, OkI x := by
  obtain ⟨v, hv, hp⟩ := check_ok hc hn
  by_cases h : v.1 = 0
  · have : v = (0, ()) := by obtain ⟨v1, v2⟩ := v; cases v2; have h : v1 = 0 := h; rw [h]
    subst this
    exact ⟨hv, hp rfl⟩
  · have : Ev (fun k => Check43 k c code) (v.1, ()) := by
      unfold Check43
      exact .bind hv (.yes (bne_iff_ne.2 h) (.now _))
    have := Ev.one this h0
    exact absurd (congrArg Prod.fst this) h
def madeB : Bool := (begunR cpuV nopC 512).2.1 == 0 && (mkV cpuV nopC 512).2.2.1 == 2 && (mkV cpuV nopC 512).2.2.2.1 && (mkV cpuV nopC 512).2.2.2.2.length == 5
theorem made_true : madeB = true := by kernel_rfl
theorem made_ev : Ev (fun k => made6 k) (true, ()) := by
  obtain ⟨hp, h0⟩ := cpu_okp
  have h8 := (check8_of cpu_wc cpu_wn h0).1
  have hM := make_ev cpu_wc cpu_wn h8 hp nop_okd (addr := 512) ⟨by decide, by decide⟩ h0
  have hl := made_true
  unfold madeB at hl
  rw [Bool.and_eq_true, Bool.and_eq_true, Bool.and_eq_true] at hl
  obtain ⟨⟨⟨l1, l2⟩, l3⟩, l4⟩ := hl
  have l1 : (begunR cpuV nopC 512).2.1 = 0 := by simpa using l1
  have l2 : (mkV cpuV nopC 512).2.2.1 = 2 := by simpa using l2
  have l4 : (mkV cpuV nopC 512).2.2.2.2.length = 5 := by simpa using l4
  have e : makeV cpuV nopC 512 = (mkV cpuV nopC 512, 0, ()) := by unfold makeV; exact if_neg (by omega)
  rw [e] at hM
  unfold made6
  refine .bind cpu_ev (.bind nop_ev (.bind hM (.now' ?_)))
  show (cond (cond (cond (0 == 0) ((mkV cpuV nopC 512).2.2.1 == 2) false) (mkV cpuV nopC 512).2.2.2.1 false) (((mkV cpuV nopC 512).2.2.2.2.length : Int) == 5) false, ()) = (true, ())
  rw [l2, l3, l4]
  rfl
theorem mkV_made {c : Cpu} {code : Cod} {addr : Int} (he : (begunR c code addr).2.1 = 0) : Made c code (mkT code addr) addr (mkR c code addr).1 (mkR c code addr).2.1 (mkR c code addr).2.2 := by
  obtain ⟨g1, g2⟩ := begun_in he
  exact (makeB_made (c := c) (code := code) (t0 := mkT code addr) (addr := addr) 64 [] [] false rfl (made_nil (by unfold mkT; omega))).1
end Go.Proofs.YtofendipdfepoaaGreat.Tr

/- Blocks: where the next instruction lies; memories. No program in sight. -/
set_option linter.unusedVariables false
set_option maxRecDepth 100000
noncomputable section
namespace Go.Proofs.YtofendipdfepoaaGreat.Tr
open Go Go.Proofs.YtofendipdfepoaaGreat.Gp

theorem at_bang {l : List Int} {i : Nat} (h : i < l.length) : l.toArray[i]! = l[i] := by
  rw [getElem!_pos l.toArray i (by simpa using h)]; simp
theorem comp_mem {l : List Int} {x : Int} : x ∈ compI l ↔ x ∈ l := by
  show x ∈ Lib.compactUpTo l.toArray l.length ↔ x ∈ l
  unfold Lib.compactUpTo
  constructor
  · intro h
    obtain ⟨j, hj, rfl⟩ := List.mem_map.1 h
    have hj1 := List.mem_range.1 (List.mem_filter.1 hj).1
    rw [at_bang hj1]
    exact List.getElem_mem hj1
  · intro h
    obtain ⟨j, hj⟩ := List.getElem?_of_mem h
    have key : ∀ (n j : Nat), j = n → l[j]? = some x → x ∈ ((List.range l.length).filter (Lib.keeps l.toArray)).map (l.toArray[·]!) := by
      intro n
      induction n using Nat.strongRecOn with
      | ind n ih =>
        intro j hjn hj
        have hjl := get_lt hj
        have hx : l[j] = x := by rw [List.getElem?_eq_getElem hjl] at hj; exact Option.some.inj hj
        by_cases hk : Lib.keeps l.toArray j = true
        · exact List.mem_map.2 ⟨j, List.mem_filter.2 ⟨List.mem_range.2 hjl, hk⟩, by rw [at_bang hjl, hx]⟩
        · have hk' : ¬ (j = 0 ∨ l.toArray[j]! ≠ l.toArray[j - 1]!) := fun h => hk (by unfold Lib.keeps; exact decide_eq_true h)
          have h0 : j ≠ 0 := fun e => hk' (.inl e)
          have he : l.toArray[j]! = l.toArray[j - 1]! := by
            by_cases e : l.toArray[j]! = l.toArray[j - 1]!
            · exact e
            · exact absurd (.inr e) hk'
          rw [at_bang hjl, at_bang (show j - 1 < l.length by omega), hx] at he
          exact ih (j - 1) (by omega) (j - 1) rfl (by rw [List.getElem?_eq_getElem (by omega), ← he])
    exact key j j rfl hj
theorem pc_next {c : Cpu} {at_ : Int} {sl : List Int} (hP : Piece c at_ sl) {x : Ins} (hs : step1 c sl = .inl x) (haw : awayA c at_ sl = false) {E : End} (hE : E ∈ ends1 (at_, sl, []) x at_ A0) {r : List Int} (hr : FitR r) (hS : Snd E.1 r) : r.getD 7 0 = (at_ + (lenI x : Int)) % 65536 := by
  have hB : Base c (at_, sl, 0, false, []) := ⟨hP.p.ins, hP.p.base, hP.d.byte⟩
  have hbg : begunR c (at_, sl, []) at_ = (x, 0, ()) := by
    have := begun_inl hB (t := 0) (x := x) (by exact hs)
    have e : at_ + ((0 : Nat) : Int) = at_ := by omega
    exact (congrArg (begunR c (at_, sl, [])) e.symm).trans this
  have hnx : nextR c (at_, sl, []) at_ = (wayA (at_, sl, []) x at_ A0, 0, ()) := by unfold nextR; rw [hbg]; exact if_neg (by simp)
  unfold awayA at haw
  rw [hnx] at haw
  rw [Bool.or_eq_false_iff] at haw
  obtain ⟨h1, h2⟩ := haw
  have h1 : openL (ends1 (at_, sl, []) x at_ A0) = false := h1
  have h2 : compI (sortI (toL (ends1 (at_, sl, []) x at_ A0))) = [(at_ + (1 + (sizeV x.2.2.1 : Int))) % 65536] := by
    have := h2
    rw [Bool.not_eq_false'] at this
    exact of_decide_eq_true this
  cases hp : pcA E with
  | none =>
    have : openL (ends1 (at_, sl, []) x at_ A0) = true := List.any_eq_true.2 ⟨E, hE, by rw [hp]; rfl⟩
    rw [h1] at this
    cases this
  | some n =>
    have hm : (n : Int) ∈ toL (ends1 (at_, sl, []) x at_ A0) := List.mem_filterMap.2 ⟨E, hE, by rw [hp]; rfl⟩
    have hm2 : (n : Int) ∈ compI (sortI (toL (ends1 (at_, sl, []) x at_ A0))) := comp_mem.2 (List.mem_mergeSort.2 hm)
    rw [h2, List.mem_singleton] at hm2
    rw [whole_is hr hS (by decide) hp, hm2]
    unfold lenI
    congr 1
theorem modify_last {α : Type} (f : α → α) : ∀ (l : List α) (y : α), (l ++ [y]).modify l.length f = l ++ [f y]
  | [], y => rfl
  | a :: l, y => by
    have := modify_last f l y
    rw [List.cons_append, List.length_cons, List.modify_succ_cons, this, List.cons_append]
theorem mset_put {mp : Mp} {a v w : Int} : (mset (.int .i64) (.int .i64) (mput (.int .i64) (.int .i64) mp a v) (mpos (.int .i64) (.int .i64) mp a) w : Mp) = mpI mp a w := by
  unfold mpI mset mput
  split
  · exact List.modify_modify_eq _ _ _ _
  · rename_i h
    have hle : mpos (.int .i64) (.int .i64) mp a ≤ mp.length := List.findIdx_le_length
    have e : mpos (.int .i64) (.int .i64) mp a = mp.length := by
      have : ¬ mpos (.int .i64) (.int .i64) mp a < mp.length := h
      omega
    rw [e]
    exact modify_last _ _ _

end Go.Proofs.YtofendipdfepoaaGreat.Tr

/- A block, run in one go and instruction by instruction. No program in sight. -/
set_option linter.unusedVariables false
set_option maxRecDepth 100000
noncomputable section
namespace Go.Proofs.YtofendipdfepoaaGreat.Tr
open Go Go.Proofs.YtofendipdfepoaaGreat.Gp

inductive Trc : List Ins → List Int → Mp → List Int → List Bs → Mp → Prop
  | nil {r mp} : Trc [] r mp r [] mp
  | cons {x xs r mp r1 b1 mp1 r2 b2 mp2} : InsOk x r mp r1 b1 mp1 → Trc xs r1 mp1 r2 b2 mp2 → Trc (x :: xs) r mp r2 (b1 ++ b2) mp2
theorem trc_ex : ∀ {xs : List Ins}, (∀ x ∈ xs, OkI x) → ∀ {r : List Int}, FitR r → ∀ mp, ∃ r' bs mp', Trc xs r mp r' bs mp'
  | [], _, r, _, mp => ⟨r, [], mp, .nil⟩
  | x :: xs, h, r, hr, mp => by
    obtain ⟨r1, b1, mp1, h1⟩ := ins_ex (h x (List.mem_cons_self ..)) hr mp
    obtain ⟨r2, b2, mp2, h2⟩ := trc_ex (fun y hy => h y (List.mem_cons_of_mem _ hy)) h1.fit mp1
    exact ⟨r2, _, mp2, .cons h1 h2⟩
theorem trc_run {xs : List Ins} {r : List Int} {mp : Mp} {r' : List Int} {bs : List Bs} {mp' : Mp} (h : Trc xs r mp r' bs mp') : ∀ (blk : Blk) (P : List Mv), blk.2.2.2.2 = P ++ movs xs → blk.2.2.2.2.length ≤ 1000 → ∀ (sk : Bool) (t : Int × Int × Bool) (o3 : Cor) (o7 : List Bs), o7.length + 9 * xs.length ≤ 1000 →
    Gp.Lp (fun k => Run8.l0 k blk) ((), (), (), (), sk, (P.length : Int), (), mp, (r, t), o3, o7) ((), (), (), (), mp', (r', t), o3, o7 ++ bs) := by
  induction h with
  | nil =>
    intro blk P eq hl sk t o3 o7 ho
    refine .done ?_
    simp only [Run8.l0]
    refine .no (decide_eq_false (by rw [eq]; show ¬ (P.length : Int) < ((P ++ []).length : Int); simp)) (.now' (by rw [List.append_nil]))
  | @cons x xs r mp r1 b1 mp1 r2 b2 mp2 h1 h2 ih =>
    intro blk P eq hl sk t o3 o7 ho
    rw [List.length_cons] at ho
    have hb := h1.len
    refine h1.run blk P (movs xs) (by rw [eq]; show P ++ (movesI x ++ movs xs) = _; rw [List.append_assoc]) hl sk t o3 o7 _ (by omega) fun sk2 => ?_
    have := ih blk (P ++ movesI x) (by rw [eq]; show P ++ (movesI x ++ movs xs) = _; rw [List.append_assoc]) hl sk2 t o3 (o7 ++ b1) (by rw [List.length_append]; omega)
    rw [List.length_append, List.append_assoc] at this
    exact this
-- what is not written over
def offB (addr : Int) (blk : Blk) (w : Bs) : Bool := cond (cond (w.1 != 2) true (decide (w.2.1 < addr))) true (decide (w.2.1 ≥ (w64 (addr + (List.length blk.2.1 : Int)))))
theorem offB_off {addr : Int} {blk : Blk} (h0 : 0 ≤ addr) (h1 : addr ≤ 65536 - (blk.2.1.length : Int)) {w : Bs} (h : offB addr blk w = true) : Off (addr, blk.2.1, []) w := by
  intro h2
  unfold offB at h
  rw [w64_id (by omega) (by omega)] at h
  have hq : (w.1 != 2) = false := by rw [h2]; rfl
  rw [hq] at h
  show w.2.1 < addr ∨ addr + (blk.2.1.length : Int) ≤ w.2.1
  by_cases ha : w.2.1 < addr
  · exact .inl ha
  · rw [decide_eq_false ha] at h
    exact .inr (of_decide_eq_true h)
abbrev L1 := Cpu × Blk × Unit × Unit × Cor × Unit × Bool × Cor × Unit × Mp × List Bs
theorem l1_ev (addr : Int) (c : Cpu) (blk : Blk) (got o1 : Cor) (mp : Mp) (o6 : List Bs) (t : (Cor × List Bs × Unit) × Unit × Mp) (hl : t.1.2.1.length ≤ 1000) (kept : Bool) :
    Gp.Lp (fun k => TransRuns3.l1 k addr t) (c, blk, (), (), got, (), kept, (0 : Int), o1, (), mp, o6) (c, blk, (), (), got, (), (kept && t.1.2.1.all (offB addr blk)), o1, (), mp, o6) := by
  have key : ∀ (l : List Bs) (b : Bool), l.foldl (fun b w => cond b (offB addr blk w) false) b = (b && l.all (offB addr blk)) := by
    intro l
    induction l with
    | nil => intro b; simp
    | cons w l ih =>
      intro b
      rw [List.foldl_cons, ih, List.all_cons]
      cases b <;> cases offB addr blk w <;> rfl
  have := Lp.fold (body := fun k => TransRuns3.l1 k addr t) t.1.2.1 (fun (b : Bool) i => (c, blk, (), (), got, (), b, i, o1, (), mp, o6)) (fun b w => cond b (offB addr blk w) false) (fun b => ((c, blk, (), (), got, (), b, o1, (), mp, o6) : L1)) (fun _ _ => True)
    (fun i x b hx _ => by
      have hi := get_lt hx
      refine ⟨?_, trivial⟩
      simp only [TransRuns3.l1]
      refine .yes (decide_eq_true (by omega)) (.val (rd_some' hx) (.now' ?_))
      rw [w64_id (x := (i : Int) + 1) (by omega) (by omega)]
      rfl)
    (fun b _ => by
      simp only [TransRuns3.l1]
      exact .no (decide_eq_false (by omega)) (.now _)) (b := kept) trivial
  rw [key] at this
  exact this
abbrev L2 := Unit × Cor × Unit × Bool × Cor × List Bs
/-- one turn of the loop over the instructions -/
theorem l2_step {addr : Int} {c : Cpu} {blk : Blk} {n : Nat} (hn : blk.2.2.1 = (n : Int)) {i : Nat} (hi : i < n) (hn64 : n ≤ 64) {k1 : Cor} {mp : Mp} {k2 : Cor} {bs : List Bs} {mp2 : Mp} (h : Ev (fun k => Run9 k c k1 () () mp) ((k2, bs, ()), (), mp2)) (hb : bs.length ≤ 9) (got : Cor) (kept : Bool) {o6 : List Bs} (ho : o6.length ≤ 9 * i) :
    Ev (fun k => TransRuns3.l2 k addr blk (c, blk, (), (), got, (), kept, (i : Int), k1, (), mp, o6)) (.inl (c, blk, (), (), got, (), (kept && bs.all (offB addr blk)), ((i + 1 : Nat) : Int), k2, (), mp2, o6 ++ bs)) := by
  have h1 := l1_ev addr c blk got k2 mp2 (o6 ++ bs) ((k2, bs, ()), (), mp2) (by show bs.length ≤ 1000; omega) kept
  simp only [TransRuns3.l2]
  refine .yes (decide_eq_true (by rw [hn]; omega)) (.bind h (.val (room24 (by show o6.length + bs.length ≤ 1000; omega)) (.bind h1.ev (.now' ?_))))
  rw [w64_succ (by omega)]
theorem l2_done {addr : Int} {c : Cpu} {blk : Blk} {n : Nat} (hn : blk.2.2.1 = (n : Int)) (got : Cor) (kept : Bool) (k1 : Cor) (mp : Mp) (o6 : List Bs) :
    Gp.Lp (fun k => TransRuns3.l2 k addr blk) (c, blk, (), (), got, (), kept, (n : Int), k1, (), mp, o6) ((), got, (), kept, k1, o6) := by
  refine .done ?_
  simp only [TransRuns3.l2]
  exact .no (decide_eq_false (by rw [hn]; omega)) (.now _)
theorem l2_bad {addr : Int} {c : Cpu} (hc : Wc c) (hI : ∀ x ∈ c.2.1, OkI x) {blk : Blk} {n : Nat} (hn : blk.2.2.1 = (n : Int)) (hn64 : n ≤ 64) (got : Cor) : ∀ m i, i + m = n → ∀ (r : List Int) (op : Int) (mp : Mp) (o6 : List Bs), FitR r → (op = -1 ∨ op = 259) → o6.length ≤ 9 * i →
    ∃ o1' o6', Gp.Lp (fun k => TransRuns3.l2 k addr blk) (c, blk, (), (), got, (), false, (i : Int), (r, op, 0, false), (), mp, o6) ((), got, (), false, o1', o6') := by
  intro m
  induction m with
  | zero =>
    intro i hi r op mp o6 hr hop ho
    have : i = n := by omega
    subst this
    exact ⟨_, _, l2_done hn got false _ mp o6⟩
  | succ m ih =>
    intro i hi r op mp o6 hr hop ho
    have step : ∀ (r' : List Int) (op' : Int) (bs : List Bs) (mp' : Mp), FitR r' → (op' = -1 ∨ op' = 259) → bs.length ≤ 9 → Ev (fun k => Run9 k c (r, op, 0, false) () () mp) (((r', op', 0, false), bs, ()), (), mp') →
        ∃ o1' o6', Gp.Lp (fun k => TransRuns3.l2 k addr blk) (c, blk, (), (), got, (), false, (i : Int), (r, op, 0, false), (), mp, o6) ((), got, (), false, o1', o6') := by
      intro r' op' bs mp' hr' hop' hb h
      obtain ⟨o1', o6', g⟩ := ih (i + 1) (by omega) r' op' mp' (o6 ++ bs) hr' hop' (by rw [List.length_append]; omega)
      exact ⟨o1', o6', .step (l2_step hn (by omega) hn64 h hb got false ho) g⟩
    rcases hop with rfl | rfl
    · cases hf : findI c (memR mp ((fitL r).getD 7 0)) with
      | none =>
        have h7 := (fitL_ok r).ok 7 (by decide)
        rw [wB7] at h7
        exact step _ _ _ _ (fitR_set (fitL_ok r) (by rw [wB7]; omega)) (.inr rfl) (by simp) (jam_ev hc hr.len 0 mp hf)
      | some x =>
        obtain ⟨r', bs, mp', g⟩ := ins_ex (hI x (findI_mem hf)) (fitL_ok r) mp
        exact step _ _ _ _ g.fit (.inl rfl) g.len (g.whole c hc r 0 hr.len rfl hf)
    · exact step _ _ _ _ hr (.inr rfl) (by simp) (jammed_ev hc hr mp)
theorem slice_at {addr : Int} {bytes : List Int} {t n : Nat} (ht : t + n ≤ bytes.length) (h0 : 0 ≤ addr) {a : Int} {m : Nat} (h : atI (addr + (t : Int), (bytes.drop t).take n, []) a = some m) : atI (addr, bytes, []) a = some m := by
  have hl : ((bytes.drop t).take n).length = n := by rw [List.length_take, List.length_drop]; omega
  unfold atI at h ⊢
  split at h
  · rename_i g
    have g : 0 ≤ a ∧ addr + (t : Int) ≤ a ∧ a < addr + (t : Int) + (((bytes.drop t).take n).length : Int) := g
    rw [hl] at g
    rw [if_pos (show 0 ≤ a ∧ addr ≤ a ∧ a < addr + (bytes.length : Int) by omega), ← h]
    congr 2
    show bytes.getD (a - addr).toNat 0 = ((bytes.drop t).take n).getD (a - (addr + (t : Int))).toNat 0
    rw [List.getD_eq_getElem?_getD, List.getD_eq_getElem?_getD, List.getElem?_take_of_lt (by omega), List.getElem?_drop]
    congr 3
    omega
  · cases h
structure Ctx (c : Cpu) (addr : Int) (bytes : List Int) (xs : List Ins) (blk : Blk) : Prop where
  wc : Wc c
  base : Base c (addr, bytes, 0, false, [])
  pars : Parsed c bytes xs
  aw : ∀ i, i + 1 < xs.length → awf c addr bytes xs i = false
  by' : blk.2.1 = bytes
  size : blk.2.2.1 = (xs.length : Int)
  len : xs.length ≤ 64
theorem trc_whole {c : Cpu} {addr : Int} {bytes : List Int} {xs : List Ins} {blk : Blk} (H : Ctx c addr bytes xs blk) (got : Cor) : ∀ (suf pre : List Ins), xs = pre ++ suf → ∀ (r : List Int) (mp : Mp) (rF : List Int) (bF : List Bs) (mpF : Mp), Trc suf r mp rF bF mpF → FitR r → ∀ (r0 : List Int) (a : Int), r0.length = 9 → fitL r0 = r →
    (suf ≠ [] → r.getD 7 0 = addr + (tot pre : Int)) → Holds (addr, bytes, []) mp → (suf = [] → r0 = r ∧ a = 0) → ∀ o6 : List Bs, o6.length ≤ 9 * pre.length →
    ∃ kept' o1' o6', (kept' = false ∨ (o1' = (rF, -1, 0, false) ∧ o6' = o6 ++ bF)) ∧ Gp.Lp (fun k => TransRuns3.l2 k addr blk) (c, blk, (), (), got, (), true, (pre.length : Int), (r0, -1, a, false), (), mp, o6) ((), got, (), kept', o1', o6') := by
  have hat : 0 ≤ addr ∧ addr ≤ 65536 - (bytes.length : Int) := H.base.at'
  intro suf
  induction suf with
  | nil =>
    intro pre hx r mp rF bF mpF hT hr r0 a h9 h0 h7 hH hn o6 ho
    obtain ⟨e1, e2⟩ := hn rfl
    cases hT
    rw [List.append_nil] at hx
    subst hx
    exact ⟨true, _, _, .inr ⟨by rw [e1, e2], by rw [List.append_nil]⟩, l2_done H.size got true _ mp o6⟩
  | cons x suf ih =>
    intro pre hx r mp rF bF mpF hT hr r0 a h9 h0 h7 hH hn o6 ho
    cases hT with
    | @cons _ _ _ _ r1 b1 mp1 _ b2 _ g1 g2 =>
    have hxi : xs[pre.length]? = some x := by rw [hx]; simp
    have hli := get_lt hxi
    have htk : xs.take pre.length = pre := by rw [hx, List.take_left]
    have hst := H.pars.at' _ _ hxi
    rw [htk] at hst
    obtain ⟨op, l, e1, e2, e3⟩ := step1_inl hst
    have h7 := h7 (by simp)
    have hnx := parsed_next H.pars hxi
    rw [htk] at hnx
    have hgd := drop_get e1
    have hop := H.base.byte op (List.mem_of_mem_drop (by show op ∈ bytes.drop (tot pre); rw [e1]; exact List.mem_cons_self ..))
    have hmem : memR mp (r.getD 7 0) = op := by
      have := at_t (b := (addr, bytes, 0, false, [])) hat.1 (t := tot pre) hgd.1
      have := hH _ _ this
      rw [h7]
      refine this.trans ?_
      have e : (bytes.getD (tot pre) 0) = op := hgd.2
      show ((bytes.getD (tot pre) 0).toNat : Int) = op
      rw [e]; omega
    have hW := g1.whole c H.wc r0 a h9 h0 (by rw [hmem]; exact e2)
    have hS := l2_step (addr := addr) H.size hli H.len hW g1.len got true ho
    cases hk : b1.all (offB addr blk) with
    | false =>
      rw [hk] at hS
      obtain ⟨o1', o6', g⟩ := l2_bad (addr := addr) H.wc H.base.ins H.size H.len got (xs.length - (pre.length + 1)) (pre.length + 1) (by omega) r1 (-1) mp1 (o6 ++ b1) g1.fit (.inl rfl) (by have := g1.len; rw [List.length_append]; omega)
      exact ⟨false, o1', o6', .inl rfl, .step hS g⟩
    | true =>
      rw [hk] at hS
      have hOff : ∀ w ∈ b1, Off (addr, bytes, []) w := fun w hw => by
        have := offB_off (blk := blk) hat.1 (by rw [H.by']; exact hat.2) (List.all_eq_true.1 hk w hw)
        rw [H.by'] at this
        exact this
      have hH1 := g1.mem _ hH hOff
      have hpl : (((pre ++ [x]).length : Nat) : Int) = ((pre.length + 1 : Nat) : Int) := by simp
      have hnext : suf ≠ [] → r1.getD 7 0 = addr + (tot (pre ++ [x]) : Int) := by
        intro hne
        have hl3 := lenI_le x
        have hpc := piece_of H.base (t := tot pre) (n := lenI x) hl3.2 hnx
        have hsn : step1 c ((bytes.drop (tot pre)).take (lenI x)) = .inl x := by
          have hsl : ((bytes.drop (tot pre)).take (lenI x)).length = lenI x := by rw [List.length_take, List.length_drop]; omega
          rw [e1] at hsl ⊢
          obtain ⟨n, hn⟩ : ∃ n, lenI x = n + 1 := ⟨lenI x - 1, by omega⟩
          rw [hn, List.take_succ_cons] at hsl ⊢
          rw [List.length_cons] at hsl
          exact step1_mk e2 (by omega)
        have hsl : ((bytes.drop (tot pre)).take (lenI x)).length = lenI x := by rw [List.length_take, List.length_drop]; omega
        have hslen : 0 < suf.length := List.length_pos_iff.2 hne
        have hxl : xs.length = pre.length + 1 + suf.length := by rw [hx]; simp; omega
        have haw := H.aw pre.length (by omega)
        rw [awf_at hxi, htk] at haw
        obtain ⟨E, hE, hSn⟩ := g1.snd (addr + (tot pre : Int), (bytes.drop (tot pre)).take (lenI x), []) hpc.d (fun q m hq => hH q m (slice_at hnx hat.1 hq)) (fun w hw h2 => by
          have := hOff w hw h2
          show w.2.1 < addr + (tot pre : Int) ∨ addr + (tot pre : Int) + (((bytes.drop (tot pre)).take (lenI x)).length : Int) ≤ w.2.1
          rw [hsl]
          have this : w.2.1 < addr ∨ addr + (bytes.length : Int) ≤ w.2.1 := this
          omega)
        rw [h7] at hE
        have := pc_next hpc hsn haw hE g1.fit hSn
        rw [this, tot_snoc]
        obtain ⟨y, suf2, rfl⟩ : ∃ y suf2, suf = y :: suf2 := by
          cases suf with
          | nil => exact absurd rfl hne
          | cons y s => exact ⟨y, s, rfl⟩
        have hyi : xs[(pre ++ [x]).length]? = some y := by rw [hx]; simp
        have hny := parsed_next H.pars hyi
        have htk2 : xs.take (pre ++ [x]).length = pre ++ [x] := by
          have : xs = (pre ++ [x]) ++ (y :: suf2) := by rw [hx]; simp
          rw [this, List.take_left]
        rw [htk2, tot_snoc] at hny
        have := (lenI_le y).1
        omega
      obtain ⟨kept', o1', o6', h1, h2⟩ := ih (pre ++ [x]) (by rw [hx]; simp) r1 mp1 rF b2 mpF g2 g1.fit r1 0 g1.fit.len (fitL_id g1.fit) hnext hH1 (fun _ => ⟨rfl, rfl⟩) (o6 ++ b1) (by have := g1.len; rw [List.length_append, List.length_append]; simp; omega)
      rw [hpl] at h2
      refine ⟨kept', o1', o6', ?_, .step hS h2⟩
      rw [List.append_assoc] at h1
      exact h1
end Go.Proofs.YtofendipdfepoaaGreat.Tr

/- Blocks run as processors do: the law. No program in sight. -/
set_option linter.unusedVariables false
set_option maxRecDepth 100000
noncomputable section
namespace Go.Proofs.YtofendipdfepoaaGreat.Tr
open Go Go.Proofs.YtofendipdfepoaaGreat.Gp

theorem loaded_ev (mem : List Int) (hm : mem.length ≤ 1000000000000000000) : ∃ mp, Ev (fun k => Loaded7 k mem 0) ((), (), mp) := by
  have key : ∀ (n i : Nat), i + n = mem.length → ∀ m : Mp, ∃ m', Gp.Lp (fun k => Loaded7.l0 k mem 0) ((), (i : Int), m, ()) ((), m', ()) := by
    intro n
    induction n with
    | zero =>
      intro i hi m
      refine ⟨m, .done ?_⟩
      simp only [Loaded7.l0]
      exact .no (decide_eq_false (by omega)) (.now _)
    | succ n ih =>
      intro i hi m
      have hx : mem[i]? = some mem[i] := List.getElem?_eq_getElem (by omega)
      obtain ⟨m', h⟩ := ih (i + 1) (by omega) (mput (.int .i64) (.int .i64) m (Int.tmod (w64 (0 + (i : Int))) 65536) (w64 mem[i]))
      refine ⟨m', .step ?_ h⟩
      simp only [Loaded7.l0]
      refine .yes (decide_eq_true (by omega)) (.val (rd_some' hx) (.now' ?_))
      rw [w64_succ (by omega)]
  obtain ⟨m', h⟩ := key mem.length 0 (by omega) []
  refine ⟨m', ?_⟩
  unfold Loaded7
  exact .bind h.ev (.now _)
abbrev L0 := Cpu × Blk × Unit × Unit × Unit × Cor × Unit × Mp × Unit × Mp
theorem l0_ev {addr : Int} (h0 : 0 ≤ addr) (t : (Blk × Int × Unit) × Unit) (h1 : addr ≤ 65536 - (t.1.1.2.1.length : Int)) (hb : ∀ x ∈ t.1.1.2.1, 0 ≤ x ∧ x < 256) (c : Cpu) (b : Blk) (o1 : Cor) (mp0 : Mp) :
    ∃ mp, Gp.Lp (fun k => TransRuns3.l0 k addr t) (c, b, (), (), (), (0 : Int), o1, (), mp0, (), mp0) (c, b, (), (), (), o1, (), mp, (), mp) ∧ Holds (addr, t.1.1.2.1, []) mp := by
  have key : ∀ (n i : Nat), i + n = t.1.1.2.1.length → ∀ m : Mp, (∀ j, j < i → memR m (addr + (j : Int)) = t.1.1.2.1.getD j 0) → ∃ m', Gp.Lp (fun k => TransRuns3.l0 k addr t) (c, b, (), (), (), (i : Int), o1, (), m, (), m) (c, b, (), (), (), o1, (), m', (), m') ∧ ∀ j, j < t.1.1.2.1.length → memR m' (addr + (j : Int)) = t.1.1.2.1.getD j 0 := by
    intro n
    induction n with
    | zero =>
      intro i hi m hm
      refine ⟨m, .done ?_, fun j hj => hm j (by omega)⟩
      simp only [TransRuns3.l0]
      exact .no (decide_eq_false (by omega)) (.now _)
    | succ n ih =>
      intro i hi m hm
      have hil : i < t.1.1.2.1.length := by omega
      have hx : t.1.1.2.1[i]? = some t.1.1.2.1[i] := List.getElem?_eq_getElem hil
      have hby := hb _ (get_mem hx)
      have hgd : t.1.1.2.1.getD i 0 = t.1.1.2.1[i] := by rw [List.getD_eq_getElem?_getD, hx]; rfl
      generalize t.1.1.2.1[i] = y at hx hby hgd
      have hw1 : w64 (addr + (i : Int)) = addr + (i : Int) := w64_id (by omega) (by omega)
      have hw2 : w64 y = y := w64_id (by omega) (by omega)
      obtain ⟨m', h, hh⟩ := ih (i + 1) (by omega) (mpI m (addr + (i : Int)) y) (fun j hj => by
        rw [memR_put]
        by_cases hji : j = i
        · subst hji
          rw [if_pos rfl, hgd]; omega
        · rw [if_neg (by omega)]
          exact hm j (by omega))
      refine ⟨m', .step ?_ h, hh⟩
      simp only [TransRuns3.l0]
      refine .yes (decide_eq_true (by omega)) (.val (rd_some' hx) (.now' ?_))
      rw [hw1, hw2, w64_succ (by omega)]
      have := @mset_put m (addr + (i : Int)) (Option.getD (α := Int) (mget (.int .i64) (.int .i64) m (addr + (i : Int))) (0 : Int)) y
      exact congrArg (fun q : Mp => (Sum.inl (c, b, (), (), (), ((i + 1 : Nat) : Int), o1, (), q, (), q) : (Cpu × Blk × Unit × Unit × Unit × Int × Cor × Unit × Mp × Unit × Mp) ⊕ L0)) this
  obtain ⟨m', h, hh⟩ := key t.1.1.2.1.length 0 (by omega) mp0 (fun j hj => absurd hj (Nat.not_lt_zero _))
  refine ⟨m', h, fun a n hat => ?_⟩
  unfold atI at hat
  split at hat
  · rename_i g
    have g : 0 ≤ a ∧ addr ≤ a ∧ a < addr + (t.1.1.2.1.length : Int) := g
    have hat := Option.some.inj hat
    have hat : (t.1.1.2.1.getD (a - addr).toNat 0).toNat = n := hat
    have := hh (a - addr).toNat (by omega)
    have e : addr + ((a - addr).toNat : Int) = a := by omega
    rw [e] at this
    rw [this, ← hat]
    have hlt : (a - addr).toNat < t.1.1.2.1.length := by omega
    have := hb (t.1.1.2.1.getD (a - addr).toNat 0) (by rw [List.getD_eq_getElem?_getD, List.getElem?_eq_getElem hlt]; exact List.getElem_mem hlt)
    omega
  · cases hat
theorem shaped_ev {blk : Blk} (hl : blk.2.2.2.2.length ≤ 1000) (h : ∀ y ∈ blk.2.2.2.2, (0 ≤ y.2.1 ∧ y.2.1 ≤ 2) ∧ (0 ≤ y.2.2.1 ∧ y.2.2.1 < 12) ∧ (0 ≤ y.2.2.2.1 ∧ y.2.2.2.1 < 9)) : Ev (fun k => shaped26 k blk) (true, ()) := by
  have key : ∀ (n i : Nat), i + n = blk.2.2.2.2.length → Gp.Lp (fun k => IndexFunc101.l0 k blk.2.2.2.2) ((), (i : Int)) (.inl ()) := by
    intro n
    induction n with
    | zero =>
      intro i hi
      refine .done ?_
      simp only [IndexFunc101.l0]
      exact .no (decide_eq_false (by omega)) (.now _)
    | succ n ih =>
      intro i hi
      have hx : blk.2.2.2.2[i]? = some blk.2.2.2.2[i] := List.getElem?_eq_getElem (by omega)
      obtain ⟨h1, h2, h3⟩ := h _ (get_mem hx)
      generalize blk.2.2.2.2[i] = y at hx h1 h2 h3
      refine .step ?_ (ih (i + 1) (by omega))
      simp only [IndexFunc101.l0]
      refine .yes (decide_eq_true (by omega)) (.val (rd_some' hx) (.bind (a := (false, ())) (.const ?_) (.no rfl (.now' ?_))))
      · rw [decide_eq_false (show ¬ y.2.1 < 0 by omega), decide_eq_false (show ¬ y.2.1 > 2 by omega), decide_eq_false (show ¬ y.2.2.1 < 0 by omega), decide_eq_false (show ¬ y.2.2.1 ≥ 12 by omega), decide_eq_false (show ¬ y.2.2.2.1 < 0 by omega), decide_eq_false (show ¬ y.2.2.2.1 ≥ 9 by omega)]
        rfl
      · rw [w64_succ (by omega)]
  unfold shaped26 ContainsFunc57 IndexFunc101
  exact .bind (.bind (.joinL (S := Unit) (key blk.2.2.2.2.length 0 (by omega)).ev (.now _)) (.now _)) (.now _)
theorem eqBs_ev (l : List Bs) (hl : l.length ≤ 1000) : Ev (fun k => Equal10 k l l) (true, ()) := by
  have key : ∀ (n i : Nat), i + n = l.length → Gp.Lp (fun k => Equal10.l0 k l l) (i : Int) (.inl ()) := by
    intro n
    induction n with
    | zero =>
      intro i hi
      refine .done ?_
      simp only [Equal10.l0]
      exact .no (decide_eq_false (by omega)) (.now _)
    | succ n ih =>
      intro i hi
      have hx : l[i]? = some l[i] := List.getElem?_eq_getElem (by omega)
      refine .step ?_ (ih (i + 1) (by omega))
      simp only [Equal10.l0]
      refine .yes (decide_eq_true (by omega)) (.val (rd_some' hx) (.val (rd_some' hx) (.no ?_ (.now' ?_))))
      · exact congrArg (fun q => xor true q) (eqB_refl (k := .st (.pair (.int .i64) (.pair (.int .i64) (.int .i64)))) rfl)
      · rw [w64_succ (by omega)]
  unfold Equal10
  exact .no (by simp) (.joinL (S := Unit) (key l.length 0 (by omega)).ev (.now _))
theorem trc_len {xs : List Ins} {r : List Int} {mp : Mp} {r' : List Int} {bs : List Bs} {mp' : Mp} (h : Trc xs r mp r' bs mp') : bs.length ≤ 9 * xs.length := by
  induction h with
  | nil => exact Nat.le_refl _
  | cons h1 h2 ih =>
    have := h1.len
    rw [List.length_append, List.length_cons]
    omega
theorem movs_shaped {xs : List Ins} (h : ∀ x ∈ xs, OkI x) : ∀ y ∈ movs xs, (0 ≤ y.2.1 ∧ y.2.1 ≤ 2) ∧ (0 ≤ y.2.2.1 ∧ y.2.2.1 < 12) ∧ (0 ≤ y.2.2.2.1 ∧ y.2.2.2.1 < 9) := by
  intro y hy
  obtain ⟨x, hx, hy⟩ := List.mem_flatMap.1 hy
  rw [movesI_mv] at hy
  rcases List.mem_cons.1 hy with rfl | hy
  · exact ⟨⟨by decide, by decide⟩, ⟨by decide, by decide⟩, ⟨by decide, by decide⟩⟩
  · obtain ⟨z, hz, rfl⟩ := List.mem_map.1 hy
    have := (h x hx).cyc.ok z hz
    exact ⟨this.bus, this.at', this.reg⟩
theorem mkR_pos {c : Cpu} {code : Cod} (hp : OkP c code) (hd : OkD code) {addr : Int} (he : (begunR c code addr).2.1 = 0) : 1 ≤ (mkR c code addr).1.length := by
  obtain ⟨g1, g2⟩ := begun_in he
  have ht0 : addr = code.1 + (mkT code addr : Int) := by unfold mkT; omega
  have hB := base_c hp hd
  unfold mkR makeB
  rw [if_neg (by decide)]
  cases hs : step1 c (code.2.1.drop (mkT code addr + ([] : List Int).length)) with
  | inr e =>
    obtain ⟨e', he', hee⟩ := begun_inr hB (t := mkT code addr) hs
    have : begunR c code (code.1 + (mkT code addr : Int)) = (none4, e', ()) := he'
    rw [← ht0] at this
    rw [this] at he
    have he : e' = 0 := he
    exact absurd (by rw [← hee, he]; rfl) (step1_ne hs)
  | inl x =>
    have := (makeB_made (c := c) (code := code) (t0 := mkT code addr) (addr := addr) 63 ([] ++ [x]) _ _ rfl (made_snoc (made_nil (by unfold mkT; omega)) (by decide) hs)).2
    simpa using this
theorem law_runs (c : Cpu) (code : Cod) (addr : Int) (r mem : List Int) (hc : Wc c) (hn : Wn c) (hb : ∀ x ∈ code.2.1, 0 ≤ x ∧ x < 256) (ha : -9223372036854775808 ≤ addr ∧ addr ≤ 9223372036854775807) (h9 : r.length = 9) (hm : mem.length ≤ 1000000000000000000) : ∃ k, TransRuns3 k c code addr r mem = some (true, ()) := by
  refine Ev.ex ?_
  obtain ⟨e, h2, h3⟩ := fault_ok hc hn code
  unfold TransRuns3
  by_cases he : e = 0
  · subst he
    have hp := h3 rfl
    have hd : OkD code := ⟨hp.len, hp.base, hb⟩
    have h8 := (check8_of hc hn h2).1
    have hM := make_ev hc hn h8 hp hd ha h2
    by_cases hg : (begunR c code addr).2.1 ≠ 0
    · have e : makeV c code addr = (zeroB, (begunR c code addr).2.1, ()) := by unfold makeV; exact if_pos hg
      rw [e] at hM
      exact .bind hM (.bind made_ev (.yes (bne_iff_ne.2 hg) (.bind made_ev (.now _))))
    · have hg : (begunR c code addr).2.1 = 0 := by omega
      have e : makeV c code addr = (mkV c code addr, 0, ()) := by unfold makeV; exact if_neg (by omega)
      rw [e] at hM
      obtain ⟨g1, g2⟩ := begun_in hg
      have hMd := mkV_made hg
      have hpos := mkR_pos hp hd hg
      unfold mkV at hM
      generalize mkR c code addr = z at hM hMd hpos
      obtain ⟨xs, bytes, last⟩ := z
      have hpos : 1 ≤ xs.length := hpos
      have hMd : Made c code (mkT code addr) addr xs bytes last := hMd
      have hfit := hMd.fits
      have htot := hMd.tot
      have hxl := hMd.len
      have hbase := hd.base
      have hok := parsed_ok hp.ins hMd.pars
      have hml := movs_len hok
      have ht0 : addr = code.1 + (mkT code addr : Int) := by unfold mkT; omega
      have hby : ∀ x ∈ bytes, 0 ≤ x ∧ x < 256 := fun x hx => hb x (hMd.mem x hx)
      have hB : Base c (addr, bytes, 0, false, []) := ⟨hp.ins, ⟨by show 0 ≤ addr; omega, by show addr ≤ 65536 - (bytes.length : Int); omega⟩, hby⟩
      have hlt : addr < 65536 := by omega
      obtain ⟨mp0, hL⟩ := loaded_ev mem hm
      have hl9 : (r.set (Int.toNat 7) addr).length = 9 := by rw [List.length_set]; exact h9
      have hfo := fitL_ok (r.set (Int.toNat 7) addr)
      have h70 : (r.set (Int.toNat 7) addr).getD 7 0 = addr := by
        show (r.set 7 addr).getD 7 0 = addr
        rw [getD_set, if_pos ⟨rfl, by rw [h9]; decide⟩]
      have h77 : (fitL (r.set (Int.toNat 7) addr)).getD 7 0 = addr := by
        rw [fitL_get _ (by decide), h70, wB7]
        omega
      obtain ⟨mpB, h0, hH⟩ := l0_ev (addr := addr) (by omega) (((addr, bytes, (xs.length : Int), last, movs xs), 0, ()), ()) (by show addr ≤ 65536 - (bytes.length : Int); omega) hby c (addr, bytes, (xs.length : Int), last, movs xs) (r.set (Int.toNat 7) addr, -1, 0, false) mp0
      obtain ⟨rF, bF, mpF, hT⟩ := trc_ex hok hfo mpB
      have hbl := trc_len hT
      have hrun := trc_run hT (addr, bytes, (xs.length : Int), last, movs xs) [] rfl (by show (movs xs).length ≤ 1000; omega) false (-1, 0, false) (List.replicate 9 0, 0, 0, false) [] (by show 0 + 9 * xs.length ≤ 1000; omega)
      have hCtx : Ctx c addr bytes xs (addr, bytes, (xs.length : Int), last, movs xs) := ⟨hc, hB, hMd.pars, fun i hi => by rw [hMd.aw i (by omega), decide_eq_false (by omega), Bool.and_false], rfl, rfl, hxl⟩
      obtain ⟨kept', o1', o6', hkk, hl2⟩ := trc_whole hCtx (rF, -1, 0, false) xs [] rfl _ mpB rF bF mpF hT hfo (r.set (Int.toNat 7) addr) 0 hl9 rfl (fun _ => by rw [h77]; show addr = addr + ((0 : Nat) : Int); omega) hH (fun h => by rw [h] at hpos; simp at hpos) [] (Nat.zero_le _)
      have hR8 : Ev (fun k => Run8 k (addr, bytes, (xs.length : Int), last, movs xs) (r.set (Int.toNat 7) addr, -1, 0, false) () () mpB) (((rF, -1, 0, false), bF, true, ()), (), mpF) := by
        have hrd : rd (r.set (Int.toNat 7) addr) 7 = some ((r.set (Int.toNat 7) addr).getD 7 0) := rd9 hl9 (i := 7) (by decide)
        rw [h70] at hrd
        unfold Run8
        refine .bind (a := false) (.no rfl (.val (if_pos (by decide)) (.val hrd (.bind (low16_ev addr) (.now' ?_))))) (.bind (a := false) (.no rfl (.bind (shaped_ev (by show (movs xs).length ≤ 1000; omega) (movs_shaped hok)) (.now _))) (.no rfl (.bind (fit_ev hl9) (.bind hrun.ev (.now _)))))
        show (addr % 65536 != addr) = false
        rw [show addr % 65536 = addr by omega]
        simp
      refine .bind hM (.bind made_ev (.no rfl (.val (if_pos (by decide)) (.val (rd9 h9 (i := 7) (by decide)) (.bind hL (.bind hL (.bind h0.ev (.bind hR8 (.no rfl (.bind hl2.ev ?_))))))))))
      rcases hkk with rfl | ⟨rfl, e2⟩
      · exact .bind (a := true) (.yes rfl (.now _)) (.now _)
      · have e2 : bF = o6' := e2.symm
        subst e2
        refine .bind (a := true) ?_ (.now _)
        cases kept' with
        | false => exact .yes rfl (.now _)
        | true =>
          refine .no rfl (.bind (a := true) (.yes ?_ (.bind (eqBs_ev bF (by omega)) (.now _))) (.now _))
          exact congrArg (fun q => xor false q) (eqB_refl (k := .st (.pair (.arr 9 (.int .i64)) (.pair (.int .i64) (.pair (.int .i64) .bool)))) rfl)
  · have hN := next_bad (addr := addr) he h2
    have m1 : Ev (fun k => Make5 k c code addr) ((zeroB, e, ()), ()) := by
      unfold Make5
      exact .bind hN (.yes (bne_iff_ne.2 he) (.now _))
    exact .bind m1 (.bind made_ev (.yes (bne_iff_ne.2 he) (.bind made_ev (.now _))))
theorem transRuns (c : Cpu) (code : Cod) (addr : Int) (r mem : List Int) (hc : WfCpu c) {p q : Prop} (hcode : p ∧ wfL (α := Int) 1 (fun y => (Lit.int .u8 y).wf = true) code.2.1 ∧ q) (ha : (Lit.int .i64 addr).wf = true) {q2 : Prop} (hr : r.length = 9 ∧ q2) (hm : wfL (α := Int) 1 (fun y => (Lit.int .u8 y).wf = true) mem) : ∃ k, TransRuns3 k c code addr r mem = some (true, ()) := by
  have h := hm.1
  exact law_runs c code addr r mem (wc_row hc).1 (wc_row hc).2 (fun x hx => lit8 (hcode.2.1.2 x hx)) (lit_wf ha) hr.1 (by omega)
end Go.Proofs.YtofendipdfepoaaGreat.Tr

/- The row of TransRuns: TransRuns. The law returns true for every input; the input reads as it did. -/
namespace Go.Proofs.YtofendipdfepoaaGreat.transRuns
open Go.ChangeShapes Go.WideShapes Go.ChangeAt Go.RowKit Go.Proofs.YtofendipdfepoaaGreat.Gp Go.Proofs.YtofendipdfepoaaGreat.Tr
set_option linter.unusedVariables false
theorem own : ownKnob Tryz.prog.godebug = none := by kernel_rfl
theorem laidOut : laidOutB Tryz.prog = true := by kernel_rfl
abbrev wf9 : ByteArray → Prop := (fun (y : ByteArray) => y.size ≤ 140737488351232)
abbrev siz9 : ByteArray → Nat := (fun (y : ByteArray) => y.size + 1)
theorem gd9 : Gd Tryz.prog 9 .str wf9 siz9 := gd_str Tryz.underlying9 (by kernel_rfl)
abbrev wf3 : Int → Prop := (fun (y : Int) => (Lit.int .i64 y).wf = true)
abbrev siz3 : Int → Nat := (fun _ => 1)
theorem gd3 : Gd Tryz.prog 3 (.int .i64) wf3 siz3 := gd_int Tryz.underlying3 (by kernel_rfl)
abbrev wf128 : (Int × (Int × (Int × Int))) → Prop := (fun (y : (Int × (Int × (Int × Int)))) => wf3 y.1 ∧ (fun (y : (Int × (Int × Int))) => wf3 y.1 ∧ (fun (y : (Int × Int)) => wf3 y.1 ∧ wf3 y.2) y.2) y.2)
abbrev siz128 : (Int × (Int × (Int × Int))) → Nat := (fun (y : (Int × (Int × (Int × Int)))) => siz3 y.1 + (fun (y : (Int × (Int × Int))) => siz3 y.1 + (fun (y : (Int × Int)) => siz3 y.1 + siz3 y.2) y.2) y.2)
theorem gd128 : Gd Tryz.prog 128 (.st (.pair (.int .i64) (.pair (.int .i64) (.pair (.int .i64) (.int .i64))))) wf128 siz128 := gd_st Tryz.underlying128 (by kernel_rfl) (gdf_cons (k := .int .i64) (k' := .pair (.int .i64) (.pair (.int .i64) (.int .i64))) (wf := wf3) (siz := siz3) (wf' := (fun (y : (Int × (Int × Int))) => wf3 y.1 ∧ (fun (y : (Int × Int)) => wf3 y.1 ∧ wf3 y.2) y.2)) (siz' := (fun (y : (Int × (Int × Int))) => siz3 y.1 + (fun (y : (Int × Int)) => siz3 y.1 + siz3 y.2) y.2)) rfl gd3 (gdf_cons (k := .int .i64) (k' := .pair (.int .i64) (.int .i64)) (wf := wf3) (siz := siz3) (wf' := (fun (y : (Int × Int)) => wf3 y.1 ∧ wf3 y.2)) (siz' := (fun (y : (Int × Int)) => siz3 y.1 + siz3 y.2)) rfl gd3 (gdf_cons (k := .int .i64) (k' := .int .i64) (wf := wf3) (siz := siz3) (wf' := wf3) (siz' := siz3) rfl gd3 (gdf_one rfl gd3))))
abbrev wf86 : (List (Int × (Int × (Int × Int)))) → Prop := (wfL (α := (Int × (Int × (Int × Int)))) 32 wf128)
abbrev siz86 : (List (Int × (Int × (Int × Int)))) → Nat := (sizL (α := (Int × (Int × (Int × Int)))) siz128)
theorem gd86 : Gd Tryz.prog 86 (.sl (.st (.pair (.int .i64) (.pair (.int .i64) (.pair (.int .i64) (.int .i64)))))) wf86 siz86 := gd_sl (B := 32) Tryz.underlying86 (by kernel_rfl) (by kernel_rfl) (by decide) gd128
abbrev wf125 : (Int × (Int × (Int × (List (Int × (Int × (Int × Int))))))) → Prop := (fun (y : (Int × (Int × (Int × (List (Int × (Int × (Int × Int)))))))) => wf3 y.1 ∧ (fun (y : (Int × (Int × (List (Int × (Int × (Int × Int))))))) => wf3 y.1 ∧ (fun (y : (Int × (List (Int × (Int × (Int × Int)))))) => wf3 y.1 ∧ wf86 y.2) y.2) y.2)
abbrev siz125 : (Int × (Int × (Int × (List (Int × (Int × (Int × Int))))))) → Nat := (fun (y : (Int × (Int × (Int × (List (Int × (Int × (Int × Int)))))))) => siz3 y.1 + (fun (y : (Int × (Int × (List (Int × (Int × (Int × Int))))))) => siz3 y.1 + (fun (y : (Int × (List (Int × (Int × (Int × Int)))))) => siz3 y.1 + siz86 y.2) y.2) y.2)
theorem gd125 : Gd Tryz.prog 125 (.st (.pair (.int .i64) (.pair (.int .i64) (.pair (.int .i64) (.sl (.st (.pair (.int .i64) (.pair (.int .i64) (.pair (.int .i64) (.int .i64)))))))))) wf125 siz125 := gd_st Tryz.underlying125 (by kernel_rfl) (gdf_cons (k := .int .i64) (k' := .pair (.int .i64) (.pair (.int .i64) (.sl (.st (.pair (.int .i64) (.pair (.int .i64) (.pair (.int .i64) (.int .i64)))))))) (wf := wf3) (siz := siz3) (wf' := (fun (y : (Int × (Int × (List (Int × (Int × (Int × Int))))))) => wf3 y.1 ∧ (fun (y : (Int × (List (Int × (Int × (Int × Int)))))) => wf3 y.1 ∧ wf86 y.2) y.2)) (siz' := (fun (y : (Int × (Int × (List (Int × (Int × (Int × Int))))))) => siz3 y.1 + (fun (y : (Int × (List (Int × (Int × (Int × Int)))))) => siz3 y.1 + siz86 y.2) y.2)) rfl gd3 (gdf_cons (k := .int .i64) (k' := .pair (.int .i64) (.sl (.st (.pair (.int .i64) (.pair (.int .i64) (.pair (.int .i64) (.int .i64))))))) (wf := wf3) (siz := siz3) (wf' := (fun (y : (Int × (List (Int × (Int × (Int × Int)))))) => wf3 y.1 ∧ wf86 y.2)) (siz' := (fun (y : (Int × (List (Int × (Int × (Int × Int)))))) => siz3 y.1 + siz86 y.2)) rfl gd3 (gdf_cons (k := .int .i64) (k' := .sl (.st (.pair (.int .i64) (.pair (.int .i64) (.pair (.int .i64) (.int .i64)))))) (wf := wf3) (siz := siz3) (wf' := wf86) (siz' := siz86) rfl gd3 (gdf_one rfl gd86))))
abbrev wf23 : (List (Int × (Int × (Int × (List (Int × (Int × (Int × Int)))))))) → Prop := (wfL (α := (Int × (Int × (Int × (List (Int × (Int × (Int × Int)))))))) 48 wf125)
abbrev siz23 : (List (Int × (Int × (Int × (List (Int × (Int × (Int × Int)))))))) → Nat := (sizL (α := (Int × (Int × (Int × (List (Int × (Int × (Int × Int)))))))) siz125)
theorem gd23 : Gd Tryz.prog 23 (.sl (.st (.pair (.int .i64) (.pair (.int .i64) (.pair (.int .i64) (.sl (.st (.pair (.int .i64) (.pair (.int .i64) (.pair (.int .i64) (.int .i64))))))))))) wf23 siz23 := gd_sl (B := 48) Tryz.underlying23 (by kernel_rfl) (by kernel_rfl) (by decide) gd125
abbrev wf74 : (Int × (ByteArray × (Int × (List (Int × (Int × (Int × (List (Int × (Int × (Int × Int))))))))))) → Prop := (fun (y : (Int × (ByteArray × (Int × (List (Int × (Int × (Int × (List (Int × (Int × (Int × Int)))))))))))) => wf3 y.1 ∧ (fun (y : (ByteArray × (Int × (List (Int × (Int × (Int × (List (Int × (Int × (Int × Int))))))))))) => wf9 y.1 ∧ (fun (y : (Int × (List (Int × (Int × (Int × (List (Int × (Int × (Int × Int)))))))))) => wf3 y.1 ∧ wf23 y.2) y.2) y.2)
abbrev siz74 : (Int × (ByteArray × (Int × (List (Int × (Int × (Int × (List (Int × (Int × (Int × Int))))))))))) → Nat := (fun (y : (Int × (ByteArray × (Int × (List (Int × (Int × (Int × (List (Int × (Int × (Int × Int)))))))))))) => siz3 y.1 + (fun (y : (ByteArray × (Int × (List (Int × (Int × (Int × (List (Int × (Int × (Int × Int))))))))))) => siz9 y.1 + (fun (y : (Int × (List (Int × (Int × (Int × (List (Int × (Int × (Int × Int)))))))))) => siz3 y.1 + siz23 y.2) y.2) y.2)
theorem gd74 : Gd Tryz.prog 74 (.st (.pair (.int .i64) (.pair .str (.pair (.int .i64) (.sl (.st (.pair (.int .i64) (.pair (.int .i64) (.pair (.int .i64) (.sl (.st (.pair (.int .i64) (.pair (.int .i64) (.pair (.int .i64) (.int .i64))))))))))))))) wf74 siz74 := gd_st Tryz.underlying74 (by kernel_rfl) (gdf_cons (k := .int .i64) (k' := .pair .str (.pair (.int .i64) (.sl (.st (.pair (.int .i64) (.pair (.int .i64) (.pair (.int .i64) (.sl (.st (.pair (.int .i64) (.pair (.int .i64) (.pair (.int .i64) (.int .i64))))))))))))) (wf := wf3) (siz := siz3) (wf' := (fun (y : (ByteArray × (Int × (List (Int × (Int × (Int × (List (Int × (Int × (Int × Int))))))))))) => wf9 y.1 ∧ (fun (y : (Int × (List (Int × (Int × (Int × (List (Int × (Int × (Int × Int)))))))))) => wf3 y.1 ∧ wf23 y.2) y.2)) (siz' := (fun (y : (ByteArray × (Int × (List (Int × (Int × (Int × (List (Int × (Int × (Int × Int))))))))))) => siz9 y.1 + (fun (y : (Int × (List (Int × (Int × (Int × (List (Int × (Int × (Int × Int)))))))))) => siz3 y.1 + siz23 y.2) y.2)) rfl gd3 (gdf_cons (k := .str) (k' := .pair (.int .i64) (.sl (.st (.pair (.int .i64) (.pair (.int .i64) (.pair (.int .i64) (.sl (.st (.pair (.int .i64) (.pair (.int .i64) (.pair (.int .i64) (.int .i64)))))))))))) (wf := wf9) (siz := siz9) (wf' := (fun (y : (Int × (List (Int × (Int × (Int × (List (Int × (Int × (Int × Int)))))))))) => wf3 y.1 ∧ wf23 y.2)) (siz' := (fun (y : (Int × (List (Int × (Int × (Int × (List (Int × (Int × (Int × Int)))))))))) => siz3 y.1 + siz23 y.2)) rfl gd9 (gdf_cons (k := .int .i64) (k' := .sl (.st (.pair (.int .i64) (.pair (.int .i64) (.pair (.int .i64) (.sl (.st (.pair (.int .i64) (.pair (.int .i64) (.pair (.int .i64) (.int .i64))))))))))) (wf := wf3) (siz := siz3) (wf' := wf23) (siz' := siz23) rfl gd3 (gdf_one rfl gd23))))
abbrev wf22 : (List (Int × (ByteArray × (Int × (List (Int × (Int × (Int × (List (Int × (Int × (Int × Int)))))))))))) → Prop := (wfL (α := (Int × (ByteArray × (Int × (List (Int × (Int × (Int × (List (Int × (Int × (Int × Int)))))))))))) 56 wf74)
abbrev siz22 : (List (Int × (ByteArray × (Int × (List (Int × (Int × (Int × (List (Int × (Int × (Int × Int)))))))))))) → Nat := (sizL (α := (Int × (ByteArray × (Int × (List (Int × (Int × (Int × (List (Int × (Int × (Int × Int)))))))))))) siz74)
theorem gd22 : Gd Tryz.prog 22 (.sl (.st (.pair (.int .i64) (.pair .str (.pair (.int .i64) (.sl (.st (.pair (.int .i64) (.pair (.int .i64) (.pair (.int .i64) (.sl (.st (.pair (.int .i64) (.pair (.int .i64) (.pair (.int .i64) (.int .i64)))))))))))))))) wf22 siz22 := gd_sl (B := 56) Tryz.underlying22 (by kernel_rfl) (by kernel_rfl) (by decide) gd74
abbrev wf25 : (ByteArray × ((List (Int × (ByteArray × (Int × (List (Int × (Int × (Int × (List (Int × (Int × (Int × Int)))))))))))) × ((List (Int × (Int × (Int × (List (Int × (Int × (Int × Int)))))))) × ((List (Int × (Int × (Int × (List (Int × (Int × (Int × Int)))))))) × (List (Int × (Int × (Int × (List (Int × (Int × (Int × Int)))))))))))) → Prop := (fun (y : (ByteArray × ((List (Int × (ByteArray × (Int × (List (Int × (Int × (Int × (List (Int × (Int × (Int × Int)))))))))))) × ((List (Int × (Int × (Int × (List (Int × (Int × (Int × Int)))))))) × ((List (Int × (Int × (Int × (List (Int × (Int × (Int × Int)))))))) × (List (Int × (Int × (Int × (List (Int × (Int × (Int × Int))))))))))))) => wf9 y.1 ∧ (fun (y : ((List (Int × (ByteArray × (Int × (List (Int × (Int × (Int × (List (Int × (Int × (Int × Int)))))))))))) × ((List (Int × (Int × (Int × (List (Int × (Int × (Int × Int)))))))) × ((List (Int × (Int × (Int × (List (Int × (Int × (Int × Int)))))))) × (List (Int × (Int × (Int × (List (Int × (Int × (Int × Int)))))))))))) => wf22 y.1 ∧ (fun (y : ((List (Int × (Int × (Int × (List (Int × (Int × (Int × Int)))))))) × ((List (Int × (Int × (Int × (List (Int × (Int × (Int × Int)))))))) × (List (Int × (Int × (Int × (List (Int × (Int × (Int × Int))))))))))) => wf23 y.1 ∧ (fun (y : ((List (Int × (Int × (Int × (List (Int × (Int × (Int × Int)))))))) × (List (Int × (Int × (Int × (List (Int × (Int × (Int × Int)))))))))) => wf23 y.1 ∧ wf23 y.2) y.2) y.2) y.2)
abbrev siz25 : (ByteArray × ((List (Int × (ByteArray × (Int × (List (Int × (Int × (Int × (List (Int × (Int × (Int × Int)))))))))))) × ((List (Int × (Int × (Int × (List (Int × (Int × (Int × Int)))))))) × ((List (Int × (Int × (Int × (List (Int × (Int × (Int × Int)))))))) × (List (Int × (Int × (Int × (List (Int × (Int × (Int × Int)))))))))))) → Nat := (fun (y : (ByteArray × ((List (Int × (ByteArray × (Int × (List (Int × (Int × (Int × (List (Int × (Int × (Int × Int)))))))))))) × ((List (Int × (Int × (Int × (List (Int × (Int × (Int × Int)))))))) × ((List (Int × (Int × (Int × (List (Int × (Int × (Int × Int)))))))) × (List (Int × (Int × (Int × (List (Int × (Int × (Int × Int))))))))))))) => siz9 y.1 + (fun (y : ((List (Int × (ByteArray × (Int × (List (Int × (Int × (Int × (List (Int × (Int × (Int × Int)))))))))))) × ((List (Int × (Int × (Int × (List (Int × (Int × (Int × Int)))))))) × ((List (Int × (Int × (Int × (List (Int × (Int × (Int × Int)))))))) × (List (Int × (Int × (Int × (List (Int × (Int × (Int × Int)))))))))))) => siz22 y.1 + (fun (y : ((List (Int × (Int × (Int × (List (Int × (Int × (Int × Int)))))))) × ((List (Int × (Int × (Int × (List (Int × (Int × (Int × Int)))))))) × (List (Int × (Int × (Int × (List (Int × (Int × (Int × Int))))))))))) => siz23 y.1 + (fun (y : ((List (Int × (Int × (Int × (List (Int × (Int × (Int × Int)))))))) × (List (Int × (Int × (Int × (List (Int × (Int × (Int × Int)))))))))) => siz23 y.1 + siz23 y.2) y.2) y.2) y.2)
theorem gd25 : Gd Tryz.prog 25 (.st (.pair .str (.pair (.sl (.st (.pair (.int .i64) (.pair .str (.pair (.int .i64) (.sl (.st (.pair (.int .i64) (.pair (.int .i64) (.pair (.int .i64) (.sl (.st (.pair (.int .i64) (.pair (.int .i64) (.pair (.int .i64) (.int .i64)))))))))))))))) (.pair (.sl (.st (.pair (.int .i64) (.pair (.int .i64) (.pair (.int .i64) (.sl (.st (.pair (.int .i64) (.pair (.int .i64) (.pair (.int .i64) (.int .i64))))))))))) (.pair (.sl (.st (.pair (.int .i64) (.pair (.int .i64) (.pair (.int .i64) (.sl (.st (.pair (.int .i64) (.pair (.int .i64) (.pair (.int .i64) (.int .i64))))))))))) (.sl (.st (.pair (.int .i64) (.pair (.int .i64) (.pair (.int .i64) (.sl (.st (.pair (.int .i64) (.pair (.int .i64) (.pair (.int .i64) (.int .i64)))))))))))))))) wf25 siz25 := gd_st Tryz.underlying25 (by kernel_rfl) (gdf_cons (k := .str) (k' := .pair (.sl (.st (.pair (.int .i64) (.pair .str (.pair (.int .i64) (.sl (.st (.pair (.int .i64) (.pair (.int .i64) (.pair (.int .i64) (.sl (.st (.pair (.int .i64) (.pair (.int .i64) (.pair (.int .i64) (.int .i64)))))))))))))))) (.pair (.sl (.st (.pair (.int .i64) (.pair (.int .i64) (.pair (.int .i64) (.sl (.st (.pair (.int .i64) (.pair (.int .i64) (.pair (.int .i64) (.int .i64))))))))))) (.pair (.sl (.st (.pair (.int .i64) (.pair (.int .i64) (.pair (.int .i64) (.sl (.st (.pair (.int .i64) (.pair (.int .i64) (.pair (.int .i64) (.int .i64))))))))))) (.sl (.st (.pair (.int .i64) (.pair (.int .i64) (.pair (.int .i64) (.sl (.st (.pair (.int .i64) (.pair (.int .i64) (.pair (.int .i64) (.int .i64)))))))))))))) (wf := wf9) (siz := siz9) (wf' := (fun (y : ((List (Int × (ByteArray × (Int × (List (Int × (Int × (Int × (List (Int × (Int × (Int × Int)))))))))))) × ((List (Int × (Int × (Int × (List (Int × (Int × (Int × Int)))))))) × ((List (Int × (Int × (Int × (List (Int × (Int × (Int × Int)))))))) × (List (Int × (Int × (Int × (List (Int × (Int × (Int × Int)))))))))))) => wf22 y.1 ∧ (fun (y : ((List (Int × (Int × (Int × (List (Int × (Int × (Int × Int)))))))) × ((List (Int × (Int × (Int × (List (Int × (Int × (Int × Int)))))))) × (List (Int × (Int × (Int × (List (Int × (Int × (Int × Int))))))))))) => wf23 y.1 ∧ (fun (y : ((List (Int × (Int × (Int × (List (Int × (Int × (Int × Int)))))))) × (List (Int × (Int × (Int × (List (Int × (Int × (Int × Int)))))))))) => wf23 y.1 ∧ wf23 y.2) y.2) y.2)) (siz' := (fun (y : ((List (Int × (ByteArray × (Int × (List (Int × (Int × (Int × (List (Int × (Int × (Int × Int)))))))))))) × ((List (Int × (Int × (Int × (List (Int × (Int × (Int × Int)))))))) × ((List (Int × (Int × (Int × (List (Int × (Int × (Int × Int)))))))) × (List (Int × (Int × (Int × (List (Int × (Int × (Int × Int)))))))))))) => siz22 y.1 + (fun (y : ((List (Int × (Int × (Int × (List (Int × (Int × (Int × Int)))))))) × ((List (Int × (Int × (Int × (List (Int × (Int × (Int × Int)))))))) × (List (Int × (Int × (Int × (List (Int × (Int × (Int × Int))))))))))) => siz23 y.1 + (fun (y : ((List (Int × (Int × (Int × (List (Int × (Int × (Int × Int)))))))) × (List (Int × (Int × (Int × (List (Int × (Int × (Int × Int)))))))))) => siz23 y.1 + siz23 y.2) y.2) y.2)) rfl gd9 (gdf_cons (k := .sl (.st (.pair (.int .i64) (.pair .str (.pair (.int .i64) (.sl (.st (.pair (.int .i64) (.pair (.int .i64) (.pair (.int .i64) (.sl (.st (.pair (.int .i64) (.pair (.int .i64) (.pair (.int .i64) (.int .i64)))))))))))))))) (k' := .pair (.sl (.st (.pair (.int .i64) (.pair (.int .i64) (.pair (.int .i64) (.sl (.st (.pair (.int .i64) (.pair (.int .i64) (.pair (.int .i64) (.int .i64))))))))))) (.pair (.sl (.st (.pair (.int .i64) (.pair (.int .i64) (.pair (.int .i64) (.sl (.st (.pair (.int .i64) (.pair (.int .i64) (.pair (.int .i64) (.int .i64))))))))))) (.sl (.st (.pair (.int .i64) (.pair (.int .i64) (.pair (.int .i64) (.sl (.st (.pair (.int .i64) (.pair (.int .i64) (.pair (.int .i64) (.int .i64))))))))))))) (wf := wf22) (siz := siz22) (wf' := (fun (y : ((List (Int × (Int × (Int × (List (Int × (Int × (Int × Int)))))))) × ((List (Int × (Int × (Int × (List (Int × (Int × (Int × Int)))))))) × (List (Int × (Int × (Int × (List (Int × (Int × (Int × Int))))))))))) => wf23 y.1 ∧ (fun (y : ((List (Int × (Int × (Int × (List (Int × (Int × (Int × Int)))))))) × (List (Int × (Int × (Int × (List (Int × (Int × (Int × Int)))))))))) => wf23 y.1 ∧ wf23 y.2) y.2)) (siz' := (fun (y : ((List (Int × (Int × (Int × (List (Int × (Int × (Int × Int)))))))) × ((List (Int × (Int × (Int × (List (Int × (Int × (Int × Int)))))))) × (List (Int × (Int × (Int × (List (Int × (Int × (Int × Int))))))))))) => siz23 y.1 + (fun (y : ((List (Int × (Int × (Int × (List (Int × (Int × (Int × Int)))))))) × (List (Int × (Int × (Int × (List (Int × (Int × (Int × Int)))))))))) => siz23 y.1 + siz23 y.2) y.2)) rfl gd22 (gdf_cons (k := .sl (.st (.pair (.int .i64) (.pair (.int .i64) (.pair (.int .i64) (.sl (.st (.pair (.int .i64) (.pair (.int .i64) (.pair (.int .i64) (.int .i64))))))))))) (k' := .pair (.sl (.st (.pair (.int .i64) (.pair (.int .i64) (.pair (.int .i64) (.sl (.st (.pair (.int .i64) (.pair (.int .i64) (.pair (.int .i64) (.int .i64))))))))))) (.sl (.st (.pair (.int .i64) (.pair (.int .i64) (.pair (.int .i64) (.sl (.st (.pair (.int .i64) (.pair (.int .i64) (.pair (.int .i64) (.int .i64)))))))))))) (wf := wf23) (siz := siz23) (wf' := (fun (y : ((List (Int × (Int × (Int × (List (Int × (Int × (Int × Int)))))))) × (List (Int × (Int × (Int × (List (Int × (Int × (Int × Int)))))))))) => wf23 y.1 ∧ wf23 y.2)) (siz' := (fun (y : ((List (Int × (Int × (Int × (List (Int × (Int × (Int × Int)))))))) × (List (Int × (Int × (Int × (List (Int × (Int × (Int × Int)))))))))) => siz23 y.1 + siz23 y.2)) rfl gd23 (gdf_cons (k := .sl (.st (.pair (.int .i64) (.pair (.int .i64) (.pair (.int .i64) (.sl (.st (.pair (.int .i64) (.pair (.int .i64) (.pair (.int .i64) (.int .i64))))))))))) (k' := .sl (.st (.pair (.int .i64) (.pair (.int .i64) (.pair (.int .i64) (.sl (.st (.pair (.int .i64) (.pair (.int .i64) (.pair (.int .i64) (.int .i64))))))))))) (wf := wf23) (siz := siz23) (wf' := wf23) (siz' := siz23) rfl gd23 (gdf_one rfl gd23)))))
abbrev wf5 : Int → Prop := (fun (y : Int) => (Lit.int .u8 y).wf = true)
abbrev siz5 : Int → Nat := (fun _ => 1)
theorem gd5 : Gd Tryz.prog 5 (.int .u8) wf5 siz5 := gd_int Tryz.underlying5 (by kernel_rfl)
abbrev wf26 : (List Int) → Prop := (wfL (α := Int) 1 wf5)
abbrev siz26 : (List Int) → Nat := (sizL (α := Int) siz5)
theorem gd26 : Gd Tryz.prog 26 (.sl (.int .u8)) wf26 siz26 := gd_sl (B := 1) Tryz.underlying26 (by kernel_rfl) (by kernel_rfl) (by decide) gd5
abbrev wf272 : (ByteArray × Int) → Prop := (fun (y : (ByteArray × Int)) => wf9 y.1 ∧ wf3 y.2)
abbrev siz272 : (ByteArray × Int) → Nat := (fun (y : (ByteArray × Int)) => siz9 y.1 + siz3 y.2)
theorem gd272 : Gd Tryz.prog 272 (.st (.pair .str (.int .i64))) wf272 siz272 := gd_st Tryz.underlying272 (by kernel_rfl) (gdf_cons (k := .str) (k' := .int .i64) (wf := wf9) (siz := siz9) (wf' := wf3) (siz' := siz3) rfl gd9 (gdf_one rfl gd3))
abbrev wf27 : (List (ByteArray × Int)) → Prop := (wfL (α := (ByteArray × Int)) 24 wf272)
abbrev siz27 : (List (ByteArray × Int)) → Nat := (sizL (α := (ByteArray × Int)) siz272)
theorem gd27 : Gd Tryz.prog 27 (.sl (.st (.pair .str (.int .i64)))) wf27 siz27 := gd_sl (B := 24) Tryz.underlying27 (by kernel_rfl) (by kernel_rfl) (by decide) gd272
abbrev wf29 : (Int × ((List Int) × (List (ByteArray × Int)))) → Prop := (fun (y : (Int × ((List Int) × (List (ByteArray × Int))))) => wf3 y.1 ∧ (fun (y : ((List Int) × (List (ByteArray × Int)))) => wf26 y.1 ∧ wf27 y.2) y.2)
abbrev siz29 : (Int × ((List Int) × (List (ByteArray × Int)))) → Nat := (fun (y : (Int × ((List Int) × (List (ByteArray × Int))))) => siz3 y.1 + (fun (y : ((List Int) × (List (ByteArray × Int)))) => siz26 y.1 + siz27 y.2) y.2)
theorem gd29 : Gd Tryz.prog 29 (.st (.pair (.int .i64) (.pair (.sl (.int .u8)) (.sl (.st (.pair .str (.int .i64))))))) wf29 siz29 := gd_st Tryz.underlying29 (by kernel_rfl) (gdf_cons (k := .int .i64) (k' := .pair (.sl (.int .u8)) (.sl (.st (.pair .str (.int .i64))))) (wf := wf3) (siz := siz3) (wf' := (fun (y : ((List Int) × (List (ByteArray × Int)))) => wf26 y.1 ∧ wf27 y.2)) (siz' := (fun (y : ((List Int) × (List (ByteArray × Int)))) => siz26 y.1 + siz27 y.2)) rfl gd3 (gdf_cons (k := .sl (.int .u8)) (k' := .sl (.st (.pair .str (.int .i64)))) (wf := wf26) (siz := siz26) (wf' := wf27) (siz' := siz27) rfl gd26 (gdf_one rfl gd27)))
abbrev wf31 : (List Int) → Prop := (wfA (α := Int) 9 wf3)
abbrev siz31 : (List Int) → Nat := (sizA (α := Int) siz3)
theorem gd31 : Gd Tryz.prog 31 (.arr 9 (.int .i64)) wf31 siz31 := gd_arr Tryz.underlying31 (by kernel_rfl) gd3
set_option maxRecDepth 100000 in
set_option maxHeartbeats 1000000 in
theorem lifted (os : Os) (started : os.Started) (H : Type) (enc : TypeId × Value → H) :
    ReturnsInHanded {} Tryz.checked os 3 .any (Rows.transRunsSpec.pre6 enc Tryz.prog Tryz.f3 Rows.transRunsRow.domain false) (Rows.transRunsSpec.post enc Tryz.prog Tryz.f3 false true false false) := by
  refine returnsInHanded_of_change_sized (C := Tryz.checked) own started (by kernel_rfl) Tryz.func3
    (ChangeSpec.witness6 (enc := enc) (C := Tryz.checked) false ⟨#[], #[.agg #[.string ByteArray.empty, .slice none 0 0, .slice none 0 0, .slice none 0 0, .slice none 0 0], .agg #[.int .i64 0, .slice none 0 0, .slice none 0 0], .int .i64 0, .agg #[.int .i64 0, .int .i64 0, .int .i64 0, .int .i64 0, .int .i64 0, .int .i64 0, .int .i64 0, .int .i64 0, .int .i64 0], .slice none 0 0], []⟩ 8 (by kernel_rfl) (by kernel_rfl) (by kernel_rfl) (by kernel_rfl)) ?_
  intro W base args ds gs before hval0 hW hcnd hsz0 _
  have hsz : (DataW.weightsEach Tryz.prog (Tryz.f3.params.toList ++ Rows.transRunsSpec.plain.varTypes Tryz.prog) (ds ++ gs)).all (· ≤ reachBytes) = true := hsz0
  have hval : ∀ (j : Nat) t v, Tryz.f3.params[j]? = some t → args[j]? = some v → Value.okWide Tryz.prog W .any base t v := hval0
  have hW' := hW
  obtain ⟨p, q, hA0, hV, rfl, hfz, hnd⟩ := hW
  have hA : DataW.TrodAll enc Tryz.prog W 0 (fun _ => true) true Tryz.f3.params.toList args.toList ds p := hA0
  rw [Tryz.params3] at hA hval hsz
  obtain ⟨v0, vs0, d0, ds0, p0, q0, hargs, rfl, rfl, h0, r0⟩ := trodAll_cons hA
  obtain ⟨v1, vs1, d1, ds1, p1, q1, rfl, rfl, rfl, h1, r1⟩ := trodAll_cons r0
  obtain ⟨v2, vs2, d2, ds2, p2, q2, rfl, rfl, rfl, h2, r2⟩ := trodAll_cons r1
  obtain ⟨v3, vs3, d3, ds3, p3, q3, rfl, rfl, rfl, h3, r3⟩ := trodAll_cons r2
  obtain ⟨v4, vs4, d4, ds4, p4, q4, rfl, rfl, rfl, h4, r4⟩ := trodAll_cons r3
  obtain ⟨rfl, rfl, rfl⟩ := trodAll_nil r4
  obtain rfl : args = #[v0, v1, v2, v3, v4] := by cases args; simp_all
  obtain ⟨rfl, rfl⟩ := trodVars_none hV
  have lt0 : ∀ x ∈ p0, x.block < W.heap.size := by obtain ⟨m, hm⟩ := h0; exact DataW.trod_lt m _ _ _ hm
  have wt0 := weights_at hsz 0 (t := 25) rfl rfl
  obtain ⟨a0, s0, wf0_, up0_⟩ := gd25.arg (hval 0 25 v0 rfl rfl) h0 wt0
  have lt1 : ∀ x ∈ p1, x.block < W.heap.size := by obtain ⟨m, hm⟩ := h1; exact DataW.trod_lt m _ _ _ hm
  have wt1 := weights_at hsz 1 (t := 29) rfl rfl
  obtain ⟨a1, s1, wf1_, up1_⟩ := gd29.arg (hval 1 29 v1 rfl rfl) h1 wt1
  have lt2 : ∀ x ∈ p2, x.block < W.heap.size := by obtain ⟨m, hm⟩ := h2; exact DataW.trod_lt m _ _ _ hm
  have wt2 := weights_at hsz 2 (t := 3) rfl rfl
  obtain ⟨a2, s2, wf2_, up2_⟩ := gd3.arg (hval 2 3 v2 rfl rfl) h2 wt2
  have lt3 : ∀ x ∈ p3, x.block < W.heap.size := by obtain ⟨m, hm⟩ := h3; exact DataW.trod_lt m _ _ _ hm
  have wt3 := weights_at hsz 3 (t := 31) rfl rfl
  obtain ⟨a3, s3, wf3_, up3_⟩ := gd31.arg (hval 3 31 v3 rfl rfl) h3 wt3
  have lt4 : ∀ x ∈ p4, x.block < W.heap.size := by obtain ⟨m, hm⟩ := h4; exact DataW.trod_lt m _ _ _ hm
  have wt4 := weights_at hsz 4 (t := 26) rfl rfl
  obtain ⟨a4, s4, wf4_, up4_⟩ := gd26.arg (hval 4 26 v4 rfl rfl) h4 wt4
  clear hA0 hval0 hsz0 hsz
  obtain ⟨k, h⟩ := Tr.transRuns a0 a1 a2 a3 a4 wf0_ wf1_ wf2_ wf3_ wf4_
  refine (law_calls (TransRuns3.ok k) (ds := (a0, a1, a2, a3, a4)) h (args := #[v0, v1, v2, v3, v4]) (W := W) (.cons (s0 _) (.cons (s1 _) (.cons (s2 _) (.cons (s3 _) (.cons (s4 _) (.nil))))))).mono fun e W' ⟨he, bel0⟩ => ?_
  have bel : Below W.heap.size W W' := bel0
  subst he
  exact ⟨_, rfl, _, _, _, [], _, [], hW', trodAll_mk1 (shut_bool Tryz.underlying4 _), (trodAll_cons_mk (Below.trod laidOut (by kernel_rfl) (of_decide_eq_true (by kernel_rfl)) h0 bel lt0) (trodAll_cons_mk (Below.trod laidOut (by kernel_rfl) (of_decide_eq_true (by kernel_rfl)) h1 bel lt1) (trodAll_cons_mk (Below.trod laidOut (by kernel_rfl) (of_decide_eq_true (by kernel_rfl)) h2 bel lt2) (trodAll_cons_mk (Below.trod laidOut (by kernel_rfl) (of_decide_eq_true (by kernel_rfl)) h3 bel lt3) (trodAll_cons_mk (Below.trod laidOut (by kernel_rfl) (of_decide_eq_true (by kernel_rfl)) h4 bel lt4) (trodAll_mk0)))))), rfl, bel.frame _, fun h => by cases h⟩
theorem over : Rows.transRunsRow.holds Tryz.pinned (OpenSpec.ofChange Rows.transRunsSpec) :=
  OpenClaim.holds_of_wide 3 Tryz.f3 rfl rfl rfl rfl rfl rfl rfl ⟨rfl, rfl, rfl, rfl, rfl⟩ rfl rfl rfl rfl rfl (by kernel_rfl) Tryz.func3 (by kernel_rfl)
    (of_decide_eq_true (by kernel_rfl)) (by unfold Func.isWrapper; first | (rw [if_pos (by decide +kernel)]; kernel_rfl) | (rw [if_neg (by decide +kernel)]; exact ⟨rfl, rfl⟩))
    (fun os started H enc _ => lifted os started H enc)
theorem proved : Rows.TransRunsSaid := over
#print axioms proved
end Go.Proofs.YtofendipdfepoaaGreat.transRuns
namespace Go.Proofs.YtofendipdfepoaaGreat
theorem transRuns_holds : Rows.TransRunsSaid := transRuns.proved
end Go.Proofs.YtofendipdfepoaaGreat
