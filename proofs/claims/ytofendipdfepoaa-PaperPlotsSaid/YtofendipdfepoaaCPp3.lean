/- Merged texts of one claim: a Go law, its functions without memory, and the plain law. The law returns true for every input; conditions: as the row says. -/
import Derived.Test.YtofendipdfepoaaRows
import Derived.WalkKit
import Derived.Lib.SlBytesConst
import Derived.Deep.QuietTactic
import Derived.BigQuiet
import Derived.Laws.Append
import Derived.Laws.BytesString
import Derived.Shelf.LaysM
import Derived.Shelf.SlSortCmp.NoneTotal
import Derived.Shelf.Small.Strs
import Derived.Test.YtofendipdfepoaaProg
import Derived.Test.YtofendipdfepoaaChecked
import Derived.KernelRfl
import Derived.ChangeArms
import Derived.OpenShut
import Derived.SizedLaws
import Derived.Deep.Slices
import Derived.Below
import Derived.ProofKit
import Derived.ShutString
import Derived.ChangeOld
import Derived.Test.YtofendipdfepoaaCPp0
import Derived.Test.YtofendipdfepoaaCPp1
import Derived.Test.YtofendipdfepoaaCPp2
/- The fact about paper, by hand. -/
set_option linter.unusedVariables false
set_option maxRecDepth 100000
namespace Go.Proofs.Ytofendipdfepoaa.Pp
open Go Go.RowKit Go.Proofs.Ytofendipdfepoaa.Gp

theorem app_nil {P : Program} (t e : TypeId) (i : TypeInfo) (z : Value) (ht : P.underlying t = some (.slice e)) (hi : P.info? e = some i) (hz : i.zero = some z) (hs : i.size = 1) (hb : i.bytes ≤ 1000) (w : World) (v : Value) (b : Nat) (hv : w.cell? ⟨b, 0, none⟩ = some v) :
    ∃ w2 cap, (Builtin.append_ #[t, t] t #[.slice none 0 0, .slice (some ⟨b, 0, none⟩) 1 1]).run P w = .ok (.slice (some ⟨w.heap.size, 0, none⟩) 1 cap) w2 ∧ w2.cell? ⟨w.heap.size, 0, none⟩ = some v ∧ w2.frozen? ⟨w.heap.size, 0, none⟩ = false ∧ Below w.heap.size w w2 ∧ w.heap.size < w2.heap.size ∧ 1 ≤ cap := by
  have hrun := run_append_nil (P := P) w t t e i z ht hi hz ⟨b, 0, none⟩ 1 1 [v] (by rw [hs]; rfl) (fun j u hj => by
    match j, hj with
    | 0, hj =>
      have hj : v = u := by simpa using hj
      rw [← hj]
      exact hv) (by decide) (by decide) (by omega)
  refine ⟨_, _, hrun, ?_, ?_, ⟨rfl, rfl, rfl, ?_, fun k hk => ?_⟩, ?_, grownCap_ge w 1 0 e⟩
  · have hg := heap_alloc_new w.drew (.cells ([v].toArray ++ Builtin.zeroCells z.cells (grownCap w 1 0 e - 1)) e)
    unfold World.cell?
    simp only [show (w.drew.alloc (.cells ([v].toArray ++ Builtin.zeroCells z.cells (grownCap w 1 0 e - 1)) e)).heap[w.heap.size]? = _ from hg]
    show (#[v] ++ Builtin.zeroCells z.cells (grownCap w 1 0 e - 1))[0]? = some v
    rw [Array.getElem?_append_left (by simp)]
    rfl
  · have hg := heap_alloc_new w.drew (.cells ([v].toArray ++ Builtin.zeroCells z.cells (grownCap w 1 0 e - 1)) e)
    unfold World.frozen?
    simp only [show (w.drew.alloc (.cells ([v].toArray ++ Builtin.zeroCells z.cells (grownCap w 1 0 e - 1)) e)).heap[w.heap.size]? = _ from hg]
    simp
  · show w.heap.size ≤ (w.heap.push _).size
    rw [Array.size_push]; omega
  · exact heap_alloc_old w.drew _ hk
  · show w.heap.size < (w.heap.push _).size
    rw [Array.size_push]; omega
theorem cell_keep {w w' : World} {b : Nat} (i : Nat) (h : w'.heap[b]? = w.heap[b]?) : w'.cell? ⟨b, i, none⟩ = w.cell? ⟨b, i, none⟩ ∧ w'.frozen? ⟨b, i, none⟩ = w.frozen? ⟨b, i, none⟩ := by
  unfold World.cell? World.frozen?
  simp only [h]
  exact ⟨trivial, trivial⟩
theorem lt_of_cell {w : World} {b i : Nat} {v : Value} (h : w.cell? ⟨b, i, none⟩ = some v) : b < w.heap.size := by
  unfold World.cell? at h
  rcases Nat.lt_or_ge b w.heap.size with h' | h'
  · exact h'
  · simp [Array.getElem?_eq_none h'] at h
def AppOk (t : TypeId) : Prop := ∀ (w : World) (v : Value) (b : Nat), w.cell? ⟨b, 0, none⟩ = some v → ∃ w2 cap, (Builtin.append_ #[t, t] t #[.slice none 0 0, .slice (some ⟨b, 0, none⟩) 1 1]).run Try.prog w = .ok (.slice (some ⟨w.heap.size, 0, none⟩) 1 cap) w2 ∧ w2.cell? ⟨w.heap.size, 0, none⟩ = some v ∧ w2.frozen? ⟨w.heap.size, 0, none⟩ = false ∧ Below w.heap.size w w2 ∧ w.heap.size < w2.heap.size ∧ 1 ≤ cap
theorem app5 : AppOk 40 := fun w v b hv => app_nil (P := Try.prog) 40 5 Try.t5 (.int .u8 0) Try.underlying40 (by kernel_rfl) rfl rfl (by decide) w v b hv
theorem app40 : AppOk 160 := fun w v b hv => app_nil (P := Try.prog) 160 40 Try.t40 (.slice none 0 0) Try.underlying160 (by kernel_rfl) rfl rfl (by decide) w v b hv
theorem app9 : AppOk 105 := fun w v b hv => app_nil (P := Try.prog) 105 9 Try.t9 (.string ⟨#[]⟩) Try.underlying105 (by kernel_rfl) rfl rfl (by decide) w v b hv
theorem wpList_app0 {t : TypeId} (ok : AppOk t) {w : World} {ops : Array Oper} {rest : List Oper} {o : Oper} {a : Act} {Q : Exit → Act → World → Prop} (hgd : o.guard = none) (d s : Operand)
    (ho : o.op = .call { callee := .builtin .append, args := #[d, s], argTypes := #[t, t] }) (hty : o.type = t) (v : Value) (b : Nat) (hd : a.eval d = .slice none 0 0) (hs : a.eval s = .slice (some ⟨b, 0, none⟩) 1 1) (hv : w.cell? ⟨b, 0, none⟩ = some v)
    (h : ∀ w2 cap, (w2.cell? ⟨w.heap.size, 0, none⟩ = some v ∧ w2.frozen? ⟨w.heap.size, 0, none⟩ = false ∧ Below w.heap.size w w2 ∧ w.heap.size < w2.heap.size ∧ 1 ≤ cap) → wpList Try.prog ops Q rest (a.put o.dst (.slice (some ⟨w.heap.size, 0, none⟩) 1 cap)) w2) : wpList Try.prog ops Q (o :: rest) a w := by
  refine wpList_plain hgd fun K hK => ?_
  obtain ⟨w2, cap, hrun, hf⟩ := ok w v b hv
  unfold Oper.wp
  simp only [execOp, ho, resolve, invoke, builtin, hty]
  simp [hd, hs, hrun, Result.andThen]
  exact hK _ _ (h w2 cap hf)
theorem keep_alloc (w : World) (o : Obj) {i : Nat} (h : i < w.heap.size) : (w.alloc o).heap[i]? = w.heap[i]? := by
  show (w.heap.push o)[i]? = _
  rw [Array.getElem?_push, if_neg (by omega)]
theorem new_cell (w : World) (v : Value) (t : TypeId) : (w.alloc (.cells #[v] t)).cell? ⟨w.heap.size, 0, none⟩ = some v := by
  have hg : (w.alloc (.cells #[v] t)).heap[w.heap.size]? = some (.cells #[v] t) := by
    show (w.heap.push _)[w.heap.size]? = _
    rw [Array.getElem?_push, if_pos rfl]
  unfold World.cell?
  simp only [hg]
  rfl
set_option maxHeartbeats 4000000 in
theorem put_nil (W : World) : Calls Try.prog 97 #[.slice none 0 0, .int .i64 0, .int .i64 0, .int .u8 97] W fun e w' => ∃ g h cap cap2, e = .returned (.slice (some ⟨g, 0, none⟩) 1 cap) ∧ W.heap.size ≤ g ∧ W.heap.size ≤ h ∧ g ≠ h ∧ w'.cell? ⟨g, 0, none⟩ = some (.slice (some ⟨h, 0, none⟩) 1 cap2) ∧ w'.frozen? ⟨g, 0, none⟩ = false ∧ w'.cell? ⟨h, 0, none⟩ = some (.int .u8 97) ∧ w'.frozen? ⟨h, 0, none⟩ = false ∧ Below W.heap.size W w' := by
  go_enter Try.func97, Try.ntmps97
  go_wp2
  refine wp_loop_rounds 2 ?_
  rw [rounds_succ]
  go_wp2_with (at_builtin; refine wpList_app0 app40 rfl (.tmp 13) (.tmp 14) rfl rfl _ W.heap.size rfl rfl (new_cell W _ _) ?_)
  intro w2 cap h1 h2 h3 h4 h5
  go_wp2
  rw [rounds_succ]
  go_wp2
  refine wp_loop_rounds 2 ?_
  rw [rounds_succ]
  go_wp2_with (at_builtin; refine wpList_app0 app5 rfl (.tmp 28) (.tmp 29) rfl rfl _ w2.heap.size rfl rfl (new_cell w2 _ _) ?_)
  intro w3 cap3 k1 k2 k3 k4 k5
  have g1 : w3.cell? ⟨W.heap.size + 1, 0, none⟩ = some (.slice none 0 0) := by
    rw [(cell_keep 0 (k3.block (W.heap.size + 1) (by omega))).1, (cell_keep 0 (keep_alloc w2 _ h4)).1]
    exact h1
  have g2 : w3.frozen? ⟨W.heap.size + 1, 0, none⟩ = false := by
    rw [(cell_keep 0 (k3.block (W.heap.size + 1) (by omega))).2, (cell_keep 0 (keep_alloc w2 _ h4)).2]
    exact h2
  have hne : ¬ W.heap.size + 1 = w2.heap.size + 1 := by omega
  go_wp2
  rw [rounds_succ]
  go_wp2
  go_ret
  have hB1 : Below W.heap.size W w2 := ((Below.refl _ W).alloc (Nat.le_refl _) _).trans (h3.mono (Nat.le_succ _))
  have hB2 : Below W.heap.size W w3 := hB1.trans (((Below.refl _ w2).alloc (by omega) _).trans (k3.mono (by omega)))
  refine ⟨W.heap.size + 1, w2.heap.size + 1, cap, cap3, rfl, by omega, by omega, hne, ?_, ?_, ?_, ?_, ?_⟩
  · rw [World.cell?_setCell_other _ _ _ _ (by first | (simp; done) | (simp; omega)), World.cell?_setCell_same _ _ _ g1]
  · rw [World.frozen?_setCell, World.frozen?_setCell]; exact g2
  · exact World.cell?_setCell_same _ _ _ (by rw [World.cell?_setCell_other _ _ _ _ (by first | (simp; done) | (simp; omega))]; exact k1)
  · rw [World.frozen?_setCell, World.frozen?_setCell]; exact k2
  · exact (hB2.setCell (by show W.heap.size ≤ W.heap.size + 1; omega) _).setCell (by show W.heap.size ≤ w2.heap.size + 1; omega) _
set_option maxHeartbeats 4000000 in
theorem put_one (W : World) (g h cap cap2 : Nat) (c1 : W.cell? ⟨g, 0, none⟩ = some (.slice (some ⟨h, 0, none⟩) 1 cap2)) (c2 : W.cell? ⟨h, 0, none⟩ = some (.int .u8 97)) (f2 : W.frozen? ⟨h, 0, none⟩ = false) :
    Calls Try.prog 97 #[.slice (some ⟨g, 0, none⟩) 1 cap, .int .i64 0, .int .i64 0, .int .u8 95] W fun e w' => e = .returned (.slice (some ⟨g, 0, none⟩) 1 cap) ∧ w' = W.setCell ⟨h, 0, none⟩ (.int .u8 95) := by
  go_enter Try.func97, Try.ntmps97
  go_wp2
  refine wp_loop_rounds 1 ?_
  rw [rounds_succ]
  go_wp2
  refine wp_loop_rounds 1 ?_
  rw [rounds_succ]
  go_wp2
  go_ret
  exact ⟨rfl, rfl⟩
set_option maxHeartbeats 4000000 in
theorem trim_one (W : World) (h cap2 : Nat) (c2 : W.cell? ⟨h, 0, none⟩ = some (.int .u8 95)) :
    Calls Try.prog 98 #[.slice (some ⟨h, 0, none⟩) 1 cap2] W fun e w' => e = .returned (.slice (some ⟨h, 0, none⟩) 1 cap2) ∧ w' = W := by
  go_enter Try.func98, Try.ntmps98
  go_wp2
  refine wp_loop_rounds 1 ?_
  rw [rounds_succ]
  go_wp2
  go_ret
  exact ⟨rfl, rfl⟩
theorem four_cell (w : World) (cs : Array Value) (t : TypeId) (fr : Nat × Nat) (i : Nat) {v : Value} (h : cs[i]? = some v) : (w.alloc (.cells cs t fr)).cell? ⟨w.heap.size, i, none⟩ = some v := by
  have hg : (w.alloc (.cells cs t fr)).heap[w.heap.size]? = some (.cells cs t fr) := by
    show (w.heap.push _)[w.heap.size]? = _
    rw [Array.getElem?_push, if_pos rfl]
  unfold World.cell?
  simp only [hg]
  exact h
theorem new_cell1 (w : World) (v : Value) (t : TypeId) (cs : Array Value) (n : Nat) (hn : w.heap.size = n) : ((w.alloc (.cells (#[v] ++ cs) t)).drew).cell? ⟨n, 0, none⟩ = some v := by
  subst hn
  have hg : ((w.alloc (.cells (#[v] ++ cs) t)).drew).heap[w.heap.size]? = some (.cells (#[v] ++ cs) t) := by
    show (w.heap.push _)[w.heap.size]? = _
    rw [Array.getElem?_push, if_pos rfl]
  unfold World.cell?
  simp only [hg]
  show (#[v] ++ cs)[0]? = some v
  rw [Array.getElem?_append_left (by simp)]
  rfl
theorem conv_one (w : World) (h cap : Nat) (t1 : w.cell? ⟨h, 0, none⟩ = some (.int .u8 95)) : (convert 40 9 (.slice (some ⟨h, 0, none⟩) 1 cap)).run Try.prog w = .ok (.string ⟨#[95]⟩) w := by
  rw [run_convert_bytes_string (P := Try.prog) w 40 9 5 (some ⟨h, 0, none⟩) 1 cap Try.underlying40 Try.underlying5 Try.underlying9]
  have hl : (loadCells ⟨h, 0, none⟩ 1).run Try.prog w = .ok ([(95 : Int)].map (Value.int .u8)).toArray w := by
    have := run_loadCells_list (P := Try.prog) w ⟨h, 0, none⟩ [Value.int .u8 95] (fun j v hj => by
      match j, hj with
      | 0, hj =>
        have hj : Value.int .u8 95 = v := by simpa using hj
        rw [← hj]
        exact t1)
    exact this
  exact run_bytesToString (P := Try.prog) w ⟨h, 0, none⟩ 1 cap [95] hl
set_option maxHeartbeats 8000000 in
theorem print_walk (W : World) (b : Nat) (d0 : W.cell? ⟨b, 0, none⟩ = some (.int .u8 97)) (d1 : W.cell? ⟨b, 1, none⟩ = some (.int .u8 13)) (d2 : W.cell? ⟨b, 2, none⟩ = some (.int .u8 95)) (d3 : W.cell? ⟨b, 3, none⟩ = some (.int .u8 10)) :
    Calls Try.prog 62 #[.slice (some ⟨b, 0, none⟩) 4 4] W fun e w' => ∃ r cap, e = .returned (.tuple #[.slice (some ⟨r, 0, none⟩) 1 cap, .int .i64 0]) ∧ w'.cell? ⟨r, 0, none⟩ = some (.string ⟨#[95]⟩) ∧ Below W.heap.size W w' := by
  have hb := lt_of_cell d0
  go_enter Try.func62, Try.ntmps62
  go_wp2
  refine wp_loop_rounds 5 ?_
  rw [rounds_succ]
  go_wp2_with (go_at_call 97; refine (put_nil W).mono ?_)
  rintro e w1 ⟨g, h, cap, cap2, rfl, hg, hh, hne, q1, q2, q3, q4, hB⟩
  have hk := fun i => (cell_keep i (hB.block b hb)).1
  rw [← hk] at d0 d1 d2 d3
  go_wp2
  rw [rounds_succ]
  go_wp2
  rw [rounds_succ]
  go_wp2_with (go_at_call 97; refine (put_one w1 g h cap cap2 q1 q3 q4).mono ?_)
  rintro e w2 ⟨rfl, rfl⟩
  have hbh : ¬ b = h := by omega
  have hhb : ¬ h = b := by omega
  have hgh : ¬ g = h := hne
  have hhg : ¬ h = g := fun e => hne e.symm
  go_wp2
  rw [rounds_succ]
  go_wp2
  rw [rounds_succ]
  go_wp2
  refine wp_loop_rounds 2 ?_
  rw [rounds_succ]
  have t1 : (w1.setCell ⟨h, 0, none⟩ (.int .u8 95)).cell? ⟨h, 0, none⟩ = some (.int .u8 95) := World.cell?_setCell_same _ _ _ q3
  go_wp2_with (go_at_call 98; refine (trim_one _ h cap2 t1).mono ?_)
  rintro e w3 ⟨rfl, rfl⟩
  have hcv : (convert 40 9 (.slice (some ⟨h, 0, none⟩) 1 cap2)).run Try.prog (w1.setCell ⟨h, 0, none⟩ (.int .u8 95)) = .ok (.string ⟨#[95]⟩) (w1.setCell ⟨h, 0, none⟩ (.int .u8 95)) := conv_one _ h cap2 t1
  go_wp2_with (at_builtin; refine wpList_app0 app9 rfl (.tmp 77) (.tmp 81) rfl rfl _ (w1.setCell ⟨h, 0, none⟩ (.int .u8 95)).heap.size rfl rfl (new_cell _ _ _) ?_)
  have hsw : (w1.setCell ⟨h, 0, none⟩ (.int .u8 95)).heap.size = w1.heap.size := by simp [World.setCell]
  have hsz : ((w1.setCell ⟨h, 0, none⟩ (.int .u8 95)).alloc (.cells #[.string ⟨#[95]⟩] 9)).heap.size = w1.heap.size + 1 := by
    show (Array.push _ _).size = _
    rw [Array.size_push, hsw]
  have k1 := new_cell1 ((w1.setCell ⟨h, 0, none⟩ (.int .u8 95)).alloc (.cells #[.string ⟨#[95]⟩] 9)) (.string ⟨#[95]⟩) 9 (Builtin.zeroCells #[.string ⟨#[]⟩] ((Question.appendCap 1 0 9).cut (w1.tape w1.drawn (Question.appendCap 1 0 9)) - 1)) (w1.heap.size + 1) hsz
  have k2 : Below W.heap.size W (((w1.setCell ⟨h, 0, none⟩ (.int .u8 95)).alloc (.cells #[.string ⟨#[95]⟩] 9)).alloc (.cells (#[.string ⟨#[95]⟩] ++ (Builtin.zeroCells #[.string ⟨#[]⟩] ((Question.appendCap 1 0 9).cut (w1.tape w1.drawn (Question.appendCap 1 0 9)) - 1))) 9)).drew := by
    have b1 : Below W.heap.size W (w1.setCell ⟨h, 0, none⟩ (.int .u8 95)) := hB.setCell hh _
    have b2 := b1.trans (((Below.refl _ (w1.setCell ⟨h, 0, none⟩ (.int .u8 95))).alloc (by rw [hsw]; exact hB.size) (.cells #[.string ⟨#[95]⟩] 9)).alloc (by rw [hsz]; exact Nat.le_succ_of_le hB.size) (.cells (#[.string ⟨#[95]⟩] ++ (Builtin.zeroCells #[.string ⟨#[]⟩] ((Question.appendCap 1 0 9).cut (w1.tape w1.drawn (Question.appendCap 1 0 9)) - 1))) 9))
    exact ⟨b2.1, b2.2, b2.3, b2.4, b2.5⟩
  rw [rounds_succ]
  go_wp2
  refine wp_loop_rounds 1 ?_
  rw [rounds_succ]
  go_wp2
  go_ret2
  exact ⟨_, _, rfl, k1, k2⟩
set_option maxHeartbeats 4000000 in
theorem equal_one (W : World) (g h cap cap2 : Nat) (c1 : W.cell? ⟨g, 0, none⟩ = some (.string ⟨#[95]⟩)) (c2 : W.cell? ⟨h, 0, none⟩ = some (.string ⟨#[95]⟩)) :
    Calls Try.prog 63 #[.slice (some ⟨g, 0, none⟩) 1 cap, .slice (some ⟨h, 0, none⟩) 1 cap2] W fun e w' => e = .returned (.bool true) ∧ Below W.heap.size W w' := by
  go_enter Try.func63, Try.ntmps63
  go_wp2
  refine wp_loop_rounds 2 ?_
  rw [rounds_succ]
  go_wp2
  go_quiet (fail)
  simp only [Exit.then]
  go_at_K
  go_wp2
  rw [rounds_succ]
  go_wp2
  go_ret
  exact ⟨rfl, ⟨rfl, rfl, rfl, Nat.le_refl _, fun _ _ => rfl⟩⟩
set_option maxHeartbeats 4000000 in
theorem printed_walk (W : World) : Calls Try.prog 23 #[] W fun e w' => e = .returned (.bool true) ∧ Below W.heap.size W w' := by
  go_enter Try.func23, Try.ntmps23
  have d0 : (W.alloc (.cells #[.int .u8 97, .int .u8 13, .int .u8 95, .int .u8 10] 5 (4, 5))).cell? ⟨W.heap.size, 0, none⟩ = some (.int .u8 97) := four_cell W _ _ _ _ rfl
  have d1 : (W.alloc (.cells #[.int .u8 97, .int .u8 13, .int .u8 95, .int .u8 10] 5 (4, 5))).cell? ⟨W.heap.size, 1, none⟩ = some (.int .u8 13) := four_cell W _ _ _ _ rfl
  have d2 : (W.alloc (.cells #[.int .u8 97, .int .u8 13, .int .u8 95, .int .u8 10] 5 (4, 5))).cell? ⟨W.heap.size, 2, none⟩ = some (.int .u8 95) := four_cell W _ _ _ _ rfl
  have d3 : (W.alloc (.cells #[.int .u8 97, .int .u8 13, .int .u8 95, .int .u8 10] 5 (4, 5))).cell? ⟨W.heap.size, 3, none⟩ = some (.int .u8 10) := four_cell W _ _ _ _ rfl
  have hcv := Lib.run_convert_bytes_const (P := Try.prog) W 40 5 #[.int .u8 97, .int .u8 13, .int .u8 95, .int .u8 10] 4 4 Try.underlying40 Try.underlying5
  go_wp2_with (go_at_call 62; refine (print_walk _ W.heap.size d0 d1 d2 d3).mono ?_)
  rintro e w1 ⟨r, cap, rfl, q1, hB⟩
  have hq := new_cell w1 (.string ⟨#[95]⟩) 9
  have q2 := q1
  rw [← (cell_keep 0 (keep_alloc w1 (.cells #[.string ⟨#[95]⟩] 9) (lt_of_cell q1))).1] at q2
  go_wp2_with (go_at_call 63; refine (equal_one _ r w1.heap.size cap 1 q2 hq).mono ?_)
  rintro e w2 ⟨rfl, hB2⟩
  go_wp2
  go_ret
  have hB0 : Below W.heap.size W (W.alloc (.cells #[.int .u8 97, .int .u8 13, .int .u8 95, .int .u8 10] 5 (4, 5))) := (Below.refl _ W).alloc (Nat.le_refl _) _
  have hB1 : Below W.heap.size W w1 := hB0.trans (hB.mono hB0.size)
  have hB3 : Below W.heap.size W (w1.alloc (.cells #[.string ⟨#[95]⟩] 9)) := hB1.alloc hB1.size _
  exact ⟨rfl, hB3.trans (hB2.mono hB3.size)⟩
def printedS (f : Nat) : Sig := { f := f, params := [], objs := [], res := .bool, outs := [], fix := [], run := fun _ (_ : Unit) _ => some (true, ()) }
theorem printed_sound (k : Nat) : SoundAt Try.prog k (printedS 23) := by
  refine pure_at rfl rfl rfl ⟨Try.f23, codeOf Try.f23, rfl, by kernel_rfl, rfl⟩ (fun (ds : Unit) os q hq xs w H L hx hp hl => ?_)
  have hq : some (true, ()) = some q := hq
  cases hq
  have hx' : xs = #[] := by
    have hx2 : SRs H L ([] : List Val) xs.toList := hx
    generalize hl' : xs.toList = l at hx2
    cases hx2
    rw [← Array.toArray_toList (xs := xs), hl']
  subst hx'
  refine (printed_walk w).mono ?_
  rintro e w' ⟨rfl, hB⟩
  exact ⟨_, rfl, fun H' L' => (SR_iff (k := .bool) (d := true) rfl rfl).2 ⟨_, rfl, rfl⟩, hB⟩
end Go.Proofs.Ytofendipdfepoaa.Pp

/-
  DERIVED: THE SHELF's CONTRACTS AT THIS DUMP, IN PLAIN WORDS (tools/lay-plain.mjs out of 'YtofendipdfepoaaShelf.lean', which tools/lay-shelf.mjs wrote): THE SAME DECLARATIONS UNDER THE SAME NAMES: 'import', 'namespace', 'open', 'def', 'theorem' AND NOTHING ELSE: no command of the shelf's: FOR A HAND-IN. Each laying: the table of numbers ('.._ren') and one theorem, a field a fact of the dump's own or the kernel's comparison; each contract: ONE APPLICATION.
-/
namespace Go.Proofs
open Go.Shelf
end Go.Proofs

/- Given contracts. -/
set_option linter.unusedVariables false
set_option maxRecDepth 100000
noncomputable section
namespace Go.Proofs.Ytofendipdfepoaa.Pp
open Go Go.Proofs.Ytofendipdfepoaa.Gp
def printed23 (k : Nat) : Option (Bool × Unit) := some (true, ())
def printed23.S : Sig := printedS 23
theorem printed23.ok (k : Nat) : SoundAt Try.prog k printed23.S := printed_sound k
end Go.Proofs.Ytofendipdfepoaa.Pp

/- Go functions as plain Lean functions, and their contracts. -/
set_option linter.unusedVariables false
set_option maxRecDepth 100000
noncomputable section
namespace Go.Proofs.Ytofendipdfepoaa.Pp
open Go Go.Proofs.Ytofendipdfepoaa.Gp
def Plotted22.l0 (k : Nat) (x : Int) (y : Int) (down : Bool) (t26 : Int) (t32 : Int) (t47 : Int) : (Unit × (Int × tY14)) → Option ((Unit × (Int × tY14)) ⊕ tY12)
  | (_, k_, t16_2) =>
    cond (cond (decide (k_ ≤ t47)) down false)
      ((near61 k (w64 ((w64 ((w64 t32) - y)) * k_)) (mxI t47 1)).bind fun t65 =>
      (near61 k (w64 ((w64 ((w64 t26) - x)) * k_)) (mxI t47 1)).bind fun t77 =>
      let t78 : Int := (w64 ((w64 ((w64 (64 * (w64 (y + t65.1)))) + x)) + t77.1))
      (rd t16_2 t78).bind fun _ =>
      (rd t16_2 t78).bind fun _ =>
      some (Sum.inl ((), (w64 (k_ + 1)), (List.set t16_2 (Int.toNat t78) true))))
      (some (Sum.inr ((), t16_2)))
def Plotted22.l1 (k : Nat) (b : (List Int)) : tY8 → Option (tY8 ⊕ tY5)
  | (_, x, y, down, i, t16) =>
    cond (decide (i < (List.length b : Int)))
      ((rd b i).bind fun t87 =>
      Option.bind
        (cond (t87 == 117)
          (some (Sum.inl ((), x, y, false, i, t16)))
          ((rd b i).bind fun t93 =>
          Option.bind
            (cond (t93 == 100)
              (let t100 : Int := (w64 ((w64 (64 * y)) + x))
              (rd t16 t100).bind fun _ =>
              (rd t16 t100).bind fun _ =>
              some (Sum.inl ((), x, y, true, i, (List.set t16 (Int.toNat t100) true))))
              ((rd b i).bind fun t105 =>
              cond (t105 != 109)
                (some (Sum.inr (Sum.inr (Sum.inr (Sum.inr (([], 3, ()), ()))))))
                (cond (decide ((w64 (i + 2)) ≥ (List.length b : Int)))
                  (some (Sum.inr (Sum.inr (Sum.inr (Sum.inr (([], 13, ()), ()))))))
                  ((rd b (w64 (i + 1))).bind fun t118 =>
                  Option.bind (cond (decide (t118 > 63))
                    (some true)
                    ((rd b (w64 (i + 2))).bind fun t125 =>
                    some (decide (t125 > 63)))) fun t128 =>
                  cond t128
                    (some (Sum.inr (Sum.inr (Sum.inr (Sum.inr (([], 19, ()), ()))))))
                    ((rd b (w64 (i + 1))).bind fun t26 =>
                    (rd b (w64 (i + 2))).bind fun t32 =>
                    Option.bind
                      (loopN (Plotted22.l0 k x y down t26 t32 (mxI (mxI (mxI (w64 ((w64 t26) - x)) (w64 (x - (w64 t26)))) (w64 ((w64 t32) - y))) (w64 (y - (w64 t32))))) k ((), 0, t16) : Option tY12) fun ((_, t16_4) : tY12) =>
                    some (Sum.inl ((), (w64 t26), (w64 t32), down, (w64 (i + 2)), t16_4)))))) : Option (tY8 ⊕ tY0)) (joined fun ((_, x_1, y_1, down_1, i_1, t16_5) : tY8) =>
            some (Sum.inl ((), x_1, y_1, down_1, i_1, t16_5)))) : Option tY0) (joined fun ((_, x_2, y_2, down_2, i_2, t16_6) : tY8) =>
        some (Sum.inl ((), x_2, y_2, down_2, (w64 (i_2 + 1)), t16_6))))
      (some (Sum.inr (Sum.inl ((), t16))))
def Plotted22 (k : Nat) (b : (List Int)) : Option tY10 :=
  cond (decide ((List.length b : Int) > 20000))
    (some (([], 2, ()), ()))
    ((if 0 ≤ 4096 ∧ 4096 ≤ 4096 ∧ 4096 * 1 ≤ 140737488355328 then some () else none).bind fun _ =>
    Option.bind
      (loopN (Plotted22.l1 k b) k ((), 0, 0, false, 0, (List.replicate (Int.toNat 4096) false)) : Option tY5) (joined fun ((_, t16_7) : tY12) =>
      some ((t16_7, 0, ()), ())))
def Plotted22.A : Ann := { conds := [(5505040, ⟨[(4, .ms 0), (5, .int .i64), (6, .int .i64), (7, .bool), (8, .int .i64)], [(0, .row .bool)], 1, [], 680564733840658329700577668655424217068⟩), (5898258, ⟨[(4, .ms 0), (5, .int .i64), (6, .int .i64), (7, .bool), (8, .int .i64)], [(0, .row .bool)], 1, [], 680564733762668107225598711336779390956⟩)], blocks := [(0, ⟨[(4, .ms 0)], [(0, .row .bool)], 1, [], 680564733841876926926749214863536300012⟩), (3, ⟨[(4, .ms 0)], [(0, .row .bool)], 1, [], 1208925819333154197999616⟩)], loops := [(6, ⟨[(4, .ms 0), (5, .int .i64), (6, .int .i64), (7, .bool), (8, .int .i64)], [(0, .row .bool)], 1, [], 680564733841876926926749214863536300012⟩), (11, ⟨[(4, .ms 0), (12, .int .i64)], [(0, .row .bool)], 1, [], 1208925819333154197999616⟩)], keeps := [], orders := [(8, [(0, .strong), (1, .strong), (2, .strong), (3, .strong), (4, .strong), (5, .strong), (6, .strong), (7, .strong), (8, .strong), (9, .strong), (10, .strong), (11, .strong), (12, .strong), (13, .strong)])] }
def Plotted22.S : Sig := { f := 22, params := [.sl (.int .u8)], objs := [], res := .tup kY0, outs := [], fix := [], run := fun k ds os => Plotted22 k ds }
def Plotted22.G : List Sig := [near61.S]
theorem Plotted22.eq (k : Nat) : ∀ ds os, Plotted22.S.run k ds os = runF ⟨types, Plotted22.G, Plotted22.A, k, 0, []⟩ Try.f22 (codeOf Try.f22) Plotted22.S.params Plotted22.S.objs Plotted22.S.res Plotted22.S.outs ds os := by
  intro ds os; kernel_rfl
theorem Plotted22.dr : DrOk Try.prog Plotted22.A (codeOf Try.f22) := ⟨by kernel_rfl, by kernel_rfl⟩
theorem Plotted22.ok (k : Nat) : SoundAt Try.prog k Plotted22.S :=
  runF_sound (X := ⟨types, Plotted22.G, Plotted22.A, k, 0, []⟩) types_ok (mem_all (⟨near61.ok k, trivial⟩)) (fn := Try.f22) (c := codeOf Try.f22) rfl (by kernel_rfl) rfl rfl Plotted22.dr (Plotted22.eq k)

def Equal24.l0 (k : Nat) (s1 : tY14) (s2 : tY14) : Int → Option (Int ⊕ (Unit ⊕ (Bool × Unit)))
  | t13 =>
    cond (decide (t13 < (List.length s1 : Int)))
      ((rd s1 t13).bind fun t18 =>
      (rd s2 t13).bind fun t22 =>
      cond (xor true (t18 == t22))
        (some (Sum.inr (Sum.inr (false, ()))))
        (some (Sum.inl (w64 (t13 + 1)))))
      (some (Sum.inr (Sum.inl ())))
def Equal24 (k : Nat) (s1 : tY14) (s2 : tY14) : Option (Bool × Unit) :=
  cond ((List.length s1 : Int) != (List.length s2 : Int))
    (some (false, ()))
    (Option.bind
      (loopN (Equal24.l0 k s1 s2) k 0 : Option (Unit ⊕ (Bool × Unit))) (joined fun (_ : Unit) =>
      some (true, ())))
def Equal24.A : Ann := { conds := [], blocks := [(0, ⟨[], [], 0, [], 67100720⟩)], loops := [(4, ⟨[(13, .int .i64)], [], 0, [], 67100720⟩)], keeps := [], orders := [(6, [(0, .strong), (1, .strong), (2, .strong), (3, .strong), (4, .strong), (5, .strong), (6, .strong), (7, .strong), (8, .strong)])] }
def Equal24.S : Sig := { f := 24, params := [.sl .bool, .sl .bool], objs := [], res := .bool, outs := [], fix := [], run := fun k ds os => Equal24 k ds.1 ds.2 }
def Equal24.G : List Sig := []
theorem Equal24.eq (k : Nat) : ∀ ds os, Equal24.S.run k ds os = runF ⟨types, Equal24.G, Equal24.A, k, 0, []⟩ Try.f24 (codeOf Try.f24) Equal24.S.params Equal24.S.objs Equal24.S.res Equal24.S.outs ds os := by
  intro ds os; kernel_rfl
theorem Equal24.dr : DrOk Try.prog Equal24.A (codeOf Try.f24) := ⟨by kernel_rfl, by kernel_rfl⟩
theorem Equal24.ok (k : Nat) : SoundAt Try.prog k Equal24.S :=
  runF_sound (X := ⟨types, Equal24.G, Equal24.A, k, 0, []⟩) types_ok (fun s hs => absurd hs List.not_mem_nil) (fn := Try.f24) (c := codeOf Try.f24) rfl (by kernel_rfl) rfl rfl Equal24.dr (Equal24.eq k)

def Ink25.l0 (k : Nat) (l : tY14) : tY13 → Option (tY13 ⊕ Int)
  | (n, t8) =>
    cond (decide (t8 < (List.length l : Int)))
      ((rd l t8).bind fun t10 =>
      Option.bind
        (cond t10
          (some (w64 (n + 1)))
          (some n) : Option Int) fun (n_1 : Int) =>
      some (Sum.inl (n_1, (w64 (t8 + 1)))))
      (some (Sum.inr n))
def Ink25 (k : Nat) (l : tY14) : Option (Int × Unit) :=
  Option.bind
    (loopN (Ink25.l0 k l) k (0, 0) : Option Int) fun (n_2 : Int) =>
  some (n_2, ())
def Ink25.A : Ann := { conds := [(786438, ⟨[(3, .int .i64)], [], 0, [], 24584⟩)], blocks := [(0, ⟨[(3, .int .i64)], [], 0, [], 65320⟩)], loops := [(3, ⟨[(3, .int .i64), (8, .int .i64)], [], 0, [], 65320⟩)], keeps := [], orders := [] }
def Ink25.S : Sig := { f := 25, params := [.sl .bool], objs := [], res := .int .i64, outs := [], fix := [], run := fun k ds os => Ink25 k ds }
def Ink25.G : List Sig := []
theorem Ink25.eq (k : Nat) : ∀ ds os, Ink25.S.run k ds os = runF ⟨types, Ink25.G, Ink25.A, k, 0, []⟩ Try.f25 (codeOf Try.f25) Ink25.S.params Ink25.S.objs Ink25.S.res Ink25.S.outs ds os := by
  intro ds os; kernel_rfl
theorem Ink25.dr : DrOk Try.prog Ink25.A (codeOf Try.f25) := ⟨by kernel_rfl, by kernel_rfl⟩
theorem Ink25.ok (k : Nat) : SoundAt Try.prog k Ink25.S :=
  runF_sound (X := ⟨types, Ink25.G, Ink25.A, k, 0, []⟩) types_ok (fun s hs => absurd hs List.not_mem_nil) (fn := Try.f25) (c := codeOf Try.f25) rfl (by kernel_rfl) rfl rfl Ink25.dr (Ink25.eq k)

def PaperPlots4.l0 (k : Nat) (t17 : tY10) : tY13 → Option (tY13 ⊕ Int)
  | (n, t22) =>
    cond (decide (t22 < (List.length t17.1.1 : Int)))
      ((rd t17.1.1 t22).bind fun t24 =>
      Option.bind
        (cond t24
          (some (w64 (n + 1)))
          (some n) : Option Int) fun (n_1 : Int) =>
      some (Sum.inl (n_1, (w64 (t22 + 1)))))
      (some (Sum.inr n))
def PaperPlots4 (k : Nat) (b : (List Int)) : Option (Bool × Unit) :=
  (Plot21 k b).bind fun t12 =>
  (Plotted22 k b).bind fun t17 =>
  Option.bind
    (loopN (PaperPlots4.l0 k t17) k (0, 0) : Option Int) fun (n_2 : Int) =>
  (printed23 k).bind fun t30 =>
  Option.bind (cond (cond t30.1 (t12.1.2.1 == t17.1.2.1) false)
    ((Equal24 k t12.1.1 t17.1.1).bind fun t39 =>
    some t39.1)
    (some false)) fun t40 =>
  Option.bind (cond t40
    ((Ink25 k t17.1.1).bind fun t43 =>
    some (t43.1 == n_2))
    (some false)) fun t46 =>
  some (t46, ())
def PaperPlots4.A : Ann := { conds := [(1703944, ⟨[(7, .int .i64)], [], 0, [], 402653312⟩)], blocks := [(0, ⟨[(7, .int .i64)], [], 0, [], 1069548160⟩)], loops := [(5, ⟨[(7, .int .i64), (22, .int .i64)], [], 0, [], 1069548160⟩)], keeps := [], orders := [] }
def PaperPlots4.S : Sig := { f := 4, params := [.sl (.int .u8)], objs := [], res := .bool, outs := [], fix := [], run := fun k ds os => PaperPlots4 k ds }
def PaperPlots4.G : List Sig := [Equal24.S, Ink25.S, Plot21.S, Plotted22.S, printed23.S]
theorem PaperPlots4.eq (k : Nat) : ∀ ds os, PaperPlots4.S.run k ds os = runF ⟨types, PaperPlots4.G, PaperPlots4.A, k, 0, []⟩ Try.f4 (codeOf Try.f4) PaperPlots4.S.params PaperPlots4.S.objs PaperPlots4.S.res PaperPlots4.S.outs ds os := by
  intro ds os; kernel_rfl
theorem PaperPlots4.dr : DrOk Try.prog PaperPlots4.A (codeOf Try.f4) := ⟨by kernel_rfl, by kernel_rfl⟩
theorem PaperPlots4.ok (k : Nat) : SoundAt Try.prog k PaperPlots4.S :=
  runF_sound (X := ⟨types, PaperPlots4.G, PaperPlots4.A, k, 0, []⟩) types_ok (mem_all (⟨Equal24.ok k, ⟨Ink25.ok k, ⟨Plot21.ok k, ⟨Plotted22.ok k, ⟨printed23.ok k, trivial⟩⟩⟩⟩⟩)) (fn := Try.f4) (c := codeOf Try.f4) rfl (by kernel_rfl) rfl rfl PaperPlots4.dr (PaperPlots4.eq k)
end Go.Proofs.Ytofendipdfepoaa.Pp

/- What is left of a Go function, in the long run: rounds, loops, lists, numbers. No program in sight. -/
set_option linter.unusedVariables false
noncomputable section
namespace Go.Proofs.Ytofendipdfepoaa.Gp
open Go

/-- from some fuel on, f answers v -/
def Ev {α : Type} (f : Nat → Option α) (v : α) : Prop := ∃ n, ∀ k, n ≤ k → f k = some v
/-- .. a loop, from some fuel on and with enough rounds -/
def Lp {S R : Type} (body : Nat → S → Option (S ⊕ R)) (s : S) (r : R) : Prop := ∃ n m, ∀ k, n ≤ k → ∀ j, m ≤ j → loopN (body k) j s = some r

theorem Ev.ex {α : Type} {f : Nat → Option α} {v : α} (h : Ev f v) : ∃ k, f k = some v := by
  obtain ⟨n, h⟩ := h
  exact ⟨n, h n (Nat.le_refl _)⟩
theorem Ev.now {α : Type} (v : α) : Ev (fun _ => some v) v := ⟨0, fun _ _ => rfl⟩
theorem Ev.now' {α : Type} {v w : α} (h : v = w) : Ev (fun _ => some v) w := h ▸ .now v
/-- what hangs on no fuel -/
theorem Ev.const {α : Type} {o : Option α} {v : α} (h : o = some v) : Ev (fun _ => o) v := ⟨0, fun _ _ => h⟩
theorem Ev.to {α : Type} {f : Nat → Option α} {v w : α} (h : Ev f v) (e : v = w) : Ev f w := e ▸ h
theorem Ev.of {α : Type} {f g : Nat → Option α} {v : α} (h : Ev f v) (e : ∀ k, g k = f k) : Ev g v := by
  obtain ⟨n, h⟩ := h
  exact ⟨n, fun k hk => (e k).trans (h k hk)⟩
theorem Ev.bind {α β : Type} {f : Nat → Option α} {g : Nat → α → Option β} {a : α} {b : β} (h : Ev f a) (h2 : Ev (fun k => g k a) b) : Ev (fun k => (f k).bind (g k)) b := by
  obtain ⟨n, h⟩ := h
  obtain ⟨m, h2⟩ := h2
  refine ⟨max n m, fun k hk => ?_⟩
  show (f k).bind (g k) = _
  rw [h k (by omega)]
  exact h2 k (by omega)
/-- a value that hangs on no fuel -/
theorem Ev.val {α β : Type} {o : Option α} {g : Nat → α → Option β} {a : α} {b : β} (h : o = some a) (h2 : Ev (fun k => g k a) b) : Ev (fun k => o.bind (g k)) b := by
  subst h
  exact h2
theorem Ev.joinL {S α β : Type} {f : Nat → Option (α ⊕ β)} {g : Nat → α → Option β} {a : α} {b : β} (h : Ev f (.inl a)) (h2 : Ev (fun k => g k a) b) : Ev (fun k => (f k).bind (joined (g k))) b :=
  Ev.bind (g := fun k => joined (g k)) h h2
theorem Ev.joinR {α β : Type} {f : Nat → Option (α ⊕ β)} {g : Nat → α → Option β} {b : β} (h : Ev f (.inr b)) : Ev (fun k => (f k).bind (joined (g k))) b :=
  Ev.bind (g := fun k => joined (g k)) h (.now b)
theorem Ev.yes {α : Type} {c : Bool} {f g : Nat → Option α} {v : α} (hc : c = true) (h : Ev f v) : Ev (fun k => cond c (f k) (g k)) v := by rw [hc]; exact h
theorem Ev.no {α : Type} {c : Bool} {f g : Nat → Option α} {v : α} (hc : c = false) (h : Ev g v) : Ev (fun k => cond c (f k) (g k)) v := by rw [hc]; exact h
theorem Ev.map {α β : Type} {f : Nat → Option α} {g : α → β} {a : α} (h : Ev f a) : Ev (fun k => (f k).map g) (g a) := by
  obtain ⟨n, h⟩ := h
  exact ⟨n, fun k hk => by show (f k).map g = _; rw [h k hk]; rfl⟩

theorem Lp.ev {S R : Type} {body : Nat → S → Option (S ⊕ R)} {s : S} {r : R} (h : Lp body s r) : Ev (fun k => loopN (body k) k s) r := by
  obtain ⟨n, m, h⟩ := h
  exact ⟨max n m, fun k hk => h k (by omega) k (by omega)⟩
theorem Lp.done {S R : Type} {body : Nat → S → Option (S ⊕ R)} {s : S} {r : R} (h : Ev (fun k => body k s) (.inr r)) : Lp body s r := by
  obtain ⟨n, h⟩ := h
  refine ⟨n, 1, fun k hk j hj => ?_⟩
  obtain ⟨j, rfl⟩ : ∃ i, j = i + 1 := ⟨j - 1, by omega⟩
  show (body k s).bind _ = _
  rw [show body k s = _ from h k hk]
  rfl
theorem Lp.step {S R : Type} {body : Nat → S → Option (S ⊕ R)} {s s' : S} {r : R} (h : Ev (fun k => body k s) (.inl s')) (h2 : Lp body s' r) : Lp body s r := by
  obtain ⟨n, h⟩ := h
  obtain ⟨n2, m, h2⟩ := h2
  refine ⟨max n n2, m + 1, fun k hk j hj => ?_⟩
  obtain ⟨j, rfl⟩ : ∃ i, j = i + 1 := ⟨j - 1, by omega⟩
  show (body k s).bind _ = _
  rw [show body k s = _ from h k (by omega)]
  exact h2 k (by omega) j (by omega)

/-- a walk over a list, that may end early -/
def walk {α β R : Type} (f : β → α → β ⊕ R) (fin : β → R) : List α → β → R
  | [], b => fin b
  | x :: l, b => match f b x with | .inl b' => walk f fin l b' | .inr r => r
theorem walk_cons {α β R : Type} {f : β → α → β ⊕ R} {fin : β → R} {x : α} {l : List α} {b : β} : walk f fin (x :: l) b = match f b x with | .inl b' => walk f fin l b' | .inr r => r := rfl

/-- a loop over a list by its index: 'st b i' is the loop's state -/
theorem Lp.walk {α β S R : Type} {body : Nat → S → Option (S ⊕ R)} (l : List α) (st : β → Int → S) (f : β → α → β ⊕ R) (fin : β → R) (Inv : Nat → β → Prop)
    (hs : ∀ i x b, l[i]? = some x → Inv i b → Ev (fun k => body k (st b i)) (match f b x with | .inl b' => .inl (st b' ((i : Int) + 1)) | .inr r => .inr r) ∧ ∀ b', f b x = .inl b' → Inv (i + 1) b')
    (hd : ∀ b, Inv l.length b → Ev (fun k => body k (st b l.length)) (.inr (fin b))) {b : β} (h0 : Inv 0 b) : Lp body (st b 0) (walk f fin l b) := by
  have key : ∀ (suf pre : List α) (b : β), l = pre ++ suf → Inv pre.length b → Lp body (st b (pre.length : Int)) (Gp.walk f fin suf b) := by
    intro suf
    induction suf with
    | nil =>
      intro pre b h hi
      rw [List.append_nil] at h
      subst h
      exact .done (hd b hi)
    | cons x suf ih =>
      intro pre b h hi
      have hx : l[pre.length]? = some x := by rw [h]; simp
      obtain ⟨h1, h2⟩ := hs pre.length x b hx hi
      rw [walk_cons]
      cases hf : f b x with
      | inr r => rw [hf] at h1; exact .done h1
      | inl b' =>
        rw [hf] at h1
        refine .step h1 ?_
        have := ih (pre ++ [x]) b' (by rw [h]; simp) (by simpa using h2 b' hf)
        simpa using this
  exact key l [] b rfl h0
/-- .. that always goes to its end -/
theorem Lp.fold {α β S R : Type} {body : Nat → S → Option (S ⊕ R)} (l : List α) (st : β → Int → S) (f : β → α → β) (fin : β → R) (Inv : Nat → β → Prop)
    (hs : ∀ i x b, l[i]? = some x → Inv i b → Ev (fun k => body k (st b i)) (.inl (st (f b x) ((i : Int) + 1))) ∧ Inv (i + 1) (f b x))
    (hd : ∀ b, Inv l.length b → Ev (fun k => body k (st b l.length)) (.inr (fin b))) {b : β} (h0 : Inv 0 b) : Lp body (st b 0) (fin (l.foldl f b)) := by
  have := Lp.walk (body := body) l st (fun b x => .inl (f b x)) fin Inv (fun i x b hx hi => ⟨(hs i x b hx hi).1, fun b' hb => by cases hb; exact (hs i x b hx hi).2⟩) hd h0
  have e : ∀ (l : List α) (b : β), Gp.walk (fun b x => (.inl (f b x) : β ⊕ R)) fin l b = fin (l.foldl f b) := by
    intro l
    induction l with
    | nil => intro b; rfl
    | cons x l ih => intro b; rw [walk_cons, List.foldl_cons]; exact ih _
  rwa [e] at this
/-- a loop that counts from 0 to n -/
theorem Lp.count {β S R : Type} {body : Nat → S → Option (S ⊕ R)} (n : Nat) (st : β → Int → S) (f : β → Nat → β) (fin : β → R) (Inv : Nat → β → Prop)
    (hs : ∀ i b, i < n → Inv i b → Ev (fun k => body k (st b i)) (.inl (st (f b i) ((i : Int) + 1))) ∧ Inv (i + 1) (f b i))
    (hd : ∀ b, Inv n b → Ev (fun k => body k (st b n)) (.inr (fin b))) {b : β} (h0 : Inv 0 b) : Lp body (st b 0) (fin ((List.range n).foldl f b)) := by
  refine Lp.fold (List.range n) st f fin Inv (fun i x b hx hi => ?_) (fun b hb => ?_) h0
  · obtain ⟨h1, h2⟩ := List.getElem?_eq_some_iff.1 hx
    rw [List.getElem_range] at h2
    subst h2
    exact hs i b (by simpa using h1) hi
  · rw [List.length_range] at hb ⊢
    exact hd b hb

-- numbers
theorem w64_id {x : Int} (h0 : -9223372036854775808 ≤ x) (h1 : x ≤ 9223372036854775807) : w64 x = x := by
  show IntKind.wrap .i64 x = x
  have e : (2 : Int) ^ (64 - 1) = 9223372036854775808 := by decide
  have e2 : (2 : Int) ^ 64 = 18446744073709551616 := by decide
  simp only [IntKind.wrap, IntKind.signed, IntKind.bits, Bool.true_and, decide_eq_true_eq, e, e2]
  split <;> omega
theorem w64_succ {n : Nat} (h : n < 9223372036854775807) : w64 ((n : Int) + 1) = ((n + 1 : Nat) : Int) := by rw [w64_id (by omega) (by omega)]; omega
theorem rd_nat {α : Type} (l : List α) (i : Nat) : rd l (i : Int) = l[i]? := by
  unfold rd
  rw [if_pos (by omega)]
  rfl
theorem rd_some' {α : Type} {l : List α} {i : Nat} {x : α} (h : l[i]? = some x) : rd l (i : Int) = some x := by rw [rd_nat, h]
theorem rd_at {α : Type} {l : List α} {z : Int} {i : Nat} {x : α} (hz : z = i) (h : l[i]? = some x) : rd l z = some x := by rw [hz, rd_nat, h]
theorem room_ok {n b : Nat} (h : n * b ≤ 140737488355328) : room n b = true := Nat.ble_eq_true_of_le h
theorem get_lt {α : Type} {l : List α} {i : Nat} {x : α} (h : l[i]? = some x) : i < l.length := (List.getElem?_eq_some_iff.1 h).1
theorem slc_ok {α : Type} {l : List α} {a b : Nat} (h1 : a ≤ b) (h2 : b ≤ l.length) : slc l (a : Int) (b : Int) = some ((l.take b).drop a) := by
  unfold slc
  rw [if_pos ⟨by omega, by omega, by omega⟩]
  simp
theorem slc_tail {α : Type} {l : List α} {a : Nat} (h1 : a ≤ l.length) : slc l (a : Int) (l.length : Int) = some (l.drop a) := by
  rw [slc_ok h1 (Nat.le_refl _), List.take_length]
end Go.Proofs.Ytofendipdfepoaa.Gp

/- Paper: the points of a line, as the program and as the reference find them. -/
set_option linter.unusedVariables false
set_option maxRecDepth 100000
noncomputable section
namespace Go.Proofs.Ytofendipdfepoaa.Pp
open Go Go.Proofs.Ytofendipdfepoaa.Gp

/-- the k-th of n steps towards d, rounded -/
def qk (n d k : Int) : Int := (2 * (d * k) + n) / (2 * n)
theorem prod_bd {d k : Int} (h1 : -63 ≤ d) (h2 : d ≤ 63) (k0 : 0 ≤ k) (k1 : k ≤ 63) : -3969 ≤ d * k ∧ d * k ≤ 3969 := by
  have a1 : -63 * k ≤ d * k := Int.mul_le_mul_of_nonneg_right h1 k0
  have a2 : d * k ≤ 63 * k := Int.mul_le_mul_of_nonneg_right h2 k0
  constructor <;> omega
theorem qk_bd {n d k : Int} (hn : 0 < n) (k0 : 0 ≤ k) (hk : k ≤ n) : (0 ≤ d → 0 ≤ qk n d k ∧ qk n d k ≤ d) ∧ (d < 0 → d ≤ qk n d k ∧ qk n d k ≤ 0) := by
  have hp : (0 : Int) < 2 * n := by omega
  unfold qk
  constructor
  · intro hd
    have h1 : 0 ≤ d * k := Int.mul_nonneg hd k0
    have h2 : d * k ≤ d * n := Int.mul_le_mul_of_nonneg_left hk hd
    refine ⟨(Int.le_ediv_iff_mul_le hp).2 (by omega), Int.lt_add_one_iff.1 ((Int.ediv_lt_iff_lt_mul hp).2 ?_)⟩
    rw [Int.add_mul, show d * (2 * n) = 2 * (d * n) by rw [← Int.mul_assoc, Int.mul_comm d 2, Int.mul_assoc]]
    omega
  · intro hd
    have h1 : d * k ≤ 0 := Int.mul_nonpos_of_nonpos_of_nonneg (by omega) k0
    have h2 : d * n ≤ d * k := Int.mul_le_mul_of_nonpos_left (by omega) hk
    refine ⟨(Int.le_ediv_iff_mul_le hp).2 ?_, Int.lt_add_one_iff.1 ((Int.ediv_lt_iff_lt_mul hp).2 (by omega))⟩
    rw [show d * (2 * n) = 2 * (d * n) by rw [← Int.mul_assoc, Int.mul_comm d 2, Int.mul_assoc]]
    omega
theorem qk_zero {n d : Int} (hn : 0 < n) : qk n d 0 = 0 := by
  unfold qk
  rw [Int.mul_zero]
  exact Int.ediv_eq_zero_of_lt (by omega) (by omega)
theorem floor_eq {t m : Int} (hm : 0 < m) (hb : -100000 ≤ t ∧ t ≤ 100000) (hm2 : m ≤ 100000) :
    ∃ q z : Int, quoI .i64 t m = q ∧ Int.tmod t m = z ∧ (if t < 0 ∧ z ≠ 0 then q - 1 else q) = t / m ∧ -100000 ≤ q ∧ q ≤ 100000 := by
  have hq : -100000 ≤ t.tdiv m ∧ t.tdiv m ≤ 100000 := by
    have h1 := Int.natAbs_tdiv_le_natAbs t m
    omega
  refine ⟨t.tdiv m, t.tmod m, w64_id (by omega) (by omega), rfl, ?_, hq.1, hq.2⟩
  by_cases h0 : 0 ≤ t
  · rw [if_neg (by omega), Int.tdiv_eq_ediv_of_nonneg h0]
  · by_cases hd : m ∣ t
    · rw [if_neg (fun h => h.2 (Int.dvd_iff_tmod_eq_zero.1 hd)), Int.tdiv_eq_ediv, if_pos (.inr hd)]
      omega
    · rw [if_pos ⟨by omega, fun h => hd (Int.dvd_iff_tmod_eq_zero.2 h)⟩, Int.tdiv_eq_ediv, if_neg (by rintro (h | h); exact h0 h; exact hd h), Int.sign_eq_one_of_pos hm]
      omega
theorem line196_eq (k : Nat) {f t n o : Int} (hf : 0 ≤ f ∧ f ≤ 63) (ht : 0 ≤ t ∧ t ≤ 63) (hn : 0 < n ∧ n ≤ 63) (ho : 0 ≤ o ∧ o ≤ n) :
    line196 k f t () n o = some (f + qk n (t - f) o, o) := by
  have hp := prod_bd (d := t - f) (k := o) (by omega) (by omega) ho.1 (by omega)
  have e1 : w64 (t - f) = t - f := w64_id (by omega) (by omega)
  have e2 : w64 (2 * (t - f)) = 2 * (t - f) := w64_id (by omega) (by omega)
  have e0 : 2 * (t - f) * o = 2 * ((t - f) * o) := Int.mul_assoc ..
  have e3 : w64 (2 * ((t - f) * o)) = 2 * ((t - f) * o) := w64_id (by omega) (by omega)
  have e4 : w64 (2 * ((t - f) * o) + n) = 2 * ((t - f) * o) + n := w64_id (by omega) (by omega)
  have e5 : w64 (2 * n) = 2 * n := w64_id (by omega) (by omega)
  obtain ⟨q, z, hq, hz, he0, hb1, hb2⟩ := floor_eq (t := 2 * ((t - f) * o) + n) (m := 2 * n) (by omega) (by omega) (by omega)
  have hk := qk_bd (n := n) (d := t - f) (k := o) hn.1 ho.1 ho.2
  have he : (if 2 * ((t - f) * o) + n < 0 ∧ z ≠ 0 then q - 1 else q) = qk n (t - f) o := he0
  clear he0
  have e6 : w64 (f + qk n (t - f) o) = f + qk n (t - f) o := w64_id (by omega) (by omega)
  have e7 : w64 (q - 1) = q - 1 := w64_id (by omega) (by omega)
  unfold line196
  simp only [e1, e2, e0, e3, e4, e5, hq, hz, if_neg (show ¬ 2 * n = 0 by omega), Option.bind_some]
  by_cases h : 2 * ((t - f) * o) + n < 0
  · rw [decide_eq_true h]
    by_cases h2 : z = 0
    · rw [if_neg (fun x => x.2 h2)] at he
      subst h2
      rw [← he] at e6 ⊢
      simp [e6]
    · rw [if_pos ⟨h, h2⟩] at he
      rw [show (z != 0) = true from bne_iff_ne.2 h2]
      rw [← he] at e6 ⊢
      simp [e6, e7]
  · rw [decide_eq_false h]
    rw [if_neg (fun x => h x.1)] at he
    rw [← he] at e6 ⊢
    simp [e6]
theorem near_ev {num den : Int} (hd : 0 < den ∧ den ≤ 63) (hb : -3969 ≤ num ∧ num ≤ 3969) (hl : -63 * den ≤ num) : Ev (fun k => near61 k num den) ((2 * num + den) / (2 * den), ()) := by
  have hp : (0 : Int) < 2 * den := by omega
  generalize hQ : (2 * num + den) / (2 * den) = Q
  have hlo : ∀ q : Int, q ≤ Q ↔ q * (2 * den) ≤ 2 * num + den := fun q => by rw [← hQ]; exact Int.le_ediv_iff_mul_le hp
  have hassoc : ∀ q : Int, q * (2 * den) = 2 * (q * den) := fun q => by rw [← Int.mul_assoc, Int.mul_comm q 2, Int.mul_assoc]
  have hsm : -1000 ≤ Q := (hlo _).2 (by omega)
  have hQ2 : Q ≤ 7938 := by
    refine Int.not_lt.1 fun h => ?_
    have := (hlo 7939).1 (by omega)
    omega
  have hlp : ∀ m : Nat, ∀ q : Int, Q = q + m → -1000 ≤ q → Gp.Lp (fun k => near61.l0 k num den) q Q := by
    intro m
    induction m with
    | zero =>
      intro q hq h0
      obtain rfl : Q = q := by omega
      have hpd : -1000 * den ≤ Q * den := Int.mul_le_mul_of_nonneg_right h0 (by omega)
      have hpd2 : Q * den ≤ 7938 * den := Int.mul_le_mul_of_nonneg_right hQ2 (by omega)
      have e1 : w64 (2 * num) = 2 * num := w64_id (by omega) (by omega)
      have e2 : w64 (2 * Q) = 2 * Q := w64_id (by omega) (by omega)
      have e3 : w64 (2 * Q + 1) = 2 * Q + 1 := w64_id (by omega) (by omega)
      have e4 : (2 * Q + 1) * den = 2 * (Q * den) + den := by rw [Int.add_mul, Int.mul_assoc, Int.one_mul]
      have e5 : w64 (2 * (Q * den) + den) = 2 * (Q * den) + den := w64_id (by omega) (by omega)
      have hn := mt (hlo (Q + 1)).2 (by omega)
      rw [hassoc, Int.add_mul, Int.one_mul] at hn
      refine .done (.of (.now _) fun k => ?_)
      unfold near61.l0
      simp only [e1, e2, e3, e4, e5]
      rw [decide_eq_false (by omega)]
      rfl
    | succ m ih =>
      intro q hq h0
      have hq2 : q ≤ 7938 := by omega
      have hpd : -1000 * den ≤ q * den := Int.mul_le_mul_of_nonneg_right h0 (by omega)
      have hpd2 : q * den ≤ 7938 * den := Int.mul_le_mul_of_nonneg_right hq2 (by omega)
      have e1 : w64 (2 * num) = 2 * num := w64_id (by omega) (by omega)
      have e2 : w64 (2 * q) = 2 * q := w64_id (by omega) (by omega)
      have e3 : w64 (2 * q + 1) = 2 * q + 1 := w64_id (by omega) (by omega)
      have e4 : (2 * q + 1) * den = 2 * (q * den) + den := by rw [Int.add_mul, Int.mul_assoc, Int.one_mul]
      have e5 : w64 (2 * (q * den) + den) = 2 * (q * den) + den := w64_id (by omega) (by omega)
      have e6 : w64 (q + 1) = q + 1 := w64_id (by omega) (by omega)
      have hn := (hlo (q + 1)).1 (by omega)
      rw [hassoc, Int.add_mul, Int.one_mul] at hn
      refine .step (.of (.now _) fun k => ?_) (ih (q + 1) (by omega) (by omega))
      unfold near61.l0
      simp only [e1, e2, e3, e4, e5, e6]
      rw [decide_eq_true (by omega)]
      rfl
  have h := hlp (Q + 1000).toNat (-1000) (by omega) (by omega)
  unfold near61
  exact .bind h.ev (.now _)
/-- how far two points lie apart -/
def far (a b : Int × Int) : Nat := max (b.1 - a.1).natAbs (b.2 - a.2).natAbs
def On (a : Int × Int) : Prop := (0 ≤ a.1 ∧ a.1 ≤ 63) ∧ (0 ≤ a.2 ∧ a.2 ≤ 63)
theorem far_le {a b : Int × Int} (ha : On a) (hb : On b) : far a b ≤ 63 := by
  unfold On at ha hb
  unfold far
  omega
/-- the k-th point between two -/
def pt (a b : Int × Int) (k : Nat) : Int × Int := (a.1 + qk (max (far a b) 1 : Nat) (b.1 - a.1) k, a.2 + qk (max (far a b) 1 : Nat) (b.2 - a.2) k)
theorem pt_zero (a b : Int × Int) : pt a b 0 = a := by
  have := fun d => qk_zero (n := (max (far a b) 1 : Nat)) (d := d) (by omega)
  unfold pt
  rw [show ((0 : Nat) : Int) = 0 from rfl, this, this]
  simp
theorem pt_on {a b : Int × Int} (ha : On a) (hb : On b) {k : Nat} (hk : k ≤ far a b) : On (pt a b k) := by
  have h := fun d => qk_bd (n := (max (far a b) 1 : Nat)) (d := d) (k := (k : Int)) (by omega) (by omega) (by omega)
  have h1 := h (b.1 - a.1)
  have h2 := h (b.2 - a.2)
  unfold On at ha hb ⊢
  unfold pt
  dsimp only
  omega
def pts (a b : Int × Int) : List (Int × Int) := (List.range (far a b + 1)).map (pt a b)
theorem abs_eq (k : Nat) {n : Int} (h : -100 ≤ n ∧ n ≤ 100) : abs95 k n = some ((n.natAbs : Int), ()) := by
  unfold abs95
  have : negI .i64 n = -n := by
    show IntKind.wrap .i64 (0 - n) = _
    exact (w64_id (x := 0 - n) (by omega) (by omega)).trans (by omega)
  rw [this]
  unfold mxI
  congr 2
  split <;> omega
theorem line60_ev {a b : Int × Int} (ha : On a) (hb : On b) : Ev (fun k => line60 k a b) (pts a b, ()) := by
  have hfar := far_le ha hb
  have ha' := ha
  have hb' := hb
  unfold On at ha' hb'
  have e1 : w64 (b.1 - a.1) = b.1 - a.1 := w64_id (by omega) (by omega)
  have e2 : w64 (b.2 - a.2) = b.2 - a.2 := w64_id (by omega) (by omega)
  have hlp : ∀ m j : Nat, j + m = far a b + 1 → 1 ≤ j → Gp.Lp line60.l0 (a, b, (far a b : Int), (), (), (List.range j).map (pt a b), (j : Int)) ((), pts a b) := by
    intro m
    induction m with
    | zero =>
      intro j hj h1
      obtain rfl : j = far a b + 1 := by omega
      refine .done (.of (.now _) fun k => ?_)
      unfold line60.l0
      simp only []
      rw [decide_eq_false (by omega)]
      rfl
    | succ m ih =>
      intro j hj h1
      have hmx : max (far a b) 1 = far a b := by omega
      have ex := line196_eq (f := a.1) (t := b.1) (n := (far a b : Int)) (o := (j : Int))
      have ey := line196_eq (f := a.2) (t := b.2) (n := (far a b : Int)) (o := (j : Int))
      have ex := fun k => ex k ha'.1 hb'.1 (by omega) (by omega)
      have ey := fun k => ey k ha'.2 hb'.2 (by omega) (by omega)
      refine .step (.of (.now _) fun k => ?_) (ih (j + 1) (by omega) (by omega))
      unfold line60.l0
      simp only [ex, ey, Option.bind_some]
      rw [decide_eq_true (by omega), room_ok (by rw [List.length_map, List.length_range]; show (j + 1) * 16 ≤ _; omega), List.range_succ, List.map_append, w64_succ (by omega)]
      show some _ = some _
      congr 5
      unfold pt
      rw [hmx]
      rfl
  have hm : mxI ((b.1 - a.1).natAbs : Int) ((b.2 - a.2).natAbs : Int) = (far a b : Int) := by
    unfold mxI far
    split <;> omega
  refine .of (f := fun k => (loopN (line60.l0 k) k (a, b, (far a b : Int), (), (), [a], 1)).bind fun p => some (p.2, ())) (.bind (Gp.Lp.ev (hlp (far a b) 1 (by omega) (Nat.le_refl _) |> fun h => by
    have e : (List.range 1).map (pt a b) = [a] := by
      show [pt a b 0] = [a]
      rw [pt_zero]
    rw [e] at h
    exact h)) (.now _)) fun k => ?_
  unfold line60
  simp only [e1, e2, abs_eq k (n := b.1 - a.1) (by omega), abs_eq k (n := b.2 - a.2) (by omega), Option.bind_some, agree_self, hm]
end Go.Proofs.Ytofendipdfepoaa.Pp

/- Paper: marks, and the two plotters side by side. -/
set_option linter.unusedVariables false
set_option maxRecDepth 100000
noncomputable section
namespace Go.Proofs.Ytofendipdfepoaa.Pp
open Go Go.Proofs.Ytofendipdfepoaa.Gp

def ink (s : List Bool) (p : Int × Int) : List Bool := s.set (64 * p.2 + p.1).toNat true
theorem ink_len (s : List Bool) (p : Int × Int) : (ink s p).length = s.length := by unfold ink; rw [List.length_set]
theorem inks_len (l : List (Int × Int)) : ∀ s : List Bool, (l.foldl ink s).length = s.length := by
  induction l with
  | nil => exact fun s => rfl
  | cons p l ih => exact fun s => (ih _).trans (ink_len s p)
theorem rd_ok {s : List Bool} (hs : s.length = 4096) {z : Int} (h : 0 ≤ z ∧ z < 4096) : ∃ v, rd s z = some v := by
  exact ⟨s[z.toNat]'(by omega), rd_at (i := z.toNat) (by omega) (List.getElem?_eq_getElem _)⟩
def drawnOn (a b : Int × Int) (s : List Bool) : List Bool := (pts a b).foldl ink s
theorem plot0_lp (a b : Int × Int) (ha : On a) (hb : On b) (s : List Bool) (hs : s.length = 4096) :
    Gp.Lp (fun k => Plot21.l0 k (pts a b, ())) ((), (), b, 0, s, a) ((), (), b, drawnOn a b s, a) := by
  have hfar := far_le ha hb
  refine Gp.Lp.fold (body := fun k => Plot21.l0 k (pts a b, ())) (pts a b) (fun s i => ((), (), b, i, s, a)) ink (fun s => ((), (), b, s, a)) (fun _ s => s.length = 4096) (fun i p s hp hs => ⟨?_, (ink_len s p).trans hs⟩) (fun s hs => ?_) hs
  · have hi := get_lt hp
    have hpo : On p := by
      unfold pts at hp
      rw [List.getElem?_map] at hp
      obtain ⟨j, hj, rfl⟩ := Option.map_eq_some_iff.1 hp
      obtain ⟨hj1, hj2⟩ := List.getElem?_eq_some_iff.1 hj
      rw [List.getElem_range] at hj2
      rw [List.length_range] at hj1
      exact pt_on ha hb (by omega)
    unfold On at hpo
    have hlen : (pts a b).length = far a b + 1 := by unfold pts; rw [List.length_map, List.length_range]
    have e1 : w64 (p.2 * 64) = 64 * p.2 := (w64_id (by omega) (by omega)).trans (Int.mul_comm ..)
    have e2 : w64 (64 * p.2 + p.1) = 64 * p.2 + p.1 := w64_id (by omega) (by omega)
    obtain ⟨v, hv⟩ := rd_ok hs (z := 64 * p.2 + p.1) (by omega)
    refine .of (.now _) fun k => ?_
    unfold Plot21.l0
    simp only [rd_some' hp, Option.bind_some, e1, e2, hv]
    rw [decide_eq_true (by omega), w64_id (by omega) (by omega)]
    rfl
  · refine .of (.now _) fun k => ?_
    unfold Plot21.l0
    simp only []
    rw [decide_eq_false (by omega)]
    rfl
theorem refl0_lp {x y : Int} (ha : On (x, y)) {tx ty : Int} (hb : On (tx, ty)) (s : List Bool) (hs : s.length = 4096) :
    Gp.Lp (fun k => Plotted22.l0 k x y true tx ty (far (x, y) (tx, ty) : Int)) ((), 0, s) ((), drawnOn (x, y) (tx, ty) s) := by
  have hfar := far_le ha hb
  have ha' := ha
  have hb' := hb
  unfold On at ha' hb'
  have h := Gp.Lp.count (body := fun k => Plotted22.l0 k x y true tx ty (far (x, y) (tx, ty) : Int)) (far (x, y) (tx, ty) + 1) (fun s i => ((), i, s)) (fun s i => ink s (pt (x, y) (tx, ty) i)) (fun s => ((), s)) (fun _ s => s.length = 4096) (fun i s hi hs => ⟨?_, (ink_len _ _).trans hs⟩) (fun s hs => ?_) hs
  · unfold drawnOn pts
    rw [List.foldl_map]
    exact h
  · have hpo := pt_on ha hb (k := i) (by omega)
    have hn0 : (max (far (x, y) (tx, ty)) 1 : Nat) ≤ 63 := by omega
    have hm : mxI (far (x, y) (tx, ty) : Int) 1 = ((max (far (x, y) (tx, ty)) 1 : Nat) : Int) := by
      unfold mxI
      split <;> omega
    have hf : (tx - x).natAbs ≤ far (x, y) (tx, ty) ∧ (ty - y).natAbs ≤ far (x, y) (tx, ty) := by
      unfold far
      dsimp only
      omega
    have b1 := prod_bd (d := tx - x) (k := (i : Int)) (by omega) (by omega) (by omega) (by omega)
    have b2 := prod_bd (d := ty - y) (k := (i : Int)) (by omega) (by omega) (by omega) (by omega)
    have l1 : -63 * ((max (far (x, y) (tx, ty)) 1 : Nat) : Int) ≤ (tx - x) * (i : Int) := by
      have : -63 * (i : Int) ≤ (tx - x) * (i : Int) := Int.mul_le_mul_of_nonneg_right (by omega) (by omega)
      omega
    have l2 : -63 * ((max (far (x, y) (tx, ty)) 1 : Nat) : Int) ≤ (ty - y) * (i : Int) := by
      have : -63 * (i : Int) ≤ (ty - y) * (i : Int) := Int.mul_le_mul_of_nonneg_right (by omega) (by omega)
      omega
    have n1 := near_ev (num := (tx - x) * (i : Int)) (den := ((max (far (x, y) (tx, ty)) 1 : Nat) : Int)) (by omega) b1 l1
    have n2 := near_ev (num := (ty - y) * (i : Int)) (den := ((max (far (x, y) (tx, ty)) 1 : Nat) : Int)) (by omega) b2 l2
    have e1 : w64 tx = tx := w64_id (by omega) (by omega)
    have e2 : w64 ty = ty := w64_id (by omega) (by omega)
    have e3 : w64 (tx - x) = tx - x := w64_id (by omega) (by omega)
    have e4 : w64 (ty - y) = ty - y := w64_id (by omega) (by omega)
    have e5 : w64 ((tx - x) * (i : Int)) = (tx - x) * (i : Int) := w64_id (by omega) (by omega)
    have e6 : w64 ((ty - y) * (i : Int)) = (ty - y) * (i : Int) := w64_id (by omega) (by omega)
    unfold On at hpo
    have hpt : pt (x, y) (tx, ty) i = (x + (2 * ((tx - x) * (i : Int)) + ((max (far (x, y) (tx, ty)) 1 : Nat) : Int)) / (2 * ((max (far (x, y) (tx, ty)) 1 : Nat) : Int)), y + (2 * ((ty - y) * (i : Int)) + ((max (far (x, y) (tx, ty)) 1 : Nat) : Int)) / (2 * ((max (far (x, y) (tx, ty)) 1 : Nat) : Int))) := rfl
    rw [hpt] at hpo
    rw [hpt]
    generalize (2 * ((tx - x) * (i : Int)) + ((max (far (x, y) (tx, ty)) 1 : Nat) : Int)) / (2 * ((max (far (x, y) (tx, ty)) 1 : Nat) : Int)) = qx at *
    generalize (2 * ((ty - y) * (i : Int)) + ((max (far (x, y) (tx, ty)) 1 : Nat) : Int)) / (2 * ((max (far (x, y) (tx, ty)) 1 : Nat) : Int)) = qy at *
    dsimp only at hpo
    have g1 : w64 (y + qy) = y + qy := w64_id (by omega) (by omega)
    have g2 : w64 (64 * (y + qy)) = 64 * (y + qy) := w64_id (by omega) (by omega)
    have g3 : w64 (64 * (y + qy) + x) = 64 * (y + qy) + x := w64_id (by omega) (by omega)
    have g4 : w64 (64 * (y + qy) + x + qx) = 64 * (y + qy) + (x + qx) := (w64_id (by omega) (by omega)).trans (by omega)
    have g5 : w64 ((i : Int) + 1) = (i : Int) + 1 := w64_id (by omega) (by omega)
    obtain ⟨v, hv⟩ := rd_ok hs (z := 64 * (y + qy) + (x + qx)) (by omega)
    simp only [Plotted22.l0, e1, e2, e3, e4, e5, e6, hm]
    refine .yes (by rw [decide_eq_true (by omega)]; rfl) (.bind n2 (.bind n1 ?_))
    simp only [g1, g2, g3, g4, g5, hv, Option.bind_some]
    exact .now _
  · refine .of (.now _) fun k => ?_
    simp only [Plotted22.l0]
    rw [decide_eq_false (by omega)]
    rfl
theorem refl0_no (x y tx ty n : Int) (s : List Bool) : Gp.Lp (fun k => Plotted22.l0 k x y false tx ty n) ((), 0, s) ((), s) := by
  refine .done (.of (.now _) fun k => ?_)
  simp only [Plotted22.l0]
  cases decide (0 ≤ n) <;> rfl
theorem far_mx {x y tx ty : Int} (ha : On (x, y)) (hb : On (tx, ty)) : mxI (mxI (mxI (w64 (w64 tx - x)) (w64 (x - w64 tx))) (w64 (w64 ty - y))) (w64 (y - w64 ty)) = (far (x, y) (tx, ty) : Int) := by
  unfold On at ha hb
  dsimp only at ha hb
  rw [w64_id (x := tx) (by omega) (by omega), w64_id (x := ty) (by omega) (by omega), w64_id (x := tx - x) (by omega) (by omega), w64_id (x := x - tx) (by omega) (by omega), w64_id (x := ty - y) (by omega) (by omega), w64_id (x := y - ty) (by omega) (by omega)]
  unfold far
  dsimp only
  unfold mxI
  split <;> split <;> split <;> omega
end Go.Proofs.Ytofendipdfepoaa.Pp

/- Paper: the two plotters answer alike. -/
set_option linter.unusedVariables false
set_option maxRecDepth 100000
noncomputable section
namespace Go.Proofs.Ytofendipdfepoaa.Pp
open Go Go.Proofs.Ytofendipdfepoaa.Gp

/-- how a plotter's loop ends -/
abbrev EndT := (Unit × List Bool) ⊕ ((List Bool × Int × Unit) × Unit)
def Good : EndT → Prop
  | .inl p => p.2.length = 4096
  | .inr p => p.1.1 = []
def Byte (c : Int) : Prop := 0 ≤ c ∧ c ≤ 255
theorem plot_end (down : Bool) (s : List Bool) (x y : Int) : Ev (fun k => Plot21.l1 k ([], (), (), down, s, x, y)) (.inr (.inl ((), s))) := by
  refine .of (.now _) fun k => ?_
  unfold Plot21.l1
  dsimp only
  rfl
theorem slc_one {c : Int} {r : List Int} : slc (c :: r) 1 ((c :: r).length : Int) = some r := slc_tail (a := 1) (l := c :: r) (by rw [List.length_cons]; omega)
theorem plot_up (down : Bool) (s : List Bool) (x y : Int) (r : List Int) : Ev (fun k => Plot21.l1 k (117 :: r, (), (), down, s, x, y)) (.inl (r, (), (), false, s, x, y)) := by
  refine .of (.now _) fun k => ?_
  unfold Plot21.l1
  dsimp only
  rw [show decide (((117 :: r).length : Int) > 0) = true from decide_eq_true (by rw [List.length_cons]; omega)]
  simp only [slc_one]
  rfl
theorem plot_down (down : Bool) (s : List Bool) (x y : Int) (ha : On (x, y)) (hs : s.length = 4096) (r : List Int) : Ev (fun k => Plot21.l1 k (100 :: r, (), (), down, s, x, y)) (.inl (r, (), (), true, ink s (x, y), x, y)) := by
  unfold On at ha
  dsimp only at ha
  have e1 : w64 (y * 64) = 64 * y := (w64_id (by omega) (by omega)).trans (Int.mul_comm ..)
  have e2 : w64 (64 * y + x) = 64 * y + x := w64_id (by omega) (by omega)
  obtain ⟨v, hv⟩ := rd_ok hs (z := 64 * y + x) (by omega)
  refine .of (.now _) fun k => ?_
  unfold Plot21.l1
  dsimp only
  rw [show decide (((100 :: r).length : Int) > 0) = true from decide_eq_true (by rw [List.length_cons]; omega)]
  simp only [slc_one, show rd (100 :: r) 0 = some 100 from rfl, Option.bind_some, show ((100 : Int) == 117) = false from rfl, show ((100 : Int) == 100) = true from rfl, cond_true, cond_false, e1, e2, hv]
  rfl
theorem plot_bad (down : Bool) (s : List Bool) (x y c : Int) (h1 : c ≠ 117) (h2 : c ≠ 100) (h3 : c ≠ 109) (r : List Int) : Ev (fun k => Plot21.l1 k (c :: r, (), (), down, s, x, y)) (.inr (.inr (([], 3, ()), ()))) := by
  refine .of (.now _) fun k => ?_
  unfold Plot21.l1
  dsimp only
  rw [show decide (((c :: r).length : Int) > 0) = true from decide_eq_true (by rw [List.length_cons]; omega)]
  simp only [show rd (c :: r) 0 = some c from rfl, Option.bind_some, show (c == 117) = false from beq_false_of_ne h1, show (c == 100) = false from beq_false_of_ne h2, show (c == 109) = false from beq_false_of_ne h3, cond_true, cond_false]
  rfl
theorem plot_cut (down : Bool) (s : List Bool) (x y : Int) (r : List Int) (h : r.length < 2) : Ev (fun k => Plot21.l1 k (109 :: r, (), (), down, s, x, y)) (.inr (.inr (([], 13, ()), ()))) := by
  refine .of (.now _) fun k => ?_
  unfold Plot21.l1
  dsimp only
  rw [show decide (((109 :: r).length : Int) > 0) = true from decide_eq_true (by rw [List.length_cons]; omega), show decide (((109 :: r).length : Int) < 3) = true from decide_eq_true (by rw [List.length_cons]; omega)]
  rfl
theorem plot_out (down : Bool) (s : List Bool) (x y tx ty : Int) (r : List Int) (h1 : Byte tx) (h2 : Byte ty) (h : tx > 63 ∨ ty > 63) : Ev (fun k => Plot21.l1 k (109 :: tx :: ty :: r, (), (), down, s, x, y)) (.inr (.inr (([], 19, ()), ()))) := by
  unfold Byte at h1 h2
  have e1 : w64 tx = tx := w64_id (by omega) (by omega)
  have e2 : w64 ty = ty := w64_id (by omega) (by omega)
  refine .of (.now _) fun k => ?_
  unfold Plot21.l1
  dsimp only
  rw [show decide (((109 :: tx :: ty :: r).length : Int) > 0) = true from decide_eq_true (by simp only [List.length_cons]; omega), show decide (((109 :: tx :: ty :: r).length : Int) < 3) = false from decide_eq_false (by simp only [List.length_cons]; omega)]
  simp only [show rd (109 :: tx :: ty :: r) 0 = some 109 from rfl, show rd (109 :: tx :: ty :: r) 1 = some tx from rfl, show rd (109 :: tx :: ty :: r) 2 = some ty from rfl, Option.bind_some, e1, e2]
  have hc : (bif decide (tx ≥ 64) then true else decide (ty ≥ 64)) = true := by
    by_cases h' : tx ≥ 64
    · rw [decide_eq_true h']; rfl
    · rw [decide_eq_false h']; exact decide_eq_true (by omega)
  rw [hc]
  rfl
theorem plot_move (down : Bool) (s : List Bool) (x y tx ty : Int) (r : List Int) (ha : On (x, y)) (hb : On (tx, ty)) (hs : s.length = 4096) :
    Ev (fun k => Plot21.l1 k (109 :: tx :: ty :: r, (), (), down, s, x, y)) (.inl (r, (), (), down, (if down = true then drawnOn (x, y) (tx, ty) s else s), tx, ty)) := by
  have hb' := hb
  unfold On at hb'
  dsimp only at hb'
  have e1 : w64 tx = tx := w64_id (by omega) (by omega)
  have e2 : w64 ty = ty := w64_id (by omega) (by omega)
  have e3 : slc (109 :: tx :: ty :: r) 3 ((109 :: tx :: ty :: r).length : Int) = some r := slc_tail (a := 3) (l := 109 :: tx :: ty :: r) (by simp only [List.length_cons]; omega)
  unfold Plot21.l1
  dsimp only
  rw [show decide (((109 :: tx :: ty :: r).length : Int) > 0) = true from decide_eq_true (by simp only [List.length_cons]; omega), show decide (((109 :: tx :: ty :: r).length : Int) < 3) = false from decide_eq_false (by simp only [List.length_cons]; omega)]
  simp only [show rd (109 :: tx :: ty :: r) 0 = some 109 from rfl, show rd (109 :: tx :: ty :: r) 1 = some tx from rfl, show rd (109 :: tx :: ty :: r) 2 = some ty from rfl, Option.bind_some, e1, e2, e3, decide_eq_false (show ¬ tx ≥ 64 by omega), decide_eq_false (show ¬ ty ≥ 64 by omega), show ((109 : Int) == 117) = false from rfl, show ((109 : Int) == 100) = false from rfl, show ((109 : Int) == 109) = true from rfl, cond_true, cond_false]
  cases down with
  | false => exact .of (.now _) fun k => rfl
  | true => exact .joinL (S := Unit) (.bind (.bind (line60_ev ha hb) (.bind (plot0_lp (x, y) (tx, ty) ha hb s hs).ev (.now _))) (.now _)) (.now _)
section ref
variable (b : List Int) (hb20 : b.length ≤ 20000)
include hb20
omit hb20 in
theorem ref_end (down : Bool) (s : List Bool) (x y : Int) : Ev (fun k => Plotted22.l1 k b ((), x, y, down, (b.length : Int), s)) (.inr (.inl ((), s))) := by
  refine .of (.now _) fun k => ?_
  unfold Plotted22.l1
  simp only []
  rw [decide_eq_false (by omega)]
  rfl
theorem ref_up {i : Nat} (hi : b[i]? = some 117) (down : Bool) (s : List Bool) (x y : Int) : Ev (fun k => Plotted22.l1 k b ((), x, y, down, (i : Int), s)) (.inl ((), x, y, false, ((i + 1 : Nat) : Int), s)) := by
  have hl := get_lt hi
  refine .of (.now _) fun k => ?_
  unfold Plotted22.l1
  simp only [rd_some' hi, Option.bind_some]
  rw [decide_eq_true (by omega), ← w64_succ (by omega)]
  rfl
theorem ref_down {i : Nat} (hi : b[i]? = some 100) (down : Bool) (s : List Bool) (x y : Int) (ha : On (x, y)) (hs : s.length = 4096) : Ev (fun k => Plotted22.l1 k b ((), x, y, down, (i : Int), s)) (.inl ((), x, y, true, ((i + 1 : Nat) : Int), ink s (x, y))) := by
  have hl := get_lt hi
  unfold On at ha
  dsimp only at ha
  have e1 : w64 (64 * y) = 64 * y := w64_id (by omega) (by omega)
  have e2 : w64 (64 * y + x) = 64 * y + x := w64_id (by omega) (by omega)
  obtain ⟨v, hv⟩ := rd_ok hs (z := 64 * y + x) (by omega)
  refine .of (.now _) fun k => ?_
  unfold Plotted22.l1
  simp only [rd_some' hi, Option.bind_some, e1, e2, hv]
  rw [decide_eq_true (by omega), ← w64_succ (by omega)]
  rfl
omit hb20 in
theorem ref_bad {i : Nat} {c : Int} (hi : b[i]? = some c) (h1 : c ≠ 117) (h2 : c ≠ 100) (h3 : c ≠ 109) (down : Bool) (s : List Bool) (x y : Int) : Ev (fun k => Plotted22.l1 k b ((), x, y, down, (i : Int), s)) (.inr (.inr (([], 3, ()), ()))) := by
  have hl := get_lt hi
  refine .of (.now _) fun k => ?_
  unfold Plotted22.l1
  simp only [rd_some' hi, Option.bind_some, show (c == 117) = false from beq_false_of_ne h1, show (c == 100) = false from beq_false_of_ne h2, show (c != 109) = true from bne_iff_ne.2 h3]
  rw [decide_eq_true (by omega)]
  rfl
theorem ref_cut {i : Nat} (hi : b[i]? = some 109) (h : b.length ≤ i + 2) (down : Bool) (s : List Bool) (x y : Int) : Ev (fun k => Plotted22.l1 k b ((), x, y, down, (i : Int), s)) (.inr (.inr (([], 13, ()), ()))) := by
  have hl := get_lt hi
  have e1 : w64 ((i : Int) + 2) = (i : Int) + 2 := w64_id (by omega) (by omega)
  refine .of (.now _) fun k => ?_
  unfold Plotted22.l1
  simp only [rd_some' hi, Option.bind_some, e1]
  rw [decide_eq_true (show (i : Int) < b.length by omega), decide_eq_true (show (i : Int) + 2 ≥ b.length by omega)]
  rfl
theorem ref_out {i : Nat} {tx ty : Int} (hi : b[i]? = some 109) (hx : b[i + 1]? = some tx) (hy : b[i + 2]? = some ty) (h : tx > 63 ∨ ty > 63) (down : Bool) (s : List Bool) (x y : Int) : Ev (fun k => Plotted22.l1 k b ((), x, y, down, (i : Int), s)) (.inr (.inr (([], 19, ()), ()))) := by
  have hl := get_lt hy
  have e1 : w64 ((i : Int) + 2) = ((i + 2 : Nat) : Int) := w64_id (by omega) (by omega)
  have e2 : w64 ((i : Int) + 1) = ((i + 1 : Nat) : Int) := w64_id (by omega) (by omega)
  refine .of (.now _) fun k => ?_
  unfold Plotted22.l1
  simp only [rd_some' hi, Option.bind_some, e1, e2, rd_some' hx, rd_some' hy]
  rw [decide_eq_true (show (i : Int) < b.length by omega), decide_eq_false (show ¬ ((i + 2 : Nat) : Int) ≥ b.length by omega)]
  by_cases h' : tx > 63
  · rw [decide_eq_true h']
    rfl
  · rw [decide_eq_false h', decide_eq_true (show ty > 63 by omega)]
    rfl
theorem ref_move {i : Nat} {tx ty : Int} (hi : b[i]? = some 109) (hx : b[i + 1]? = some tx) (hy : b[i + 2]? = some ty) (down : Bool) (s : List Bool) (x y : Int) (ha : On (x, y)) (hb : On (tx, ty)) (hs : s.length = 4096) :
    Ev (fun k => Plotted22.l1 k b ((), x, y, down, (i : Int), s)) (.inl ((), tx, ty, down, ((i + 3 : Nat) : Int), (if down = true then drawnOn (x, y) (tx, ty) s else s))) := by
  have hl := get_lt hy
  have e1 : w64 ((i : Int) + 2) = ((i + 2 : Nat) : Int) := w64_id (by omega) (by omega)
  have e2 : w64 ((i : Int) + 1) = ((i + 1 : Nat) : Int) := w64_id (by omega) (by omega)
  have hm := far_mx ha hb
  have hb' := hb
  unfold On at hb'
  dsimp only at hb'
  have e3 : w64 tx = tx := w64_id (by omega) (by omega)
  have e4 : w64 ty = ty := w64_id (by omega) (by omega)
  have e5 : w64 (((i + 2 : Nat) : Int) + 1) = ((i + 3 : Nat) : Int) := w64_succ (by omega)
  rw [e3, e4] at hm
  unfold Plotted22.l1
  simp only [rd_some' hi, Option.bind_some, e1, e2, e3, e4, rd_some' hx, rd_some' hy, decide_eq_true (show (i : Int) < b.length by omega), decide_eq_false (show ¬ ((i + 2 : Nat) : Int) ≥ b.length by omega), decide_eq_false (show ¬ tx > 63 by omega), decide_eq_false (show ¬ ty > 63 by omega), hm, show ((109 : Int) == 117) = false from rfl, show ((109 : Int) == 100) = false from rfl, show ((109 : Int) != 109) = false from rfl, cond_true, cond_false]
  refine .joinL (S := Unit) (.joinL (S := Unit) (.bind (a := ((), if down = true then drawnOn (x, y) (tx, ty) s else s)) ?_ (.now _)) (.now _)) (.of (.now _) fun k => by rw [e5])
  cases down with
  | false => exact (refl0_no x y tx ty _ s).ev
  | true => exact (refl0_lp ha hb s hs).ev
end ref
theorem both (b : List Int) (hb20 : b.length ≤ 20000) (hby : ∀ c ∈ b, Byte c) : ∀ m i : Nat, b.length ≤ i + m → i ≤ b.length → ∀ (down : Bool) (s : List Bool) (x y : Int), On (x, y) → s.length = 4096 →
    ∃ r : EndT, Good r ∧ Gp.Lp Plot21.l1 (b.drop i, (), (), down, s, x, y) r ∧ Gp.Lp (fun k => Plotted22.l1 k b) ((), x, y, down, (i : Int), s) r := by
  intro m
  induction m with
  | zero =>
    intro i h1 h2 down s x y ha hs
    obtain rfl : i = b.length := by omega
    rw [List.drop_length]
    exact ⟨.inl ((), s), hs, .done (plot_end down s x y), .done (ref_end b down s x y)⟩
  | succ m ih =>
    intro i h1 h2 down s x y ha hs
    by_cases hi : i < b.length
    · have hc : b[i]? = some b[i] := List.getElem?_eq_getElem hi
      have hd : b.drop i = b[i] :: b.drop (i + 1) := List.drop_eq_getElem_cons hi
      generalize b[i] = c at hc hd
      rw [hd]
      by_cases q1 : c = 117
      · subst q1
        obtain ⟨r, hg, l1, l2⟩ := ih (i + 1) (by omega) (by omega) false s x y ha hs
        exact ⟨r, hg, .step (plot_up down s x y _) l1, .step (ref_up b hb20 hc down s x y) l2⟩
      by_cases q2 : c = 100
      · subst q2
        obtain ⟨r, hg, l1, l2⟩ := ih (i + 1) (by omega) (by omega) true (ink s (x, y)) x y ha ((ink_len _ _).trans hs)
        exact ⟨r, hg, .step (plot_down down s x y ha hs _) l1, .step (ref_down b hb20 hc down s x y ha hs) l2⟩
      by_cases q3 : c = 109
      · subst q3
        by_cases h3 : i + 2 < b.length
        · have hx : b[i + 1]? = some b[i + 1] := List.getElem?_eq_getElem (by omega)
          have hy : b[i + 2]? = some b[i + 2] := List.getElem?_eq_getElem (by omega)
          have hd2 : b.drop (i + 1) = b[i + 1] :: b[i + 2] :: b.drop (i + 3) := by
            rw [List.drop_eq_getElem_cons (show i + 1 < b.length by omega), List.drop_eq_getElem_cons (show i + 1 + 1 < b.length by omega)]
          have bx := hby _ (List.getElem_mem (show i + 1 < b.length by omega))
          have bt := hby _ (List.getElem_mem (show i + 2 < b.length by omega))
          generalize b[i + 1]'(by omega) = tx at hx hd2 bx
          generalize b[i + 2]'(by omega) = ty at hy hd2 bt
          rw [hd2]
          by_cases h4 : tx > 63 ∨ ty > 63
          · exact ⟨.inr (([], 19, ()), ()), rfl, .done (plot_out down s x y tx ty _ bx bt h4), .done (ref_out b hb20 hc hx hy h4 down s x y)⟩
          · have hb : On (tx, ty) := by
              unfold Byte at bx bt
              unfold On
              dsimp only
              omega
            obtain ⟨r, hg, l1, l2⟩ := ih (i + 3) (by omega) (by omega) down (if down = true then drawnOn (x, y) (tx, ty) s else s) tx ty hb (by split; exact (inks_len _ _).trans hs; exact hs)
            exact ⟨r, hg, .step (plot_move down s x y tx ty _ ha hb hs) l1, .step (ref_move b hb20 hc hx hy down s x y ha hb hs) l2⟩
        · exact ⟨.inr (([], 13, ()), ()), rfl, .done (plot_cut down s x y _ (by rw [List.length_drop]; omega)), .done (ref_cut b hb20 hc (by omega) down s x y)⟩
      · exact ⟨.inr (([], 3, ()), ()), rfl, .done (plot_bad down s x y c q1 q2 q3 _), .done (ref_bad b hc q1 q2 q3 down s x y)⟩
    · obtain rfl : i = b.length := by omega
      rw [List.drop_length]
      exact ⟨.inl ((), s), hs, .done (plot_end down s x y), .done (ref_end b down s x y)⟩
end Go.Proofs.Ytofendipdfepoaa.Pp

/- What an argument of a law reads as, kind by kind. -/
set_option linter.unusedVariables false
noncomputable section
namespace Go.Proofs.Ytofendipdfepoaa.Gp
open Go Go.ChangeShapes Go.WideShapes Go.RowKit

/-- the input's memory, all of it frozen -/
def memH (W : World) : Hp := fun b => W.heap[b]?

structure Gd (P : Program) (t : TypeId) (k : K) (wf : k.den → Prop) (siz : k.den → Nat) : Prop where
  cells : P.cellsOf t = k.w
  one : k.one = true
  pur : k.pur = true
  val : ∀ {W : World} {r : Reach} {base : Nat} {v : Value}, Value.okWide P W r base t v → v = k.mk v.cells.toList
  read : ∀ {H : Type} {enc : TypeId × Value → H} {W : World} {base : Nat} {spare : Nat → Bool} {held : Bool} {fuel : Nat} {cs : List Value} {x : DataW H × List MemPlace},
    DataW.trod enc P W base spare held fuel t cs = some x → (∀ n ∈ x.1.weights P t, n ≤ reachBytes) → ∃ y, (∀ L, Lv (memH W) L k y cs) ∧ wf y ∧ siz y ≤ Rows.uptoBulk x.1

variable {P : Program}

theorem gd_int {t : TypeId} {k : IntKind} (hu : P.underlying t = some (.int k)) (hc : P.cellsOf t = 1) : Gd P t (.int k) (fun (y : Int) => (Lit.int k y).wf = true) (fun _ => 1) :=
  ⟨hc, rfl, rfl, fun h => by obtain ⟨n, rfl⟩ := okWide_int hu h; rfl, fun h _ => by
    obtain ⟨n, rfl, rfl, hw⟩ := DataW.trod_int hu h
    exact ⟨n, fun _ => rfl, hw, by simp [Rows.uptoBulk]⟩⟩
theorem weights_all {H : Type} {e : TypeId} {n : Nat} : ∀ {l : List (DataW H)} {d : DataW H}, d ∈ l → n ∈ d.weights P e → n ∈ DataW.weightsAll P e l
  | x :: r, d, hd, hn => by
    rw [DataW.weightsAll]
    rcases List.mem_cons.1 hd with rfl | hd
    · exact List.mem_append_left _ hn
    · exact List.mem_append_right _ (weights_all hd hn)
theorem buildL {α : Type} {H : Type} {wf : α → Prop} {siz : α → Nat} : ∀ (es : List (DataW H × List MemPlace)) (p : Nat → α → Prop),
    (∀ i x, es[i]? = some x → ∃ y, p i y ∧ wf y ∧ siz y ≤ Rows.uptoBulk x.1) →
    ∃ ys : List α, ys.length = es.length ∧ (∀ j y, ys[j]? = some y → p j y ∧ wf y) ∧ (ys.map siz).sum ≤ Rows.uptoBulkAll (es.map (·.1))
  | [], _, _ => ⟨[], rfl, fun j y h => by simp at h, by simp⟩
  | x :: r, p, h => by
    obtain ⟨y, hp, hw, hs⟩ := h 0 x rfl
    obtain ⟨ys, hl, hy, hsum⟩ := buildL r (fun i => p (i + 1)) (fun i x hx => h (i + 1) x (by simpa using hx))
    refine ⟨y :: ys, by simp [hl], fun j z hz => ?_, ?_⟩
    · cases j with
      | zero => simp only [List.getElem?_cons_zero, Option.some.injEq] at hz; subst hz; exact ⟨hp, hw⟩
      | succ j => exact hy j z (by simpa using hz)
    · simp only [List.map_cons, List.sum_cons, Rows.uptoBulkAll]
      omega

def sizL {α : Type} (siz : α → Nat) (l : List α) : Nat := (l.map siz).sum + 1
def wfL {α : Type} (B : Nat) (wf : α → Prop) (l : List α) : Prop := l.length * B ≤ 140737488351232 ∧ ∀ y ∈ l, wf y

theorem LvL_mk {α : Type} {R : α → List Value → Prop} {w : Nat} {C : List Value} : ∀ {ys : List α} {o : Nat}, (∀ j y, ys[j]? = some y → ∃ c : List Value, c.length = w ∧ R y c ∧ ∀ i u, c[i]? = some u → C[o + (j * w + i)]? = some u) →
    LvL R ys ((C.drop o).take (ys.length * w))
  | [], o, h => by simp [LvL]
  | y :: ys, o, h => by
    obtain ⟨c, hc, hr, hu⟩ := h 0 y rfl
    have e : (C.drop o).take w = c := by
      apply List.ext_getElem?
      intro i
      rw [cut_get]
      by_cases hi : i < w
      · rw [if_pos hi]
        have hi' : i < c.length := by omega
        have := hu i c[i] (List.getElem?_eq_getElem hi')
        rw [Nat.zero_mul, Nat.zero_add] at this
        rw [this, List.getElem?_eq_getElem hi']
      · rw [if_neg hi, List.getElem?_eq_none (by omega)]
    refine ⟨c, (C.drop (o + w)).take (ys.length * w), ?_, hr, LvL_mk (fun j z hz => ?_)⟩
    · rw [List.length_cons, Nat.add_mul, Nat.one_mul, Nat.add_comm (ys.length * w) w, List.take_add, e, List.drop_drop]
    · obtain ⟨c', h1, h2, h3⟩ := h (j + 1) z hz
      refine ⟨c', h1, h2, fun i u hi => ?_⟩
      have := h3 i u hi
      rw [Nat.add_mul, Nat.one_mul] at this
      rw [show o + w + (j * w + i) = o + (j * w + w + i) by omega]
      exact this

theorem gd_sl {t e : TypeId} {k : K} {wf : k.den → Prop} {siz : k.den → Nat} {B : Nat} (hu : P.underlying t = some (.slice e)) (hc : P.cellsOf t = 1) (hB : P.bytesOf e = B) (hk : 0 < k.w) (r : Gd P e k wf siz) :
    Gd P t (.sl k) (wfL (α := k.den) B wf) (sizL (α := k.den) siz) :=
  ⟨hc, rfl, r.pur, fun h => by obtain ⟨a, len, cap, rfl⟩ := okWide_slice hu h; rfl, fun {H enc W base spare held fuel cs x} h hw => by
    rcases DataW.trod_slice hu h with ⟨rfl, rfl⟩ | ⟨a, len, cap, elems, rest, n, _, rfl, rfl, hb, hl, hm, hlen, hel, _, _⟩
    · exact ⟨([] : List k.den), fun L => ⟨r.pur, none, 0, rfl, Nat.le_refl _, fun hn => absurd rfl hn⟩, ⟨by simp, fun y hy => by simp at hy⟩, by simp [sizL, Rows.uptoBulk]⟩
    · simp only [DataW.weights, hu] at hw
      have hw1 : (elems.length + rest.length) * B ≤ 140737488351232 := by
        have := hw ((elems.length + rest.length) * B) (by simp [hB])
        exact this
      obtain ⟨ys, hyl, hyp, hys⟩ := buildL (wf := wf) (siz := siz) elems (fun i y => ∃ c : List Value, c.length = k.w ∧ (∀ L, Lv (memH W) L k y c) ∧ ∀ j u, c[j]? = some u → W.cell? (a.add (i * k.w + j)) = some u) (fun i z hz => by
        have hi : i < len := by
          have := (List.getElem?_eq_some_iff.1 hz).1
          omega
        have h1 := hel i hi
        rw [hz] at h1
        obtain ⟨c, hc1, hc2⟩ := Option.bind_eq_some_iff.1 h1
        obtain ⟨y, hK, hwf, hsz⟩ := r.read hc2 (fun q hq => hw q (List.mem_cons_of_mem _ (List.mem_append_left _ (weights_all (List.mem_map.2 ⟨z, List.mem_of_getElem? hz, rfl⟩) hq))))
        obtain ⟨_, hcl, hcell⟩ := World.cells?_some hc1
        refine ⟨y, ⟨c, Lv_len (hK default), hK, fun j u hu => ?_⟩, hwf, hsz⟩
        have hj : j < P.cellsOf e := by
          have := (List.getElem?_eq_some_iff.1 hu).1
          omega
        have h3 := hcell j hj
        rw [Go.Deep.add_add, r.cells] at h3
        rw [h3]
        exact hu)
      refine ⟨ys, fun L => ⟨r.pur, some a, cap, by rw [hyl, hlen], by omega, fun hn => ?_⟩, ⟨?_, fun y hy => ?_⟩, ?_⟩
      · have hn : ys.length ≠ 0 := hn
        obtain ⟨y, hy⟩ : ∃ y, ys[0]? = some y := ⟨ys[0]'(by omega), List.getElem?_eq_getElem (by omega)⟩
        obtain ⟨c, c1, c2, c3⟩ := (hyp 0 y hy).1
        obtain ⟨u, hu0⟩ : ∃ u, c[0]? = some u := ⟨c[0]'(by omega), List.getElem?_eq_getElem (by omega)⟩
        have hcell := c3 0 u hu0
        rw [Nat.zero_mul, Nat.zero_add, show a.add 0 = a from rfl] at hcell
        unfold World.cell? at hcell
        split at hcell
        · rename_i C ee zz hblk
          split at hcell
          · cases hcell
          · rename_i hsp
            have hsp : a.spot = none := by cases hs : a.spot with | none => rfl | some q => rw [hs] at hsp; exact absurd rfl hsp
            refine ⟨a.block, a.off, C, ee, zz, by cases a; simp only at hsp; rw [hsp], hblk, LvL_mk (C := C.toList) (fun j y hy => ?_)⟩
            obtain ⟨c, c1, c2, c3⟩ := (hyp j y hy).1
            refine ⟨c, c1, c2 L, fun i u hi => ?_⟩
            have h5 := c3 i u hi
            have hadd : (a.add (j * k.w + i)).block = a.block ∧ (a.add (j * k.w + i)).off = a.off + (j * k.w + i) ∧ (a.add (j * k.w + i)).spot = none := by
              unfold Addr.add
              split
              · rename_i h0; exact ⟨rfl, by omega, hsp⟩
              · exact ⟨rfl, rfl, rfl⟩
            unfold World.cell? at h5
            rw [hadd.1, hblk, hadd.2.1, hadd.2.2] at h5
            rw [Array.getElem?_toList]
            exact h5
        · cases hcell
      · rw [hyl]
        exact Nat.le_trans (Nat.mul_le_mul_right _ (Nat.le_add_right _ _)) hw1
      · obtain ⟨j, hj⟩ := List.mem_iff_getElem?.1 hy
        exact (hyp j y hj).2
      · simp only [sizL, Rows.uptoBulk]
        omega⟩

/-- fields in line, from cell 'off' on -/
structure GdF (P : Program) (off : Nat) (fs : List Field) (k : K) (wf : k.den → Prop) (siz : k.den → Nat) : Prop where
  pur : k.pur = true
  read : ∀ {H : Type} {enc : TypeId × Value → H} {W : World} {base : Nat} {spare : Nat → Bool} {held : Bool} {fuel : Nat} {cs : List Value} {xs : List (DataW H × List MemPlace)},
    cs.length = off + k.w → xs.length = fs.length →
    (∀ (i : Nat) (f : Field), fs[i]? = some f → DataW.trod enc P W base spare held fuel f.type ((cs.drop f.offset).take (P.cellsOf f.type)) = xs[i]?) →
    (∀ n ∈ DataW.weightsEach P (fs.map (·.type)) (xs.map (·.1)), n ≤ reachBytes) →
    ∃ y, (∀ L, Lv (memH W) L k y (cs.drop off)) ∧ wf y ∧ siz y ≤ Rows.uptoBulkAll (xs.map (·.1))

/-- an argument -/
theorem Gd.arg {t : TypeId} {k : K} {wf : k.den → Prop} {siz : k.den → Nat} (r : Gd P t k wf siz) {H : Type} {enc : TypeId × Value → H} {W : World} {base : Nat} {spare : Nat → Bool} {held : Bool} {rr : Reach} {b2 : Nat} {v : Value} {x : DataW H} {ps : List MemPlace}
    (hval : Value.okWide P W rr b2 t v) (h : DataW.Trod enc P W base spare held t v x ps) (hw : ∀ n ∈ x.weights P t, n ≤ reachBytes) : ∃ y : k.den, (∀ L, SR (memH W) L ⟨k, y⟩ v) ∧ wf y ∧ siz y ≤ Rows.uptoBulk x := by
  obtain ⟨fuel, hf⟩ := h
  obtain ⟨y, h1, h2, h3⟩ := r.read hf hw
  refine ⟨y, fun L => ?_, h2, h3⟩
  rw [r.val hval]
  exact SR_mk (h1 L)

def noLoc : Ls := fun _ => default
theorem law_calls {fuel : Nat} {f : FuncId} {params : List K} {run : Nat → HL params → HL (List.map (·.toK) ([] : List OK)) → Option (K.bool.den × HL (List.map (·.toK) ([] : List OK)))} (hs : SoundAt P fuel ⟨f, params, [], .bool, [], [], run⟩) {ds : HL params}
    (hr : run fuel ds () = some (true, ())) {args : Array Value} {W : World} (hv : SRs (memH W) noLoc (unpackL params ds) args.toList) (hg : GH (memH W) := by exact GH.none _) : Calls P f args W (fun e W' => e = .returned (.bool true) ∧ Below W.heap.size W W') := by
  have hno : ∀ b, ¬ Own (assoc O.dead (objsFrom 0 ([] : List OK) ())) noLoc b := fun b ⟨i, hi, _⟩ => hi
  refine Calls.mono (hs.2 ds () (true, ()) hr args W (memH W) noLoc hv ⟨fun i => trivial, fun b o h => h, fun i hi => hi.elim, fun i j hi => hi.elim, hg⟩ (fun i hi => by cases hi)) fun e W' hh => ?_
  obtain ⟨v, H', L', rfl, h1, _, _, hp⟩ := hh
  have h1 : SR H' L' ⟨.bool, true⟩ v := h1
  refine ⟨by rw [bool_at h1], hp.fr.os, hp.fr.tape, hp.fr.output, hp.fr.size, fun b hb => hp.fr.same b hb (hno b)⟩
/-- The weights of one argument. -/
theorem weights_at {H : Type} {ts : List TypeId} {ds : List (DataW H)} (hsz : (DataW.weightsEach P ts ds).all (· ≤ reachBytes) = true) (j : Nat) {t : TypeId} {d : DataW H} (ht : ts[j]? = some t) (hd : ds[j]? = some d) :
    ∀ n ∈ d.weights P t, n ≤ reachBytes := fun n hn => by
  have := List.all_eq_true.1 hsz n (DataW.weights_mem_each ht hd n hn)
  simpa using this

end Go.Proofs.Ytofendipdfepoaa.Gp

/- Paper: the law of the plotter. -/
set_option linter.unusedVariables false
set_option maxRecDepth 100000
noncomputable section
namespace Go.Proofs.Ytofendipdfepoaa.Pp
open Go Go.Proofs.Ytofendipdfepoaa.Gp

def valOf : EndT → (List Bool × Int × Unit) × Unit
  | .inl p => ((p.2, 0, ()), ())
  | .inr p => p
theorem val_len {r : EndT} (h : Good r) : (valOf r).1.1.length ≤ 4096 := by
  cases r with
  | inl p => exact Nat.le_of_eq h
  | inr p => have h : p.1.1 = [] := h; show p.1.1.length ≤ _; rw [h]; decide
def tick (n : Int) (c : Bool) : Int := if c = true then n + 1 else n
def inked (s : List Bool) : Int := s.foldl tick 0
theorem ink_lp (s : List Bool) (hs : s.length ≤ 4096) : Gp.Lp (fun k => Ink25.l0 k s) (0, 0) (inked s) := by
  refine Gp.Lp.fold (body := fun k => Ink25.l0 k s) s (fun n i => (n, i)) tick (fun n => n) (fun i n => 0 ≤ n ∧ n ≤ (i : Int)) (fun i c n hc hn => ⟨?_, ?_⟩) (fun n hn => ?_) ⟨by omega, by omega⟩
  · have hl := get_lt hc
    have e1 : w64 ((i : Int) + 1) = (i : Int) + 1 := w64_id (by omega) (by omega)
    have e2 : w64 (n + 1) = n + 1 := w64_id (by omega) (by omega)
    refine .of (.now _) fun k => ?_
    unfold Ink25.l0
    simp only [rd_some' hc, Option.bind_some, e1, e2]
    rw [decide_eq_true (by omega)]
    cases c <;> rfl
  · unfold tick
    split <;> omega
  · refine .of (.now _) fun k => ?_
    unfold Ink25.l0
    simp only []
    rw [decide_eq_false (by omega)]
    rfl
theorem law_lp (t : ((List Bool) × (Int × Unit)) × Unit) (hs : t.1.1.length ≤ 4096) : Gp.Lp (fun k => PaperPlots4.l0 k t) (0, 0) (inked t.1.1) := by
  refine Gp.Lp.fold (body := fun k => PaperPlots4.l0 k t) t.1.1 (fun n i => (n, i)) tick (fun n => n) (fun i n => 0 ≤ n ∧ n ≤ (i : Int)) (fun i c n hc hn => ⟨?_, ?_⟩) (fun n hn => ?_) ⟨by omega, by omega⟩
  · have hl := get_lt hc
    have e1 : w64 ((i : Int) + 1) = (i : Int) + 1 := w64_id (by omega) (by omega)
    have e2 : w64 (n + 1) = n + 1 := w64_id (by omega) (by omega)
    refine .of (.now _) fun k => ?_
    unfold PaperPlots4.l0
    simp only [rd_some' hc, Option.bind_some, e1, e2]
    rw [decide_eq_true (by omega)]
    cases c <;> rfl
  · unfold tick
    split <;> omega
  · refine .of (.now _) fun k => ?_
    unfold PaperPlots4.l0
    simp only []
    rw [decide_eq_false (by omega)]
    rfl
theorem equal_ev (s : List Bool) (hs : s.length ≤ 4096) : Ev (fun k => Equal24 k s s) (true, ()) := by
  have hlp : Gp.Lp (fun k => Equal24.l0 k s s) 0 (.inl ()) := by
    have := Gp.Lp.fold (body := fun k => Equal24.l0 k s s) s (fun (_ : Unit) i => i) (fun _ _ => ()) (fun _ => (.inl () : Unit ⊕ (Bool × Unit))) (fun _ _ => True) (fun i c n hc hn => ⟨?_, trivial⟩) (fun n hn => ?_) (b := ()) trivial
    · exact this
    · have hl := get_lt hc
      have e1 : w64 ((i : Int) + 1) = (i : Int) + 1 := w64_id (by omega) (by omega)
      refine .of (.now _) fun k => ?_
      unfold Equal24.l0
      simp only [rd_some' hc, Option.bind_some, e1]
      rw [decide_eq_true (by omega)]
      cases c <;> rfl
    · refine .of (.now _) fun k => ?_
      unfold Equal24.l0
      simp only []
      rw [decide_eq_false (by omega)]
      rfl
  unfold Equal24
  refine .no (by simp) (.joinL (S := Unit) hlp.ev (.now _))
theorem law_ev (b : List Int) (t : (List Bool × Int × Unit) × Unit) (h : t.1.1.length ≤ 4096) (h1 : Ev (fun k => Plot21 k b) t) (h2 : Ev (fun k => Plotted22 k b) t) : Ev (fun k => PaperPlots4 k b) (true, ()) := by
  unfold PaperPlots4
  refine .bind h1 (.bind h2 (.bind (law_lp t h).ev (.bind (a := (true, ())) (.now _) (.bind (a := true) ?_ (.bind (a := true) ?_ (.now _))))))
  · exact .yes (by show (t.1.2.1 == t.1.2.1) = true; exact beq_self_eq_true _) (.bind (equal_ev _ h) (.now _))
  · have hi : Ev (fun k => Ink25 k t.1.1) (inked t.1.1, ()) := by
      unfold Ink25
      exact .bind (ink_lp _ h).ev (.now _)
    exact .yes rfl (.bind hi (.now' (beq_self_eq_true _)))
theorem law (b : List Int) (hb : ∀ c ∈ b, Byte c) : Ev (fun k => PaperPlots4 k b) (true, ()) := by
  by_cases hl : b.length ≤ 20000
  · have hd : decide ((b.length : Int) > 20000) = false := decide_eq_false (by omega)
    obtain ⟨r, hg, l1, l2⟩ := both b hl hb b.length 0 (by omega) (by omega) false (List.replicate 4096 false) 0 0 ⟨⟨by decide, by decide⟩, ⟨by decide, by decide⟩⟩ (List.length_replicate ..)
    have hj : ∀ (f : Nat → Option EndT), Ev f r → Ev (fun k => (f k).bind (joined fun p => some ((p.2, 0, ()), ()))) (valOf r) := by
      intro f hf
      cases r with
      | inl p => exact .joinL (S := Unit) hf (.now _)
      | inr p => exact .joinR (α := Unit × List Bool) hf
    refine law_ev b (valOf r) (val_len hg) ?_ ?_
    · unfold Plot21
      exact .no hd (hj _ l1.ev)
    · unfold Plotted22
      exact .no hd (hj _ l2.ev)
  · have hd : decide ((b.length : Int) > 20000) = true := decide_eq_true (by omega)
    refine law_ev b (([], 2, ()), ()) (by decide) ?_ ?_
    · unfold Plot21
      exact .yes hd (.now _)
    · unfold Plotted22
      exact .yes hd (.now _)
theorem lit8 {k : Int} (h : (Lit.int .u8 k).wf = true) : 0 ≤ k ∧ k < 256 := by
  simp [Lit.wf, IntKind.min, IntKind.max, IntKind.signed, IntKind.bits] at h
  omega
theorem paperPlots (b : List Int) (h : wfL (α := Int) 1 (fun (y : Int) => (Lit.int .u8 y).wf = true) b) : ∃ k, PaperPlots4 k b = some (true, ()) := (law b fun c hc => ⟨(lit8 (h.2 c hc)).1, Int.le_of_lt_add_one (lit8 (h.2 c hc)).2⟩).ex
end Go.Proofs.Ytofendipdfepoaa.Pp

/- The row of PaperPlots: Plot and Ink return what the reference says for all bytes.. The law returns true for every input; the input reads as it did. -/
namespace Go.Proofs.Ytofendipdfepoaa.paperPlots
open Go.ChangeShapes Go.WideShapes Go.ChangeAt Go.RowKit Go.Proofs.Ytofendipdfepoaa.Gp Go.Proofs.Ytofendipdfepoaa.Pp
set_option linter.unusedVariables false
theorem own : ownKnob Try.prog.godebug = none := by kernel_rfl
theorem laidOut : laidOutB Try.prog = true := by kernel_rfl
abbrev wf5 : Int → Prop := (fun (y : Int) => (Lit.int .u8 y).wf = true)
abbrev siz5 : Int → Nat := (fun _ => 1)
theorem gd5 : Gd Try.prog 5 (.int .u8) wf5 siz5 := gd_int Try.underlying5 (by kernel_rfl)
abbrev wf40 : (List Int) → Prop := (wfL (α := Int) 1 wf5)
abbrev siz40 : (List Int) → Nat := (sizL (α := Int) siz5)
theorem gd40 : Gd Try.prog 40 (.sl (.int .u8)) wf40 siz40 := gd_sl (B := 1) Try.underlying40 (by kernel_rfl) (by kernel_rfl) (by decide) gd5
set_option maxRecDepth 100000 in
set_option maxHeartbeats 1000000 in
theorem lifted (os : Os) (started : os.Started) (H : Type) (enc : TypeId × Value → H) :
    ReturnsInHanded {} Try.checked os 4 .any (Rows.paperPlotsSpec.pre6 enc Try.prog Try.f4 Rows.paperPlotsRow.domain false) (Rows.paperPlotsSpec.post enc Try.prog Try.f4 false true false false) := by
  refine returnsInHanded_of_change_sized (C := Try.checked) own started (by kernel_rfl) Try.func4
    (ChangeSpec.witness6 (enc := enc) (C := Try.checked) false ⟨#[], #[.slice none 0 0], []⟩ 8 (by kernel_rfl) (by kernel_rfl) (by kernel_rfl) (by kernel_rfl)) ?_
  intro W base args ds gs before hval0 hW hcnd hsz0 _
  have hsz : (DataW.weightsEach Try.prog (Try.f4.params.toList ++ Rows.paperPlotsSpec.plain.varTypes Try.prog) (ds ++ gs)).all (· ≤ reachBytes) = true := hsz0
  have hval : ∀ (j : Nat) t v, Try.f4.params[j]? = some t → args[j]? = some v → Value.okWide Try.prog W .any base t v := hval0
  have hW' := hW
  obtain ⟨p, q, hA0, hV, rfl, hfz, hnd⟩ := hW
  have hA : DataW.TrodAll enc Try.prog W 0 (fun _ => true) true Try.f4.params.toList args.toList ds p := hA0
  rw [Try.params4] at hA hval hsz
  obtain ⟨v0, vs0, d0, ds0, p0, q0, hargs, rfl, rfl, h0, r0⟩ := trodAll_cons hA
  obtain ⟨rfl, rfl, rfl⟩ := trodAll_nil r0
  obtain rfl : args = #[v0] := by cases args; simp_all
  obtain ⟨rfl, rfl⟩ := trodVars_none hV
  have lt0 : ∀ x ∈ p0, x.block < W.heap.size := by obtain ⟨m, hm⟩ := h0; exact DataW.trod_lt m _ _ _ hm
  have wt0 := weights_at hsz 0 (t := 40) rfl rfl
  obtain ⟨a0, s0, wf0_, up0_⟩ := gd40.arg (hval 0 40 v0 rfl rfl) h0 wt0
  clear hA0 hval0 hsz0 hsz
  obtain ⟨k, h⟩ := Pp.paperPlots a0 wf0_
  refine (law_calls (PaperPlots4.ok k) (ds := (a0)) h (args := #[v0]) (W := W) (.cons (s0 _) (.nil))).mono fun e W' ⟨he, bel0⟩ => ?_
  have bel : Below W.heap.size W W' := bel0
  subst he
  exact ⟨_, rfl, _, _, _, [], _, [], hW', trodAll_mk1 (shut_bool Try.underlying4 _), (trodAll_cons_mk (Below.trod laidOut (by kernel_rfl) (of_decide_eq_true (by kernel_rfl)) h0 bel lt0) (trodAll_mk0)), rfl, bel.frame _, fun h => by cases h⟩
theorem over : Rows.paperPlotsRow.holds Try.pinned (OpenSpec.ofChange Rows.paperPlotsSpec) :=
  OpenClaim.holds_of_wide 4 Try.f4 rfl rfl rfl rfl rfl rfl rfl ⟨rfl, rfl, rfl, rfl, rfl⟩ rfl rfl rfl rfl rfl (by kernel_rfl) Try.func4 (by kernel_rfl)
    (of_decide_eq_true (by kernel_rfl)) (by unfold Func.isWrapper; first | (rw [if_pos (by decide +kernel)]; kernel_rfl) | (rw [if_neg (by decide +kernel)]; exact ⟨rfl, rfl⟩))
    (fun os started H enc _ => lifted os started H enc)
theorem proved : Rows.PaperPlotsSaid := over
#print axioms proved
end Go.Proofs.Ytofendipdfepoaa.paperPlots
namespace Go.Proofs.Ytofendipdfepoaa
theorem paperPlots_holds : Rows.PaperPlotsSaid := paperPlots.proved
end Go.Proofs.Ytofendipdfepoaa
