/- The row of KeysJoys (the second form): Joy and Pens return what is specified for all positions and places. The law returns true for every input of bulk at most 1048576; the input reads as it did. -/
import Derived.Test.YtimkpdbghbhkkaaRows
import Derived.Test.YtimkpdbghbhkkaaQKx12
import Derived.Test.YtimkpdbghbhkkaaKJoyPu
import Derived.Test.YtimkpdbghbhkkaaRdr
import Derived.WalkKit
import Derived.ProofKit
import Derived.OpenShut
import Derived.ShutString
import Derived.ChangeOld
import Derived.Below
import Derived.SizedLaws
import Derived.JoinedCond
import Derived.Deep.CondSized
namespace Go.Proofs.Ytimkpdbghbhkkaa.keysJoysUpto
open Go.ChangeShapes Go.WideShapes Go.ChangeAt Go.RowKit Go.Proofs.Ytimkpdbghbhkkaa.Rdr Go.Proofs.YtimkpdbghbhkkaaW.PrintWords Go.Proofs.Ytimkpdbghbhkkaa.QK
open Go.ChangeMaps (open_string shut_string)
set_option linter.unusedVariables false
theorem own : ownKnob Try.prog.godebug = none := by kernel_rfl
theorem laidOut : laidOutB Try.prog = true := by kernel_rfl
theorem rd3 : Rd Try.prog 3 (Kd.int .i64) (fun y => (Lit.int .i64 y).wf = true) (fun _ => 1) := rd_int Try.underlying3 (by kernel_rfl)
theorem rd4 : Rd Try.prog 4 Kd.bool (fun _ => True) (fun _ => 1) := rd_bool Try.underlying4 (by kernel_rfl)
theorem rd40 : Rd Try.prog 40 k40 (fun x : S40 => (fun y => (Lit.int .i64 y).wf = true) x.f0 ∧ ((fun y => (Lit.int .i64 y).wf = true) x.f1 ∧ ((fun y => (Lit.int .i64 y).wf = true) x.f2 ∧ ((fun _ => True) x.f3)))) (fun x : S40 => (fun _ => 1) x.f0 + ((fun _ => 1) x.f1 + ((fun _ => 1) x.f2 + ((fun _ => 1) x.f3)))) := rd_iso (fun x : S40 => (x.f0, x.f1, x.f2, x.f3)) (fun a => (⟨a.1, a.2.1, a.2.2.1, a.2.2.2⟩ : S40)) (fun _ => rfl) (rd_struct Try.underlying40 (by kernel_rfl) (rdf_cons rfl rd3 (rdf_cons rfl rd3 (rdf_cons rfl rd3 (rdf_one rfl rd4)))))
theorem rd37 : Rd Try.prog 37 (Kd.slice 40 k40) (wfL 32 (fun x : S40 => (fun y => (Lit.int .i64 y).wf = true) x.f0 ∧ ((fun y => (Lit.int .i64 y).wf = true) x.f1 ∧ ((fun y => (Lit.int .i64 y).wf = true) x.f2 ∧ ((fun _ => True) x.f3))))) (sizL (fun x : S40 => (fun _ => 1) x.f0 + ((fun _ => 1) x.f1 + ((fun _ => 1) x.f2 + ((fun _ => 1) x.f3))))) := rd_slice Try.underlying37 (by kernel_rfl) (by kernel_rfl) rd40
theorem rd49 : Rd Try.prog 49 k49 (fun x : S49 => (fun y => (Lit.int .i64 y).wf = true) x.f0 ∧ ((fun y => (Lit.int .i64 y).wf = true) x.f1 ∧ ((fun y => (Lit.int .i64 y).wf = true) x.f2))) (fun x : S49 => (fun _ => 1) x.f0 + ((fun _ => 1) x.f1 + ((fun _ => 1) x.f2))) := rd_iso (fun x : S49 => (x.f0, x.f1, x.f2)) (fun a => (⟨a.1, a.2.1, a.2.2⟩ : S49)) (fun _ => rfl) (rd_struct Try.underlying49 (by kernel_rfl) (rdf_cons rfl rd3 (rdf_cons rfl rd3 (rdf_one rfl rd3))))
theorem rd38 : Rd Try.prog 38 (Kd.slice 49 k49) (wfL 24 (fun x : S49 => (fun y => (Lit.int .i64 y).wf = true) x.f0 ∧ ((fun y => (Lit.int .i64 y).wf = true) x.f1 ∧ ((fun y => (Lit.int .i64 y).wf = true) x.f2)))) (sizL (fun x : S49 => (fun _ => 1) x.f0 + ((fun _ => 1) x.f1 + ((fun _ => 1) x.f2)))) := rd_slice Try.underlying38 (by kernel_rfl) (by kernel_rfl) rd49
set_option maxRecDepth 100000 in
set_option maxHeartbeats 1000000 in
theorem lifted (os : Os) (started : os.Started) (H : Type) (enc : TypeId × Value → H) (F : Stop.Interp) :
    ReturnsInHanded {} Try.checked os 5 .any ((Rows.OpenSpec.upto Rows.keysJoysSpec).pre6 enc Try.prog Try.f5 Rows.keysJoysUptoRow.domain false) (((Rows.OpenSpec.upto Rows.keysJoysSpec).at F).post enc Try.prog Try.f5 false true false false) := by
  refine returnsInHanded_of_cond_sized (C := Try.checked) (s := Rows.OpenSpec.upto Rows.keysJoysSpec) (k := Rows.uptoSmall) rfl own started (by kernel_rfl) Try.func5
    (OpenSpec.witness (enc := enc) (C := Try.checked) (s := Rows.OpenSpec.upto Rows.keysJoysSpec) (k := Rows.uptoSmall) rfl false ⟨#[], #[.string ByteArray.empty, .slice none 0 0, .slice none 0 0], []⟩ 8 (by kernel_rfl) (by kernel_rfl) (by kernel_rfl) (x := ([.lit (.string []), .nil, .nil], [], [])) (by kernel_rfl) rfl (by kernel_rfl)) ?_
  intro W base args ds gs before hval0 hW _ hk0 hsz0 _
  have hk : Rows.uptoSmall H (ds ++ gs) = true := hk0
  have hsz : (DataW.weightsEach Try.prog (Try.f5.params.toList ++ Rows.keysJoysSpec.plain.varTypes Try.prog) (ds ++ gs)).all (· ≤ reachBytes) = true := hsz0
  have hval : ∀ (j : Nat) t v, Try.f5.params[j]? = some t → args[j]? = some v → Value.okWide Try.prog W .any base t v := hval0
  have hW' := hW
  obtain ⟨p, q, hA0, hV, rfl, hfz, hnd⟩ := hW
  have hA : DataW.TrodAll enc Try.prog W 0 (fun _ => true) true Try.f5.params.toList args.toList ds p := hA0
  rw [Try.params5] at hA hval hsz
  obtain ⟨v0, vs0, d0, ds0, p0, q0, hargs, rfl, rfl, h0, r0⟩ := trodAll_cons hA
  obtain ⟨v1, vs1, d1, ds1, p1, q1, rfl, rfl, rfl, h1, r1⟩ := trodAll_cons r0
  obtain ⟨v2, vs2, d2, ds2, p2, q2, rfl, rfl, rfl, h2, r2⟩ := trodAll_cons r1
  obtain ⟨rfl, rfl, rfl⟩ := trodAll_nil r2
  obtain rfl : args = #[v0, v1, v2] := by cases args; simp_all
  obtain ⟨rfl, rfl⟩ := trodVars_none hV
  have wt0 := weights_at hsz 0 (t := 9) rfl rfl
  have bk0 := bulk_at hk (d := d0) (by simp)
  obtain ⟨a0, rfl, rfl, rfl, y0⟩ := open_string Try.underlying9 (hval 0 9 v0 rfl rfl) h0
  have sz0 : a0.size ≤ 140737488351232 := by
    have z := wt0 a0.data.toList.length (by simp [DataW.weights])
    rw [Array.length_toList] at z
    exact z
  have up0 : a0.size + 1 ≤ 1048576 := by
    have z := bk0
    simp only [Rows.uptoBulk] at z
    rw [Array.length_toList] at z
    exact z
  have k1 := h1
  have lt1 : ∀ x ∈ p1, x.block < W.heap.size := by obtain ⟨m, hm⟩ := k1; exact DataW.trod_lt m _ _ _ hm
  have wt1 := weights_at hsz 1 (t := 37) rfl rfl
  have bk1 := bulk_at hk (d := d1) (by simp)
  obtain ⟨a1, len_1, cap1, rfl⟩ := okWide_slice Try.underlying37 (hval 1 37 v1 rfl rfl)
  obtain ⟨l1, rfl, hc1, hr1, len1, el1, up1_⟩ := Rd.slice rd37 k1 wt1
  have up1 := Nat.le_trans up1_ bk1
  have n1 : l1.length ≤ 1048575 := by have := sizL_len (siz := (fun x : S40 => (fun _ => 1) x.f0 + ((fun _ => 1) x.f1 + ((fun _ => 1) x.f2 + ((fun _ => 1) x.f3))))) (fun y => by first | exact Nat.le_refl 1 | (simp only [sizL]; omega) | omega) l1; omega
  have k2 := h2
  have lt2 : ∀ x ∈ p2, x.block < W.heap.size := by obtain ⟨m, hm⟩ := k2; exact DataW.trod_lt m _ _ _ hm
  have wt2 := weights_at hsz 2 (t := 38) rfl rfl
  have bk2 := bulk_at hk (d := d2) (by simp)
  obtain ⟨a2, len_2, cap2, rfl⟩ := okWide_slice Try.underlying38 (hval 2 38 v2 rfl rfl)
  obtain ⟨l2, rfl, hc2, hr2, len2, el2, up2_⟩ := Rd.slice rd38 k2 wt2
  have up2 := Nat.le_trans up2_ bk2
  have n2 : l2.length ≤ 1048575 := by have := sizL_len (siz := (fun x : S49 => (fun _ => 1) x.f0 + ((fun _ => 1) x.f1 + ((fun _ => 1) x.f2)))) (fun y => by first | exact Nat.le_refl 1 | (simp only [sizL]; omega) | omega) l2; omega
  clear hA0 hval0 hsz0 hsz
  clear hk hk0
  simp only [List.append_nil] at hW'
  obtain ⟨k, h⟩ := KPu.law a0 l1 l2 (by omega) (by omega)
  refine (bakelaw3_KeysJoys.calls k a0 _ _ l1 _ _ l2 true W hr1 hc1 hr2 hc2 h).mono fun e W' ⟨he, bel0⟩ => ?_
  have bel : Below W.heap.size W W' := bel0
  subst he
  exact ⟨_, rfl, _, _, _, [], _, [], hW', trodAll_mk1 (shut_bool Try.underlying4 _), (trodAll_cons_mk (shut_string Try.underlying9 y0) (trodAll_cons_mk (Below.trod laidOut (by kernel_rfl) (of_decide_eq_true (by kernel_rfl)) k1 bel lt1) (trodAll_cons_mk (Below.trod laidOut (by kernel_rfl) (of_decide_eq_true (by kernel_rfl)) k2 bel lt2) trodAll_mk0))), rfl, bel.frame _, fun h => by cases h⟩
theorem over : Rows.keysJoysUptoRow.holds Try.pinned (Rows.OpenSpec.upto Rows.keysJoysSpec) :=
  OpenClaim.holds_of_cond 5 Try.f5 rfl rfl rfl rfl rfl rfl rfl ⟨rfl, rfl, rfl, rfl, rfl⟩ rfl rfl rfl rfl rfl (by kernel_rfl) Try.func5 (by kernel_rfl)
    (of_decide_eq_true (by kernel_rfl)) (by unfold Func.isWrapper; first | (rw [if_pos (by decide +kernel)]; kernel_rfl) | (rw [if_neg (by decide +kernel)]; exact ⟨rfl, rfl⟩))
    (fun os started H enc _ F => lifted os started H enc F)
theorem proved : Rows.KeysJoysUptoSaid := over
#print axioms proved
end Go.Proofs.Ytimkpdbghbhkkaa.keysJoysUpto
namespace Go.Proofs.Ytimkpdbghbhkkaa
theorem keysJoysUpto_holds : Rows.KeysJoysUptoSaid := keysJoysUpto.proved
end Go.Proofs.Ytimkpdbghbhkkaa
