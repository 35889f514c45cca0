/- The row of SampOfs: Check and Of return what is specified for all lists, and up to 300 levels. The law returns true for every input; the input reads as it did. -/
import Derived.Test.YtimkpdbghbhkkaaRows
import Derived.Test.YtimkpdbghbhkkaaQSx12
import Derived.Test.YtimkpdbghbhkkaaSOfPu
import Derived.Test.YtimkpdbghbhkkaaRdr
import Derived.WalkKit
import Derived.ProofKit
import Derived.OpenShut
import Derived.ShutString
import Derived.ChangeOld
import Derived.Below
import Derived.SizedLaws
namespace Go.Proofs.Ytimkpdbghbhkkaa.sampOfs
open Go.ChangeShapes Go.WideShapes Go.ChangeAt Go.RowKit Go.Proofs.Ytimkpdbghbhkkaa.Rdr Go.Proofs.YtimkpdbghbhkkaaW.PrintWords Go.Proofs.Ytimkpdbghbhkkaa.QS
open Go.ChangeMaps (open_string shut_string)
set_option linter.unusedVariables false
theorem own : ownKnob Try.prog.godebug = none := by kernel_rfl
theorem laidOut : laidOutB Try.prog = true := by kernel_rfl
theorem rd3 : Rd Try.prog 3 (Kd.int .i64) (fun y => (Lit.int .i64 y).wf = true) (fun _ => 1) := rd_int Try.underlying3 (by kernel_rfl)
theorem rd9 : Rd Try.prog 9 Kd.string (fun y => y.size ≤ 140737488351232) (fun y => y.size + 1) := rd_string Try.underlying9 (by kernel_rfl)
theorem rd33 : Rd Try.prog 33 k33 (fun x : S33 => (fun y => (Lit.int .i64 y).wf = true) x.f0 ∧ ((fun y => y.size ≤ 140737488351232) x.f1 ∧ ((fun y => (Lit.int .i64 y).wf = true) x.f2))) (fun x : S33 => (fun _ => 1) x.f0 + ((fun y => y.size + 1) x.f1 + ((fun _ => 1) x.f2))) := rd_iso (fun x : S33 => (x.f0, x.f1, x.f2)) (fun a => (⟨a.1, a.2.1, a.2.2⟩ : S33)) (fun _ => rfl) (rd_struct Try.underlying33 (by kernel_rfl) (rdf_cons rfl rd3 (rdf_cons rfl rd9 (rdf_one rfl rd3))))
theorem rd30 : Rd Try.prog 30 (Kd.slice 33 k33) (wfL 32 (fun x : S33 => (fun y => (Lit.int .i64 y).wf = true) x.f0 ∧ ((fun y => y.size ≤ 140737488351232) x.f1 ∧ ((fun y => (Lit.int .i64 y).wf = true) x.f2)))) (sizL (fun x : S33 => (fun _ => 1) x.f0 + ((fun y => y.size + 1) x.f1 + ((fun _ => 1) x.f2)))) := rd_slice Try.underlying30 (by kernel_rfl) (by kernel_rfl) rd33
theorem rd22 : Rd Try.prog 22 (Kd.slice 3 (Kd.int .i64)) (wfL 8 (fun y => (Lit.int .i64 y).wf = true)) (sizL (fun _ => 1)) := rd_slice Try.underlying22 (by kernel_rfl) (by kernel_rfl) rd3
set_option maxRecDepth 100000 in
set_option maxHeartbeats 1000000 in
theorem lifted (os : Os) (started : os.Started) (H : Type) (enc : TypeId × Value → H) :
    ReturnsInHanded {} Try.checked os 4 .any (Rows.sampOfsSpec.pre6 enc Try.prog Try.f4 Rows.sampOfsRow.domain false) (Rows.sampOfsSpec.post enc Try.prog Try.f4 false true false false) := by
  refine returnsInHanded_of_change_sized (C := Try.checked) own started (by kernel_rfl) Try.func4
    (ChangeSpec.witness6 (enc := enc) (C := Try.checked) false ⟨#[], #[.slice none 0 0, .string ByteArray.empty, .int .i64 0, .int .i64 0, .slice none 0 0], []⟩ 8 (by kernel_rfl) (by kernel_rfl) (by kernel_rfl) (by kernel_rfl)) ?_
  intro W base args ds gs before hval0 hW hcnd hsz0 _
  have hsz : (DataW.weightsEach Try.prog (Try.f4.params.toList ++ Rows.sampOfsSpec.plain.varTypes Try.prog) (ds ++ gs)).all (· ≤ reachBytes) = true := hsz0
  have hval : ∀ (j : Nat) t v, Try.f4.params[j]? = some t → args[j]? = some v → Value.okWide Try.prog W .any base t v := hval0
  have hW' := hW
  obtain ⟨p, q, hA0, hV, rfl, hfz, hnd⟩ := hW
  have hA : DataW.TrodAll enc Try.prog W 0 (fun _ => true) true Try.f4.params.toList args.toList ds p := hA0
  rw [Try.params4] at hA hval hsz
  obtain ⟨v0, vs0, d0, ds0, p0, q0, hargs, rfl, rfl, h0, r0⟩ := trodAll_cons hA
  obtain ⟨v1, vs1, d1, ds1, p1, q1, rfl, rfl, rfl, h1, r1⟩ := trodAll_cons r0
  obtain ⟨v2, vs2, d2, ds2, p2, q2, rfl, rfl, rfl, h2, r2⟩ := trodAll_cons r1
  obtain ⟨v3, vs3, d3, ds3, p3, q3, rfl, rfl, rfl, h3, r3⟩ := trodAll_cons r2
  obtain ⟨v4, vs4, d4, ds4, p4, q4, rfl, rfl, rfl, h4, r4⟩ := trodAll_cons r3
  obtain ⟨rfl, rfl, rfl⟩ := trodAll_nil r4
  obtain rfl : args = #[v0, v1, v2, v3, v4] := by cases args; simp_all
  obtain ⟨rfl, rfl⟩ := trodVars_none hV
  have k0 := h0
  have lt0 : ∀ x ∈ p0, x.block < W.heap.size := by obtain ⟨m, hm⟩ := k0; exact DataW.trod_lt m _ _ _ hm
  have wt0 := weights_at hsz 0 (t := 30) rfl rfl
  obtain ⟨a0, len_0, cap0, rfl⟩ := okWide_slice Try.underlying30 (hval 0 30 v0 rfl rfl)
  obtain ⟨l0, rfl, hc0, hr0, len0, el0, up0_⟩ := Rd.slice rd30 k0 wt0
  have wt1 := weights_at hsz 1 (t := 9) rfl rfl
  obtain ⟨a1, rfl, rfl, rfl, y1⟩ := open_string Try.underlying9 (hval 1 9 v1 rfl rfl) h1
  have sz1 : a1.size ≤ 140737488351232 := by
    have z := wt1 a1.data.toList.length (by simp [DataW.weights])
    rw [Array.length_toList] at z
    exact z
  obtain ⟨a2, rfl, rfl, rfl, wf2⟩ := open_int Try.underlying3 (hval 2 3 v2 rfl rfl) h2
  obtain ⟨a3, rfl, rfl, rfl, wf3⟩ := open_int Try.underlying3 (hval 3 3 v3 rfl rfl) h3
  have k4 := h4
  have lt4 : ∀ x ∈ p4, x.block < W.heap.size := by obtain ⟨m, hm⟩ := k4; exact DataW.trod_lt m _ _ _ hm
  have wt4 := weights_at hsz 4 (t := 22) rfl rfl
  obtain ⟨a4, len_4, cap4, rfl⟩ := okWide_slice Try.underlying22 (hval 4 22 v4 rfl rfl)
  obtain ⟨l4, rfl, hc4, hr4, len4, el4, up4_⟩ := Rd.slice rd22 k4 wt4
  clear hA0 hval0 hsz0 hsz
  obtain ⟨k, h⟩ := SOf.law l0 (by omega) a1 a2 a3 l4 (by omega)
  refine (bakelaw3_SampOfs.calls k _ _ l0 a1 a2 a3 _ _ l4 true W hr0 hc0 hr4 hc4 h).mono fun e W' ⟨he, bel0⟩ => ?_
  have bel : Below W.heap.size W W' := bel0
  subst he
  exact ⟨_, rfl, _, _, _, [], _, [], hW', trodAll_mk1 (shut_bool Try.underlying4 _), (trodAll_cons_mk (Below.trod laidOut (by kernel_rfl) (of_decide_eq_true (by kernel_rfl)) k0 bel lt0) (trodAll_cons_mk (shut_string Try.underlying9 y1) (trodAll_cons_mk (shut_int Try.underlying3 wf2) (trodAll_cons_mk (shut_int Try.underlying3 wf3) (trodAll_cons_mk (Below.trod laidOut (by kernel_rfl) (of_decide_eq_true (by kernel_rfl)) k4 bel lt4) trodAll_mk0))))), rfl, bel.frame _, fun h => by cases h⟩
theorem over : Rows.sampOfsRow.holds Try.pinned (OpenSpec.ofChange Rows.sampOfsSpec) :=
  OpenClaim.holds_of_wide 4 Try.f4 rfl rfl rfl rfl rfl rfl rfl ⟨rfl, rfl, rfl, rfl, rfl⟩ rfl rfl rfl rfl rfl (by kernel_rfl) Try.func4 (by kernel_rfl)
    (of_decide_eq_true (by kernel_rfl)) (by unfold Func.isWrapper; first | (rw [if_pos (by decide +kernel)]; kernel_rfl) | (rw [if_neg (by decide +kernel)]; exact ⟨rfl, rfl⟩))
    (fun os started H enc _ => lifted os started H enc)
theorem proved : Rows.SampOfsSaid := over
#print axioms proved
end Go.Proofs.Ytimkpdbghbhkkaa.sampOfs
namespace Go.Proofs.Ytimkpdbghbhkkaa
theorem sampOfs_holds : Rows.SampOfsSaid := sampOfs.proved
end Go.Proofs.Ytimkpdbghbhkkaa
