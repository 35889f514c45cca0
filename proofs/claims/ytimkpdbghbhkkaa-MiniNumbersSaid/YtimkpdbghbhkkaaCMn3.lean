/- Merged texts of one claim: a Go law, its functions without memory, and the plain law. The law returns true for every input; conditions: as the row says. -/
import Derived.Test.YtimkpdbghbhkkaaRows
import Derived.WalkKit
import Derived.ProofKit
import Derived.OpenShut
import Derived.ShutString
import Derived.ChangeOld
import Derived.Below
import Derived.SizedLaws
import Derived.Test.YtimkpdbghbhkkaaCMn0
import Derived.Test.YtimkpdbghbhkkaaCMn1
import Derived.Test.YtimkpdbghbhkkaaCMn2
/- The row of MiniNumbers: Numbers returns halves that are bad and least, for all lists of up to 12 numbers and several properties. The law returns true for every input; the input reads as it did. -/
namespace Go.Proofs.Ytimkpdbghbhkkaa.miniNumbers
open Go.ChangeShapes Go.WideShapes Go.ChangeAt Go.RowKit Go.Proofs.Ytimkpdbghbhkkaa.Gp Go.Proofs.Ytimkpdbghbhkkaa.Mn
set_option linter.unusedVariables false
theorem own : ownKnob Try.prog.godebug = none := by kernel_rfl
theorem laidOut : laidOutB Try.prog = true := by kernel_rfl
abbrev wf3 : Int → Prop := (fun (y : Int) => (Lit.int .i64 y).wf = true)
abbrev siz3 : Int → Nat := (fun _ => 1)
theorem gd3 : Gd Try.prog 3 (.int .i64) wf3 siz3 := gd_int Try.underlying3 (by kernel_rfl)
abbrev wf22 : (List Int) → Prop := (wfL (α := Int) 8 wf3)
abbrev siz22 : (List Int) → Nat := (sizL (α := Int) siz3)
theorem gd22 : Gd Try.prog 22 (.sl (.int .i64)) wf22 siz22 := gd_sl (B := 8) Try.underlying22 (by kernel_rfl) (by kernel_rfl) (by decide) gd3
set_option maxRecDepth 100000 in
set_option maxHeartbeats 1000000 in
theorem lifted (os : Os) (started : os.Started) (H : Type) (enc : TypeId × Value → H) :
    ReturnsInHanded {} Try.checked os 9 .any (Rows.miniNumbersSpec.pre6 enc Try.prog Try.f9 Rows.miniNumbersRow.domain false) (Rows.miniNumbersSpec.post enc Try.prog Try.f9 false true false false) := by
  refine returnsInHanded_of_change_sized (C := Try.checked) own started (by kernel_rfl) Try.func9
    (ChangeSpec.witness6 (enc := enc) (C := Try.checked) false ⟨#[], #[.slice none 0 0, .int .i64 0, .int .i64 0], []⟩ 8 (by kernel_rfl) (by kernel_rfl) (by kernel_rfl) (by kernel_rfl)) ?_
  intro W base args ds gs before hval0 hW hcnd hsz0 _
  have hsz : (DataW.weightsEach Try.prog (Try.f9.params.toList ++ Rows.miniNumbersSpec.plain.varTypes Try.prog) (ds ++ gs)).all (· ≤ reachBytes) = true := hsz0
  have hval : ∀ (j : Nat) t v, Try.f9.params[j]? = some t → args[j]? = some v → Value.okWide Try.prog W .any base t v := hval0
  have hW' := hW
  obtain ⟨p, q, hA0, hV, rfl, hfz, hnd⟩ := hW
  have hA : DataW.TrodAll enc Try.prog W 0 (fun _ => true) true Try.f9.params.toList args.toList ds p := hA0
  rw [Try.params9] at hA hval hsz
  obtain ⟨v0, vs0, d0, ds0, p0, q0, hargs, rfl, rfl, h0, r0⟩ := trodAll_cons hA
  obtain ⟨v1, vs1, d1, ds1, p1, q1, rfl, rfl, rfl, h1, r1⟩ := trodAll_cons r0
  obtain ⟨v2, vs2, d2, ds2, p2, q2, rfl, rfl, rfl, h2, r2⟩ := trodAll_cons r1
  obtain ⟨rfl, rfl, rfl⟩ := trodAll_nil r2
  obtain rfl : args = #[v0, v1, v2] := by cases args; simp_all
  obtain ⟨rfl, rfl⟩ := trodVars_none hV
  have lt0 : ∀ x ∈ p0, x.block < W.heap.size := by obtain ⟨m, hm⟩ := h0; exact DataW.trod_lt m _ _ _ hm
  have wt0 := weights_at hsz 0 (t := 22) rfl rfl
  obtain ⟨a0, s0, wf0_, up0_⟩ := gd22.arg (hval 0 22 v0 rfl rfl) h0 wt0
  have lt1 : ∀ x ∈ p1, x.block < W.heap.size := by obtain ⟨m, hm⟩ := h1; exact DataW.trod_lt m _ _ _ hm
  have wt1 := weights_at hsz 1 (t := 3) rfl rfl
  obtain ⟨a1, s1, wf1_, up1_⟩ := gd3.arg (hval 1 3 v1 rfl rfl) h1 wt1
  have lt2 : ∀ x ∈ p2, x.block < W.heap.size := by obtain ⟨m, hm⟩ := h2; exact DataW.trod_lt m _ _ _ hm
  have wt2 := weights_at hsz 2 (t := 3) rfl rfl
  obtain ⟨a2, s2, wf2_, up2_⟩ := gd3.arg (hval 2 3 v2 rfl rfl) h2 wt2
  clear hA0 hval0 hsz0 hsz
  obtain ⟨k, h⟩ := Mn.numbers a0 a1 a2 wf0_ wf1_ wf2_
  refine (law_calls (MiniNumbers9.ok k) (ds := (a0, a1, a2)) h (args := #[v0, v1, v2]) (W := W) (.cons (s0 _) (.cons (s1 _) (.cons (s2 _) (.nil))))).mono fun e W' ⟨he, bel0⟩ => ?_
  have bel : Below W.heap.size W W' := bel0
  subst he
  exact ⟨_, rfl, _, _, _, [], _, [], hW', trodAll_mk1 (shut_bool Try.underlying4 _), (trodAll_cons_mk (Below.trod laidOut (by kernel_rfl) (of_decide_eq_true (by kernel_rfl)) h0 bel lt0) (trodAll_cons_mk (Below.trod laidOut (by kernel_rfl) (of_decide_eq_true (by kernel_rfl)) h1 bel lt1) (trodAll_cons_mk (Below.trod laidOut (by kernel_rfl) (of_decide_eq_true (by kernel_rfl)) h2 bel lt2) (trodAll_mk0)))), rfl, bel.frame _, fun h => by cases h⟩
theorem over : Rows.miniNumbersRow.holds Try.pinned (OpenSpec.ofChange Rows.miniNumbersSpec) :=
  OpenClaim.holds_of_wide 9 Try.f9 rfl rfl rfl rfl rfl rfl rfl ⟨rfl, rfl, rfl, rfl, rfl⟩ rfl rfl rfl rfl rfl (by kernel_rfl) Try.func9 (by kernel_rfl)
    (of_decide_eq_true (by kernel_rfl)) (by unfold Func.isWrapper; first | (rw [if_pos (by decide +kernel)]; kernel_rfl) | (rw [if_neg (by decide +kernel)]; exact ⟨rfl, rfl⟩))
    (fun os started H enc _ => lifted os started H enc)
theorem proved : Rows.MiniNumbersSaid := over
#print axioms proved
end Go.Proofs.Ytimkpdbghbhkkaa.miniNumbers
namespace Go.Proofs.Ytimkpdbghbhkkaa
theorem miniNumbers_holds : Rows.MiniNumbersSaid := miniNumbers.proved
end Go.Proofs.Ytimkpdbghbhkkaa
