-- Printed by a program of this session (wip/tools): Lean functions for Go functions, and their contracts.
import Derived.Test.YtimkpdbghbhkkaaQMx0
namespace Go.Proofs.Ytimkpdbghbhkkaa.QM
open Go.RowKit Go.Proofs.YtimkpdbghbhkkaaW.PrintWords Go.Proofs.YtimkpdbghbhkkaaW.PrintLast Go.Proofs.YtimkpdbghbhkkaaW.PrintMore
attribute [local go_sem] max2_int min2_int max_two min_two max_three min_three max_four min_four   -- for this text's walks alone
set_option linter.unusedVariables false
set_option linter.unusedSimpArgs false

/-! ### bakelaw3_SampMixes_2_140: function 140 -/
def bakelaw3_SampMixes_2_140.f (a0 : Int) : Option (Bool) := some (decide (a0 > 1048576))
set_option maxHeartbeats 8000000 in
set_option maxRecDepth 100000 in
theorem bakelaw3_SampMixes_2_140.calls (a0 : Int) (r : Bool) (w : World) (h : bakelaw3_SampMixes_2_140.f a0 = some r) :
    Calls Try.prog 76 #[.int .i64 a0] w fun e w' => e = .returned (.bool r) ∧ Drawn0 w w' := by
  have H : (some (decide (a0 > 1048576))) = some r := h
  clear h
  obtain rfl := Option.some.inj H
  go_enter Try.func76, Try.ntmps76
  go_wp2
  go_ret
  exact ⟨by first | rfl | (simp; done) | (simp [*]; done), by repeat (first | exact Drawn0.refl _ | apply Drawn0.step)⟩

end Go.Proofs.Ytimkpdbghbhkkaa.QM
