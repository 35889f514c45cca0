/- Upto's contract with the slice's length by a name of its own. -/
import Derived.Test.YtimkpdbghbhkkaaQSx8
namespace Go.Proofs.Ytimkpdbghbhkkaa.QS
open Go.RowKit Go.Proofs.YtimkpdbghbhkkaaW.PrintWords
theorem bakeref3_Upto.callsN (k : Nat) (A0 : Option Addr) (c0 : Nat) (l0 : List Int) (a1 : Int) (a2 : Int) (r : Int) (w : World) {n : Nat} (hn : l0.length = n) (hr0 : Kd.C (Kd.int .i64) w A0 l0.length l0) (hc0 : l0.length ≤ c0) (h : bakeref3_Upto.f k l0 a1 a2 = some r) :
    Calls Try.prog 18 #[.slice A0 n c0, .int .i64 a1, .int .i64 a2] w fun e w' => e = .returned (.int .i64 r) ∧ Below w.heap.size w w' := by
  subst hn
  exact bakeref3_Upto.calls k A0 c0 l0 a1 a2 r w hr0 hc0 h
end Go.Proofs.Ytimkpdbghbhkkaa.QS
