/-
  DERIVED. GIVEN WITH THE SEED: THE CARDS: each row of YtcppmlgnceldmaaDoorRows.lean that lists a variable, with what it lists TIED to the program's text (the seventh form; the later family's looks); each row that meets fmt, with fmt's text TOLD by the authors' own Lean function (tested against real Go, not proved from fmt's source: count such statements apart). THE CARD IS WHAT COUNTS. Prove the row's statement (the work); the ties are given (YtcppmlgnceldmaaDoorTie.lean); close each card by the builder's one call (the guide's Derived/Test/ToyasCard.lean, 'card_holds'). Laid BY PROGRAM, IN A SANDBOX (cutbox-door.mjs). By AI agents, Wed Nov 11 2026. No macro, syntax, notation, axiom, sorry.
-/
import Derived.Test.YtcppmlgnceldmaaDoorRows
import GoSem.ClaimSeven
namespace Go.Proofs.YtcppmlgnceldmaaDoor
namespace Rows

/-- THE TIED CARD OF 'bakelaw3.DisOnes'. -/
def disOnesCard : Claim7 := { stood := { row := disOnesRow, standIns := [], harness := (true, "b33e89667c2108bb3fb003c84ed32c9fdb19af684398ab316b7f293b78c62ef3"), looks := false }, kinds := [], alts := [], laidByText := true, laidKinds := [.data, .data, .data, .data, .pinned], laidTests := true, laidLooks := .later }
def DisOnesCardSaid : Prop := Claim7.holds Tryd.pinned (.plain (OpenSpec.ofChange disOnesSpec)) disOnesCard

/-- THE SECOND FORM's CARD OF 'bakelaw3.DisOnes'. -/
def disOnesUptoCard : Claim7 := { stood := { row := disOnesUptoRow, standIns := [], harness := (true, "b33e89667c2108bb3fb003c84ed32c9fdb19af684398ab316b7f293b78c62ef3"), looks := false }, kinds := [], alts := [], laidByText := true, laidKinds := [.data, .data, .data, .data, .pinned], laidTests := true, laidLooks := .later }
def DisOnesUptoCardSaid : Prop := Claim7.holds Tryd.pinned (.plain (OpenSpec.upto disOnesSpec)) disOnesUptoCard
end Rows
end Go.Proofs.YtcppmlgnceldmaaDoor
