/-
  DERIVED. GIVEN WITH THE SEED: THE CARDS: each row of YtofendipdfepoaaDoorRows.lean that lists a variable, with what it lists TIED to the program's text (the seventh form; the later family's looks); each row that meets fmt, with fmt's text TOLD by the authors' own Lean function (tested against real Go, not proved from fmt's source: count such statements apart). THE CARD IS WHAT COUNTS. Prove the row's statement (the work); the ties are given (YtofendipdfepoaaDoorTie.lean); close each card by the builder's one call (the guide's Derived/Test/ToyasCard.lean, 'card_holds'). Laid BY PROGRAM, IN A SANDBOX (cutbox-door.mjs). By AI agents, Wed Nov 11 2026. No macro, syntax, notation, axiom, sorry.
-/
import Derived.Test.YtofendipdfepoaaDoorRows
import GoSem.ClaimSeven
namespace Go.Proofs.YtofendipdfepoaaDoor
namespace Rows

/-- THE TIED CARD OF 'bakelaw3.PaperPrints'. -/
def paperPrintsCard : Claim7 := { stood := { row := paperPrintsRow, standIns := [], harness := (true, "0b6cceec72922d653e9339e2157fe6ea95e77c5c6b686d680ed7342b1533d243"), looks := false }, kinds := [], alts := [], laidByText := true, laidKinds := [.data, .pinned], laidTests := true, laidLooks := .later }
def PaperPrintsCardSaid : Prop := Claim7.holds Tryd.pinned (.plain (OpenSpec.ofChange paperPrintsSpec)) paperPrintsCard

/-- THE SECOND FORM's CARD OF 'bakelaw3.PaperPrints'. -/
def paperPrintsUptoCard : Claim7 := { stood := { row := paperPrintsUptoRow, standIns := [], harness := (true, "0b6cceec72922d653e9339e2157fe6ea95e77c5c6b686d680ed7342b1533d243"), looks := false }, kinds := [], alts := [], laidByText := true, laidKinds := [.data, .pinned], laidTests := true, laidLooks := .later }
def PaperPrintsUptoCardSaid : Prop := Claim7.holds Tryd.pinned (.plain (OpenSpec.upto paperPrintsSpec)) paperPrintsUptoCard
end Rows
end Go.Proofs.YtofendipdfepoaaDoor
