/-
  DERIVED. GIVEN WITH THE SEED: THE CARDS: each row of YtcppmlgnceldmaaGreatDoorRows.lean that lists a variable, with what it lists TIED to the program's text (the seventh form; the later family's looks); each row that meets fmt, with fmt's text TOLD by the authors' own Lean function (tested against real Go, not proved from fmt's source: count such statements apart). THE CARD IS WHAT COUNTS. Prove the row's statement (the work); the ties are given (YtcppmlgnceldmaaGreatDoorTie.lean); close each card by the builder's one call (the guide's Derived/Test/ToyasCard.lean, 'card_holds'). Laid BY PROGRAM, IN A SANDBOX (cutbox-door.mjs). By AI agents, Wed Nov 11 2026. No macro, syntax, notation, axiom, sorry.
-/
import Derived.Test.YtcppmlgnceldmaaGreatDoorRows
import GoSem.ClaimSeven
namespace Go.Proofs.YtcppmlgnceldmaaGreatDoor
namespace Rows

/-- THE TIED CARD OF 'bakelaw3.DisLists'. -/
def disListsCard : Claim7 := { stood := { row := disListsRow, standIns := [], harness := (true, "b199514967f8e8b0a332d51bb565a8eb325623099e0a5d795d8cb45bd55b7a70"), looks := false }, kinds := [], alts := [], laidByText := true, laidKinds := [.data, .data, .data, .data, .pinned], laidTests := true, laidLooks := .later }
def DisListsCardSaid : Prop := Claim7.holds Tryz.pinned (.plain (OpenSpec.ofChange disListsSpec)) disListsCard

/-- THE TIED CARD OF 'bakelaw3.IdentSigns'. -/
def identSignsCard : Claim7 := { stood := { row := identSignsRow, standIns := [], harness := (true, "b199514967f8e8b0a332d51bb565a8eb325623099e0a5d795d8cb45bd55b7a70"), looks := false }, kinds := [], alts := [], laidByText := true, laidKinds := [.data, .data, .data, .data, .pinned], laidTests := true, laidLooks := .later }
def IdentSignsCardSaid : Prop := Claim7.holds Tryz.pinned (.plain (OpenSpec.ofChange identSignsSpec)) identSignsCard

/-- THE SECOND FORM's CARD OF 'bakelaw3.DisLists'. -/
def disListsUptoCard : Claim7 := { stood := { row := disListsUptoRow, standIns := [], harness := (true, "b199514967f8e8b0a332d51bb565a8eb325623099e0a5d795d8cb45bd55b7a70"), looks := false }, kinds := [], alts := [], laidByText := true, laidKinds := [.data, .data, .data, .data, .pinned], laidTests := true, laidLooks := .later }
def DisListsUptoCardSaid : Prop := Claim7.holds Tryz.pinned (.plain (OpenSpec.upto disListsSpec)) disListsUptoCard

/-- THE SECOND FORM's CARD OF 'bakelaw3.IdentSigns'. -/
def identSignsUptoCard : Claim7 := { stood := { row := identSignsUptoRow, standIns := [], harness := (true, "b199514967f8e8b0a332d51bb565a8eb325623099e0a5d795d8cb45bd55b7a70"), looks := false }, kinds := [], alts := [], laidByText := true, laidKinds := [.data, .data, .data, .data, .pinned], laidTests := true, laidLooks := .later }
def IdentSignsUptoCardSaid : Prop := Claim7.holds Tryz.pinned (.plain (OpenSpec.upto identSignsSpec)) identSignsUptoCard
end Rows
end Go.Proofs.YtcppmlgnceldmaaGreatDoor
