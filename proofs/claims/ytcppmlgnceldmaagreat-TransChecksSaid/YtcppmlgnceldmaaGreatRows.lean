/-
  No cell of these rows narrows 'for every input' (looked for: loops, veiled, ifaces, maps, wideKeys, modest, calm, conditions, laid).
  DERIVED. THE GIVEN ROWS OF THIS SEAT. 4 by the template 'for every input the law returns true; each argument reads behind the call as it read before'; 0 by the template 'total and deterministic' (their statements: YtcppmlgnceldmaaGreatTotals.lean).
  GIVEN WITH THE SEED: the statements are not yours to turn. If you find one false, say at which input.
  Laid BY PROGRAM, IN A SANDBOX (cutbox-rows.mjs): the forced cells as the released guide's own fill.sh prints them over the translation fa3d91b697bd7700… (all of the seat's roots in one cut). By AI agents, Wed Nov 11 2026. No macro, syntax, notation, axiom, sorry.
-/
import Derived.Test.YtcppmlgnceldmaaGreatChecked
import GoSem.Claim
import GoSem.ClaimJoined
import GoSem.ClaimMapViews
import Derived.JoinedTies
import Derived.KernelRfl
namespace Go.Proofs.YtcppmlgnceldmaaGreat
/- THE CELL 'sum', in the pinned program and in every row, IS THE sha256 OF THE DUMP (.gsa) THAT YtcppmlgnceldmaaGreatProg.lean LOADS. Nothing in Lean hashes anything: it is a label: what it is worth is what the hold of that sum in a sandbox is worth. -/
noncomputable def Tryz.pinned : Pinned := { name := "ytcppmlgnceldmaagreat", sum := "fa3d91b697bd77001d1905f86f2f0bcaeab13f5853db45a7f948fefeaf143265", checked := Tryz.checked }
namespace Rows
def none {H : Type} : Left H := { results := [], args := [] }

/-- 'bakelaw3.GenFinds': WHATEVER THE INPUT: true; the input reads as it did. -/
def genFindsSpec : ChangeSpec := { name := "genFinds", fn := fun _ => fun
  | [d1, d2] => { results := [.lit (.bool true)], args := [d1, d2] }
  | _ => none }
def genFindsRow : OpenClaim := { program := "ytcppmlgnceldmaagreat", sum := "fa3d91b697bd77001d1905f86f2f0bcaeab13f5853db45a7f948fefeaf143265", func := "bakelite/bakelaw3.GenFinds", spec := "genFinds", unfollowed := true, recurses := true, apart := false }
def GenFindsSaid : Prop := genFindsRow.holds Tryz.pinned (OpenSpec.ofChange genFindsSpec)

/-- ITS FALSE NEIGHBOUR: 'it returns false'. Refute it at one input. -/
def genFindsWrong : ChangeSpec := { name := "genFinds", fn := fun _ => fun
  | [d1, d2] => { results := [.lit (.bool false)], args := [d1, d2] }
  | _ => none }
def GenFindsWrongFalsely : Prop := genFindsRow.holds Tryz.pinned (OpenSpec.ofChange genFindsWrong)

/-- 'bakelaw3.FlowNexts': WHATEVER THE INPUT: true; the input reads as it did. -/
def flowNextsSpec : ChangeSpec := { name := "flowNexts", fn := fun _ => fun
  | [d1, d2, d3] => { results := [.lit (.bool true)], args := [d1, d2, d3] }
  | _ => none }
def flowNextsRow : OpenClaim := { program := "ytcppmlgnceldmaagreat", sum := "fa3d91b697bd77001d1905f86f2f0bcaeab13f5853db45a7f948fefeaf143265", func := "bakelite/bakelaw3.FlowNexts", spec := "flowNexts", unfollowed := true, recurses := true, apart := false }
def FlowNextsSaid : Prop := flowNextsRow.holds Tryz.pinned (OpenSpec.ofChange flowNextsSpec)

/-- ITS FALSE NEIGHBOUR: 'it returns false'. Refute it at one input. -/
def flowNextsWrong : ChangeSpec := { name := "flowNexts", fn := fun _ => fun
  | [d1, d2, d3] => { results := [.lit (.bool false)], args := [d1, d2, d3] }
  | _ => none }
def FlowNextsWrongFalsely : Prop := flowNextsRow.holds Tryz.pinned (OpenSpec.ofChange flowNextsWrong)

/-- 'bakelaw3.TransMakes': WHATEVER THE INPUT: true; the input reads as it did. -/
def transMakesSpec : ChangeSpec := { name := "transMakes", fn := fun _ => fun
  | [d1, d2, d3] => { results := [.lit (.bool true)], args := [d1, d2, d3] }
  | _ => none }
def transMakesRow : OpenClaim := { program := "ytcppmlgnceldmaagreat", sum := "fa3d91b697bd77001d1905f86f2f0bcaeab13f5853db45a7f948fefeaf143265", func := "bakelite/bakelaw3.TransMakes", spec := "transMakes", unfollowed := true, recurses := true, apart := false }
def TransMakesSaid : Prop := transMakesRow.holds Tryz.pinned (OpenSpec.ofChange transMakesSpec)

/-- ITS FALSE NEIGHBOUR: 'it returns false'. Refute it at one input. -/
def transMakesWrong : ChangeSpec := { name := "transMakes", fn := fun _ => fun
  | [d1, d2, d3] => { results := [.lit (.bool false)], args := [d1, d2, d3] }
  | _ => none }
def TransMakesWrongFalsely : Prop := transMakesRow.holds Tryz.pinned (OpenSpec.ofChange transMakesWrong)

/-- 'bakelaw3.TransChecks': WHATEVER THE INPUT: true; the input reads as it did. -/
def transChecksSpec : ChangeSpec := { name := "transChecks", fn := fun _ => fun
  | [d1, d2] => { results := [.lit (.bool true)], args := [d1, d2] }
  | _ => none }
def transChecksRow : OpenClaim := { program := "ytcppmlgnceldmaagreat", sum := "fa3d91b697bd77001d1905f86f2f0bcaeab13f5853db45a7f948fefeaf143265", func := "bakelite/bakelaw3.TransChecks", spec := "transChecks", unfollowed := true, recurses := true, apart := false }
def TransChecksSaid : Prop := transChecksRow.holds Tryz.pinned (OpenSpec.ofChange transChecksSpec)

/-- ITS FALSE NEIGHBOUR: 'it returns false'. Refute it at one input. -/
def transChecksWrong : ChangeSpec := { name := "transChecks", fn := fun _ => fun
  | [d1, d2] => { results := [.lit (.bool false)], args := [d1, d2] }
  | _ => none }
def TransChecksWrongFalsely : Prop := transChecksRow.holds Tryz.pinned (OpenSpec.ofChange transChecksWrong)

/- THE SECOND FORM. 'bulk': how many values and letters a reading holds, each counted each time it is reached (what is shared counts as often as it is met; a slice's spare places count too). A statement '..UptoSaid' is the law's where the arguments, and the package variables that the reading takes, are together of bulk at most 1048576: NARROWER than '..Said'. Prove '..Said' where nothing that the law and all that it calls make is longer than what came in: it says more and counts as full. Else prove '..UptoSaid'. A law counts once. -/
mutual
def uptoBulk {H : Type} : DataW H → Nat
  | .lit (.string bytes) => bytes.length + 1
  | .lit _ => 1
  | .nil => 1
  | .ptr d => uptoBulk d + 1
  | .slice elems spare => uptoBulkAll elems + uptoBulkAll spare + 1
  | .agg parts => uptoBulkAll parts + 1
  | .iface _ d => uptoBulk d + 1
  | .map entries => uptoBulkEntries entries + 1
  | .held _ => 1
def uptoBulkAll {H : Type} : List (DataW H) → Nat
  | [] => 0
  | d :: r => uptoBulk d + uptoBulkAll r
def uptoBulkEntries {H : Type} : List (Lit × DataW H) → Nat
  | [] => 0
  | x :: r => uptoBulkEntry x + uptoBulkEntries r
def uptoBulkEntry {H : Type} : Lit × DataW H → Nat
  | (.string bytes, d) => bytes.length + uptoBulk d + 1
  | (_, d) => uptoBulk d + 1
 end
def uptoSmall : (H : Type) → List (DataW H) → Bool := fun _ ds => decide (uptoBulkAll ds ≤ 1048576)
def OpenSpec.upto (s : _root_.Go.ChangeSpec) : _root_.Go.OpenSpec := { _root_.Go.OpenSpec.ofChange s with cond := some uptoSmall }

/-- 'bakelaw3.GenFinds', WHERE WHAT IT READS IS OF BULK AT MOST 1048576: true; the input reads as it did. -/
def genFindsUptoRow : OpenClaim := { program := "ytcppmlgnceldmaagreat", sum := "fa3d91b697bd77001d1905f86f2f0bcaeab13f5853db45a7f948fefeaf143265", func := "bakelite/bakelaw3.GenFinds", spec := "genFinds", unfollowed := true, recurses := true, apart := false, narrowed := true }
def GenFindsUptoSaid : Prop := genFindsUptoRow.holds Tryz.pinned (OpenSpec.upto genFindsSpec)

/-- 'bakelaw3.FlowNexts', WHERE WHAT IT READS IS OF BULK AT MOST 1048576: true; the input reads as it did. -/
def flowNextsUptoRow : OpenClaim := { program := "ytcppmlgnceldmaagreat", sum := "fa3d91b697bd77001d1905f86f2f0bcaeab13f5853db45a7f948fefeaf143265", func := "bakelite/bakelaw3.FlowNexts", spec := "flowNexts", unfollowed := true, recurses := true, apart := false, narrowed := true }
def FlowNextsUptoSaid : Prop := flowNextsUptoRow.holds Tryz.pinned (OpenSpec.upto flowNextsSpec)

/-- 'bakelaw3.TransMakes', WHERE WHAT IT READS IS OF BULK AT MOST 1048576: true; the input reads as it did. -/
def transMakesUptoRow : OpenClaim := { program := "ytcppmlgnceldmaagreat", sum := "fa3d91b697bd77001d1905f86f2f0bcaeab13f5853db45a7f948fefeaf143265", func := "bakelite/bakelaw3.TransMakes", spec := "transMakes", unfollowed := true, recurses := true, apart := false, narrowed := true }
def TransMakesUptoSaid : Prop := transMakesUptoRow.holds Tryz.pinned (OpenSpec.upto transMakesSpec)

/-- 'bakelaw3.TransChecks', WHERE WHAT IT READS IS OF BULK AT MOST 1048576: true; the input reads as it did. -/
def transChecksUptoRow : OpenClaim := { program := "ytcppmlgnceldmaagreat", sum := "fa3d91b697bd77001d1905f86f2f0bcaeab13f5853db45a7f948fefeaf143265", func := "bakelite/bakelaw3.TransChecks", spec := "transChecks", unfollowed := true, recurses := true, apart := false, narrowed := true }
def TransChecksUptoSaid : Prop := transChecksUptoRow.holds Tryz.pinned (OpenSpec.upto transChecksSpec)

end Rows
end Go.Proofs.YtcppmlgnceldmaaGreat
