/-
  No cell of these rows narrows 'for every input' (looked for: loops, veiled, ifaces, maps, wideKeys, modest, calm, conditions, laid).
  DERIVED. THE GIVEN ROWS OF THIS SEAT. 12 by the template 'for every input the law returns true; each argument reads behind the call as it read before'; 0 by the template 'total and deterministic' (their statements: YtimkpdbghbhkkaaTotals.lean).
  GIVEN WITH THE SEED: the statements are not yours to turn. If you find one false, say at which input.
  Laid BY PROGRAM, IN A SANDBOX (cutbox-rows.mjs): the forced cells as the released guide's own fill.sh prints them over the translation 0d62919c31e80853… (all of the seat's roots in one cut). By AI agents, Wed Nov 11 2026. No macro, syntax, notation, axiom, sorry.
-/
import Derived.Test.YtimkpdbghbhkkaaChecked
import GoSem.Claim
import GoSem.ClaimJoined
import GoSem.ClaimMapViews
import Derived.JoinedTies
import Derived.KernelRfl
namespace Go.Proofs.Ytimkpdbghbhkkaa
/- THE CELL 'sum', in the pinned program and in every row, IS THE sha256 OF THE DUMP (.gsa) THAT YtimkpdbghbhkkaaProg.lean LOADS. Nothing in Lean hashes anything: it is a label: what it is worth is what the hold of that sum in a sandbox is worth. -/
noncomputable def Try.pinned : Pinned := { name := "ytimkpdbghbhkkaa", sum := "0d62919c31e80853825b8bc8a2446b3df55266e391f9c67998f6074d2377a8c6", checked := Try.checked }
namespace Rows
def none {H : Type} : Left H := { results := [], args := [] }

/-- 'bakelaw3.SampRates': WHATEVER THE INPUT: true; the input reads as it did. -/
def sampRatesSpec : ChangeSpec := { name := "sampRates", fn := fun _ => fun
  | [d1, d2, d3] => { results := [.lit (.bool true)], args := [d1, d2, d3] }
  | _ => none }
def sampRatesRow : OpenClaim := { program := "ytimkpdbghbhkkaa", sum := "0d62919c31e80853825b8bc8a2446b3df55266e391f9c67998f6074d2377a8c6", func := "bakelite/bakelaw3.SampRates", spec := "sampRates", unfollowed := true, recurses := true, apart := false }
def SampRatesSaid : Prop := sampRatesRow.holds Try.pinned (OpenSpec.ofChange sampRatesSpec)

/-- ITS FALSE NEIGHBOUR: 'it returns false'. Refute it at one input. -/
def sampRatesWrong : ChangeSpec := { name := "sampRates", fn := fun _ => fun
  | [d1, d2, d3] => { results := [.lit (.bool false)], args := [d1, d2, d3] }
  | _ => none }
def SampRatesWrongFalsely : Prop := sampRatesRow.holds Try.pinned (OpenSpec.ofChange sampRatesWrong)

/-- 'bakelaw3.SampOfs': WHATEVER THE INPUT: true; the input reads as it did. -/
def sampOfsSpec : ChangeSpec := { name := "sampOfs", fn := fun _ => fun
  | [d1, d2, d3, d4, d5] => { results := [.lit (.bool true)], args := [d1, d2, d3, d4, d5] }
  | _ => none }
def sampOfsRow : OpenClaim := { program := "ytimkpdbghbhkkaa", sum := "0d62919c31e80853825b8bc8a2446b3df55266e391f9c67998f6074d2377a8c6", func := "bakelite/bakelaw3.SampOfs", spec := "sampOfs", unfollowed := true, recurses := true, apart := false }
def SampOfsSaid : Prop := sampOfsRow.holds Try.pinned (OpenSpec.ofChange sampOfsSpec)

/-- ITS FALSE NEIGHBOUR: 'it returns false'. Refute it at one input. -/
def sampOfsWrong : ChangeSpec := { name := "sampOfs", fn := fun _ => fun
  | [d1, d2, d3, d4, d5] => { results := [.lit (.bool false)], args := [d1, d2, d3, d4, d5] }
  | _ => none }
def SampOfsWrongFalsely : Prop := sampOfsRow.holds Try.pinned (OpenSpec.ofChange sampOfsWrong)

/-- 'bakelaw3.KeysJoys': WHATEVER THE INPUT: true; the input reads as it did. -/
def keysJoysSpec : ChangeSpec := { name := "keysJoys", fn := fun _ => fun
  | [d1, d2, d3] => { results := [.lit (.bool true)], args := [d1, d2, d3] }
  | _ => none }
def keysJoysRow : OpenClaim := { program := "ytimkpdbghbhkkaa", sum := "0d62919c31e80853825b8bc8a2446b3df55266e391f9c67998f6074d2377a8c6", func := "bakelite/bakelaw3.KeysJoys", spec := "keysJoys", apart := false }
def KeysJoysSaid : Prop := keysJoysRow.holds Try.pinned (OpenSpec.ofChange keysJoysSpec)

/-- ITS FALSE NEIGHBOUR: 'it returns false'. Refute it at one input. -/
def keysJoysWrong : ChangeSpec := { name := "keysJoys", fn := fun _ => fun
  | [d1, d2, d3] => { results := [.lit (.bool false)], args := [d1, d2, d3] }
  | _ => none }
def KeysJoysWrongFalsely : Prop := keysJoysRow.holds Try.pinned (OpenSpec.ofChange keysJoysWrong)

/-- 'bakelaw3.KeysBoards': WHATEVER THE INPUT: true; the input reads as it did. -/
def keysBoardsSpec : ChangeSpec := { name := "keysBoards", fn := fun _ => fun
  | [d1, d2, d3] => { results := [.lit (.bool true)], args := [d1, d2, d3] }
  | _ => none }
def keysBoardsRow : OpenClaim := { program := "ytimkpdbghbhkkaa", sum := "0d62919c31e80853825b8bc8a2446b3df55266e391f9c67998f6074d2377a8c6", func := "bakelite/bakelaw3.KeysBoards", spec := "keysBoards", unfollowed := true, recurses := true, apart := false }
def KeysBoardsSaid : Prop := keysBoardsRow.holds Try.pinned (OpenSpec.ofChange keysBoardsSpec)

/-- ITS FALSE NEIGHBOUR: 'it returns false'. Refute it at one input. -/
def keysBoardsWrong : ChangeSpec := { name := "keysBoards", fn := fun _ => fun
  | [d1, d2, d3] => { results := [.lit (.bool false)], args := [d1, d2, d3] }
  | _ => none }
def KeysBoardsWrongFalsely : Prop := keysBoardsRow.holds Try.pinned (OpenSpec.ofChange keysBoardsWrong)

/-- 'bakelaw3.MiniMakes': WHATEVER THE INPUT: true; the input reads as it did. -/
def miniMakesSpec : ChangeSpec := { name := "miniMakes", fn := fun _ => fun
  | [d1, d2, d3] => { results := [.lit (.bool true)], args := [d1, d2, d3] }
  | _ => none }
def miniMakesRow : OpenClaim := { program := "ytimkpdbghbhkkaa", sum := "0d62919c31e80853825b8bc8a2446b3df55266e391f9c67998f6074d2377a8c6", func := "bakelite/bakelaw3.MiniMakes", spec := "miniMakes", unfollowed := true, recurses := true, apart := false }
def MiniMakesSaid : Prop := miniMakesRow.holds Try.pinned (OpenSpec.ofChange miniMakesSpec)

/-- ITS FALSE NEIGHBOUR: 'it returns false'. Refute it at one input. -/
def miniMakesWrong : ChangeSpec := { name := "miniMakes", fn := fun _ => fun
  | [d1, d2, d3] => { results := [.lit (.bool false)], args := [d1, d2, d3] }
  | _ => none }
def MiniMakesWrongFalsely : Prop := miniMakesRow.holds Try.pinned (OpenSpec.ofChange miniMakesWrong)

/-- 'bakelaw3.FrameOfs': WHATEVER THE INPUT: true; the input reads as it did. -/
def frameOfsSpec : ChangeSpec := { name := "frameOfs", fn := fun _ => fun
  | [d1, d2, d3, d4, d5] => { results := [.lit (.bool true)], args := [d1, d2, d3, d4, d5] }
  | _ => none }
def frameOfsRow : OpenClaim := { program := "ytimkpdbghbhkkaa", sum := "0d62919c31e80853825b8bc8a2446b3df55266e391f9c67998f6074d2377a8c6", func := "bakelite/bakelaw3.FrameOfs", spec := "frameOfs", unfollowed := true, recurses := true, apart := false }
def FrameOfsSaid : Prop := frameOfsRow.holds Try.pinned (OpenSpec.ofChange frameOfsSpec)

/-- ITS FALSE NEIGHBOUR: 'it returns false'. Refute it at one input. -/
def frameOfsWrong : ChangeSpec := { name := "frameOfs", fn := fun _ => fun
  | [d1, d2, d3, d4, d5] => { results := [.lit (.bool false)], args := [d1, d2, d3, d4, d5] }
  | _ => none }
def FrameOfsWrongFalsely : Prop := frameOfsRow.holds Try.pinned (OpenSpec.ofChange frameOfsWrong)

/-- 'bakelaw3.MiniNumbers': WHATEVER THE INPUT: true; the input reads as it did. -/
def miniNumbersSpec : ChangeSpec := { name := "miniNumbers", fn := fun _ => fun
  | [d1, d2, d3] => { results := [.lit (.bool true)], args := [d1, d2, d3] }
  | _ => none }
def miniNumbersRow : OpenClaim := { program := "ytimkpdbghbhkkaa", sum := "0d62919c31e80853825b8bc8a2446b3df55266e391f9c67998f6074d2377a8c6", func := "bakelite/bakelaw3.MiniNumbers", spec := "miniNumbers", unfollowed := true, recurses := true, apart := false }
def MiniNumbersSaid : Prop := miniNumbersRow.holds Try.pinned (OpenSpec.ofChange miniNumbersSpec)

/-- ITS FALSE NEIGHBOUR: 'it returns false'. Refute it at one input. -/
def miniNumbersWrong : ChangeSpec := { name := "miniNumbers", fn := fun _ => fun
  | [d1, d2, d3] => { results := [.lit (.bool false)], args := [d1, d2, d3] }
  | _ => none }
def MiniNumbersWrongFalsely : Prop := miniNumbersRow.holds Try.pinned (OpenSpec.ofChange miniNumbersWrong)

/-- 'bakelaw3.LearnTables': WHATEVER THE INPUT: true; the input reads as it did. -/
def learnTablesSpec : ChangeSpec := { name := "learnTables", fn := fun _ => fun
  | [d1, d2, d3] => { results := [.lit (.bool true)], args := [d1, d2, d3] }
  | _ => none }
def learnTablesRow : OpenClaim := { program := "ytimkpdbghbhkkaa", sum := "0d62919c31e80853825b8bc8a2446b3df55266e391f9c67998f6074d2377a8c6", func := "bakelite/bakelaw3.LearnTables", spec := "learnTables", unfollowed := true, recurses := true, apart := false }
def LearnTablesSaid : Prop := learnTablesRow.holds Try.pinned (OpenSpec.ofChange learnTablesSpec)

/-- ITS FALSE NEIGHBOUR: 'it returns false'. Refute it at one input. -/
def learnTablesWrong : ChangeSpec := { name := "learnTables", fn := fun _ => fun
  | [d1, d2, d3] => { results := [.lit (.bool false)], args := [d1, d2, d3] }
  | _ => none }
def LearnTablesWrongFalsely : Prop := learnTablesRow.holds Try.pinned (OpenSpec.ofChange learnTablesWrong)

/-- 'bakelaw3.FrameChanges': WHATEVER THE INPUT: true; the input reads as it did. -/
def frameChangesSpec : ChangeSpec := { name := "frameChanges", fn := fun _ => fun
  | [d1, d2] => { results := [.lit (.bool true)], args := [d1, d2] }
  | _ => none }
def frameChangesRow : OpenClaim := { program := "ytimkpdbghbhkkaa", sum := "0d62919c31e80853825b8bc8a2446b3df55266e391f9c67998f6074d2377a8c6", func := "bakelite/bakelaw3.FrameChanges", spec := "frameChanges", unfollowed := true, recurses := true, apart := false }
def FrameChangesSaid : Prop := frameChangesRow.holds Try.pinned (OpenSpec.ofChange frameChangesSpec)

/-- ITS FALSE NEIGHBOUR: 'it returns false'. Refute it at one input. -/
def frameChangesWrong : ChangeSpec := { name := "frameChanges", fn := fun _ => fun
  | [d1, d2] => { results := [.lit (.bool false)], args := [d1, d2] }
  | _ => none }
def FrameChangesWrongFalsely : Prop := frameChangesRow.holds Try.pinned (OpenSpec.ofChange frameChangesWrong)

/-- 'bakelaw3.PaperPlots': WHATEVER THE INPUT: true; the input reads as it did. -/
def paperPlotsSpec : ChangeSpec := { name := "paperPlots", fn := fun _ => fun
  | [d] => { results := [.lit (.bool true)], args := [d] }
  | _ => none }
def paperPlotsRow : OpenClaim := { program := "ytimkpdbghbhkkaa", sum := "0d62919c31e80853825b8bc8a2446b3df55266e391f9c67998f6074d2377a8c6", func := "bakelite/bakelaw3.PaperPlots", spec := "paperPlots", unfollowed := true, recurses := true, apart := false }
def PaperPlotsSaid : Prop := paperPlotsRow.holds Try.pinned (OpenSpec.ofChange paperPlotsSpec)

/-- ITS FALSE NEIGHBOUR: 'it returns false'. Refute it at one input. -/
def paperPlotsWrong : ChangeSpec := { name := "paperPlots", fn := fun _ => fun
  | [d] => { results := [.lit (.bool false)], args := [d] }
  | _ => none }
def PaperPlotsWrongFalsely : Prop := paperPlotsRow.holds Try.pinned (OpenSpec.ofChange paperPlotsWrong)

/-- 'bakelaw3.GateRuns': WHATEVER THE INPUT: true; the input reads as it did. -/
def gateRunsSpec : ChangeSpec := { name := "gateRuns", fn := fun _ => fun
  | [d1, d2] => { results := [.lit (.bool true)], args := [d1, d2] }
  | _ => none }
def gateRunsRow : OpenClaim := { program := "ytimkpdbghbhkkaa", sum := "0d62919c31e80853825b8bc8a2446b3df55266e391f9c67998f6074d2377a8c6", func := "bakelite/bakelaw3.GateRuns", spec := "gateRuns", unfollowed := true, recurses := true, apart := false }
def GateRunsSaid : Prop := gateRunsRow.holds Try.pinned (OpenSpec.ofChange gateRunsSpec)

/-- ITS FALSE NEIGHBOUR: 'it returns false'. Refute it at one input. -/
def gateRunsWrong : ChangeSpec := { name := "gateRuns", fn := fun _ => fun
  | [d1, d2] => { results := [.lit (.bool false)], args := [d1, d2] }
  | _ => none }
def GateRunsWrongFalsely : Prop := gateRunsRow.holds Try.pinned (OpenSpec.ofChange gateRunsWrong)

/-- 'bakelaw3.SampMixes': WHATEVER THE INPUT: true; the input reads as it did. -/
def sampMixesSpec : ChangeSpec := { name := "sampMixes", fn := fun _ => fun
  | [d1, d2, d3] => { results := [.lit (.bool true)], args := [d1, d2, d3] }
  | _ => none }
def sampMixesRow : OpenClaim := { program := "ytimkpdbghbhkkaa", sum := "0d62919c31e80853825b8bc8a2446b3df55266e391f9c67998f6074d2377a8c6", func := "bakelite/bakelaw3.SampMixes", spec := "sampMixes", unfollowed := true, recurses := true, apart := false }
def SampMixesSaid : Prop := sampMixesRow.holds Try.pinned (OpenSpec.ofChange sampMixesSpec)

/-- ITS FALSE NEIGHBOUR: 'it returns false'. Refute it at one input. -/
def sampMixesWrong : ChangeSpec := { name := "sampMixes", fn := fun _ => fun
  | [d1, d2, d3] => { results := [.lit (.bool false)], args := [d1, d2, d3] }
  | _ => none }
def SampMixesWrongFalsely : Prop := sampMixesRow.holds Try.pinned (OpenSpec.ofChange sampMixesWrong)

/- THE SECOND FORM. 'bulk': how many values and letters a reading holds, each counted each time it is reached (what is shared counts as often as it is met; a slice's spare places count too). A statement '..UptoSaid' is the law's where the arguments, and the package variables that the reading takes, are together of bulk at most 1048576: NARROWER than '..Said'. Prove '..Said' where nothing that the law and all that it calls make is longer than what came in: it says more and counts as full. Else prove '..UptoSaid'. A law counts once. -/
mutual
def uptoBulk {H : Type} : DataW H → Nat
  | .lit (.string bytes) => bytes.length + 1
  | .lit _ => 1
  | .nil => 1
  | .ptr d => uptoBulk d + 1
  | .slice elems spare => uptoBulkAll elems + uptoBulkAll spare + 1
  | .agg parts => uptoBulkAll parts + 1
  | .iface _ d => uptoBulk d + 1
  | .map entries => uptoBulkEntries entries + 1
  | .held _ => 1
def uptoBulkAll {H : Type} : List (DataW H) → Nat
  | [] => 0
  | d :: r => uptoBulk d + uptoBulkAll r
def uptoBulkEntries {H : Type} : List (Lit × DataW H) → Nat
  | [] => 0
  | x :: r => uptoBulkEntry x + uptoBulkEntries r
def uptoBulkEntry {H : Type} : Lit × DataW H → Nat
  | (.string bytes, d) => bytes.length + uptoBulk d + 1
  | (_, d) => uptoBulk d + 1
 end
def uptoSmall : (H : Type) → List (DataW H) → Bool := fun _ ds => decide (uptoBulkAll ds ≤ 1048576)
def OpenSpec.upto (s : _root_.Go.ChangeSpec) : _root_.Go.OpenSpec := { _root_.Go.OpenSpec.ofChange s with cond := some uptoSmall }

/-- 'bakelaw3.SampRates', WHERE WHAT IT READS IS OF BULK AT MOST 1048576: true; the input reads as it did. -/
def sampRatesUptoRow : OpenClaim := { program := "ytimkpdbghbhkkaa", sum := "0d62919c31e80853825b8bc8a2446b3df55266e391f9c67998f6074d2377a8c6", func := "bakelite/bakelaw3.SampRates", spec := "sampRates", unfollowed := true, recurses := true, apart := false, narrowed := true }
def SampRatesUptoSaid : Prop := sampRatesUptoRow.holds Try.pinned (OpenSpec.upto sampRatesSpec)

/-- 'bakelaw3.SampOfs', WHERE WHAT IT READS IS OF BULK AT MOST 1048576: true; the input reads as it did. -/
def sampOfsUptoRow : OpenClaim := { program := "ytimkpdbghbhkkaa", sum := "0d62919c31e80853825b8bc8a2446b3df55266e391f9c67998f6074d2377a8c6", func := "bakelite/bakelaw3.SampOfs", spec := "sampOfs", unfollowed := true, recurses := true, apart := false, narrowed := true }
def SampOfsUptoSaid : Prop := sampOfsUptoRow.holds Try.pinned (OpenSpec.upto sampOfsSpec)

/-- 'bakelaw3.KeysJoys', WHERE WHAT IT READS IS OF BULK AT MOST 1048576: true; the input reads as it did. -/
def keysJoysUptoRow : OpenClaim := { program := "ytimkpdbghbhkkaa", sum := "0d62919c31e80853825b8bc8a2446b3df55266e391f9c67998f6074d2377a8c6", func := "bakelite/bakelaw3.KeysJoys", spec := "keysJoys", apart := false, narrowed := true }
def KeysJoysUptoSaid : Prop := keysJoysUptoRow.holds Try.pinned (OpenSpec.upto keysJoysSpec)

/-- 'bakelaw3.KeysBoards', WHERE WHAT IT READS IS OF BULK AT MOST 1048576: true; the input reads as it did. -/
def keysBoardsUptoRow : OpenClaim := { program := "ytimkpdbghbhkkaa", sum := "0d62919c31e80853825b8bc8a2446b3df55266e391f9c67998f6074d2377a8c6", func := "bakelite/bakelaw3.KeysBoards", spec := "keysBoards", unfollowed := true, recurses := true, apart := false, narrowed := true }
def KeysBoardsUptoSaid : Prop := keysBoardsUptoRow.holds Try.pinned (OpenSpec.upto keysBoardsSpec)

/-- 'bakelaw3.MiniMakes', WHERE WHAT IT READS IS OF BULK AT MOST 1048576: true; the input reads as it did. -/
def miniMakesUptoRow : OpenClaim := { program := "ytimkpdbghbhkkaa", sum := "0d62919c31e80853825b8bc8a2446b3df55266e391f9c67998f6074d2377a8c6", func := "bakelite/bakelaw3.MiniMakes", spec := "miniMakes", unfollowed := true, recurses := true, apart := false, narrowed := true }
def MiniMakesUptoSaid : Prop := miniMakesUptoRow.holds Try.pinned (OpenSpec.upto miniMakesSpec)

/-- 'bakelaw3.FrameOfs', WHERE WHAT IT READS IS OF BULK AT MOST 1048576: true; the input reads as it did. -/
def frameOfsUptoRow : OpenClaim := { program := "ytimkpdbghbhkkaa", sum := "0d62919c31e80853825b8bc8a2446b3df55266e391f9c67998f6074d2377a8c6", func := "bakelite/bakelaw3.FrameOfs", spec := "frameOfs", unfollowed := true, recurses := true, apart := false, narrowed := true }
def FrameOfsUptoSaid : Prop := frameOfsUptoRow.holds Try.pinned (OpenSpec.upto frameOfsSpec)

/-- 'bakelaw3.MiniNumbers', WHERE WHAT IT READS IS OF BULK AT MOST 1048576: true; the input reads as it did. -/
def miniNumbersUptoRow : OpenClaim := { program := "ytimkpdbghbhkkaa", sum := "0d62919c31e80853825b8bc8a2446b3df55266e391f9c67998f6074d2377a8c6", func := "bakelite/bakelaw3.MiniNumbers", spec := "miniNumbers", unfollowed := true, recurses := true, apart := false, narrowed := true }
def MiniNumbersUptoSaid : Prop := miniNumbersUptoRow.holds Try.pinned (OpenSpec.upto miniNumbersSpec)

/-- 'bakelaw3.LearnTables', WHERE WHAT IT READS IS OF BULK AT MOST 1048576: true; the input reads as it did. -/
def learnTablesUptoRow : OpenClaim := { program := "ytimkpdbghbhkkaa", sum := "0d62919c31e80853825b8bc8a2446b3df55266e391f9c67998f6074d2377a8c6", func := "bakelite/bakelaw3.LearnTables", spec := "learnTables", unfollowed := true, recurses := true, apart := false, narrowed := true }
def LearnTablesUptoSaid : Prop := learnTablesUptoRow.holds Try.pinned (OpenSpec.upto learnTablesSpec)

/-- 'bakelaw3.FrameChanges', WHERE WHAT IT READS IS OF BULK AT MOST 1048576: true; the input reads as it did. -/
def frameChangesUptoRow : OpenClaim := { program := "ytimkpdbghbhkkaa", sum := "0d62919c31e80853825b8bc8a2446b3df55266e391f9c67998f6074d2377a8c6", func := "bakelite/bakelaw3.FrameChanges", spec := "frameChanges", unfollowed := true, recurses := true, apart := false, narrowed := true }
def FrameChangesUptoSaid : Prop := frameChangesUptoRow.holds Try.pinned (OpenSpec.upto frameChangesSpec)

/-- 'bakelaw3.PaperPlots', WHERE WHAT IT READS IS OF BULK AT MOST 1048576: true; the input reads as it did. -/
def paperPlotsUptoRow : OpenClaim := { program := "ytimkpdbghbhkkaa", sum := "0d62919c31e80853825b8bc8a2446b3df55266e391f9c67998f6074d2377a8c6", func := "bakelite/bakelaw3.PaperPlots", spec := "paperPlots", unfollowed := true, recurses := true, apart := false, narrowed := true }
def PaperPlotsUptoSaid : Prop := paperPlotsUptoRow.holds Try.pinned (OpenSpec.upto paperPlotsSpec)

/-- 'bakelaw3.GateRuns', WHERE WHAT IT READS IS OF BULK AT MOST 1048576: true; the input reads as it did. -/
def gateRunsUptoRow : OpenClaim := { program := "ytimkpdbghbhkkaa", sum := "0d62919c31e80853825b8bc8a2446b3df55266e391f9c67998f6074d2377a8c6", func := "bakelite/bakelaw3.GateRuns", spec := "gateRuns", unfollowed := true, recurses := true, apart := false, narrowed := true }
def GateRunsUptoSaid : Prop := gateRunsUptoRow.holds Try.pinned (OpenSpec.upto gateRunsSpec)

/-- 'bakelaw3.SampMixes', WHERE WHAT IT READS IS OF BULK AT MOST 1048576: true; the input reads as it did. -/
def sampMixesUptoRow : OpenClaim := { program := "ytimkpdbghbhkkaa", sum := "0d62919c31e80853825b8bc8a2446b3df55266e391f9c67998f6074d2377a8c6", func := "bakelite/bakelaw3.SampMixes", spec := "sampMixes", unfollowed := true, recurses := true, apart := false, narrowed := true }
def SampMixesUptoSaid : Prop := sampMixesUptoRow.holds Try.pinned (OpenSpec.upto sampMixesSpec)

end Rows
end Go.Proofs.Ytimkpdbghbhkkaa
