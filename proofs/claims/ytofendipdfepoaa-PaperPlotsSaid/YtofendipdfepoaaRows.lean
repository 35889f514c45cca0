/-
  No cell of these rows narrows 'for every input' (looked for: loops, veiled, ifaces, maps, wideKeys, modest, calm, conditions, laid).
  DERIVED. THE GIVEN ROWS OF THIS SEAT. 6 by the template 'for every input the law returns true; each argument reads behind the call as it read before'; 0 by the template 'total and deterministic' (their statements: YtofendipdfepoaaTotals.lean).
  GIVEN WITH THE SEED: the statements are not yours to turn. If you find one false, say at which input.
  Laid BY PROGRAM, IN A SANDBOX (cutbox-rows.mjs): the forced cells as the released guide's own fill.sh prints them over the translation 3b2dd5a0a144f69f… (all of the seat's roots in one cut). By AI agents, Wed Nov 11 2026. No macro, syntax, notation, axiom, sorry.
-/
import Derived.Test.YtofendipdfepoaaChecked
import GoSem.Claim
import GoSem.ClaimJoined
import GoSem.ClaimMapViews
import Derived.JoinedTies
import Derived.KernelRfl
namespace Go.Proofs.Ytofendipdfepoaa
/- THE CELL 'sum', in the pinned program and in every row, IS THE sha256 OF THE DUMP (.gsa) THAT YtofendipdfepoaaProg.lean LOADS. Nothing in Lean hashes anything: it is a label: what it is worth is what the hold of that sum in a sandbox is worth. -/
noncomputable def Try.pinned : Pinned := { name := "ytofendipdfepoaa", sum := "3b2dd5a0a144f69f3b315bb6db783aaa5fbbfefcc8025c086fd59faeeaff3a11", checked := Try.checked }
namespace Rows
def none {H : Type} : Left H := { results := [], args := [] }

/-- 'bakelaw3.LearnTables': WHATEVER THE INPUT: true; the input reads as it did. -/
def learnTablesSpec : ChangeSpec := { name := "learnTables", fn := fun _ => fun
  | [d1, d2, d3] => { results := [.lit (.bool true)], args := [d1, d2, d3] }
  | _ => none }
def learnTablesRow : OpenClaim := { program := "ytofendipdfepoaa", sum := "3b2dd5a0a144f69f3b315bb6db783aaa5fbbfefcc8025c086fd59faeeaff3a11", func := "bakelite/bakelaw3.LearnTables", spec := "learnTables", unfollowed := true, recurses := true, plainKeys := false, apart := false }
def LearnTablesSaid : Prop := learnTablesRow.holds Try.pinned (OpenSpec.ofChange learnTablesSpec)

/-- ITS FALSE NEIGHBOUR: 'it returns false'. Refute it at one input. -/
def learnTablesWrong : ChangeSpec := { name := "learnTables", fn := fun _ => fun
  | [d1, d2, d3] => { results := [.lit (.bool false)], args := [d1, d2, d3] }
  | _ => none }
def LearnTablesWrongFalsely : Prop := learnTablesRow.holds Try.pinned (OpenSpec.ofChange learnTablesWrong)

/-- 'bakelaw3.PaperPlots': WHATEVER THE INPUT: true; the input reads as it did. -/
def paperPlotsSpec : ChangeSpec := { name := "paperPlots", fn := fun _ => fun
  | [d] => { results := [.lit (.bool true)], args := [d] }
  | _ => none }
def paperPlotsRow : OpenClaim := { program := "ytofendipdfepoaa", sum := "3b2dd5a0a144f69f3b315bb6db783aaa5fbbfefcc8025c086fd59faeeaff3a11", func := "bakelite/bakelaw3.PaperPlots", spec := "paperPlots", unfollowed := true, recurses := true, plainKeys := false, apart := false }
def PaperPlotsSaid : Prop := paperPlotsRow.holds Try.pinned (OpenSpec.ofChange paperPlotsSpec)

/-- ITS FALSE NEIGHBOUR: 'it returns false'. Refute it at one input. -/
def paperPlotsWrong : ChangeSpec := { name := "paperPlots", fn := fun _ => fun
  | [d] => { results := [.lit (.bool false)], args := [d] }
  | _ => none }
def PaperPlotsWrongFalsely : Prop := paperPlotsRow.holds Try.pinned (OpenSpec.ofChange paperPlotsWrong)

/-- 'bakelaw3.FrameTexts': WHATEVER THE INPUT: true; the input reads as it did. -/
def frameTextsSpec : ChangeSpec := { name := "frameTexts", fn := fun _ => fun
  | [d1, d2, d3] => { results := [.lit (.bool true)], args := [d1, d2, d3] }
  | _ => none }
def frameTextsRow : OpenClaim := { program := "ytofendipdfepoaa", sum := "3b2dd5a0a144f69f3b315bb6db783aaa5fbbfefcc8025c086fd59faeeaff3a11", func := "bakelite/bakelaw3.FrameTexts", spec := "frameTexts", inPlace := ["internal/abi.NoEscape", "internal/bytealg.IndexByteString"], unfollowed := true, recurses := true, plainKeys := false, apart := false }
def FrameTextsSaid : Prop := frameTextsRow.holds Try.pinned (OpenSpec.ofChange frameTextsSpec)

/-- ITS FALSE NEIGHBOUR: 'it returns false'. Refute it at one input. -/
def frameTextsWrong : ChangeSpec := { name := "frameTexts", fn := fun _ => fun
  | [d1, d2, d3] => { results := [.lit (.bool false)], args := [d1, d2, d3] }
  | _ => none }
def FrameTextsWrongFalsely : Prop := frameTextsRow.holds Try.pinned (OpenSpec.ofChange frameTextsWrong)

/-- 'bakelaw3.LearnAsks': WHATEVER THE INPUT: true; the input reads as it did. -/
def learnAsksSpec : ChangeSpec := { name := "learnAsks", fn := fun _ => fun
  | [d1, d2, d3] => { results := [.lit (.bool true)], args := [d1, d2, d3] }
  | _ => none }
def learnAsksRow : OpenClaim := { program := "ytofendipdfepoaa", sum := "3b2dd5a0a144f69f3b315bb6db783aaa5fbbfefcc8025c086fd59faeeaff3a11", func := "bakelite/bakelaw3.LearnAsks", spec := "learnAsks", unfollowed := true, recurses := true, plainKeys := false, apart := false }
def LearnAsksSaid : Prop := learnAsksRow.holds Try.pinned (OpenSpec.ofChange learnAsksSpec)

/-- ITS FALSE NEIGHBOUR: 'it returns false'. Refute it at one input. -/
def learnAsksWrong : ChangeSpec := { name := "learnAsks", fn := fun _ => fun
  | [d1, d2, d3] => { results := [.lit (.bool false)], args := [d1, d2, d3] }
  | _ => none }
def LearnAsksWrongFalsely : Prop := learnAsksRow.holds Try.pinned (OpenSpec.ofChange learnAsksWrong)

/-- 'bakelaw3.KeysSteadies': WHATEVER THE INPUT: true; the input reads as it did. -/
def keysSteadiesSpec : ChangeSpec := { name := "keysSteadies", fn := fun _ => fun
  | [d1, d2, d3] => { results := [.lit (.bool true)], args := [d1, d2, d3] }
  | _ => none }
def keysSteadiesRow : OpenClaim := { program := "ytofendipdfepoaa", sum := "3b2dd5a0a144f69f3b315bb6db783aaa5fbbfefcc8025c086fd59faeeaff3a11", func := "bakelite/bakelaw3.KeysSteadies", spec := "keysSteadies", unfollowed := true, recurses := true, plainKeys := false, apart := false }
def KeysSteadiesSaid : Prop := keysSteadiesRow.holds Try.pinned (OpenSpec.ofChange keysSteadiesSpec)

/-- ITS FALSE NEIGHBOUR: 'it returns false'. Refute it at one input. -/
def keysSteadiesWrong : ChangeSpec := { name := "keysSteadies", fn := fun _ => fun
  | [d1, d2, d3] => { results := [.lit (.bool false)], args := [d1, d2, d3] }
  | _ => none }
def KeysSteadiesWrongFalsely : Prop := keysSteadiesRow.holds Try.pinned (OpenSpec.ofChange keysSteadiesWrong)

/-- 'bakelaw3.EqualFinds': WHATEVER THE INPUT: true; the input reads as it did. -/
def equalFindsSpec : ChangeSpec := { name := "equalFinds", fn := fun _ => fun
  | [d1, d2] => { results := [.lit (.bool true)], args := [d1, d2] }
  | _ => none }
def equalFindsRow : OpenClaim := { program := "ytofendipdfepoaa", sum := "3b2dd5a0a144f69f3b315bb6db783aaa5fbbfefcc8025c086fd59faeeaff3a11", func := "bakelite/bakelaw3.EqualFinds", spec := "equalFinds", unfollowed := true, recurses := true, plainKeys := false, apart := false }
def EqualFindsSaid : Prop := equalFindsRow.holds Try.pinned (OpenSpec.ofChange equalFindsSpec)

/-- ITS FALSE NEIGHBOUR: 'it returns false'. Refute it at one input. -/
def equalFindsWrong : ChangeSpec := { name := "equalFinds", fn := fun _ => fun
  | [d1, d2] => { results := [.lit (.bool false)], args := [d1, d2] }
  | _ => none }
def EqualFindsWrongFalsely : Prop := equalFindsRow.holds Try.pinned (OpenSpec.ofChange equalFindsWrong)

/- THE SECOND FORM. 'bulk': how many values and letters a reading holds, each counted each time it is reached (what is shared counts as often as it is met; a slice's spare places count too). A statement '..UptoSaid' is the law's where the arguments, and the package variables that the reading takes, are together of bulk at most 1048576: NARROWER than '..Said'. Prove '..Said' where nothing that the law and all that it calls make is longer than what came in: it says more and counts as full. Else prove '..UptoSaid'. A law counts once. -/
mutual
def uptoBulk {H : Type} : DataW H → Nat
  | .lit (.string bytes) => bytes.length + 1
  | .lit _ => 1
  | .nil => 1
  | .ptr d => uptoBulk d + 1
  | .slice elems spare => uptoBulkAll elems + uptoBulkAll spare + 1
  | .agg parts => uptoBulkAll parts + 1
  | .iface _ d => uptoBulk d + 1
  | .map entries => uptoBulkEntries entries + 1
  | .held _ => 1
def uptoBulkAll {H : Type} : List (DataW H) → Nat
  | [] => 0
  | d :: r => uptoBulk d + uptoBulkAll r
def uptoBulkEntries {H : Type} : List (Lit × DataW H) → Nat
  | [] => 0
  | x :: r => uptoBulkEntry x + uptoBulkEntries r
def uptoBulkEntry {H : Type} : Lit × DataW H → Nat
  | (.string bytes, d) => bytes.length + uptoBulk d + 1
  | (_, d) => uptoBulk d + 1
 end
def uptoSmall : (H : Type) → List (DataW H) → Bool := fun _ ds => decide (uptoBulkAll ds ≤ 1048576)
def OpenSpec.upto (s : _root_.Go.ChangeSpec) : _root_.Go.OpenSpec := { _root_.Go.OpenSpec.ofChange s with cond := some uptoSmall }

/-- 'bakelaw3.LearnTables', WHERE WHAT IT READS IS OF BULK AT MOST 1048576: true; the input reads as it did. -/
def learnTablesUptoRow : OpenClaim := { program := "ytofendipdfepoaa", sum := "3b2dd5a0a144f69f3b315bb6db783aaa5fbbfefcc8025c086fd59faeeaff3a11", func := "bakelite/bakelaw3.LearnTables", spec := "learnTables", unfollowed := true, recurses := true, plainKeys := false, apart := false, narrowed := true }
def LearnTablesUptoSaid : Prop := learnTablesUptoRow.holds Try.pinned (OpenSpec.upto learnTablesSpec)

/-- 'bakelaw3.PaperPlots', WHERE WHAT IT READS IS OF BULK AT MOST 1048576: true; the input reads as it did. -/
def paperPlotsUptoRow : OpenClaim := { program := "ytofendipdfepoaa", sum := "3b2dd5a0a144f69f3b315bb6db783aaa5fbbfefcc8025c086fd59faeeaff3a11", func := "bakelite/bakelaw3.PaperPlots", spec := "paperPlots", unfollowed := true, recurses := true, plainKeys := false, apart := false, narrowed := true }
def PaperPlotsUptoSaid : Prop := paperPlotsUptoRow.holds Try.pinned (OpenSpec.upto paperPlotsSpec)

/-- 'bakelaw3.FrameTexts', WHERE WHAT IT READS IS OF BULK AT MOST 1048576: true; the input reads as it did. -/
def frameTextsUptoRow : OpenClaim := { program := "ytofendipdfepoaa", sum := "3b2dd5a0a144f69f3b315bb6db783aaa5fbbfefcc8025c086fd59faeeaff3a11", func := "bakelite/bakelaw3.FrameTexts", spec := "frameTexts", inPlace := ["internal/abi.NoEscape", "internal/bytealg.IndexByteString"], unfollowed := true, recurses := true, plainKeys := false, apart := false, narrowed := true }
def FrameTextsUptoSaid : Prop := frameTextsUptoRow.holds Try.pinned (OpenSpec.upto frameTextsSpec)

/-- 'bakelaw3.LearnAsks', WHERE WHAT IT READS IS OF BULK AT MOST 1048576: true; the input reads as it did. -/
def learnAsksUptoRow : OpenClaim := { program := "ytofendipdfepoaa", sum := "3b2dd5a0a144f69f3b315bb6db783aaa5fbbfefcc8025c086fd59faeeaff3a11", func := "bakelite/bakelaw3.LearnAsks", spec := "learnAsks", unfollowed := true, recurses := true, plainKeys := false, apart := false, narrowed := true }
def LearnAsksUptoSaid : Prop := learnAsksUptoRow.holds Try.pinned (OpenSpec.upto learnAsksSpec)

/-- 'bakelaw3.KeysSteadies', WHERE WHAT IT READS IS OF BULK AT MOST 1048576: true; the input reads as it did. -/
def keysSteadiesUptoRow : OpenClaim := { program := "ytofendipdfepoaa", sum := "3b2dd5a0a144f69f3b315bb6db783aaa5fbbfefcc8025c086fd59faeeaff3a11", func := "bakelite/bakelaw3.KeysSteadies", spec := "keysSteadies", unfollowed := true, recurses := true, plainKeys := false, apart := false, narrowed := true }
def KeysSteadiesUptoSaid : Prop := keysSteadiesUptoRow.holds Try.pinned (OpenSpec.upto keysSteadiesSpec)

/-- 'bakelaw3.EqualFinds', WHERE WHAT IT READS IS OF BULK AT MOST 1048576: true; the input reads as it did. -/
def equalFindsUptoRow : OpenClaim := { program := "ytofendipdfepoaa", sum := "3b2dd5a0a144f69f3b315bb6db783aaa5fbbfefcc8025c086fd59faeeaff3a11", func := "bakelite/bakelaw3.EqualFinds", spec := "equalFinds", unfollowed := true, recurses := true, plainKeys := false, apart := false, narrowed := true }
def EqualFindsUptoSaid : Prop := equalFindsUptoRow.holds Try.pinned (OpenSpec.upto equalFindsSpec)

end Rows
end Go.Proofs.Ytofendipdfepoaa
