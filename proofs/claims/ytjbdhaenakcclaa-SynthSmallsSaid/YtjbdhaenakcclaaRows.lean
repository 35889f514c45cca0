/-
  No cell of these rows narrows 'for every input' (looked for: loops, veiled, ifaces, maps, wideKeys, modest, calm, conditions, laid).
  DERIVED. THE GIVEN ROWS OF THIS SEAT. 11 by the template 'for every input the law returns true; each argument reads behind the call as it read before'; 0 by the template 'total and deterministic' (their statements: YtjbdhaenakcclaaTotals.lean).
  GIVEN WITH THE SEED: the statements are not yours to turn. If you find one false, say at which input.
  Laid BY PROGRAM, IN A SANDBOX (cutbox-rows.mjs): the forced cells as the released guide's own fill.sh prints them over the translation eda08930dd2acd05… (all of the seat's roots in one cut). By AI agents, Wed Nov 11 2026. No macro, syntax, notation, axiom, sorry.
-/
import Derived.Test.YtjbdhaenakcclaaChecked
import GoSem.Claim
import GoSem.ClaimJoined
import GoSem.ClaimMapViews
import Derived.JoinedTies
import Derived.KernelRfl
namespace Go.Proofs.Ytjbdhaenakcclaa
/- THE CELL 'sum', in the pinned program and in every row, IS THE sha256 OF THE DUMP (.gsa) THAT YtjbdhaenakcclaaProg.lean LOADS. Nothing in Lean hashes anything: it is a label: what it is worth is what the hold of that sum in a sandbox is worth. -/
noncomputable def Try.pinned : Pinned := { name := "ytjbdhaenakcclaa", sum := "eda08930dd2acd0502650d4bc876f9a6a20c9e94c1575ce2583e81d503c27d68", checked := Try.checked }
namespace Rows
def none {H : Type} : Left H := { results := [], args := [] }

/-- 'bakelaw3.GateChecks': WHATEVER THE INPUT: true; the input reads as it did. -/
def gateChecksSpec : ChangeSpec := { name := "gateChecks", fn := fun _ => fun
  | [d1, d2, d3] => { results := [.lit (.bool true)], args := [d1, d2, d3] }
  | _ => none }
def gateChecksRow : OpenClaim := { program := "ytjbdhaenakcclaa", sum := "eda08930dd2acd0502650d4bc876f9a6a20c9e94c1575ce2583e81d503c27d68", func := "bakelite/bakelaw3.GateChecks", spec := "gateChecks", unfollowed := true, recurses := true, plainKeys := false, apart := false }
def GateChecksSaid : Prop := gateChecksRow.holds Try.pinned (OpenSpec.ofChange gateChecksSpec)

/-- ITS FALSE NEIGHBOUR: 'it returns false'. Refute it at one input. -/
def gateChecksWrong : ChangeSpec := { name := "gateChecks", fn := fun _ => fun
  | [d1, d2, d3] => { results := [.lit (.bool false)], args := [d1, d2, d3] }
  | _ => none }
def GateChecksWrongFalsely : Prop := gateChecksRow.holds Try.pinned (OpenSpec.ofChange gateChecksWrong)

/-- 'bakelaw3.FrameTexts': WHATEVER THE INPUT: true; the input reads as it did. -/
def frameTextsSpec : ChangeSpec := { name := "frameTexts", fn := fun _ => fun
  | [d1, d2, d3] => { results := [.lit (.bool true)], args := [d1, d2, d3] }
  | _ => none }
def frameTextsRow : OpenClaim := { program := "ytjbdhaenakcclaa", sum := "eda08930dd2acd0502650d4bc876f9a6a20c9e94c1575ce2583e81d503c27d68", func := "bakelite/bakelaw3.FrameTexts", spec := "frameTexts", inPlace := ["internal/abi.NoEscape", "internal/bytealg.IndexByteString"], unfollowed := true, recurses := true, plainKeys := false, apart := false }
def FrameTextsSaid : Prop := frameTextsRow.holds Try.pinned (OpenSpec.ofChange frameTextsSpec)

/-- ITS FALSE NEIGHBOUR: 'it returns false'. Refute it at one input. -/
def frameTextsWrong : ChangeSpec := { name := "frameTexts", fn := fun _ => fun
  | [d1, d2, d3] => { results := [.lit (.bool false)], args := [d1, d2, d3] }
  | _ => none }
def FrameTextsWrongFalsely : Prop := frameTextsRow.holds Try.pinned (OpenSpec.ofChange frameTextsWrong)

/-- 'bakelaw3.GateUses': WHATEVER THE INPUT: true; the input reads as it did. -/
def gateUsesSpec : ChangeSpec := { name := "gateUses", fn := fun _ => fun
  | [d] => { results := [.lit (.bool true)], args := [d] }
  | _ => none }
def gateUsesRow : OpenClaim := { program := "ytjbdhaenakcclaa", sum := "eda08930dd2acd0502650d4bc876f9a6a20c9e94c1575ce2583e81d503c27d68", func := "bakelite/bakelaw3.GateUses", spec := "gateUses", unfollowed := true, recurses := true, plainKeys := false, apart := false }
def GateUsesSaid : Prop := gateUsesRow.holds Try.pinned (OpenSpec.ofChange gateUsesSpec)

/-- ITS FALSE NEIGHBOUR: 'it returns false'. Refute it at one input. -/
def gateUsesWrong : ChangeSpec := { name := "gateUses", fn := fun _ => fun
  | [d] => { results := [.lit (.bool false)], args := [d] }
  | _ => none }
def GateUsesWrongFalsely : Prop := gateUsesRow.holds Try.pinned (OpenSpec.ofChange gateUsesWrong)

/-- 'bakelaw3.EqualPairs': WHATEVER THE INPUT: true; the input reads as it did. -/
def equalPairsSpec : ChangeSpec := { name := "equalPairs", fn := fun _ => fun
  | [d1, d2] => { results := [.lit (.bool true)], args := [d1, d2] }
  | _ => none }
def equalPairsRow : OpenClaim := { program := "ytjbdhaenakcclaa", sum := "eda08930dd2acd0502650d4bc876f9a6a20c9e94c1575ce2583e81d503c27d68", func := "bakelite/bakelaw3.EqualPairs", spec := "equalPairs", unfollowed := true, recurses := true, plainKeys := false, apart := false }
def EqualPairsSaid : Prop := equalPairsRow.holds Try.pinned (OpenSpec.ofChange equalPairsSpec)

/-- ITS FALSE NEIGHBOUR: 'it returns false'. Refute it at one input. -/
def equalPairsWrong : ChangeSpec := { name := "equalPairs", fn := fun _ => fun
  | [d1, d2] => { results := [.lit (.bool false)], args := [d1, d2] }
  | _ => none }
def EqualPairsWrongFalsely : Prop := equalPairsRow.holds Try.pinned (OpenSpec.ofChange equalPairsWrong)

/-- 'bakelaw3.EqualCerts': WHATEVER THE INPUT: true; the input reads as it did. -/
def equalCertsSpec : ChangeSpec := { name := "equalCerts", fn := fun _ => fun
  | [d1, d2, d3] => { results := [.lit (.bool true)], args := [d1, d2, d3] }
  | _ => none }
def equalCertsRow : OpenClaim := { program := "ytjbdhaenakcclaa", sum := "eda08930dd2acd0502650d4bc876f9a6a20c9e94c1575ce2583e81d503c27d68", func := "bakelite/bakelaw3.EqualCerts", spec := "equalCerts", unfollowed := true, recurses := true, plainKeys := false, apart := false }
def EqualCertsSaid : Prop := equalCertsRow.holds Try.pinned (OpenSpec.ofChange equalCertsSpec)

/-- ITS FALSE NEIGHBOUR: 'it returns false'. Refute it at one input. -/
def equalCertsWrong : ChangeSpec := { name := "equalCerts", fn := fun _ => fun
  | [d1, d2, d3] => { results := [.lit (.bool false)], args := [d1, d2, d3] }
  | _ => none }
def EqualCertsWrongFalsely : Prop := equalCertsRow.holds Try.pinned (OpenSpec.ofChange equalCertsWrong)

/-- 'bakelaw3.LearnAsks': WHATEVER THE INPUT: true; the input reads as it did. -/
def learnAsksSpec : ChangeSpec := { name := "learnAsks", fn := fun _ => fun
  | [d1, d2, d3] => { results := [.lit (.bool true)], args := [d1, d2, d3] }
  | _ => none }
def learnAsksRow : OpenClaim := { program := "ytjbdhaenakcclaa", sum := "eda08930dd2acd0502650d4bc876f9a6a20c9e94c1575ce2583e81d503c27d68", func := "bakelite/bakelaw3.LearnAsks", spec := "learnAsks", unfollowed := true, recurses := true, plainKeys := false, apart := false }
def LearnAsksSaid : Prop := learnAsksRow.holds Try.pinned (OpenSpec.ofChange learnAsksSpec)

/-- ITS FALSE NEIGHBOUR: 'it returns false'. Refute it at one input. -/
def learnAsksWrong : ChangeSpec := { name := "learnAsks", fn := fun _ => fun
  | [d1, d2, d3] => { results := [.lit (.bool false)], args := [d1, d2, d3] }
  | _ => none }
def LearnAsksWrongFalsely : Prop := learnAsksRow.holds Try.pinned (OpenSpec.ofChange learnAsksWrong)

/-- 'bakelaw3.KeysSteadies': WHATEVER THE INPUT: true; the input reads as it did. -/
def keysSteadiesSpec : ChangeSpec := { name := "keysSteadies", fn := fun _ => fun
  | [d1, d2, d3] => { results := [.lit (.bool true)], args := [d1, d2, d3] }
  | _ => none }
def keysSteadiesRow : OpenClaim := { program := "ytjbdhaenakcclaa", sum := "eda08930dd2acd0502650d4bc876f9a6a20c9e94c1575ce2583e81d503c27d68", func := "bakelite/bakelaw3.KeysSteadies", spec := "keysSteadies", unfollowed := true, recurses := true, plainKeys := false, apart := false }
def KeysSteadiesSaid : Prop := keysSteadiesRow.holds Try.pinned (OpenSpec.ofChange keysSteadiesSpec)

/-- ITS FALSE NEIGHBOUR: 'it returns false'. Refute it at one input. -/
def keysSteadiesWrong : ChangeSpec := { name := "keysSteadies", fn := fun _ => fun
  | [d1, d2, d3] => { results := [.lit (.bool false)], args := [d1, d2, d3] }
  | _ => none }
def KeysSteadiesWrongFalsely : Prop := keysSteadiesRow.holds Try.pinned (OpenSpec.ofChange keysSteadiesWrong)

/-- 'bakelaw3.SynthOfs': WHATEVER THE INPUT: true; the input reads as it did. -/
def synthOfsSpec : ChangeSpec := { name := "synthOfs", fn := fun _ => fun
  | [d] => { results := [.lit (.bool true)], args := [d] }
  | _ => none }
def synthOfsRow : OpenClaim := { program := "ytjbdhaenakcclaa", sum := "eda08930dd2acd0502650d4bc876f9a6a20c9e94c1575ce2583e81d503c27d68", func := "bakelite/bakelaw3.SynthOfs", spec := "synthOfs", unfollowed := true, recurses := true, plainKeys := false, apart := false }
def SynthOfsSaid : Prop := synthOfsRow.holds Try.pinned (OpenSpec.ofChange synthOfsSpec)

/-- ITS FALSE NEIGHBOUR: 'it returns false'. Refute it at one input. -/
def synthOfsWrong : ChangeSpec := { name := "synthOfs", fn := fun _ => fun
  | [d] => { results := [.lit (.bool false)], args := [d] }
  | _ => none }
def SynthOfsWrongFalsely : Prop := synthOfsRow.holds Try.pinned (OpenSpec.ofChange synthOfsWrong)

/-- 'bakelaw3.SynthTables': WHATEVER THE INPUT: true; the input reads as it did. -/
def synthTablesSpec : ChangeSpec := { name := "synthTables", fn := fun _ => fun
  | [d] => { results := [.lit (.bool true)], args := [d] }
  | _ => none }
def synthTablesRow : OpenClaim := { program := "ytjbdhaenakcclaa", sum := "eda08930dd2acd0502650d4bc876f9a6a20c9e94c1575ce2583e81d503c27d68", func := "bakelite/bakelaw3.SynthTables", spec := "synthTables", unfollowed := true, recurses := true, plainKeys := false, apart := false }
def SynthTablesSaid : Prop := synthTablesRow.holds Try.pinned (OpenSpec.ofChange synthTablesSpec)

/-- ITS FALSE NEIGHBOUR: 'it returns false'. Refute it at one input. -/
def synthTablesWrong : ChangeSpec := { name := "synthTables", fn := fun _ => fun
  | [d] => { results := [.lit (.bool false)], args := [d] }
  | _ => none }
def SynthTablesWrongFalsely : Prop := synthTablesRow.holds Try.pinned (OpenSpec.ofChange synthTablesWrong)

/-- 'bakelaw3.SynthSmalls': WHATEVER THE INPUT: true; the input reads as it did. -/
def synthSmallsSpec : ChangeSpec := { name := "synthSmalls", fn := fun _ => fun
  | [d1, d2] => { results := [.lit (.bool true)], args := [d1, d2] }
  | _ => none }
def synthSmallsRow : OpenClaim := { program := "ytjbdhaenakcclaa", sum := "eda08930dd2acd0502650d4bc876f9a6a20c9e94c1575ce2583e81d503c27d68", func := "bakelite/bakelaw3.SynthSmalls", spec := "synthSmalls", unfollowed := true, recurses := true, plainKeys := false, apart := false }
def SynthSmallsSaid : Prop := synthSmallsRow.holds Try.pinned (OpenSpec.ofChange synthSmallsSpec)

/-- ITS FALSE NEIGHBOUR: 'it returns false'. Refute it at one input. -/
def synthSmallsWrong : ChangeSpec := { name := "synthSmalls", fn := fun _ => fun
  | [d1, d2] => { results := [.lit (.bool false)], args := [d1, d2] }
  | _ => none }
def SynthSmallsWrongFalsely : Prop := synthSmallsRow.holds Try.pinned (OpenSpec.ofChange synthSmallsWrong)

/-- 'bakelaw3.EqualFinds': WHATEVER THE INPUT: true; the input reads as it did. -/
def equalFindsSpec : ChangeSpec := { name := "equalFinds", fn := fun _ => fun
  | [d1, d2] => { results := [.lit (.bool true)], args := [d1, d2] }
  | _ => none }
def equalFindsRow : OpenClaim := { program := "ytjbdhaenakcclaa", sum := "eda08930dd2acd0502650d4bc876f9a6a20c9e94c1575ce2583e81d503c27d68", func := "bakelite/bakelaw3.EqualFinds", spec := "equalFinds", unfollowed := true, recurses := true, plainKeys := false, apart := false }
def EqualFindsSaid : Prop := equalFindsRow.holds Try.pinned (OpenSpec.ofChange equalFindsSpec)

/-- ITS FALSE NEIGHBOUR: 'it returns false'. Refute it at one input. -/
def equalFindsWrong : ChangeSpec := { name := "equalFinds", fn := fun _ => fun
  | [d1, d2] => { results := [.lit (.bool false)], args := [d1, d2] }
  | _ => none }
def EqualFindsWrongFalsely : Prop := equalFindsRow.holds Try.pinned (OpenSpec.ofChange equalFindsWrong)

/- THE SECOND FORM. 'bulk': how many values and letters a reading holds, each counted each time it is reached (what is shared counts as often as it is met; a slice's spare places count too). A statement '..UptoSaid' is the law's where the arguments, and the package variables that the reading takes, are together of bulk at most 1048576: NARROWER than '..Said'. Prove '..Said' where nothing that the law and all that it calls make is longer than what came in: it says more and counts as full. Else prove '..UptoSaid'. A law counts once. -/
mutual
def uptoBulk {H : Type} : DataW H → Nat
  | .lit (.string bytes) => bytes.length + 1
  | .lit _ => 1
  | .nil => 1
  | .ptr d => uptoBulk d + 1
  | .slice elems spare => uptoBulkAll elems + uptoBulkAll spare + 1
  | .agg parts => uptoBulkAll parts + 1
  | .iface _ d => uptoBulk d + 1
  | .map entries => uptoBulkEntries entries + 1
  | .held _ => 1
def uptoBulkAll {H : Type} : List (DataW H) → Nat
  | [] => 0
  | d :: r => uptoBulk d + uptoBulkAll r
def uptoBulkEntries {H : Type} : List (Lit × DataW H) → Nat
  | [] => 0
  | x :: r => uptoBulkEntry x + uptoBulkEntries r
def uptoBulkEntry {H : Type} : Lit × DataW H → Nat
  | (.string bytes, d) => bytes.length + uptoBulk d + 1
  | (_, d) => uptoBulk d + 1
 end
def uptoSmall : (H : Type) → List (DataW H) → Bool := fun _ ds => decide (uptoBulkAll ds ≤ 1048576)
def OpenSpec.upto (s : _root_.Go.ChangeSpec) : _root_.Go.OpenSpec := { _root_.Go.OpenSpec.ofChange s with cond := some uptoSmall }

/-- 'bakelaw3.GateChecks', WHERE WHAT IT READS IS OF BULK AT MOST 1048576: true; the input reads as it did. -/
def gateChecksUptoRow : OpenClaim := { program := "ytjbdhaenakcclaa", sum := "eda08930dd2acd0502650d4bc876f9a6a20c9e94c1575ce2583e81d503c27d68", func := "bakelite/bakelaw3.GateChecks", spec := "gateChecks", unfollowed := true, recurses := true, plainKeys := false, apart := false, narrowed := true }
def GateChecksUptoSaid : Prop := gateChecksUptoRow.holds Try.pinned (OpenSpec.upto gateChecksSpec)

/-- 'bakelaw3.FrameTexts', WHERE WHAT IT READS IS OF BULK AT MOST 1048576: true; the input reads as it did. -/
def frameTextsUptoRow : OpenClaim := { program := "ytjbdhaenakcclaa", sum := "eda08930dd2acd0502650d4bc876f9a6a20c9e94c1575ce2583e81d503c27d68", func := "bakelite/bakelaw3.FrameTexts", spec := "frameTexts", inPlace := ["internal/abi.NoEscape", "internal/bytealg.IndexByteString"], unfollowed := true, recurses := true, plainKeys := false, apart := false, narrowed := true }
def FrameTextsUptoSaid : Prop := frameTextsUptoRow.holds Try.pinned (OpenSpec.upto frameTextsSpec)

/-- 'bakelaw3.GateUses', WHERE WHAT IT READS IS OF BULK AT MOST 1048576: true; the input reads as it did. -/
def gateUsesUptoRow : OpenClaim := { program := "ytjbdhaenakcclaa", sum := "eda08930dd2acd0502650d4bc876f9a6a20c9e94c1575ce2583e81d503c27d68", func := "bakelite/bakelaw3.GateUses", spec := "gateUses", unfollowed := true, recurses := true, plainKeys := false, apart := false, narrowed := true }
def GateUsesUptoSaid : Prop := gateUsesUptoRow.holds Try.pinned (OpenSpec.upto gateUsesSpec)

/-- 'bakelaw3.EqualPairs', WHERE WHAT IT READS IS OF BULK AT MOST 1048576: true; the input reads as it did. -/
def equalPairsUptoRow : OpenClaim := { program := "ytjbdhaenakcclaa", sum := "eda08930dd2acd0502650d4bc876f9a6a20c9e94c1575ce2583e81d503c27d68", func := "bakelite/bakelaw3.EqualPairs", spec := "equalPairs", unfollowed := true, recurses := true, plainKeys := false, apart := false, narrowed := true }
def EqualPairsUptoSaid : Prop := equalPairsUptoRow.holds Try.pinned (OpenSpec.upto equalPairsSpec)

/-- 'bakelaw3.EqualCerts', WHERE WHAT IT READS IS OF BULK AT MOST 1048576: true; the input reads as it did. -/
def equalCertsUptoRow : OpenClaim := { program := "ytjbdhaenakcclaa", sum := "eda08930dd2acd0502650d4bc876f9a6a20c9e94c1575ce2583e81d503c27d68", func := "bakelite/bakelaw3.EqualCerts", spec := "equalCerts", unfollowed := true, recurses := true, plainKeys := false, apart := false, narrowed := true }
def EqualCertsUptoSaid : Prop := equalCertsUptoRow.holds Try.pinned (OpenSpec.upto equalCertsSpec)

/-- 'bakelaw3.LearnAsks', WHERE WHAT IT READS IS OF BULK AT MOST 1048576: true; the input reads as it did. -/
def learnAsksUptoRow : OpenClaim := { program := "ytjbdhaenakcclaa", sum := "eda08930dd2acd0502650d4bc876f9a6a20c9e94c1575ce2583e81d503c27d68", func := "bakelite/bakelaw3.LearnAsks", spec := "learnAsks", unfollowed := true, recurses := true, plainKeys := false, apart := false, narrowed := true }
def LearnAsksUptoSaid : Prop := learnAsksUptoRow.holds Try.pinned (OpenSpec.upto learnAsksSpec)

/-- 'bakelaw3.KeysSteadies', WHERE WHAT IT READS IS OF BULK AT MOST 1048576: true; the input reads as it did. -/
def keysSteadiesUptoRow : OpenClaim := { program := "ytjbdhaenakcclaa", sum := "eda08930dd2acd0502650d4bc876f9a6a20c9e94c1575ce2583e81d503c27d68", func := "bakelite/bakelaw3.KeysSteadies", spec := "keysSteadies", unfollowed := true, recurses := true, plainKeys := false, apart := false, narrowed := true }
def KeysSteadiesUptoSaid : Prop := keysSteadiesUptoRow.holds Try.pinned (OpenSpec.upto keysSteadiesSpec)

/-- 'bakelaw3.SynthOfs', WHERE WHAT IT READS IS OF BULK AT MOST 1048576: true; the input reads as it did. -/
def synthOfsUptoRow : OpenClaim := { program := "ytjbdhaenakcclaa", sum := "eda08930dd2acd0502650d4bc876f9a6a20c9e94c1575ce2583e81d503c27d68", func := "bakelite/bakelaw3.SynthOfs", spec := "synthOfs", unfollowed := true, recurses := true, plainKeys := false, apart := false, narrowed := true }
def SynthOfsUptoSaid : Prop := synthOfsUptoRow.holds Try.pinned (OpenSpec.upto synthOfsSpec)

/-- 'bakelaw3.SynthTables', WHERE WHAT IT READS IS OF BULK AT MOST 1048576: true; the input reads as it did. -/
def synthTablesUptoRow : OpenClaim := { program := "ytjbdhaenakcclaa", sum := "eda08930dd2acd0502650d4bc876f9a6a20c9e94c1575ce2583e81d503c27d68", func := "bakelite/bakelaw3.SynthTables", spec := "synthTables", unfollowed := true, recurses := true, plainKeys := false, apart := false, narrowed := true }
def SynthTablesUptoSaid : Prop := synthTablesUptoRow.holds Try.pinned (OpenSpec.upto synthTablesSpec)

/-- 'bakelaw3.SynthSmalls', WHERE WHAT IT READS IS OF BULK AT MOST 1048576: true; the input reads as it did. -/
def synthSmallsUptoRow : OpenClaim := { program := "ytjbdhaenakcclaa", sum := "eda08930dd2acd0502650d4bc876f9a6a20c9e94c1575ce2583e81d503c27d68", func := "bakelite/bakelaw3.SynthSmalls", spec := "synthSmalls", unfollowed := true, recurses := true, plainKeys := false, apart := false, narrowed := true }
def SynthSmallsUptoSaid : Prop := synthSmallsUptoRow.holds Try.pinned (OpenSpec.upto synthSmallsSpec)

/-- 'bakelaw3.EqualFinds', WHERE WHAT IT READS IS OF BULK AT MOST 1048576: true; the input reads as it did. -/
def equalFindsUptoRow : OpenClaim := { program := "ytjbdhaenakcclaa", sum := "eda08930dd2acd0502650d4bc876f9a6a20c9e94c1575ce2583e81d503c27d68", func := "bakelite/bakelaw3.EqualFinds", spec := "equalFinds", unfollowed := true, recurses := true, plainKeys := false, apart := false, narrowed := true }
def EqualFindsUptoSaid : Prop := equalFindsUptoRow.holds Try.pinned (OpenSpec.upto equalFindsSpec)

end Rows
end Go.Proofs.Ytjbdhaenakcclaa
