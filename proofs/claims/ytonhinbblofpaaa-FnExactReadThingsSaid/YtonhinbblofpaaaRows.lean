/-
  No cell of these rows narrows 'for every input' (looked for: loops, veiled, ifaces, maps, wideKeys, modest, calm, conditions, laid).
  DERIVED. THE GIVEN ROWS OF THIS SEAT. 6 by the template 'for every input the law returns true; each argument reads behind the call as it read before'; 0 by the template 'total and deterministic' (their statements: YtonhinbblofpaaaTotals.lean).
  GIVEN WITH THE SEED: the statements are not yours to turn. If you find one false, say at which input.
  Laid BY PROGRAM, IN A SANDBOX (cutbox-rows.mjs): the forced cells as the released guide's own fill.sh prints them over the translation 49876b4e06ec5cfe… (all of the seat's roots in one cut). By AI agents, Wed Nov 11 2026. No macro, syntax, notation, axiom, sorry.
-/
import Derived.Test.YtonhinbblofpaaaChecked
import GoSem.Claim
import GoSem.ClaimJoined
import GoSem.ClaimMapViews
import Derived.JoinedTies
import Derived.KernelRfl
namespace Go.Proofs.Ytonhinbblofpaaa
/- THE CELL 'sum', in the pinned program and in every row, IS THE sha256 OF THE DUMP (.gsa) THAT YtonhinbblofpaaaProg.lean LOADS. Nothing in Lean hashes anything: it is a label: what it is worth is what the hold of that sum in a sandbox is worth. -/
noncomputable def Try.pinned : Pinned := { name := "ytonhinbblofpaaa", sum := "49876b4e06ec5cfea5f639d29250da09f88e4ef7a36be4b92816ae73a28ea1ea", checked := Try.checked }
namespace Rows
def none {H : Type} : Left H := { results := [], args := [] }

/-- 'laws.FnExactThingsText': WHATEVER THE INPUT: true; the input reads as it did. -/
def fnExactThingsTextSpec : ChangeSpec := { name := "fnExactThingsText", fn := fun _ => fun
  | [d] => { results := [.lit (.bool true)], args := [d] }
  | _ => none }
def fnExactThingsTextRow : OpenClaim := { program := "ytonhinbblofpaaa", sum := "49876b4e06ec5cfea5f639d29250da09f88e4ef7a36be4b92816ae73a28ea1ea", func := "loop.example/g01281/laws.FnExactThingsText", spec := "fnExactThingsText", apart := false }
def FnExactThingsTextSaid : Prop := fnExactThingsTextRow.holds Try.pinned (OpenSpec.ofChange fnExactThingsTextSpec)

/-- ITS FALSE NEIGHBOUR: 'it returns false'. Refute it at one input. -/
def fnExactThingsTextWrong : ChangeSpec := { name := "fnExactThingsText", fn := fun _ => fun
  | [d] => { results := [.lit (.bool false)], args := [d] }
  | _ => none }
def FnExactThingsTextWrongFalsely : Prop := fnExactThingsTextRow.holds Try.pinned (OpenSpec.ofChange fnExactThingsTextWrong)

/-- 'laws.FnExactReadThings': WHATEVER THE INPUT: true; the input reads as it did. -/
def fnExactReadThingsSpec : ChangeSpec := { name := "fnExactReadThings", fn := fun _ => fun
  | [d] => { results := [.lit (.bool true)], args := [d] }
  | _ => none }
def fnExactReadThingsRow : OpenClaim := { program := "ytonhinbblofpaaa", sum := "49876b4e06ec5cfea5f639d29250da09f88e4ef7a36be4b92816ae73a28ea1ea", func := "loop.example/g01281/laws.FnExactReadThings", spec := "fnExactReadThings", apart := false }
def FnExactReadThingsSaid : Prop := fnExactReadThingsRow.holds Try.pinned (OpenSpec.ofChange fnExactReadThingsSpec)

/-- ITS FALSE NEIGHBOUR: 'it returns false'. Refute it at one input. -/
def fnExactReadThingsWrong : ChangeSpec := { name := "fnExactReadThings", fn := fun _ => fun
  | [d] => { results := [.lit (.bool false)], args := [d] }
  | _ => none }
def FnExactReadThingsWrongFalsely : Prop := fnExactReadThingsRow.holds Try.pinned (OpenSpec.ofChange fnExactReadThingsWrong)

/-- 'laws.FnExactAnswerTo': WHATEVER THE INPUT: true; the input reads as it did. -/
def fnExactAnswerToSpec : ChangeSpec := { name := "fnExactAnswerTo", fn := fun _ => fun
  | [d1, d2, d3] => { results := [.lit (.bool true)], args := [d1, d2, d3] }
  | _ => none }
def fnExactAnswerToRow : OpenClaim := { program := "ytonhinbblofpaaa", sum := "49876b4e06ec5cfea5f639d29250da09f88e4ef7a36be4b92816ae73a28ea1ea", func := "loop.example/g01281/laws.FnExactAnswerTo", spec := "fnExactAnswerTo", apart := false }
def FnExactAnswerToSaid : Prop := fnExactAnswerToRow.holds Try.pinned (OpenSpec.ofChange fnExactAnswerToSpec)

/-- ITS FALSE NEIGHBOUR: 'it returns false'. Refute it at one input. -/
def fnExactAnswerToWrong : ChangeSpec := { name := "fnExactAnswerTo", fn := fun _ => fun
  | [d1, d2, d3] => { results := [.lit (.bool false)], args := [d1, d2, d3] }
  | _ => none }
def FnExactAnswerToWrongFalsely : Prop := fnExactAnswerToRow.holds Try.pinned (OpenSpec.ofChange fnExactAnswerToWrong)

/-- 'laws.FnExactValidState': WHATEVER THE INPUT: true; the input reads as it did. -/
def fnExactValidStateSpec : ChangeSpec := { name := "fnExactValidState", fn := fun _ => fun
  | [d1, d2] => { results := [.lit (.bool true)], args := [d1, d2] }
  | _ => none }
def fnExactValidStateRow : OpenClaim := { program := "ytonhinbblofpaaa", sum := "49876b4e06ec5cfea5f639d29250da09f88e4ef7a36be4b92816ae73a28ea1ea", func := "loop.example/g01281/laws.FnExactValidState", spec := "fnExactValidState", apart := false }
def FnExactValidStateSaid : Prop := fnExactValidStateRow.holds Try.pinned (OpenSpec.ofChange fnExactValidStateSpec)

/-- ITS FALSE NEIGHBOUR: 'it returns false'. Refute it at one input. -/
def fnExactValidStateWrong : ChangeSpec := { name := "fnExactValidState", fn := fun _ => fun
  | [d1, d2] => { results := [.lit (.bool false)], args := [d1, d2] }
  | _ => none }
def FnExactValidStateWrongFalsely : Prop := fnExactValidStateRow.holds Try.pinned (OpenSpec.ofChange fnExactValidStateWrong)

/-- 'laws.FnExactValidWeights': WHATEVER THE INPUT: true; the input reads as it did. -/
def fnExactValidWeightsSpec : ChangeSpec := { name := "fnExactValidWeights", fn := fun _ => fun
  | [d] => { results := [.lit (.bool true)], args := [d] }
  | _ => none }
def fnExactValidWeightsRow : OpenClaim := { program := "ytonhinbblofpaaa", sum := "49876b4e06ec5cfea5f639d29250da09f88e4ef7a36be4b92816ae73a28ea1ea", func := "loop.example/g01281/laws.FnExactValidWeights", spec := "fnExactValidWeights", apart := false }
def FnExactValidWeightsSaid : Prop := fnExactValidWeightsRow.holds Try.pinned (OpenSpec.ofChange fnExactValidWeightsSpec)

/-- ITS FALSE NEIGHBOUR: 'it returns false'. Refute it at one input. -/
def fnExactValidWeightsWrong : ChangeSpec := { name := "fnExactValidWeights", fn := fun _ => fun
  | [d] => { results := [.lit (.bool false)], args := [d] }
  | _ => none }
def FnExactValidWeightsWrongFalsely : Prop := fnExactValidWeightsRow.holds Try.pinned (OpenSpec.ofChange fnExactValidWeightsWrong)

/-- 'laws.FnExactSumOfWeights': WHATEVER THE INPUT: true; the input reads as it did. -/
def fnExactSumOfWeightsSpec : ChangeSpec := { name := "fnExactSumOfWeights", fn := fun _ => fun
  | [d] => { results := [.lit (.bool true)], args := [d] }
  | _ => none }
def fnExactSumOfWeightsRow : OpenClaim := { program := "ytonhinbblofpaaa", sum := "49876b4e06ec5cfea5f639d29250da09f88e4ef7a36be4b92816ae73a28ea1ea", func := "loop.example/g01281/laws.FnExactSumOfWeights", spec := "fnExactSumOfWeights", apart := false }
def FnExactSumOfWeightsSaid : Prop := fnExactSumOfWeightsRow.holds Try.pinned (OpenSpec.ofChange fnExactSumOfWeightsSpec)

/-- ITS FALSE NEIGHBOUR: 'it returns false'. Refute it at one input. -/
def fnExactSumOfWeightsWrong : ChangeSpec := { name := "fnExactSumOfWeights", fn := fun _ => fun
  | [d] => { results := [.lit (.bool false)], args := [d] }
  | _ => none }
def FnExactSumOfWeightsWrongFalsely : Prop := fnExactSumOfWeightsRow.holds Try.pinned (OpenSpec.ofChange fnExactSumOfWeightsWrong)

/- THE SECOND FORM. 'bulk': how many values and letters a reading holds, each counted each time it is reached (what is shared counts as often as it is met; a slice's spare places count too). A statement '..UptoSaid' is the law's where the arguments, and the package variables that the reading takes, are together of bulk at most 1048576: NARROWER than '..Said'. Prove '..Said' where nothing that the law and all that it calls make is longer than what came in: it says more and counts as full. Else prove '..UptoSaid'. A law counts once. -/
mutual
def uptoBulk {H : Type} : DataW H → Nat
  | .lit (.string bytes) => bytes.length + 1
  | .lit _ => 1
  | .nil => 1
  | .ptr d => uptoBulk d + 1
  | .slice elems spare => uptoBulkAll elems + uptoBulkAll spare + 1
  | .agg parts => uptoBulkAll parts + 1
  | .iface _ d => uptoBulk d + 1
  | .map entries => uptoBulkEntries entries + 1
  | .held _ => 1
def uptoBulkAll {H : Type} : List (DataW H) → Nat
  | [] => 0
  | d :: r => uptoBulk d + uptoBulkAll r
def uptoBulkEntries {H : Type} : List (Lit × DataW H) → Nat
  | [] => 0
  | x :: r => uptoBulkEntry x + uptoBulkEntries r
def uptoBulkEntry {H : Type} : Lit × DataW H → Nat
  | (.string bytes, d) => bytes.length + uptoBulk d + 1
  | (_, d) => uptoBulk d + 1
 end
def uptoSmall : (H : Type) → List (DataW H) → Bool := fun _ ds => decide (uptoBulkAll ds ≤ 1048576)
def OpenSpec.upto (s : _root_.Go.ChangeSpec) : _root_.Go.OpenSpec := { _root_.Go.OpenSpec.ofChange s with cond := some uptoSmall }

/-- 'laws.FnExactThingsText', WHERE WHAT IT READS IS OF BULK AT MOST 1048576: true; the input reads as it did. -/
def fnExactThingsTextUptoRow : OpenClaim := { program := "ytonhinbblofpaaa", sum := "49876b4e06ec5cfea5f639d29250da09f88e4ef7a36be4b92816ae73a28ea1ea", func := "loop.example/g01281/laws.FnExactThingsText", spec := "fnExactThingsText", apart := false, narrowed := true }
def FnExactThingsTextUptoSaid : Prop := fnExactThingsTextUptoRow.holds Try.pinned (OpenSpec.upto fnExactThingsTextSpec)

/-- 'laws.FnExactReadThings', WHERE WHAT IT READS IS OF BULK AT MOST 1048576: true; the input reads as it did. -/
def fnExactReadThingsUptoRow : OpenClaim := { program := "ytonhinbblofpaaa", sum := "49876b4e06ec5cfea5f639d29250da09f88e4ef7a36be4b92816ae73a28ea1ea", func := "loop.example/g01281/laws.FnExactReadThings", spec := "fnExactReadThings", apart := false, narrowed := true }
def FnExactReadThingsUptoSaid : Prop := fnExactReadThingsUptoRow.holds Try.pinned (OpenSpec.upto fnExactReadThingsSpec)

/-- 'laws.FnExactAnswerTo', WHERE WHAT IT READS IS OF BULK AT MOST 1048576: true; the input reads as it did. -/
def fnExactAnswerToUptoRow : OpenClaim := { program := "ytonhinbblofpaaa", sum := "49876b4e06ec5cfea5f639d29250da09f88e4ef7a36be4b92816ae73a28ea1ea", func := "loop.example/g01281/laws.FnExactAnswerTo", spec := "fnExactAnswerTo", apart := false, narrowed := true }
def FnExactAnswerToUptoSaid : Prop := fnExactAnswerToUptoRow.holds Try.pinned (OpenSpec.upto fnExactAnswerToSpec)

/-- 'laws.FnExactValidState', WHERE WHAT IT READS IS OF BULK AT MOST 1048576: true; the input reads as it did. -/
def fnExactValidStateUptoRow : OpenClaim := { program := "ytonhinbblofpaaa", sum := "49876b4e06ec5cfea5f639d29250da09f88e4ef7a36be4b92816ae73a28ea1ea", func := "loop.example/g01281/laws.FnExactValidState", spec := "fnExactValidState", apart := false, narrowed := true }
def FnExactValidStateUptoSaid : Prop := fnExactValidStateUptoRow.holds Try.pinned (OpenSpec.upto fnExactValidStateSpec)

/-- 'laws.FnExactValidWeights', WHERE WHAT IT READS IS OF BULK AT MOST 1048576: true; the input reads as it did. -/
def fnExactValidWeightsUptoRow : OpenClaim := { program := "ytonhinbblofpaaa", sum := "49876b4e06ec5cfea5f639d29250da09f88e4ef7a36be4b92816ae73a28ea1ea", func := "loop.example/g01281/laws.FnExactValidWeights", spec := "fnExactValidWeights", apart := false, narrowed := true }
def FnExactValidWeightsUptoSaid : Prop := fnExactValidWeightsUptoRow.holds Try.pinned (OpenSpec.upto fnExactValidWeightsSpec)

/-- 'laws.FnExactSumOfWeights', WHERE WHAT IT READS IS OF BULK AT MOST 1048576: true; the input reads as it did. -/
def fnExactSumOfWeightsUptoRow : OpenClaim := { program := "ytonhinbblofpaaa", sum := "49876b4e06ec5cfea5f639d29250da09f88e4ef7a36be4b92816ae73a28ea1ea", func := "loop.example/g01281/laws.FnExactSumOfWeights", spec := "fnExactSumOfWeights", apart := false, narrowed := true }
def FnExactSumOfWeightsUptoSaid : Prop := fnExactSumOfWeightsUptoRow.holds Try.pinned (OpenSpec.upto fnExactSumOfWeightsSpec)

end Rows
end Go.Proofs.Ytonhinbblofpaaa
