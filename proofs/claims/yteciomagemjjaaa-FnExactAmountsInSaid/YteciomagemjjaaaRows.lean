/-
  No cell of these rows narrows 'for every input' (looked for: loops, veiled, ifaces, maps, wideKeys, modest, calm, conditions, laid).
  DERIVED. THE GIVEN ROWS OF THIS SEAT. 7 by the template 'for every input the law returns true; each argument reads behind the call as it read before'; 0 by the template 'total and deterministic' (their statements: YteciomagemjjaaaTotals.lean).
  GIVEN WITH THE SEED: the statements are not yours to turn. If you find one false, say at which input.
  Laid BY PROGRAM, IN A SANDBOX (cutbox-rows.mjs): the forced cells as the released guide's own fill.sh prints them over the translation 2d1853b390ec50dc… (all of the seat's roots in one cut). By AI agents, Wed Nov 11 2026. No macro, syntax, notation, axiom, sorry.
-/
import Derived.Test.YteciomagemjjaaaChecked
import GoSem.Claim
import GoSem.ClaimJoined
import GoSem.ClaimMapViews
import Derived.JoinedTies
import Derived.KernelRfl
namespace Go.Proofs.Yteciomagemjjaaa
/- THE CELL 'sum', in the pinned program and in every row, IS THE sha256 OF THE DUMP (.gsa) THAT YteciomagemjjaaaProg.lean LOADS. Nothing in Lean hashes anything: it is a label: what it is worth is what the hold of that sum in a sandbox is worth. -/
noncomputable def Try.pinned : Pinned := { name := "yteciomagemjjaaa", sum := "2d1853b390ec50dcbcdd703c139624ec2f035849c17e87b8b89f54bf864b5b21", checked := Try.checked }
namespace Rows
def none {H : Type} : Left H := { results := [], args := [] }

/-- 'laws.FnProofs': WHATEVER THE INPUT: true; the input reads as it did. -/
def fnProofsSpec : ChangeSpec := { name := "fnProofs", fn := fun _ => fun
  | [d1, d2] => { results := [.lit (.bool true)], args := [d1, d2] }
  | _ => none }
def fnProofsRow : OpenClaim := { program := "yteciomagemjjaaa", sum := "2d1853b390ec50dcbcdd703c139624ec2f035849c17e87b8b89f54bf864b5b21", func := "loop.example/g01281/laws.FnProofs", spec := "fnProofs", unfollowed := true, recurses := true, plainKeys := false, apart := false }
def FnProofsSaid : Prop := fnProofsRow.holds Try.pinned (OpenSpec.ofChange fnProofsSpec)

/-- ITS FALSE NEIGHBOUR: 'it returns false'. Refute it at one input. -/
def fnProofsWrong : ChangeSpec := { name := "fnProofs", fn := fun _ => fun
  | [d1, d2] => { results := [.lit (.bool false)], args := [d1, d2] }
  | _ => none }
def FnProofsWrongFalsely : Prop := fnProofsRow.holds Try.pinned (OpenSpec.ofChange fnProofsWrong)

/-- 'laws.FnExactReachedStates': WHATEVER THE INPUT: true; the input reads as it did. -/
def fnExactReachedStatesSpec : ChangeSpec := { name := "fnExactReachedStates", fn := fun _ => fun
  | [d] => { results := [.lit (.bool true)], args := [d] }
  | _ => none }
def fnExactReachedStatesRow : OpenClaim := { program := "yteciomagemjjaaa", sum := "2d1853b390ec50dcbcdd703c139624ec2f035849c17e87b8b89f54bf864b5b21", func := "loop.example/g01281/laws.FnExactReachedStates", spec := "fnExactReachedStates", unfollowed := true, recurses := true, plainKeys := false, apart := false }
def FnExactReachedStatesSaid : Prop := fnExactReachedStatesRow.holds Try.pinned (OpenSpec.ofChange fnExactReachedStatesSpec)

/-- ITS FALSE NEIGHBOUR: 'it returns false'. Refute it at one input. -/
def fnExactReachedStatesWrong : ChangeSpec := { name := "fnExactReachedStates", fn := fun _ => fun
  | [d] => { results := [.lit (.bool false)], args := [d] }
  | _ => none }
def FnExactReachedStatesWrongFalsely : Prop := fnExactReachedStatesRow.holds Try.pinned (OpenSpec.ofChange fnExactReachedStatesWrong)

/-- 'laws.FnExactHardestWater': WHATEVER THE INPUT: true; the input reads as it did. -/
def fnExactHardestWaterSpec : ChangeSpec := { name := "fnExactHardestWater", fn := fun _ => fun
  | [d] => { results := [.lit (.bool true)], args := [d] }
  | _ => none }
def fnExactHardestWaterRow : OpenClaim := { program := "yteciomagemjjaaa", sum := "2d1853b390ec50dcbcdd703c139624ec2f035849c17e87b8b89f54bf864b5b21", func := "loop.example/g01281/laws.FnExactHardestWater", spec := "fnExactHardestWater", unfollowed := true, recurses := true, plainKeys := false, apart := false }
def FnExactHardestWaterSaid : Prop := fnExactHardestWaterRow.holds Try.pinned (OpenSpec.ofChange fnExactHardestWaterSpec)

/-- ITS FALSE NEIGHBOUR: 'it returns false'. Refute it at one input. -/
def fnExactHardestWaterWrong : ChangeSpec := { name := "fnExactHardestWater", fn := fun _ => fun
  | [d] => { results := [.lit (.bool false)], args := [d] }
  | _ => none }
def FnExactHardestWaterWrongFalsely : Prop := fnExactHardestWaterRow.holds Try.pinned (OpenSpec.ofChange fnExactHardestWaterWrong)

/-- 'laws.FnExactStepsTable': WHATEVER THE INPUT: true; the input reads as it did. -/
def fnExactStepsTableSpec : ChangeSpec := { name := "fnExactStepsTable", fn := fun _ => fun
  | [d] => { results := [.lit (.bool true)], args := [d] }
  | _ => none }
def fnExactStepsTableRow : OpenClaim := { program := "yteciomagemjjaaa", sum := "2d1853b390ec50dcbcdd703c139624ec2f035849c17e87b8b89f54bf864b5b21", func := "loop.example/g01281/laws.FnExactStepsTable", spec := "fnExactStepsTable", unfollowed := true, recurses := true, plainKeys := false, apart := false }
def FnExactStepsTableSaid : Prop := fnExactStepsTableRow.holds Try.pinned (OpenSpec.ofChange fnExactStepsTableSpec)

/-- ITS FALSE NEIGHBOUR: 'it returns false'. Refute it at one input. -/
def fnExactStepsTableWrong : ChangeSpec := { name := "fnExactStepsTable", fn := fun _ => fun
  | [d] => { results := [.lit (.bool false)], args := [d] }
  | _ => none }
def FnExactStepsTableWrongFalsely : Prop := fnExactStepsTableRow.holds Try.pinned (OpenSpec.ofChange fnExactStepsTableWrong)

/-- 'laws.FnExactWayTo': WHATEVER THE INPUT: true; the input reads as it did. -/
def fnExactWayToSpec : ChangeSpec := { name := "fnExactWayTo", fn := fun _ => fun
  | [d1, d2] => { results := [.lit (.bool true)], args := [d1, d2] }
  | _ => none }
def fnExactWayToRow : OpenClaim := { program := "yteciomagemjjaaa", sum := "2d1853b390ec50dcbcdd703c139624ec2f035849c17e87b8b89f54bf864b5b21", func := "loop.example/g01281/laws.FnExactWayTo", spec := "fnExactWayTo", unfollowed := true, recurses := true, plainKeys := false, apart := false }
def FnExactWayToSaid : Prop := fnExactWayToRow.holds Try.pinned (OpenSpec.ofChange fnExactWayToSpec)

/-- ITS FALSE NEIGHBOUR: 'it returns false'. Refute it at one input. -/
def fnExactWayToWrong : ChangeSpec := { name := "fnExactWayTo", fn := fun _ => fun
  | [d1, d2] => { results := [.lit (.bool false)], args := [d1, d2] }
  | _ => none }
def FnExactWayToWrongFalsely : Prop := fnExactWayToRow.holds Try.pinned (OpenSpec.ofChange fnExactWayToWrong)

/-- 'laws.FnExactWayToAmount': WHATEVER THE INPUT: true; the input reads as it did. -/
def fnExactWayToAmountSpec : ChangeSpec := { name := "fnExactWayToAmount", fn := fun _ => fun
  | [d1, d2] => { results := [.lit (.bool true)], args := [d1, d2] }
  | _ => none }
def fnExactWayToAmountRow : OpenClaim := { program := "yteciomagemjjaaa", sum := "2d1853b390ec50dcbcdd703c139624ec2f035849c17e87b8b89f54bf864b5b21", func := "loop.example/g01281/laws.FnExactWayToAmount", spec := "fnExactWayToAmount", unfollowed := true, recurses := true, plainKeys := false, apart := false }
def FnExactWayToAmountSaid : Prop := fnExactWayToAmountRow.holds Try.pinned (OpenSpec.ofChange fnExactWayToAmountSpec)

/-- ITS FALSE NEIGHBOUR: 'it returns false'. Refute it at one input. -/
def fnExactWayToAmountWrong : ChangeSpec := { name := "fnExactWayToAmount", fn := fun _ => fun
  | [d1, d2] => { results := [.lit (.bool false)], args := [d1, d2] }
  | _ => none }
def FnExactWayToAmountWrongFalsely : Prop := fnExactWayToAmountRow.holds Try.pinned (OpenSpec.ofChange fnExactWayToAmountWrong)

/-- 'laws.FnExactAmountsIn': WHATEVER THE INPUT: true; the input reads as it did. -/
def fnExactAmountsInSpec : ChangeSpec := { name := "fnExactAmountsIn", fn := fun _ => fun
  | [d] => { results := [.lit (.bool true)], args := [d] }
  | _ => none }
def fnExactAmountsInRow : OpenClaim := { program := "yteciomagemjjaaa", sum := "2d1853b390ec50dcbcdd703c139624ec2f035849c17e87b8b89f54bf864b5b21", func := "loop.example/g01281/laws.FnExactAmountsIn", spec := "fnExactAmountsIn", unfollowed := true, recurses := true, plainKeys := false, apart := false }
def FnExactAmountsInSaid : Prop := fnExactAmountsInRow.holds Try.pinned (OpenSpec.ofChange fnExactAmountsInSpec)

/-- ITS FALSE NEIGHBOUR: 'it returns false'. Refute it at one input. -/
def fnExactAmountsInWrong : ChangeSpec := { name := "fnExactAmountsIn", fn := fun _ => fun
  | [d] => { results := [.lit (.bool false)], args := [d] }
  | _ => none }
def FnExactAmountsInWrongFalsely : Prop := fnExactAmountsInRow.holds Try.pinned (OpenSpec.ofChange fnExactAmountsInWrong)

/- THE SECOND FORM. 'bulk': how many values and letters a reading holds, each counted each time it is reached (what is shared counts as often as it is met; a slice's spare places count too). A statement '..UptoSaid' is the law's where the arguments, and the package variables that the reading takes, are together of bulk at most 1048576: NARROWER than '..Said'. Prove '..Said' where nothing that the law and all that it calls make is longer than what came in: it says more and counts as full. Else prove '..UptoSaid'. A law counts once. -/
mutual
def uptoBulk {H : Type} : DataW H → Nat
  | .lit (.string bytes) => bytes.length + 1
  | .lit _ => 1
  | .nil => 1
  | .ptr d => uptoBulk d + 1
  | .slice elems spare => uptoBulkAll elems + uptoBulkAll spare + 1
  | .agg parts => uptoBulkAll parts + 1
  | .iface _ d => uptoBulk d + 1
  | .map entries => uptoBulkEntries entries + 1
  | .held _ => 1
def uptoBulkAll {H : Type} : List (DataW H) → Nat
  | [] => 0
  | d :: r => uptoBulk d + uptoBulkAll r
def uptoBulkEntries {H : Type} : List (Lit × DataW H) → Nat
  | [] => 0
  | x :: r => uptoBulkEntry x + uptoBulkEntries r
def uptoBulkEntry {H : Type} : Lit × DataW H → Nat
  | (.string bytes, d) => bytes.length + uptoBulk d + 1
  | (_, d) => uptoBulk d + 1
 end
def uptoSmall : (H : Type) → List (DataW H) → Bool := fun _ ds => decide (uptoBulkAll ds ≤ 1048576)
def OpenSpec.upto (s : _root_.Go.ChangeSpec) : _root_.Go.OpenSpec := { _root_.Go.OpenSpec.ofChange s with cond := some uptoSmall }

/-- 'laws.FnProofs', WHERE WHAT IT READS IS OF BULK AT MOST 1048576: true; the input reads as it did. -/
def fnProofsUptoRow : OpenClaim := { program := "yteciomagemjjaaa", sum := "2d1853b390ec50dcbcdd703c139624ec2f035849c17e87b8b89f54bf864b5b21", func := "loop.example/g01281/laws.FnProofs", spec := "fnProofs", unfollowed := true, recurses := true, plainKeys := false, apart := false, narrowed := true }
def FnProofsUptoSaid : Prop := fnProofsUptoRow.holds Try.pinned (OpenSpec.upto fnProofsSpec)

/-- 'laws.FnExactReachedStates', WHERE WHAT IT READS IS OF BULK AT MOST 1048576: true; the input reads as it did. -/
def fnExactReachedStatesUptoRow : OpenClaim := { program := "yteciomagemjjaaa", sum := "2d1853b390ec50dcbcdd703c139624ec2f035849c17e87b8b89f54bf864b5b21", func := "loop.example/g01281/laws.FnExactReachedStates", spec := "fnExactReachedStates", unfollowed := true, recurses := true, plainKeys := false, apart := false, narrowed := true }
def FnExactReachedStatesUptoSaid : Prop := fnExactReachedStatesUptoRow.holds Try.pinned (OpenSpec.upto fnExactReachedStatesSpec)

/-- 'laws.FnExactHardestWater', WHERE WHAT IT READS IS OF BULK AT MOST 1048576: true; the input reads as it did. -/
def fnExactHardestWaterUptoRow : OpenClaim := { program := "yteciomagemjjaaa", sum := "2d1853b390ec50dcbcdd703c139624ec2f035849c17e87b8b89f54bf864b5b21", func := "loop.example/g01281/laws.FnExactHardestWater", spec := "fnExactHardestWater", unfollowed := true, recurses := true, plainKeys := false, apart := false, narrowed := true }
def FnExactHardestWaterUptoSaid : Prop := fnExactHardestWaterUptoRow.holds Try.pinned (OpenSpec.upto fnExactHardestWaterSpec)

/-- 'laws.FnExactStepsTable', WHERE WHAT IT READS IS OF BULK AT MOST 1048576: true; the input reads as it did. -/
def fnExactStepsTableUptoRow : OpenClaim := { program := "yteciomagemjjaaa", sum := "2d1853b390ec50dcbcdd703c139624ec2f035849c17e87b8b89f54bf864b5b21", func := "loop.example/g01281/laws.FnExactStepsTable", spec := "fnExactStepsTable", unfollowed := true, recurses := true, plainKeys := false, apart := false, narrowed := true }
def FnExactStepsTableUptoSaid : Prop := fnExactStepsTableUptoRow.holds Try.pinned (OpenSpec.upto fnExactStepsTableSpec)

/-- 'laws.FnExactWayTo', WHERE WHAT IT READS IS OF BULK AT MOST 1048576: true; the input reads as it did. -/
def fnExactWayToUptoRow : OpenClaim := { program := "yteciomagemjjaaa", sum := "2d1853b390ec50dcbcdd703c139624ec2f035849c17e87b8b89f54bf864b5b21", func := "loop.example/g01281/laws.FnExactWayTo", spec := "fnExactWayTo", unfollowed := true, recurses := true, plainKeys := false, apart := false, narrowed := true }
def FnExactWayToUptoSaid : Prop := fnExactWayToUptoRow.holds Try.pinned (OpenSpec.upto fnExactWayToSpec)

/-- 'laws.FnExactWayToAmount', WHERE WHAT IT READS IS OF BULK AT MOST 1048576: true; the input reads as it did. -/
def fnExactWayToAmountUptoRow : OpenClaim := { program := "yteciomagemjjaaa", sum := "2d1853b390ec50dcbcdd703c139624ec2f035849c17e87b8b89f54bf864b5b21", func := "loop.example/g01281/laws.FnExactWayToAmount", spec := "fnExactWayToAmount", unfollowed := true, recurses := true, plainKeys := false, apart := false, narrowed := true }
def FnExactWayToAmountUptoSaid : Prop := fnExactWayToAmountUptoRow.holds Try.pinned (OpenSpec.upto fnExactWayToAmountSpec)

/-- 'laws.FnExactAmountsIn', WHERE WHAT IT READS IS OF BULK AT MOST 1048576: true; the input reads as it did. -/
def fnExactAmountsInUptoRow : OpenClaim := { program := "yteciomagemjjaaa", sum := "2d1853b390ec50dcbcdd703c139624ec2f035849c17e87b8b89f54bf864b5b21", func := "loop.example/g01281/laws.FnExactAmountsIn", spec := "fnExactAmountsIn", unfollowed := true, recurses := true, plainKeys := false, apart := false, narrowed := true }
def FnExactAmountsInUptoSaid : Prop := fnExactAmountsInUptoRow.holds Try.pinned (OpenSpec.upto fnExactAmountsInSpec)

end Rows
end Go.Proofs.Yteciomagemjjaaa
