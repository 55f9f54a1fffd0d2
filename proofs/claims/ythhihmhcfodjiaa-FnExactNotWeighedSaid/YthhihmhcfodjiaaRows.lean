/-
  No cell of these rows narrows 'for every input' (looked for: loops, veiled, ifaces, maps, wideKeys, modest, calm, conditions, laid).
  DERIVED. THE GIVEN ROWS OF THIS SEAT. 9 by the template 'for every input the law returns true; each argument reads behind the call as it read before'; 0 by the template 'total and deterministic' (their statements: YthhihmhcfodjiaaTotals.lean).
  GIVEN WITH THE SEED: the statements are not yours to turn. If you find one false, say at which input.
  Laid BY PROGRAM, IN A SANDBOX (cutbox-rows.mjs): the forced cells as the released guide's own fill.sh prints them over the translation ed497d9147b70092… (all of the seat's roots in one cut). By AI agents, Wed Nov 11 2026. No macro, syntax, notation, axiom, sorry.
-/
import Derived.Test.YthhihmhcfodjiaaChecked
import GoSem.Claim
import GoSem.ClaimJoined
import GoSem.ClaimMapViews
import Derived.JoinedTies
import Derived.KernelRfl
namespace Go.Proofs.Ythhihmhcfodjiaa
/- THE CELL 'sum', in the pinned program and in every row, IS THE sha256 OF THE DUMP (.gsa) THAT YthhihmhcfodjiaaProg.lean LOADS. Nothing in Lean hashes anything: it is a label: what it is worth is what the hold of that sum in a sandbox is worth. -/
noncomputable def Try.pinned : Pinned := { name := "ythhihmhcfodjiaa", sum := "ed497d9147b700928766d360641d0f6ae7635df0f2a453c4de079965abf5ee14", checked := Try.checked }
namespace Rows
def none {H : Type} : Left H := { results := [], args := [] }

/-- 'laws.FnExactValidPlacing': WHATEVER THE INPUT: true; the input reads as it did. -/
def fnExactValidPlacingSpec : ChangeSpec := { name := "fnExactValidPlacing", fn := fun _ => fun
  | [d1, d2] => { results := [.lit (.bool true)], args := [d1, d2] }
  | _ => none }
def fnExactValidPlacingRow : OpenClaim := { program := "ythhihmhcfodjiaa", sum := "ed497d9147b700928766d360641d0f6ae7635df0f2a453c4de079965abf5ee14", func := "loop.example/g01281/laws.FnExactValidPlacing", spec := "fnExactValidPlacing", unfollowed := true, recurses := true, apart := false }
def FnExactValidPlacingSaid : Prop := fnExactValidPlacingRow.holds Try.pinned (OpenSpec.ofChange fnExactValidPlacingSpec)

/-- ITS FALSE NEIGHBOUR: 'it returns false'. Refute it at one input. -/
def fnExactValidPlacingWrong : ChangeSpec := { name := "fnExactValidPlacing", fn := fun _ => fun
  | [d1, d2] => { results := [.lit (.bool false)], args := [d1, d2] }
  | _ => none }
def FnExactValidPlacingWrongFalsely : Prop := fnExactValidPlacingRow.holds Try.pinned (OpenSpec.ofChange fnExactValidPlacingWrong)

/-- 'laws.FnExactUsedIn': WHATEVER THE INPUT: true; the input reads as it did. -/
def fnExactUsedInSpec : ChangeSpec := { name := "fnExactUsedIn", fn := fun _ => fun
  | [d1, d2] => { results := [.lit (.bool true)], args := [d1, d2] }
  | _ => none }
def fnExactUsedInRow : OpenClaim := { program := "ythhihmhcfodjiaa", sum := "ed497d9147b700928766d360641d0f6ae7635df0f2a453c4de079965abf5ee14", func := "loop.example/g01281/laws.FnExactUsedIn", spec := "fnExactUsedIn", unfollowed := true, recurses := true, apart := false }
def FnExactUsedInSaid : Prop := fnExactUsedInRow.holds Try.pinned (OpenSpec.ofChange fnExactUsedInSpec)

/-- ITS FALSE NEIGHBOUR: 'it returns false'. Refute it at one input. -/
def fnExactUsedInWrong : ChangeSpec := { name := "fnExactUsedIn", fn := fun _ => fun
  | [d1, d2] => { results := [.lit (.bool false)], args := [d1, d2] }
  | _ => none }
def FnExactUsedInWrongFalsely : Prop := fnExactUsedInRow.holds Try.pinned (OpenSpec.ofChange fnExactUsedInWrong)

/-- 'laws.FnExactMassOf': WHATEVER THE INPUT: true; the input reads as it did. -/
def fnExactMassOfSpec : ChangeSpec := { name := "fnExactMassOf", fn := fun _ => fun
  | [d1, d2] => { results := [.lit (.bool true)], args := [d1, d2] }
  | _ => none }
def fnExactMassOfRow : OpenClaim := { program := "ythhihmhcfodjiaa", sum := "ed497d9147b700928766d360641d0f6ae7635df0f2a453c4de079965abf5ee14", func := "loop.example/g01281/laws.FnExactMassOf", spec := "fnExactMassOf", unfollowed := true, recurses := true, apart := false }
def FnExactMassOfSaid : Prop := fnExactMassOfRow.holds Try.pinned (OpenSpec.ofChange fnExactMassOfSpec)

/-- ITS FALSE NEIGHBOUR: 'it returns false'. Refute it at one input. -/
def fnExactMassOfWrong : ChangeSpec := { name := "fnExactMassOf", fn := fun _ => fun
  | [d1, d2] => { results := [.lit (.bool false)], args := [d1, d2] }
  | _ => none }
def FnExactMassOfWrongFalsely : Prop := fnExactMassOfRow.holds Try.pinned (OpenSpec.ofChange fnExactMassOfWrong)

/-- 'laws.FnExactWaysToWeigh': WHATEVER THE INPUT: true; the input reads as it did. -/
def fnExactWaysToWeighSpec : ChangeSpec := { name := "fnExactWaysToWeigh", fn := fun _ => fun
  | [d1, d2, d3] => { results := [.lit (.bool true)], args := [d1, d2, d3] }
  | _ => none }
def fnExactWaysToWeighRow : OpenClaim := { program := "ythhihmhcfodjiaa", sum := "ed497d9147b700928766d360641d0f6ae7635df0f2a453c4de079965abf5ee14", func := "loop.example/g01281/laws.FnExactWaysToWeigh", spec := "fnExactWaysToWeigh", apart := false }
def FnExactWaysToWeighSaid : Prop := fnExactWaysToWeighRow.holds Try.pinned (OpenSpec.ofChange fnExactWaysToWeighSpec)

/-- ITS FALSE NEIGHBOUR: 'it returns false'. Refute it at one input. -/
def fnExactWaysToWeighWrong : ChangeSpec := { name := "fnExactWaysToWeigh", fn := fun _ => fun
  | [d1, d2, d3] => { results := [.lit (.bool false)], args := [d1, d2, d3] }
  | _ => none }
def FnExactWaysToWeighWrongFalsely : Prop := fnExactWaysToWeighRow.holds Try.pinned (OpenSpec.ofChange fnExactWaysToWeighWrong)

/-- 'laws.FnExactAllUpTo': WHATEVER THE INPUT: true; the input reads as it did. -/
def fnExactAllUpToSpec : ChangeSpec := { name := "fnExactAllUpTo", fn := fun _ => fun
  | [d1, d2] => { results := [.lit (.bool true)], args := [d1, d2] }
  | _ => none }
def fnExactAllUpToRow : OpenClaim := { program := "ythhihmhcfodjiaa", sum := "ed497d9147b700928766d360641d0f6ae7635df0f2a453c4de079965abf5ee14", func := "loop.example/g01281/laws.FnExactAllUpTo", spec := "fnExactAllUpTo", unfollowed := true, recurses := true, apart := false }
def FnExactAllUpToSaid : Prop := fnExactAllUpToRow.holds Try.pinned (OpenSpec.ofChange fnExactAllUpToSpec)

/-- ITS FALSE NEIGHBOUR: 'it returns false'. Refute it at one input. -/
def fnExactAllUpToWrong : ChangeSpec := { name := "fnExactAllUpTo", fn := fun _ => fun
  | [d1, d2] => { results := [.lit (.bool false)], args := [d1, d2] }
  | _ => none }
def FnExactAllUpToWrongFalsely : Prop := fnExactAllUpToRow.holds Try.pinned (OpenSpec.ofChange fnExactAllUpToWrong)

/-- 'laws.FnExactCanWeigh': WHATEVER THE INPUT: true; the input reads as it did. -/
def fnExactCanWeighSpec : ChangeSpec := { name := "fnExactCanWeigh", fn := fun _ => fun
  | [d1, d2, d3] => { results := [.lit (.bool true)], args := [d1, d2, d3] }
  | _ => none }
def fnExactCanWeighRow : OpenClaim := { program := "ythhihmhcfodjiaa", sum := "ed497d9147b700928766d360641d0f6ae7635df0f2a453c4de079965abf5ee14", func := "loop.example/g01281/laws.FnExactCanWeigh", spec := "fnExactCanWeigh", unfollowed := true, recurses := true, apart := false }
def FnExactCanWeighSaid : Prop := fnExactCanWeighRow.holds Try.pinned (OpenSpec.ofChange fnExactCanWeighSpec)

/-- ITS FALSE NEIGHBOUR: 'it returns false'. Refute it at one input. -/
def fnExactCanWeighWrong : ChangeSpec := { name := "fnExactCanWeigh", fn := fun _ => fun
  | [d1, d2, d3] => { results := [.lit (.bool false)], args := [d1, d2, d3] }
  | _ => none }
def FnExactCanWeighWrongFalsely : Prop := fnExactCanWeighRow.holds Try.pinned (OpenSpec.ofChange fnExactCanWeighWrong)

/-- 'laws.FnExactTilt': WHATEVER THE INPUT: true; the input reads as it did. -/
def fnExactTiltSpec : ChangeSpec := { name := "fnExactTilt", fn := fun _ => fun
  | [d1, d2, d3] => { results := [.lit (.bool true)], args := [d1, d2, d3] }
  | _ => none }
def fnExactTiltRow : OpenClaim := { program := "ythhihmhcfodjiaa", sum := "ed497d9147b700928766d360641d0f6ae7635df0f2a453c4de079965abf5ee14", func := "loop.example/g01281/laws.FnExactTilt", spec := "fnExactTilt", unfollowed := true, recurses := true, apart := false }
def FnExactTiltSaid : Prop := fnExactTiltRow.holds Try.pinned (OpenSpec.ofChange fnExactTiltSpec)

/-- ITS FALSE NEIGHBOUR: 'it returns false'. Refute it at one input. -/
def fnExactTiltWrong : ChangeSpec := { name := "fnExactTilt", fn := fun _ => fun
  | [d1, d2, d3] => { results := [.lit (.bool false)], args := [d1, d2, d3] }
  | _ => none }
def FnExactTiltWrongFalsely : Prop := fnExactTiltRow.holds Try.pinned (OpenSpec.ofChange fnExactTiltWrong)

/-- 'laws.FnExactTiltOfArms': WHATEVER THE INPUT: true; the input reads as it did. -/
def fnExactTiltOfArmsSpec : ChangeSpec := { name := "fnExactTiltOfArms", fn := fun _ => fun
  | [d1, d2, d3, d4, d5] => { results := [.lit (.bool true)], args := [d1, d2, d3, d4, d5] }
  | _ => none }
def fnExactTiltOfArmsRow : OpenClaim := { program := "ythhihmhcfodjiaa", sum := "ed497d9147b700928766d360641d0f6ae7635df0f2a453c4de079965abf5ee14", func := "loop.example/g01281/laws.FnExactTiltOfArms", spec := "fnExactTiltOfArms", unfollowed := true, recurses := true, apart := false }
def FnExactTiltOfArmsSaid : Prop := fnExactTiltOfArmsRow.holds Try.pinned (OpenSpec.ofChange fnExactTiltOfArmsSpec)

/-- ITS FALSE NEIGHBOUR: 'it returns false'. Refute it at one input. -/
def fnExactTiltOfArmsWrong : ChangeSpec := { name := "fnExactTiltOfArms", fn := fun _ => fun
  | [d1, d2, d3, d4, d5] => { results := [.lit (.bool false)], args := [d1, d2, d3, d4, d5] }
  | _ => none }
def FnExactTiltOfArmsWrongFalsely : Prop := fnExactTiltOfArmsRow.holds Try.pinned (OpenSpec.ofChange fnExactTiltOfArmsWrong)

/-- 'laws.FnExactNotWeighed': WHATEVER THE INPUT: true; the input reads as it did. -/
def fnExactNotWeighedSpec : ChangeSpec := { name := "fnExactNotWeighed", fn := fun _ => fun
  | [d1, d2] => { results := [.lit (.bool true)], args := [d1, d2] }
  | _ => none }
def fnExactNotWeighedRow : OpenClaim := { program := "ythhihmhcfodjiaa", sum := "ed497d9147b700928766d360641d0f6ae7635df0f2a453c4de079965abf5ee14", func := "loop.example/g01281/laws.FnExactNotWeighed", spec := "fnExactNotWeighed", unfollowed := true, recurses := true, apart := false }
def FnExactNotWeighedSaid : Prop := fnExactNotWeighedRow.holds Try.pinned (OpenSpec.ofChange fnExactNotWeighedSpec)

/-- ITS FALSE NEIGHBOUR: 'it returns false'. Refute it at one input. -/
def fnExactNotWeighedWrong : ChangeSpec := { name := "fnExactNotWeighed", fn := fun _ => fun
  | [d1, d2] => { results := [.lit (.bool false)], args := [d1, d2] }
  | _ => none }
def FnExactNotWeighedWrongFalsely : Prop := fnExactNotWeighedRow.holds Try.pinned (OpenSpec.ofChange fnExactNotWeighedWrong)

/- THE SECOND FORM. 'bulk': how many values and letters a reading holds, each counted each time it is reached (what is shared counts as often as it is met; a slice's spare places count too). A statement '..UptoSaid' is the law's where the arguments, and the package variables that the reading takes, are together of bulk at most 1048576: NARROWER than '..Said'. Prove '..Said' where nothing that the law and all that it calls make is longer than what came in: it says more and counts as full. Else prove '..UptoSaid'. A law counts once. -/
mutual
def uptoBulk {H : Type} : DataW H → Nat
  | .lit (.string bytes) => bytes.length + 1
  | .lit _ => 1
  | .nil => 1
  | .ptr d => uptoBulk d + 1
  | .slice elems spare => uptoBulkAll elems + uptoBulkAll spare + 1
  | .agg parts => uptoBulkAll parts + 1
  | .iface _ d => uptoBulk d + 1
  | .map entries => uptoBulkEntries entries + 1
  | .held _ => 1
def uptoBulkAll {H : Type} : List (DataW H) → Nat
  | [] => 0
  | d :: r => uptoBulk d + uptoBulkAll r
def uptoBulkEntries {H : Type} : List (Lit × DataW H) → Nat
  | [] => 0
  | x :: r => uptoBulkEntry x + uptoBulkEntries r
def uptoBulkEntry {H : Type} : Lit × DataW H → Nat
  | (.string bytes, d) => bytes.length + uptoBulk d + 1
  | (_, d) => uptoBulk d + 1
 end
def uptoSmall : (H : Type) → List (DataW H) → Bool := fun _ ds => decide (uptoBulkAll ds ≤ 1048576)
def OpenSpec.upto (s : _root_.Go.ChangeSpec) : _root_.Go.OpenSpec := { _root_.Go.OpenSpec.ofChange s with cond := some uptoSmall }

/-- 'laws.FnExactValidPlacing', WHERE WHAT IT READS IS OF BULK AT MOST 1048576: true; the input reads as it did. -/
def fnExactValidPlacingUptoRow : OpenClaim := { program := "ythhihmhcfodjiaa", sum := "ed497d9147b700928766d360641d0f6ae7635df0f2a453c4de079965abf5ee14", func := "loop.example/g01281/laws.FnExactValidPlacing", spec := "fnExactValidPlacing", unfollowed := true, recurses := true, apart := false, narrowed := true }
def FnExactValidPlacingUptoSaid : Prop := fnExactValidPlacingUptoRow.holds Try.pinned (OpenSpec.upto fnExactValidPlacingSpec)

/-- 'laws.FnExactUsedIn', WHERE WHAT IT READS IS OF BULK AT MOST 1048576: true; the input reads as it did. -/
def fnExactUsedInUptoRow : OpenClaim := { program := "ythhihmhcfodjiaa", sum := "ed497d9147b700928766d360641d0f6ae7635df0f2a453c4de079965abf5ee14", func := "loop.example/g01281/laws.FnExactUsedIn", spec := "fnExactUsedIn", unfollowed := true, recurses := true, apart := false, narrowed := true }
def FnExactUsedInUptoSaid : Prop := fnExactUsedInUptoRow.holds Try.pinned (OpenSpec.upto fnExactUsedInSpec)

/-- 'laws.FnExactMassOf', WHERE WHAT IT READS IS OF BULK AT MOST 1048576: true; the input reads as it did. -/
def fnExactMassOfUptoRow : OpenClaim := { program := "ythhihmhcfodjiaa", sum := "ed497d9147b700928766d360641d0f6ae7635df0f2a453c4de079965abf5ee14", func := "loop.example/g01281/laws.FnExactMassOf", spec := "fnExactMassOf", unfollowed := true, recurses := true, apart := false, narrowed := true }
def FnExactMassOfUptoSaid : Prop := fnExactMassOfUptoRow.holds Try.pinned (OpenSpec.upto fnExactMassOfSpec)

/-- 'laws.FnExactWaysToWeigh', WHERE WHAT IT READS IS OF BULK AT MOST 1048576: true; the input reads as it did. -/
def fnExactWaysToWeighUptoRow : OpenClaim := { program := "ythhihmhcfodjiaa", sum := "ed497d9147b700928766d360641d0f6ae7635df0f2a453c4de079965abf5ee14", func := "loop.example/g01281/laws.FnExactWaysToWeigh", spec := "fnExactWaysToWeigh", apart := false, narrowed := true }
def FnExactWaysToWeighUptoSaid : Prop := fnExactWaysToWeighUptoRow.holds Try.pinned (OpenSpec.upto fnExactWaysToWeighSpec)

/-- 'laws.FnExactAllUpTo', WHERE WHAT IT READS IS OF BULK AT MOST 1048576: true; the input reads as it did. -/
def fnExactAllUpToUptoRow : OpenClaim := { program := "ythhihmhcfodjiaa", sum := "ed497d9147b700928766d360641d0f6ae7635df0f2a453c4de079965abf5ee14", func := "loop.example/g01281/laws.FnExactAllUpTo", spec := "fnExactAllUpTo", unfollowed := true, recurses := true, apart := false, narrowed := true }
def FnExactAllUpToUptoSaid : Prop := fnExactAllUpToUptoRow.holds Try.pinned (OpenSpec.upto fnExactAllUpToSpec)

/-- 'laws.FnExactCanWeigh', WHERE WHAT IT READS IS OF BULK AT MOST 1048576: true; the input reads as it did. -/
def fnExactCanWeighUptoRow : OpenClaim := { program := "ythhihmhcfodjiaa", sum := "ed497d9147b700928766d360641d0f6ae7635df0f2a453c4de079965abf5ee14", func := "loop.example/g01281/laws.FnExactCanWeigh", spec := "fnExactCanWeigh", unfollowed := true, recurses := true, apart := false, narrowed := true }
def FnExactCanWeighUptoSaid : Prop := fnExactCanWeighUptoRow.holds Try.pinned (OpenSpec.upto fnExactCanWeighSpec)

/-- 'laws.FnExactTilt', WHERE WHAT IT READS IS OF BULK AT MOST 1048576: true; the input reads as it did. -/
def fnExactTiltUptoRow : OpenClaim := { program := "ythhihmhcfodjiaa", sum := "ed497d9147b700928766d360641d0f6ae7635df0f2a453c4de079965abf5ee14", func := "loop.example/g01281/laws.FnExactTilt", spec := "fnExactTilt", unfollowed := true, recurses := true, apart := false, narrowed := true }
def FnExactTiltUptoSaid : Prop := fnExactTiltUptoRow.holds Try.pinned (OpenSpec.upto fnExactTiltSpec)

/-- 'laws.FnExactTiltOfArms', WHERE WHAT IT READS IS OF BULK AT MOST 1048576: true; the input reads as it did. -/
def fnExactTiltOfArmsUptoRow : OpenClaim := { program := "ythhihmhcfodjiaa", sum := "ed497d9147b700928766d360641d0f6ae7635df0f2a453c4de079965abf5ee14", func := "loop.example/g01281/laws.FnExactTiltOfArms", spec := "fnExactTiltOfArms", unfollowed := true, recurses := true, apart := false, narrowed := true }
def FnExactTiltOfArmsUptoSaid : Prop := fnExactTiltOfArmsUptoRow.holds Try.pinned (OpenSpec.upto fnExactTiltOfArmsSpec)

/-- 'laws.FnExactNotWeighed', WHERE WHAT IT READS IS OF BULK AT MOST 1048576: true; the input reads as it did. -/
def fnExactNotWeighedUptoRow : OpenClaim := { program := "ythhihmhcfodjiaa", sum := "ed497d9147b700928766d360641d0f6ae7635df0f2a453c4de079965abf5ee14", func := "loop.example/g01281/laws.FnExactNotWeighed", spec := "fnExactNotWeighed", unfollowed := true, recurses := true, apart := false, narrowed := true }
def FnExactNotWeighedUptoSaid : Prop := fnExactNotWeighedUptoRow.holds Try.pinned (OpenSpec.upto fnExactNotWeighedSpec)

end Rows
end Go.Proofs.Ythhihmhcfodjiaa
