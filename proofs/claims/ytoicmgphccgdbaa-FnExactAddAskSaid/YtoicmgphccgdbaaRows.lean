/-
  No cell of these rows narrows 'for every input' (looked for: loops, veiled, ifaces, maps, wideKeys, modest, calm, conditions, laid).
  DERIVED. THE GIVEN ROWS OF THIS SEAT. 12 by the template 'for every input the law returns true; each argument reads behind the call as it read before'; 0 by the template 'total and deterministic' (their statements: YtoicmgphccgdbaaTotals.lean).
  GIVEN WITH THE SEED: the statements are not yours to turn. If you find one false, say at which input.
  Laid BY PROGRAM, IN A SANDBOX (cutbox-rows.mjs): the forced cells as the released guide's own fill.sh prints them over the translation 37a38ebc51ff5cb4… (all of the seat's roots in one cut). By AI agents, Wed Nov 11 2026. No macro, syntax, notation, axiom, sorry.
-/
import Derived.Test.YtoicmgphccgdbaaChecked
import GoSem.Claim
import GoSem.ClaimJoined
import GoSem.ClaimMapViews
import Derived.JoinedTies
import Derived.KernelRfl
namespace Go.Proofs.Ytoicmgphccgdbaa
/- THE CELL 'sum', in the pinned program and in every row, IS THE sha256 OF THE DUMP (.gsa) THAT YtoicmgphccgdbaaProg.lean LOADS. Nothing in Lean hashes anything: it is a label: what it is worth is what the hold of that sum in a sandbox is worth. -/
noncomputable def Try.pinned : Pinned := { name := "ytoicmgphccgdbaa", sum := "37a38ebc51ff5cb4d5cece8e735fec14c8509c7a89a9a59904b2c556a4cd69ca", checked := Try.checked }
namespace Rows
def none {H : Type} : Left H := { results := [], args := [] }

/-- 'laws.FnExactValidState': WHATEVER THE INPUT: true; the input reads as it did. -/
def fnExactValidStateSpec : ChangeSpec := { name := "fnExactValidState", fn := fun _ => fun
  | [d1, d2] => { results := [.lit (.bool true)], args := [d1, d2] }
  | _ => none }
def fnExactValidStateRow : OpenClaim := { program := "ytoicmgphccgdbaa", sum := "37a38ebc51ff5cb4d5cece8e735fec14c8509c7a89a9a59904b2c556a4cd69ca", func := "loop.example/g01281/laws.FnExactValidState", spec := "fnExactValidState", apart := false }
def FnExactValidStateSaid : Prop := fnExactValidStateRow.holds Try.pinned (OpenSpec.ofChange fnExactValidStateSpec)

/-- ITS FALSE NEIGHBOUR: 'it returns false'. Refute it at one input. -/
def fnExactValidStateWrong : ChangeSpec := { name := "fnExactValidState", fn := fun _ => fun
  | [d1, d2] => { results := [.lit (.bool false)], args := [d1, d2] }
  | _ => none }
def FnExactValidStateWrongFalsely : Prop := fnExactValidStateRow.holds Try.pinned (OpenSpec.ofChange fnExactValidStateWrong)

/-- 'laws.FnExactHalfOf': WHATEVER THE INPUT: true; the input reads as it did. -/
def fnExactHalfOfSpec : ChangeSpec := { name := "fnExactHalfOf", fn := fun _ => fun
  | [d1, d2] => { results := [.lit (.bool true)], args := [d1, d2] }
  | _ => none }
def fnExactHalfOfRow : OpenClaim := { program := "ytoicmgphccgdbaa", sum := "37a38ebc51ff5cb4d5cece8e735fec14c8509c7a89a9a59904b2c556a4cd69ca", func := "loop.example/g01281/laws.FnExactHalfOf", spec := "fnExactHalfOf", apart := false }
def FnExactHalfOfSaid : Prop := fnExactHalfOfRow.holds Try.pinned (OpenSpec.ofChange fnExactHalfOfSpec)

/-- ITS FALSE NEIGHBOUR: 'it returns false'. Refute it at one input. -/
def fnExactHalfOfWrong : ChangeSpec := { name := "fnExactHalfOf", fn := fun _ => fun
  | [d1, d2] => { results := [.lit (.bool false)], args := [d1, d2] }
  | _ => none }
def FnExactHalfOfWrongFalsely : Prop := fnExactHalfOfRow.holds Try.pinned (OpenSpec.ofChange fnExactHalfOfWrong)

/-- 'laws.FnExactWeightOf': WHATEVER THE INPUT: true; the input reads as it did. -/
def fnExactWeightOfSpec : ChangeSpec := { name := "fnExactWeightOf", fn := fun _ => fun
  | [d1, d2, d3] => { results := [.lit (.bool true)], args := [d1, d2, d3] }
  | _ => none }
def fnExactWeightOfRow : OpenClaim := { program := "ytoicmgphccgdbaa", sum := "37a38ebc51ff5cb4d5cece8e735fec14c8509c7a89a9a59904b2c556a4cd69ca", func := "loop.example/g01281/laws.FnExactWeightOf", spec := "fnExactWeightOf", apart := false }
def FnExactWeightOfSaid : Prop := fnExactWeightOfRow.holds Try.pinned (OpenSpec.ofChange fnExactWeightOfSpec)

/-- ITS FALSE NEIGHBOUR: 'it returns false'. Refute it at one input. -/
def fnExactWeightOfWrong : ChangeSpec := { name := "fnExactWeightOf", fn := fun _ => fun
  | [d1, d2, d3] => { results := [.lit (.bool false)], args := [d1, d2, d3] }
  | _ => none }
def FnExactWeightOfWrongFalsely : Prop := fnExactWeightOfRow.holds Try.pinned (OpenSpec.ofChange fnExactWeightOfWrong)

/-- 'laws.FnExactLeastByWeight': WHATEVER THE INPUT: true; the input reads as it did. -/
def fnExactLeastByWeightSpec : ChangeSpec := { name := "fnExactLeastByWeight", fn := fun _ => fun
  | [d1, d2] => { results := [.lit (.bool true)], args := [d1, d2] }
  | _ => none }
def fnExactLeastByWeightRow : OpenClaim := { program := "ytoicmgphccgdbaa", sum := "37a38ebc51ff5cb4d5cece8e735fec14c8509c7a89a9a59904b2c556a4cd69ca", func := "loop.example/g01281/laws.FnExactLeastByWeight", spec := "fnExactLeastByWeight", apart := false }
def FnExactLeastByWeightSaid : Prop := fnExactLeastByWeightRow.holds Try.pinned (OpenSpec.ofChange fnExactLeastByWeightSpec)

/-- ITS FALSE NEIGHBOUR: 'it returns false'. Refute it at one input. -/
def fnExactLeastByWeightWrong : ChangeSpec := { name := "fnExactLeastByWeight", fn := fun _ => fun
  | [d1, d2] => { results := [.lit (.bool false)], args := [d1, d2] }
  | _ => none }
def FnExactLeastByWeightWrongFalsely : Prop := fnExactLeastByWeightRow.holds Try.pinned (OpenSpec.ofChange fnExactLeastByWeightWrong)

/-- 'laws.FnExactNewGame': WHATEVER THE INPUT: true; the input reads as it did. -/
def fnExactNewGameSpec : ChangeSpec := { name := "fnExactNewGame", fn := fun _ => fun
  | [d1, d2] => { results := [.lit (.bool true)], args := [d1, d2] }
  | _ => none }
def fnExactNewGameRow : OpenClaim := { program := "ytoicmgphccgdbaa", sum := "37a38ebc51ff5cb4d5cece8e735fec14c8509c7a89a9a59904b2c556a4cd69ca", func := "loop.example/g01281/laws.FnExactNewGame", spec := "fnExactNewGame", apart := false }
def FnExactNewGameSaid : Prop := fnExactNewGameRow.holds Try.pinned (OpenSpec.ofChange fnExactNewGameSpec)

/-- ITS FALSE NEIGHBOUR: 'it returns false'. Refute it at one input. -/
def fnExactNewGameWrong : ChangeSpec := { name := "fnExactNewGame", fn := fun _ => fun
  | [d1, d2] => { results := [.lit (.bool false)], args := [d1, d2] }
  | _ => none }
def FnExactNewGameWrongFalsely : Prop := fnExactNewGameRow.holds Try.pinned (OpenSpec.ofChange fnExactNewGameWrong)

/-- 'laws.FnExactSameGame': WHATEVER THE INPUT: true; the input reads as it did. -/
def fnExactSameGameSpec : ChangeSpec := { name := "fnExactSameGame", fn := fun _ => fun
  | [d1, d2] => { results := [.lit (.bool true)], args := [d1, d2] }
  | _ => none }
def fnExactSameGameRow : OpenClaim := { program := "ytoicmgphccgdbaa", sum := "37a38ebc51ff5cb4d5cece8e735fec14c8509c7a89a9a59904b2c556a4cd69ca", func := "loop.example/g01281/laws.FnExactSameGame", spec := "fnExactSameGame", apart := false }
def FnExactSameGameSaid : Prop := fnExactSameGameRow.holds Try.pinned (OpenSpec.ofChange fnExactSameGameSpec)

/-- ITS FALSE NEIGHBOUR: 'it returns false'. Refute it at one input. -/
def fnExactSameGameWrong : ChangeSpec := { name := "fnExactSameGame", fn := fun _ => fun
  | [d1, d2] => { results := [.lit (.bool false)], args := [d1, d2] }
  | _ => none }
def FnExactSameGameWrongFalsely : Prop := fnExactSameGameRow.holds Try.pinned (OpenSpec.ofChange fnExactSameGameWrong)

/-- 'laws.FnExactSplitState': WHATEVER THE INPUT: true; the input reads as it did. -/
def fnExactSplitStateSpec : ChangeSpec := { name := "fnExactSplitState", fn := fun _ => fun
  | [d1, d2, d3] => { results := [.lit (.bool true)], args := [d1, d2, d3] }
  | _ => none }
def fnExactSplitStateRow : OpenClaim := { program := "ytoicmgphccgdbaa", sum := "37a38ebc51ff5cb4d5cece8e735fec14c8509c7a89a9a59904b2c556a4cd69ca", func := "loop.example/g01281/laws.FnExactSplitState", spec := "fnExactSplitState", apart := false }
def FnExactSplitStateSaid : Prop := fnExactSplitStateRow.holds Try.pinned (OpenSpec.ofChange fnExactSplitStateSpec)

/-- ITS FALSE NEIGHBOUR: 'it returns false'. Refute it at one input. -/
def fnExactSplitStateWrong : ChangeSpec := { name := "fnExactSplitState", fn := fun _ => fun
  | [d1, d2, d3] => { results := [.lit (.bool false)], args := [d1, d2, d3] }
  | _ => none }
def FnExactSplitStateWrongFalsely : Prop := fnExactSplitStateRow.holds Try.pinned (OpenSpec.ofChange fnExactSplitStateWrong)

/-- 'laws.FnExactValidGame': WHATEVER THE INPUT: true; the input reads as it did. -/
def fnExactValidGameSpec : ChangeSpec := { name := "fnExactValidGame", fn := fun _ => fun
  | [d] => { results := [.lit (.bool true)], args := [d] }
  | _ => none }
def fnExactValidGameRow : OpenClaim := { program := "ytoicmgphccgdbaa", sum := "37a38ebc51ff5cb4d5cece8e735fec14c8509c7a89a9a59904b2c556a4cd69ca", func := "loop.example/g01281/laws.FnExactValidGame", spec := "fnExactValidGame", unfollowed := true, recurses := true, apart := false }
def FnExactValidGameSaid : Prop := fnExactValidGameRow.holds Try.pinned (OpenSpec.ofChange fnExactValidGameSpec)

/-- ITS FALSE NEIGHBOUR: 'it returns false'. Refute it at one input. -/
def fnExactValidGameWrong : ChangeSpec := { name := "fnExactValidGame", fn := fun _ => fun
  | [d] => { results := [.lit (.bool false)], args := [d] }
  | _ => none }
def FnExactValidGameWrongFalsely : Prop := fnExactValidGameRow.holds Try.pinned (OpenSpec.ofChange fnExactValidGameWrong)

/-- 'laws.FnExactLiesFor': WHATEVER THE INPUT: true; the input reads as it did. -/
def fnExactLiesForSpec : ChangeSpec := { name := "fnExactLiesFor", fn := fun _ => fun
  | [d1, d2] => { results := [.lit (.bool true)], args := [d1, d2] }
  | _ => none }
def fnExactLiesForRow : OpenClaim := { program := "ytoicmgphccgdbaa", sum := "37a38ebc51ff5cb4d5cece8e735fec14c8509c7a89a9a59904b2c556a4cd69ca", func := "loop.example/g01281/laws.FnExactLiesFor", spec := "fnExactLiesFor", unfollowed := true, recurses := true, apart := false }
def FnExactLiesForSaid : Prop := fnExactLiesForRow.holds Try.pinned (OpenSpec.ofChange fnExactLiesForSpec)

/-- ITS FALSE NEIGHBOUR: 'it returns false'. Refute it at one input. -/
def fnExactLiesForWrong : ChangeSpec := { name := "fnExactLiesFor", fn := fun _ => fun
  | [d1, d2] => { results := [.lit (.bool false)], args := [d1, d2] }
  | _ => none }
def FnExactLiesForWrongFalsely : Prop := fnExactLiesForRow.holds Try.pinned (OpenSpec.ofChange fnExactLiesForWrong)

/-- 'laws.FnExactStateOf': WHATEVER THE INPUT: true; the input reads as it did. -/
def fnExactStateOfSpec : ChangeSpec := { name := "fnExactStateOf", fn := fun _ => fun
  | [d] => { results := [.lit (.bool true)], args := [d] }
  | _ => none }
def fnExactStateOfRow : OpenClaim := { program := "ytoicmgphccgdbaa", sum := "37a38ebc51ff5cb4d5cece8e735fec14c8509c7a89a9a59904b2c556a4cd69ca", func := "loop.example/g01281/laws.FnExactStateOf", spec := "fnExactStateOf", unfollowed := true, recurses := true, apart := false }
def FnExactStateOfSaid : Prop := fnExactStateOfRow.holds Try.pinned (OpenSpec.ofChange fnExactStateOfSpec)

/-- ITS FALSE NEIGHBOUR: 'it returns false'. Refute it at one input. -/
def fnExactStateOfWrong : ChangeSpec := { name := "fnExactStateOf", fn := fun _ => fun
  | [d] => { results := [.lit (.bool false)], args := [d] }
  | _ => none }
def FnExactStateOfWrongFalsely : Prop := fnExactStateOfRow.holds Try.pinned (OpenSpec.ofChange fnExactStateOfWrong)

/-- 'laws.FnExactAddAsk': WHATEVER THE INPUT: true; the input reads as it did. -/
def fnExactAddAskSpec : ChangeSpec := { name := "fnExactAddAsk", fn := fun _ => fun
  | [d1, d2, d3] => { results := [.lit (.bool true)], args := [d1, d2, d3] }
  | _ => none }
def fnExactAddAskRow : OpenClaim := { program := "ytoicmgphccgdbaa", sum := "37a38ebc51ff5cb4d5cece8e735fec14c8509c7a89a9a59904b2c556a4cd69ca", func := "loop.example/g01281/laws.FnExactAddAsk", spec := "fnExactAddAsk", unfollowed := true, recurses := true, apart := false }
def FnExactAddAskSaid : Prop := fnExactAddAskRow.holds Try.pinned (OpenSpec.ofChange fnExactAddAskSpec)

/-- ITS FALSE NEIGHBOUR: 'it returns false'. Refute it at one input. -/
def fnExactAddAskWrong : ChangeSpec := { name := "fnExactAddAsk", fn := fun _ => fun
  | [d1, d2, d3] => { results := [.lit (.bool false)], args := [d1, d2, d3] }
  | _ => none }
def FnExactAddAskWrongFalsely : Prop := fnExactAddAskRow.holds Try.pinned (OpenSpec.ofChange fnExactAddAskWrong)

/-- 'laws.FnExactFirstLies': WHATEVER THE INPUT: true; the input reads as it did. -/
def fnExactFirstLiesSpec : ChangeSpec := { name := "fnExactFirstLies", fn := fun _ => fun
  | [d1, d2] => { results := [.lit (.bool true)], args := [d1, d2] }
  | _ => none }
def fnExactFirstLiesRow : OpenClaim := { program := "ytoicmgphccgdbaa", sum := "37a38ebc51ff5cb4d5cece8e735fec14c8509c7a89a9a59904b2c556a4cd69ca", func := "loop.example/g01281/laws.FnExactFirstLies", spec := "fnExactFirstLies", unfollowed := true, recurses := true, apart := false }
def FnExactFirstLiesSaid : Prop := fnExactFirstLiesRow.holds Try.pinned (OpenSpec.ofChange fnExactFirstLiesSpec)

/-- ITS FALSE NEIGHBOUR: 'it returns false'. Refute it at one input. -/
def fnExactFirstLiesWrong : ChangeSpec := { name := "fnExactFirstLies", fn := fun _ => fun
  | [d1, d2] => { results := [.lit (.bool false)], args := [d1, d2] }
  | _ => none }
def FnExactFirstLiesWrongFalsely : Prop := fnExactFirstLiesRow.holds Try.pinned (OpenSpec.ofChange fnExactFirstLiesWrong)

/- THE SECOND FORM. 'bulk': how many values and letters a reading holds, each counted each time it is reached (what is shared counts as often as it is met; a slice's spare places count too). A statement '..UptoSaid' is the law's where the arguments, and the package variables that the reading takes, are together of bulk at most 1048576: NARROWER than '..Said'. Prove '..Said' where nothing that the law and all that it calls make is longer than what came in: it says more and counts as full. Else prove '..UptoSaid'. A law counts once. -/
mutual
def uptoBulk {H : Type} : DataW H → Nat
  | .lit (.string bytes) => bytes.length + 1
  | .lit _ => 1
  | .nil => 1
  | .ptr d => uptoBulk d + 1
  | .slice elems spare => uptoBulkAll elems + uptoBulkAll spare + 1
  | .agg parts => uptoBulkAll parts + 1
  | .iface _ d => uptoBulk d + 1
  | .map entries => uptoBulkEntries entries + 1
  | .held _ => 1
def uptoBulkAll {H : Type} : List (DataW H) → Nat
  | [] => 0
  | d :: r => uptoBulk d + uptoBulkAll r
def uptoBulkEntries {H : Type} : List (Lit × DataW H) → Nat
  | [] => 0
  | x :: r => uptoBulkEntry x + uptoBulkEntries r
def uptoBulkEntry {H : Type} : Lit × DataW H → Nat
  | (.string bytes, d) => bytes.length + uptoBulk d + 1
  | (_, d) => uptoBulk d + 1
 end
def uptoSmall : (H : Type) → List (DataW H) → Bool := fun _ ds => decide (uptoBulkAll ds ≤ 1048576)
def OpenSpec.upto (s : _root_.Go.ChangeSpec) : _root_.Go.OpenSpec := { _root_.Go.OpenSpec.ofChange s with cond := some uptoSmall }

/-- 'laws.FnExactValidState', WHERE WHAT IT READS IS OF BULK AT MOST 1048576: true; the input reads as it did. -/
def fnExactValidStateUptoRow : OpenClaim := { program := "ytoicmgphccgdbaa", sum := "37a38ebc51ff5cb4d5cece8e735fec14c8509c7a89a9a59904b2c556a4cd69ca", func := "loop.example/g01281/laws.FnExactValidState", spec := "fnExactValidState", apart := false, narrowed := true }
def FnExactValidStateUptoSaid : Prop := fnExactValidStateUptoRow.holds Try.pinned (OpenSpec.upto fnExactValidStateSpec)

/-- 'laws.FnExactHalfOf', WHERE WHAT IT READS IS OF BULK AT MOST 1048576: true; the input reads as it did. -/
def fnExactHalfOfUptoRow : OpenClaim := { program := "ytoicmgphccgdbaa", sum := "37a38ebc51ff5cb4d5cece8e735fec14c8509c7a89a9a59904b2c556a4cd69ca", func := "loop.example/g01281/laws.FnExactHalfOf", spec := "fnExactHalfOf", apart := false, narrowed := true }
def FnExactHalfOfUptoSaid : Prop := fnExactHalfOfUptoRow.holds Try.pinned (OpenSpec.upto fnExactHalfOfSpec)

/-- 'laws.FnExactWeightOf', WHERE WHAT IT READS IS OF BULK AT MOST 1048576: true; the input reads as it did. -/
def fnExactWeightOfUptoRow : OpenClaim := { program := "ytoicmgphccgdbaa", sum := "37a38ebc51ff5cb4d5cece8e735fec14c8509c7a89a9a59904b2c556a4cd69ca", func := "loop.example/g01281/laws.FnExactWeightOf", spec := "fnExactWeightOf", apart := false, narrowed := true }
def FnExactWeightOfUptoSaid : Prop := fnExactWeightOfUptoRow.holds Try.pinned (OpenSpec.upto fnExactWeightOfSpec)

/-- 'laws.FnExactLeastByWeight', WHERE WHAT IT READS IS OF BULK AT MOST 1048576: true; the input reads as it did. -/
def fnExactLeastByWeightUptoRow : OpenClaim := { program := "ytoicmgphccgdbaa", sum := "37a38ebc51ff5cb4d5cece8e735fec14c8509c7a89a9a59904b2c556a4cd69ca", func := "loop.example/g01281/laws.FnExactLeastByWeight", spec := "fnExactLeastByWeight", apart := false, narrowed := true }
def FnExactLeastByWeightUptoSaid : Prop := fnExactLeastByWeightUptoRow.holds Try.pinned (OpenSpec.upto fnExactLeastByWeightSpec)

/-- 'laws.FnExactNewGame', WHERE WHAT IT READS IS OF BULK AT MOST 1048576: true; the input reads as it did. -/
def fnExactNewGameUptoRow : OpenClaim := { program := "ytoicmgphccgdbaa", sum := "37a38ebc51ff5cb4d5cece8e735fec14c8509c7a89a9a59904b2c556a4cd69ca", func := "loop.example/g01281/laws.FnExactNewGame", spec := "fnExactNewGame", apart := false, narrowed := true }
def FnExactNewGameUptoSaid : Prop := fnExactNewGameUptoRow.holds Try.pinned (OpenSpec.upto fnExactNewGameSpec)

/-- 'laws.FnExactSameGame', WHERE WHAT IT READS IS OF BULK AT MOST 1048576: true; the input reads as it did. -/
def fnExactSameGameUptoRow : OpenClaim := { program := "ytoicmgphccgdbaa", sum := "37a38ebc51ff5cb4d5cece8e735fec14c8509c7a89a9a59904b2c556a4cd69ca", func := "loop.example/g01281/laws.FnExactSameGame", spec := "fnExactSameGame", apart := false, narrowed := true }
def FnExactSameGameUptoSaid : Prop := fnExactSameGameUptoRow.holds Try.pinned (OpenSpec.upto fnExactSameGameSpec)

/-- 'laws.FnExactSplitState', WHERE WHAT IT READS IS OF BULK AT MOST 1048576: true; the input reads as it did. -/
def fnExactSplitStateUptoRow : OpenClaim := { program := "ytoicmgphccgdbaa", sum := "37a38ebc51ff5cb4d5cece8e735fec14c8509c7a89a9a59904b2c556a4cd69ca", func := "loop.example/g01281/laws.FnExactSplitState", spec := "fnExactSplitState", apart := false, narrowed := true }
def FnExactSplitStateUptoSaid : Prop := fnExactSplitStateUptoRow.holds Try.pinned (OpenSpec.upto fnExactSplitStateSpec)

/-- 'laws.FnExactValidGame', WHERE WHAT IT READS IS OF BULK AT MOST 1048576: true; the input reads as it did. -/
def fnExactValidGameUptoRow : OpenClaim := { program := "ytoicmgphccgdbaa", sum := "37a38ebc51ff5cb4d5cece8e735fec14c8509c7a89a9a59904b2c556a4cd69ca", func := "loop.example/g01281/laws.FnExactValidGame", spec := "fnExactValidGame", unfollowed := true, recurses := true, apart := false, narrowed := true }
def FnExactValidGameUptoSaid : Prop := fnExactValidGameUptoRow.holds Try.pinned (OpenSpec.upto fnExactValidGameSpec)

/-- 'laws.FnExactLiesFor', WHERE WHAT IT READS IS OF BULK AT MOST 1048576: true; the input reads as it did. -/
def fnExactLiesForUptoRow : OpenClaim := { program := "ytoicmgphccgdbaa", sum := "37a38ebc51ff5cb4d5cece8e735fec14c8509c7a89a9a59904b2c556a4cd69ca", func := "loop.example/g01281/laws.FnExactLiesFor", spec := "fnExactLiesFor", unfollowed := true, recurses := true, apart := false, narrowed := true }
def FnExactLiesForUptoSaid : Prop := fnExactLiesForUptoRow.holds Try.pinned (OpenSpec.upto fnExactLiesForSpec)

/-- 'laws.FnExactStateOf', WHERE WHAT IT READS IS OF BULK AT MOST 1048576: true; the input reads as it did. -/
def fnExactStateOfUptoRow : OpenClaim := { program := "ytoicmgphccgdbaa", sum := "37a38ebc51ff5cb4d5cece8e735fec14c8509c7a89a9a59904b2c556a4cd69ca", func := "loop.example/g01281/laws.FnExactStateOf", spec := "fnExactStateOf", unfollowed := true, recurses := true, apart := false, narrowed := true }
def FnExactStateOfUptoSaid : Prop := fnExactStateOfUptoRow.holds Try.pinned (OpenSpec.upto fnExactStateOfSpec)

/-- 'laws.FnExactAddAsk', WHERE WHAT IT READS IS OF BULK AT MOST 1048576: true; the input reads as it did. -/
def fnExactAddAskUptoRow : OpenClaim := { program := "ytoicmgphccgdbaa", sum := "37a38ebc51ff5cb4d5cece8e735fec14c8509c7a89a9a59904b2c556a4cd69ca", func := "loop.example/g01281/laws.FnExactAddAsk", spec := "fnExactAddAsk", unfollowed := true, recurses := true, apart := false, narrowed := true }
def FnExactAddAskUptoSaid : Prop := fnExactAddAskUptoRow.holds Try.pinned (OpenSpec.upto fnExactAddAskSpec)

/-- 'laws.FnExactFirstLies', WHERE WHAT IT READS IS OF BULK AT MOST 1048576: true; the input reads as it did. -/
def fnExactFirstLiesUptoRow : OpenClaim := { program := "ytoicmgphccgdbaa", sum := "37a38ebc51ff5cb4d5cece8e735fec14c8509c7a89a9a59904b2c556a4cd69ca", func := "loop.example/g01281/laws.FnExactFirstLies", spec := "fnExactFirstLies", unfollowed := true, recurses := true, apart := false, narrowed := true }
def FnExactFirstLiesUptoSaid : Prop := fnExactFirstLiesUptoRow.holds Try.pinned (OpenSpec.upto fnExactFirstLiesSpec)

end Rows
end Go.Proofs.Ytoicmgphccgdbaa
