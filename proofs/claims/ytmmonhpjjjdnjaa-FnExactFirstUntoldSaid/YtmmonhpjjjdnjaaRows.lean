/-
  No cell of these rows narrows 'for every input' (looked for: loops, veiled, ifaces, maps, wideKeys, modest, calm, conditions, laid).
  DERIVED. THE GIVEN ROWS OF THIS SEAT. 5 by the template 'for every input the law returns true; each argument reads behind the call as it read before'; 0 by the template 'total and deterministic' (their statements: YtmmonhpjjjdnjaaTotals.lean).
  GIVEN WITH THE SEED: the statements are not yours to turn. If you find one false, say at which input.
  Laid BY PROGRAM, IN A SANDBOX (cutbox-rows.mjs): the forced cells as the released guide's own fill.sh prints them over the translation 6a44444c9939de40… (all of the seat's roots in one cut). By AI agents, Wed Nov 11 2026. No macro, syntax, notation, axiom, sorry.
-/
import Derived.Test.YtmmonhpjjjdnjaaChecked
import GoSem.Claim
import GoSem.ClaimJoined
import GoSem.ClaimMapViews
import Derived.JoinedTies
import Derived.KernelRfl
namespace Go.Proofs.Ytmmonhpjjjdnjaa
/- THE CELL 'sum', in the pinned program and in every row, IS THE sha256 OF THE DUMP (.gsa) THAT YtmmonhpjjjdnjaaProg.lean LOADS. Nothing in Lean hashes anything: it is a label: what it is worth is what the hold of that sum in a sandbox is worth. -/
noncomputable def Try.pinned : Pinned := { name := "ytmmonhpjjjdnjaa", sum := "6a44444c9939de408fb53cdeb351515ee4eb209f9a9c78139eb44de701c78c43", checked := Try.checked }
namespace Rows
def none {H : Type} : Left H := { results := [], args := [] }

/-- 'laws.FnExactMeanDepth': WHATEVER THE INPUT: true; the input reads as it did. -/
def fnExactMeanDepthSpec : ChangeSpec := { name := "fnExactMeanDepth", fn := fun _ => fun
  | [d1, d2] => { results := [.lit (.bool true)], args := [d1, d2] }
  | _ => none }
def fnExactMeanDepthRow : OpenClaim := { program := "ytmmonhpjjjdnjaa", sum := "6a44444c9939de408fb53cdeb351515ee4eb209f9a9c78139eb44de701c78c43", func := "loop.example/g01281/laws.FnExactMeanDepth", spec := "fnExactMeanDepth", apart := false }
def FnExactMeanDepthSaid : Prop := fnExactMeanDepthRow.holds Try.pinned (OpenSpec.ofChange fnExactMeanDepthSpec)

/-- ITS FALSE NEIGHBOUR: 'it returns false'. Refute it at one input. -/
def fnExactMeanDepthWrong : ChangeSpec := { name := "fnExactMeanDepth", fn := fun _ => fun
  | [d1, d2] => { results := [.lit (.bool false)], args := [d1, d2] }
  | _ => none }
def FnExactMeanDepthWrongFalsely : Prop := fnExactMeanDepthRow.holds Try.pinned (OpenSpec.ofChange fnExactMeanDepthWrong)

/-- 'laws.FnExactDepthOf': WHATEVER THE INPUT: true; the input reads as it did. -/
def fnExactDepthOfSpec : ChangeSpec := { name := "fnExactDepthOf", fn := fun _ => fun
  | [d1, d2] => { results := [.lit (.bool true)], args := [d1, d2] }
  | _ => none }
def fnExactDepthOfRow : OpenClaim := { program := "ytmmonhpjjjdnjaa", sum := "6a44444c9939de408fb53cdeb351515ee4eb209f9a9c78139eb44de701c78c43", func := "loop.example/g01281/laws.FnExactDepthOf", spec := "fnExactDepthOf", apart := false }
def FnExactDepthOfSaid : Prop := fnExactDepthOfRow.holds Try.pinned (OpenSpec.ofChange fnExactDepthOfSpec)

/-- ITS FALSE NEIGHBOUR: 'it returns false'. Refute it at one input. -/
def fnExactDepthOfWrong : ChangeSpec := { name := "fnExactDepthOf", fn := fun _ => fun
  | [d1, d2] => { results := [.lit (.bool false)], args := [d1, d2] }
  | _ => none }
def FnExactDepthOfWrongFalsely : Prop := fnExactDepthOfRow.holds Try.pinned (OpenSpec.ofChange fnExactDepthOfWrong)

/-- 'laws.FnExactFirstUntold': WHATEVER THE INPUT: true; the input reads as it did. -/
def fnExactFirstUntoldSpec : ChangeSpec := { name := "fnExactFirstUntold", fn := fun _ => fun
  | [d1, d2] => { results := [.lit (.bool true)], args := [d1, d2] }
  | _ => none }
def fnExactFirstUntoldRow : OpenClaim := { program := "ytmmonhpjjjdnjaa", sum := "6a44444c9939de408fb53cdeb351515ee4eb209f9a9c78139eb44de701c78c43", func := "loop.example/g01281/laws.FnExactFirstUntold", spec := "fnExactFirstUntold", unfollowed := true, recurses := true, apart := false }
def FnExactFirstUntoldSaid : Prop := fnExactFirstUntoldRow.holds Try.pinned (OpenSpec.ofChange fnExactFirstUntoldSpec)

/-- ITS FALSE NEIGHBOUR: 'it returns false'. Refute it at one input. -/
def fnExactFirstUntoldWrong : ChangeSpec := { name := "fnExactFirstUntold", fn := fun _ => fun
  | [d1, d2] => { results := [.lit (.bool false)], args := [d1, d2] }
  | _ => none }
def FnExactFirstUntoldWrongFalsely : Prop := fnExactFirstUntoldRow.holds Try.pinned (OpenSpec.ofChange fnExactFirstUntoldWrong)

/-- 'laws.FnExactMirrorPlan': WHATEVER THE INPUT: true; the input reads as it did. -/
def fnExactMirrorPlanSpec : ChangeSpec := { name := "fnExactMirrorPlan", fn := fun _ => fun
  | [d1, d2] => { results := [.lit (.bool true)], args := [d1, d2] }
  | _ => none }
def fnExactMirrorPlanRow : OpenClaim := { program := "ytmmonhpjjjdnjaa", sum := "6a44444c9939de408fb53cdeb351515ee4eb209f9a9c78139eb44de701c78c43", func := "loop.example/g01281/laws.FnExactMirrorPlan", spec := "fnExactMirrorPlan", apart := false }
def FnExactMirrorPlanSaid : Prop := fnExactMirrorPlanRow.holds Try.pinned (OpenSpec.ofChange fnExactMirrorPlanSpec)

/-- ITS FALSE NEIGHBOUR: 'it returns false'. Refute it at one input. -/
def fnExactMirrorPlanWrong : ChangeSpec := { name := "fnExactMirrorPlan", fn := fun _ => fun
  | [d1, d2] => { results := [.lit (.bool false)], args := [d1, d2] }
  | _ => none }
def FnExactMirrorPlanWrongFalsely : Prop := fnExactMirrorPlanRow.holds Try.pinned (OpenSpec.ofChange fnExactMirrorPlanWrong)

/-- 'laws.FnExactSwapInPlan': WHATEVER THE INPUT: true; the input reads as it did. -/
def fnExactSwapInPlanSpec : ChangeSpec := { name := "fnExactSwapInPlan", fn := fun _ => fun
  | [d1, d2, d3, d4] => { results := [.lit (.bool true)], args := [d1, d2, d3, d4] }
  | _ => none }
def fnExactSwapInPlanRow : OpenClaim := { program := "ytmmonhpjjjdnjaa", sum := "6a44444c9939de408fb53cdeb351515ee4eb209f9a9c78139eb44de701c78c43", func := "loop.example/g01281/laws.FnExactSwapInPlan", spec := "fnExactSwapInPlan", apart := false }
def FnExactSwapInPlanSaid : Prop := fnExactSwapInPlanRow.holds Try.pinned (OpenSpec.ofChange fnExactSwapInPlanSpec)

/-- ITS FALSE NEIGHBOUR: 'it returns false'. Refute it at one input. -/
def fnExactSwapInPlanWrong : ChangeSpec := { name := "fnExactSwapInPlan", fn := fun _ => fun
  | [d1, d2, d3, d4] => { results := [.lit (.bool false)], args := [d1, d2, d3, d4] }
  | _ => none }
def FnExactSwapInPlanWrongFalsely : Prop := fnExactSwapInPlanRow.holds Try.pinned (OpenSpec.ofChange fnExactSwapInPlanWrong)

/- THE SECOND FORM. 'bulk': how many values and letters a reading holds, each counted each time it is reached (what is shared counts as often as it is met; a slice's spare places count too). A statement '..UptoSaid' is the law's where the arguments, and the package variables that the reading takes, are together of bulk at most 1048576: NARROWER than '..Said'. Prove '..Said' where nothing that the law and all that it calls make is longer than what came in: it says more and counts as full. Else prove '..UptoSaid'. A law counts once. -/
mutual
def uptoBulk {H : Type} : DataW H → Nat
  | .lit (.string bytes) => bytes.length + 1
  | .lit _ => 1
  | .nil => 1
  | .ptr d => uptoBulk d + 1
  | .slice elems spare => uptoBulkAll elems + uptoBulkAll spare + 1
  | .agg parts => uptoBulkAll parts + 1
  | .iface _ d => uptoBulk d + 1
  | .map entries => uptoBulkEntries entries + 1
  | .held _ => 1
def uptoBulkAll {H : Type} : List (DataW H) → Nat
  | [] => 0
  | d :: r => uptoBulk d + uptoBulkAll r
def uptoBulkEntries {H : Type} : List (Lit × DataW H) → Nat
  | [] => 0
  | x :: r => uptoBulkEntry x + uptoBulkEntries r
def uptoBulkEntry {H : Type} : Lit × DataW H → Nat
  | (.string bytes, d) => bytes.length + uptoBulk d + 1
  | (_, d) => uptoBulk d + 1
 end
def uptoSmall : (H : Type) → List (DataW H) → Bool := fun _ ds => decide (uptoBulkAll ds ≤ 1048576)
def OpenSpec.upto (s : _root_.Go.ChangeSpec) : _root_.Go.OpenSpec := { _root_.Go.OpenSpec.ofChange s with cond := some uptoSmall }

/-- 'laws.FnExactMeanDepth', WHERE WHAT IT READS IS OF BULK AT MOST 1048576: true; the input reads as it did. -/
def fnExactMeanDepthUptoRow : OpenClaim := { program := "ytmmonhpjjjdnjaa", sum := "6a44444c9939de408fb53cdeb351515ee4eb209f9a9c78139eb44de701c78c43", func := "loop.example/g01281/laws.FnExactMeanDepth", spec := "fnExactMeanDepth", apart := false, narrowed := true }
def FnExactMeanDepthUptoSaid : Prop := fnExactMeanDepthUptoRow.holds Try.pinned (OpenSpec.upto fnExactMeanDepthSpec)

/-- 'laws.FnExactDepthOf', WHERE WHAT IT READS IS OF BULK AT MOST 1048576: true; the input reads as it did. -/
def fnExactDepthOfUptoRow : OpenClaim := { program := "ytmmonhpjjjdnjaa", sum := "6a44444c9939de408fb53cdeb351515ee4eb209f9a9c78139eb44de701c78c43", func := "loop.example/g01281/laws.FnExactDepthOf", spec := "fnExactDepthOf", apart := false, narrowed := true }
def FnExactDepthOfUptoSaid : Prop := fnExactDepthOfUptoRow.holds Try.pinned (OpenSpec.upto fnExactDepthOfSpec)

/-- 'laws.FnExactFirstUntold', WHERE WHAT IT READS IS OF BULK AT MOST 1048576: true; the input reads as it did. -/
def fnExactFirstUntoldUptoRow : OpenClaim := { program := "ytmmonhpjjjdnjaa", sum := "6a44444c9939de408fb53cdeb351515ee4eb209f9a9c78139eb44de701c78c43", func := "loop.example/g01281/laws.FnExactFirstUntold", spec := "fnExactFirstUntold", unfollowed := true, recurses := true, apart := false, narrowed := true }
def FnExactFirstUntoldUptoSaid : Prop := fnExactFirstUntoldUptoRow.holds Try.pinned (OpenSpec.upto fnExactFirstUntoldSpec)

/-- 'laws.FnExactMirrorPlan', WHERE WHAT IT READS IS OF BULK AT MOST 1048576: true; the input reads as it did. -/
def fnExactMirrorPlanUptoRow : OpenClaim := { program := "ytmmonhpjjjdnjaa", sum := "6a44444c9939de408fb53cdeb351515ee4eb209f9a9c78139eb44de701c78c43", func := "loop.example/g01281/laws.FnExactMirrorPlan", spec := "fnExactMirrorPlan", apart := false, narrowed := true }
def FnExactMirrorPlanUptoSaid : Prop := fnExactMirrorPlanUptoRow.holds Try.pinned (OpenSpec.upto fnExactMirrorPlanSpec)

/-- 'laws.FnExactSwapInPlan', WHERE WHAT IT READS IS OF BULK AT MOST 1048576: true; the input reads as it did. -/
def fnExactSwapInPlanUptoRow : OpenClaim := { program := "ytmmonhpjjjdnjaa", sum := "6a44444c9939de408fb53cdeb351515ee4eb209f9a9c78139eb44de701c78c43", func := "loop.example/g01281/laws.FnExactSwapInPlan", spec := "fnExactSwapInPlan", apart := false, narrowed := true }
def FnExactSwapInPlanUptoSaid : Prop := fnExactSwapInPlanUptoRow.holds Try.pinned (OpenSpec.upto fnExactSwapInPlanSpec)

end Rows
end Go.Proofs.Ytmmonhpjjjdnjaa
