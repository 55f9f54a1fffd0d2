/-
  No cell of these rows narrows 'for every input' (looked for: loops, veiled, ifaces, maps, wideKeys, modest, calm, conditions, laid).
  DERIVED. THE GIVEN ROWS OF THIS SEAT. 9 by the template 'for every input the law returns true; each argument reads behind the call as it read before'; 0 by the template 'total and deterministic' (their statements: YtikdnhhegknplaaTotals.lean).
  GIVEN WITH THE SEED: the statements are not yours to turn. If you find one false, say at which input.
  Laid BY PROGRAM, IN A SANDBOX (cutbox-rows.mjs): the forced cells as the released guide's own fill.sh prints them over the translation baab11fb3c5ba77e… (all of the seat's roots in one cut). By AI agents, Wed Nov 11 2026. No macro, syntax, notation, axiom, sorry.
-/
import Derived.Test.YtikdnhhegknplaaChecked
import GoSem.Claim
import GoSem.ClaimJoined
import GoSem.ClaimMapViews
import Derived.JoinedTies
import Derived.KernelRfl
namespace Go.Proofs.Ytikdnhhegknplaa
/- THE CELL 'sum', in the pinned program and in every row, IS THE sha256 OF THE DUMP (.gsa) THAT YtikdnhhegknplaaProg.lean LOADS. Nothing in Lean hashes anything: it is a label: what it is worth is what the hold of that sum in a sandbox is worth. -/
noncomputable def Try.pinned : Pinned := { name := "ytikdnhhegknplaa", sum := "baab11fb3c5ba77e769b008caf04f1cc8fb0081cfc739abbfb091632995395c7", checked := Try.checked }
namespace Rows
def none {H : Type} : Left H := { results := [], args := [] }

/-- 'laws.FnExactSameFerry': WHATEVER THE INPUT: true; the input reads as it did. -/
def fnExactSameFerrySpec : ChangeSpec := { name := "fnExactSameFerry", fn := fun _ => fun
  | [d1, d2] => { results := [.lit (.bool true)], args := [d1, d2] }
  | _ => none }
def fnExactSameFerryRow : OpenClaim := { program := "ytikdnhhegknplaa", sum := "baab11fb3c5ba77e769b008caf04f1cc8fb0081cfc739abbfb091632995395c7", func := "loop.example/g01281/laws.FnExactSameFerry", spec := "fnExactSameFerry", apart := false }
def FnExactSameFerrySaid : Prop := fnExactSameFerryRow.holds Try.pinned (OpenSpec.ofChange fnExactSameFerrySpec)

/-- ITS FALSE NEIGHBOUR: 'it returns false'. Refute it at one input. -/
def fnExactSameFerryWrong : ChangeSpec := { name := "fnExactSameFerry", fn := fun _ => fun
  | [d1, d2] => { results := [.lit (.bool false)], args := [d1, d2] }
  | _ => none }
def FnExactSameFerryWrongFalsely : Prop := fnExactSameFerryRow.holds Try.pinned (OpenSpec.ofChange fnExactSameFerryWrong)

/-- 'laws.FnExactValidFerry': WHATEVER THE INPUT: true; the input reads as it did. -/
def fnExactValidFerrySpec : ChangeSpec := { name := "fnExactValidFerry", fn := fun _ => fun
  | [d] => { results := [.lit (.bool true)], args := [d] }
  | _ => none }
def fnExactValidFerryRow : OpenClaim := { program := "ytikdnhhegknplaa", sum := "baab11fb3c5ba77e769b008caf04f1cc8fb0081cfc739abbfb091632995395c7", func := "loop.example/g01281/laws.FnExactValidFerry", spec := "fnExactValidFerry", unfollowed := true, recurses := true, apart := false }
def FnExactValidFerrySaid : Prop := fnExactValidFerryRow.holds Try.pinned (OpenSpec.ofChange fnExactValidFerrySpec)

/-- ITS FALSE NEIGHBOUR: 'it returns false'. Refute it at one input. -/
def fnExactValidFerryWrong : ChangeSpec := { name := "fnExactValidFerry", fn := fun _ => fun
  | [d] => { results := [.lit (.bool false)], args := [d] }
  | _ => none }
def FnExactValidFerryWrongFalsely : Prop := fnExactValidFerryRow.holds Try.pinned (OpenSpec.ofChange fnExactValidFerryWrong)

/-- 'laws.FnExactSafeSets': WHATEVER THE INPUT: true; the input reads as it did. -/
def fnExactSafeSetsSpec : ChangeSpec := { name := "fnExactSafeSets", fn := fun _ => fun
  | [d] => { results := [.lit (.bool true)], args := [d] }
  | _ => none }
def fnExactSafeSetsRow : OpenClaim := { program := "ytikdnhhegknplaa", sum := "baab11fb3c5ba77e769b008caf04f1cc8fb0081cfc739abbfb091632995395c7", func := "loop.example/g01281/laws.FnExactSafeSets", spec := "fnExactSafeSets", unfollowed := true, recurses := true, apart := false }
def FnExactSafeSetsSaid : Prop := fnExactSafeSetsRow.holds Try.pinned (OpenSpec.ofChange fnExactSafeSetsSpec)

/-- ITS FALSE NEIGHBOUR: 'it returns false'. Refute it at one input. -/
def fnExactSafeSetsWrong : ChangeSpec := { name := "fnExactSafeSets", fn := fun _ => fun
  | [d] => { results := [.lit (.bool false)], args := [d] }
  | _ => none }
def FnExactSafeSetsWrongFalsely : Prop := fnExactSafeSetsRow.holds Try.pinned (OpenSpec.ofChange fnExactSafeSetsWrong)

/-- 'laws.FnExactLeastCover': WHATEVER THE INPUT: true; the input reads as it did. -/
def fnExactLeastCoverSpec : ChangeSpec := { name := "fnExactLeastCover", fn := fun _ => fun
  | [d] => { results := [.lit (.bool true)], args := [d] }
  | _ => none }
def fnExactLeastCoverRow : OpenClaim := { program := "ytikdnhhegknplaa", sum := "baab11fb3c5ba77e769b008caf04f1cc8fb0081cfc739abbfb091632995395c7", func := "loop.example/g01281/laws.FnExactLeastCover", spec := "fnExactLeastCover", unfollowed := true, recurses := true, apart := false }
def FnExactLeastCoverSaid : Prop := fnExactLeastCoverRow.holds Try.pinned (OpenSpec.ofChange fnExactLeastCoverSpec)

/-- ITS FALSE NEIGHBOUR: 'it returns false'. Refute it at one input. -/
def fnExactLeastCoverWrong : ChangeSpec := { name := "fnExactLeastCover", fn := fun _ => fun
  | [d] => { results := [.lit (.bool false)], args := [d] }
  | _ => none }
def FnExactLeastCoverWrongFalsely : Prop := fnExactLeastCoverRow.holds Try.pinned (OpenSpec.ofChange fnExactLeastCoverWrong)

/-- 'laws.FnExactValidBank': WHATEVER THE INPUT: true; the input reads as it did. -/
def fnExactValidBankSpec : ChangeSpec := { name := "fnExactValidBank", fn := fun _ => fun
  | [d1, d2] => { results := [.lit (.bool true)], args := [d1, d2] }
  | _ => none }
def fnExactValidBankRow : OpenClaim := { program := "ytikdnhhegknplaa", sum := "baab11fb3c5ba77e769b008caf04f1cc8fb0081cfc739abbfb091632995395c7", func := "loop.example/g01281/laws.FnExactValidBank", spec := "fnExactValidBank", unfollowed := true, recurses := true, apart := false }
def FnExactValidBankSaid : Prop := fnExactValidBankRow.holds Try.pinned (OpenSpec.ofChange fnExactValidBankSpec)

/-- ITS FALSE NEIGHBOUR: 'it returns false'. Refute it at one input. -/
def fnExactValidBankWrong : ChangeSpec := { name := "fnExactValidBank", fn := fun _ => fun
  | [d1, d2] => { results := [.lit (.bool false)], args := [d1, d2] }
  | _ => none }
def FnExactValidBankWrongFalsely : Prop := fnExactValidBankRow.holds Try.pinned (OpenSpec.ofChange fnExactValidBankWrong)

/-- 'laws.FnExactIsSafe': WHATEVER THE INPUT: true; the input reads as it did. -/
def fnExactIsSafeSpec : ChangeSpec := { name := "fnExactIsSafe", fn := fun _ => fun
  | [d1, d2] => { results := [.lit (.bool true)], args := [d1, d2] }
  | _ => none }
def fnExactIsSafeRow : OpenClaim := { program := "ytikdnhhegknplaa", sum := "baab11fb3c5ba77e769b008caf04f1cc8fb0081cfc739abbfb091632995395c7", func := "loop.example/g01281/laws.FnExactIsSafe", spec := "fnExactIsSafe", unfollowed := true, recurses := true, apart := false }
def FnExactIsSafeSaid : Prop := fnExactIsSafeRow.holds Try.pinned (OpenSpec.ofChange fnExactIsSafeSpec)

/-- ITS FALSE NEIGHBOUR: 'it returns false'. Refute it at one input. -/
def fnExactIsSafeWrong : ChangeSpec := { name := "fnExactIsSafe", fn := fun _ => fun
  | [d1, d2] => { results := [.lit (.bool false)], args := [d1, d2] }
  | _ => none }
def FnExactIsSafeWrongFalsely : Prop := fnExactIsSafeRow.holds Try.pinned (OpenSpec.ofChange fnExactIsSafeWrong)

/-- 'laws.FnExactIsCover': WHATEVER THE INPUT: true; the input reads as it did. -/
def fnExactIsCoverSpec : ChangeSpec := { name := "fnExactIsCover", fn := fun _ => fun
  | [d1, d2] => { results := [.lit (.bool true)], args := [d1, d2] }
  | _ => none }
def fnExactIsCoverRow : OpenClaim := { program := "ytikdnhhegknplaa", sum := "baab11fb3c5ba77e769b008caf04f1cc8fb0081cfc739abbfb091632995395c7", func := "loop.example/g01281/laws.FnExactIsCover", spec := "fnExactIsCover", unfollowed := true, recurses := true, apart := false }
def FnExactIsCoverSaid : Prop := fnExactIsCoverRow.holds Try.pinned (OpenSpec.ofChange fnExactIsCoverSpec)

/-- ITS FALSE NEIGHBOUR: 'it returns false'. Refute it at one input. -/
def fnExactIsCoverWrong : ChangeSpec := { name := "fnExactIsCover", fn := fun _ => fun
  | [d1, d2] => { results := [.lit (.bool false)], args := [d1, d2] }
  | _ => none }
def FnExactIsCoverWrongFalsely : Prop := fnExactIsCoverRow.holds Try.pinned (OpenSpec.ofChange fnExactIsCoverWrong)

/-- 'laws.FnExactWithoutThing': WHATEVER THE INPUT: true; the input reads as it did. -/
def fnExactWithoutThingSpec : ChangeSpec := { name := "fnExactWithoutThing", fn := fun _ => fun
  | [d1, d2] => { results := [.lit (.bool true)], args := [d1, d2] }
  | _ => none }
def fnExactWithoutThingRow : OpenClaim := { program := "ytikdnhhegknplaa", sum := "baab11fb3c5ba77e769b008caf04f1cc8fb0081cfc739abbfb091632995395c7", func := "loop.example/g01281/laws.FnExactWithoutThing", spec := "fnExactWithoutThing", unfollowed := true, recurses := true, apart := false }
def FnExactWithoutThingSaid : Prop := fnExactWithoutThingRow.holds Try.pinned (OpenSpec.ofChange fnExactWithoutThingSpec)

/-- ITS FALSE NEIGHBOUR: 'it returns false'. Refute it at one input. -/
def fnExactWithoutThingWrong : ChangeSpec := { name := "fnExactWithoutThing", fn := fun _ => fun
  | [d1, d2] => { results := [.lit (.bool false)], args := [d1, d2] }
  | _ => none }
def FnExactWithoutThingWrongFalsely : Prop := fnExactWithoutThingRow.holds Try.pinned (OpenSpec.ofChange fnExactWithoutThingWrong)

/-- 'laws.FnExactCrossWith': WHATEVER THE INPUT: true; the input reads as it did. -/
def fnExactCrossWithSpec : ChangeSpec := { name := "fnExactCrossWith", fn := fun _ => fun
  | [d1, d2, d3] => { results := [.lit (.bool true)], args := [d1, d2, d3] }
  | _ => none }
def fnExactCrossWithRow : OpenClaim := { program := "ytikdnhhegknplaa", sum := "baab11fb3c5ba77e769b008caf04f1cc8fb0081cfc739abbfb091632995395c7", func := "loop.example/g01281/laws.FnExactCrossWith", spec := "fnExactCrossWith", unfollowed := true, recurses := true, apart := false }
def FnExactCrossWithSaid : Prop := fnExactCrossWithRow.holds Try.pinned (OpenSpec.ofChange fnExactCrossWithSpec)

/-- ITS FALSE NEIGHBOUR: 'it returns false'. Refute it at one input. -/
def fnExactCrossWithWrong : ChangeSpec := { name := "fnExactCrossWith", fn := fun _ => fun
  | [d1, d2, d3] => { results := [.lit (.bool false)], args := [d1, d2, d3] }
  | _ => none }
def FnExactCrossWithWrongFalsely : Prop := fnExactCrossWithRow.holds Try.pinned (OpenSpec.ofChange fnExactCrossWithWrong)

/- THE SECOND FORM. 'bulk': how many values and letters a reading holds, each counted each time it is reached (what is shared counts as often as it is met; a slice's spare places count too). A statement '..UptoSaid' is the law's where the arguments, and the package variables that the reading takes, are together of bulk at most 1048576: NARROWER than '..Said'. Prove '..Said' where nothing that the law and all that it calls make is longer than what came in: it says more and counts as full. Else prove '..UptoSaid'. A law counts once. -/
mutual
def uptoBulk {H : Type} : DataW H → Nat
  | .lit (.string bytes) => bytes.length + 1
  | .lit _ => 1
  | .nil => 1
  | .ptr d => uptoBulk d + 1
  | .slice elems spare => uptoBulkAll elems + uptoBulkAll spare + 1
  | .agg parts => uptoBulkAll parts + 1
  | .iface _ d => uptoBulk d + 1
  | .map entries => uptoBulkEntries entries + 1
  | .held _ => 1
def uptoBulkAll {H : Type} : List (DataW H) → Nat
  | [] => 0
  | d :: r => uptoBulk d + uptoBulkAll r
def uptoBulkEntries {H : Type} : List (Lit × DataW H) → Nat
  | [] => 0
  | x :: r => uptoBulkEntry x + uptoBulkEntries r
def uptoBulkEntry {H : Type} : Lit × DataW H → Nat
  | (.string bytes, d) => bytes.length + uptoBulk d + 1
  | (_, d) => uptoBulk d + 1
 end
def uptoSmall : (H : Type) → List (DataW H) → Bool := fun _ ds => decide (uptoBulkAll ds ≤ 1048576)
def OpenSpec.upto (s : _root_.Go.ChangeSpec) : _root_.Go.OpenSpec := { _root_.Go.OpenSpec.ofChange s with cond := some uptoSmall }

/-- 'laws.FnExactSameFerry', WHERE WHAT IT READS IS OF BULK AT MOST 1048576: true; the input reads as it did. -/
def fnExactSameFerryUptoRow : OpenClaim := { program := "ytikdnhhegknplaa", sum := "baab11fb3c5ba77e769b008caf04f1cc8fb0081cfc739abbfb091632995395c7", func := "loop.example/g01281/laws.FnExactSameFerry", spec := "fnExactSameFerry", apart := false, narrowed := true }
def FnExactSameFerryUptoSaid : Prop := fnExactSameFerryUptoRow.holds Try.pinned (OpenSpec.upto fnExactSameFerrySpec)

/-- 'laws.FnExactValidFerry', WHERE WHAT IT READS IS OF BULK AT MOST 1048576: true; the input reads as it did. -/
def fnExactValidFerryUptoRow : OpenClaim := { program := "ytikdnhhegknplaa", sum := "baab11fb3c5ba77e769b008caf04f1cc8fb0081cfc739abbfb091632995395c7", func := "loop.example/g01281/laws.FnExactValidFerry", spec := "fnExactValidFerry", unfollowed := true, recurses := true, apart := false, narrowed := true }
def FnExactValidFerryUptoSaid : Prop := fnExactValidFerryUptoRow.holds Try.pinned (OpenSpec.upto fnExactValidFerrySpec)

/-- 'laws.FnExactSafeSets', WHERE WHAT IT READS IS OF BULK AT MOST 1048576: true; the input reads as it did. -/
def fnExactSafeSetsUptoRow : OpenClaim := { program := "ytikdnhhegknplaa", sum := "baab11fb3c5ba77e769b008caf04f1cc8fb0081cfc739abbfb091632995395c7", func := "loop.example/g01281/laws.FnExactSafeSets", spec := "fnExactSafeSets", unfollowed := true, recurses := true, apart := false, narrowed := true }
def FnExactSafeSetsUptoSaid : Prop := fnExactSafeSetsUptoRow.holds Try.pinned (OpenSpec.upto fnExactSafeSetsSpec)

/-- 'laws.FnExactLeastCover', WHERE WHAT IT READS IS OF BULK AT MOST 1048576: true; the input reads as it did. -/
def fnExactLeastCoverUptoRow : OpenClaim := { program := "ytikdnhhegknplaa", sum := "baab11fb3c5ba77e769b008caf04f1cc8fb0081cfc739abbfb091632995395c7", func := "loop.example/g01281/laws.FnExactLeastCover", spec := "fnExactLeastCover", unfollowed := true, recurses := true, apart := false, narrowed := true }
def FnExactLeastCoverUptoSaid : Prop := fnExactLeastCoverUptoRow.holds Try.pinned (OpenSpec.upto fnExactLeastCoverSpec)

/-- 'laws.FnExactValidBank', WHERE WHAT IT READS IS OF BULK AT MOST 1048576: true; the input reads as it did. -/
def fnExactValidBankUptoRow : OpenClaim := { program := "ytikdnhhegknplaa", sum := "baab11fb3c5ba77e769b008caf04f1cc8fb0081cfc739abbfb091632995395c7", func := "loop.example/g01281/laws.FnExactValidBank", spec := "fnExactValidBank", unfollowed := true, recurses := true, apart := false, narrowed := true }
def FnExactValidBankUptoSaid : Prop := fnExactValidBankUptoRow.holds Try.pinned (OpenSpec.upto fnExactValidBankSpec)

/-- 'laws.FnExactIsSafe', WHERE WHAT IT READS IS OF BULK AT MOST 1048576: true; the input reads as it did. -/
def fnExactIsSafeUptoRow : OpenClaim := { program := "ytikdnhhegknplaa", sum := "baab11fb3c5ba77e769b008caf04f1cc8fb0081cfc739abbfb091632995395c7", func := "loop.example/g01281/laws.FnExactIsSafe", spec := "fnExactIsSafe", unfollowed := true, recurses := true, apart := false, narrowed := true }
def FnExactIsSafeUptoSaid : Prop := fnExactIsSafeUptoRow.holds Try.pinned (OpenSpec.upto fnExactIsSafeSpec)

/-- 'laws.FnExactIsCover', WHERE WHAT IT READS IS OF BULK AT MOST 1048576: true; the input reads as it did. -/
def fnExactIsCoverUptoRow : OpenClaim := { program := "ytikdnhhegknplaa", sum := "baab11fb3c5ba77e769b008caf04f1cc8fb0081cfc739abbfb091632995395c7", func := "loop.example/g01281/laws.FnExactIsCover", spec := "fnExactIsCover", unfollowed := true, recurses := true, apart := false, narrowed := true }
def FnExactIsCoverUptoSaid : Prop := fnExactIsCoverUptoRow.holds Try.pinned (OpenSpec.upto fnExactIsCoverSpec)

/-- 'laws.FnExactWithoutThing', WHERE WHAT IT READS IS OF BULK AT MOST 1048576: true; the input reads as it did. -/
def fnExactWithoutThingUptoRow : OpenClaim := { program := "ytikdnhhegknplaa", sum := "baab11fb3c5ba77e769b008caf04f1cc8fb0081cfc739abbfb091632995395c7", func := "loop.example/g01281/laws.FnExactWithoutThing", spec := "fnExactWithoutThing", unfollowed := true, recurses := true, apart := false, narrowed := true }
def FnExactWithoutThingUptoSaid : Prop := fnExactWithoutThingUptoRow.holds Try.pinned (OpenSpec.upto fnExactWithoutThingSpec)

/-- 'laws.FnExactCrossWith', WHERE WHAT IT READS IS OF BULK AT MOST 1048576: true; the input reads as it did. -/
def fnExactCrossWithUptoRow : OpenClaim := { program := "ytikdnhhegknplaa", sum := "baab11fb3c5ba77e769b008caf04f1cc8fb0081cfc739abbfb091632995395c7", func := "loop.example/g01281/laws.FnExactCrossWith", spec := "fnExactCrossWith", unfollowed := true, recurses := true, apart := false, narrowed := true }
def FnExactCrossWithUptoSaid : Prop := fnExactCrossWithUptoRow.holds Try.pinned (OpenSpec.upto fnExactCrossWithSpec)

end Rows
end Go.Proofs.Ytikdnhhegknplaa
