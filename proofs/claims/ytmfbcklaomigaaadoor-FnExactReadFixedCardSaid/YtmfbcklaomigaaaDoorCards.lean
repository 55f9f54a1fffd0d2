/-
  DERIVED. GIVEN WITH THE SEED: THE CARDS: each row of YtmfbcklaomigaaaDoorRows.lean that lists a variable, with what it lists TIED to the program's text (the seventh form; the later family's looks); each row that meets fmt, with fmt's text TOLD by the authors' own Lean function (tested against real Go, not proved from fmt's source: count such statements apart). THE CARD IS WHAT COUNTS. Prove the row's statement (the work); the ties are given (YtmfbcklaomigaaaDoorTie.lean); close each card by the builder's one call (the guide's Derived/Test/ToyasCard.lean, 'card_holds'). Laid BY PROGRAM, IN A SANDBOX (cutbox-door.mjs). By AI agents, Wed Nov 11 2026. No macro, syntax, notation, axiom, sorry.
-/
import Derived.Test.YtmfbcklaomigaaaDoorRows
import GoSem.ClaimSeven
namespace Go.Proofs.YtmfbcklaomigaaaDoor
namespace Rows

/-- THE TIED CARD OF 'laws.FnWords'. -/
def fnWordsCard : Claim7 := { stood := { row := fnWordsRow, standIns := [], harness := (true, "d3d67d0495af9103c8af50469ab31e154ee88e6817d59e2e8d721b1a8d4f6bc9"), looks := false }, kinds := [], alts := [], laidByText := true, laidKinds := [.data, .pinned], laidTests := true, laidLooks := .later }
def FnWordsCardSaid : Prop := Claim7.holds Tryd.pinned (.plain (OpenSpec.ofChange fnWordsSpec)) fnWordsCard

/-- THE TIED CARD OF 'laws.FnExactReadFixed'. -/
def fnExactReadFixedCard : Claim7 := { stood := { row := fnExactReadFixedRow, standIns := [], harness := (true, "d3d67d0495af9103c8af50469ab31e154ee88e6817d59e2e8d721b1a8d4f6bc9"), looks := false }, kinds := [], alts := [], laidByText := true, laidKinds := [.data, .pinned], laidTests := true, laidLooks := .later }
def FnExactReadFixedCardSaid : Prop := Claim7.holds Tryd.pinned (.plain (OpenSpec.ofChange fnExactReadFixedSpec)) fnExactReadFixedCard

/-- THE SECOND FORM's CARD OF 'laws.FnWords'. -/
def fnWordsUptoCard : Claim7 := { stood := { row := fnWordsUptoRow, standIns := [], harness := (true, "d3d67d0495af9103c8af50469ab31e154ee88e6817d59e2e8d721b1a8d4f6bc9"), looks := false }, kinds := [], alts := [], laidByText := true, laidKinds := [.data, .pinned], laidTests := true, laidLooks := .later }
def FnWordsUptoCardSaid : Prop := Claim7.holds Tryd.pinned (.plain (OpenSpec.upto fnWordsSpec)) fnWordsUptoCard

/-- THE SECOND FORM's CARD OF 'laws.FnExactReadFixed'. -/
def fnExactReadFixedUptoCard : Claim7 := { stood := { row := fnExactReadFixedUptoRow, standIns := [], harness := (true, "d3d67d0495af9103c8af50469ab31e154ee88e6817d59e2e8d721b1a8d4f6bc9"), looks := false }, kinds := [], alts := [], laidByText := true, laidKinds := [.data, .pinned], laidTests := true, laidLooks := .later }
def FnExactReadFixedUptoCardSaid : Prop := Claim7.holds Tryd.pinned (.plain (OpenSpec.upto fnExactReadFixedSpec)) fnExactReadFixedUptoCard
end Rows
end Go.Proofs.YtmfbcklaomigaaaDoor
