/-
  DERIVED. GIVEN WITH THE SEED: THE CARDS: each row of YtghdimmomnfakaaGreatDoorRows.lean that lists a variable, with what it lists TIED to the program's text (the seventh form; the later family's looks); each row that meets fmt, with fmt's text TOLD by the authors' own Lean function (tested against real Go, not proved from fmt's source: count such statements apart). THE CARD IS WHAT COUNTS. Prove the row's statement (the work); the ties are given (YtghdimmomnfakaaGreatDoorTie.lean); close each card by the builder's one call (the guide's Derived/Test/ToyasCard.lean, 'card_holds'). Laid BY PROGRAM, IN A SANDBOX (cutbox-door.mjs). By AI agents, Wed Nov 11 2026. No macro, syntax, notation, axiom, sorry.
-/
import Derived.Test.YtghdimmomnfakaaGreatDoorRows
import GoSem.ClaimSeven
namespace Go.Proofs.YtghdimmomnfakaaGreatDoor
namespace Rows

/-- THE TIED CARD OF 'vinculumlaw49.GrammarParse'. -/
def grammarParseCard : Claim7 := { stood := { row := grammarParseRow, standIns := [], harness := (true, "e4611b7900f26dc96e092a1ea04ee21dea8ba3c2c8aa0226941d83476f1671c4"), looks := true }, kinds := [], alts := [], laidByText := true, laidKinds := [.data, .data, .data, .data, .sentinel, .sentinel, .pinned], laidTests := true, laidLooks := .later }
def GrammarParseCardSaid : Prop := Claim7.holds Tryz.pinned (.plain (OpenSpec.ofChange grammarParseSpec)) grammarParseCard

/-- THE SECOND FORM's CARD OF 'vinculumlaw49.GrammarParse'. -/
def grammarParseUptoCard : Claim7 := { stood := { row := grammarParseUptoRow, standIns := [], harness := (true, "e4611b7900f26dc96e092a1ea04ee21dea8ba3c2c8aa0226941d83476f1671c4"), looks := true }, kinds := [], alts := [], laidByText := true, laidKinds := [.data, .data, .data, .data, .sentinel, .sentinel, .pinned], laidTests := true, laidLooks := .later }
def GrammarParseUptoCardSaid : Prop := Claim7.holds Tryz.pinned (.plain (OpenSpec.upto grammarParseSpec)) grammarParseUptoCard
end Rows
end Go.Proofs.YtghdimmomnfakaaGreatDoor
