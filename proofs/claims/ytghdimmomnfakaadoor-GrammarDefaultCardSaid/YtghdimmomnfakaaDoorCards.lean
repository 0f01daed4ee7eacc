/-
  DERIVED. GIVEN WITH THE SEED: THE CARDS: each row of YtghdimmomnfakaaDoorRows.lean that lists a variable, with what it lists TIED to the program's text (the seventh form; the later family's looks); each row that meets fmt, with fmt's text TOLD by the authors' own Lean function (tested against real Go, not proved from fmt's source: count such statements apart). THE CARD IS WHAT COUNTS. Prove the row's statement (the work); the ties are given (YtghdimmomnfakaaDoorTie.lean); close each card by the builder's one call (the guide's Derived/Test/ToyasCard.lean, 'card_holds'). Laid BY PROGRAM, IN A SANDBOX (cutbox-door.mjs). By AI agents, Wed Nov 11 2026. No macro, syntax, notation, axiom, sorry.
-/
import Derived.Test.YtghdimmomnfakaaDoorRows
import GoSem.ClaimSeven
namespace Go.Proofs.YtghdimmomnfakaaDoor
namespace Rows

/-- THE TIED CARD OF 'vinculumlaw49.GrammarBegins'. -/
def grammarBeginsCard : Claim7 := { stood := { row := grammarBeginsRow, standIns := [], harness := (true, "ea5a62367208b5064c242481b1cd0372c4392ed92499de5d0fb6cc9195981371"), looks := true }, kinds := [], alts := [], laidByText := true, laidKinds := [.data, .data, .data], laidTests := true, laidLooks := .later }
def GrammarBeginsCardSaid : Prop := Claim7.holds Tryd.pinned (.plain (OpenSpec.ofChange grammarBeginsSpec)) grammarBeginsCard

/-- THE TIED CARD OF 'vinculumlaw49.GrammarValid'. -/
def grammarValidCard : Claim7 := { stood := { row := grammarValidRow, standIns := [], harness := (true, "ea5a62367208b5064c242481b1cd0372c4392ed92499de5d0fb6cc9195981371"), looks := true }, kinds := [], alts := [], laidByText := true, laidKinds := [.data, .data, .data], laidTests := true, laidLooks := .later }
def GrammarValidCardSaid : Prop := Claim7.holds Tryd.pinned (.plain (OpenSpec.ofChange grammarValidSpec)) grammarValidCard

/-- THE TIED CARD OF 'vinculumlaw49.GrammarFind'. -/
def grammarFindCard : Claim7 := { stood := { row := grammarFindRow, standIns := [], harness := (true, "ea5a62367208b5064c242481b1cd0372c4392ed92499de5d0fb6cc9195981371"), looks := true }, kinds := [], alts := [], laidByText := true, laidKinds := [.data, .data, .data], laidTests := true, laidLooks := .later }
def GrammarFindCardSaid : Prop := Claim7.holds Tryd.pinned (.plain (OpenSpec.ofChange grammarFindSpec)) grammarFindCard

/-- THE TIED CARD OF 'vinculumlaw49.GrammarText'. -/
def grammarTextCard : Claim7 := { stood := { row := grammarTextRow, standIns := [], harness := (true, "ea5a62367208b5064c242481b1cd0372c4392ed92499de5d0fb6cc9195981371"), looks := true }, kinds := [], alts := [], laidByText := true, laidKinds := [.data, .data, .data, .data, .sentinel, .sentinel, .pinned], laidTests := true, laidLooks := .later }
def GrammarTextCardSaid : Prop := Claim7.holds Tryd.pinned (.plain (OpenSpec.ofChange grammarTextSpec)) grammarTextCard

/-- THE TIED CARD OF 'vinculumlaw49.GrammarDefault'. -/
def grammarDefaultCard : Claim7 := { stood := { row := grammarDefaultRow, standIns := [], harness := (true, "ea5a62367208b5064c242481b1cd0372c4392ed92499de5d0fb6cc9195981371"), looks := true }, kinds := [], alts := [], laidByText := true, laidKinds := [.data, .data, .data, .data, .sentinel, .sentinel, .pinned], laidTests := true, laidLooks := .later }
def GrammarDefaultCardSaid : Prop := Claim7.holds Tryd.pinned (.plain (OpenSpec.ofChange grammarDefaultSpec)) grammarDefaultCard

/-- THE SECOND FORM's CARD OF 'vinculumlaw49.GrammarBegins'. -/
def grammarBeginsUptoCard : Claim7 := { stood := { row := grammarBeginsUptoRow, standIns := [], harness := (true, "ea5a62367208b5064c242481b1cd0372c4392ed92499de5d0fb6cc9195981371"), looks := true }, kinds := [], alts := [], laidByText := true, laidKinds := [.data, .data, .data], laidTests := true, laidLooks := .later }
def GrammarBeginsUptoCardSaid : Prop := Claim7.holds Tryd.pinned (.plain (OpenSpec.upto grammarBeginsSpec)) grammarBeginsUptoCard

/-- THE SECOND FORM's CARD OF 'vinculumlaw49.GrammarValid'. -/
def grammarValidUptoCard : Claim7 := { stood := { row := grammarValidUptoRow, standIns := [], harness := (true, "ea5a62367208b5064c242481b1cd0372c4392ed92499de5d0fb6cc9195981371"), looks := true }, kinds := [], alts := [], laidByText := true, laidKinds := [.data, .data, .data], laidTests := true, laidLooks := .later }
def GrammarValidUptoCardSaid : Prop := Claim7.holds Tryd.pinned (.plain (OpenSpec.upto grammarValidSpec)) grammarValidUptoCard

/-- THE SECOND FORM's CARD OF 'vinculumlaw49.GrammarFind'. -/
def grammarFindUptoCard : Claim7 := { stood := { row := grammarFindUptoRow, standIns := [], harness := (true, "ea5a62367208b5064c242481b1cd0372c4392ed92499de5d0fb6cc9195981371"), looks := true }, kinds := [], alts := [], laidByText := true, laidKinds := [.data, .data, .data], laidTests := true, laidLooks := .later }
def GrammarFindUptoCardSaid : Prop := Claim7.holds Tryd.pinned (.plain (OpenSpec.upto grammarFindSpec)) grammarFindUptoCard

/-- THE SECOND FORM's CARD OF 'vinculumlaw49.GrammarText'. -/
def grammarTextUptoCard : Claim7 := { stood := { row := grammarTextUptoRow, standIns := [], harness := (true, "ea5a62367208b5064c242481b1cd0372c4392ed92499de5d0fb6cc9195981371"), looks := true }, kinds := [], alts := [], laidByText := true, laidKinds := [.data, .data, .data, .data, .sentinel, .sentinel, .pinned], laidTests := true, laidLooks := .later }
def GrammarTextUptoCardSaid : Prop := Claim7.holds Tryd.pinned (.plain (OpenSpec.upto grammarTextSpec)) grammarTextUptoCard

/-- THE SECOND FORM's CARD OF 'vinculumlaw49.GrammarDefault'. -/
def grammarDefaultUptoCard : Claim7 := { stood := { row := grammarDefaultUptoRow, standIns := [], harness := (true, "ea5a62367208b5064c242481b1cd0372c4392ed92499de5d0fb6cc9195981371"), looks := true }, kinds := [], alts := [], laidByText := true, laidKinds := [.data, .data, .data, .data, .sentinel, .sentinel, .pinned], laidTests := true, laidLooks := .later }
def GrammarDefaultUptoCardSaid : Prop := Claim7.holds Tryd.pinned (.plain (OpenSpec.upto grammarDefaultSpec)) grammarDefaultUptoCard
end Rows
end Go.Proofs.YtghdimmomnfakaaDoor
