/-
  DERIVED. GIVEN WITH THE SEED: THE CARDS: each row of YtjnheoelcahkaaaDoorRows.lean that lists a variable, with what it lists TIED to the program's text (the seventh form; the later family's looks); each row that meets fmt, with fmt's text TOLD by the authors' own Lean function (tested against real Go, not proved from fmt's source: count such statements apart). THE CARD IS WHAT COUNTS. Prove the row's statement (the work); the ties are given (YtjnheoelcahkaaaDoorTie.lean); close each card by the builder's one call (the guide's Derived/Test/ToyasCard.lean, 'card_holds'). Laid BY PROGRAM, IN A SANDBOX (cutbox-door.mjs). By AI agents, Wed Nov 11 2026. No macro, syntax, notation, axiom, sorry.
-/
import Derived.Test.YtjnheoelcahkaaaDoorRows
import GoSem.ClaimSeven
namespace Go.Proofs.YtjnheoelcahkaaaDoor
namespace Rows

/-- THE TIED CARD OF 'vinculumlaw53.UnitPowers'. -/
def unitPowersCard : Claim7 := { stood := { row := unitPowersRow, standIns := [], harness := (true, "c0cb3a3db25eab2759392f50b227960ee8087751778a711f9efee292121d2c26"), looks := true }, kinds := [], alts := [], laidByText := true, laidKinds := [.data, .data, .data], laidTests := true, laidLooks := .later }
def UnitPowersCardSaid : Prop := Claim7.holds Tryd.pinned (.plain (OpenSpec.ofChange unitPowersSpec)) unitPowersCard

/-- THE TIED CARD OF 'vinculumlaw53.UnitGroup'. -/
def unitGroupCard : Claim7 := { stood := { row := unitGroupRow, standIns := [], harness := (true, "c0cb3a3db25eab2759392f50b227960ee8087751778a711f9efee292121d2c26"), looks := true }, kinds := [], alts := [], laidByText := true, laidKinds := [.data, .data, .data], laidTests := true, laidLooks := .later }
def UnitGroupCardSaid : Prop := Claim7.holds Tryd.pinned (.plain (OpenSpec.ofChange unitGroupSpec)) unitGroupCard

/-- THE TIED CARD OF 'vinculumlaw53.UnitArithmetic'. -/
def unitArithmeticCard : Claim7 := { stood := { row := unitArithmeticRow, standIns := [], harness := (true, "c0cb3a3db25eab2759392f50b227960ee8087751778a711f9efee292121d2c26"), looks := true }, kinds := [], alts := [], laidByText := true, laidKinds := [.data, .data, .data], laidTests := true, laidLooks := .later }
def UnitArithmeticCardSaid : Prop := Claim7.holds Tryd.pinned (.plain (OpenSpec.ofChange unitArithmeticSpec)) unitArithmeticCard

/-- THE TIED CARD OF 'vinculumlaw53.UnitFind'. -/
def unitFindCard : Claim7 := { stood := { row := unitFindRow, standIns := [], harness := (true, "c0cb3a3db25eab2759392f50b227960ee8087751778a711f9efee292121d2c26"), looks := true }, kinds := [], alts := [], laidByText := true, laidKinds := [.data, .data, .data], laidTests := true, laidLooks := .later }
def UnitFindCardSaid : Prop := Claim7.holds Tryd.pinned (.plain (OpenSpec.ofChange unitFindSpec)) unitFindCard

/-- THE TIED CARD OF 'vinculumlaw53.UnitRescale'. -/
def unitRescaleCard : Claim7 := { stood := { row := unitRescaleRow, standIns := [], harness := (true, "c0cb3a3db25eab2759392f50b227960ee8087751778a711f9efee292121d2c26"), looks := true }, kinds := [], alts := [], laidByText := true, laidKinds := [.data, .data, .data], laidTests := true, laidLooks := .later }
def UnitRescaleCardSaid : Prop := Claim7.holds Tryd.pinned (.plain (OpenSpec.ofChange unitRescaleSpec)) unitRescaleCard

/-- THE TIED CARD OF 'vinculumlaw53.UnitInverse'. -/
def unitInverseCard : Claim7 := { stood := { row := unitInverseRow, standIns := [], harness := (true, "c0cb3a3db25eab2759392f50b227960ee8087751778a711f9efee292121d2c26"), looks := true }, kinds := [], alts := [], laidByText := true, laidKinds := [.data, .data, .data], laidTests := true, laidLooks := .later }
def UnitInverseCardSaid : Prop := Claim7.holds Tryd.pinned (.plain (OpenSpec.ofChange unitInverseSpec)) unitInverseCard

/-- THE TIED CARD OF 'vinculumlaw53.UnitText'. -/
def unitTextCard : Claim7 := { stood := { row := unitTextRow, standIns := [], harness := (true, "c0cb3a3db25eab2759392f50b227960ee8087751778a711f9efee292121d2c26"), looks := true }, kinds := [], alts := [], laidByText := true, laidKinds := [.data, .data, .data, .data, .sentinel, .sentinel, .pinned], laidTests := true, laidLooks := .later }
def UnitTextCardSaid : Prop := Claim7.holds Tryd.pinned (.plain (OpenSpec.ofChange unitTextSpec)) unitTextCard

/-- THE TIED CARD OF 'vinculumlaw53.UnitParse'. -/
def unitParseCard : Claim7 := { stood := { row := unitParseRow, standIns := [], harness := (true, "c0cb3a3db25eab2759392f50b227960ee8087751778a711f9efee292121d2c26"), looks := true }, kinds := [], alts := [], laidByText := true, laidKinds := [.data, .data, .data, .data, .sentinel, .sentinel, .pinned], laidTests := true, laidLooks := .later }
def UnitParseCardSaid : Prop := Claim7.holds Tryd.pinned (.plain (OpenSpec.ofChange unitParseSpec)) unitParseCard

/-- THE SECOND FORM's CARD OF 'vinculumlaw53.UnitPowers'. -/
def unitPowersUptoCard : Claim7 := { stood := { row := unitPowersUptoRow, standIns := [], harness := (true, "c0cb3a3db25eab2759392f50b227960ee8087751778a711f9efee292121d2c26"), looks := true }, kinds := [], alts := [], laidByText := true, laidKinds := [.data, .data, .data], laidTests := true, laidLooks := .later }
def UnitPowersUptoCardSaid : Prop := Claim7.holds Tryd.pinned (.plain (OpenSpec.upto unitPowersSpec)) unitPowersUptoCard

/-- THE SECOND FORM's CARD OF 'vinculumlaw53.UnitGroup'. -/
def unitGroupUptoCard : Claim7 := { stood := { row := unitGroupUptoRow, standIns := [], harness := (true, "c0cb3a3db25eab2759392f50b227960ee8087751778a711f9efee292121d2c26"), looks := true }, kinds := [], alts := [], laidByText := true, laidKinds := [.data, .data, .data], laidTests := true, laidLooks := .later }
def UnitGroupUptoCardSaid : Prop := Claim7.holds Tryd.pinned (.plain (OpenSpec.upto unitGroupSpec)) unitGroupUptoCard

/-- THE SECOND FORM's CARD OF 'vinculumlaw53.UnitArithmetic'. -/
def unitArithmeticUptoCard : Claim7 := { stood := { row := unitArithmeticUptoRow, standIns := [], harness := (true, "c0cb3a3db25eab2759392f50b227960ee8087751778a711f9efee292121d2c26"), looks := true }, kinds := [], alts := [], laidByText := true, laidKinds := [.data, .data, .data], laidTests := true, laidLooks := .later }
def UnitArithmeticUptoCardSaid : Prop := Claim7.holds Tryd.pinned (.plain (OpenSpec.upto unitArithmeticSpec)) unitArithmeticUptoCard

/-- THE SECOND FORM's CARD OF 'vinculumlaw53.UnitFind'. -/
def unitFindUptoCard : Claim7 := { stood := { row := unitFindUptoRow, standIns := [], harness := (true, "c0cb3a3db25eab2759392f50b227960ee8087751778a711f9efee292121d2c26"), looks := true }, kinds := [], alts := [], laidByText := true, laidKinds := [.data, .data, .data], laidTests := true, laidLooks := .later }
def UnitFindUptoCardSaid : Prop := Claim7.holds Tryd.pinned (.plain (OpenSpec.upto unitFindSpec)) unitFindUptoCard

/-- THE SECOND FORM's CARD OF 'vinculumlaw53.UnitRescale'. -/
def unitRescaleUptoCard : Claim7 := { stood := { row := unitRescaleUptoRow, standIns := [], harness := (true, "c0cb3a3db25eab2759392f50b227960ee8087751778a711f9efee292121d2c26"), looks := true }, kinds := [], alts := [], laidByText := true, laidKinds := [.data, .data, .data], laidTests := true, laidLooks := .later }
def UnitRescaleUptoCardSaid : Prop := Claim7.holds Tryd.pinned (.plain (OpenSpec.upto unitRescaleSpec)) unitRescaleUptoCard

/-- THE SECOND FORM's CARD OF 'vinculumlaw53.UnitInverse'. -/
def unitInverseUptoCard : Claim7 := { stood := { row := unitInverseUptoRow, standIns := [], harness := (true, "c0cb3a3db25eab2759392f50b227960ee8087751778a711f9efee292121d2c26"), looks := true }, kinds := [], alts := [], laidByText := true, laidKinds := [.data, .data, .data], laidTests := true, laidLooks := .later }
def UnitInverseUptoCardSaid : Prop := Claim7.holds Tryd.pinned (.plain (OpenSpec.upto unitInverseSpec)) unitInverseUptoCard

/-- THE SECOND FORM's CARD OF 'vinculumlaw53.UnitText'. -/
def unitTextUptoCard : Claim7 := { stood := { row := unitTextUptoRow, standIns := [], harness := (true, "c0cb3a3db25eab2759392f50b227960ee8087751778a711f9efee292121d2c26"), looks := true }, kinds := [], alts := [], laidByText := true, laidKinds := [.data, .data, .data, .data, .sentinel, .sentinel, .pinned], laidTests := true, laidLooks := .later }
def UnitTextUptoCardSaid : Prop := Claim7.holds Tryd.pinned (.plain (OpenSpec.upto unitTextSpec)) unitTextUptoCard

/-- THE SECOND FORM's CARD OF 'vinculumlaw53.UnitParse'. -/
def unitParseUptoCard : Claim7 := { stood := { row := unitParseUptoRow, standIns := [], harness := (true, "c0cb3a3db25eab2759392f50b227960ee8087751778a711f9efee292121d2c26"), looks := true }, kinds := [], alts := [], laidByText := true, laidKinds := [.data, .data, .data, .data, .sentinel, .sentinel, .pinned], laidTests := true, laidLooks := .later }
def UnitParseUptoCardSaid : Prop := Claim7.holds Tryd.pinned (.plain (OpenSpec.upto unitParseSpec)) unitParseUptoCard
end Rows
end Go.Proofs.YtjnheoelcahkaaaDoor
