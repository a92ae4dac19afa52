/-
  DERIVED. GIVEN WITH THE SEED: THE CARDS: each row of YtmkekhjbbapngaaGreatDoorRows.lean that lists a variable, with what it lists TIED to the program's text (the seventh form; the later family's looks); each row that meets fmt, with fmt's text TOLD by the authors' own Lean function (tested against real Go, not proved from fmt's source: count such statements apart). THE CARD IS WHAT COUNTS. Prove the row's statement (the work); the ties are given (YtmkekhjbbapngaaGreatDoorTie.lean); close each card by the builder's one call (the guide's Derived/Test/ToyasCard.lean, 'card_holds'). Laid BY PROGRAM, IN A SANDBOX (cutbox-door.mjs). By AI agents, Wed Nov 11 2026. No macro, syntax, notation, axiom, sorry.
-/
import Derived.Test.YtmkekhjbbapngaaGreatDoorRows
import GoSem.ClaimSeven
namespace Go.Proofs.YtmkekhjbbapngaaGreatDoor
namespace Rows

/-- THE TIED CARD OF 'basculelaw22.ValueTells'. -/
def valueTellsCard : Claim7 := { stood := { row := valueTellsRow, standIns := [], harness := (true, "4cf14889b78211e76cf09189c3dbed50c02dc98597d125a94b6ee41d6775bb05"), looks := true }, kinds := [], alts := [], laidByText := true, laidKinds := [.data, .data, .data, .data, .sentinel, .sentinel, .pinned], laidTests := true, laidLooks := .later }
def ValueTellsCardSaid : Prop := Claim7.holds Tryz.pinned (.plain (OpenSpec.ofChange valueTellsSpec)) valueTellsCard

/-- THE TIED CARD OF 'basculelaw22.ValueReads'. -/
def valueReadsCard : Claim7 := { stood := { row := valueReadsRow, standIns := [], harness := (true, "4cf14889b78211e76cf09189c3dbed50c02dc98597d125a94b6ee41d6775bb05"), looks := true }, kinds := [], alts := [], laidByText := true, laidKinds := [.data, .data, .data, .data, .sentinel, .sentinel, .pinned], laidTests := true, laidLooks := .later }
def ValueReadsCardSaid : Prop := Claim7.holds Tryz.pinned (.plain (OpenSpec.ofChange valueReadsSpec)) valueReadsCard

/-- THE TIED CARD OF 'basculelaw22.ValueBack'. -/
def valueBackCard : Claim7 := { stood := { row := valueBackRow, standIns := [], harness := (true, "4cf14889b78211e76cf09189c3dbed50c02dc98597d125a94b6ee41d6775bb05"), looks := true }, kinds := [], alts := [], laidByText := true, laidKinds := [.data, .data, .data, .data, .sentinel, .sentinel, .pinned], laidTests := true, laidLooks := .later }
def ValueBackCardSaid : Prop := Claim7.holds Tryz.pinned (.plain (OpenSpec.ofChange valueBackSpec)) valueBackCard

/-- THE TIED CARD OF 'basculelaw22.ValueAgain'. -/
def valueAgainCard : Claim7 := { stood := { row := valueAgainRow, standIns := [], harness := (true, "4cf14889b78211e76cf09189c3dbed50c02dc98597d125a94b6ee41d6775bb05"), looks := true }, kinds := [], alts := [], laidByText := true, laidKinds := [.data, .data, .data, .data, .sentinel, .sentinel, .pinned], laidTests := true, laidLooks := .later }
def ValueAgainCardSaid : Prop := Claim7.holds Tryz.pinned (.plain (OpenSpec.ofChange valueAgainSpec)) valueAgainCard

/-- THE TIED CARD OF 'basculelaw22.ValueApart'. -/
def valueApartCard : Claim7 := { stood := { row := valueApartRow, standIns := [], harness := (true, "4cf14889b78211e76cf09189c3dbed50c02dc98597d125a94b6ee41d6775bb05"), looks := true }, kinds := [], alts := [], laidByText := true, laidKinds := [.data, .data, .data, .data, .sentinel, .sentinel, .pinned], laidTests := true, laidLooks := .later }
def ValueApartCardSaid : Prop := Claim7.holds Tryz.pinned (.plain (OpenSpec.ofChange valueApartSpec)) valueApartCard

/-- THE TIED CARD OF 'basculelaw22.ValueOrders'. -/
def valueOrdersCard : Claim7 := { stood := { row := valueOrdersRow, standIns := [], harness := (true, "4cf14889b78211e76cf09189c3dbed50c02dc98597d125a94b6ee41d6775bb05"), looks := true }, kinds := [], alts := [], laidByText := true, laidKinds := [.data, .data, .data, .data, .sentinel, .sentinel, .pinned], laidTests := true, laidLooks := .later }
def ValueOrdersCardSaid : Prop := Claim7.holds Tryz.pinned (.plain (OpenSpec.ofChange valueOrdersSpec)) valueOrdersCard

/-- THE TIED CARD OF 'basculelaw22.ValueSigns'. -/
def valueSignsCard : Claim7 := { stood := { row := valueSignsRow, standIns := [], harness := (true, "4cf14889b78211e76cf09189c3dbed50c02dc98597d125a94b6ee41d6775bb05"), looks := true }, kinds := [], alts := [], laidByText := true, laidKinds := [.data, .data, .data, .data, .sentinel, .sentinel, .pinned], laidTests := true, laidLooks := .later }
def ValueSignsCardSaid : Prop := Claim7.holds Tryz.pinned (.plain (OpenSpec.ofChange valueSignsSpec)) valueSignsCard

/-- THE TIED CARD OF 'basculelaw22.ValueTurned'. -/
def valueTurnedCard : Claim7 := { stood := { row := valueTurnedRow, standIns := [], harness := (true, "4cf14889b78211e76cf09189c3dbed50c02dc98597d125a94b6ee41d6775bb05"), looks := true }, kinds := [], alts := [], laidByText := true, laidKinds := [.data, .data, .data, .data, .sentinel, .sentinel, .pinned], laidTests := true, laidLooks := .later }
def ValueTurnedCardSaid : Prop := Claim7.holds Tryz.pinned (.plain (OpenSpec.ofChange valueTurnedSpec)) valueTurnedCard

/-- THE SECOND FORM's CARD OF 'basculelaw22.ValueTells'. -/
def valueTellsUptoCard : Claim7 := { stood := { row := valueTellsUptoRow, standIns := [], harness := (true, "4cf14889b78211e76cf09189c3dbed50c02dc98597d125a94b6ee41d6775bb05"), looks := true }, kinds := [], alts := [], laidByText := true, laidKinds := [.data, .data, .data, .data, .sentinel, .sentinel, .pinned], laidTests := true, laidLooks := .later }
def ValueTellsUptoCardSaid : Prop := Claim7.holds Tryz.pinned (.plain (OpenSpec.upto valueTellsSpec)) valueTellsUptoCard

/-- THE SECOND FORM's CARD OF 'basculelaw22.ValueReads'. -/
def valueReadsUptoCard : Claim7 := { stood := { row := valueReadsUptoRow, standIns := [], harness := (true, "4cf14889b78211e76cf09189c3dbed50c02dc98597d125a94b6ee41d6775bb05"), looks := true }, kinds := [], alts := [], laidByText := true, laidKinds := [.data, .data, .data, .data, .sentinel, .sentinel, .pinned], laidTests := true, laidLooks := .later }
def ValueReadsUptoCardSaid : Prop := Claim7.holds Tryz.pinned (.plain (OpenSpec.upto valueReadsSpec)) valueReadsUptoCard

/-- THE SECOND FORM's CARD OF 'basculelaw22.ValueBack'. -/
def valueBackUptoCard : Claim7 := { stood := { row := valueBackUptoRow, standIns := [], harness := (true, "4cf14889b78211e76cf09189c3dbed50c02dc98597d125a94b6ee41d6775bb05"), looks := true }, kinds := [], alts := [], laidByText := true, laidKinds := [.data, .data, .data, .data, .sentinel, .sentinel, .pinned], laidTests := true, laidLooks := .later }
def ValueBackUptoCardSaid : Prop := Claim7.holds Tryz.pinned (.plain (OpenSpec.upto valueBackSpec)) valueBackUptoCard

/-- THE SECOND FORM's CARD OF 'basculelaw22.ValueAgain'. -/
def valueAgainUptoCard : Claim7 := { stood := { row := valueAgainUptoRow, standIns := [], harness := (true, "4cf14889b78211e76cf09189c3dbed50c02dc98597d125a94b6ee41d6775bb05"), looks := true }, kinds := [], alts := [], laidByText := true, laidKinds := [.data, .data, .data, .data, .sentinel, .sentinel, .pinned], laidTests := true, laidLooks := .later }
def ValueAgainUptoCardSaid : Prop := Claim7.holds Tryz.pinned (.plain (OpenSpec.upto valueAgainSpec)) valueAgainUptoCard

/-- THE SECOND FORM's CARD OF 'basculelaw22.ValueApart'. -/
def valueApartUptoCard : Claim7 := { stood := { row := valueApartUptoRow, standIns := [], harness := (true, "4cf14889b78211e76cf09189c3dbed50c02dc98597d125a94b6ee41d6775bb05"), looks := true }, kinds := [], alts := [], laidByText := true, laidKinds := [.data, .data, .data, .data, .sentinel, .sentinel, .pinned], laidTests := true, laidLooks := .later }
def ValueApartUptoCardSaid : Prop := Claim7.holds Tryz.pinned (.plain (OpenSpec.upto valueApartSpec)) valueApartUptoCard

/-- THE SECOND FORM's CARD OF 'basculelaw22.ValueOrders'. -/
def valueOrdersUptoCard : Claim7 := { stood := { row := valueOrdersUptoRow, standIns := [], harness := (true, "4cf14889b78211e76cf09189c3dbed50c02dc98597d125a94b6ee41d6775bb05"), looks := true }, kinds := [], alts := [], laidByText := true, laidKinds := [.data, .data, .data, .data, .sentinel, .sentinel, .pinned], laidTests := true, laidLooks := .later }
def ValueOrdersUptoCardSaid : Prop := Claim7.holds Tryz.pinned (.plain (OpenSpec.upto valueOrdersSpec)) valueOrdersUptoCard

/-- THE SECOND FORM's CARD OF 'basculelaw22.ValueSigns'. -/
def valueSignsUptoCard : Claim7 := { stood := { row := valueSignsUptoRow, standIns := [], harness := (true, "4cf14889b78211e76cf09189c3dbed50c02dc98597d125a94b6ee41d6775bb05"), looks := true }, kinds := [], alts := [], laidByText := true, laidKinds := [.data, .data, .data, .data, .sentinel, .sentinel, .pinned], laidTests := true, laidLooks := .later }
def ValueSignsUptoCardSaid : Prop := Claim7.holds Tryz.pinned (.plain (OpenSpec.upto valueSignsSpec)) valueSignsUptoCard

/-- THE SECOND FORM's CARD OF 'basculelaw22.ValueTurned'. -/
def valueTurnedUptoCard : Claim7 := { stood := { row := valueTurnedUptoRow, standIns := [], harness := (true, "4cf14889b78211e76cf09189c3dbed50c02dc98597d125a94b6ee41d6775bb05"), looks := true }, kinds := [], alts := [], laidByText := true, laidKinds := [.data, .data, .data, .data, .sentinel, .sentinel, .pinned], laidTests := true, laidLooks := .later }
def ValueTurnedUptoCardSaid : Prop := Claim7.holds Tryz.pinned (.plain (OpenSpec.upto valueTurnedSpec)) valueTurnedUptoCard
end Rows
end Go.Proofs.YtmkekhjbbapngaaGreatDoor
