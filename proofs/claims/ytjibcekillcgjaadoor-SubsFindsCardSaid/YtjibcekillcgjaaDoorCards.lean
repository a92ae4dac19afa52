/-
  DERIVED. GIVEN WITH THE SEED: THE CARDS: each row of YtjibcekillcgjaaDoorRows.lean that lists a variable, with what it lists TIED to the program's text (the seventh form; the later family's looks); each row that meets fmt, with fmt's text TOLD by the authors' own Lean function (tested against real Go, not proved from fmt's source: count such statements apart). THE CARD IS WHAT COUNTS. Prove the row's statement (the work); the ties are given (YtjibcekillcgjaaDoorTie.lean); close each card by the builder's one call (the guide's Derived/Test/ToyasCard.lean, 'card_holds'). Laid BY PROGRAM, IN A SANDBOX (cutbox-door.mjs). By AI agents, Wed Nov 11 2026. No macro, syntax, notation, axiom, sorry.
-/
import Derived.Test.YtjibcekillcgjaaDoorRows
import GoSem.ClaimSeven
namespace Go.Proofs.YtjibcekillcgjaaDoor
namespace Rows

/-- THE TIED CARD OF 'basculelaw13.SubsAgain'. -/
def subsAgainCard : Claim7 := { stood := { row := subsAgainRow, standIns := [], harness := (true, "1b7be63a5d344ee218f442e33b909ae6ff0bef773b4c68a57ed40e69fe15a77b"), looks := false }, kinds := [], alts := [], laidByText := true, laidKinds := [.data, .pinned], laidTests := true, laidLooks := .later }
def SubsAgainCardSaid : Prop := Claim7.holds Tryd.pinned (.plain (OpenSpec.ofChange subsAgainSpec)) subsAgainCard

/-- THE TIED CARD OF 'basculelaw13.SubsOrder'. -/
def subsOrderCard : Claim7 := { stood := { row := subsOrderRow, standIns := [], harness := (true, "1b7be63a5d344ee218f442e33b909ae6ff0bef773b4c68a57ed40e69fe15a77b"), looks := false }, kinds := [], alts := [], laidByText := true, laidKinds := [.data, .pinned], laidTests := true, laidLooks := .later }
def SubsOrderCardSaid : Prop := Claim7.holds Tryd.pinned (.plain (OpenSpec.ofChange subsOrderSpec)) subsOrderCard

/-- THE TIED CARD OF 'basculelaw13.SubsFinds'. -/
def subsFindsCard : Claim7 := { stood := { row := subsFindsRow, standIns := [], harness := (true, "1b7be63a5d344ee218f442e33b909ae6ff0bef773b4c68a57ed40e69fe15a77b"), looks := false }, kinds := [], alts := [], laidByText := true, laidKinds := [.data, .pinned], laidTests := true, laidLooks := .later }
def SubsFindsCardSaid : Prop := Claim7.holds Tryd.pinned (.plain (OpenSpec.ofChange subsFindsSpec)) subsFindsCard

/-- THE TIED CARD OF 'basculelaw13.SubsNil'. -/
def subsNilCard : Claim7 := { stood := { row := subsNilRow, standIns := [], harness := (true, "1b7be63a5d344ee218f442e33b909ae6ff0bef773b4c68a57ed40e69fe15a77b"), looks := false }, kinds := [], alts := [], laidByText := true, laidKinds := [.data, .pinned], laidTests := true, laidLooks := .later }
def SubsNilCardSaid : Prop := Claim7.holds Tryd.pinned (.plain (OpenSpec.ofChange subsNilSpec)) subsNilCard

/-- THE SECOND FORM's CARD OF 'basculelaw13.SubsAgain'. -/
def subsAgainUptoCard : Claim7 := { stood := { row := subsAgainUptoRow, standIns := [], harness := (true, "1b7be63a5d344ee218f442e33b909ae6ff0bef773b4c68a57ed40e69fe15a77b"), looks := false }, kinds := [], alts := [], laidByText := true, laidKinds := [.data, .pinned], laidTests := true, laidLooks := .later }
def SubsAgainUptoCardSaid : Prop := Claim7.holds Tryd.pinned (.plain (OpenSpec.upto subsAgainSpec)) subsAgainUptoCard

/-- THE SECOND FORM's CARD OF 'basculelaw13.SubsOrder'. -/
def subsOrderUptoCard : Claim7 := { stood := { row := subsOrderUptoRow, standIns := [], harness := (true, "1b7be63a5d344ee218f442e33b909ae6ff0bef773b4c68a57ed40e69fe15a77b"), looks := false }, kinds := [], alts := [], laidByText := true, laidKinds := [.data, .pinned], laidTests := true, laidLooks := .later }
def SubsOrderUptoCardSaid : Prop := Claim7.holds Tryd.pinned (.plain (OpenSpec.upto subsOrderSpec)) subsOrderUptoCard

/-- THE SECOND FORM's CARD OF 'basculelaw13.SubsFinds'. -/
def subsFindsUptoCard : Claim7 := { stood := { row := subsFindsUptoRow, standIns := [], harness := (true, "1b7be63a5d344ee218f442e33b909ae6ff0bef773b4c68a57ed40e69fe15a77b"), looks := false }, kinds := [], alts := [], laidByText := true, laidKinds := [.data, .pinned], laidTests := true, laidLooks := .later }
def SubsFindsUptoCardSaid : Prop := Claim7.holds Tryd.pinned (.plain (OpenSpec.upto subsFindsSpec)) subsFindsUptoCard

/-- THE SECOND FORM's CARD OF 'basculelaw13.SubsNil'. -/
def subsNilUptoCard : Claim7 := { stood := { row := subsNilUptoRow, standIns := [], harness := (true, "1b7be63a5d344ee218f442e33b909ae6ff0bef773b4c68a57ed40e69fe15a77b"), looks := false }, kinds := [], alts := [], laidByText := true, laidKinds := [.data, .pinned], laidTests := true, laidLooks := .later }
def SubsNilUptoCardSaid : Prop := Claim7.holds Tryd.pinned (.plain (OpenSpec.upto subsNilSpec)) subsNilUptoCard
end Rows
end Go.Proofs.YtjibcekillcgjaaDoor
