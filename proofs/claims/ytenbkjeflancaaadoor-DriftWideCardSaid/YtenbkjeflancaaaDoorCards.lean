/-
  DERIVED. GIVEN WITH THE SEED: THE CARDS: each row of YtenbkjeflancaaaDoorRows.lean that lists a variable, with what it lists TIED to the program's text (the seventh form; the later family's looks); each row that meets fmt, with fmt's text TOLD by the authors' own Lean function (tested against real Go, not proved from fmt's source: count such statements apart). THE CARD IS WHAT COUNTS. Prove the row's statement (the work); the ties are given (YtenbkjeflancaaaDoorTie.lean); close each card by the builder's one call (the guide's Derived/Test/ToyasCard.lean, 'card_holds'). Laid BY PROGRAM, IN A SANDBOX (cutbox-door.mjs). By AI agents, Wed Nov 11 2026. No macro, syntax, notation, axiom, sorry.
-/
import Derived.Test.YtenbkjeflancaaaDoorRows
import GoSem.ClaimSeven
namespace Go.Proofs.YtenbkjeflancaaaDoor
namespace Rows

/-- THE TIED CARD OF 'basculelaw23.DriftTells'. -/
def driftTellsCard : Claim7 := { stood := { row := driftTellsRow, standIns := [], harness := (true, "7ecbd7ffe364faf2921cab17acb7ed70e8feb2989c3fd1428a19a1c6c84ee295"), looks := false }, kinds := [], alts := [], laidByText := true, laidKinds := [.data, .data, .data, .data, .pinned], laidTests := true, laidLooks := .later }
def DriftTellsCardSaid : Prop := Claim7.holds Tryd.pinned (.plain (OpenSpec.ofChange driftTellsSpec)) driftTellsCard

/-- THE TIED CARD OF 'basculelaw23.DriftSame'. -/
def driftSameCard : Claim7 := { stood := { row := driftSameRow, standIns := [], harness := (true, "7ecbd7ffe364faf2921cab17acb7ed70e8feb2989c3fd1428a19a1c6c84ee295"), looks := false }, kinds := [], alts := [], laidByText := true, laidKinds := [.data, .data, .data, .data, .pinned], laidTests := true, laidLooks := .later }
def DriftSameCardSaid : Prop := Claim7.holds Tryd.pinned (.plain (OpenSpec.ofChange driftSameSpec)) driftSameCard

/-- THE TIED CARD OF 'basculelaw23.DriftWide'. -/
def driftWideCard : Claim7 := { stood := { row := driftWideRow, standIns := [], harness := (true, "7ecbd7ffe364faf2921cab17acb7ed70e8feb2989c3fd1428a19a1c6c84ee295"), looks := false }, kinds := [], alts := [], laidByText := true, laidKinds := [.data, .data, .data, .data, .pinned], laidTests := true, laidLooks := .later }
def DriftWideCardSaid : Prop := Claim7.holds Tryd.pinned (.plain (OpenSpec.ofChange driftWideSpec)) driftWideCard

/-- THE TIED CARD OF 'basculelaw23.DriftNil'. -/
def driftNilCard : Claim7 := { stood := { row := driftNilRow, standIns := [], harness := (true, "7ecbd7ffe364faf2921cab17acb7ed70e8feb2989c3fd1428a19a1c6c84ee295"), looks := false }, kinds := [], alts := [], laidByText := true, laidKinds := [.data, .data, .data, .data, .pinned], laidTests := true, laidLooks := .later }
def DriftNilCardSaid : Prop := Claim7.holds Tryd.pinned (.plain (OpenSpec.ofChange driftNilSpec)) driftNilCard

/-- THE SECOND FORM's CARD OF 'basculelaw23.DriftTells'. -/
def driftTellsUptoCard : Claim7 := { stood := { row := driftTellsUptoRow, standIns := [], harness := (true, "7ecbd7ffe364faf2921cab17acb7ed70e8feb2989c3fd1428a19a1c6c84ee295"), looks := false }, kinds := [], alts := [], laidByText := true, laidKinds := [.data, .data, .data, .data, .pinned], laidTests := true, laidLooks := .later }
def DriftTellsUptoCardSaid : Prop := Claim7.holds Tryd.pinned (.plain (OpenSpec.upto driftTellsSpec)) driftTellsUptoCard

/-- THE SECOND FORM's CARD OF 'basculelaw23.DriftSame'. -/
def driftSameUptoCard : Claim7 := { stood := { row := driftSameUptoRow, standIns := [], harness := (true, "7ecbd7ffe364faf2921cab17acb7ed70e8feb2989c3fd1428a19a1c6c84ee295"), looks := false }, kinds := [], alts := [], laidByText := true, laidKinds := [.data, .data, .data, .data, .pinned], laidTests := true, laidLooks := .later }
def DriftSameUptoCardSaid : Prop := Claim7.holds Tryd.pinned (.plain (OpenSpec.upto driftSameSpec)) driftSameUptoCard

/-- THE SECOND FORM's CARD OF 'basculelaw23.DriftWide'. -/
def driftWideUptoCard : Claim7 := { stood := { row := driftWideUptoRow, standIns := [], harness := (true, "7ecbd7ffe364faf2921cab17acb7ed70e8feb2989c3fd1428a19a1c6c84ee295"), looks := false }, kinds := [], alts := [], laidByText := true, laidKinds := [.data, .data, .data, .data, .pinned], laidTests := true, laidLooks := .later }
def DriftWideUptoCardSaid : Prop := Claim7.holds Tryd.pinned (.plain (OpenSpec.upto driftWideSpec)) driftWideUptoCard

/-- THE SECOND FORM's CARD OF 'basculelaw23.DriftNil'. -/
def driftNilUptoCard : Claim7 := { stood := { row := driftNilUptoRow, standIns := [], harness := (true, "7ecbd7ffe364faf2921cab17acb7ed70e8feb2989c3fd1428a19a1c6c84ee295"), looks := false }, kinds := [], alts := [], laidByText := true, laidKinds := [.data, .data, .data, .data, .pinned], laidTests := true, laidLooks := .later }
def DriftNilUptoCardSaid : Prop := Claim7.holds Tryd.pinned (.plain (OpenSpec.upto driftNilSpec)) driftNilUptoCard
end Rows
end Go.Proofs.YtenbkjeflancaaaDoor
