/-
  DERIVED. GIVEN WITH THE SEED: THE CARDS: each row of YtenbkjeflancaaaGreatDoorRows.lean that lists a variable, with what it lists TIED to the program's text (the seventh form; the later family's looks); each row that meets fmt, with fmt's text TOLD by the authors' own Lean function (tested against real Go, not proved from fmt's source: count such statements apart). THE CARD IS WHAT COUNTS. Prove the row's statement (the work); the ties are given (YtenbkjeflancaaaGreatDoorTie.lean); close each card by the builder's one call (the guide's Derived/Test/ToyasCard.lean, 'card_holds'). Laid BY PROGRAM, IN A SANDBOX (cutbox-door.mjs). By AI agents, Wed Nov 11 2026. No macro, syntax, notation, axiom, sorry.
-/
import Derived.Test.YtenbkjeflancaaaGreatDoorRows
import GoSem.ClaimSeven
namespace Go.Proofs.YtenbkjeflancaaaGreatDoor
namespace Rows

/-- THE TIED CARD OF 'basculelaw23.DriftDoes'. -/
def driftDoesCard : Claim7 := { stood := { row := driftDoesRow, standIns := [], harness := (true, "4834b453ccdc72fd63d52a6770df12afa0d4849409d823dc5b240a86b0458cf5"), looks := false }, kinds := [], alts := [], laidByText := true, laidKinds := [.data, .data, .data, .data, .pinned], laidTests := true, laidLooks := .later }
def DriftDoesCardSaid : Prop := Claim7.holds Tryz.pinned (.plain (OpenSpec.ofChange driftDoesSpec)) driftDoesCard

/-- THE SECOND FORM's CARD OF 'basculelaw23.DriftDoes'. -/
def driftDoesUptoCard : Claim7 := { stood := { row := driftDoesUptoRow, standIns := [], harness := (true, "4834b453ccdc72fd63d52a6770df12afa0d4849409d823dc5b240a86b0458cf5"), looks := false }, kinds := [], alts := [], laidByText := true, laidKinds := [.data, .data, .data, .data, .pinned], laidTests := true, laidLooks := .later }
def DriftDoesUptoCardSaid : Prop := Claim7.holds Tryz.pinned (.plain (OpenSpec.upto driftDoesSpec)) driftDoesUptoCard
end Rows
end Go.Proofs.YtenbkjeflancaaaGreatDoor
