/-
  DERIVED. GIVEN WITH THE SEED: THE CARDS: each row of YtbfhiiokajbdhaaDoorRows.lean that lists a variable, with what it lists TIED to the program's text (the seventh form; the later family's looks); each row that meets fmt, with fmt's text TOLD by the authors' own Lean function (tested against real Go, not proved from fmt's source: count such statements apart). THE CARD IS WHAT COUNTS. Prove the row's statement (the work); the ties are given (YtbfhiiokajbdhaaDoorTie.lean); close each card by the builder's one call (the guide's Derived/Test/ToyasCard.lean, 'card_holds'). Laid BY PROGRAM, IN A SANDBOX (cutbox-door.mjs). By AI agents, Wed Nov 11 2026. No macro, syntax, notation, axiom, sorry.
-/
import Derived.Test.YtbfhiiokajbdhaaDoorRows
import GoSem.ClaimSeven
namespace Go.Proofs.YtbfhiiokajbdhaaDoor
namespace Rows

/-- THE TIED CARD OF 'basculelaw21.TableBlanks'. -/
def tableBlanksCard : Claim7 := { stood := { row := tableBlanksRow, standIns := [], harness := (true, "8486128a4e69d643e6e78ddcb2a1e5479f4478053afc742d72433ad7cbc45c9e"), looks := true }, kinds := [], alts := [], laidByText := true, laidKinds := [.data, .data, .data, .data, .sentinel, .sentinel, .pinned], laidTests := true, laidLooks := .later }
def TableBlanksCardSaid : Prop := Claim7.holds Tryd.pinned (.plain (OpenSpec.ofChange tableBlanksSpec)) tableBlanksCard

/-- THE SECOND FORM's CARD OF 'basculelaw21.TableBlanks'. -/
def tableBlanksUptoCard : Claim7 := { stood := { row := tableBlanksUptoRow, standIns := [], harness := (true, "8486128a4e69d643e6e78ddcb2a1e5479f4478053afc742d72433ad7cbc45c9e"), looks := true }, kinds := [], alts := [], laidByText := true, laidKinds := [.data, .data, .data, .data, .sentinel, .sentinel, .pinned], laidTests := true, laidLooks := .later }
def TableBlanksUptoCardSaid : Prop := Claim7.holds Tryd.pinned (.plain (OpenSpec.upto tableBlanksSpec)) tableBlanksUptoCard
end Rows
end Go.Proofs.YtbfhiiokajbdhaaDoor
