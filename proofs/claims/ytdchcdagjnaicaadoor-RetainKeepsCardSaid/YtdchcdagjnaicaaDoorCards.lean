/-
  DERIVED. GIVEN WITH THE SEED: THE CARDS: each row of YtdchcdagjnaicaaDoorRows.lean that lists a variable, with what it lists TIED to the program's text (the seventh form; the later family's looks); each row that meets fmt, with fmt's text TOLD by the authors' own Lean function (tested against real Go, not proved from fmt's source: count such statements apart). THE CARD IS WHAT COUNTS. Prove the row's statement (the work); the ties are given (YtdchcdagjnaicaaDoorTie.lean); close each card by the builder's one call (the guide's Derived/Test/ToyasCard.lean, 'card_holds'). Laid BY PROGRAM, IN A SANDBOX (cutbox-door.mjs). By AI agents, Wed Nov 11 2026. No macro, syntax, notation, axiom, sorry.
-/
import Derived.Test.YtdchcdagjnaicaaDoorRows
import GoSem.ClaimSeven
namespace Go.Proofs.YtdchcdagjnaicaaDoor
namespace Rows

/-- THE TIED CARD OF 'basculelaw14.RetainLast'. -/
def retainLastCard : Claim7 := { stood := { row := retainLastRow, standIns := [], harness := (true, "cab8663f06c8c8bc7a086567421d0c77ed85134e6c27c606fc293323a6dd452f"), looks := false }, kinds := [], alts := [], laidByText := true, laidKinds := [.data, .pinned], laidTests := true, laidLooks := .later }
def RetainLastCardSaid : Prop := Claim7.holds Tryd.pinned (.plain (OpenSpec.ofChange retainLastSpec)) retainLastCard

/-- THE TIED CARD OF 'basculelaw14.RetainFinds'. -/
def retainFindsCard : Claim7 := { stood := { row := retainFindsRow, standIns := [], harness := (true, "cab8663f06c8c8bc7a086567421d0c77ed85134e6c27c606fc293323a6dd452f"), looks := false }, kinds := [], alts := [], laidByText := true, laidKinds := [.data, .pinned], laidTests := true, laidLooks := .later }
def RetainFindsCardSaid : Prop := Claim7.holds Tryd.pinned (.plain (OpenSpec.ofChange retainFindsSpec)) retainFindsCard

/-- THE TIED CARD OF 'basculelaw14.RetainFew'. -/
def retainFewCard : Claim7 := { stood := { row := retainFewRow, standIns := [], harness := (true, "cab8663f06c8c8bc7a086567421d0c77ed85134e6c27c606fc293323a6dd452f"), looks := false }, kinds := [], alts := [], laidByText := true, laidKinds := [.data, .pinned], laidTests := true, laidLooks := .later }
def RetainFewCardSaid : Prop := Claim7.holds Tryd.pinned (.plain (OpenSpec.ofChange retainFewSpec)) retainFewCard

/-- THE TIED CARD OF 'basculelaw14.RetainKeeps'. -/
def retainKeepsCard : Claim7 := { stood := { row := retainKeepsRow, standIns := [], harness := (true, "cab8663f06c8c8bc7a086567421d0c77ed85134e6c27c606fc293323a6dd452f"), looks := false }, kinds := [], alts := [], laidByText := true, laidKinds := [.data, .pinned], laidTests := true, laidLooks := .later }
def RetainKeepsCardSaid : Prop := Claim7.holds Tryd.pinned (.plain (OpenSpec.ofChange retainKeepsSpec)) retainKeepsCard

/-- THE SECOND FORM's CARD OF 'basculelaw14.RetainLast'. -/
def retainLastUptoCard : Claim7 := { stood := { row := retainLastUptoRow, standIns := [], harness := (true, "cab8663f06c8c8bc7a086567421d0c77ed85134e6c27c606fc293323a6dd452f"), looks := false }, kinds := [], alts := [], laidByText := true, laidKinds := [.data, .pinned], laidTests := true, laidLooks := .later }
def RetainLastUptoCardSaid : Prop := Claim7.holds Tryd.pinned (.plain (OpenSpec.upto retainLastSpec)) retainLastUptoCard

/-- THE SECOND FORM's CARD OF 'basculelaw14.RetainFinds'. -/
def retainFindsUptoCard : Claim7 := { stood := { row := retainFindsUptoRow, standIns := [], harness := (true, "cab8663f06c8c8bc7a086567421d0c77ed85134e6c27c606fc293323a6dd452f"), looks := false }, kinds := [], alts := [], laidByText := true, laidKinds := [.data, .pinned], laidTests := true, laidLooks := .later }
def RetainFindsUptoCardSaid : Prop := Claim7.holds Tryd.pinned (.plain (OpenSpec.upto retainFindsSpec)) retainFindsUptoCard

/-- THE SECOND FORM's CARD OF 'basculelaw14.RetainFew'. -/
def retainFewUptoCard : Claim7 := { stood := { row := retainFewUptoRow, standIns := [], harness := (true, "cab8663f06c8c8bc7a086567421d0c77ed85134e6c27c606fc293323a6dd452f"), looks := false }, kinds := [], alts := [], laidByText := true, laidKinds := [.data, .pinned], laidTests := true, laidLooks := .later }
def RetainFewUptoCardSaid : Prop := Claim7.holds Tryd.pinned (.plain (OpenSpec.upto retainFewSpec)) retainFewUptoCard

/-- THE SECOND FORM's CARD OF 'basculelaw14.RetainKeeps'. -/
def retainKeepsUptoCard : Claim7 := { stood := { row := retainKeepsUptoRow, standIns := [], harness := (true, "cab8663f06c8c8bc7a086567421d0c77ed85134e6c27c606fc293323a6dd452f"), looks := false }, kinds := [], alts := [], laidByText := true, laidKinds := [.data, .pinned], laidTests := true, laidLooks := .later }
def RetainKeepsUptoCardSaid : Prop := Claim7.holds Tryd.pinned (.plain (OpenSpec.upto retainKeepsSpec)) retainKeepsUptoCard
end Rows
end Go.Proofs.YtdchcdagjnaicaaDoor
