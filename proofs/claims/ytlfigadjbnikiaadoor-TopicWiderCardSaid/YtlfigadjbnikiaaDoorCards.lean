/-
  DERIVED. GIVEN WITH THE SEED: THE CARDS: each row of YtlfigadjbnikiaaDoorRows.lean that lists a variable, with what it lists TIED to the program's text (the seventh form; the later family's looks); each row that meets fmt, with fmt's text TOLD by the authors' own Lean function (tested against real Go, not proved from fmt's source: count such statements apart). THE CARD IS WHAT COUNTS. Prove the row's statement (the work); the ties are given (YtlfigadjbnikiaaDoorTie.lean); close each card by the builder's one call (the guide's Derived/Test/ToyasCard.lean, 'card_holds'). Laid BY PROGRAM, IN A SANDBOX (cutbox-door.mjs). By AI agents, Wed Nov 11 2026. No macro, syntax, notation, axiom, sorry.
-/
import Derived.Test.YtlfigadjbnikiaaDoorRows
import GoSem.ClaimSeven
namespace Go.Proofs.YtlfigadjbnikiaaDoor
namespace Rows

/-- THE TIED CARD OF 'basculelaw12.TopicTells'. -/
def topicTellsCard : Claim7 := { stood := { row := topicTellsRow, standIns := [], harness := (true, "dde5dcfdad8af98073a22ab6905eeb21baa88232b94d4fbbb75e5f74180ce57d"), looks := false }, kinds := [], alts := [], laidByText := true, laidKinds := [.data, .pinned], laidTests := true, laidLooks := .later }
def TopicTellsCardSaid : Prop := Claim7.holds Tryd.pinned (.plain (OpenSpec.ofChange topicTellsSpec)) topicTellsCard

/-- THE TIED CARD OF 'basculelaw12.TopicPlain'. -/
def topicPlainCard : Claim7 := { stood := { row := topicPlainRow, standIns := [], harness := (true, "dde5dcfdad8af98073a22ab6905eeb21baa88232b94d4fbbb75e5f74180ce57d"), looks := false }, kinds := [], alts := [], laidByText := true, laidKinds := [.data, .pinned], laidTests := true, laidLooks := .later }
def TopicPlainCardSaid : Prop := Claim7.holds Tryd.pinned (.plain (OpenSpec.ofChange topicPlainSpec)) topicPlainCard

/-- THE TIED CARD OF 'basculelaw12.TopicLevels'. -/
def topicLevelsCard : Claim7 := { stood := { row := topicLevelsRow, standIns := [], harness := (true, "dde5dcfdad8af98073a22ab6905eeb21baa88232b94d4fbbb75e5f74180ce57d"), looks := false }, kinds := [], alts := [], laidByText := true, laidKinds := [.data, .pinned], laidTests := true, laidLooks := .later }
def TopicLevelsCardSaid : Prop := Claim7.holds Tryd.pinned (.plain (OpenSpec.ofChange topicLevelsSpec)) topicLevelsCard

/-- THE TIED CARD OF 'basculelaw12.TopicWider'. -/
def topicWiderCard : Claim7 := { stood := { row := topicWiderRow, standIns := [], harness := (true, "dde5dcfdad8af98073a22ab6905eeb21baa88232b94d4fbbb75e5f74180ce57d"), looks := false }, kinds := [], alts := [], laidByText := true, laidKinds := [.data, .pinned], laidTests := true, laidLooks := .later }
def TopicWiderCardSaid : Prop := Claim7.holds Tryd.pinned (.plain (OpenSpec.ofChange topicWiderSpec)) topicWiderCard

/-- THE TIED CARD OF 'basculelaw12.TopicDollar'. -/
def topicDollarCard : Claim7 := { stood := { row := topicDollarRow, standIns := [], harness := (true, "dde5dcfdad8af98073a22ab6905eeb21baa88232b94d4fbbb75e5f74180ce57d"), looks := false }, kinds := [], alts := [], laidByText := true, laidKinds := [.data, .pinned], laidTests := true, laidLooks := .later }
def TopicDollarCardSaid : Prop := Claim7.holds Tryd.pinned (.plain (OpenSpec.ofChange topicDollarSpec)) topicDollarCard

/-- THE SECOND FORM's CARD OF 'basculelaw12.TopicTells'. -/
def topicTellsUptoCard : Claim7 := { stood := { row := topicTellsUptoRow, standIns := [], harness := (true, "dde5dcfdad8af98073a22ab6905eeb21baa88232b94d4fbbb75e5f74180ce57d"), looks := false }, kinds := [], alts := [], laidByText := true, laidKinds := [.data, .pinned], laidTests := true, laidLooks := .later }
def TopicTellsUptoCardSaid : Prop := Claim7.holds Tryd.pinned (.plain (OpenSpec.upto topicTellsSpec)) topicTellsUptoCard

/-- THE SECOND FORM's CARD OF 'basculelaw12.TopicPlain'. -/
def topicPlainUptoCard : Claim7 := { stood := { row := topicPlainUptoRow, standIns := [], harness := (true, "dde5dcfdad8af98073a22ab6905eeb21baa88232b94d4fbbb75e5f74180ce57d"), looks := false }, kinds := [], alts := [], laidByText := true, laidKinds := [.data, .pinned], laidTests := true, laidLooks := .later }
def TopicPlainUptoCardSaid : Prop := Claim7.holds Tryd.pinned (.plain (OpenSpec.upto topicPlainSpec)) topicPlainUptoCard

/-- THE SECOND FORM's CARD OF 'basculelaw12.TopicLevels'. -/
def topicLevelsUptoCard : Claim7 := { stood := { row := topicLevelsUptoRow, standIns := [], harness := (true, "dde5dcfdad8af98073a22ab6905eeb21baa88232b94d4fbbb75e5f74180ce57d"), looks := false }, kinds := [], alts := [], laidByText := true, laidKinds := [.data, .pinned], laidTests := true, laidLooks := .later }
def TopicLevelsUptoCardSaid : Prop := Claim7.holds Tryd.pinned (.plain (OpenSpec.upto topicLevelsSpec)) topicLevelsUptoCard

/-- THE SECOND FORM's CARD OF 'basculelaw12.TopicWider'. -/
def topicWiderUptoCard : Claim7 := { stood := { row := topicWiderUptoRow, standIns := [], harness := (true, "dde5dcfdad8af98073a22ab6905eeb21baa88232b94d4fbbb75e5f74180ce57d"), looks := false }, kinds := [], alts := [], laidByText := true, laidKinds := [.data, .pinned], laidTests := true, laidLooks := .later }
def TopicWiderUptoCardSaid : Prop := Claim7.holds Tryd.pinned (.plain (OpenSpec.upto topicWiderSpec)) topicWiderUptoCard

/-- THE SECOND FORM's CARD OF 'basculelaw12.TopicDollar'. -/
def topicDollarUptoCard : Claim7 := { stood := { row := topicDollarUptoRow, standIns := [], harness := (true, "dde5dcfdad8af98073a22ab6905eeb21baa88232b94d4fbbb75e5f74180ce57d"), looks := false }, kinds := [], alts := [], laidByText := true, laidKinds := [.data, .pinned], laidTests := true, laidLooks := .later }
def TopicDollarUptoCardSaid : Prop := Claim7.holds Tryd.pinned (.plain (OpenSpec.upto topicDollarSpec)) topicDollarUptoCard
end Rows
end Go.Proofs.YtlfigadjbnikiaaDoor
