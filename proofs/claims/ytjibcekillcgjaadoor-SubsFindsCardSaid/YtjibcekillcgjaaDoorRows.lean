/-
  NARROWER THAN 'FOR EVERY INPUT', by the rows' own cells (each row's printed sentence says how): SubsAgain: laid · SubsOrder: laid · SubsFinds: laid · SubsNil: laid.
  DERIVED. THE GIVEN ROWS OF THIS SEAT. 4 by the template 'for every input the law returns true; each argument reads behind the call as it read before'; 0 by the template 'total and deterministic' (their statements: YtjibcekillcgjaaDoorTotals.lean).
  GIVEN WITH THE SEED: the statements are not yours to turn. If you find one false, say at which input.
  Laid BY PROGRAM, IN A SANDBOX (cutbox-rows.mjs): the forced cells as the released guide's own fill.sh prints them over the translation 56e5a6c664daf560… (all of the seat's roots in one cut). By AI agents, Wed Nov 11 2026. No macro, syntax, notation, axiom, sorry.
-/
import Derived.Test.YtjibcekillcgjaaDoorChecked
import GoSem.PinnedTables
import GoSem.Claim
import GoSem.ClaimJoined
import GoSem.ClaimMapViews
import Derived.JoinedTies
import Derived.KernelRfl
namespace Go.Proofs.YtjibcekillcgjaaDoor
/- THE CELL 'sum', in the pinned program and in every row, IS THE sha256 OF THE DUMP (.gsa) THAT YtjibcekillcgjaaDoorProg.lean LOADS. Nothing in Lean hashes anything: it is a label: what it is worth is what the hold of that sum in a sandbox is worth. -/
noncomputable def Tryd.pinned : Pinned := { name := "ytjibcekillcgjaadoor", sum := "56e5a6c664daf560f1e136a212b541ab326b4bb22b7dd1e9bebec04e120a324e", checked := Tryd.checked }
namespace Rows
def none {H : Type} : Left H := { results := [], args := [] }

/- WHAT THE LISTED PACKAGE-LEVEL VARIABLES READ AS WHEN THE CALL BEGINS. Each datum BY PROGRAM (the guide's laid-datum.mjs) off the statement by which the dump's own 'gosem.cut.vars' lays the variable. In a bare row this is a premise. The card (YtjibcekillcgjaaDoorCards.lean) ties it to the program's text. -/
def laid_unicode_utf8_acceptRanges {H : Type} : DataW H := .agg [.agg [.lit (.int .u8 128), .lit (.int .u8 191)], .agg [.lit (.int .u8 160), .lit (.int .u8 191)], .agg [.lit (.int .u8 128), .lit (.int .u8 159)], .agg [.lit (.int .u8 144), .lit (.int .u8 191)], .agg [.lit (.int .u8 128), .lit (.int .u8 143)], .agg [.lit (.int .u8 0), .lit (.int .u8 0)], .agg [.lit (.int .u8 0), .lit (.int .u8 0)], .agg [.lit (.int .u8 0), .lit (.int .u8 0)], .agg [.lit (.int .u8 0), .lit (.int .u8 0)], .agg [.lit (.int .u8 0), .lit (.int .u8 0)], .agg [.lit (.int .u8 0), .lit (.int .u8 0)], .agg [.lit (.int .u8 0), .lit (.int .u8 0)], .agg [.lit (.int .u8 0), .lit (.int .u8 0)], .agg [.lit (.int .u8 0), .lit (.int .u8 0)], .agg [.lit (.int .u8 0), .lit (.int .u8 0)], .agg [.lit (.int .u8 0), .lit (.int .u8 0)]]
/-- One of Go's own tables, pinned by name: the form's constant. -/
def laid_unicode_utf8_first : DataW Unit := Go.Pinned.utf8First

/-- 'basculelaw13.SubsAgain': WHATEVER THE INPUT: true; the input reads as it did. -/
def subsAgainSpec : ChangeSpec := { name := "subsAgain", fn := fun _ => fun
  | [d1, d2, d3, d4, d5] => { results := [.lit (.bool true)], args := [d1, d2, d3, d4, d5] }
  | _ => none }
def subsAgainRow : OpenClaim := { program := "ytjibcekillcgjaadoor", sum := "56e5a6c664daf560f1e136a212b541ab326b4bb22b7dd1e9bebec04e120a324e", func := "bascule/basculelaw13.SubsAgain", spec := "subsAgain", inPlace := ["internal/bytealg.IndexByteString", "internal/bytealg.IndexString"], unfollowed := true, recurses := true, named := ["unicode/utf8.first", "unicode/utf8.acceptRanges", "internal/bytealg.MaxLen"], plainKeys := false, apart := false, laid := [("unicode/utf8.acceptRanges", laid_unicode_utf8_acceptRanges), ("unicode/utf8.first", laid_unicode_utf8_first)] }
def SubsAgainSaid : Prop := subsAgainRow.holds Tryd.pinned (OpenSpec.ofChange subsAgainSpec)

/-- ITS FALSE NEIGHBOUR: 'it returns false'. Refute it at one input. -/
def subsAgainWrong : ChangeSpec := { name := "subsAgain", fn := fun _ => fun
  | [d1, d2, d3, d4, d5] => { results := [.lit (.bool false)], args := [d1, d2, d3, d4, d5] }
  | _ => none }
def SubsAgainWrongFalsely : Prop := subsAgainRow.holds Tryd.pinned (OpenSpec.ofChange subsAgainWrong)

/-- 'basculelaw13.SubsOrder': WHATEVER THE INPUT: true; the input reads as it did. -/
def subsOrderSpec : ChangeSpec := { name := "subsOrder", fn := fun _ => fun
  | [d1, d2, d3] => { results := [.lit (.bool true)], args := [d1, d2, d3] }
  | _ => none }
def subsOrderRow : OpenClaim := { program := "ytjibcekillcgjaadoor", sum := "56e5a6c664daf560f1e136a212b541ab326b4bb22b7dd1e9bebec04e120a324e", func := "bascule/basculelaw13.SubsOrder", spec := "subsOrder", inPlace := ["internal/bytealg.IndexByteString", "internal/bytealg.IndexString"], unfollowed := true, recurses := true, named := ["unicode/utf8.first", "unicode/utf8.acceptRanges", "internal/bytealg.MaxLen"], plainKeys := false, apart := false, laid := [("unicode/utf8.acceptRanges", laid_unicode_utf8_acceptRanges), ("unicode/utf8.first", laid_unicode_utf8_first)] }
def SubsOrderSaid : Prop := subsOrderRow.holds Tryd.pinned (OpenSpec.ofChange subsOrderSpec)

/-- ITS FALSE NEIGHBOUR: 'it returns false'. Refute it at one input. -/
def subsOrderWrong : ChangeSpec := { name := "subsOrder", fn := fun _ => fun
  | [d1, d2, d3] => { results := [.lit (.bool false)], args := [d1, d2, d3] }
  | _ => none }
def SubsOrderWrongFalsely : Prop := subsOrderRow.holds Tryd.pinned (OpenSpec.ofChange subsOrderWrong)

/-- 'basculelaw13.SubsFinds': WHATEVER THE INPUT: true; the input reads as it did. -/
def subsFindsSpec : ChangeSpec := { name := "subsFinds", fn := fun _ => fun
  | [d1, d2] => { results := [.lit (.bool true)], args := [d1, d2] }
  | _ => none }
def subsFindsRow : OpenClaim := { program := "ytjibcekillcgjaadoor", sum := "56e5a6c664daf560f1e136a212b541ab326b4bb22b7dd1e9bebec04e120a324e", func := "bascule/basculelaw13.SubsFinds", spec := "subsFinds", inPlace := ["internal/bytealg.IndexByteString", "internal/bytealg.IndexString"], unfollowed := true, recurses := true, named := ["unicode/utf8.first", "unicode/utf8.acceptRanges", "internal/bytealg.MaxLen"], plainKeys := false, apart := false, laid := [("unicode/utf8.acceptRanges", laid_unicode_utf8_acceptRanges), ("unicode/utf8.first", laid_unicode_utf8_first)] }
def SubsFindsSaid : Prop := subsFindsRow.holds Tryd.pinned (OpenSpec.ofChange subsFindsSpec)

/-- ITS FALSE NEIGHBOUR: 'it returns false'. Refute it at one input. -/
def subsFindsWrong : ChangeSpec := { name := "subsFinds", fn := fun _ => fun
  | [d1, d2] => { results := [.lit (.bool false)], args := [d1, d2] }
  | _ => none }
def SubsFindsWrongFalsely : Prop := subsFindsRow.holds Tryd.pinned (OpenSpec.ofChange subsFindsWrong)

/-- 'basculelaw13.SubsNil': WHATEVER THE INPUT: true; the input reads as it did. -/
def subsNilSpec : ChangeSpec := { name := "subsNil", fn := fun _ => fun
  | [d1, d2, d3] => { results := [.lit (.bool true)], args := [d1, d2, d3] }
  | _ => none }
def subsNilRow : OpenClaim := { program := "ytjibcekillcgjaadoor", sum := "56e5a6c664daf560f1e136a212b541ab326b4bb22b7dd1e9bebec04e120a324e", func := "bascule/basculelaw13.SubsNil", spec := "subsNil", inPlace := ["internal/bytealg.IndexByteString", "internal/bytealg.IndexString"], unfollowed := true, recurses := true, named := ["unicode/utf8.first", "unicode/utf8.acceptRanges", "internal/bytealg.MaxLen"], plainKeys := false, apart := false, laid := [("unicode/utf8.acceptRanges", laid_unicode_utf8_acceptRanges), ("unicode/utf8.first", laid_unicode_utf8_first)] }
def SubsNilSaid : Prop := subsNilRow.holds Tryd.pinned (OpenSpec.ofChange subsNilSpec)

/-- ITS FALSE NEIGHBOUR: 'it returns false'. Refute it at one input. -/
def subsNilWrong : ChangeSpec := { name := "subsNil", fn := fun _ => fun
  | [d1, d2, d3] => { results := [.lit (.bool false)], args := [d1, d2, d3] }
  | _ => none }
def SubsNilWrongFalsely : Prop := subsNilRow.holds Tryd.pinned (OpenSpec.ofChange subsNilWrong)

/- THE SECOND FORM. 'bulk': how many values and letters a reading holds, each counted each time it is reached (what is shared counts as often as it is met; a slice's spare places count too). A statement '..UptoSaid' is the law's where the arguments, and the package variables that the reading takes, are together of bulk at most 1048576: NARROWER than '..Said'. Prove '..Said' where nothing that the law and all that it calls make is longer than what came in: it says more and counts as full. Else prove '..UptoSaid'. A law counts once. -/
mutual
def uptoBulk {H : Type} : DataW H → Nat
  | .lit (.string bytes) => bytes.length + 1
  | .lit _ => 1
  | .nil => 1
  | .ptr d => uptoBulk d + 1
  | .slice elems spare => uptoBulkAll elems + uptoBulkAll spare + 1
  | .agg parts => uptoBulkAll parts + 1
  | .iface _ d => uptoBulk d + 1
  | .map entries => uptoBulkEntries entries + 1
  | .held _ => 1
def uptoBulkAll {H : Type} : List (DataW H) → Nat
  | [] => 0
  | d :: r => uptoBulk d + uptoBulkAll r
def uptoBulkEntries {H : Type} : List (Lit × DataW H) → Nat
  | [] => 0
  | x :: r => uptoBulkEntry x + uptoBulkEntries r
def uptoBulkEntry {H : Type} : Lit × DataW H → Nat
  | (.string bytes, d) => bytes.length + uptoBulk d + 1
  | (_, d) => uptoBulk d + 1
 end
def uptoSmall : (H : Type) → List (DataW H) → Bool := fun _ ds => decide (uptoBulkAll ds ≤ 1048576)
def OpenSpec.upto (s : _root_.Go.ChangeSpec) : _root_.Go.OpenSpec := { _root_.Go.OpenSpec.ofChange s with cond := some uptoSmall }

/-- 'basculelaw13.SubsAgain', WHERE WHAT IT READS IS OF BULK AT MOST 1048576: true; the input reads as it did. -/
def subsAgainUptoRow : OpenClaim := { program := "ytjibcekillcgjaadoor", sum := "56e5a6c664daf560f1e136a212b541ab326b4bb22b7dd1e9bebec04e120a324e", func := "bascule/basculelaw13.SubsAgain", spec := "subsAgain", inPlace := ["internal/bytealg.IndexByteString", "internal/bytealg.IndexString"], unfollowed := true, recurses := true, named := ["unicode/utf8.first", "unicode/utf8.acceptRanges", "internal/bytealg.MaxLen"], plainKeys := false, apart := false, laid := [("unicode/utf8.acceptRanges", laid_unicode_utf8_acceptRanges), ("unicode/utf8.first", laid_unicode_utf8_first)], narrowed := true }
def SubsAgainUptoSaid : Prop := subsAgainUptoRow.holds Tryd.pinned (OpenSpec.upto subsAgainSpec)

/-- 'basculelaw13.SubsOrder', WHERE WHAT IT READS IS OF BULK AT MOST 1048576: true; the input reads as it did. -/
def subsOrderUptoRow : OpenClaim := { program := "ytjibcekillcgjaadoor", sum := "56e5a6c664daf560f1e136a212b541ab326b4bb22b7dd1e9bebec04e120a324e", func := "bascule/basculelaw13.SubsOrder", spec := "subsOrder", inPlace := ["internal/bytealg.IndexByteString", "internal/bytealg.IndexString"], unfollowed := true, recurses := true, named := ["unicode/utf8.first", "unicode/utf8.acceptRanges", "internal/bytealg.MaxLen"], plainKeys := false, apart := false, laid := [("unicode/utf8.acceptRanges", laid_unicode_utf8_acceptRanges), ("unicode/utf8.first", laid_unicode_utf8_first)], narrowed := true }
def SubsOrderUptoSaid : Prop := subsOrderUptoRow.holds Tryd.pinned (OpenSpec.upto subsOrderSpec)

/-- 'basculelaw13.SubsFinds', WHERE WHAT IT READS IS OF BULK AT MOST 1048576: true; the input reads as it did. -/
def subsFindsUptoRow : OpenClaim := { program := "ytjibcekillcgjaadoor", sum := "56e5a6c664daf560f1e136a212b541ab326b4bb22b7dd1e9bebec04e120a324e", func := "bascule/basculelaw13.SubsFinds", spec := "subsFinds", inPlace := ["internal/bytealg.IndexByteString", "internal/bytealg.IndexString"], unfollowed := true, recurses := true, named := ["unicode/utf8.first", "unicode/utf8.acceptRanges", "internal/bytealg.MaxLen"], plainKeys := false, apart := false, laid := [("unicode/utf8.acceptRanges", laid_unicode_utf8_acceptRanges), ("unicode/utf8.first", laid_unicode_utf8_first)], narrowed := true }
def SubsFindsUptoSaid : Prop := subsFindsUptoRow.holds Tryd.pinned (OpenSpec.upto subsFindsSpec)

/-- 'basculelaw13.SubsNil', WHERE WHAT IT READS IS OF BULK AT MOST 1048576: true; the input reads as it did. -/
def subsNilUptoRow : OpenClaim := { program := "ytjibcekillcgjaadoor", sum := "56e5a6c664daf560f1e136a212b541ab326b4bb22b7dd1e9bebec04e120a324e", func := "bascule/basculelaw13.SubsNil", spec := "subsNil", inPlace := ["internal/bytealg.IndexByteString", "internal/bytealg.IndexString"], unfollowed := true, recurses := true, named := ["unicode/utf8.first", "unicode/utf8.acceptRanges", "internal/bytealg.MaxLen"], plainKeys := false, apart := false, laid := [("unicode/utf8.acceptRanges", laid_unicode_utf8_acceptRanges), ("unicode/utf8.first", laid_unicode_utf8_first)], narrowed := true }
def SubsNilUptoSaid : Prop := subsNilUptoRow.holds Tryd.pinned (OpenSpec.upto subsNilSpec)

end Rows
end Go.Proofs.YtjibcekillcgjaaDoor
