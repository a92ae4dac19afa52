/-
  NARROWER THAN 'FOR EVERY INPUT', by the rows' own cells (each row's printed sentence says how): RetainLast: laid · RetainFinds: laid · RetainFew: laid · RetainKeeps: laid.
  DERIVED. THE GIVEN ROWS OF THIS SEAT. 4 by the template 'for every input the law returns true; each argument reads behind the call as it read before'; 0 by the template 'total and deterministic' (their statements: YtdchcdagjnaicaaDoorTotals.lean).
  GIVEN WITH THE SEED: the statements are not yours to turn. If you find one false, say at which input.
  Laid BY PROGRAM, IN A SANDBOX (cutbox-rows.mjs): the forced cells as the released guide's own fill.sh prints them over the translation 39a3d52eaf688613… (all of the seat's roots in one cut). By AI agents, Wed Nov 11 2026. No macro, syntax, notation, axiom, sorry.
-/
import Derived.Test.YtdchcdagjnaicaaDoorChecked
import GoSem.PinnedTables
import GoSem.Claim
import GoSem.ClaimJoined
import GoSem.ClaimMapViews
import Derived.JoinedTies
import Derived.KernelRfl
namespace Go.Proofs.YtdchcdagjnaicaaDoor
/- THE CELL 'sum', in the pinned program and in every row, IS THE sha256 OF THE DUMP (.gsa) THAT YtdchcdagjnaicaaDoorProg.lean LOADS. Nothing in Lean hashes anything: it is a label: what it is worth is what the hold of that sum in a sandbox is worth. -/
noncomputable def Tryd.pinned : Pinned := { name := "ytdchcdagjnaicaadoor", sum := "39a3d52eaf688613e51ad762353a056fc21696ba5b17f33c10049a287df986fe", checked := Tryd.checked }
namespace Rows
def none {H : Type} : Left H := { results := [], args := [] }

/- WHAT THE LISTED PACKAGE-LEVEL VARIABLES READ AS WHEN THE CALL BEGINS. Each datum BY PROGRAM (the guide's laid-datum.mjs) off the statement by which the dump's own 'gosem.cut.vars' lays the variable. In a bare row this is a premise. The card (YtdchcdagjnaicaaDoorCards.lean) ties it to the program's text. -/
def laid_unicode_utf8_acceptRanges {H : Type} : DataW H := .agg [.agg [.lit (.int .u8 128), .lit (.int .u8 191)], .agg [.lit (.int .u8 160), .lit (.int .u8 191)], .agg [.lit (.int .u8 128), .lit (.int .u8 159)], .agg [.lit (.int .u8 144), .lit (.int .u8 191)], .agg [.lit (.int .u8 128), .lit (.int .u8 143)], .agg [.lit (.int .u8 0), .lit (.int .u8 0)], .agg [.lit (.int .u8 0), .lit (.int .u8 0)], .agg [.lit (.int .u8 0), .lit (.int .u8 0)], .agg [.lit (.int .u8 0), .lit (.int .u8 0)], .agg [.lit (.int .u8 0), .lit (.int .u8 0)], .agg [.lit (.int .u8 0), .lit (.int .u8 0)], .agg [.lit (.int .u8 0), .lit (.int .u8 0)], .agg [.lit (.int .u8 0), .lit (.int .u8 0)], .agg [.lit (.int .u8 0), .lit (.int .u8 0)], .agg [.lit (.int .u8 0), .lit (.int .u8 0)], .agg [.lit (.int .u8 0), .lit (.int .u8 0)]]
/-- One of Go's own tables, pinned by name: the form's constant. -/
def laid_unicode_utf8_first : DataW Unit := Go.Pinned.utf8First

/-- 'basculelaw14.RetainLast': WHATEVER THE INPUT: true; the input reads as it did. -/
def retainLastSpec : ChangeSpec := { name := "retainLast", fn := fun _ => fun
  | [d1, d2] => { results := [.lit (.bool true)], args := [d1, d2] }
  | _ => none }
def retainLastRow : OpenClaim := { program := "ytdchcdagjnaicaadoor", sum := "39a3d52eaf688613e51ad762353a056fc21696ba5b17f33c10049a287df986fe", func := "bascule/basculelaw14.RetainLast", spec := "retainLast", inPlace := ["internal/bytealg.IndexByteString", "internal/bytealg.IndexString"], unfollowed := true, recurses := true, named := ["unicode/utf8.first", "unicode/utf8.acceptRanges", "internal/bytealg.MaxLen"], apart := false, laid := [("unicode/utf8.acceptRanges", laid_unicode_utf8_acceptRanges), ("unicode/utf8.first", laid_unicode_utf8_first)] }
def RetainLastSaid : Prop := retainLastRow.holds Tryd.pinned (OpenSpec.ofChange retainLastSpec)

/-- ITS FALSE NEIGHBOUR: 'it returns false'. Refute it at one input. -/
def retainLastWrong : ChangeSpec := { name := "retainLast", fn := fun _ => fun
  | [d1, d2] => { results := [.lit (.bool false)], args := [d1, d2] }
  | _ => none }
def RetainLastWrongFalsely : Prop := retainLastRow.holds Tryd.pinned (OpenSpec.ofChange retainLastWrong)

/-- 'basculelaw14.RetainFinds': WHATEVER THE INPUT: true; the input reads as it did. -/
def retainFindsSpec : ChangeSpec := { name := "retainFinds", fn := fun _ => fun
  | [d1, d2] => { results := [.lit (.bool true)], args := [d1, d2] }
  | _ => none }
def retainFindsRow : OpenClaim := { program := "ytdchcdagjnaicaadoor", sum := "39a3d52eaf688613e51ad762353a056fc21696ba5b17f33c10049a287df986fe", func := "bascule/basculelaw14.RetainFinds", spec := "retainFinds", inPlace := ["internal/bytealg.IndexByteString", "internal/bytealg.IndexString"], unfollowed := true, recurses := true, named := ["unicode/utf8.first", "unicode/utf8.acceptRanges", "internal/bytealg.MaxLen"], apart := false, laid := [("unicode/utf8.acceptRanges", laid_unicode_utf8_acceptRanges), ("unicode/utf8.first", laid_unicode_utf8_first)] }
def RetainFindsSaid : Prop := retainFindsRow.holds Tryd.pinned (OpenSpec.ofChange retainFindsSpec)

/-- ITS FALSE NEIGHBOUR: 'it returns false'. Refute it at one input. -/
def retainFindsWrong : ChangeSpec := { name := "retainFinds", fn := fun _ => fun
  | [d1, d2] => { results := [.lit (.bool false)], args := [d1, d2] }
  | _ => none }
def RetainFindsWrongFalsely : Prop := retainFindsRow.holds Tryd.pinned (OpenSpec.ofChange retainFindsWrong)

/-- 'basculelaw14.RetainFew': WHATEVER THE INPUT: true; the input reads as it did. -/
def retainFewSpec : ChangeSpec := { name := "retainFew", fn := fun _ => fun
  | [d] => { results := [.lit (.bool true)], args := [d] }
  | _ => none }
def retainFewRow : OpenClaim := { program := "ytdchcdagjnaicaadoor", sum := "39a3d52eaf688613e51ad762353a056fc21696ba5b17f33c10049a287df986fe", func := "bascule/basculelaw14.RetainFew", spec := "retainFew", inPlace := ["internal/bytealg.IndexByteString", "internal/bytealg.IndexString"], unfollowed := true, recurses := true, named := ["unicode/utf8.first", "unicode/utf8.acceptRanges", "internal/bytealg.MaxLen"], apart := false, laid := [("unicode/utf8.acceptRanges", laid_unicode_utf8_acceptRanges), ("unicode/utf8.first", laid_unicode_utf8_first)] }
def RetainFewSaid : Prop := retainFewRow.holds Tryd.pinned (OpenSpec.ofChange retainFewSpec)

/-- ITS FALSE NEIGHBOUR: 'it returns false'. Refute it at one input. -/
def retainFewWrong : ChangeSpec := { name := "retainFew", fn := fun _ => fun
  | [d] => { results := [.lit (.bool false)], args := [d] }
  | _ => none }
def RetainFewWrongFalsely : Prop := retainFewRow.holds Tryd.pinned (OpenSpec.ofChange retainFewWrong)

/-- 'basculelaw14.RetainKeeps': WHATEVER THE INPUT: true; the input reads as it did. -/
def retainKeepsSpec : ChangeSpec := { name := "retainKeeps", fn := fun _ => fun
  | [d1, d2] => { results := [.lit (.bool true)], args := [d1, d2] }
  | _ => none }
def retainKeepsRow : OpenClaim := { program := "ytdchcdagjnaicaadoor", sum := "39a3d52eaf688613e51ad762353a056fc21696ba5b17f33c10049a287df986fe", func := "bascule/basculelaw14.RetainKeeps", spec := "retainKeeps", inPlace := ["internal/bytealg.IndexByteString", "internal/bytealg.IndexString"], unfollowed := true, recurses := true, named := ["unicode/utf8.first", "unicode/utf8.acceptRanges", "internal/bytealg.MaxLen"], apart := false, laid := [("unicode/utf8.acceptRanges", laid_unicode_utf8_acceptRanges), ("unicode/utf8.first", laid_unicode_utf8_first)] }
def RetainKeepsSaid : Prop := retainKeepsRow.holds Tryd.pinned (OpenSpec.ofChange retainKeepsSpec)

/-- ITS FALSE NEIGHBOUR: 'it returns false'. Refute it at one input. -/
def retainKeepsWrong : ChangeSpec := { name := "retainKeeps", fn := fun _ => fun
  | [d1, d2] => { results := [.lit (.bool false)], args := [d1, d2] }
  | _ => none }
def RetainKeepsWrongFalsely : Prop := retainKeepsRow.holds Tryd.pinned (OpenSpec.ofChange retainKeepsWrong)

/- THE SECOND FORM. 'bulk': how many values and letters a reading holds, each counted each time it is reached (what is shared counts as often as it is met; a slice's spare places count too). A statement '..UptoSaid' is the law's where the arguments, and the package variables that the reading takes, are together of bulk at most 1048576: NARROWER than '..Said'. Prove '..Said' where nothing that the law and all that it calls make is longer than what came in: it says more and counts as full. Else prove '..UptoSaid'. A law counts once. -/
mutual
def uptoBulk {H : Type} : DataW H → Nat
  | .lit (.string bytes) => bytes.length + 1
  | .lit _ => 1
  | .nil => 1
  | .ptr d => uptoBulk d + 1
  | .slice elems spare => uptoBulkAll elems + uptoBulkAll spare + 1
  | .agg parts => uptoBulkAll parts + 1
  | .iface _ d => uptoBulk d + 1
  | .map entries => uptoBulkEntries entries + 1
  | .held _ => 1
def uptoBulkAll {H : Type} : List (DataW H) → Nat
  | [] => 0
  | d :: r => uptoBulk d + uptoBulkAll r
def uptoBulkEntries {H : Type} : List (Lit × DataW H) → Nat
  | [] => 0
  | x :: r => uptoBulkEntry x + uptoBulkEntries r
def uptoBulkEntry {H : Type} : Lit × DataW H → Nat
  | (.string bytes, d) => bytes.length + uptoBulk d + 1
  | (_, d) => uptoBulk d + 1
 end
def uptoSmall : (H : Type) → List (DataW H) → Bool := fun _ ds => decide (uptoBulkAll ds ≤ 1048576)
def OpenSpec.upto (s : _root_.Go.ChangeSpec) : _root_.Go.OpenSpec := { _root_.Go.OpenSpec.ofChange s with cond := some uptoSmall }

/-- 'basculelaw14.RetainLast', WHERE WHAT IT READS IS OF BULK AT MOST 1048576: true; the input reads as it did. -/
def retainLastUptoRow : OpenClaim := { program := "ytdchcdagjnaicaadoor", sum := "39a3d52eaf688613e51ad762353a056fc21696ba5b17f33c10049a287df986fe", func := "bascule/basculelaw14.RetainLast", spec := "retainLast", inPlace := ["internal/bytealg.IndexByteString", "internal/bytealg.IndexString"], unfollowed := true, recurses := true, named := ["unicode/utf8.first", "unicode/utf8.acceptRanges", "internal/bytealg.MaxLen"], apart := false, laid := [("unicode/utf8.acceptRanges", laid_unicode_utf8_acceptRanges), ("unicode/utf8.first", laid_unicode_utf8_first)], narrowed := true }
def RetainLastUptoSaid : Prop := retainLastUptoRow.holds Tryd.pinned (OpenSpec.upto retainLastSpec)

/-- 'basculelaw14.RetainFinds', WHERE WHAT IT READS IS OF BULK AT MOST 1048576: true; the input reads as it did. -/
def retainFindsUptoRow : OpenClaim := { program := "ytdchcdagjnaicaadoor", sum := "39a3d52eaf688613e51ad762353a056fc21696ba5b17f33c10049a287df986fe", func := "bascule/basculelaw14.RetainFinds", spec := "retainFinds", inPlace := ["internal/bytealg.IndexByteString", "internal/bytealg.IndexString"], unfollowed := true, recurses := true, named := ["unicode/utf8.first", "unicode/utf8.acceptRanges", "internal/bytealg.MaxLen"], apart := false, laid := [("unicode/utf8.acceptRanges", laid_unicode_utf8_acceptRanges), ("unicode/utf8.first", laid_unicode_utf8_first)], narrowed := true }
def RetainFindsUptoSaid : Prop := retainFindsUptoRow.holds Tryd.pinned (OpenSpec.upto retainFindsSpec)

/-- 'basculelaw14.RetainFew', WHERE WHAT IT READS IS OF BULK AT MOST 1048576: true; the input reads as it did. -/
def retainFewUptoRow : OpenClaim := { program := "ytdchcdagjnaicaadoor", sum := "39a3d52eaf688613e51ad762353a056fc21696ba5b17f33c10049a287df986fe", func := "bascule/basculelaw14.RetainFew", spec := "retainFew", inPlace := ["internal/bytealg.IndexByteString", "internal/bytealg.IndexString"], unfollowed := true, recurses := true, named := ["unicode/utf8.first", "unicode/utf8.acceptRanges", "internal/bytealg.MaxLen"], apart := false, laid := [("unicode/utf8.acceptRanges", laid_unicode_utf8_acceptRanges), ("unicode/utf8.first", laid_unicode_utf8_first)], narrowed := true }
def RetainFewUptoSaid : Prop := retainFewUptoRow.holds Tryd.pinned (OpenSpec.upto retainFewSpec)

/-- 'basculelaw14.RetainKeeps', WHERE WHAT IT READS IS OF BULK AT MOST 1048576: true; the input reads as it did. -/
def retainKeepsUptoRow : OpenClaim := { program := "ytdchcdagjnaicaadoor", sum := "39a3d52eaf688613e51ad762353a056fc21696ba5b17f33c10049a287df986fe", func := "bascule/basculelaw14.RetainKeeps", spec := "retainKeeps", inPlace := ["internal/bytealg.IndexByteString", "internal/bytealg.IndexString"], unfollowed := true, recurses := true, named := ["unicode/utf8.first", "unicode/utf8.acceptRanges", "internal/bytealg.MaxLen"], apart := false, laid := [("unicode/utf8.acceptRanges", laid_unicode_utf8_acceptRanges), ("unicode/utf8.first", laid_unicode_utf8_first)], narrowed := true }
def RetainKeepsUptoSaid : Prop := retainKeepsUptoRow.holds Tryd.pinned (OpenSpec.upto retainKeepsSpec)

end Rows
end Go.Proofs.YtdchcdagjnaicaaDoor
