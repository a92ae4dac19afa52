/- What the proof of TableFind leans on: ValA. -/
import Derived.Test.YtbfhiiokajbdhaaGreatDoorSTableFindTopB
import Derived.Test.YtbfhiiokajbdhaaGreatDoorSTableFindWWords
import Derived.Shelf.Strings.SlTrimAscii
import Derived.Lib.ItoaMem
import Derived.OwnWalk
import Derived.Lib.Walk
import Derived.Lib.SliceRun
import Derived.WalkKit
import Derived.Deep.LoopGhost
set_option linter.unusedVariables false
set_option linter.unusedSimpArgs false
namespace Go.Proofs.YtbfhiiokajbdhaaGreatDoor.Val
open Go.RowKit Go.Shelf Go.Proofs.YtbfhiiokajbdhaaGreatDoorW.PrintWords
structure Laid (w : World) : Prop where
  top : Top.Laid w
  pow : Lib.TabIs Tryz.prog w "internal/strconv.uint64pow10" .u64 Lib.pow10Tab
  db : w.cell? ⟨7, 15, none⟩ = some (.int .u8 4)
  es : ∃ t p, w.var? Tryz.prog "strconv.ErrSyntax" = some #[.iface t p]
  er : ∃ t p, w.var? Tryz.prog "strconv.ErrRange" = some #[.iface t p]
theorem var_below {n : String} {g : Nat} {v : Array Value} {w w' : World} (hg : Tryz.prog.globalNamed n = some g) (h : w.var? Tryz.prog n = some v) (hb : Below w.heap.size w w') : w'.var? Tryz.prog n = some v := by
  unfold World.var? at h ⊢
  rw [hg] at h ⊢
  simp only [Option.bind_some] at h ⊢
  have hlt : g < w.heap.size := by
    rcases Nat.lt_or_ge g w.heap.size with h' | h'
    · exact h'
    · rw [Array.getElem?_eq_none h'] at h; cases h
  rw [hb.block g hlt]
  exact h
theorem Laid.below {w w' : World} (h : Laid w) (hb : Below w.heap.size w w') : Laid w' where
  top := h.top.below hb
  pow := var_below (g := 5) (by kernel_rfl) h.pow hb
  db := Top.cell_below hb (Nat.le_refl _) h.db
  es := by obtain ⟨t, p, hv⟩ := h.es; exact ⟨t, p, var_below (g := 1) (by kernel_rfl) hv hb⟩
  er := by obtain ⟨t, p, hv⟩ := h.er; exact ⟨t, p, var_below (g := 2) (by kernel_rfl) hv hb⟩
theorem trim_calls (s cs : ByteArray) (w : World) (hs : s.size ≤ 9223372036854775807) (hcs : cs.size < 4294967281) (hc : ∀ (j : Nat) b, cs.data.toList[j]? = some b → b.toNat < 128) :
    Calls Tryz.prog 54 #[.string s, .string cs] w fun e w' => e = .returned (.string ⟨(Lib.trimS s.data.toList cs.data.toList).toArray⟩) ∧ Below w.heap.size w w' :=
  Any.strings_Trim_laid Tryz.lays160 (by kernel_rfl) s cs w hs hcs hc
end Go.Proofs.YtbfhiiokajbdhaaGreatDoor.Val
