/- What the proof of RetainKeeps leans on: RetG. -/
import Derived.Test.YtdchcdagjnaicaaDoorSRetainKeepsRetF
set_option linter.unusedVariables false
set_option linter.unusedSimpArgs false
namespace Go.Proofs.YtdchcdagjnaicaaDoor.Rt
open Go Go.RowKit Go.ChangeMaps Go.MapKept Go.Proofs.YtdchcdagjnaicaaDoorW.PrintWords Go.Proofs.YtdchcdagjnaicaaDoor.Q Go.Proofs.YtdchcdagjnaicaaDoor.Mp Go.Proofs.YtdchcdagjnaicaaDoor.Top
theorem cells_some {w : World} {ad : Addr} {xs : List Msg} (h : Kd.C k27 w (some ad) xs.length xs) (i : Nat) (hi : i < xs.length) : w.cell? (ad.add (i * 4)) = some (.string (rd_T27 xs i).f0) ∧ w.cell? ⟨(ad.add (i * 4)).block, (ad.add (i * 4)).off + 1, none⟩ = some (.string (rd_T27 xs i).f1) ∧ w.cell? ⟨(ad.add (i * 4)).block, (ad.add (i * 4)).off + 2, none⟩ = some (.int .i64 (rd_T27 xs i).f2) ∧ w.cell? ⟨(ad.add (i * 4)).block, (ad.add (i * 4)).off + 3, none⟩ = some (.bool (rd_T27 xs i).f3) := by
  obtain ⟨ad', e, h⟩ := cells_any h i hi
  injection e with e
  subst e
  exact h
theorem grown_set {A B : World} {g : Nat} (h : A.grownBy B (some g)) (j : Nat) (u : Value) : A.grownBy (B.setCell ⟨g, j, none⟩ u) (some g) := by
  have hs : (B.setCell ⟨g, j, none⟩ u).heap.size = B.heap.size := World.size_setCell _ _ _
  exact ⟨h.os, h.tape, h.output, by rw [hs]; exact h.size, fun b hb hr => (Below.heap_setCell B ⟨g, j, none⟩ u b (fun e => hr (by rw [e]))).trans (h.block b hb hr)⟩
end Go.Proofs.YtdchcdagjnaicaaDoor.Rt
