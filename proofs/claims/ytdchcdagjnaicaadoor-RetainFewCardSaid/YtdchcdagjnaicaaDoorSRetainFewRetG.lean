/- What the proof of RetainFew leans on: RetG. -/
import Derived.Test.YtdchcdagjnaicaaDoorSRetainFewRetF
set_option linter.unusedVariables false
set_option linter.unusedSimpArgs false
namespace Go.Proofs.YtdchcdagjnaicaaDoor.Rt
open Go Go.RowKit Go.ChangeMaps Go.MapKept Go.Proofs.YtdchcdagjnaicaaDoorW.PrintWords Go.Proofs.YtdchcdagjnaicaaDoor.Q Go.Proofs.YtdchcdagjnaicaaDoor.Mp Go.Proofs.YtdchcdagjnaicaaDoor.Top
theorem cells_some {w : World} {ad : Addr} {xs : List Msg} (h : Kd.C k27 w (some ad) xs.length xs) (i : Nat) (hi : i < xs.length) : w.cell? (ad.add (i * 4)) = some (.string (rd_T27 xs i).f0) ∧ w.cell? ⟨(ad.add (i * 4)).block, (ad.add (i * 4)).off + 1, none⟩ = some (.string (rd_T27 xs i).f1) ∧ w.cell? ⟨(ad.add (i * 4)).block, (ad.add (i * 4)).off + 2, none⟩ = some (.int .i64 (rd_T27 xs i).f2) ∧ w.cell? ⟨(ad.add (i * 4)).block, (ad.add (i * 4)).off + 3, none⟩ = some (.bool (rd_T27 xs i).f3) := by
  obtain ⟨ad', e, h⟩ := cells_any h i hi
  injection e with e
  subst e
  exact h
end Go.Proofs.YtdchcdagjnaicaaDoor.Rt
