/- What the proof of SubsNil leans on: SbD. -/
import Derived.Test.YtjibcekillcgjaaDoorSSubsNilSbC
import Derived.Shelf.SlSortCmp.WholeK
set_option linter.unusedVariables false
set_option linter.unusedSimpArgs false
namespace Go.Proofs.YtjibcekillcgjaaDoor.Sb
open Go Go.RowKit Go.ChangeMaps Go.MapKept Go.Proofs.YtjibcekillcgjaaDoorW.PrintWords Go.Proofs.YtjibcekillcgjaaDoor.Q Go.Proofs.YtjibcekillcgjaaDoor.Mp Go.Proofs.YtjibcekillcgjaaDoor.Top Go.Proofs.YtjibcekillcgjaaDoor.Fm
open Go.Sort (grow SWO)
abbrev KeyS := {k : Key // okK k}
def zK : KeyS := ⟨(⟨#[]⟩, ⟨#[]⟩), by unfold okK maxLen; decide⟩
instance : Inhabited KeyS := ⟨zK⟩
end Go.Proofs.YtjibcekillcgjaaDoor.Sb
