/- What the proof of SubsAgain leans on: SbG. -/
import Derived.Test.YtjibcekillcgjaaDoorSSubsAgainSbF
set_option linter.unusedVariables false
set_option linter.unusedSimpArgs false
namespace Go.Proofs.YtjibcekillcgjaaDoor.Sb
open Go Go.RowKit Go.ChangeMaps Go.MapKept Go.Proofs.YtjibcekillcgjaaDoorW.PrintWords Go.Proofs.YtjibcekillcgjaaDoor.Q Go.Proofs.YtjibcekillcgjaaDoor.Mp Go.Proofs.YtjibcekillcgjaaDoor.Top Go.Proofs.YtjibcekillcgjaaDoor.Fm
theorem of_len (es : List Ent) (c : ByteArray) : (ofF es c).length ≤ es.length := by
  unfold ofF
  rw [List.length_map]
  exact List.length_filter_le _ _
end Go.Proofs.YtjibcekillcgjaaDoor.Sb
