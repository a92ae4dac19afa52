/- What the proof of SubsNil leans on: P0. -/
import Derived.Test.YtjibcekillcgjaaDoorSSubsNilWWords
import Derived.Test.YtjibcekillcgjaaDoorSSubsNilWMore
import Derived.Test.YtjibcekillcgjaaDoorSSubsNilTopG
set_option linter.unusedVariables false
set_option linter.unusedSimpArgs false
namespace Go.Proofs.YtjibcekillcgjaaDoor.Q
open Go.RowKit Go.Proofs.YtjibcekillcgjaaDoorW.PrintWords
theorem w64 {x : Int} (h0 : -9223372036854775808 ≤ x) (h1 : x ≤ 9223372036854775807) : wrap64 x = x := by unfold wrap64; omega
section
variable {α β : Type} {g f : Nat → Option α} {r : α}
end
end Go.Proofs.YtjibcekillcgjaaDoor.Q
