/- The laws of layer 12, plain: what they share. -/
import Derived.Test.YtlfigadjbnikiaaDoorPRef12
import Derived.Test.YtlfigadjbnikiaaDoorQx3
import Derived.Test.YtlfigadjbnikiaaDoorQx1
import Derived.Test.YtlfigadjbnikiaaDoorQx1
import Derived.Test.YtlfigadjbnikiaaDoorQx2
import Derived.Test.YtlfigadjbnikiaaDoorQx1
import Derived.KernelRfl
set_option linter.unusedSimpArgs false
namespace Go.Proofs.YtlfigadjbnikiaaDoor.Q
open Go.RowKit Go.Proofs.YtlfigadjbnikiaaDoorW.PrintWords
set_option linter.unusedVariables false
theorem awake_f : basculelaw12_awake.f = some true := by kernel_rfl
theorem mat_f (f n : ByteArray) : topic_Matches.f f n = some (Top.matchB f n, Top.matchE f n) := rfl
theorem nam_f (n : ByteArray) : topic_Name.f n = some (if Top.isName n then 0 else 120) := rfl
theorem fil_f (f : ByteArray) : topic_Filter.f f = some (if Top.isFilter f then 0 else 121) := rfl
theorem small_f (s : ByteArray) : basculelaw12_small.f s = some (decide ((s.size : Int) ≤ 500)) := rfl
end Go.Proofs.YtlfigadjbnikiaaDoor.Q
