/- The laws of layer 12, plain: what they share. -/
import Derived.Test.YtlfigadjbnikiaaDoorPLv
import Derived.Test.YtlfigadjbnikiaaDoorQx3
import Derived.Test.YtlfigadjbnikiaaDoorQx3
import Derived.Test.YtlfigadjbnikiaaDoorQx1
import Derived.Test.YtlfigadjbnikiaaDoorQx1
import Derived.Test.YtlfigadjbnikiaaDoorQx2
import Derived.Test.YtlfigadjbnikiaaDoorQx1
import Derived.KernelRfl
set_option linter.unusedSimpArgs false
namespace Go.Proofs.YtlfigadjbnikiaaDoor.Q
open Go.RowKit Go.Proofs.YtlfigadjbnikiaaDoorW.PrintWords
set_option linter.unusedVariables false
theorem awake_f : basculelaw12_awake.f = some true := by kernel_rfl
theorem mat_f (f n : ByteArray) : topic_Matches.f f n = some (Top.matchB f n, Top.matchE f n) := rfl
theorem nam_f (n : ByteArray) : topic_Name.f n = some (if Top.isName n then 0 else 120) := rfl
theorem fil_f (f : ByteArray) : topic_Filter.f f = some (if Top.isFilter f then 0 else 121) := rfl
/-- What is told of a filter and a name. -/
def tk (f n : ByteArray) : Bool := Top.isFilter f && (Top.isName n && Top.takesF f.data.toList n.data.toList)
theorem takes_f (f n : ByteArray) : basculelaw12_takes.f f n = some (tk f n) := by
  show (some (Top.matchB f n, Top.matchE f n)).bind (fun bt143 => if bt143.1 = true then some (bt143.2 == 0) else some false) = _
  show (if Top.matchB f n = true then some (Top.matchE f n == 0) else some false) = _
  unfold tk Top.matchE Top.matchB
  cases Top.isFilter f <;> cases Top.isName n <;> cases Top.takesF f.data.toList n.data.toList <;> rfl
theorem tk_of (f n : ByteArray) (F N : List UInt8) (ef : f.data.toList = F) (en : n.data.toList = N) (hf : FiltL F) (hn : NameL N) : tk f n = Top.takesF F N := by
  subst ef en
  unfold tk
  rw [(filt_iff f).2 hf, (name_iff n).2 hn]; rfl
theorem small_f (s : ByteArray) : basculelaw12_small.f s = some (decide ((s.size : Int) ≤ 500)) := rfl
end Go.Proofs.YtlfigadjbnikiaaDoor.Q
