/- What the proof of TableFind leans on: PMk. -/
import Derived.Test.YtbfhiiokajbdhaaGreatDoorSTableFindParse
import Derived.Test.YtbfhiiokajbdhaaGreatDoorSTableFindPWd
set_option linter.unusedVariables false
set_option linter.unusedSimpArgs false
namespace Go.Proofs.YtbfhiiokajbdhaaGreatDoor.Fl
open Go.RowKit Go.Proofs.YtbfhiiokajbdhaaGreatDoor.Q Go.Proofs.YtbfhiiokajbdhaaGreatDoor.Val Go.Proofs.YtbfhiiokajbdhaaGreatDoorW.PrintWords
def mk (l : List UInt8) : ByteArray := ⟨l.toArray⟩
theorem mk_data (s : ByteArray) : mk s.data.toList = s := by
  apply ByteArray.ext
  simp [mk]
theorem data_mk (l : List UInt8) : (mk l).data.toList = l := by simp [mk]
theorem map_mk {L : List ByteArray} {M : List (List UInt8)} (h : L.map (·.data.toList) = M) : L = M.map mk := by
  rw [← h, List.map_map]
  have : (mk ∘ fun x : ByteArray => x.data.toList) = id := funext mk_data
  rw [this, List.map_id]
theorem lines_mk (s : ByteArray) : linesOf s = (Wd.linesGo [] s.data.toList).map mk := map_mk (Wd.lines_plain s)
theorem words_mk (s : ByteArray) : wordsOf s = (Wd.wordsGo [] s.data.toList).map mk := map_mk (Wd.words_plain s)
end Go.Proofs.YtbfhiiokajbdhaaGreatDoor.Fl
