/- What the proof of TableFind leans on: PTb. -/
import Derived.Test.YtbfhiiokajbdhaaGreatDoorSTableFindPMk
import Derived.Test.YtbfhiiokajbdhaaGreatDoorSTableFindPWd
import Derived.Test.YtbfhiiokajbdhaaGreatDoorSTableFindQx11
import Derived.Test.YtbfhiiokajbdhaaGreatDoorSTableFindQx12
set_option linter.unusedVariables false
set_option linter.unusedSimpArgs false
namespace Go.Proofs.YtbfhiiokajbdhaaGreatDoor.Fl
open Go.RowKit Go.Proofs.YtbfhiiokajbdhaaGreatDoor.Q Go.Proofs.YtbfhiiokajbdhaaGreatDoor.Val Go.Proofs.YtbfhiiokajbdhaaGreatDoorW.PrintWords
def goW : List (List ByteArray) → Nat → List S34 → List S34 × Int × Int
  | [], _, acc => (acc, 0, 0)
  | ws :: ls, i, acc =>
    if skipB ws then goW ls (i + 1) acc
    else match rowOf ws with
      | none => ([], (i : Int) + 1, 4)
      | some r => if nextE acc r.f0 r.f1 r.f2 r.f3 r.f4 r.f5 r.f6 r.f7 = 0 then goW ls (i + 1) (acc ++ [r]) else ([], (i : Int) + 1, nextE acc r.f0 r.f1 r.f2 r.f3 r.f4 r.f5 r.f6 r.f7)
theorem goP_goW : ∀ (ls : List ByteArray) (i : Nat) (acc : List S34), goP ls i acc = goW (ls.map wordsOf) i acc
  | [], _, _ => rfl
  | ln :: ls, i, acc => by
    rw [List.map_cons]
    unfold goP goW
    simp only [goP_goW ls]
    split
    · rfl
    · cases rowOf (wordsOf ln) <;> rfl
def wdsL (l : List UInt8) : List (List ByteArray) := (Wd.linesGo [] l).map fun x => (Wd.wordsGo [] x).map mk
theorem goP_plain (s : ByteArray) : goP (linesOf s) 0 [] = goW (wdsL s.data.toList) 0 [] := by
  rw [goP_goW, lines_mk, List.map_map]
  unfold wdsL
  have : (wordsOf ∘ mk) = fun x => (Wd.wordsGo [] x).map mk := by
    funext x
    show wordsOf (mk x) = _
    rw [words_mk, data_mk]
  rw [this]
theorem parse_R (s : ByteArray) : parseR s = (goW (wdsL s.data.toList) 0 []).1 := by unfold parseR; rw [goP_plain]
theorem parse_N (s : ByteArray) : parseN s = (goW (wdsL s.data.toList) 0 []).2.1 := by unfold parseN; rw [goP_plain]
theorem parse_E (s : ByteArray) : parseE s = (goW (wdsL s.data.toList) 0 []).2.2 := by unfold parseE; rw [goP_plain]
def tx1 : ByteArray := ⟨#[116, 97, 110, 107, 47, 108, 101, 118, 101, 108, 32, 51, 32, 51, 32, 49, 54, 32, 51, 32, 49, 32, 53, 32, 114]⟩
def tx2 : ByteArray := ⟨#[97, 32, 49, 32, 49, 32, 48, 32, 49, 32, 48, 32, 48, 32, 114, 10, 97, 32, 49, 32, 49, 32, 48, 32, 49, 32, 48, 32, 48, 32, 114, 10]⟩
def tx3 : ByteArray := ⟨#[97, 32, 49]⟩
theorem aw1 : (goW (wdsL tx1.data.toList) 0 []).1.length = 1 := by decide +kernel
theorem aw2 : (goW (wdsL tx1.data.toList) 0 []).2.1 = 0 := by decide +kernel
theorem aw3 : (goW (wdsL tx1.data.toList) 0 []).2.2 = 0 := by decide +kernel
theorem aw4 : (rd_T34 (goW (wdsL tx1.data.toList) 0 []).1 0).f3 = 16 := by decide +kernel
theorem aw5 : (rd_T34 (goW (wdsL tx1.data.toList) 0 []).1 0).f6 = 5 := by decide +kernel
theorem aw6 : (goW (wdsL tx2.data.toList) 0 []).2.1 = 2 := by decide +kernel
theorem aw7 : (goW (wdsL tx2.data.toList) 0 []).2.2 = 210 := by decide +kernel
theorem aw8 : (goW (wdsL tx3.data.toList) 0 []).2.1 = 1 := by decide +kernel
theorem aw9 : (goW (wdsL tx3.data.toList) 0 []).2.2 = 4 := by decide +kernel
theorem pf (s : ByteArray) (h : s.size ≤ 1000000) : table_Parse.f s = some ((goW (wdsL s.data.toList) 0 []).1, (goW (wdsL s.data.toList) 0 []).2.1, (goW (wdsL s.data.toList) 0 []).2.2) := by
  unfold table_Parse.f
  rw [if_pos h, parse_R, parse_N, parse_E]
theorem awake_true : basculelaw21_awake.f = some true := by
  unfold basculelaw21_awake.f
  rw [show (⟨#[116, 97, 110, 107, 47, 108, 101, 118, 101, 108, 32, 51, 32, 51, 32, 49, 54, 32, 51, 32, 49, 32, 53, 32, 114]⟩ : ByteArray) = tx1 from rfl, show (⟨#[97, 32, 49, 32, 49, 32, 48, 32, 49, 32, 48, 32, 48, 32, 114, 10, 97, 32, 49, 32, 49, 32, 48, 32, 49, 32, 48, 32, 48, 32, 114, 10]⟩ : ByteArray) = tx2 from rfl, show (⟨#[97, 32, 49]⟩ : ByteArray) = tx3 from rfl]
  rw [pf tx1 (by decide), pf tx2 (by decide), pf tx3 (by decide)]
  simp only [Option.bind_some, aw1, aw2, aw3, aw4, aw5, aw6, aw7, aw8, aw9]
  rfl
end Go.Proofs.YtbfhiiokajbdhaaGreatDoor.Fl
