/- What the proof of RetainFinds leans on: RetH. -/
import Derived.Test.YtdchcdagjnaicaaDoorSRetainFindsRetG
import Derived.Test.YtdchcdagjnaicaaDoorSRetainFindsPRef12
import Derived.Test.YtdchcdagjnaicaaDoorSRetainFindsQx4
set_option linter.unusedVariables false
set_option linter.unusedSimpArgs false
namespace Go.Proofs.YtdchcdagjnaicaaDoor.Rt
open Go Go.RowKit Go.ChangeMaps Go.MapKept Go.Proofs.YtdchcdagjnaicaaDoorW.PrintWords Go.Proofs.YtdchcdagjnaicaaDoor.Q Go.Proofs.YtdchcdagjnaicaaDoor.Mp Go.Proofs.YtdchcdagjnaicaaDoor.Top
theorem putS_len : ∀ (st : List Msg) (m : Msg), (putS tpc st m).length ≤ st.length + 1
  | [], m => by simp [putS]
  | x :: r, m => by
    unfold putS
    split
    · simp
    · split
      · simp
      · have := putS_len r m
        simp only [List.length_cons]
        omega
theorem putF_len (st : List Msg) (m : Msg) : (putF st m).length ≤ st.length + 1 := by
  unfold putF delS
  split
  · split
    · exact Nat.le_succ_of_le (List.length_filter_le _ _)
    · exact putS_len st m
  · omega
def keepB (m : Msg) : Bool := putB m && !m.f1.toList.isEmpty
def Good (st : List Msg) : Prop := ∀ m ∈ st, keepB m = true
theorem Good.put {st : List Msg} (hs : Srt tpc st) (h : Good st) (m : Msg) : Good (putF st m) := by
  intro x hx
  unfold putF at hx
  cases hp : putB m
  · rw [hp] at hx
    exact h x hx
  · rw [hp, if_pos rfl] at hx
    cases he : m.f1.toList.isEmpty
    · rw [he, if_neg (by decide)] at hx
      rcases (mem_putS hs).1 hx with rfl | hx
      · unfold keepB
        rw [hp, he]
        rfl
      · exact h x hx.1
    · rw [he, if_pos rfl] at hx
      exact h x (mem_delS.1 hx).1
theorem keep_name {m : Msg} (h : keepB m = true) : isName m.f0 = true ∧ m.f3 = true ∧ m.f1.toList.isEmpty = false := by
  unfold keepB putB at h
  simp only [Bool.and_eq_true, Bool.not_eq_true'] at h
  exact ⟨h.1.1, h.1.2.2, h.2⟩
end Go.Proofs.YtdchcdagjnaicaaDoor.Rt
