/- What the proof of RetainKeeps leans on: RetH. -/
import Derived.Test.YtdchcdagjnaicaaDoorSRetainKeepsRetG
import Derived.Test.YtdchcdagjnaicaaDoorSRetainKeepsPRef12
import Derived.Test.YtdchcdagjnaicaaDoorSRetainKeepsQx4
set_option linter.unusedVariables false
set_option linter.unusedSimpArgs false
namespace Go.Proofs.YtdchcdagjnaicaaDoor.Rt
open Go Go.RowKit Go.ChangeMaps Go.MapKept Go.Proofs.YtdchcdagjnaicaaDoorW.PrintWords Go.Proofs.YtdchcdagjnaicaaDoor.Q Go.Proofs.YtdchcdagjnaicaaDoor.Mp Go.Proofs.YtdchcdagjnaicaaDoor.Top
theorem putS_len : ∀ (st : List Msg) (m : Msg), (putS tpc st m).length ≤ st.length + 1
  | [], m => by simp [putS]
  | x :: r, m => by
    unfold putS
    split
    · simp
    · split
      · simp
      · have := putS_len r m
        simp only [List.length_cons]
        omega
theorem putF_len (st : List Msg) (m : Msg) : (putF st m).length ≤ st.length + 1 := by
  unfold putF delS
  split
  · split
    · exact Nat.le_succ_of_le (List.length_filter_le _ _)
    · exact putS_len st m
  · omega
theorem putF_srt {st : List Msg} (h : Srt tpc st) (m : Msg) : Srt tpc (putF st m) := by
  unfold putF
  split
  · split
    · exact h.del _
    · exact h.put
  · exact h
def keepB (m : Msg) : Bool := putB m && !m.f1.toList.isEmpty
def Good (st : List Msg) : Prop := ∀ m ∈ st, keepB m = true
theorem Good.put {st : List Msg} (hs : Srt tpc st) (h : Good st) (m : Msg) : Good (putF st m) := by
  intro x hx
  unfold putF at hx
  cases hp : putB m
  · rw [hp] at hx
    exact h x hx
  · rw [hp, if_pos rfl] at hx
    cases he : m.f1.toList.isEmpty
    · rw [he, if_neg (by decide)] at hx
      rcases (mem_putS hs).1 hx with rfl | hx
      · unfold keepB
        rw [hp, he]
        rfl
      · exact h x hx.1
    · rw [he, if_pos rfl] at hx
      exact h x (mem_delS.1 hx).1
theorem keep_name {m : Msg} (h : keepB m = true) : isName m.f0 = true ∧ m.f3 = true ∧ m.f1.toList.isEmpty = false := by
  unfold keepB putB at h
  simp only [Bool.and_eq_true, Bool.not_eq_true'] at h
  exact ⟨h.1.1, h.1.2.2, h.2⟩
theorem rows_go (l : List Msg) (hl : l.length ≤ 1000000) : ∀ (m i k : Nat), i + m = l.length → basculeref14_Rows.l0 (k + m + 1) l l (i : Int) = some true := by
  intro m
  induction m with
  | zero =>
    intro i k hi
    rw [Nat.add_zero, basculeref14_Rows.l0, if_neg (by omega)]
  | succ m ih =>
    intro i k hi
    have := ih (i + 1) k (by omega)
    rw [show k + (m + 1) + 1 = (k + m + 1) + 1 by omega, basculeref14_Rows.l0]
    have w1 : wrap64 ((i : Int) + 1) = ((i + 1 : Nat) : Int) := by rw [w64 (by omega) (by omega)]; rfl
    rw [if_pos (by omega), if_pos (by omega), if_pos (by omega), if_neg (by simp), w1]
    exact this
theorem rows_self (l : List Msg) (hl : l.length ≤ 1000000) : ∃ k, basculeref14_Rows.f k l l = some true := by
  refine ⟨l.length + 1, ?_⟩
  have := rows_go l hl l.length 0 0 (by omega)
  rw [Nat.zero_add] at this
  unfold basculeref14_Rows.f
  rw [if_pos rfl]
  exact this
theorem rows_calls (l : List Msg) (A B : Option Addr) (c d : Nat) (w : World) (hr : Kd.C k27 w A l.length l) (hc : l.length ≤ c) (hr' : Kd.C k27 w B l.length l) (hd : l.length ≤ d) (hl : l.length ≤ 1000000) :
    Calls Tryd.prog 16 #[.slice A l.length c, .slice B l.length d] w fun e w' => e = .returned (.bool true) ∧ Below w.heap.size w w' := by
  obtain ⟨k, hk⟩ := rows_self l hl
  refine (basculeref14_Rows.calls k A c l B d l true w hr hc hr' hd hk).mono ?_
  rintro e w' ⟨rfl, m, rfl⟩
  exact ⟨rfl, pw_below_drewN (Below.refl _ _) m⟩
end Go.Proofs.YtdchcdagjnaicaaDoor.Rt
