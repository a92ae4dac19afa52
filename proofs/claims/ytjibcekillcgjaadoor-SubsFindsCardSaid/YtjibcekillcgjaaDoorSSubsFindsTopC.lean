/- What the proof of SubsFinds leans on: TopC. -/
import Derived.Test.YtjibcekillcgjaaDoorSSubsFindsTopB
set_option linter.unusedVariables false
set_option linter.unusedSimpArgs false
namespace Go.Proofs.YtjibcekillcgjaaDoor.Top
open Go.RowKit
def wild : List UInt8 := [43, 35]
def isName (s : ByteArray) : Bool := !s.data.toList.isEmpty && (isU s && !hasAny s.data.toList wild)
theorem isU_size (s : ByteArray) (h : isU s = true) : s.size ≤ 65535 := by
  unfold isU at h
  rw [Bool.and_eq_true] at h
  exact of_decide_eq_true h.1
theorem wild_calls (s : ByteArray) (w : World) (hs : s.size < 4294967281) :
    Calls Tryd.prog 35 #[.string s, .string ⟨#[43, 35]⟩] w fun e w' => e = .returned (.bool (hasAny s.data.toList wild)) ∧ Below w.heap.size w w' :=
  containsAny_calls s ⟨#[43, 35]⟩ w (by show 2 ≤ 2; omega) hs (by show 2 < 4294967281; omega) (by
    intro j b h
    match j, h with
    | 0, h => simp at h; subst h; decide
    | 1, h => simp at h; subst h; decide)
theorem name_calls (s : ByteArray) (w : World) (hL : Laid w) :
    Calls Tryd.prog 27 #[.string s] w fun e w' => e = .returned (.int .i64 (if isName s then 0 else 120)) ∧ Below w.heap.size w w' := by
  have hemp : s.toList.isEmpty = s.data.toList.isEmpty := by rw [Lib.toList_data]
  unfold isName
  by_cases h0 : s.data.toList.isEmpty = true
  · have h0' : s.toList = [] := by rw [Lib.toList_data]; exact List.isEmpty_iff.1 h0
    rw [h0]
    go_enter Tryd.func27, Tryd.ntmps27
    go_wp2
    go_ret
    exact ⟨rfl, Below.refl _ _⟩
  · have hf : s.toList.isEmpty = false := by rw [hemp]; simpa using h0
    have h0' : s.data.toList.isEmpty = false := by simpa using h0
    have cU := is_calls s w hL
    rw [h0']
    cases hU : isU s
    · rw [hU] at cU
      clear hemp h0 h0' hU
      go_enter Tryd.func27, Tryd.ntmps27
      go_wp2_with (go_at_call 33; refine cU.mono ?_; rintro e w' ⟨rfl, hb⟩)
      go_ret
      exact ⟨rfl, hb⟩
    · have hsz := isU_size s hU
      have cW := fun w => wild_calls s w (by omega)
      rw [hU] at cU
      generalize hasAny s.data.toList wild = b at *
      clear hemp h0 h0' hU
      go_enter Tryd.func27, Tryd.ntmps27
      go_wp2_with (first | (go_at_call 33; refine cU.mono ?_; rintro e w1 ⟨rfl, hb⟩) | (go_at_call 35; refine (cW _).mono ?_; rintro e w2 ⟨rfl, hb2⟩))
      all_goals (go_ret; exact ⟨rfl, hb.trans (hb2.mono hb.size)⟩)
end Go.Proofs.YtjibcekillcgjaaDoor.Top
