/- What the proof of ValueTurned leans on: PLaw22. -/
import Derived.Test.YtmkekhjbbapngaaGreatDoorSValueTurnedPAwake
import Derived.Test.YtmkekhjbbapngaaGreatDoorSValueTurnedPOf
set_option linter.unusedVariables false
set_option linter.unusedSimpArgs false
namespace Go.Proofs.YtmkekhjbbapngaaGreatDoor.Q
open Go.RowKit Go.Proofs.YtmkekhjbbapngaaGreatDoor.Val Go.Proofs.YtmkekhjbbapngaaGreatDoorW.PrintWords
theorem row_num (kd s : Int) (hk : kd = 2 ∨ kd = 3 ∨ kd = 4 ∨ kd = 5 ∨ kd = 6 ∨ kd = 7 ∨ kd = 9 ∨ kd = 10) (h0 : 0 ≤ s) (h9 : s ≤ 9) : rowB ⟨#[97]⟩ 1 3 0 kd s 0 false = true := by
  rw [row_law]
  have hs : s = 0 ∨ s = 1 ∨ s = 2 ∨ s = 3 ∨ s = 4 ∨ s = 5 ∨ s = 6 ∨ s = 7 ∨ s = 8 ∨ s = 9 := by omega
  rcases hk with rfl | rfl | rfl | rfl | rfl | rfl | rfl | rfl <;> rcases hs with rfl | rfl | rfl | rfl | rfl | rfl | rfl | rfl | rfl | rfl <;> decide
theorem may_row1 (kd s : Int) (l : List Int) (hk : kd = 2 ∨ kd = 3 ∨ kd = 4 ∨ kd = 5 ∨ kd = 6 ∨ kd = 7 ∨ kd = 9 ∨ kd = 10) (h0 : 0 ≤ s) (h9 : s ≤ 9) :
    mayB ⟨#[97]⟩ 1 3 0 kd s 0 false l = (decide ((l.length : Int) = Tab.wordsOf kd) && !(l.any (bad 65535))) := by
  unfold mayB
  rw [row_num kd s hk h0 h9, Bool.true_and]
  have h1 : kd ≠ 1 := by omega
  unfold nOf mostOf
  rw [if_neg h1, if_neg h1]
theorem text_num1 (kd s : Int) (l : List Int) (hk : kd = 2 ∨ kd = 3 ∨ kd = 4 ∨ kd = 5 ∨ kd = 6 ∨ kd = 7 ∨ kd = 9 ∨ kd = 10) (hl : l.length ≤ 1000000) (hm : mayB ⟨#[97]⟩ 1 3 0 kd s 0 false l = true) :
    value_Text.f ⟨#[97]⟩ 1 3 0 kd s 0 false l = some (mkB (pointL (numOf kd l).1 (numOf kd l).2 s.toNat), 0) := by
  unfold value_Text.f
  rw [if_pos hl]
  unfold textR
  rw [hm, if_pos rfl, if_pos rfl]
  unfold textL
  rw [if_neg (by omega), if_neg (by omega)]
  rfl
end Go.Proofs.YtmkekhjbbapngaaGreatDoor.Q
