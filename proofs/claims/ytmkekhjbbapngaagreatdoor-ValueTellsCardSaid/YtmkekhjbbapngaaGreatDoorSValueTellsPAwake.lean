/- What the proof of ValueTells leans on: PAwake. -/
import Derived.Test.YtmkekhjbbapngaaGreatDoorSValueTellsValW
import Derived.Test.YtmkekhjbbapngaaGreatDoorSValueTellsValD
import Derived.Test.YtmkekhjbbapngaaGreatDoorSValueTellsQx18f
set_option linter.unusedVariables false
set_option linter.unusedSimpArgs false
namespace Go.Proofs.YtmkekhjbbapngaaGreatDoor.Q
open Go.RowKit Go.Proofs.YtmkekhjbbapngaaGreatDoor.Val Go.Proofs.YtmkekhjbbapngaaGreatDoorW.PrintWords
theorem name_a : namedB ⟨#[97]⟩ = true := by decide +kernel
theorem row_law (kd s d : Int) : rowB ⟨#[97]⟩ 1 3 0 kd s d false = Tab.rangeB 1 3 0 kd s d false := by
  unfold rowB
  rw [name_a, Bool.true_and]
theorem dec1 (u : Nat) (h : u < 10) : Lib.decDigits u = [UInt8.ofNat (48 + u)] := by rw [Lib.decDigits, dif_pos h]
theorem dec2 (u : Nat) (h : ¬ u < 10) : Lib.decDigits u = Lib.decDigits (u / 10) ++ [UInt8.ofNat (48 + u % 10)] := by rw [Lib.decDigits, dif_neg h]
theorem may1 : mayB ⟨#[97]⟩ 1 3 0 3 1 0 false [65531] = true := by unfold mayB; rw [row_law]; decide +kernel
theorem may2 : mayB ⟨#[97]⟩ 1 3 0 6 0 0 false [1, 2] = true := by unfold mayB; rw [row_law]; decide +kernel
theorem may3 : mayB ⟨#[97]⟩ 1 3 0 2 0 5 false [10] = true := by unfold mayB; rw [row_law]; decide +kernel
theorem may4 : mayB ⟨#[97]⟩ 1 3 0 2 0 5 false [15] = true := by unfold mayB; rw [row_law]; decide +kernel
theorem text1 : textR ⟨#[97]⟩ 1 3 0 3 1 0 false [65531] = ⟨#[45, 48, 46, 53]⟩ := by
  unfold textR
  rw [may1, if_pos rfl]
  have e : numOf 3 [65531] = (true, 5) := by decide +kernel
  unfold textL
  rw [if_neg (by decide), if_neg (by decide), e]
  unfold pointL padL
  rw [dec1 5 (by decide)]
  rfl
theorem text2 : textR ⟨#[97]⟩ 1 3 0 6 0 0 false [1, 2] = ⟨#[49, 51, 49, 48, 55, 51]⟩ := by
  unfold textR
  rw [may2, if_pos rfl]
  have e : numOf 6 [1, 2] = (false, 131073) := by decide +kernel
  unfold textL
  rw [if_neg (by decide), if_neg (by decide), e]
  have e2 : Lib.decDigits 131073 = [49, 51, 49, 48, 55, 51] := by
    rw [dec2 131073 (by decide), show 131073 / 10 = 13107 by decide, dec2 13107 (by decide), show 13107 / 10 = 1310 by decide, dec2 1310 (by decide), show 1310 / 10 = 131 by decide, dec2 131 (by decide), show 131 / 10 = 13 by decide, dec2 13 (by decide), show 13 / 10 = 1 by decide, dec1 1 (by decide)]
    decide +kernel
  unfold pointL
  simp only [Int.toNat_zero, if_true, Bool.false_eq_true, if_false, List.nil_append, e2]
theorem words1 : wordsRE ⟨#[97]⟩ 1 3 0 3 1 0 false ⟨#[45, 48, 46, 53]⟩ = ([65531], 0) := by
  unfold wordsRE
  rw [row_law, show Tab.rangeB 1 3 0 3 1 0 false = true by decide, if_pos rfl, if_neg (by decide)]
  have e1 : plainP (⟨#[45, 48, 46, 53]⟩ : ByteArray).data.toList 1 = ([48, 53], true, true) := by decide +kernel
  rw [e1]
  have e2 : Lib.parseUintB 64 [48, 53] = .ok 5 := by rfl
  simp only [e2]
  have e3 : wordsN 3 true 5 = ([65531], true) := by decide +kernel
  rw [e3]
  unfold finL finE
  rw [may1, text1, decide_eq_true rfl]
  simp
theorem words2 : wordsRE ⟨#[97]⟩ 1 3 0 3 1 0 false ⟨#[51, 50, 55, 54, 46, 56]⟩ = ([], 220) := by
  unfold wordsRE
  rw [row_law, show Tab.rangeB 1 3 0 3 1 0 false = true by decide, if_pos rfl, if_neg (by decide)]
  have e1 : plainP (⟨#[51, 50, 55, 54, 46, 56]⟩ : ByteArray).data.toList 1 = ([48, 51, 50, 55, 54, 56], false, true) := by decide +kernel
  rw [e1]
  have e2 : Lib.parseUintB 64 [48, 51, 50, 55, 54, 56] = .ok 32768 := by rfl
  simp only [e2]
  have e3 : wordsN 3 false 32768 = ([], false) := by decide +kernel
  rw [e3]
  rfl
theorem apart1 : apartR ⟨#[97]⟩ 1 3 0 2 0 5 false [10] [15] = true := by
  unfold apartR
  rw [may3, may4]
  decide +kernel
theorem ints1 (k : Nat) : basculeref01_Ints.f (k + 3) [65531] [65531] = some true := by
  have w : wrap64 (0 + 1) = 1 := by unfold wrap64; decide
  unfold basculeref01_Ints.f
  rw [if_pos rfl]
  show (if (0 : Int) < 1 then (if (0 : Int) ≤ 0 then (if (0 : Int) < 1 then (if (65531 : Int) = 65531 then basculeref01_Ints.l0 (k + 2) [65531] [65531] (wrap64 (0 + 1)) else some false) else none) else none) else some true) = _
  rw [if_pos (by decide), if_pos (by decide), if_pos (by decide), if_pos rfl, w]
  show (if (1 : Int) < 1 then _ else some true) = _
  rw [if_neg (by decide)]
theorem t1 : value_Text.f ⟨#[97]⟩ 1 3 0 3 1 0 false [65531] = some (⟨#[45, 48, 46, 53]⟩, 0) := by unfold value_Text.f; rw [if_pos (by simp), text1, may1]; rfl
theorem t2 : value_Text.f ⟨#[97]⟩ 1 3 0 6 0 0 false [1, 2] = some (⟨#[49, 51, 49, 48, 55, 51]⟩, 0) := by unfold value_Text.f; rw [if_pos (by simp), text2, may2]; rfl
theorem w1 : value_Words.f ⟨#[97]⟩ 1 3 0 3 1 0 false ⟨#[45, 48, 46, 53]⟩ = some ([65531], 0) := by unfold value_Words.f wordsR wordsE; rw [if_pos (by decide), words1]
theorem w2 : value_Words.f ⟨#[97]⟩ 1 3 0 3 1 0 false ⟨#[51, 50, 55, 54, 46, 56]⟩ = some ([], 220) := by unfold value_Words.f wordsR wordsE; rw [if_pos (by decide), words2]
theorem a1 : value_Apart.f ⟨#[97]⟩ 1 3 0 2 0 5 false [10] [15] = some (true, 0) := by unfold value_Apart.f; rw [if_pos (by simp), apart1, may3, may4]; rfl
theorem awake_eq (k : Nat) : basculelaw22_awake.f (k + 3) = some true := by
  unfold basculelaw22_awake.f basculelaw22_row.f
  simp only [Option.bind_some, t1, t2, w1, w2, a1]
  rw [if_pos (by rw [Lib.toList_data]), if_pos trivial, if_pos (by rw [Lib.toList_data]), if_pos trivial, ints1]
  rfl
theorem awake_only (k : Nat) (r : Bool) (h : basculelaw22_awake.f k = some r) : r = true :=
  Option.some.inj ((at_rounds basculelaw22_awake.mono (Nat.le_add_right k 3) h).symm.trans (awake_eq k))
end Go.Proofs.YtmkekhjbbapngaaGreatDoor.Q
