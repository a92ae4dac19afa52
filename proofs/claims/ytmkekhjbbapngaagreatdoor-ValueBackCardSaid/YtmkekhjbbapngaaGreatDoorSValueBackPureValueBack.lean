/- What the proof of ValueBack leans on: PureValueBack. -/
import Derived.Test.YtmkekhjbbapngaaGreatDoorSValueBackPAwake
import Derived.Test.YtmkekhjbbapngaaGreatDoorSValueBackPBack2
import Derived.Test.YtmkekhjbbapngaaGreatDoorSValueBackQx24b
set_option linter.unusedVariables false
set_option linter.unusedSimpArgs false
namespace Go.Proofs.YtmkekhjbbapngaaGreatDoor.Q
open Go.RowKit Go.Proofs.YtmkekhjbbapngaaGreatDoor.Val Go.Proofs.YtmkekhjbbapngaaGreatDoorW.PrintWords
theorem ints_go (l : List Int) : ∀ (m i k : Nat), i + m = l.length → l.length ≤ 1000000 → basculeref01_Ints.l0 (k + m + 1) l l (i : Int) = some true
  | 0, i, k, h, hl => by
    show (if (i : Int) < (l.length : Int) then _ else some true) = _
    rw [if_neg (by omega)]
  | m + 1, i, k, h, hl => by
    have w : wrap64 ((i : Int) + 1) = ((i + 1 : Nat) : Int) := by unfold wrap64; omega
    show (if (i : Int) < (l.length : Int) then (if (0 : Int) ≤ (i : Int) then (if (i : Int) < (l.length : Int) then (if (rd l (i : Int)) = (rd l (i : Int)) then basculeref01_Ints.l0 (k + m + 1) l l (wrap64 ((i : Int) + 1)) else some false) else none) else none) else some true) = _
    rw [if_pos (by omega), if_pos (by omega), if_pos (by omega), if_pos rfl, w]
    exact ints_go l m (i + 1) k (by omega) hl
theorem ints_self (l : List Int) (k : Nat) (h : l.length ≤ k) (hl : l.length ≤ 1000000) : basculeref01_Ints.f (k + 1) l l = some true := by
  unfold basculeref01_Ints.f
  rw [if_pos rfl]
  have := ints_go l l.length 0 (k - l.length) (by omega) hl
  rw [show k - l.length + l.length + 1 = k + 1 by omega] at this
  exact this
theorem textR_no {n : ByteArray} {u f a kd s d : Int} {wr : Bool} {l : List Int} (h : mayB n u f a kd s d wr l = false) : textR n u f a kd s d wr l = ⟨#[]⟩ := by
  unfold textR
  rw [h]
  rfl
theorem pt_most (b : Bool) (x sc : Nat) (hx : x < 18446744073709551616) (hs : sc ≤ 9) : (pointL b x sc).length ≤ 40 := by
  have h1 : Lib.nDigits x ≤ 20 := by
    by_cases h : Lib.nDigits x ≤ 20
    · exact h
    · have h2 := nDig_ge x (by omega)
      have h3 : (10 : Nat) ^ 20 ≤ 10 ^ (Lib.nDigits x - 1) := Nat.pow_le_pow_right (by decide) (by omega)
      have h4 : (10 : Nat) ^ 20 = 100000000000000000000 := by decide
      omega
  have h5 : wid x sc ≤ 30 := by unfold wid; omega
  rw [pt_len]
  split <;> split <;> omega
theorem textR_size {n : ByteArray} {u f a kd s d : Int} {wr : Bool} {l : List Int} : (textR n u f a kd s d wr l).size ≤ 40 := by
  cases h : mayB n u f a kd s d wr l
  · rw [textR_no h]; decide
  · have e : textR n u f a kd s d wr l = mkB (textL kd s l) := by unfold textR; rw [h, if_pos rfl]; rfl
    rw [e, mkB_size]
    obtain ⟨-, ⟨s0, s9⟩, -⟩ := row_facts (may_row h)
    unfold textL
    split
    · simp
    · split
      · rename_i h8
        have ha := may_all h
        have hl := may_len h
        have hl2 : l.length = 2 := by subst h8; simp [nOf, Tab.wordsOf] at hl; omega
        obtain ⟨x, y, rfl⟩ := list2 hl2
        have hm : mostOf kd = 65535 := by unfold mostOf; rw [if_neg (by omega)]
        rw [hm] at ha
        have hx := ha x (by simp)
        have hy := ha y (by simp)
        show (hex4 x.toNat ++ hex4 y.toNat).length ≤ 40
        rw [hex4_eq _ (by omega), hex4_eq _ (by omega)]
        simp
      · exact pt_most _ _ _ (num_lt h (by assumption) (by assumption)) (by omega)
end Go.Proofs.YtmkekhjbbapngaaGreatDoor.Q
namespace Go.Proofs.YtmkekhjbbapngaaGreatDoor.Pure
open Go.RowKit Go.Proofs.YtmkekhjbbapngaaGreatDoor.Q Go.Proofs.YtmkekhjbbapngaaGreatDoor.Val Go.Proofs.YtmkekhjbbapngaaGreatDoorW.PrintWords
theorem ValueBack : basculelaw22_ValueBack.Pure := by
  intro n u f a kd s d wr l _ _ _ _ _ _ _ _ _
  refine ⟨103, ?_⟩
  unfold basculelaw22_ValueBack.f basculelaw22_few.f
  simp only [Option.bind_some]
  by_cases hl : (l.length : Int) ≤ 100
  · rw [if_pos (decide_eq_true hl)]
    have hT : value_Text.f n u f a kd s d wr l = some (textR n u f a kd s d wr l, if mayB n u f a kd s d wr l then 0 else 1) := by
      unfold value_Text.f
      rw [if_pos (by omega)]
    rw [hT]
    simp only [Option.bind_some]
    cases h : mayB n u f a kd s d wr l
    · rw [if_neg (by decide), awake_eq 100, textR_no h]
      simp only [Option.bind_some, if_true]
      rw [Lib.toList_data]
      rfl
    · rw [if_pos rfl]
      have hW : value_Words.f n u f a kd s d wr (textR n u f a kd s d wr l) = some (l, 0) := by
        unfold value_Words.f wordsR wordsE
        rw [if_pos (Nat.le_trans textR_size (by decide)), words_back h]
      rw [hW]
      simp only [Option.bind_some]
      rw [awake_eq 100]
      simp only [Option.bind_some, if_true]
      rw [ints_self l 102 (by omega) (by omega)]
      rfl
  · rw [if_neg (by rw [decide_eq_false hl]; decide)]
end Go.Proofs.YtmkekhjbbapngaaGreatDoor.Pure
