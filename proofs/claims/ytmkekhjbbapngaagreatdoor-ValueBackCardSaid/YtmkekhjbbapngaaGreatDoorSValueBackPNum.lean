/- What the proof of ValueBack leans on: PNum. -/
import Derived.Test.YtmkekhjbbapngaaGreatDoorSValueBackPOf
set_option linter.unusedVariables false
set_option linter.unusedSimpArgs false
namespace Go.Proofs.YtmkekhjbbapngaaGreatDoor.Val
open Go.RowKit
def fixD : Nat → Nat → List UInt8
  | 0, _ => []
  | n + 1, u => fixD n (u / 10) ++ [UInt8.ofNat (48 + u % 10)]
theorem fixD_len : ∀ n u, (fixD n u).length = n
  | 0, _ => rfl
  | n + 1, u => by rw [fixD, List.length_append, fixD_len n]; rfl
theorem fixD_zero : ∀ n u, u < 10 ^ n → fixD (n + 1) u = 48 :: fixD n u
  | 0, u, hu => by simp at hu; subst hu; rfl
  | n + 1, u, hu => by
    rw [Nat.pow_succ] at hu
    rw [fixD, fixD_zero n (u / 10) (by omega)]
    rfl
theorem fixD_pad : ∀ m n u, u < 10 ^ n → List.replicate m 48 ++ fixD n u = fixD (m + n) u
  | 0, n, u, hu => by simp
  | m + 1, n, u, hu => by
    rw [List.replicate_succ, List.cons_append, fixD_pad m n u hu, show m + 1 + n = (m + n) + 1 by omega]
    refine (fixD_zero (m + n) u (Nat.lt_of_lt_of_le hu (Nat.pow_le_pow_right (by decide) (by omega)))).symm
theorem dec_fix (u : Nat) : Lib.decDigits u = fixD (Lib.nDigits u) u := by
  induction u using Nat.strongRecOn with
  | _ u ih =>
    by_cases h : u < 10
    · rw [Lib.decDigits, dif_pos h, Lib.nDigits_small h, fixD, fixD, Nat.mod_eq_of_lt h]; rfl
    · rw [Lib.decDigits, dif_neg h, Lib.nDigits_big h, fixD, ih (u / 10) (by omega)]
theorem dec_len' (u : Nat) : (Lib.decDigits u).length = Lib.nDigits u := Lib.decDigits_length u
def wid (x sc : Nat) : Nat := max (Lib.nDigits x) (sc + 1)
theorem pad_fix (x sc : Nat) : padL x sc = fixD (wid x sc) x := by
  unfold padL wid
  rw [dec_len', dec_fix, fixD_pad _ _ _ (Lib.lt_pow_nDigits x)]
  congr 1
  rw [Nat.max_def]
  split <;> omega
theorem lt_wid (x sc : Nat) : x < 10 ^ wid x sc := Nat.lt_of_lt_of_le (Lib.lt_pow_nDigits x) (Nat.pow_le_pow_right (by decide) (Nat.le_max_left _ _))
theorem pt_len (b : Bool) (x sc : Nat) : (pointL b x sc).length = (if b then 1 else 0) + (if sc = 0 then Lib.nDigits x else wid x sc + 1) := by
  unfold pointL ptL
  by_cases h : sc = 0
  · rw [if_pos h, if_pos h, List.length_append, dec_len']
    cases b <;> rfl
  · rw [if_neg h, if_neg h, List.length_append, List.length_append, List.length_cons, List.length_take, List.length_drop, pad_fix, fixD_len]
    have : sc + 1 ≤ wid x sc := Nat.le_max_right _ _
    cases b
    · simp only [Bool.false_eq_true, if_false, List.length_nil]; omega
    · simp only [if_true, List.length_cons, List.length_nil]; omega
end Go.Proofs.YtmkekhjbbapngaaGreatDoor.Val
