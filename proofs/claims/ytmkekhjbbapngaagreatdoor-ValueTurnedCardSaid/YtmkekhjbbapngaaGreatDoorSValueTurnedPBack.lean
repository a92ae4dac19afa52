/- What the proof of ValueTurned leans on: PBack. -/
import Derived.Test.YtmkekhjbbapngaaGreatDoorSValueTurnedPOf
import Derived.Test.YtmkekhjbbapngaaGreatDoorSValueTurnedValW
set_option linter.unusedVariables false
set_option linter.unusedSimpArgs false
namespace Go.Proofs.YtmkekhjbbapngaaGreatDoor.Val
open Go.RowKit Go.Proofs.YtmkekhjbbapngaaGreatDoor.Q Go.Proofs.YtmkekhjbbapngaaGreatDoorW.PrintWords
theorem index_dot : ∀ (A B : List UInt8), (46 : UInt8) ∉ A → Lib.index (A ++ 46 :: B) [46] = (A.length : Int)
  | [], B, _ => by
    show (if List.isPrefixOf [46] (46 :: B) then (0 : Int) else _) = _
    rw [if_pos (by simp [List.isPrefixOf])]; rfl
  | a :: A, B, h => by
    have ha : a ≠ 46 := fun e => h (by rw [e]; simp)
    have ih := index_dot A B (fun hh => h (by simp [hh]))
    show (if List.isPrefixOf [46] (a :: (A ++ 46 :: B)) then (0 : Int) else if Lib.index (A ++ 46 :: B) [46] == -1 then -1 else Lib.index (A ++ 46 :: B) [46] + 1) = _
    rw [if_neg (by simp [List.isPrefixOf, Ne.symm ha]), ih, if_neg (by simp)]
    simp
theorem cut_dot (A B : List UInt8) (h : (46 : UInt8) ∉ A) : Lib.cut (A ++ 46 :: B) [46] = (A, B, true) := by
  unfold Lib.cut
  rw [index_dot A B h, if_pos (by omega), Int.toNat_natCast]
  simp
end Go.Proofs.YtmkekhjbbapngaaGreatDoor.Val
