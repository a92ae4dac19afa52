/- What the proof of TablePrints leans on: TabA. -/
import Derived.Test.YtbfhiiokajbdhaaGreatDoorProg
import Derived.Below
import Derived.WalkKit
import Derived.Deep.DeepFit
import Derived.Lib.Hide
import Derived.WalkMore
import Derived.LoopTactic
import Derived.OwnWalk
import Derived.Outline
import Derived.BigQuiet
import Derived.Deep.QuietTactic
import Derived.WalkSmall
import Derived.IntWalk
set_option linter.unusedVariables false
set_option linter.unusedSimpArgs false
namespace Go.Proofs.YtbfhiiokajbdhaaGreatDoor.Tab
open Go.RowKit
def wordsOf (k : Int) : Int := if k = 1 then 0 else if k = 2 then 1 else if k = 3 then 1 else if k = 9 then 4 else if k = 10 then 4 else 2
theorem wordsOf_small (k : Int) : 0 ≤ wordsOf k ∧ wordsOf k ≤ 4 := by
  unfold wordsOf
  repeat' split
  all_goals omega
theorem words_cases (k : Int) : wordsOf k = 0 ∨ wordsOf k = 1 ∨ wordsOf k = 2 ∨ wordsOf k = 4 := by
  unfold wordsOf
  repeat' split
  all_goals simp
theorem refWords_calls (a : Int) (w : World) :
    Calls Tryz.prog 17 #[.int .i64 a] w fun e w' => e = .returned (.int .i64 (wordsOf a)) ∧ w' = w := by
  unfold wordsOf
  by_cases h1 : a = 1
  · subst h1
    go_enter Tryz.func17, Tryz.ntmps17
    go_wp2
    go_ret
    exact ⟨rfl, rfl⟩
  have e1 : (a == 1) = false := beq_eq_false_iff_ne.2 h1
  rw [if_neg h1]
  clear h1
  by_cases h2 : a = 2
  · subst h2
    go_enter Tryz.func17, Tryz.ntmps17
    go_wp2
    go_ret
    exact ⟨rfl, rfl⟩
  have e2 : (a == 2) = false := beq_eq_false_iff_ne.2 h2
  rw [if_neg h2]
  clear h2
  by_cases h3 : a = 3
  · subst h3
    go_enter Tryz.func17, Tryz.ntmps17
    go_wp2
    go_ret
    exact ⟨rfl, rfl⟩
  have e3 : (a == 3) = false := beq_eq_false_iff_ne.2 h3
  rw [if_neg h3]
  clear h3
  by_cases h9 : a = 9
  · subst h9
    go_enter Tryz.func17, Tryz.ntmps17
    go_wp2
    go_ret
    exact ⟨rfl, rfl⟩
  have e9 : (a == 9) = false := beq_eq_false_iff_ne.2 h9
  rw [if_neg h9]
  clear h9
  by_cases h10 : a = 10
  · subst h10
    go_enter Tryz.func17, Tryz.ntmps17
    go_wp2
    go_ret
    exact ⟨rfl, rfl⟩
  have e10 : (a == 10) = false := beq_eq_false_iff_ne.2 h10
  rw [if_neg h10]
  clear h10
  go_enter Tryz.func17, Tryz.ntmps17
  go_wp2
  go_ret
  exact ⟨rfl, rfl⟩
def kindB (a : Int) : Bool := decide (1 ≤ a) && decide (a ≤ 10)
theorem refKind_calls (a : Int) (w : World) :
    Calls Tryz.prog 16 #[.int .i64 a] w fun e w' => e = .returned (.bool (kindB a)) ∧ w' = w := by
  unfold kindB
  cases e1 : decide (1 ≤ a)
  · go_enter Tryz.func16, Tryz.ntmps16
    go_wp2
    go_ret
    exact ⟨rfl, rfl⟩
  · go_enter Tryz.func16, Tryz.ntmps16
    go_wp2
    go_ret
    exact ⟨rfl, rfl⟩
def rangeB (u f a k s d : Int) (wr : Bool) : Bool :=
  !decide (u < 1) && (!decide (247 < u) && (!decide (f < 1) && (!decide (4 < f) && (kindB k && (((k == 1) == decide (f < 3)) && (decide (0 ≤ a) && (decide (a ≤ 65536 - max (wordsOf k) 1) && (decide (0 ≤ s) && (decide (s ≤ 9) && (decide (0 ≤ d) && (decide (d ≤ 1000000000) && (!((k == 1 || k == 8) && decide (0 < s + d)) && (!(wr && (Int.tmod f 2 == 0)))))))))))))))
end Go.Proofs.YtbfhiiokajbdhaaGreatDoor.Tab
