/- What the proof of TableFind leans on: TabA. -/
import Derived.Test.YtbfhiiokajbdhaaGreatDoorProg
import Derived.Below
import Derived.WalkKit
import Derived.Deep.DeepFit
import Derived.Lib.Hide
import Derived.WalkMore
import Derived.LoopTactic
import Derived.OwnWalk
import Derived.Outline
import Derived.BigQuiet
import Derived.Deep.QuietTactic
import Derived.WalkSmall
import Derived.IntWalk
set_option linter.unusedVariables false
set_option linter.unusedSimpArgs false
namespace Go.Proofs.YtbfhiiokajbdhaaGreatDoor.Tab
open Go.RowKit
def wordsOf (k : Int) : Int := if k = 1 then 0 else if k = 2 then 1 else if k = 3 then 1 else if k = 9 then 4 else if k = 10 then 4 else 2
theorem wordsOf_small (k : Int) : 0 ≤ wordsOf k ∧ wordsOf k ≤ 4 := by
  unfold wordsOf
  repeat' split
  all_goals omega
def kindB (a : Int) : Bool := decide (1 ≤ a) && decide (a ≤ 10)
def rangeB (u f a k s d : Int) (wr : Bool) : Bool :=
  !decide (u < 1) && (!decide (247 < u) && (!decide (f < 1) && (!decide (4 < f) && (kindB k && (((k == 1) == decide (f < 3)) && (decide (0 ≤ a) && (decide (a ≤ 65536 - max (wordsOf k) 1) && (decide (0 ≤ s) && (decide (s ≤ 9) && (decide (0 ≤ d) && (decide (d ≤ 1000000000) && (!((k == 1 || k == 8) && decide (0 < s + d)) && (!(wr && (Int.tmod f 2 == 0)))))))))))))))
end Go.Proofs.YtbfhiiokajbdhaaGreatDoor.Tab
