/- What the proof of TableFind leans on: TcChecks. -/
import Derived.Test.YtbfhiiokajbdhaaGreatDoorSTableFindPTb
import Derived.Test.YtbfhiiokajbdhaaGreatDoorSTableFindPEv
import Derived.Test.YtbfhiiokajbdhaaGreatDoorSTableFindQx0
import Derived.Test.YtbfhiiokajbdhaaGreatDoorProg
import Derived.Below
import Derived.WalkKit
import Derived.Deep.DeepFit
import Derived.Lib.Hide
import Derived.WalkMore
import Derived.LoopTactic
import Derived.OwnWalk
import Derived.Outline
import Derived.BigQuiet
import Derived.Deep.QuietTactic
import Derived.WalkSmall
import Derived.IntWalk
import Derived.Test.YtbfhiiokajbdhaaGreatDoorSTableFindTabA
import Derived.Test.YtbfhiiokajbdhaaGreatDoorSTableFindPTab
import Derived.Test.YtbfhiiokajbdhaaGreatDoorSTableFindPCheck
import Derived.Test.YtbfhiiokajbdhaaGreatDoorSTableFindQx11
import Derived.Test.YtbfhiiokajbdhaaGreatDoorSTableFindRowsS
import Derived.Test.YtbfhiiokajbdhaaGreatDoorSTableFindQx1
import Derived.Test.YtbfhiiokajbdhaaGreatDoorSTableFindTabF
import Derived.Test.YtbfhiiokajbdhaaGreatDoorSTableFindQx3
import Derived.Test.YtbfhiiokajbdhaaGreatDoorSTableFindQx12
set_option linter.unusedVariables false
set_option linter.unusedSimpArgs false
set_option maxRecDepth 100000
namespace Go.Proofs.YtbfhiiokajbdhaaGreatDoor.Q
open Go.RowKit Go.Proofs.YtbfhiiokajbdhaaGreatDoorW.PrintWords Go.Proofs.YtbfhiiokajbdhaaGreatDoor.Val
theorem few_from (l : List S34) (hl : l.length ≤ 100) : ∀ (m i : Nat), i + m = l.length → ∃ b, Ev (fun k => basculelaw21_few.l0 k l (i : Int)) b := by
  intro m
  induction m with
  | zero =>
    intro i hi
    exact ⟨true, Ev.step (fun k => rfl) (Ev.neg (by omega) (Ev.ret _))⟩
  | succ m ih =>
    intro i hi
    by_cases h : ((rd_T34 l (i : Int)).f0.size : Int) > 300
    · refine ⟨false, ?_⟩
      refine Ev.step (fun k => rfl) ?_
      refine Ev.pos (by omega) ?_
      refine Ev.pos (by omega) ?_
      exact Ev.pos h (Ev.ret _)
    · obtain ⟨b, hb⟩ := ih (i + 1) (by omega)
      refine ⟨b, ?_⟩
      refine Ev.step (fun k => rfl) ?_
      refine Ev.pos (by omega) ?_
      refine Ev.pos (by omega) ?_
      refine Ev.neg h ?_
      rw [show wrap64 ((i : Int) + 1) = ((i + 1 : Nat) : Int) by rw [w64 (by omega) (by omega)]; rfl]
      exact hb
theorem few21_ev (l : List S34) : ∃ b, Ev (fun k => basculelaw21_few.f k l) b ∧ (b = true → l.length ≤ 100) := by
  by_cases h : (l.length : Int) > 100
  · exact ⟨false, Ev.pos h (Ev.ret _), fun e => by cases e⟩
  · obtain ⟨b, hb⟩ := few_from l (by omega) l.length 0 (by omega)
    exact ⟨b, Ev.neg h hb, fun _ => by omega⟩
theorem check_ev (l : List S34) (hl : l.length ≤ 1000000) : Ev (fun k => table_Check.f k l) (chk l) := by
  refine ⟨l.length + 4, fun k hk => ?_⟩
  have := check_eq l hl (k - (l.length + 4))
  rwa [show k - (l.length + 4) + l.length + 4 = k by omega] at this
end Go.Proofs.YtbfhiiokajbdhaaGreatDoor.Q
namespace Go.Proofs.YtbfhiiokajbdhaaGreatDoor.Card
open Go.RowKit Go.Proofs.YtbfhiiokajbdhaaGreatDoorW.PrintWords Go.Proofs.YtbfhiiokajbdhaaGreatDoor.Q
end Go.Proofs.YtbfhiiokajbdhaaGreatDoor.Card
