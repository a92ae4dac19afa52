/- What the proof of TablePrints leans on: TcChecks. -/
import Derived.Test.YtbfhiiokajbdhaaGreatDoorSTablePrintsPTb
import Derived.Test.YtbfhiiokajbdhaaGreatDoorSTablePrintsPRef21
import Derived.Test.YtbfhiiokajbdhaaGreatDoorSTablePrintsRowsS
import Derived.Test.YtbfhiiokajbdhaaGreatDoorSTablePrintsQx0
import Derived.Test.YtbfhiiokajbdhaaGreatDoorSTablePrintsQx1
import Derived.Test.YtbfhiiokajbdhaaGreatDoorSTablePrintsTabF
import Derived.Test.YtbfhiiokajbdhaaGreatDoorSTablePrintsQx3
import Derived.Test.YtbfhiiokajbdhaaGreatDoorSTablePrintsQx11
import Derived.Test.YtbfhiiokajbdhaaGreatDoorSTablePrintsQx12
import Derived.Test.YtbfhiiokajbdhaaGreatDoorSTablePrintsQx13
set_option linter.unusedVariables false
set_option linter.unusedSimpArgs false
set_option maxRecDepth 100000
namespace Go.Proofs.YtbfhiiokajbdhaaGreatDoor.Q
open Go.RowKit Go.Proofs.YtbfhiiokajbdhaaGreatDoorW.PrintWords Go.Proofs.YtbfhiiokajbdhaaGreatDoor.Val
theorem few_from (l : List S34) (hl : l.length ≤ 100) : ∀ (m i : Nat), i + m = l.length → ∃ b, Ev (fun k => basculelaw21_few.l0 k l (i : Int)) b := by
  intro m
  induction m with
  | zero =>
    intro i hi
    exact ⟨true, Ev.step (fun k => rfl) (Ev.neg (by omega) (Ev.ret _))⟩
  | succ m ih =>
    intro i hi
    by_cases h : ((rd_T34 l (i : Int)).f0.size : Int) > 300
    · refine ⟨false, ?_⟩
      refine Ev.step (fun k => rfl) ?_
      refine Ev.pos (by omega) ?_
      refine Ev.pos (by omega) ?_
      exact Ev.pos h (Ev.ret _)
    · obtain ⟨b, hb⟩ := ih (i + 1) (by omega)
      refine ⟨b, ?_⟩
      refine Ev.step (fun k => rfl) ?_
      refine Ev.pos (by omega) ?_
      refine Ev.pos (by omega) ?_
      refine Ev.neg h ?_
      rw [show wrap64 ((i : Int) + 1) = ((i + 1 : Nat) : Int) by rw [w64 (by omega) (by omega)]; rfl]
      exact hb
theorem few21_ev (l : List S34) : ∃ b, Ev (fun k => basculelaw21_few.f k l) b ∧ (b = true → l.length ≤ 100) := by
  by_cases h : (l.length : Int) > 100
  · exact ⟨false, Ev.pos h (Ev.ret _), fun e => by cases e⟩
  · obtain ⟨b, hb⟩ := few_from l (by omega) l.length 0 (by omega)
    exact ⟨b, Ev.neg h hb, fun _ => by omega⟩
end Go.Proofs.YtbfhiiokajbdhaaGreatDoor.Q
namespace Go.Proofs.YtbfhiiokajbdhaaGreatDoor.Card
open Go.RowKit Go.Proofs.YtbfhiiokajbdhaaGreatDoorW.PrintWords Go.Proofs.YtbfhiiokajbdhaaGreatDoor.Q
end Go.Proofs.YtbfhiiokajbdhaaGreatDoor.Card
