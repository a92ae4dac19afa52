/- What the proof of DriftNil leans on: DrNil. -/
import Derived.Test.YtenbkjeflancaaaDoorSDriftNilDrW
set_option linter.unusedVariables false
set_option linter.unusedSimpArgs false
namespace Go.Proofs.YtenbkjeflancaaaDoor.Dr
open Go Go.RowKit Go.Proofs.YtenbkjeflancaaaDoorW.PrintWords Go.Proofs.YtenbkjeflancaaaDoor.Val Go.Proofs.YtenbkjeflancaaaDoor.Q Go.Proofs.YtenbkjeflancaaaDoor.Cnt
set_option maxHeartbeats 8000000 in
set_option maxRecDepth 1000000 in
theorem driftNil_calls (v : Value) (w : World) (hL : Laid w) : Calls Tryd.prog 6 #[v] w fun e w' => e = .returned (.bool true) ∧ Below w.heap.size w w' := by
  have cA := awake_calls w hL
  clear hL
  go_enter Tryd.func6, Tryd.ntmps6
  go_wp2_with (first
    | (go_at_call 15; refine (reset_nil w).mono ?_; rintro e w1 ⟨rfl, rfl⟩)
    | (go_at_call 10; refine (feed_nil v _).mono ?_; rintro e w2 ⟨rfl, rfl⟩)
    | (go_at_call 13; refine (last_nil _).mono ?_; rintro e w3 ⟨rfl, rfl⟩)
    | (go_at_call 14; refine (counts_nil _).mono ?_; rintro e w4 ⟨rfl, rfl⟩)
    | (go_at_call 9; refine cA.mono ?_; rintro e w5 ⟨rfl, hb⟩))
  any_goals (rename_i hx; exact absurd (by first | rfl | simp | decide +kernel) hx)
  go_ret
  exact ⟨rfl, hb⟩
end Go.Proofs.YtenbkjeflancaaaDoor.Dr
