/- What the proof of DriftDoes leans on: DrN. -/
import Derived.Test.YtenbkjeflancaaaGreatDoorSDriftDoesDrA
set_option linter.unusedVariables false
set_option linter.unusedSimpArgs false
namespace Go.Proofs.YtenbkjeflancaaaGreatDoor.Dr
open Go Go.RowKit Go.Proofs.YtenbkjeflancaaaGreatDoorW.PrintWords Go.Proofs.YtenbkjeflancaaaGreatDoor.Val Go.Proofs.YtenbkjeflancaaaGreatDoor.Q Go.Proofs.YtenbkjeflancaaaGreatDoor.Cnt
set_option maxHeartbeats 4000000 in
set_option maxRecDepth 1000000 in
theorem new_no (n : ByteArray) (u f a kd s d : Int) (wr : Bool) (W : World) (hL : Laid W) (hrow : rowB n u f a kd s d wr = false) :
    Calls Tryz.prog 5 #[.agg #[.string n, .int .i64 u, .int .i64 f, .int .i64 a, .int .i64 kd, .int .i64 s, .int .i64 d, .bool wr]] W fun e W' => e = .returned (.tuple #[.pointer none, .int .i64 1]) ∧ Below W.heap.size W W' := by
  have cK := fun W1 (h : Below W.heap.size W W1) g hb => check1_calls n u f a kd s d wr g W1 (hL.below h) hb
  rw [hrow] at cK
  have hbk0 := blk_new W (.cells #[.string n, .int .i64 u, .int .i64 f, .int .i64 a, .int .i64 kd, .int .i64 s, .int .i64 d, .bool wr] 23 (0, 0))
  have hb2 := blk_new (W.alloc (.cells #[.string n, .int .i64 u, .int .i64 f, .int .i64 a, .int .i64 kd, .int .i64 s, .int .i64 d, .bool wr] 23 (0, 0))) (.cells #[.string n, .int .i64 u, .int .i64 f, .int .i64 a, .int .i64 kd, .int .i64 s, .int .i64 d, .bool wr] 23 (0, 0))
  have hsz : (W.alloc (.cells #[.string n, .int .i64 u, .int .i64 f, .int .i64 a, .int .i64 kd, .int .i64 s, .int .i64 d, .bool wr] 23 (0, 0))).heap.size = W.heap.size + 1 := by simp
  rw [hsz] at hb2
  have hB2 := ((Below.refl W.heap.size W).alloc (Nat.le_refl _) (.cells #[.string n, .int .i64 u, .int .i64 f, .int .i64 a, .int .i64 kd, .int .i64 s, .int .i64 d, .bool wr] 23 (0, 0))).alloc (by simp) (.cells #[.string n, .int .i64 u, .int .i64 f, .int .i64 a, .int .i64 kd, .int .i64 s, .int .i64 d, .bool wr] 23 (0, 0))
  have cK := cK _ hB2 _ hb2
  have hk0 := blk_alloc hbk0 (.cells #[.string n, .int .i64 u, .int .i64 f, .int .i64 a, .int .i64 kd, .int .i64 s, .int .i64 d, .bool wr] 23 (0, 0))
  clear hL hrow hb2 hsz hbk0
  go_enter Tryz.func5, Tryz.ntmps5
  go_wp2_with (go_at_call 14; refine cK.mono ?_; rintro e w1 ⟨i, er, rfl, her, hb1⟩)
  go_ret2
  exact ⟨rfl, hB2.trans (hb1.mono hB2.size)⟩
set_option maxHeartbeats 4000000 in
set_option maxRecDepth 1000000 in
theorem new_yes (n : ByteArray) (u f a kd s d : Int) (wr : Bool) (W : World) (hL : Laid W) (hrow : rowB n u f a kd s d wr = true) :
    Calls Tryz.prog 5 #[.agg #[.string n, .int .i64 u, .int .i64 f, .int .i64 a, .int .i64 kd, .int .i64 s, .int .i64 d, .bool wr]] W fun e W' => ∃ db, e = .returned (.tuple #[.pointer (some ⟨db, 0, none⟩), .int .i64 0]) ∧ W.heap.size ≤ db ∧ Below W.heap.size W W' ∧ W'.heap[db]? = some (.cells (cellsD n u f a kd s d wr false (.slice none 0 0) 0 0) 48 (0, 0)) := by
  have cK := fun W1 (h : Below W.heap.size W W1) g hb => check1_calls n u f a kd s d wr g W1 (hL.below h) hb
  rw [hrow] at cK
  have hbk0 := blk_new W (.cells #[.string n, .int .i64 u, .int .i64 f, .int .i64 a, .int .i64 kd, .int .i64 s, .int .i64 d, .bool wr] 23 (0, 0))
  have hb2 := blk_new (W.alloc (.cells #[.string n, .int .i64 u, .int .i64 f, .int .i64 a, .int .i64 kd, .int .i64 s, .int .i64 d, .bool wr] 23 (0, 0))) (.cells #[.string n, .int .i64 u, .int .i64 f, .int .i64 a, .int .i64 kd, .int .i64 s, .int .i64 d, .bool wr] 23 (0, 0))
  have hsz : (W.alloc (.cells #[.string n, .int .i64 u, .int .i64 f, .int .i64 a, .int .i64 kd, .int .i64 s, .int .i64 d, .bool wr] 23 (0, 0))).heap.size = W.heap.size + 1 := by simp
  rw [hsz] at hb2
  have hB2 := ((Below.refl W.heap.size W).alloc (Nat.le_refl _) (.cells #[.string n, .int .i64 u, .int .i64 f, .int .i64 a, .int .i64 kd, .int .i64 s, .int .i64 d, .bool wr] 23 (0, 0))).alloc (by simp) (.cells #[.string n, .int .i64 u, .int .i64 f, .int .i64 a, .int .i64 kd, .int .i64 s, .int .i64 d, .bool wr] 23 (0, 0))
  have cK := cK _ hB2 _ hb2
  have hk0 := blk_alloc hbk0 (.cells #[.string n, .int .i64 u, .int .i64 f, .int .i64 a, .int .i64 kd, .int .i64 s, .int .i64 d, .bool wr] 23 (0, 0))
  clear hL hrow hb2 hsz hbk0
  unfold cellsD
  rw [fb_zero]
  go_enter Tryz.func5, Tryz.ntmps5
  go_wp2_with (go_at_call 14; refine cK.mono ?_; rintro e w1 ⟨i, er, rfl, her, hb1⟩; have hk1 := blk_below hk0 hb1; have r0 := blk_cell hk1 0; have r1 := blk_cell hk1 1; have r2 := blk_cell hk1 2; have r3 := blk_cell hk1 3; have r4 := blk_cell hk1 4; have r5 := blk_cell hk1 5; have r6 := blk_cell hk1 6; have r7 := blk_cell hk1 7)
  go_ret2
  have hB3 := hB2.trans (hb1.mono hB2.size)
  exact ⟨w1.heap.size, rfl, hB3.size, hB3.alloc hB3.size _, blk_new w1 _⟩
end Go.Proofs.YtenbkjeflancaaaGreatDoor.Dr
