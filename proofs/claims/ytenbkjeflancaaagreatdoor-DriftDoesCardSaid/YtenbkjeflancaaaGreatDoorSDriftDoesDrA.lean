/- What the proof of DriftDoes leans on: DrA. -/
import Derived.Test.YtenbkjeflancaaaGreatDoorSDriftDoesDrBase
import Derived.Test.YtenbkjeflancaaaGreatDoorSDriftDoesCnt
import Derived.StillTailTactics
import Derived.Deep.RegionWith
set_option linter.unusedVariables false
set_option linter.unusedSimpArgs false
namespace Go.Proofs.YtenbkjeflancaaaGreatDoor.Dr
open Go Go.RowKit Go.Proofs.YtenbkjeflancaaaGreatDoorW.PrintWords Go.Proofs.YtenbkjeflancaaaGreatDoor.Val Go.Proofs.YtenbkjeflancaaaGreatDoor.Q Go.Proofs.YtenbkjeflancaaaGreatDoor.Cnt
theorem grown_trans {A B C : World} {r : Option Nat} (h : A.grownBy B r) (h' : B.grownBy C r) : A.grownBy C r :=
  ⟨h'.os.trans h.os, h'.tape.trans h.tape, h'.output.trans h.output, Nat.le_trans h.size h'.size, fun b hb hr => (h'.block b (Nat.lt_of_lt_of_le hb h.size) hr).trans (h.block b hb hr)⟩
theorem grown_below {A B : World} {r : Option Nat} (h : Below A.heap.size A B) : A.grownBy B r := ⟨h.os, h.tape, h.output, h.size, fun b hb _ => h.block b hb⟩
theorem grown_set {A B : World} {g : Nat} (h : A.grownBy B (some g)) (j : Nat) (u : Value) : A.grownBy (B.setCell ⟨g, j, none⟩ u) (some g) := by
  have hs : (B.setCell ⟨g, j, none⟩ u).heap.size = B.heap.size := World.size_setCell _ _ _
  exact ⟨h.os, h.tape, h.output, by rw [hs]; exact h.size, fun b hb hr => (Below.heap_setCell B ⟨g, j, none⟩ u b (fun e => hr (by rw [e]))).trans (h.block b hb hr)⟩
def cellsD (n : ByteArray) (u f a kd s d : Int) (wr has : Bool) (v : Value) (told seen : Nat) : Array Value :=
  #[.string n, .int .i64 u, .int .i64 f, .int .i64 a, .int .i64 kd, .int .i64 s, .int .i64 d, .bool wr, .bool has, v, .complex .f64 (fb told) (fb seen)]
set_option maxHeartbeats 4000000 in
set_option maxRecDepth 1000000 in
theorem counts_calls (n : ByteArray) (u f a kd s d : Int) (wr has : Bool) (v : Value) (told seen : Nat) (db : Nat) (W : World) (hb : W.heap[db]? = some (.cells (cellsD n u f a kd s d wr has v told seen) 48 (0, 0))) (ht : told ≤ 300) (hs : seen ≤ 300) :
    Calls Tryz.prog 13 #[.pointer (some ⟨db, 0, none⟩)] W fun e W' => e = .returned (.tuple #[.int .i64 told, .int .i64 seen]) ∧ ∃ m, W' = W.drewN m := by
  have q10 : W.cell? ⟨db, 10, none⟩ = some (.complex .f64 (fb told) (fb seen)) := blk_cell hb 10
  have k1 := fun w => run_convert_float_int (P := Tryz.prog) w 58 3 .f64 .i64 (fb told) (told : Int) (by kernel_rfl) Tryz.underlying3 (fb_int told ht)
  have k2 := fun w => run_convert_float_int (P := Tryz.prog) w 58 3 .f64 .i64 (fb seen) (seen : Int) (by kernel_rfl) Tryz.underlying3 (fb_int seen hs)
  clear hb ht hs
  generalize fb told = x at *
  generalize fb seen = y at *
  go_enter Tryz.func13, Tryz.ntmps13
  go_wp2
  go_region
  all_goals (go_wp2; go_ret2; exact ⟨rfl, 1, rfl⟩)
set_option maxHeartbeats 4000000 in
set_option maxRecDepth 1000000 in
theorem reset_calls (n : ByteArray) (u f a kd s d : Int) (wr has : Bool) (v : Value) (told seen : Nat) (db : Nat) (W : World) (hb : W.heap[db]? = some (.cells (cellsD n u f a kd s d wr has v told seen) 48 (0, 0))) :
    Calls Tryz.prog 8 #[.pointer (some ⟨db, 0, none⟩)] W fun e W' => e = .returned (.tuple #[]) ∧ W.grownBy W' (some db) ∧ W'.heap[db]? = some (.cells (cellsD n u f a kd s d wr false (.slice none 0 0) told seen) 48 (0, 0)) := by
  have q8 : W.cell? ⟨db, 8, none⟩ = some (.bool has) := blk_cell hb 8
  have q9 : W.cell? ⟨db, 9, none⟩ = some v := blk_cell hb 9
  have qf := fun i => blk_frozen hb i
  have b1 := blk_set hb 8 (.bool false)
  have q9' := blk_cell b1 9
  have qf' := fun i => blk_frozen b1 i
  have b2 := blk_set b1 9 (.slice none 0 0)
  have hg := grown_set (grown_set (grown_below (r := some db) (Below.refl W.heap.size W)) 8 (.bool false)) 9 (.slice none 0 0)
  have FIN := Lib.hid (And.intro hg b2)
  clear hb b1 b2 hg
  go_enter Tryz.func8, Tryz.ntmps8
  go_wp2
  go_end0
  exact ⟨rfl, FIN.out⟩
set_option maxHeartbeats 4000000 in
set_option maxRecDepth 1000000 in
theorem last_no (n : ByteArray) (u f a kd s d : Int) (wr : Bool) (v : Value) (told seen : Nat) (db : Nat) (W : World) (hb : W.heap[db]? = some (.cells (cellsD n u f a kd s d wr false v told seen) 48 (0, 0))) :
    Calls Tryz.prog 11 #[.pointer (some ⟨db, 0, none⟩)] W fun e W' => e = .returned (.tuple #[.string ⟨#[]⟩, .bool false]) ∧ W' = W := by
  have q8 : W.cell? ⟨db, 8, none⟩ = some (.bool false) := blk_cell hb 8
  clear hb
  go_enter Tryz.func11, Tryz.ntmps11
  go_wp2
  go_ret2
  exact ⟨rfl, rfl⟩
set_option maxHeartbeats 4000000 in
set_option maxRecDepth 1000000 in
theorem last_yes (n : ByteArray) (u f a kd s d : Int) (wr : Bool) (A : Option Addr) (c : Nat) (l : List Int) (told seen : Nat) (db : Nat) (W : World) (hL : Laid W) (hb : W.heap[db]? = some (.cells (cellsD n u f a kd s d wr true (.slice A l.length c) told seen) 48 (0, 0))) (hr : Kd.C (Kd.int .i64) W A l.length l) (hc : l.length ≤ c) (hlen : l.length ≤ 1000000) (hm : mayB n u f a kd s d wr l = true) :
    Calls Tryz.prog 11 #[.pointer (some ⟨db, 0, none⟩)] W fun e W' => e = .returned (.tuple #[.string (textR n u f a kd s d wr l), .bool true]) ∧ Below W.heap.size W W' := by
  have cT := fun m => text_calls n u f a kd s d wr A c l (W.drewN m) (hL.below (pw_below_drewN (Below.refl _ _) m)) (Kd.C_drewN hr m) hc hlen
  rw [hm] at cT
  simp only [if_true] at cT
  have q0 : W.cell? ⟨db, 0, none⟩ = some (.string n) := blk_cell hb 0
  have q1 : W.cell? ⟨db, 1, none⟩ = some (.int .i64 u) := blk_cell hb 1
  have q2 : W.cell? ⟨db, 2, none⟩ = some (.int .i64 f) := blk_cell hb 2
  have q3 : W.cell? ⟨db, 3, none⟩ = some (.int .i64 a) := blk_cell hb 3
  have q4 : W.cell? ⟨db, 4, none⟩ = some (.int .i64 kd) := blk_cell hb 4
  have q5 : W.cell? ⟨db, 5, none⟩ = some (.int .i64 s) := blk_cell hb 5
  have q6 : W.cell? ⟨db, 6, none⟩ = some (.int .i64 d) := blk_cell hb 6
  have q7 : W.cell? ⟨db, 7, none⟩ = some (.bool wr) := blk_cell hb 7
  have q8 : W.cell? ⟨db, 8, none⟩ = some (.bool true) := blk_cell hb 8
  have q9 : W.cell? ⟨db, 9, none⟩ = some (.slice A l.length c) := blk_cell hb 9
  clear hb hL hr hc hlen hm
  generalize textR n u f a kd s d wr l = T at *
  go_enter Tryz.func11, Tryz.ntmps11
  go_wp2
  go_region_with (go_at_call 16; refine (cT 1).mono ?_; rintro e w1 ⟨rfl, hb1⟩)
  all_goals go_wp2
  all_goals (go_ret2; exact ⟨rfl, (pw_below_drewN (Below.refl W.heap.size W) 1).trans hb1⟩)
set_option maxHeartbeats 4000000 in
set_option maxRecDepth 1000000 in
theorem feed_no (n : ByteArray) (u f a kd s d : Int) (wr has : Bool) (v : Value) (told seen : Nat) (db : Nat) (A : Option Addr) (c : Nat) (l : List Int) (W : World) (hL : Laid W) (hb : W.heap[db]? = some (.cells (cellsD n u f a kd s d wr has v told seen) 48 (0, 0))) (hr : Kd.C (Kd.int .i64) W A l.length l) (hc : l.length ≤ c) (hlen : l.length ≤ 1000000) (hm : mayB n u f a kd s d wr l = false) :
    Calls Tryz.prog 9 #[.pointer (some ⟨db, 0, none⟩), .slice A l.length c] W fun e W' => e = .returned (.tuple #[.string ⟨#[]⟩, .bool false, .int .i64 1]) ∧ Below W.heap.size W W' := by
  have cT := text_calls n u f a kd s d wr A c l W hL hr hc hlen
  rw [hm] at cT
  simp only [Bool.false_eq_true, if_false] at cT
  have q0 : W.cell? ⟨db, 0, none⟩ = some (.string n) := blk_cell hb 0
  have q1 : W.cell? ⟨db, 1, none⟩ = some (.int .i64 u) := blk_cell hb 1
  have q2 : W.cell? ⟨db, 2, none⟩ = some (.int .i64 f) := blk_cell hb 2
  have q3 : W.cell? ⟨db, 3, none⟩ = some (.int .i64 a) := blk_cell hb 3
  have q4 : W.cell? ⟨db, 4, none⟩ = some (.int .i64 kd) := blk_cell hb 4
  have q5 : W.cell? ⟨db, 5, none⟩ = some (.int .i64 s) := blk_cell hb 5
  have q6 : W.cell? ⟨db, 6, none⟩ = some (.int .i64 d) := blk_cell hb 6
  have q7 : W.cell? ⟨db, 7, none⟩ = some (.bool wr) := blk_cell hb 7
  clear hb hL hr hc hlen hm
  generalize textR n u f a kd s d wr l = T at *
  go_enter Tryz.func9, Tryz.ntmps9
  go_wp2_with (go_at_call 16; refine cT.mono ?_; rintro e w1 ⟨rfl, hb1⟩)
  go_ret3
  exact ⟨rfl, hb1⟩
theorem base_moves {W w2 w3 : World} {db : Nat} {v : Value} {l : List Int} (hd : db < W.heap.size) (hg : W.grownBy w2 (some db)) (hR : Kd.R (Kd.int .i64) 3 w3 w2.heap.size (fun _ => True) v l) {x y z : Value} :
    Kd.R (Kd.int .i64) 3 (((w3.setCell ⟨db, 8, none⟩ x).setCell ⟨db, 9, none⟩ y).setCell ⟨db, 10, none⟩ z) W.heap.size (fun k => k ≠ db) v l := by
  have h1 : Kd.R (Kd.int .i64) 3 w3 w2.heap.size (fun k => k ≠ db) v l := Kd.R_mono (Kd.R_bound hR) (fun k hk e => by
    have := hk.2.1
    have := hg.size
    omega)
  have h2 := Kd.R_far (p := ⟨db, 8, none⟩) h1 (fun k hk => hk) x
  have h3 := Kd.R_far (p := ⟨db, 9, none⟩) h2 (fun k hk => hk) y
  have h4 := Kd.R_far (p := ⟨db, 10, none⟩) h3 (fun k hk => hk) z
  exact Kd.R_lower h4 hg.size
set_option maxHeartbeats 4000000 in
set_option maxRecDepth 1000000 in
theorem feed_first (n : ByteArray) (u f a kd s d : Int) (wr : Bool) (v : Value) (told seen : Nat) (db : Nat) (A : Option Addr) (c : Nat) (l : List Int) (W : World) (hL : Laid W) (hb : W.heap[db]? = some (.cells (cellsD n u f a kd s d wr false v told seen) 48 (0, 0))) (hr : ∀ W1, W.grownBy W1 (some db) → Kd.C (Kd.int .i64) W1 A l.length l) (hc : l.length ≤ c) (hlen : l.length ≤ 1000000) (hm : mayB n u f a kd s d wr l = true) (ht : told ≤ 299) (hs : seen ≤ 299) :
    Calls Tryz.prog 9 #[.pointer (some ⟨db, 0, none⟩), .slice A l.length c] W fun e W' => e = .returned (.tuple #[.string (textR n u f a kd s d wr l), .bool true, .int .i64 0]) ∧ W.grownBy W' (some db) ∧
      ∃ v', W'.heap[db]? = some (.cells (cellsD n u f a kd s d wr true v' (told + 1) (seen + 1)) 48 (0, 0)) ∧ Kd.R (Kd.int .i64) 3 W' W.heap.size (fun k => k ≠ db) v' l := by
  have hdb := blk_lt hb
  have cT := text_calls n u f a kd s d wr A c l W hL (hr W (grown_below (Below.refl _ _))) hc hlen
  rw [hm] at cT
  simp only [if_true] at cT
  have q0 : W.cell? ⟨db, 0, none⟩ = some (.string n) := blk_cell hb 0
  have q1 : W.cell? ⟨db, 1, none⟩ = some (.int .i64 u) := blk_cell hb 1
  have q2 : W.cell? ⟨db, 2, none⟩ = some (.int .i64 f) := blk_cell hb 2
  have q3 : W.cell? ⟨db, 3, none⟩ = some (.int .i64 a) := blk_cell hb 3
  have q4 : W.cell? ⟨db, 4, none⟩ = some (.int .i64 kd) := blk_cell hb 4
  have q5 : W.cell? ⟨db, 5, none⟩ = some (.int .i64 s) := blk_cell hb 5
  have q6 : W.cell? ⟨db, 6, none⟩ = some (.int .i64 d) := blk_cell hb 6
  have q7 : W.cell? ⟨db, 7, none⟩ = some (.bool wr) := blk_cell hb 7
  have kS := fun w => run_complex_sum (P := Tryz.prog) w .add (Or.inl rfl) 46 .f64 _ _ _ _ _ _ (seen_more told seen (by omega) (by omega))
  have kT := fun w => run_complex_sum (P := Tryz.prog) w .add (Or.inl rfl) 46 .f64 _ _ _ _ _ _ (told_more told (seen + 1) (by omega) (by omega))
  have one := fun x y => (show (Value.complex .f64 x y).oneCell' = true from rfl)
  have stR := fun (w : World) (a : Addr) (x y : Nat) => run_store Tryz.prog w a (.complex .f64 x y) .plain (one x y)
  have cC := fun W1 h => clone_calls A c l W1 (hr W1 h) hc hlen
  have HB := Lib.hid hb
  have HD := Lib.hid hdb
  clear hb hL hr hc hlen hm ht hs hdb
  unfold cellsD at HB ⊢
  generalize textR n u f a kd s d wr l = T at *
  generalize fb told = x0 at *
  generalize fb (told + 1) = x1 at *
  generalize fb seen = y0 at *
  generalize fb (seen + 1) = y1 at *
  go_enter Tryz.func9, Tryz.ntmps9
  go_wp2_with (first | (go_at_call 16; refine cT.mono ?_; rintro e w1 ⟨rfl, hb1⟩; have hk1 := blk_below HB.out hb1; have r10 := blk_cell hk1 10; have rf := fun i => blk_frozen hk1 i; have hk2 := blk_set hk1 10 (.complex .f64 x0 y1); have r8 := blk_cell hk2 8; have g2 := grown_set (grown_below (r := some db) hb1) 10 (.complex .f64 x0 y1)) | (go_at_call 18; refine (cC _ g2).mono ?_; rintro e w3 ⟨v', rfl, hR, hb3⟩; obtain ⟨Av, cv, ev⟩ := Kd.R_slice hR; subst ev; have hk3 := blk_below hk2 hb3; have s8 := blk_cell hk3 8; have rf3 := fun i => blk_frozen hk3 i; have hk4 := blk_set hk3 8 (.bool true); have s9 := blk_cell hk4 9; have rf4 := fun i => blk_frozen hk4 i; have hk5 := blk_set hk4 9 (.slice Av l.length cv); have rf5 := fun i => blk_frozen hk5 i; have s10 := blk_cell hk5 10; have hk6 := blk_set hk5 10 (.complex .f64 x1 y1); have g3 := grown_set (grown_set (grown_set (grown_trans g2 (grown_below (r := some db) hb3)) 8 (.bool true)) 9 (.slice Av l.length cv)) 10 (.complex .f64 x1 y1)))
  go_ret3
  refine ⟨rfl, g3, _, hk6, ?_⟩
  exact base_moves HD.out g2 hR
set_option maxHeartbeats 8000000 in
set_option maxRecDepth 1000000 in
theorem feed_same (n : ByteArray) (u f a kd s d : Int) (wr : Bool) (Ab : Option Addr) (cb : Nat) (lb : List Int) (told seen : Nat) (db : Nat) (A : Option Addr) (c : Nat) (l : List Int) (W : World) (hL : ∀ W1, W.grownBy W1 (some db) → Laid W1) (hb : W.heap[db]? = some (.cells (cellsD n u f a kd s d wr true (.slice Ab lb.length cb) told seen) 48 (0, 0))) (hr : ∀ W1, W.grownBy W1 (some db) → Kd.C (Kd.int .i64) W1 A l.length l) (hc : l.length ≤ c) (hlen : l.length ≤ 1000000) (hbr : ∀ W1, W.grownBy W1 (some db) → Kd.C (Kd.int .i64) W1 Ab lb.length lb) (hcb : lb.length ≤ cb) (hblen : lb.length ≤ 1000000) (hm : mayB n u f a kd s d wr l = true) (hmb : mayB n u f a kd s d wr lb = true) (hap : apartR n u f a kd s d wr lb l = false) (ht : told ≤ 299) (hs : seen ≤ 299) :
    Calls Tryz.prog 9 #[.pointer (some ⟨db, 0, none⟩), .slice A l.length c] W fun e W' => e = .returned (.tuple #[.string ⟨#[]⟩, .bool false, .int .i64 0]) ∧ W.grownBy W' (some db) ∧ W'.heap[db]? = some (.cells (cellsD n u f a kd s d wr true (.slice Ab lb.length cb) told (seen + 1)) 48 (0, 0)) := by
  have hdb := blk_lt hb
  have cT := text_calls n u f a kd s d wr A c l W (hL W (grown_below (Below.refl _ _))) (hr W (grown_below (Below.refl _ _))) hc hlen
  rw [hm] at cT
  simp only [if_true] at cT
  have cP := fun W1 h => apart_calls n u f a kd s d wr Ab cb lb A c l W1 (hL W1 h) (hbr W1 h) hcb (hr W1 h) hc hblen hlen
  rw [hm, hmb, hap] at cP
  simp only [Bool.and_self, if_true] at cP
  have q0 : W.cell? ⟨db, 0, none⟩ = some (.string n) := blk_cell hb 0
  have q1 : W.cell? ⟨db, 1, none⟩ = some (.int .i64 u) := blk_cell hb 1
  have q2 : W.cell? ⟨db, 2, none⟩ = some (.int .i64 f) := blk_cell hb 2
  have q3 : W.cell? ⟨db, 3, none⟩ = some (.int .i64 a) := blk_cell hb 3
  have q4 : W.cell? ⟨db, 4, none⟩ = some (.int .i64 kd) := blk_cell hb 4
  have q5 : W.cell? ⟨db, 5, none⟩ = some (.int .i64 s) := blk_cell hb 5
  have q6 : W.cell? ⟨db, 6, none⟩ = some (.int .i64 d) := blk_cell hb 6
  have q7 : W.cell? ⟨db, 7, none⟩ = some (.bool wr) := blk_cell hb 7
  have kS := fun w => run_complex_sum (P := Tryz.prog) w .add (Or.inl rfl) 46 .f64 _ _ _ _ _ _ (seen_more told seen (by omega) (by omega))
  have kT := fun w => run_complex_sum (P := Tryz.prog) w .add (Or.inl rfl) 46 .f64 _ _ _ _ _ _ (told_more told (seen + 1) (by omega) (by omega))
  have one := fun x y => (show (Value.complex .f64 x y).oneCell' = true from rfl)
  have stR := fun (w : World) (a : Addr) (x y : Nat) => run_store Tryz.prog w a (.complex .f64 x y) .plain (one x y)
  have cC := fun W1 h => clone_calls A c l W1 (hr W1 h) hc hlen
  have HB := Lib.hid hb
  have HD := Lib.hid hdb
  clear hb hL hr hc hlen hbr hcb hblen hm hmb hap ht hs hdb
  unfold cellsD at HB ⊢
  generalize textR n u f a kd s d wr l = T at *
  generalize fb told = x0 at *
  generalize fb (told + 1) = x1 at *
  generalize fb seen = y0 at *
  generalize fb (seen + 1) = y1 at *
  go_enter Tryz.func9, Tryz.ntmps9
  go_wp2_with (go_at_call 16; refine cT.mono ?_; rintro e w1 ⟨rfl, hb1⟩; have hk1 := blk_below HB.out hb1; have r10 := blk_cell hk1 10; have rf := fun i => blk_frozen hk1 i; have hk2 := blk_set hk1 10 (.complex .f64 x0 y1); have r8 := blk_cell hk2 8; have g2 := grown_set (grown_below (r := some db) hb1) 10 (.complex .f64 x0 y1); have z0 := blk_cell hk2 0; have z1 := blk_cell hk2 1; have z2 := blk_cell hk2 2; have z3 := blk_cell hk2 3; have z4 := blk_cell hk2 4; have z5 := blk_cell hk2 5; have z6 := blk_cell hk2 6; have z7 := blk_cell hk2 7; have z9 := blk_cell hk2 9)
  have g2d := grown_trans g2 (grown_below (r := some db) (pw_below_drewN (Below.refl (w1.setCell ⟨db, 10, none⟩ (.complex .f64 x0 y1)).heap.size (w1.setCell ⟨db, 10, none⟩ (.complex .f64 x0 y1))) 1))
  have hk2d := blk_drewN hk2 1
  go_region_with (go_at_call 17; refine (cP ((w1.setCell ⟨db, 10, none⟩ (.complex .f64 x0 y1)).drewN 1) g2d).mono ?_; rintro e w4 ⟨rfl, hb4⟩)
  all_goals (have hk4 := blk_below hk2d hb4; have g4 := grown_trans g2d (grown_below (r := some db) hb4))
  all_goals go_wp2
  all_goals (go_ret3; exact ⟨rfl, g4, hk4⟩)
set_option maxHeartbeats 8000000 in
set_option maxRecDepth 1000000 in
theorem feed_apart (n : ByteArray) (u f a kd s d : Int) (wr : Bool) (Ab : Option Addr) (cb : Nat) (lb : List Int) (told seen : Nat) (db : Nat) (A : Option Addr) (c : Nat) (l : List Int) (W : World) (hL : ∀ W1, W.grownBy W1 (some db) → Laid W1) (hb : W.heap[db]? = some (.cells (cellsD n u f a kd s d wr true (.slice Ab lb.length cb) told seen) 48 (0, 0))) (hr : ∀ W1, W.grownBy W1 (some db) → Kd.C (Kd.int .i64) W1 A l.length l) (hc : l.length ≤ c) (hlen : l.length ≤ 1000000) (hbr : ∀ W1, W.grownBy W1 (some db) → Kd.C (Kd.int .i64) W1 Ab lb.length lb) (hcb : lb.length ≤ cb) (hblen : lb.length ≤ 1000000) (hm : mayB n u f a kd s d wr l = true) (hmb : mayB n u f a kd s d wr lb = true) (hap : apartR n u f a kd s d wr lb l = true) (ht : told ≤ 299) (hs : seen ≤ 299) :
    Calls Tryz.prog 9 #[.pointer (some ⟨db, 0, none⟩), .slice A l.length c] W fun e W' => e = .returned (.tuple #[.string (textR n u f a kd s d wr l), .bool true, .int .i64 0]) ∧ W.grownBy W' (some db) ∧
      ∃ v', W'.heap[db]? = some (.cells (cellsD n u f a kd s d wr true v' (told + 1) (seen + 1)) 48 (0, 0)) ∧ Kd.R (Kd.int .i64) 3 W' W.heap.size (fun k => k ≠ db) v' l := by
  have hdb := blk_lt hb
  have cT := text_calls n u f a kd s d wr A c l W (hL W (grown_below (Below.refl _ _))) (hr W (grown_below (Below.refl _ _))) hc hlen
  rw [hm] at cT
  simp only [if_true] at cT
  have cP := fun W1 h => apart_calls n u f a kd s d wr Ab cb lb A c l W1 (hL W1 h) (hbr W1 h) hcb (hr W1 h) hc hblen hlen
  rw [hm, hmb, hap] at cP
  simp only [Bool.and_self, if_true] at cP
  have q0 : W.cell? ⟨db, 0, none⟩ = some (.string n) := blk_cell hb 0
  have q1 : W.cell? ⟨db, 1, none⟩ = some (.int .i64 u) := blk_cell hb 1
  have q2 : W.cell? ⟨db, 2, none⟩ = some (.int .i64 f) := blk_cell hb 2
  have q3 : W.cell? ⟨db, 3, none⟩ = some (.int .i64 a) := blk_cell hb 3
  have q4 : W.cell? ⟨db, 4, none⟩ = some (.int .i64 kd) := blk_cell hb 4
  have q5 : W.cell? ⟨db, 5, none⟩ = some (.int .i64 s) := blk_cell hb 5
  have q6 : W.cell? ⟨db, 6, none⟩ = some (.int .i64 d) := blk_cell hb 6
  have q7 : W.cell? ⟨db, 7, none⟩ = some (.bool wr) := blk_cell hb 7
  have kS := fun w => run_complex_sum (P := Tryz.prog) w .add (Or.inl rfl) 46 .f64 _ _ _ _ _ _ (seen_more told seen (by omega) (by omega))
  have kT := fun w => run_complex_sum (P := Tryz.prog) w .add (Or.inl rfl) 46 .f64 _ _ _ _ _ _ (told_more told (seen + 1) (by omega) (by omega))
  have one := fun x y => (show (Value.complex .f64 x y).oneCell' = true from rfl)
  have stR := fun (w : World) (a : Addr) (x y : Nat) => run_store Tryz.prog w a (.complex .f64 x y) .plain (one x y)
  have cC := fun W1 h => clone_calls A c l W1 (hr W1 h) hc hlen
  have HB := Lib.hid hb
  have HD := Lib.hid hdb
  clear hb hL hr hc hlen hbr hcb hblen hm hmb hap ht hs hdb
  unfold cellsD at HB ⊢
  generalize textR n u f a kd s d wr l = T at *
  generalize fb told = x0 at *
  generalize fb (told + 1) = x1 at *
  generalize fb seen = y0 at *
  generalize fb (seen + 1) = y1 at *
  go_enter Tryz.func9, Tryz.ntmps9
  go_wp2_with (go_at_call 16; refine cT.mono ?_; rintro e w1 ⟨rfl, hb1⟩; have hk1 := blk_below HB.out hb1; have r10 := blk_cell hk1 10; have rf := fun i => blk_frozen hk1 i; have hk2 := blk_set hk1 10 (.complex .f64 x0 y1); have r8 := blk_cell hk2 8; have g2 := grown_set (grown_below (r := some db) hb1) 10 (.complex .f64 x0 y1); have z0 := blk_cell hk2 0; have z1 := blk_cell hk2 1; have z2 := blk_cell hk2 2; have z3 := blk_cell hk2 3; have z4 := blk_cell hk2 4; have z5 := blk_cell hk2 5; have z6 := blk_cell hk2 6; have z7 := blk_cell hk2 7; have z9 := blk_cell hk2 9)
  have g2d := grown_trans g2 (grown_below (r := some db) (pw_below_drewN (Below.refl (w1.setCell ⟨db, 10, none⟩ (.complex .f64 x0 y1)).heap.size (w1.setCell ⟨db, 10, none⟩ (.complex .f64 x0 y1))) 1))
  have hk2d := blk_drewN hk2 1
  go_region_with (go_at_call 17; refine (cP ((w1.setCell ⟨db, 10, none⟩ (.complex .f64 x0 y1)).drewN 1) g2d).mono ?_; rintro e w4 ⟨rfl, hb4⟩)
  all_goals (have hk4 := blk_below hk2d hb4; have g4 := grown_trans g2d (grown_below (r := some db) hb4))
  all_goals (go_wp2_with (go_at_call 18; refine (cC _ g4).mono ?_; rintro e w3 ⟨v', rfl, hR, hb3⟩; obtain ⟨Av, cv, ev⟩ := Kd.R_slice hR; subst ev; have hk3 := blk_below hk4 hb3; have s8 := blk_cell hk3 8; have rf3 := fun i => blk_frozen hk3 i; have hk5 := blk_set hk3 8 (.bool true); have s9 := blk_cell hk5 9; have rf4 := fun i => blk_frozen hk5 i; have hk6 := blk_set hk5 9 (.slice Av l.length cv); have rf5 := fun i => blk_frozen hk6 i; have s10 := blk_cell hk6 10; have hk7 := blk_set hk6 10 (.complex .f64 x1 y1); have g3 := grown_set (grown_set (grown_set (grown_trans g4 (grown_below (r := some db) hb3)) 8 (.bool true)) 9 (.slice Av l.length cv)) 10 (.complex .f64 x1 y1)))
  all_goals (go_ret3; refine ⟨rfl, g3, _, hk7, ?_⟩; exact base_moves HD.out g4 hR)
end Go.Proofs.YtenbkjeflancaaaGreatDoor.Dr
