/- What the proof of DriftDoes leans on: DrRef. -/
import Derived.Test.YtenbkjeflancaaaGreatDoorSDriftDoesDrS
import Derived.Test.YtenbkjeflancaaaGreatDoorSDriftDoesValD
import Derived.BigQuiet
import Derived.Deep.QuietTactic
set_option linter.unusedVariables false
set_option linter.unusedSimpArgs false
namespace Go.Proofs.YtenbkjeflancaaaGreatDoor.Dr
open Go Go.RowKit Go.Proofs.YtenbkjeflancaaaGreatDoorW.PrintWords Go.Proofs.YtenbkjeflancaaaGreatDoor.Val Go.Proofs.YtenbkjeflancaaaGreatDoor.Q Go.Proofs.YtenbkjeflancaaaGreatDoor.Cnt
theorem rmay_calls (n : ByteArray) (u f a kd s d : Int) (wr : Bool) (A : Option Addr) (c : Nat) (l : List Int) (w : World) (hrow : rowB n u f a kd s d wr = true) (hr : Kd.C (Kd.int .i64) w A l.length l) (hc : l.length ≤ c) (hlen : l.length ≤ 1000) :
    Calls Tryz.prog 19 #[.agg #[.string n, .int .i64 u, .int .i64 f, .int .i64 a, .int .i64 kd, .int .i64 s, .int .i64 d, .bool wr], .slice A l.length c] w fun e w' => e = .returned (.bool (mayB n u f a kd s d wr l)) ∧ Below w.heap.size w w' := by
  have e : mayB n u f a kd s d wr l = (decide ((l.length : Int) = nOf kd) && !(l.any (bad (mostOf kd)))) := by unfold mayB; rw [hrow, Bool.true_and]
  obtain ⟨k, hk⟩ := (may22_ev n u f a kd s d wr l (by omega)).rounds
  rw [← e] at hk
  exact basculeref22_May.calls k n u f a kd s d wr A c l _ w hr hc hk
theorem rtext_calls (n : ByteArray) (u f a kd s d : Int) (wr : Bool) (A : Option Addr) (c : Nat) (l : List Int) (w : World) (hm : mayB n u f a kd s d wr l = true) (hr : Kd.C (Kd.int .i64) w A l.length l) (hc : l.length ≤ c) :
    Calls Tryz.prog 21 #[.agg #[.string n, .int .i64 u, .int .i64 f, .int .i64 a, .int .i64 kd, .int .i64 s, .int .i64 d, .bool wr], .slice A l.length c] w fun e w' => e = .returned (.string (textR n u f a kd s d wr l)) ∧ Below w.heap.size w w' := by
  obtain ⟨k, hk⟩ := (text22_ev n u f a kd s d wr l hm).rounds
  have e : textR n u f a kd s d wr l = mkB (textL kd s l) := by unfold textR; rw [hm]; rfl
  rw [← e] at hk
  exact basculeref22_Text.calls k n u f a kd s d wr A c l _ w hr hc hk
theorem rapart_calls (n : ByteArray) (u f a kd s d : Int) (wr : Bool) (A1 : Option Addr) (c1 : Nat) (l1 : List Int) (A2 : Option Addr) (c2 : Nat) (l2 : List Int) (w : World) (hm1 : mayB n u f a kd s d wr l1 = true) (hm2 : mayB n u f a kd s d wr l2 = true) (hr1 : Kd.C (Kd.int .i64) w A1 l1.length l1) (hc1 : l1.length ≤ c1) (hr2 : Kd.C (Kd.int .i64) w A2 l2.length l2) (hc2 : l2.length ≤ c2) (hl : l1.length ≤ 1000) :
    Calls Tryz.prog 20 #[.agg #[.string n, .int .i64 u, .int .i64 f, .int .i64 a, .int .i64 kd, .int .i64 s, .int .i64 d, .bool wr], .slice A1 l1.length c1, .slice A2 l2.length c2] w fun e w' => e = .returned (.bool (apartR n u f a kd s d wr l1 l2)) ∧ Below w.heap.size w w' := by
  obtain ⟨k, hk⟩ := (apart22_ev n u f a kd s d wr l1 l2 hm1 hm2 hl).rounds
  exact basculeref22_Apart.calls k n u f a kd s d wr A1 c1 l1 A2 c2 l2 _ w hr1 hc1 hr2 hc2 hk
def cellsR (n : ByteArray) (u f a kd s d : Int) (wr has : Bool) (v : Value) (told seen : Nat) : Array Value :=
  #[.string n, .int .i64 u, .int .i64 f, .int .i64 a, .int .i64 kd, .int .i64 s, .int .i64 d, .bool wr, .bool has, v, .int .i64 told, .int .i64 seen]
section
variable (ok : Nat → Prop) (n : ByteArray) (u f a kd s d : Int) (wr : Bool)
def RAt (B : Nat) (W : World) (rb : Nat) (st : DS) : Prop :=
  ∃ v, W.heap[rb]? = some (.cells (cellsR n u f a kd s d wr st.has v st.told st.seen) 35 (0, 0)) ∧ Kd.R (Kd.int .i64) 3 W B ok v st.base ∧ (st.has = true → mayB n u f a kd s d wr st.base = true ∧ st.base.length ≤ 1000)
end
theorem RAt.below {ok : Nat → Prop} {n : ByteArray} {u f a kd s d : Int} {wr : Bool} {B : Nat} {W W' : World} {rb : Nat} {st : DS} (h : RAt ok n u f a kd s d wr B W rb st) (hb : Below W.heap.size W W') : RAt ok n u f a kd s d wr B W' rb st := by
  obtain ⟨v, h1, h2, h3⟩ := h
  exact ⟨v, blk_below h1 hb, Kd.R_below h2 hb, h3⟩
theorem RAt.mono {ok ok' : Nat → Prop} {n : ByteArray} {u f a kd s d : Int} {wr : Bool} {B : Nat} {W : World} {rb : Nat} {st : DS} (h : RAt ok n u f a kd s d wr B W rb st) (hk : ∀ k, ok k → ok' k) : RAt ok' n u f a kd s d wr B W rb st := by
  obtain ⟨v, h1, h2, h3⟩ := h
  exact ⟨v, h1, Kd.R_mono h2 hk, h3⟩
theorem RAt.old {ok : Nat → Prop} {n : ByteArray} {u f a kd s d : Int} {wr : Bool} {B : Nat} {W : World} {rb : Nat} {st : DS} (h : RAt ok n u f a kd s d wr B W rb st) : RAt (fun k => k < W.heap.size) n u f a kd s d wr B W rb st := by
  obtain ⟨v, h1, h2, h3⟩ := h
  exact ⟨v, h1, Kd.R_mono (Kd.R_bound h2) (fun k hk => hk.2.2.1), h3⟩
theorem RAt.set {ok : Nat → Prop} {n : ByteArray} {u f a kd s d : Int} {wr : Bool} {B : Nat} {W : World} {rb g : Nat} {st : DS} (h : RAt ok n u f a kd s d wr B W rb st) (hg : ∀ k, ok k → k ≠ g) (hne : rb ≠ g) (j : Nat) (x : Value) : RAt ok n u f a kd s d wr B (W.setCell ⟨g, j, none⟩ x) rb st := by
  obtain ⟨v, h1, h2, h3⟩ := h
  exact ⟨v, blk_far h1 (p := ⟨g, j, none⟩) hne x, Kd.R_far (p := ⟨g, j, none⟩) h2 hg x, h3⟩
theorem RAt.other {ok : Nat → Prop} {n : ByteArray} {u f a kd s d : Int} {wr : Bool} {B : Nat} {W W' : World} {rb r : Nat} {st : DS} (h : RAt ok n u f a kd s d wr B W rb st) (hg : W.grownBy W' (some r)) (hr : r < B) (hne : rb ≠ r) : RAt ok n u f a kd s d wr B W' rb st := by
  obtain ⟨v, h1, h2, h3⟩ := h
  exact ⟨v, (hg.block rb (blk_lt h1) (fun e => by injection e with e; exact hne e)).trans h1, R_keepO h2 hg hr, h3⟩
set_option maxHeartbeats 4000000 in
set_option maxRecDepth 1000000 in
theorem rfeed_bad {ok : Nat → Prop} {n : ByteArray} {u f a kd s d : Int} {wr : Bool} {B : Nat} {W : World} {rb : Nat} {st : DS} (hrow : rowB n u f a kd s d wr = true) (hD : RAt ok n u f a kd s d wr B W rb st)
    {A : Option Addr} {c : Nat} {l : List Int} (hr : Kd.C (Kd.int .i64) W A l.length l) (hc : l.length ≤ c) (hlen : l.length ≤ 1000) (hm : mayB n u f a kd s d wr l = false) :
    Calls Tryz.prog 10 #[.pointer (some ⟨rb, 0, none⟩), .slice A l.length c] W fun e W' => e = .returned (.tuple #[.string ⟨#[]⟩, .bool false, .int .i64 1]) ∧ Below W.heap.size W W' := by
  obtain ⟨v, hb, h2, h3⟩ := hD
  have cM := rmay_calls n u f a kd s d wr A c l W hrow hr hc hlen
  rw [hm] at cM
  have q0 : W.cell? ⟨rb, 0, none⟩ = some (.string n) := blk_cell hb 0
  have q1 : W.cell? ⟨rb, 1, none⟩ = some (.int .i64 u) := blk_cell hb 1
  have q2 : W.cell? ⟨rb, 2, none⟩ = some (.int .i64 f) := blk_cell hb 2
  have q3 : W.cell? ⟨rb, 3, none⟩ = some (.int .i64 a) := blk_cell hb 3
  have q4 : W.cell? ⟨rb, 4, none⟩ = some (.int .i64 kd) := blk_cell hb 4
  have q5 : W.cell? ⟨rb, 5, none⟩ = some (.int .i64 s) := blk_cell hb 5
  have q6 : W.cell? ⟨rb, 6, none⟩ = some (.int .i64 d) := blk_cell hb 6
  have q7 : W.cell? ⟨rb, 7, none⟩ = some (.bool wr) := blk_cell hb 7
  clear hb hr hc hlen hm h2 h3 hrow
  go_enter Tryz.func10, Tryz.ntmps10
  go_wp2_with (go_at_call 19; refine cM.mono ?_; rintro e w1 ⟨rfl, hb1⟩)
  go_ret3
  exact ⟨rfl, hb1⟩
set_option maxHeartbeats 8000000 in
set_option maxRecDepth 1000000 in
theorem rfeed_same {ok : Nat → Prop} {n : ByteArray} {u f a kd s d : Int} {wr : Bool} {B : Nat} {W : World} {rb told seen : Nat} {lb : List Int} (hrow : rowB n u f a kd s d wr = true) (hrB : rb < B) (hD : RAt ok n u f a kd s d wr B W rb ⟨true, lb, told, seen⟩)
    {A : Option Addr} {c : Nat} {l : List Int} (hr : ∀ W1, W.grownBy W1 (some rb) → Kd.C (Kd.int .i64) W1 A l.length l) (hc : l.length ≤ c) (hlen : l.length ≤ 1000) (hm : mayB n u f a kd s d wr l = true) (hap : apartR n u f a kd s d wr lb l = false) (hs : seen ≤ 299) :
    Calls Tryz.prog 10 #[.pointer (some ⟨rb, 0, none⟩), .slice A l.length c] W fun e W' => e = .returned (.tuple #[.string ⟨#[]⟩, .bool false, .int .i64 0]) ∧ W.grownBy W' (some rb) ∧ RAt ok n u f a kd s d wr B W' rb ⟨true, lb, told, seen + 1⟩ := by
  obtain ⟨v, hb, h2, h3⟩ := hD
  obtain ⟨hmb, hbl⟩ := h3 rfl
  simp only at hb h2 hmb hbl
  obtain ⟨Ab, cb, rfl, hcb, -⟩ := Kd.R_reads h2
  have hbr : ∀ W1, W.grownBy W1 (some rb) → Kd.C (Kd.int .i64) W1 Ab lb.length lb := fun W1 hg => (Kd.R_reads' (R_keepO h2 hg hrB)).2.2
  have cM := rmay_calls n u f a kd s d wr A c l W hrow (hr W (grown_below (Below.refl _ _))) hc hlen
  rw [hm] at cM
  have cP := fun W1 h => rapart_calls n u f a kd s d wr Ab cb lb A c l W1 hmb hm (hbr W1 h) hcb (hr W1 h) hc hbl
  rw [hap] at cP
  have FIN := Aside0.mk (fun W' (hg : W.grownBy W' (some rb)) (hk : W'.heap[rb]? = some (.cells (cellsR n u f a kd s d wr true (.slice Ab lb.length cb) told (seen + 1)) 35 (0, 0))) => (show RAt ok n u f a kd s d wr B W' rb ⟨true, lb, told, seen + 1⟩ from ⟨_, hk, R_keepO h2 hg hrB, h3⟩))
  have q0 : W.cell? ⟨rb, 0, none⟩ = some (.string n) := blk_cell hb 0
  have q1 : W.cell? ⟨rb, 1, none⟩ = some (.int .i64 u) := blk_cell hb 1
  have q2 : W.cell? ⟨rb, 2, none⟩ = some (.int .i64 f) := blk_cell hb 2
  have q3 : W.cell? ⟨rb, 3, none⟩ = some (.int .i64 a) := blk_cell hb 3
  have q4 : W.cell? ⟨rb, 4, none⟩ = some (.int .i64 kd) := blk_cell hb 4
  have q5 : W.cell? ⟨rb, 5, none⟩ = some (.int .i64 s) := blk_cell hb 5
  have q6 : W.cell? ⟨rb, 6, none⟩ = some (.int .i64 d) := blk_cell hb 6
  have q7 : W.cell? ⟨rb, 7, none⟩ = some (.bool wr) := blk_cell hb 7
  have HB := Lib.hid hb
  clear hb hr hc hlen hm hrow hap hmb hbl h2 h3 hbr hcb
  unfold cellsR at HB FIN
  go_enter Tryz.func10, Tryz.ntmps10
  go_wp2_with (go_at_call 19; refine cM.mono ?_; rintro e w1 ⟨rfl, hb1⟩; have hk1 := blk_below HB.out hb1; have r11 := blk_cell hk1 11; have rf := fun i => blk_frozen hk1 i; have hk2 := blk_set hk1 11 (.int .i64 ((seen : Int) + 1)); have g2 := grown_set (grown_below (r := some rb) hb1) 11 (.int .i64 ((seen : Int) + 1)); have z0 := blk_cell hk2 0; have z1 := blk_cell hk2 1; have z2 := blk_cell hk2 2; have z3 := blk_cell hk2 3; have z4 := blk_cell hk2 4; have z5 := blk_cell hk2 5; have z6 := blk_cell hk2 6; have z7 := blk_cell hk2 7; have z8 := blk_cell hk2 8; have z9 := blk_cell hk2 9)
  have g2d := grown_trans g2 (grown_below (r := some rb) (pw_below_drewN (Below.refl (w1.setCell ⟨rb, 11, none⟩ (.int .i64 ((seen : Int) + 1))).heap.size (w1.setCell ⟨rb, 11, none⟩ (.int .i64 ((seen : Int) + 1)))) 1))
  have hk2d := blk_drewN hk2 1
  go_region_with (go_at_call 20; refine (cP ((w1.setCell ⟨rb, 11, none⟩ (.int .i64 ((seen : Int) + 1))).drewN 1) g2d).mono ?_; rintro e w4 ⟨rfl, hb4⟩)
  all_goals (have hk4 := blk_below hk2d hb4; have g4 := grown_trans g2d (grown_below (r := some rb) hb4))
  all_goals go_wp2
  all_goals (go_ret3; exact ⟨rfl, g4, FIN.out _ g4 (by exact hk4)⟩)
theorem ref_moves {w3 w4 : World} {rb b B e : Nat} {v : Value} {l : List Int} {ok : Nat → Prop} (hok : ∀ k, b ≤ k → ok k) (hd : rb < b) (hB : B ≤ b) (hR : Kd.R (Kd.int .i64) e w3 b (fun _ => True) v l) {x y : Value} (hb : Below ((w3.setCell ⟨rb, 9, none⟩ x).setCell ⟨rb, 10, none⟩ y).heap.size ((w3.setCell ⟨rb, 9, none⟩ x).setCell ⟨rb, 10, none⟩ y) w4) :
    Kd.R (Kd.int .i64) e w4 B ok v l := by
  have h1 : Kd.R (Kd.int .i64) e w3 b (fun k => b ≤ k) v l := Kd.R_mono (Kd.R_bound hR) (fun k hk => hk.2.1)
  have h2 := Kd.R_far (p := ⟨rb, 9, none⟩) h1 (fun k hk e => by have : k = rb := e; omega) x
  have h3 := Kd.R_far (p := ⟨rb, 10, none⟩) h2 (fun k hk e => by have : k = rb := e; omega) y
  exact Kd.R_mono (Kd.R_lower (Kd.R_below h3 hb) hB) hok
set_option maxHeartbeats 8000000 in
set_option maxRecDepth 1000000 in
theorem rfeed_told {ok : Nat → Prop} {n : ByteArray} {u f a kd s d : Int} {wr : Bool} {B : Nat} {W : World} {rb : Nat} {st : DS} (hok : ∀ k, W.heap.size ≤ k → ok k) (hrow : rowB n u f a kd s d wr = true) (hrB : rb < B) (hBW : B ≤ W.heap.size) (hD : RAt ok n u f a kd s d wr B W rb st)
    {A : Option Addr} {c : Nat} {l : List Int} (hr : ∀ W1, W.grownBy W1 (some rb) → Kd.C (Kd.int .i64) W1 A l.length l) (hc : l.length ≤ c) (hlen : l.length ≤ 1000) (hm : mayB n u f a kd s d wr l = true) (hap : st.has = true → apartR n u f a kd s d wr st.base l = true) (ht : st.told ≤ 299) (hs : st.seen ≤ 299) :
    Calls Tryz.prog 10 #[.pointer (some ⟨rb, 0, none⟩), .slice A l.length c] W fun e W' => e = .returned (.tuple #[.string (textR n u f a kd s d wr l), .bool true, .int .i64 0]) ∧ W.grownBy W' (some rb) ∧ RAt ok n u f a kd s d wr B W' rb ⟨true, l, st.told + 1, st.seen + 1⟩ := by
  obtain ⟨has, lb, told, seen⟩ := st
  obtain ⟨v, hb, h2, h3⟩ := hD
  simp only at hb h2 h3 hap ht hs
  obtain ⟨Ab, cb, rfl, hcb, -⟩ := Kd.R_reads h2
  have hbr : ∀ W1, W.grownBy W1 (some rb) → Kd.C (Kd.int .i64) W1 Ab lb.length lb := fun W1 hg => (Kd.R_reads' (R_keepO h2 hg hrB)).2.2
  have cM := rmay_calls n u f a kd s d wr A c l W hrow (hr W (grown_below (Below.refl _ _))) hc hlen
  rw [hm] at cM
  have cP := fun W1 (h : W.grownBy W1 (some rb)) (hh : has = true) => rapart_calls n u f a kd s d wr Ab cb lb A c l W1 (h3 hh).1 hm (hbr W1 h) hcb (hr W1 h) hc (h3 hh).2
  have cT := fun W1 (h : W.grownBy W1 (some rb)) => rtext_calls n u f a kd s d wr A c l W1 hm (hr W1 h) hc
  have cA := fun W1 (h : W.grownBy W1 (some rb)) => hr W1 h
  have FIN := Aside0.mk (fun (w7 w8 : World) (b : Nat) (v1 : Value) (hbW : W.heap.size ≤ b) (hb1 : rb < b) (hb2 : B ≤ b) (hR : Kd.R (Kd.int .i64) 3 w7 b (fun _ => True) v1 l) (hB : Below ((w7.setCell ⟨rb, 9, none⟩ v1).setCell ⟨rb, 10, none⟩ (.int .i64 ((told : Int) + 1))).heap.size ((w7.setCell ⟨rb, 9, none⟩ v1).setCell ⟨rb, 10, none⟩ (.int .i64 ((told : Int) + 1))) w8) (hk : w8.heap[rb]? = some (.cells (cellsR n u f a kd s d wr true v1 (told + 1) (seen + 1)) 35 (0, 0))) => (show RAt ok n u f a kd s d wr B w8 rb ⟨true, l, told + 1, seen + 1⟩ from ⟨_, hk, ref_moves (fun k hk => hok k (Nat.le_trans hbW hk)) hb1 hb2 hR hB, fun _ => ⟨hm, hlen⟩⟩))
  have q0 : W.cell? ⟨rb, 0, none⟩ = some (.string n) := blk_cell hb 0
  have q1 : W.cell? ⟨rb, 1, none⟩ = some (.int .i64 u) := blk_cell hb 1
  have q2 : W.cell? ⟨rb, 2, none⟩ = some (.int .i64 f) := blk_cell hb 2
  have q3 : W.cell? ⟨rb, 3, none⟩ = some (.int .i64 a) := blk_cell hb 3
  have q4 : W.cell? ⟨rb, 4, none⟩ = some (.int .i64 kd) := blk_cell hb 4
  have q5 : W.cell? ⟨rb, 5, none⟩ = some (.int .i64 s) := blk_cell hb 5
  have q6 : W.cell? ⟨rb, 6, none⟩ = some (.int .i64 d) := blk_cell hb 6
  have q7 : W.cell? ⟨rb, 7, none⟩ = some (.bool wr) := blk_cell hb 7
  have HB := Lib.hid hb
  have HL := Lib.hid hlen
  have HH := Lib.hid (show rb < W.heap.size ∧ B ≤ W.heap.size from ⟨blk_lt hb, hBW⟩)
  have info3 : (Tryz.prog.info? 3).map (fun i => (i.zero, i.size, i.bytes)) = some (some (.int .i64 0), 1, 8) := by kernel_rfl
  clear hb hr hc hlen hm hrow h2 h3 hbr hcb hrB hBW hok
  unfold cellsR at HB FIN
  generalize textR n u f a kd s d wr l = T at *
  cases has
  · clear cP hap
    go_enter Tryz.func10, Tryz.ntmps10
    go_wp2_with (go_at_call 19; refine cM.mono ?_; rintro e w1 ⟨rfl, hb1⟩; have hk1 := blk_below HB.out hb1; have r11 := blk_cell hk1 11; have rf := fun i => blk_frozen hk1 i; have hk2 := blk_set hk1 11 (.int .i64 ((seen : Int) + 1)); have g2 := grown_set (grown_below (r := some rb) hb1) 11 (.int .i64 ((seen : Int) + 1)); have z8 := blk_cell hk2 8)
    go_region
    all_goals (
      have c8 := blk_cell hk2 8
      have c9 := blk_cell hk2 9
      have f8 := fun i => blk_frozen hk2 i
      have hk5 := blk_set hk2 8 (.bool true)
      have f9 := fun i => blk_frozen hk5 i
      have hk6 := blk_set hk5 9 (.slice none 0 0)
      have g6 := grown_set (grown_set g2 8 (.bool true)) 9 (.slice none 0 0)
      have g6 := grown_trans g6 (grown_below (r := some rb) (pw_below_drewN (Below.refl (((w1.setCell ⟨rb, 11, none⟩ (.int .i64 ((seen : Int) + 1))).setCell ⟨rb, 8, none⟩ (.bool true)).setCell ⟨rb, 9, none⟩ (.slice none 0 0)).heap.size (((w1.setCell ⟨rb, 11, none⟩ (.int .i64 ((seen : Int) + 1))).setCell ⟨rb, 8, none⟩ (.bool true)).setCell ⟨rb, 9, none⟩ (.slice none 0 0))) 1))
      have hk6 := blk_drewN hk6 1
      have g6l := g6.size
      go_wp2_with (first
        | (at_builtin; refine Kd.R_append_row (Value.int .i64) (0 : Int) (h1 := fun _ => rfl) (w0 := ((((w1.setCell ⟨rb, 11, none⟩ (.int .i64 ((seen : Int) + 1))).drewN 1).setCell ⟨rb, 8, none⟩ (.bool true)).setCell ⟨rb, 9, none⟩ (.slice none 0 0))) ((((w1.setCell ⟨rb, 11, none⟩ (.int .i64 ((seen : Int) + 1))).drewN 1).setCell ⟨rb, 8, none⟩ (.bool true)).setCell ⟨rb, 9, none⟩ (.slice none 0 0)).heap.size rfl (.tmp 48) (.tmp 49) 33 3 (.int .i64 0) 8 rfl Tryz.underlying33 info3 rfl (by decide) (.slice none 0 0) [] l A l.length c (fun _ => True) rfl rfl (fun _ _ => trivial) (Kd.R_nil _ _ _ _ _) (cA _ g6) (Below.refl _ _) (Nat.le_refl _) (by have := HL.out; simp; omega) ?_; intro v1 w7 hR7 hB7 hg7 hat7; obtain ⟨A7, c7, e7⟩ := Kd.R_slice hR7; subst e7; have hk7 := blk_below hk6 hB7; have f7 := fun i => blk_frozen hk7 i; have hk8 := blk_set hk7 9 (.slice A7 ([] ++ l).length c7); have y9 := blk_cell hk7 9; have y10 := blk_cell hk7 10; have hk9 := blk_set hk8 10 (.int .i64 ((told : Int) + 1)); have g9 := grown_set (grown_set (grown_trans g6 (grown_below (r := some rb) hB7)) 9 (.slice A7 ([] ++ l).length c7)) 10 (.int .i64 ((told : Int) + 1)); have x0 := blk_cell hk7 0; have x1 := blk_cell hk7 1; have x2 := blk_cell hk7 2; have x3 := blk_cell hk7 3; have x4 := blk_cell hk7 4; have x5 := blk_cell hk7 5; have x6 := blk_cell hk7 6; have x7 := blk_cell hk7 7)
        | (go_at_call 21; refine (cT _ g9).mono ?_; rintro e w10 ⟨rfl, hb10⟩))
      go_ret3
      exact ⟨rfl, grown_trans g9 (grown_below (r := some rb) hb10), FIN.out w7 w10 _ _ g6l (by have := HH.out; omega) (by have := HH.out; omega) (by have h_ := hR7; simp only [List.nil_append] at h_; exact h_) hb10 (by exact blk_below hk9 hb10)⟩)
  · replace cP := fun W1 h => cP W1 h rfl
    rw [hap rfl] at cP
    clear hap
    go_enter Tryz.func10, Tryz.ntmps10
    go_wp2_with (go_at_call 19; refine cM.mono ?_; rintro e w1 ⟨rfl, hb1⟩; have hk1 := blk_below HB.out hb1; have r11 := blk_cell hk1 11; have rf := fun i => blk_frozen hk1 i; have hk2 := blk_set hk1 11 (.int .i64 ((seen : Int) + 1)); have g2 := grown_set (grown_below (r := some rb) hb1) 11 (.int .i64 ((seen : Int) + 1)); have z0 := blk_cell hk2 0; have z1 := blk_cell hk2 1; have z2 := blk_cell hk2 2; have z3 := blk_cell hk2 3; have z4 := blk_cell hk2 4; have z5 := blk_cell hk2 5; have z6 := blk_cell hk2 6; have z7 := blk_cell hk2 7; have z8 := blk_cell hk2 8; have z9 := blk_cell hk2 9)
    have g2d := grown_trans g2 (grown_below (r := some rb) (pw_below_drewN (Below.refl (w1.setCell ⟨rb, 11, none⟩ (.int .i64 ((seen : Int) + 1))).heap.size (w1.setCell ⟨rb, 11, none⟩ (.int .i64 ((seen : Int) + 1)))) 1))
    have hk2d := blk_drewN hk2 1
    go_region_with (go_at_call 20; refine (cP ((w1.setCell ⟨rb, 11, none⟩ (.int .i64 ((seen : Int) + 1))).drewN 1) g2d).mono ?_; rintro e w4 ⟨rfl, hb4⟩)
    all_goals (have hk4 := blk_below hk2d hb4; have g4 := grown_trans g2d (grown_below (r := some rb) hb4))
    all_goals (
      have c8 := blk_cell hk4 8
      have c9 := blk_cell hk4 9
      have f8 := fun i => blk_frozen hk4 i
      have hk5 := blk_set hk4 8 (.bool true)
      have f9 := fun i => blk_frozen hk5 i
      have hk6 := blk_set hk5 9 (.slice none 0 0)
      have g6 := grown_set (grown_set g4 8 (.bool true)) 9 (.slice none 0 0)
      have g6l := g6.size
      go_wp2_with (first
        | (at_builtin; refine Kd.R_append_row (Value.int .i64) (0 : Int) (h1 := fun _ => rfl) (w0 := ((w4.setCell ⟨rb, 8, none⟩ (.bool true)).setCell ⟨rb, 9, none⟩ (.slice none 0 0))) ((w4.setCell ⟨rb, 8, none⟩ (.bool true)).setCell ⟨rb, 9, none⟩ (.slice none 0 0)).heap.size rfl (.tmp 48) (.tmp 49) 33 3 (.int .i64 0) 8 rfl Tryz.underlying33 info3 rfl (by decide) (.slice none 0 0) [] l A l.length c (fun _ => True) rfl rfl (fun _ _ => trivial) (Kd.R_nil _ _ _ _ _) (cA _ g6) (Below.refl _ _) (Nat.le_refl _) (by have := HL.out; simp; omega) ?_; intro v1 w7 hR7 hB7 hg7 hat7; obtain ⟨A7, c7, e7⟩ := Kd.R_slice hR7; subst e7; have hk7 := blk_below hk6 hB7; have f7 := fun i => blk_frozen hk7 i; have hk8 := blk_set hk7 9 (.slice A7 ([] ++ l).length c7); have y9 := blk_cell hk7 9; have y10 := blk_cell hk7 10; have hk9 := blk_set hk8 10 (.int .i64 ((told : Int) + 1)); have g9 := grown_set (grown_set (grown_trans g6 (grown_below (r := some rb) hB7)) 9 (.slice A7 ([] ++ l).length c7)) 10 (.int .i64 ((told : Int) + 1)); have x0 := blk_cell hk7 0; have x1 := blk_cell hk7 1; have x2 := blk_cell hk7 2; have x3 := blk_cell hk7 3; have x4 := blk_cell hk7 4; have x5 := blk_cell hk7 5; have x6 := blk_cell hk7 6; have x7 := blk_cell hk7 7)
        | (go_at_call 21; refine (cT _ g9).mono ?_; rintro e w10 ⟨rfl, hb10⟩))
      go_ret3
      exact ⟨rfl, grown_trans g9 (grown_below (r := some rb) hb10), FIN.out w7 w10 _ _ g6l (by have := HH.out; omega) (by have := HH.out; omega) (by have h_ := hR7; simp only [List.nil_append] at h_; exact h_) hb10 (by exact blk_below hk9 hb10)⟩)
end Go.Proofs.YtenbkjeflancaaaGreatDoor.Dr
