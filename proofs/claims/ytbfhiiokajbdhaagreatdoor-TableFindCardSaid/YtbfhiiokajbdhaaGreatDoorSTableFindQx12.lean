/- What the proof of TableFind leans on: Qx12. -/
import Derived.Test.YtbfhiiokajbdhaaGreatDoorSTableFindQx0
import Derived.Test.YtbfhiiokajbdhaaGreatDoorSTableFindQx1
import Derived.Test.YtbfhiiokajbdhaaGreatDoorSTableFindQx5
import Derived.Test.YtbfhiiokajbdhaaGreatDoorSTableFindParse
import Derived.Test.YtbfhiiokajbdhaaGreatDoorSTableFindQx11
namespace Go.Proofs.YtbfhiiokajbdhaaGreatDoor.Q
open Go.RowKit Go.Proofs.YtbfhiiokajbdhaaGreatDoorW.PrintWords Go.Proofs.YtbfhiiokajbdhaaGreatDoorW.PrintLast Go.Proofs.YtbfhiiokajbdhaaGreatDoorW.PrintMore
attribute [local go_sem] max2_int max_two
set_option linter.unusedVariables false
set_option linter.unusedSimpArgs false
attribute [local go_sem high] eqA34
theorem zQx12a0_ {P_ : Prop} (h_ : P_ := by (with_reducible repeat (first | refine blk_drewN ?_ _ | refine blk_drew ?_ | refine blk_alloc ?_ _)); refine blk_put (cs := #[.string ((rd_T34 l0 x9_1).f0), .int .i64 ((rd_T34 l0 x9_1).f1), .int .i64 ((rd_T34 l0 x9_1).f2), .int .i64 ((rd_T34 l0 x9_1).f3), .int .i64 ((rd_T34 l0 x9_1).f4), .int .i64 ((rd_T34 l0 x9_1).f5), .int .i64 ((rd_T34 l0 x9_1).f6), .bool false]) ?_ 7 _ rfl; (with_reducible repeat (first | refine blk_drewN ?_ _ | refine blk_drew ?_ | refine blk_alloc ?_ _)); refine blk_put (cs := #[.string ((rd_T34 l0 x9_1).f0), .int .i64 ((rd_T34 l0 x9_1).f1), .int .i64 ((rd_T34 l0 x9_1).f2), .int .i64 ((rd_T34 l0 x9_1).f3), .int .i64 ((rd_T34 l0 x9_1).f4), .int .i64 ((rd_T34 l0 x9_1).f5), .int .i64 0, .bool false]) ?_ 6 _ rfl; (with_reducible repeat (first | refine blk_drewN ?_ _ | refine blk_drew ?_ | refine blk_alloc ?_ _)); refine blk_put (cs := #[.string ((rd_T34 l0 x9_1).f0), .int .i64 ((rd_T34 l0 x9_1).f1), .int .i64 ((rd_T34 l0 x9_1).f2), .int .i64 ((rd_T34 l0 x9_1).f3), .int .i64 ((rd_T34 l0 x9_1).f4), .int .i64 0, .int .i64 0, .bool false]) ?_ 5 _ rfl; (with_reducible repeat (first | refine blk_drewN ?_ _ | refine blk_drew ?_ | refine blk_alloc ?_ _)); refine blk_put (cs := #[.string ((rd_T34 l0 x9_1).f0), .int .i64 ((rd_T34 l0 x9_1).f1), .int .i64 ((rd_T34 l0 x9_1).f2), .int .i64 ((rd_T34 l0 x9_1).f3), .int .i64 0, .int .i64 0, .int .i64 0, .bool false]) ?_ 4 _ rfl; (with_reducible repeat (first | refine blk_drewN ?_ _ | refine blk_drew ?_ | refine blk_alloc ?_ _)); refine blk_put (cs := #[.string ((rd_T34 l0 x9_1).f0), .int .i64 ((rd_T34 l0 x9_1).f1), .int .i64 ((rd_T34 l0 x9_1).f2), .int .i64 0, .int .i64 0, .int .i64 0, .int .i64 0, .bool false]) ?_ 3 _ rfl; (with_reducible repeat (first | refine blk_drewN ?_ _ | refine blk_drew ?_ | refine blk_alloc ?_ _)); refine blk_put (cs := #[.string ((rd_T34 l0 x9_1).f0), .int .i64 ((rd_T34 l0 x9_1).f1), .int .i64 0, .int .i64 0, .int .i64 0, .int .i64 0, .int .i64 0, .bool false]) ?_ 2 _ rfl; (with_reducible repeat (first | refine blk_drewN ?_ _ | refine blk_drew ?_ | refine blk_alloc ?_ _)); refine blk_put (cs := #[.string ((rd_T34 l0 x9_1).f0), .int .i64 0, .int .i64 0, .int .i64 0, .int .i64 0, .int .i64 0, .int .i64 0, .bool false]) ?_ 1 _ rfl; (with_reducible repeat (first | refine blk_drewN ?_ _ | refine blk_drew ?_ | refine blk_alloc ?_ _)); refine blk_put (cs := #[.string (⟨#[]⟩ : ByteArray), .int .i64 0, .int .i64 0, .int .i64 0, .int .i64 0, .int .i64 0, .int .i64 0, .bool false]) ?_ 0 _ rfl; (with_reducible repeat (first | refine blk_drewN ?_ _ | refine blk_drew ?_ | refine blk_alloc ?_ _)); exact BK211.out) : P_ := h_
theorem zQx12a1_ {P_ : Prop} (h_ : P_ := by repeat (first | (with_reducible first | exact HB.out | apply below_alloc | apply pw_below_drewN | apply below_drew1 | refine below_set ?_ GE211.out) | exact HB.out)) : P_ := h_
theorem zQx12a2_ {P_ : Prop} (h_ : P_ := by repeat (first | (with_reducible first | exact HB.out | apply below_alloc | apply pw_below_drewN | apply below_drew1) | exact HB.out)) : P_ := h_
theorem zQx12a3_ {P_ : Prop} (h_ : P_ := by first | (with_reducible assumption) | assumption) : P_ := h_
theorem zQx12a4_ {P_ : Prop} (h_ : P_ := by first | rfl | (simp; done) | (simp [*]; done)) : P_ := h_
theorem zQx12a5_ {P_ : Prop} (h_ : P_ := by repeat (first | exact Drawn0.refl _ | apply Drawn0.step)) : P_ := h_
theorem zQx12a6_ {P_ : Prop} (h_ : P_ := by (try simp only [List.map_toArray, List.map_cons, List.map_nil]); first | done | rfl | (simp only [List.length_drop, List.length_take]; rfl)) : P_ := h_
theorem zQx12a7_ {P_ : Prop} (h_ : P_ := by (with_reducible repeat (first | refine blk_drewN ?_ _ | refine blk_drew ?_ | refine blk_alloc ?_ _)); exact BK211.out) : P_ := h_
theorem zQx12a8_ {P_ : Prop} (h_ : P_ := by first | rfl | (simp [errW_none, errW_some] <;> rfl) | (simp [*, errW_none, errW_some] <;> rfl)) : P_ := h_
theorem znQx12_ {X_ : Prop} [Decidable X_] (h_ : ¬ X_ → False := by intro c_; rw [if_neg c_] at H; exact absurd H (by simp)) : X_ := Decidable.byContradiction h_
def basculelaw21_few.l0 : Nat → List (S34) → Int → Option (Bool)
 | 0, _, _ => none
 | k + 1, x0, x3 => if x3 < (x0.length : Int) then (if 0 ≤ x3 then (if (((rd_T34 x0 x3).f0).size : Int) > 300 then (some false) else (basculelaw21_few.l0 k x0 (wrap64 (x3 + 1)))) else (none)) else (some true)
def basculelaw21_few.f (k : Nat) (l0 : List (S34)) : Option (Bool) := if (l0.length : Int) > 100 then (some false) else (basculelaw21_few.l0 k l0 0)
set_option maxHeartbeats 8000000 in
set_option maxRecDepth 100000 in
theorem basculelaw21_few.calls (k : Nat) (A0 : Option Addr) (c0 : Nat) (l0 : List (S34)) (r : Bool) (w : World) (hr0 : Kd.C k34 w A0 l0.length l0) (hc0 : l0.length ≤ c0) (h : basculelaw21_few.f k l0 = some r) :
  Calls Tryz.prog 11 #[.slice A0 l0.length c0] w fun e w' => e = .returned (.bool r) ∧ Drawn0 w w' := by
 have HR0 := Aside0.mk hr0
 have HC0 := Aside0.mk hc0
 clear hr0 hc0
 have H : (if (l0.length : Int) > 100 then (some false) else (basculelaw21_few.l0 k l0 0)) = some r := h
 clear h
 by_cases c2 : (l0.length : Int) > 100
 ·
  rw [if_pos c2] at H
  have c2b0 : decide (100 < (l0.length : Int)) = true := decide_eq_true c2
  have c2b1 : decide (100 < l0.length) = true := decide_eq_true (by omega)
  clear c2
  obtain rfl := Option.some.inj H
  go_enter Tryz.func11, Tryz.ntmps11
  go_wp2
  go_ret
  exact ⟨zQx12a4_, zQx12a5_⟩
 rw [if_neg c2] at H
 have c2b0 : decide (100 < (l0.length : Int)) = false := decide_eq_false c2
 have c2b1 : decide (100 < l0.length) = false := decide_eq_false (by omega)
 clear c2
 have H' := Aside0.mk H
 clear H
 go_enter Tryz.func11, Tryz.ntmps11
 go_wp2
 go_loopg [3] k (fun kq v3 w' => ∃ (x3_1 : Int), v3 = .int .i64 x3_1 ∧ Aside0 (basculelaw21_few.l0 kq l0 x3_1 = some r) ∧ Aside0 (kq ≤ k) ∧ Drawn0 w w')
 case atStart => exact ⟨(0), zQx12a4_, H', ⟨Nat.le_refl _⟩, zQx12a5_⟩
 case round =>
  clear H'
  try clear c1
  try clear c2
  try clear c2b0
  try clear c2b1
  try clear p2
  obtain ⟨x3_1, rfl, HA, HK1, ⟨m1, rfl⟩⟩ := hrel
  cases gk with
  | zero => exact absurd HA.out (by simp [basculelaw21_few.l0])
  | succ k1 =>
   have H := HA.out
   clear HA
   simp only [basculelaw21_few.l0] at H
   by_cases c3 : x3_1 < (l0.length : Int)
   rotate_left
   ·
    rw [if_neg c3] at H
    have c3b0 : decide (x3_1 < (l0.length : Int)) = false := decide_eq_false c3
    clear c3
    obtain rfl := Option.some.inj H
    go_wp2
    go_ret
    exact ⟨zQx12a4_, zQx12a5_⟩
   rw [if_pos c3] at H
   have c3b0 : decide (x3_1 < (l0.length : Int)) = true := decide_eq_true c3
   clear c3
   have c4 : 0 ≤ x3_1 := znQx12_
   rw [if_pos c4] at H
   have c4b0 : decide (0 ≤ x3_1) = true := decide_eq_true c4
   clear c4
   by_cases c5 : (((rd_T34 l0 x3_1).f0).size : Int) > 300
   ·
    rw [if_pos c5] at H
    have c5b0 : decide (300 < (((rd_T34 l0 x3_1).f0).size : Int)) = true := decide_eq_true c5
    have c5b1 : decide (300 < ((rd_T34 l0 x3_1).f0).size) = true := decide_eq_true (by omega)
    clear c5
    obtain rfl := Option.some.inj H
    have p209 : 0 ≤ (x3_1 : Int) := of_decide_eq_true zQx12a3_
    have q209 : x3_1 < (l0.length : Int) := of_decide_eq_true zQx12a3_
    obtain ⟨ad209, e209, hx209_0, hx209_1, hx209_2, hx209_3, hx209_4, hx209_5, hx209_6, hx209_7⟩ := at_T34 HR0.out x3_1 p209 q209
    cases e209
    replace p209 := eq_true p209
    replace q209 := eq_true q209
    go_wp2
    go_ret
    exact ⟨zQx12a4_, zQx12a5_⟩
   rw [if_neg c5] at H
   have c5b0 : decide (300 < (((rd_T34 l0 x3_1).f0).size : Int)) = false := decide_eq_false c5
   have c5b1 : decide (300 < ((rd_T34 l0 x3_1).f0).size) = false := decide_eq_false (by omega)
   clear c5
   have H' := Aside0.mk H
   clear H
   have p209 : 0 ≤ (x3_1 : Int) := of_decide_eq_true zQx12a3_
   have q209 : x3_1 < (l0.length : Int) := of_decide_eq_true zQx12a3_
   obtain ⟨ad209, e209, hx209_0, hx209_1, hx209_2, hx209_3, hx209_4, hx209_5, hx209_6, hx209_7⟩ := at_T34 HR0.out x3_1 p209 q209
   cases e209
   replace p209 := eq_true p209
   replace q209 := eq_true q209
   go_wp2
   go_roundg k1
   case measure => have := HK1.out; omega
   case rel => exact ⟨(wrap64 (x3_1 + 1)), zQx12a4_, H', ⟨by have := HK1.out; omega⟩, zQx12a5_⟩
def table_Check.l0 : Nat → List (S34) → List (S34) → Int → Int → Option (Int × Int)
 | 0, _, _, _, _ => none
 | k + 1, x0, x7, x8, x9 => if x9 < x8 then (if 0 ≤ x9 then (if x9 < (x7.length : Int) then (if x9 ≤ (x0.length : Int) then ((table_next.f k (x0.take (x9 : Int).toNat) ((rd_T34 x7 x9).f0) ((rd_T34 x7 x9).f1) ((rd_T34 x7 x9).f2) ((rd_T34 x7 x9).f3) ((rd_T34 x7 x9).f4) ((rd_T34 x7 x9).f5) ((rd_T34 x7 x9).f6) ((rd_T34 x7 x9).f7)).bind fun t216 => (if t216 = 0 then (table_Check.l0 k x0 x7 x8 (wrap64 (x9 + 1))) else (some (wrap64 (x9 + 1), t216)))) else (none)) else (none)) else (none)) else (some (0, 0))
def table_Check.f (k : Nat) (l0 : List (S34)) : Option (Int × Int) := table_Check.l0 k l0 l0 (l0.length : Int) 0
set_option maxHeartbeats 8000000 in
set_option maxRecDepth 100000 in
theorem table_Check.calls (k : Nat) (A0 : Option Addr) (c0 : Nat) (l0 : List (S34)) (r1 : Int) (r2 : Int) (w : World) (hr0 : Kd.C k34 w A0 l0.length l0) (hc0 : l0.length ≤ c0) (hLd_ : Val.Laid w) (h : table_Check.f k l0 = some (r1, r2)) :
  Calls Tryz.prog 12 #[.slice A0 l0.length c0] w fun e w' => e = .returned (.tuple #[.int .i64 r1, .int .i64 r2]) ∧ Below w.heap.size w w' := by
 have hu34 := Tryz.underlying34
 have HR0 := Aside0.mk hr0
 have HC0 := Aside0.mk hc0
 clear hr0 hc0
 have HB := Aside0.mk (Below.refl w.heap.size w)
 have H : (table_Check.l0 k l0 l0 (l0.length : Int) 0) = some (r1, r2) := h
 clear h
 have H' := Aside0.mk H
 clear H
 go_enter Tryz.func12, Tryz.ntmps12
 go_wp2
 go_loopg [9] k (fun kq v9 w' => ∃ (x9_1 : Int), v9 = .int .i64 x9_1 ∧ Aside0 (table_Check.l0 kq l0 l0 (l0.length : Int) x9_1 = some (r1, r2)) ∧ Aside0 (kq ≤ k) ∧ Aside0 (Below w.heap.size w w'))
 case atStart => exact ⟨(0), zQx12a4_, H', ⟨Nat.le_refl _⟩, ⟨zQx12a2_⟩⟩
 case round =>
  clear H'
  try clear c1
  obtain ⟨x9_1, rfl, HA, HK1, HB⟩ := hrel
  cases gk with
  | zero => exact absurd HA.out (by simp [table_Check.l0])
  | succ k1 =>
   have H := HA.out
   clear HA
   simp only [table_Check.l0] at H
   by_cases c2 : x9_1 < (l0.length : Int)
   rotate_left
   ·
    rw [if_neg c2] at H
    have c2b0 : decide (x9_1 < (l0.length : Int)) = false := decide_eq_false c2
    clear c2
    simp only [Option.some.injEq, Prod.mk.injEq] at H
    obtain ⟨rfl, rfl⟩ := H
    go_wp2
    go_ret2
    exact ⟨zQx12a8_, zQx12a2_⟩
   rw [if_pos c2] at H
   have c2b0 : decide (x9_1 < (l0.length : Int)) = true := decide_eq_true c2
   clear c2
   have c3 : 0 ≤ x9_1 := znQx12_
   rw [if_pos c3] at H
   have c3b0 : decide (0 ≤ x9_1) = true := decide_eq_true c3
   clear c3
   have c4 : x9_1 < (l0.length : Int) := znQx12_
   rw [if_pos c4] at H
   have c4b0 : decide (x9_1 < (l0.length : Int)) = true := decide_eq_true c4
   clear c4
   have c5b0 := eq_true (of_decide_eq_true zQx12a3_ : 0 ≤ x9_1)
   have c6 : x9_1 ≤ (l0.length : Int) := znQx12_
   rw [if_pos c6] at H
   have c6b0 := eq_true c6
   have c6b1 : decide (x9_1 ≤ (l0.length : Int)) = true := decide_eq_true c6
   clear c6
   obtain ⟨y212, hy212⟩ : ∃ y_ : List (S34), y_ = (l0.take (x9_1 : Int).toNat) := ⟨_, rfl⟩
   replace H : ((table_next.f k1 y212 ((rd_T34 l0 x9_1).f0) ((rd_T34 l0 x9_1).f1) ((rd_T34 l0 x9_1).f2) ((rd_T34 l0 x9_1).f3) ((rd_T34 l0 x9_1).f4) ((rd_T34 l0 x9_1).f5) ((rd_T34 l0 x9_1).f6) ((rd_T34 l0 x9_1).f7)).bind fun t216 => (if t216 = 0 then (table_Check.l0 k1 l0 l0 (l0.length : Int) (wrap64 (x9_1 + 1))) else (some (wrap64 (x9_1 + 1), t216)))) = some (r1, r2) := by first | (rw [hy212]; with_reducible exact H) | (have H2_ := (Option.bind_some _ _).symm.trans H; rw [hy212]; with_reducible exact H2_) | (have H2_ := (Option.bind_some _ _).symm.trans H; with_reducible exact H2_) | with_reducible exact H | (rw [hy212]; exact H) | exact H
   have Ny212 := Aside0.mk hy212
   clear hy212
   replace H := Option.bind_eq_some_iff.mp H
   obtain ⟨t216, A70, H⟩ := H
   replace H : (if t216 = 0 then (table_Check.l0 k1 l0 l0 (l0.length : Int) (wrap64 (x9_1 + 1))) else (some (wrap64 (x9_1 + 1), t216))) = some (r1, r2) := H
   have A7 := Aside0.mk A70
   clear A70
   by_cases c8 : t216 = 0
   rotate_left
   ·
    rw [if_neg c8] at H
    have c8b0 : (t216 == 0) = false := beq_eq_false_iff_ne.mpr c8
    have c8b1 : (t216 != 0) = true := bne_iff_ne.mpr c8
    simp only [Option.some.injEq, Prod.mk.injEq] at H
    obtain ⟨rfl, rfl⟩ := H
    have p210 : 0 ≤ (x9_1 : Int) := of_decide_eq_true zQx12a3_
    have q210 : x9_1 < (l0.length : Int) := of_decide_eq_true zQx12a3_
    obtain ⟨ad210, e210, hx210_0, hx210_1, hx210_2, hx210_3, hx210_4, hx210_5, hx210_6, hx210_7⟩ := at_T34 HR0.out x9_1 p210 q210
    cases e210
    replace hx210_0 := (HB.out.cell (World.block_lt_of_cell? w _ hx210_0)).trans hx210_0
    replace hx210_1 := (HB.out.cell (World.block_lt_of_cell? w _ hx210_1)).trans hx210_1
    replace hx210_2 := (HB.out.cell (World.block_lt_of_cell? w _ hx210_2)).trans hx210_2
    replace hx210_3 := (HB.out.cell (World.block_lt_of_cell? w _ hx210_3)).trans hx210_3
    replace hx210_4 := (HB.out.cell (World.block_lt_of_cell? w _ hx210_4)).trans hx210_4
    replace hx210_5 := (HB.out.cell (World.block_lt_of_cell? w _ hx210_5)).trans hx210_5
    replace hx210_6 := (HB.out.cell (World.block_lt_of_cell? w _ hx210_6)).trans hx210_6
    replace hx210_7 := (HB.out.cell (World.block_lt_of_cell? w _ hx210_7)).trans hx210_7
    replace p210 := eq_true p210
    replace q210 := eq_true q210
    try go_wp2_with (first | ((with_reducible refine gate_dst (N := 5) rfl ?_); refine box_event ?hg (N := 5) ?hd (cs := #[.string (⟨#[]⟩ : ByteArray), .int .i64 0, .int .i64 0, .int .i64 0, .int .i64 0, .int .i64 0, .int .i64 0, .bool false]) (t := 34) ?hr ?_; (case hd => rfl); (case hg => rfl); (case hr => first | (go_simp; done) | (go_simp; rfl)); intro gb211 hg w15 hbox hb; have n0_ := Aside0.mk (below_step zQx12a2_ hb); have n1_ := Aside0.mk (hbox); have n2_ := Aside0.mk ((by rw [hg]; exact (below_size zQx12a2_) : w.heap.size ≤ gb211)); have n3_ := Aside0.mk ((by rw [hg]; exact (below_size zQx12a2_) : w.heap.size ≤ gb211)); clear HB; have HB := n0_; have BK211 := n1_; have GW211 := n2_; have GE211 := n3_; clear n0_ n1_ n2_ n3_; clear hb hbox hg; have hcz16_0 : w15.cell? ⟨gb211, 0, none⟩ = some (.string (⟨#[]⟩ : ByteArray)) := (blk_cell BK211.out 0).trans rfl; have hcz16_1 : w15.cell? ⟨gb211, 1, none⟩ = some (.int .i64 0) := (blk_cell BK211.out 1).trans rfl; have hcz16_2 : w15.cell? ⟨gb211, 2, none⟩ = some (.int .i64 0) := (blk_cell BK211.out 2).trans rfl; have hcz16_3 : w15.cell? ⟨gb211, 3, none⟩ = some (.int .i64 0) := (blk_cell BK211.out 3).trans rfl; have hcz16_4 : w15.cell? ⟨gb211, 4, none⟩ = some (.int .i64 0) := (blk_cell BK211.out 4).trans rfl; have hcz16_5 : w15.cell? ⟨gb211, 5, none⟩ = some (.int .i64 0) := (blk_cell BK211.out 5).trans rfl; have hcz16_6 : w15.cell? ⟨gb211, 6, none⟩ = some (.int .i64 0) := (blk_cell BK211.out 6).trans rfl; have hcz16_7 : w15.cell? ⟨gb211, 7, none⟩ = some (.bool false) := (blk_cell BK211.out 7).trans rfl; have hfz16_0 := blk_frozen BK211.out 0; have hfz16_1 := blk_frozen BK211.out 1; have hfz16_2 := blk_frozen BK211.out 2; have hfz16_3 := blk_frozen BK211.out 3; have hfz16_4 := blk_frozen BK211.out 4; have hfz16_5 := blk_frozen BK211.out 5; have hfz16_6 := blk_frozen BK211.out 6; have hfz16_7 := blk_frozen BK211.out 7))
    have n0_ : Aside0 (((((((((w15.setCell ⟨gb211, 0, none⟩ (.string ((rd_T34 l0 x9_1).f0))).setCell ⟨gb211, 1, none⟩ (.int .i64 ((rd_T34 l0 x9_1).f1))).setCell ⟨gb211, 2, none⟩ (.int .i64 ((rd_T34 l0 x9_1).f2))).setCell ⟨gb211, 3, none⟩ (.int .i64 ((rd_T34 l0 x9_1).f3))).setCell ⟨gb211, 4, none⟩ (.int .i64 ((rd_T34 l0 x9_1).f4))).setCell ⟨gb211, 5, none⟩ (.int .i64 ((rd_T34 l0 x9_1).f5))).setCell ⟨gb211, 6, none⟩ (.int .i64 ((rd_T34 l0 x9_1).f6))).setCell ⟨gb211, 7, none⟩ (.bool ((rd_T34 l0 x9_1).f7))).heap[gb211]? = some (.cells #[.string ((rd_T34 l0 x9_1).f0), .int .i64 ((rd_T34 l0 x9_1).f1), .int .i64 ((rd_T34 l0 x9_1).f2), .int .i64 ((rd_T34 l0 x9_1).f3), .int .i64 ((rd_T34 l0 x9_1).f4), .int .i64 ((rd_T34 l0 x9_1).f5), .int .i64 ((rd_T34 l0 x9_1).f6), .bool ((rd_T34 l0 x9_1).f7)] 34 (0, 0))) := ⟨zQx12a0_⟩
    have n1_ : Aside0 (Below w.heap.size w ((((((((w15.setCell ⟨gb211, 0, none⟩ (.string ((rd_T34 l0 x9_1).f0))).setCell ⟨gb211, 1, none⟩ (.int .i64 ((rd_T34 l0 x9_1).f1))).setCell ⟨gb211, 2, none⟩ (.int .i64 ((rd_T34 l0 x9_1).f2))).setCell ⟨gb211, 3, none⟩ (.int .i64 ((rd_T34 l0 x9_1).f3))).setCell ⟨gb211, 4, none⟩ (.int .i64 ((rd_T34 l0 x9_1).f4))).setCell ⟨gb211, 5, none⟩ (.int .i64 ((rd_T34 l0 x9_1).f5))).setCell ⟨gb211, 6, none⟩ (.int .i64 ((rd_T34 l0 x9_1).f6))).setCell ⟨gb211, 7, none⟩ (.bool ((rd_T34 l0 x9_1).f7)))) := ⟨zQx12a1_⟩
    (try clear BK211)
    (try clear HB)
    generalize ((((((((w15.setCell ⟨gb211, 0, none⟩ (.string ((rd_T34 l0 x9_1).f0))).setCell ⟨gb211, 1, none⟩ (.int .i64 ((rd_T34 l0 x9_1).f1))).setCell ⟨gb211, 2, none⟩ (.int .i64 ((rd_T34 l0 x9_1).f2))).setCell ⟨gb211, 3, none⟩ (.int .i64 ((rd_T34 l0 x9_1).f3))).setCell ⟨gb211, 4, none⟩ (.int .i64 ((rd_T34 l0 x9_1).f4))).setCell ⟨gb211, 5, none⟩ (.int .i64 ((rd_T34 l0 x9_1).f5))).setCell ⟨gb211, 6, none⟩ (.int .i64 ((rd_T34 l0 x9_1).f6))).setCell ⟨gb211, 7, none⟩ (.bool ((rd_T34 l0 x9_1).f7))) = w17 at n0_ n1_ ⊢
    have BK211 := n0_
    have HB := n1_
    clear n0_ n1_
    have n0_ := Aside0.mk (blk_drew BK211.out)
    have n1_ := Aside0.mk (below_drew1 HB.out)
    clear BK211
    clear HB
    have BK211 := n0_
    have HB := n1_
    clear n0_ n1_
    have q19 : (x9_1 : Int) ≤ ((l0.length : Int) : Int) := of_decide_eq_true zQx12a3_
    obtain ⟨i019, hi019, _, hsz19, _⟩ := info_parts info34
    have hroom19 : l0.length ≤ c0 := HC0.out
    have hC19 : Kd.C k34 _ (some ad210) l0.length l0 := HR0.out
    have hcut19 := cut_to (P := Tryz.prog) 22 34 .i64 Tryz.underlying22 hi019 (some ad210) l0.length c0 x9_1 (of_decide_eq_true zQx12a3_) q19 hroom19
    have hr19 := Kd.C_take (m := (x9_1 : Int).toNat) hC19 (by omega)
    have hy19 : y212.length = (x9_1 : Int).toNat := (by rw [Ny212.out, List.length_take]; omega)
    rw [← Ny212.out] at hr19
    rw [← hy19] at hcut19
    have HR215 := Aside0.mk hr19
    have HC215 := Aside0.mk (show y212.length ≤ c0 from by omega)
    clear hr19 hC19 hroom19 hi019 hsz19
    have KY19 := Aside0.mk hy19
    clear hy19
    replace q19 := eq_true q19
    refine start_ (n := 6) (S := fun w' => w'.cell? ⟨gb211, 0, none⟩ = some (.string ((rd_T34 l0 x9_1).f0)) ∧ w'.cell? ⟨gb211, 1, none⟩ = some (.int .i64 ((rd_T34 l0 x9_1).f1)) ∧ w'.cell? ⟨gb211, 2, none⟩ = some (.int .i64 ((rd_T34 l0 x9_1).f2)) ∧ w'.cell? ⟨gb211, 3, none⟩ = some (.int .i64 ((rd_T34 l0 x9_1).f3)) ∧ w'.cell? ⟨gb211, 4, none⟩ = some (.int .i64 ((rd_T34 l0 x9_1).f4)) ∧ w'.cell? ⟨gb211, 5, none⟩ = some (.int .i64 ((rd_T34 l0 x9_1).f5)) ∧ w'.cell? ⟨gb211, 6, none⟩ = some (.int .i64 ((rd_T34 l0 x9_1).f6)) ∧ w'.cell? ⟨gb211, 7, none⟩ = some (.bool ((rd_T34 l0 x9_1).f7))) (ds := []) #[false, false, false, false, false, false] (by kernel_rfl) rfl rfl ⟨(blk_cell BK211.out 0).trans rfl, (blk_cell BK211.out 1).trans rfl, (blk_cell BK211.out 2).trans rfl, (blk_cell BK211.out 3).trans rfl, (blk_cell BK211.out 4).trans rfl, (blk_cell BK211.out 5).trans rfl, (blk_cell BK211.out 6).trans rfl, (blk_cell BK211.out 7).trans rfl⟩ (fun hHeld => ?_)
    generalize w17.drew = w18 at BK211 HB HR215 hHeld ⊢
    refine pure_ (i := 0) (N := some 14) (v := ?_) (a' := ?_) #[true, false, false, false, false, false] rfl rfl (by kernel_rfl) (fun _ _ _ h => h) (Or.inl ⟨by rfl, ?_⟩) ?_ ?_
    rotate_left
    ·
     intro w'
     go_simp
     with_reducible rfl
    rotate_left
    ·
     simp only [Act.put, List.setIfInBounds_toArray, List.set_cons_zero, List.set_cons_succ, i64_w, i32_w]
     rfl
    refine pure_ (i := 1) (N := some 15) (v := ?_) (a' := ?_) #[true, true, false, false, false, false] rfl rfl (by kernel_rfl) (fun _ _ _ h => h) (Or.inl ⟨by rfl, ?_⟩) ?_ ?_
    rotate_left
    ·
     intro w'
     go_simp
     with_reducible rfl
    rotate_left
    ·
     simp only [Act.put, List.setIfInBounds_toArray, List.set_cons_zero, List.set_cons_succ, i64_w, i32_w]
     rfl
    refine pure_ (i := 2) (N := some 16) (v := ?_) (a' := ?_) #[true, true, true, false, false, false] rfl rfl (by kernel_rfl) (fun _ _ _ h => h) (Or.inl ⟨by rfl, ?_⟩) ?_ ?_
    rotate_left
    ·
     intro w'
     go_simp
     with_reducible rfl
    rotate_left
    ·
     simp only [Act.put, List.setIfInBounds_toArray, List.set_cons_zero, List.set_cons_succ, i64_w, i32_w]
     rfl
    refine take_ (i := 3) (N := some 17) (v := ?_) (a' := ?_) #[true, true, true, true, false, false] rfl rfl (by kernel_rfl) (fun _ _ _ h => h) (Or.inl ⟨by rfl, ?_⟩) hHeld ?_ ?_
    rotate_left
    ·
     rintro w' ⟨s0, s1, s2, s3, s4, s5, s6, s7⟩
     go_simp
     with_reducible rfl
    rotate_left
    ·
     simp only [Act.put, List.setIfInBounds_toArray, List.set_cons_zero, List.set_cons_succ, i64_w, i32_w]
     rfl
    refine one_ (i := 4) (N := some 18) #[true, true, true, true, true, false] rfl rfl (by kernel_rfl) (by decide) (fun K hK => ?_)
    refine goes_ Tryz.func24 (by kernel_rfl) rfl #[.slice (some ad210) y212.length c0, .agg #[.string ((rd_T34 l0 x9_1).f0), .int .i64 ((rd_T34 l0 x9_1).f1), .int .i64 ((rd_T34 l0 x9_1).f2), .int .i64 ((rd_T34 l0 x9_1).f3), .int .i64 ((rd_T34 l0 x9_1).f4), .int .i64 ((rd_T34 l0 x9_1).f5), .int .i64 ((rd_T34 l0 x9_1).f6), .bool ((rd_T34 l0 x9_1).f7)]] (by rfl) rfl rfl zQx12a6_ ?_
    with_reducible refine (table_next.calls k1 _ _ y212 ((rd_T34 l0 x9_1).f0) ((rd_T34 l0 x9_1).f1) ((rd_T34 l0 x9_1).f2) ((rd_T34 l0 x9_1).f3) ((rd_T34 l0 x9_1).f4) ((rd_T34 l0 x9_1).f5) ((rd_T34 l0 x9_1).f6) ((rd_T34 l0 x9_1).f7) t216 _ ?side1 ?side2 (Val.Laid.below hLd_ zQx12a1_) A7.out).mono ?_
    (case side1 => repeat (first | exact (Kd.C_below HR215.out HB.out) | (with_reducible refine Kd.C_alloc ?_ _) | (with_reducible refine Kd.C_drewN ?_ _) | (with_reducible refine Kd.C_drew ?_)))
    (case side2 => exact HC215.out)
    rintro e w20 ⟨rfl, hb⟩
    refine ⟨_, rfl, ?_⟩
    have n0_ := Aside0.mk (blk_below (g := gb211) (o := .cells #[.string ((rd_T34 l0 x9_1).f0), .int .i64 ((rd_T34 l0 x9_1).f1), .int .i64 ((rd_T34 l0 x9_1).f2), .int .i64 ((rd_T34 l0 x9_1).f3), .int .i64 ((rd_T34 l0 x9_1).f4), .int .i64 ((rd_T34 l0 x9_1).f5), .int .i64 ((rd_T34 l0 x9_1).f6), .bool ((rd_T34 l0 x9_1).f7)] 34 (0, 0)) zQx12a7_ hb)
    have n1_ := Aside0.mk (below_step zQx12a1_ hb)
    clear BK211
    clear HB
    have BK211 := n0_
    have HB := n1_
    clear n0_ n1_
    (try clear hb)
    (try clear hb2)
    (try clear hk)
    (try clear hi)
    refine hK.out _ _ ⟨(blk_cell BK211.out 0).trans rfl, (blk_cell BK211.out 1).trans rfl, (blk_cell BK211.out 2).trans rfl, (blk_cell BK211.out 3).trans rfl, (blk_cell BK211.out 4).trans rfl, (blk_cell BK211.out 5).trans rfl, (blk_cell BK211.out 6).trans rfl, (blk_cell BK211.out 7).trans rfl⟩ (fun hHeld => ?_)
    clear hK K
    refine norm_ (a' := ?_) ?_ ?_
    rotate_left
    ·
     show Act.put _ (some 18) _ = _
     simp only [Act.put, List.setIfInBounds_toArray, List.set_cons_zero, List.set_cons_succ, i64_w, i32_w]
     rfl
    refine pure_ (i := 5) (N := some 6) (v := ?_) (a' := ?_) #[true, true, true, true, true, true] rfl rfl (by kernel_rfl) (fun _ _ _ h => h) (Or.inl ⟨by rfl, ?_⟩) ?_ ?_
    rotate_left
    ·
     intro w'
     go_simp
     with_reducible rfl
    rotate_left
    ·
     simp only [Act.put, List.setIfInBounds_toArray, List.set_cons_zero, List.set_cons_succ, i64_w, i32_w]
     rfl
    refine done_ (by kernel_rfl) ?_
    try go_wp2
    go_ret2
    exact ⟨zQx12a8_, zQx12a1_⟩
   rw [if_pos c8] at H
   have c8b0 : (t216 == 0) = true := beq_iff_eq.mpr c8
   have c8b1 : (t216 != 0) = false := bne_eq_false_iff_eq.mpr c8
   clear c8
   have H' := Aside0.mk H
   clear H
   have p210 : 0 ≤ (x9_1 : Int) := of_decide_eq_true zQx12a3_
   have q210 : x9_1 < (l0.length : Int) := of_decide_eq_true zQx12a3_
   obtain ⟨ad210, e210, hx210_0, hx210_1, hx210_2, hx210_3, hx210_4, hx210_5, hx210_6, hx210_7⟩ := at_T34 HR0.out x9_1 p210 q210
   cases e210
   replace hx210_0 := (HB.out.cell (World.block_lt_of_cell? w _ hx210_0)).trans hx210_0
   replace hx210_1 := (HB.out.cell (World.block_lt_of_cell? w _ hx210_1)).trans hx210_1
   replace hx210_2 := (HB.out.cell (World.block_lt_of_cell? w _ hx210_2)).trans hx210_2
   replace hx210_3 := (HB.out.cell (World.block_lt_of_cell? w _ hx210_3)).trans hx210_3
   replace hx210_4 := (HB.out.cell (World.block_lt_of_cell? w _ hx210_4)).trans hx210_4
   replace hx210_5 := (HB.out.cell (World.block_lt_of_cell? w _ hx210_5)).trans hx210_5
   replace hx210_6 := (HB.out.cell (World.block_lt_of_cell? w _ hx210_6)).trans hx210_6
   replace hx210_7 := (HB.out.cell (World.block_lt_of_cell? w _ hx210_7)).trans hx210_7
   replace p210 := eq_true p210
   replace q210 := eq_true q210
   try go_wp2_with (first | ((with_reducible refine gate_dst (N := 5) rfl ?_); refine box_event ?hg (N := 5) ?hd (cs := #[.string (⟨#[]⟩ : ByteArray), .int .i64 0, .int .i64 0, .int .i64 0, .int .i64 0, .int .i64 0, .int .i64 0, .bool false]) (t := 34) ?hr ?_; (case hd => rfl); (case hg => rfl); (case hr => first | (go_simp; done) | (go_simp; rfl)); intro gb211 hg w9 hbox hb; have n0_ := Aside0.mk (below_step zQx12a2_ hb); have n1_ := Aside0.mk (hbox); have n2_ := Aside0.mk ((by rw [hg]; exact (below_size zQx12a2_) : w.heap.size ≤ gb211)); have n3_ := Aside0.mk ((by rw [hg]; exact (below_size zQx12a2_) : w.heap.size ≤ gb211)); clear HB; have HB := n0_; have BK211 := n1_; have GW211 := n2_; have GE211 := n3_; clear n0_ n1_ n2_ n3_; clear hb hbox hg; have hcz10_0 : w9.cell? ⟨gb211, 0, none⟩ = some (.string (⟨#[]⟩ : ByteArray)) := (blk_cell BK211.out 0).trans rfl; have hcz10_1 : w9.cell? ⟨gb211, 1, none⟩ = some (.int .i64 0) := (blk_cell BK211.out 1).trans rfl; have hcz10_2 : w9.cell? ⟨gb211, 2, none⟩ = some (.int .i64 0) := (blk_cell BK211.out 2).trans rfl; have hcz10_3 : w9.cell? ⟨gb211, 3, none⟩ = some (.int .i64 0) := (blk_cell BK211.out 3).trans rfl; have hcz10_4 : w9.cell? ⟨gb211, 4, none⟩ = some (.int .i64 0) := (blk_cell BK211.out 4).trans rfl; have hcz10_5 : w9.cell? ⟨gb211, 5, none⟩ = some (.int .i64 0) := (blk_cell BK211.out 5).trans rfl; have hcz10_6 : w9.cell? ⟨gb211, 6, none⟩ = some (.int .i64 0) := (blk_cell BK211.out 6).trans rfl; have hcz10_7 : w9.cell? ⟨gb211, 7, none⟩ = some (.bool false) := (blk_cell BK211.out 7).trans rfl; have hfz10_0 := blk_frozen BK211.out 0; have hfz10_1 := blk_frozen BK211.out 1; have hfz10_2 := blk_frozen BK211.out 2; have hfz10_3 := blk_frozen BK211.out 3; have hfz10_4 := blk_frozen BK211.out 4; have hfz10_5 := blk_frozen BK211.out 5; have hfz10_6 := blk_frozen BK211.out 6; have hfz10_7 := blk_frozen BK211.out 7))
   have n0_ : Aside0 (((((((((w9.setCell ⟨gb211, 0, none⟩ (.string ((rd_T34 l0 x9_1).f0))).setCell ⟨gb211, 1, none⟩ (.int .i64 ((rd_T34 l0 x9_1).f1))).setCell ⟨gb211, 2, none⟩ (.int .i64 ((rd_T34 l0 x9_1).f2))).setCell ⟨gb211, 3, none⟩ (.int .i64 ((rd_T34 l0 x9_1).f3))).setCell ⟨gb211, 4, none⟩ (.int .i64 ((rd_T34 l0 x9_1).f4))).setCell ⟨gb211, 5, none⟩ (.int .i64 ((rd_T34 l0 x9_1).f5))).setCell ⟨gb211, 6, none⟩ (.int .i64 ((rd_T34 l0 x9_1).f6))).setCell ⟨gb211, 7, none⟩ (.bool ((rd_T34 l0 x9_1).f7))).heap[gb211]? = some (.cells #[.string ((rd_T34 l0 x9_1).f0), .int .i64 ((rd_T34 l0 x9_1).f1), .int .i64 ((rd_T34 l0 x9_1).f2), .int .i64 ((rd_T34 l0 x9_1).f3), .int .i64 ((rd_T34 l0 x9_1).f4), .int .i64 ((rd_T34 l0 x9_1).f5), .int .i64 ((rd_T34 l0 x9_1).f6), .bool ((rd_T34 l0 x9_1).f7)] 34 (0, 0))) := ⟨zQx12a0_⟩
   have n1_ : Aside0 (Below w.heap.size w ((((((((w9.setCell ⟨gb211, 0, none⟩ (.string ((rd_T34 l0 x9_1).f0))).setCell ⟨gb211, 1, none⟩ (.int .i64 ((rd_T34 l0 x9_1).f1))).setCell ⟨gb211, 2, none⟩ (.int .i64 ((rd_T34 l0 x9_1).f2))).setCell ⟨gb211, 3, none⟩ (.int .i64 ((rd_T34 l0 x9_1).f3))).setCell ⟨gb211, 4, none⟩ (.int .i64 ((rd_T34 l0 x9_1).f4))).setCell ⟨gb211, 5, none⟩ (.int .i64 ((rd_T34 l0 x9_1).f5))).setCell ⟨gb211, 6, none⟩ (.int .i64 ((rd_T34 l0 x9_1).f6))).setCell ⟨gb211, 7, none⟩ (.bool ((rd_T34 l0 x9_1).f7)))) := ⟨zQx12a1_⟩
   (try clear BK211)
   (try clear HB)
   generalize ((((((((w9.setCell ⟨gb211, 0, none⟩ (.string ((rd_T34 l0 x9_1).f0))).setCell ⟨gb211, 1, none⟩ (.int .i64 ((rd_T34 l0 x9_1).f1))).setCell ⟨gb211, 2, none⟩ (.int .i64 ((rd_T34 l0 x9_1).f2))).setCell ⟨gb211, 3, none⟩ (.int .i64 ((rd_T34 l0 x9_1).f3))).setCell ⟨gb211, 4, none⟩ (.int .i64 ((rd_T34 l0 x9_1).f4))).setCell ⟨gb211, 5, none⟩ (.int .i64 ((rd_T34 l0 x9_1).f5))).setCell ⟨gb211, 6, none⟩ (.int .i64 ((rd_T34 l0 x9_1).f6))).setCell ⟨gb211, 7, none⟩ (.bool ((rd_T34 l0 x9_1).f7))) = w11 at n0_ n1_ ⊢
   have BK211 := n0_
   have HB := n1_
   clear n0_ n1_
   have n0_ := Aside0.mk (blk_drew BK211.out)
   have n1_ := Aside0.mk (below_drew1 HB.out)
   clear BK211
   clear HB
   have BK211 := n0_
   have HB := n1_
   clear n0_ n1_
   have q13 : (x9_1 : Int) ≤ ((l0.length : Int) : Int) := of_decide_eq_true zQx12a3_
   obtain ⟨i013, hi013, _, hsz13, _⟩ := info_parts info34
   have hroom13 : l0.length ≤ c0 := HC0.out
   have hC13 : Kd.C k34 _ (some ad210) l0.length l0 := HR0.out
   have hcut13 := cut_to (P := Tryz.prog) 22 34 .i64 Tryz.underlying22 hi013 (some ad210) l0.length c0 x9_1 (of_decide_eq_true zQx12a3_) q13 hroom13
   have hr13 := Kd.C_take (m := (x9_1 : Int).toNat) hC13 (by omega)
   have hy13 : y212.length = (x9_1 : Int).toNat := (by rw [Ny212.out, List.length_take]; omega)
   rw [← Ny212.out] at hr13
   rw [← hy13] at hcut13
   have HR215 := Aside0.mk hr13
   have HC215 := Aside0.mk (show y212.length ≤ c0 from by omega)
   clear hr13 hC13 hroom13 hi013 hsz13
   have KY13 := Aside0.mk hy13
   clear hy13
   replace q13 := eq_true q13
   refine start_ (n := 6) (S := fun w' => w'.cell? ⟨gb211, 0, none⟩ = some (.string ((rd_T34 l0 x9_1).f0)) ∧ w'.cell? ⟨gb211, 1, none⟩ = some (.int .i64 ((rd_T34 l0 x9_1).f1)) ∧ w'.cell? ⟨gb211, 2, none⟩ = some (.int .i64 ((rd_T34 l0 x9_1).f2)) ∧ w'.cell? ⟨gb211, 3, none⟩ = some (.int .i64 ((rd_T34 l0 x9_1).f3)) ∧ w'.cell? ⟨gb211, 4, none⟩ = some (.int .i64 ((rd_T34 l0 x9_1).f4)) ∧ w'.cell? ⟨gb211, 5, none⟩ = some (.int .i64 ((rd_T34 l0 x9_1).f5)) ∧ w'.cell? ⟨gb211, 6, none⟩ = some (.int .i64 ((rd_T34 l0 x9_1).f6)) ∧ w'.cell? ⟨gb211, 7, none⟩ = some (.bool ((rd_T34 l0 x9_1).f7))) (ds := []) #[false, false, false, false, false, false] (by kernel_rfl) rfl rfl ⟨(blk_cell BK211.out 0).trans rfl, (blk_cell BK211.out 1).trans rfl, (blk_cell BK211.out 2).trans rfl, (blk_cell BK211.out 3).trans rfl, (blk_cell BK211.out 4).trans rfl, (blk_cell BK211.out 5).trans rfl, (blk_cell BK211.out 6).trans rfl, (blk_cell BK211.out 7).trans rfl⟩ (fun hHeld => ?_)
   generalize w11.drew = w12 at BK211 HB HR215 hHeld ⊢
   refine pure_ (i := 0) (N := some 14) (v := ?_) (a' := ?_) #[true, false, false, false, false, false] rfl rfl (by kernel_rfl) (fun _ _ _ h => h) (Or.inl ⟨by rfl, ?_⟩) ?_ ?_
   rotate_left
   ·
    intro w'
    go_simp
    with_reducible rfl
   rotate_left
   ·
    simp only [Act.put, List.setIfInBounds_toArray, List.set_cons_zero, List.set_cons_succ, i64_w, i32_w]
    rfl
   refine pure_ (i := 1) (N := some 15) (v := ?_) (a' := ?_) #[true, true, false, false, false, false] rfl rfl (by kernel_rfl) (fun _ _ _ h => h) (Or.inl ⟨by rfl, ?_⟩) ?_ ?_
   rotate_left
   ·
    intro w'
    go_simp
    with_reducible rfl
   rotate_left
   ·
    simp only [Act.put, List.setIfInBounds_toArray, List.set_cons_zero, List.set_cons_succ, i64_w, i32_w]
    rfl
   refine pure_ (i := 2) (N := some 16) (v := ?_) (a' := ?_) #[true, true, true, false, false, false] rfl rfl (by kernel_rfl) (fun _ _ _ h => h) (Or.inl ⟨by rfl, ?_⟩) ?_ ?_
   rotate_left
   ·
    intro w'
    go_simp
    with_reducible rfl
   rotate_left
   ·
    simp only [Act.put, List.setIfInBounds_toArray, List.set_cons_zero, List.set_cons_succ, i64_w, i32_w]
    rfl
   refine take_ (i := 3) (N := some 17) (v := ?_) (a' := ?_) #[true, true, true, true, false, false] rfl rfl (by kernel_rfl) (fun _ _ _ h => h) (Or.inl ⟨by rfl, ?_⟩) hHeld ?_ ?_
   rotate_left
   ·
    rintro w' ⟨s0, s1, s2, s3, s4, s5, s6, s7⟩
    go_simp
    with_reducible rfl
   rotate_left
   ·
    simp only [Act.put, List.setIfInBounds_toArray, List.set_cons_zero, List.set_cons_succ, i64_w, i32_w]
    rfl
   refine one_ (i := 4) (N := some 18) #[true, true, true, true, true, false] rfl rfl (by kernel_rfl) (by decide) (fun K hK => ?_)
   refine goes_ Tryz.func24 (by kernel_rfl) rfl #[.slice (some ad210) y212.length c0, .agg #[.string ((rd_T34 l0 x9_1).f0), .int .i64 ((rd_T34 l0 x9_1).f1), .int .i64 ((rd_T34 l0 x9_1).f2), .int .i64 ((rd_T34 l0 x9_1).f3), .int .i64 ((rd_T34 l0 x9_1).f4), .int .i64 ((rd_T34 l0 x9_1).f5), .int .i64 ((rd_T34 l0 x9_1).f6), .bool ((rd_T34 l0 x9_1).f7)]] (by rfl) rfl rfl zQx12a6_ ?_
   with_reducible refine (table_next.calls k1 _ _ y212 ((rd_T34 l0 x9_1).f0) ((rd_T34 l0 x9_1).f1) ((rd_T34 l0 x9_1).f2) ((rd_T34 l0 x9_1).f3) ((rd_T34 l0 x9_1).f4) ((rd_T34 l0 x9_1).f5) ((rd_T34 l0 x9_1).f6) ((rd_T34 l0 x9_1).f7) t216 _ ?side1 ?side2 (Val.Laid.below hLd_ zQx12a1_) A7.out).mono ?_
   (case side1 => repeat (first | exact (Kd.C_below HR215.out HB.out) | (with_reducible refine Kd.C_alloc ?_ _) | (with_reducible refine Kd.C_drewN ?_ _) | (with_reducible refine Kd.C_drew ?_)))
   (case side2 => exact HC215.out)
   rintro e w14 ⟨rfl, hb⟩
   refine ⟨_, rfl, ?_⟩
   have n0_ := Aside0.mk (blk_below (g := gb211) (o := .cells #[.string ((rd_T34 l0 x9_1).f0), .int .i64 ((rd_T34 l0 x9_1).f1), .int .i64 ((rd_T34 l0 x9_1).f2), .int .i64 ((rd_T34 l0 x9_1).f3), .int .i64 ((rd_T34 l0 x9_1).f4), .int .i64 ((rd_T34 l0 x9_1).f5), .int .i64 ((rd_T34 l0 x9_1).f6), .bool ((rd_T34 l0 x9_1).f7)] 34 (0, 0)) zQx12a7_ hb)
   have n1_ := Aside0.mk (below_step zQx12a1_ hb)
   clear BK211
   clear HB
   have BK211 := n0_
   have HB := n1_
   clear n0_ n1_
   (try clear hb)
   (try clear hb2)
   (try clear hk)
   (try clear hi)
   refine hK.out _ _ ⟨(blk_cell BK211.out 0).trans rfl, (blk_cell BK211.out 1).trans rfl, (blk_cell BK211.out 2).trans rfl, (blk_cell BK211.out 3).trans rfl, (blk_cell BK211.out 4).trans rfl, (blk_cell BK211.out 5).trans rfl, (blk_cell BK211.out 6).trans rfl, (blk_cell BK211.out 7).trans rfl⟩ (fun hHeld => ?_)
   clear hK K
   refine norm_ (a' := ?_) ?_ ?_
   rotate_left
   ·
    show Act.put _ (some 18) _ = _
    simp only [Act.put, List.setIfInBounds_toArray, List.set_cons_zero, List.set_cons_succ, i64_w, i32_w]
    rfl
   refine pure_ (i := 5) (N := some 6) (v := ?_) (a' := ?_) #[true, true, true, true, true, true] rfl rfl (by kernel_rfl) (fun _ _ _ h => h) (Or.inl ⟨by rfl, ?_⟩) ?_ ?_
   rotate_left
   ·
    intro w'
    go_simp
    with_reducible rfl
   rotate_left
   ·
    simp only [Act.put, List.setIfInBounds_toArray, List.set_cons_zero, List.set_cons_succ, i64_w, i32_w]
    rfl
   refine done_ (by kernel_rfl) ?_
   try go_wp2
   go_roundg k1
   case measure => have := HK1.out; omega
   case rel => exact ⟨(wrap64 (x9_1 + 1)), zQx12a4_, H', ⟨by have := HK1.out; omega⟩, ⟨zQx12a1_⟩⟩
end Go.Proofs.YtbfhiiokajbdhaaGreatDoor.Q
