/- What the proof of TablePrints leans on: Qx17. -/
import Derived.Test.YtbfhiiokajbdhaaGreatDoorSTablePrintsQx0
import Derived.Test.YtbfhiiokajbdhaaGreatDoorSTablePrintsQx16
namespace Go.Proofs.YtbfhiiokajbdhaaGreatDoor.Q
open Go.RowKit Go.Proofs.YtbfhiiokajbdhaaGreatDoorW.PrintWords Go.Proofs.YtbfhiiokajbdhaaGreatDoorW.PrintLast Go.Proofs.YtbfhiiokajbdhaaGreatDoorW.PrintMore
attribute [local go_sem] max2_int max_two
set_option linter.unusedVariables false
set_option linter.unusedSimpArgs false
theorem zQx17a0_ {P_ : Prop} (h_ : P_ := by (with_reducible repeat (first | refine blk_drewN ?_ _ | refine blk_drew ?_ | refine blk_alloc ?_ _)); refine blk_put (cs := #[.string ((rd_T34 l0 x4_1).f0), .int .i64 ((rd_T34 l0 x4_1).f1), .int .i64 ((rd_T34 l0 x4_1).f2), .int .i64 ((rd_T34 l0 x4_1).f3), .int .i64 ((rd_T34 l0 x4_1).f4), .int .i64 ((rd_T34 l0 x4_1).f5), .int .i64 ((rd_T34 l0 x4_1).f6), .bool false]) ?_ 7 _ rfl; (with_reducible repeat (first | refine blk_drewN ?_ _ | refine blk_drew ?_ | refine blk_alloc ?_ _)); refine blk_put (cs := #[.string ((rd_T34 l0 x4_1).f0), .int .i64 ((rd_T34 l0 x4_1).f1), .int .i64 ((rd_T34 l0 x4_1).f2), .int .i64 ((rd_T34 l0 x4_1).f3), .int .i64 ((rd_T34 l0 x4_1).f4), .int .i64 ((rd_T34 l0 x4_1).f5), .int .i64 0, .bool false]) ?_ 6 _ rfl; (with_reducible repeat (first | refine blk_drewN ?_ _ | refine blk_drew ?_ | refine blk_alloc ?_ _)); refine blk_put (cs := #[.string ((rd_T34 l0 x4_1).f0), .int .i64 ((rd_T34 l0 x4_1).f1), .int .i64 ((rd_T34 l0 x4_1).f2), .int .i64 ((rd_T34 l0 x4_1).f3), .int .i64 ((rd_T34 l0 x4_1).f4), .int .i64 0, .int .i64 0, .bool false]) ?_ 5 _ rfl; (with_reducible repeat (first | refine blk_drewN ?_ _ | refine blk_drew ?_ | refine blk_alloc ?_ _)); refine blk_put (cs := #[.string ((rd_T34 l0 x4_1).f0), .int .i64 ((rd_T34 l0 x4_1).f1), .int .i64 ((rd_T34 l0 x4_1).f2), .int .i64 ((rd_T34 l0 x4_1).f3), .int .i64 0, .int .i64 0, .int .i64 0, .bool false]) ?_ 4 _ rfl; (with_reducible repeat (first | refine blk_drewN ?_ _ | refine blk_drew ?_ | refine blk_alloc ?_ _)); refine blk_put (cs := #[.string ((rd_T34 l0 x4_1).f0), .int .i64 ((rd_T34 l0 x4_1).f1), .int .i64 ((rd_T34 l0 x4_1).f2), .int .i64 0, .int .i64 0, .int .i64 0, .int .i64 0, .bool false]) ?_ 3 _ rfl; (with_reducible repeat (first | refine blk_drewN ?_ _ | refine blk_drew ?_ | refine blk_alloc ?_ _)); refine blk_put (cs := #[.string ((rd_T34 l0 x4_1).f0), .int .i64 ((rd_T34 l0 x4_1).f1), .int .i64 0, .int .i64 0, .int .i64 0, .int .i64 0, .int .i64 0, .bool false]) ?_ 2 _ rfl; (with_reducible repeat (first | refine blk_drewN ?_ _ | refine blk_drew ?_ | refine blk_alloc ?_ _)); refine blk_put (cs := #[.string ((rd_T34 l0 x4_1).f0), .int .i64 0, .int .i64 0, .int .i64 0, .int .i64 0, .int .i64 0, .int .i64 0, .bool false]) ?_ 1 _ rfl; (with_reducible repeat (first | refine blk_drewN ?_ _ | refine blk_drew ?_ | refine blk_alloc ?_ _)); refine blk_put (cs := #[.string (⟨#[]⟩ : ByteArray), .int .i64 0, .int .i64 0, .int .i64 0, .int .i64 0, .int .i64 0, .int .i64 0, .bool false]) ?_ 0 _ rfl; (with_reducible repeat (first | refine blk_drewN ?_ _ | refine blk_drew ?_ | refine blk_alloc ?_ _)); exact BK254.out) : P_ := h_
theorem zQx17a1_ {P_ : Prop} (h_ : P_ := by repeat (first | (with_reducible first | exact HB.out | apply below_alloc | apply pw_below_drewN | apply below_drew1 | refine below_set ?_ GE254.out) | exact HB.out)) : P_ := h_
theorem zQx17a2_ {P_ : Prop} (h_ : P_ := by (try simp only [List.map_toArray, List.map_cons, List.map_nil]); first | done | rfl | (simp only [List.length_drop, List.length_take]; rfl)) : P_ := h_
theorem zQx17a3_ {P_ : Prop} (h_ : P_ := by (with_reducible repeat (first | refine blk_drewN ?_ _ | refine blk_drew ?_ | refine blk_alloc ?_ _)); exact BK254.out) : P_ := h_
theorem zQx17a4_ {P_ : Prop} (h_ : P_ := by repeat (first | (with_reducible first | exact HB.out | apply below_alloc | apply pw_below_drewN | apply below_drew1) | exact HB.out)) : P_ := h_
theorem zQx17a5_ {P_ : Prop} (h_ : P_ := by first | rfl | (simp; done) | (simp [*]; done)) : P_ := h_
theorem zQx17a6_ {P_ : Prop} (h_ : P_ := by first | (with_reducible assumption) | assumption) : P_ := h_
theorem znQx17_ {X_ : Prop} [Decidable X_] (h_ : ¬ X_ → False := by intro c_; rw [if_neg c_] at H; exact absurd H (by simp)) : X_ := Decidable.byContradiction h_
def basculeref21_Print.l0 : Nat → List (S34) → ByteArray → Int → Option (ByteArray)
 | 0, _, _, _ => none
 | k + 1, x0, x3, x4 => if x4 < (x0.length : Int) then (if 0 ≤ x4 then (if x3.size + ((rd_T34 x0 x4).f0).size ≤ 9223372036854775807 then (if (x3 ++ ((rd_T34 x0 x4).f0)).size + 1 ≤ 9223372036854775807 then ((basculeref21_Dec.f k ((rd_T34 x0 x4).f1)).bind fun t255 => (if ((x3 ++ ((rd_T34 x0 x4).f0)) ++ (⟨#[32]⟩ : ByteArray)).size + t255.size ≤ 9223372036854775807 then (if (((x3 ++ ((rd_T34 x0 x4).f0)) ++ (⟨#[32]⟩ : ByteArray)) ++ t255).size + 1 ≤ 9223372036854775807 then ((basculeref21_Dec.f k ((rd_T34 x0 x4).f2)).bind fun t256 => (if ((((x3 ++ ((rd_T34 x0 x4).f0)) ++ (⟨#[32]⟩ : ByteArray)) ++ t255) ++ (⟨#[32]⟩ : ByteArray)).size + t256.size ≤ 9223372036854775807 then (if (((((x3 ++ ((rd_T34 x0 x4).f0)) ++ (⟨#[32]⟩ : ByteArray)) ++ t255) ++ (⟨#[32]⟩ : ByteArray)) ++ t256).size + 1 ≤ 9223372036854775807 then ((basculeref21_Dec.f k ((rd_T34 x0 x4).f3)).bind fun t257 => (if ((((((x3 ++ ((rd_T34 x0 x4).f0)) ++ (⟨#[32]⟩ : ByteArray)) ++ t255) ++ (⟨#[32]⟩ : ByteArray)) ++ t256) ++ (⟨#[32]⟩ : ByteArray)).size + t257.size ≤ 9223372036854775807 then (if (((((((x3 ++ ((rd_T34 x0 x4).f0)) ++ (⟨#[32]⟩ : ByteArray)) ++ t255) ++ (⟨#[32]⟩ : ByteArray)) ++ t256) ++ (⟨#[32]⟩ : ByteArray)) ++ t257).size + 1 ≤ 9223372036854775807 then ((basculeref21_Dec.f k ((rd_T34 x0 x4).f4)).bind fun t258 => (if ((((((((x3 ++ ((rd_T34 x0 x4).f0)) ++ (⟨#[32]⟩ : ByteArray)) ++ t255) ++ (⟨#[32]⟩ : ByteArray)) ++ t256) ++ (⟨#[32]⟩ : ByteArray)) ++ t257) ++ (⟨#[32]⟩ : ByteArray)).size + t258.size ≤ 9223372036854775807 then (if (((((((((x3 ++ ((rd_T34 x0 x4).f0)) ++ (⟨#[32]⟩ : ByteArray)) ++ t255) ++ (⟨#[32]⟩ : ByteArray)) ++ t256) ++ (⟨#[32]⟩ : ByteArray)) ++ t257) ++ (⟨#[32]⟩ : ByteArray)) ++ t258).size + 1 ≤ 9223372036854775807 then ((basculeref21_Dec.f k ((rd_T34 x0 x4).f5)).bind fun t259 => (if ((((((((((x3 ++ ((rd_T34 x0 x4).f0)) ++ (⟨#[32]⟩ : ByteArray)) ++ t255) ++ (⟨#[32]⟩ : ByteArray)) ++ t256) ++ (⟨#[32]⟩ : ByteArray)) ++ t257) ++ (⟨#[32]⟩ : ByteArray)) ++ t258) ++ (⟨#[32]⟩ : ByteArray)).size + t259.size ≤ 9223372036854775807 then (if (((((((((((x3 ++ ((rd_T34 x0 x4).f0)) ++ (⟨#[32]⟩ : ByteArray)) ++ t255) ++ (⟨#[32]⟩ : ByteArray)) ++ t256) ++ (⟨#[32]⟩ : ByteArray)) ++ t257) ++ (⟨#[32]⟩ : ByteArray)) ++ t258) ++ (⟨#[32]⟩ : ByteArray)) ++ t259).size + 1 ≤ 9223372036854775807 then ((basculeref21_Dec.f k ((rd_T34 x0 x4).f6)).bind fun t260 => (if ((((((((((((x3 ++ ((rd_T34 x0 x4).f0)) ++ (⟨#[32]⟩ : ByteArray)) ++ t255) ++ (⟨#[32]⟩ : ByteArray)) ++ t256) ++ (⟨#[32]⟩ : ByteArray)) ++ t257) ++ (⟨#[32]⟩ : ByteArray)) ++ t258) ++ (⟨#[32]⟩ : ByteArray)) ++ t259) ++ (⟨#[32]⟩ : ByteArray)).size + t260.size ≤ 9223372036854775807 then (if (rd_T34 x0 x4).f7 = true then (if (((((((((((((x3 ++ ((rd_T34 x0 x4).f0)) ++ (⟨#[32]⟩ : ByteArray)) ++ t255) ++ (⟨#[32]⟩ : ByteArray)) ++ t256) ++ (⟨#[32]⟩ : ByteArray)) ++ t257) ++ (⟨#[32]⟩ : ByteArray)) ++ t258) ++ (⟨#[32]⟩ : ByteArray)) ++ t259) ++ (⟨#[32]⟩ : ByteArray)) ++ t260).size + 3 ≤ 9223372036854775807 then (basculeref21_Print.l0 k x0 ((((((((((((((x3 ++ ((rd_T34 x0 x4).f0)) ++ (⟨#[32]⟩ : ByteArray)) ++ t255) ++ (⟨#[32]⟩ : ByteArray)) ++ t256) ++ (⟨#[32]⟩ : ByteArray)) ++ t257) ++ (⟨#[32]⟩ : ByteArray)) ++ t258) ++ (⟨#[32]⟩ : ByteArray)) ++ t259) ++ (⟨#[32]⟩ : ByteArray)) ++ t260) ++ (⟨#[32, 119, 10]⟩ : ByteArray)) (wrap64 (x4 + 1))) else (none)) else (if (((((((((((((x3 ++ ((rd_T34 x0 x4).f0)) ++ (⟨#[32]⟩ : ByteArray)) ++ t255) ++ (⟨#[32]⟩ : ByteArray)) ++ t256) ++ (⟨#[32]⟩ : ByteArray)) ++ t257) ++ (⟨#[32]⟩ : ByteArray)) ++ t258) ++ (⟨#[32]⟩ : ByteArray)) ++ t259) ++ (⟨#[32]⟩ : ByteArray)) ++ t260).size + 3 ≤ 9223372036854775807 then (basculeref21_Print.l0 k x0 ((((((((((((((x3 ++ ((rd_T34 x0 x4).f0)) ++ (⟨#[32]⟩ : ByteArray)) ++ t255) ++ (⟨#[32]⟩ : ByteArray)) ++ t256) ++ (⟨#[32]⟩ : ByteArray)) ++ t257) ++ (⟨#[32]⟩ : ByteArray)) ++ t258) ++ (⟨#[32]⟩ : ByteArray)) ++ t259) ++ (⟨#[32]⟩ : ByteArray)) ++ t260) ++ (⟨#[32, 114, 10]⟩ : ByteArray)) (wrap64 (x4 + 1))) else (none))) else (none))) else (none)) else (none))) else (none)) else (none))) else (none)) else (none))) else (none)) else (none))) else (none)) else (none))) else (none)) else (none)) else (none)) else (some x3)
def basculeref21_Print.f (k : Nat) (l0 : List (S34)) : Option (ByteArray) := basculeref21_Print.l0 k l0 (⟨#[]⟩ : ByteArray) 0
def basculeref21_Print.T6 : Bool × List (List Nat × List Nat) := (true, [([], []), ([], []), ([1], [1]), ([0, 2], [0, 2]), ([3], [3]), ([], []), ([5], [5]), ([6], [6]), ([4, 7], [4, 7]), ([8], [8]), ([], []), ([10], [10]), ([11, 7], [11]), ([9, 12], [9, 12]), ([13], [13]), ([], []), ([15], [15]), ([16, 12], [16]), ([14, 17], [14, 17]), ([18], [18]), ([], []), ([20], [20]), ([21, 17], [21]), ([19, 22], [19, 22]), ([23], [23]), ([], []), ([25], [25]), ([26, 22], [26]), ([24, 27], [24, 27]), ([28], [28]), ([], []), ([30], [30]), ([31, 27], [31]), ([29, 32], [29, 32]), ([33, 32, 0, 1, 2, 3, 4, 5, 6, 7, 8, 9, 10, 11, 12, 13, 14, 15, 16, 17, 18, 19, 20, 21, 22, 23, 24, 25, 26, 27, 28, 29, 30, 31, 32, 33], [0, 33])])
def basculeref21_Print.B6 : List Nat := [0, 0, 2, 7, 15, 0, 32, 96, 255, 511, 0, 1024, 3296, 8191, 16383, 0, 32768, 105696, 262143, 524287, 0, 1048576, 3382496, 8388607, 16777215, 0, 33554432, 108240096, 268435455, 536870911, 0, 1073741824, 3463683296, 8589934591, 17179869183]
theorem basculeref21_Print.tab6 : rtab .any (opsOf Tryz.f19 6) = basculeref21_Print.T6 := by kernel_rfl
theorem basculeref21_Print.bits6 : waitsOk basculeref21_Print.T6.2 basculeref21_Print.B6 = true := by kernel_rfl
set_option maxHeartbeats 8000000 in
set_option maxRecDepth 100000 in
theorem basculeref21_Print.calls (k : Nat) (A0 : Option Addr) (c0 : Nat) (l0 : List (S34)) (r : ByteArray) (w : World) (hr0 : Kd.C k34 w A0 l0.length l0) (hc0 : l0.length ≤ c0) (h : basculeref21_Print.f k l0 = some r) :
  Calls Tryz.prog 19 #[.slice A0 l0.length c0] w fun e w' => e = .returned (.string r) ∧ Below w.heap.size w w' := by
 have hu34 := Tryz.underlying34
 have HR0 := Aside0.mk hr0
 have HC0 := Aside0.mk hc0
 clear hr0 hc0
 have HB := Aside0.mk (Below.refl w.heap.size w)
 have H : (basculeref21_Print.l0 k l0 (⟨#[]⟩ : ByteArray) 0) = some r := h
 clear h
 have H' := Aside0.mk H
 clear H
 go_enter Tryz.func19, Tryz.ntmps19
 go_wp2
 go_loopg [3, 4] k (fun kq v3 v4 w' => ∃ (x3_1 : ByteArray) (x4_1 : Int), v3 = .string x3_1 ∧ v4 = .int .i64 x4_1 ∧ Aside0 (basculeref21_Print.l0 kq l0 x3_1 x4_1 = some r) ∧ Aside0 (kq ≤ k) ∧ Aside0 (Below w.heap.size w w'))
 case atStart => exact ⟨((⟨#[]⟩ : ByteArray)), (0), zQx17a5_, zQx17a5_, H', ⟨Nat.le_refl _⟩, ⟨zQx17a4_⟩⟩
 case round =>
  clear H'
  try clear c1
  obtain ⟨x3_1, x4_1, rfl, rfl, HA, HK1, HB⟩ := hrel
  cases gk with
  | zero => exact absurd HA.out (by simp [basculeref21_Print.l0])
  | succ k1 =>
   have H := HA.out
   clear HA
   simp only [basculeref21_Print.l0] at H
   by_cases c2 : x4_1 < (l0.length : Int)
   rotate_left
   ·
    rw [if_neg c2] at H
    have c2b0 : decide (x4_1 < (l0.length : Int)) = false := decide_eq_false c2
    clear c2
    obtain rfl := Option.some.inj H
    go_wp2
    go_ret
    exact ⟨by first | rfl | (simp [errW_none, errW_some] <;> rfl) | (simp [*, errW_none, errW_some] <;> rfl), zQx17a4_⟩
   rw [if_pos c2] at H
   have c2b0 : decide (x4_1 < (l0.length : Int)) = true := decide_eq_true c2
   clear c2
   have c3 : 0 ≤ x4_1 := znQx17_
   rw [if_pos c3] at H
   have c3b0 : decide (0 ≤ x4_1) = true := decide_eq_true c3
   clear c3
   have c4 : x3_1.size + ((rd_T34 l0 x4_1).f0).size ≤ 9223372036854775807 := znQx17_
   rw [if_pos c4] at H
   have c4b0 := eq_true c4
   have c4b1 : decide (x3_1.size + ((rd_T34 l0 x4_1).f0).size ≤ 9223372036854775807) = true := decide_eq_true c4
   try have c4b2 : (9223372036854775807 < x3_1.size + ((rd_T34 l0 x4_1).f0).size) = False := eq_false (Nat.not_lt.2 c4)
   have c5 : (x3_1 ++ ((rd_T34 l0 x4_1).f0)).size + 1 ≤ 9223372036854775807 := znQx17_
   rw [if_pos c5] at H
   have c5b0 := eq_true c5
   have c5b1 : decide ((x3_1 ++ ((rd_T34 l0 x4_1).f0)).size + 1 ≤ 9223372036854775807) = true := decide_eq_true c5
   try have c5b2 : (9223372036854775807 < (x3_1 ++ ((rd_T34 l0 x4_1).f0)).size + 1) = False := eq_false (Nat.not_lt.2 c5)
   try have c5b7 : (9223372036854775807 < x3_1.size + ((rd_T34 l0 x4_1).f0).size + 1) = False := eq_false (by have h9_ := c5; simp only [ByteArray.size_append] at h9_; simp only [ByteArray.size, List.size_toArray, List.length_cons, List.length_nil] at h9_ ⊢; omega)
   replace H := Option.bind_eq_some_iff.mp H
   obtain ⟨t255, A60, H⟩ := H
   replace H : (if ((x3_1 ++ ((rd_T34 l0 x4_1).f0)) ++ (⟨#[32]⟩ : ByteArray)).size + t255.size ≤ 9223372036854775807 then (if (((x3_1 ++ ((rd_T34 l0 x4_1).f0)) ++ (⟨#[32]⟩ : ByteArray)) ++ t255).size + 1 ≤ 9223372036854775807 then ((basculeref21_Dec.f k1 ((rd_T34 l0 x4_1).f2)).bind fun t256 => (if ((((x3_1 ++ ((rd_T34 l0 x4_1).f0)) ++ (⟨#[32]⟩ : ByteArray)) ++ t255) ++ (⟨#[32]⟩ : ByteArray)).size + t256.size ≤ 9223372036854775807 then (if (((((x3_1 ++ ((rd_T34 l0 x4_1).f0)) ++ (⟨#[32]⟩ : ByteArray)) ++ t255) ++ (⟨#[32]⟩ : ByteArray)) ++ t256).size + 1 ≤ 9223372036854775807 then ((basculeref21_Dec.f k1 ((rd_T34 l0 x4_1).f3)).bind fun t257 => (if ((((((x3_1 ++ ((rd_T34 l0 x4_1).f0)) ++ (⟨#[32]⟩ : ByteArray)) ++ t255) ++ (⟨#[32]⟩ : ByteArray)) ++ t256) ++ (⟨#[32]⟩ : ByteArray)).size + t257.size ≤ 9223372036854775807 then (if (((((((x3_1 ++ ((rd_T34 l0 x4_1).f0)) ++ (⟨#[32]⟩ : ByteArray)) ++ t255) ++ (⟨#[32]⟩ : ByteArray)) ++ t256) ++ (⟨#[32]⟩ : ByteArray)) ++ t257).size + 1 ≤ 9223372036854775807 then ((basculeref21_Dec.f k1 ((rd_T34 l0 x4_1).f4)).bind fun t258 => (if ((((((((x3_1 ++ ((rd_T34 l0 x4_1).f0)) ++ (⟨#[32]⟩ : ByteArray)) ++ t255) ++ (⟨#[32]⟩ : ByteArray)) ++ t256) ++ (⟨#[32]⟩ : ByteArray)) ++ t257) ++ (⟨#[32]⟩ : ByteArray)).size + t258.size ≤ 9223372036854775807 then (if (((((((((x3_1 ++ ((rd_T34 l0 x4_1).f0)) ++ (⟨#[32]⟩ : ByteArray)) ++ t255) ++ (⟨#[32]⟩ : ByteArray)) ++ t256) ++ (⟨#[32]⟩ : ByteArray)) ++ t257) ++ (⟨#[32]⟩ : ByteArray)) ++ t258).size + 1 ≤ 9223372036854775807 then ((basculeref21_Dec.f k1 ((rd_T34 l0 x4_1).f5)).bind fun t259 => (if ((((((((((x3_1 ++ ((rd_T34 l0 x4_1).f0)) ++ (⟨#[32]⟩ : ByteArray)) ++ t255) ++ (⟨#[32]⟩ : ByteArray)) ++ t256) ++ (⟨#[32]⟩ : ByteArray)) ++ t257) ++ (⟨#[32]⟩ : ByteArray)) ++ t258) ++ (⟨#[32]⟩ : ByteArray)).size + t259.size ≤ 9223372036854775807 then (if (((((((((((x3_1 ++ ((rd_T34 l0 x4_1).f0)) ++ (⟨#[32]⟩ : ByteArray)) ++ t255) ++ (⟨#[32]⟩ : ByteArray)) ++ t256) ++ (⟨#[32]⟩ : ByteArray)) ++ t257) ++ (⟨#[32]⟩ : ByteArray)) ++ t258) ++ (⟨#[32]⟩ : ByteArray)) ++ t259).size + 1 ≤ 9223372036854775807 then ((basculeref21_Dec.f k1 ((rd_T34 l0 x4_1).f6)).bind fun t260 => (if ((((((((((((x3_1 ++ ((rd_T34 l0 x4_1).f0)) ++ (⟨#[32]⟩ : ByteArray)) ++ t255) ++ (⟨#[32]⟩ : ByteArray)) ++ t256) ++ (⟨#[32]⟩ : ByteArray)) ++ t257) ++ (⟨#[32]⟩ : ByteArray)) ++ t258) ++ (⟨#[32]⟩ : ByteArray)) ++ t259) ++ (⟨#[32]⟩ : ByteArray)).size + t260.size ≤ 9223372036854775807 then (if (rd_T34 l0 x4_1).f7 = true then (if (((((((((((((x3_1 ++ ((rd_T34 l0 x4_1).f0)) ++ (⟨#[32]⟩ : ByteArray)) ++ t255) ++ (⟨#[32]⟩ : ByteArray)) ++ t256) ++ (⟨#[32]⟩ : ByteArray)) ++ t257) ++ (⟨#[32]⟩ : ByteArray)) ++ t258) ++ (⟨#[32]⟩ : ByteArray)) ++ t259) ++ (⟨#[32]⟩ : ByteArray)) ++ t260).size + 3 ≤ 9223372036854775807 then (basculeref21_Print.l0 k1 l0 ((((((((((((((x3_1 ++ ((rd_T34 l0 x4_1).f0)) ++ (⟨#[32]⟩ : ByteArray)) ++ t255) ++ (⟨#[32]⟩ : ByteArray)) ++ t256) ++ (⟨#[32]⟩ : ByteArray)) ++ t257) ++ (⟨#[32]⟩ : ByteArray)) ++ t258) ++ (⟨#[32]⟩ : ByteArray)) ++ t259) ++ (⟨#[32]⟩ : ByteArray)) ++ t260) ++ (⟨#[32, 119, 10]⟩ : ByteArray)) (wrap64 (x4_1 + 1))) else (none)) else (if (((((((((((((x3_1 ++ ((rd_T34 l0 x4_1).f0)) ++ (⟨#[32]⟩ : ByteArray)) ++ t255) ++ (⟨#[32]⟩ : ByteArray)) ++ t256) ++ (⟨#[32]⟩ : ByteArray)) ++ t257) ++ (⟨#[32]⟩ : ByteArray)) ++ t258) ++ (⟨#[32]⟩ : ByteArray)) ++ t259) ++ (⟨#[32]⟩ : ByteArray)) ++ t260).size + 3 ≤ 9223372036854775807 then (basculeref21_Print.l0 k1 l0 ((((((((((((((x3_1 ++ ((rd_T34 l0 x4_1).f0)) ++ (⟨#[32]⟩ : ByteArray)) ++ t255) ++ (⟨#[32]⟩ : ByteArray)) ++ t256) ++ (⟨#[32]⟩ : ByteArray)) ++ t257) ++ (⟨#[32]⟩ : ByteArray)) ++ t258) ++ (⟨#[32]⟩ : ByteArray)) ++ t259) ++ (⟨#[32]⟩ : ByteArray)) ++ t260) ++ (⟨#[32, 114, 10]⟩ : ByteArray)) (wrap64 (x4_1 + 1))) else (none))) else (none))) else (none)) else (none))) else (none)) else (none))) else (none)) else (none))) else (none)) else (none))) else (none)) else (none)) = some r := H
   have A6 := Aside0.mk A60
   clear A60
   have c7 : ((x3_1 ++ ((rd_T34 l0 x4_1).f0)) ++ (⟨#[32]⟩ : ByteArray)).size + t255.size ≤ 9223372036854775807 := znQx17_
   rw [if_pos c7] at H
   have c7b0 := eq_true c7
   have c7b1 : decide (((x3_1 ++ ((rd_T34 l0 x4_1).f0)) ++ (⟨#[32]⟩ : ByteArray)).size + t255.size ≤ 9223372036854775807) = true := decide_eq_true c7
   try have c7b2 : (9223372036854775807 < ((x3_1 ++ ((rd_T34 l0 x4_1).f0)) ++ (⟨#[32]⟩ : ByteArray)).size + t255.size) = False := eq_false (Nat.not_lt.2 c7)
   try have c7b7 : (9223372036854775807 < x3_1.size + ((rd_T34 l0 x4_1).f0).size + 1 + t255.size) = False := eq_false (by have h9_ := c7; simp only [ByteArray.size_append] at h9_; simp only [ByteArray.size, List.size_toArray, List.length_cons, List.length_nil] at h9_ ⊢; omega)
   have c8 : (((x3_1 ++ ((rd_T34 l0 x4_1).f0)) ++ (⟨#[32]⟩ : ByteArray)) ++ t255).size + 1 ≤ 9223372036854775807 := znQx17_
   rw [if_pos c8] at H
   have c8b0 := eq_true c8
   have c8b1 : decide ((((x3_1 ++ ((rd_T34 l0 x4_1).f0)) ++ (⟨#[32]⟩ : ByteArray)) ++ t255).size + 1 ≤ 9223372036854775807) = true := decide_eq_true c8
   try have c8b2 : (9223372036854775807 < (((x3_1 ++ ((rd_T34 l0 x4_1).f0)) ++ (⟨#[32]⟩ : ByteArray)) ++ t255).size + 1) = False := eq_false (Nat.not_lt.2 c8)
   try have c8b7 : (9223372036854775807 < x3_1.size + ((rd_T34 l0 x4_1).f0).size + 1 + t255.size + 1) = False := eq_false (by have h9_ := c8; simp only [ByteArray.size_append] at h9_; simp only [ByteArray.size, List.size_toArray, List.length_cons, List.length_nil] at h9_ ⊢; omega)
   replace H := Option.bind_eq_some_iff.mp H
   obtain ⟨t256, A90, H⟩ := H
   replace H : (if ((((x3_1 ++ ((rd_T34 l0 x4_1).f0)) ++ (⟨#[32]⟩ : ByteArray)) ++ t255) ++ (⟨#[32]⟩ : ByteArray)).size + t256.size ≤ 9223372036854775807 then (if (((((x3_1 ++ ((rd_T34 l0 x4_1).f0)) ++ (⟨#[32]⟩ : ByteArray)) ++ t255) ++ (⟨#[32]⟩ : ByteArray)) ++ t256).size + 1 ≤ 9223372036854775807 then ((basculeref21_Dec.f k1 ((rd_T34 l0 x4_1).f3)).bind fun t257 => (if ((((((x3_1 ++ ((rd_T34 l0 x4_1).f0)) ++ (⟨#[32]⟩ : ByteArray)) ++ t255) ++ (⟨#[32]⟩ : ByteArray)) ++ t256) ++ (⟨#[32]⟩ : ByteArray)).size + t257.size ≤ 9223372036854775807 then (if (((((((x3_1 ++ ((rd_T34 l0 x4_1).f0)) ++ (⟨#[32]⟩ : ByteArray)) ++ t255) ++ (⟨#[32]⟩ : ByteArray)) ++ t256) ++ (⟨#[32]⟩ : ByteArray)) ++ t257).size + 1 ≤ 9223372036854775807 then ((basculeref21_Dec.f k1 ((rd_T34 l0 x4_1).f4)).bind fun t258 => (if ((((((((x3_1 ++ ((rd_T34 l0 x4_1).f0)) ++ (⟨#[32]⟩ : ByteArray)) ++ t255) ++ (⟨#[32]⟩ : ByteArray)) ++ t256) ++ (⟨#[32]⟩ : ByteArray)) ++ t257) ++ (⟨#[32]⟩ : ByteArray)).size + t258.size ≤ 9223372036854775807 then (if (((((((((x3_1 ++ ((rd_T34 l0 x4_1).f0)) ++ (⟨#[32]⟩ : ByteArray)) ++ t255) ++ (⟨#[32]⟩ : ByteArray)) ++ t256) ++ (⟨#[32]⟩ : ByteArray)) ++ t257) ++ (⟨#[32]⟩ : ByteArray)) ++ t258).size + 1 ≤ 9223372036854775807 then ((basculeref21_Dec.f k1 ((rd_T34 l0 x4_1).f5)).bind fun t259 => (if ((((((((((x3_1 ++ ((rd_T34 l0 x4_1).f0)) ++ (⟨#[32]⟩ : ByteArray)) ++ t255) ++ (⟨#[32]⟩ : ByteArray)) ++ t256) ++ (⟨#[32]⟩ : ByteArray)) ++ t257) ++ (⟨#[32]⟩ : ByteArray)) ++ t258) ++ (⟨#[32]⟩ : ByteArray)).size + t259.size ≤ 9223372036854775807 then (if (((((((((((x3_1 ++ ((rd_T34 l0 x4_1).f0)) ++ (⟨#[32]⟩ : ByteArray)) ++ t255) ++ (⟨#[32]⟩ : ByteArray)) ++ t256) ++ (⟨#[32]⟩ : ByteArray)) ++ t257) ++ (⟨#[32]⟩ : ByteArray)) ++ t258) ++ (⟨#[32]⟩ : ByteArray)) ++ t259).size + 1 ≤ 9223372036854775807 then ((basculeref21_Dec.f k1 ((rd_T34 l0 x4_1).f6)).bind fun t260 => (if ((((((((((((x3_1 ++ ((rd_T34 l0 x4_1).f0)) ++ (⟨#[32]⟩ : ByteArray)) ++ t255) ++ (⟨#[32]⟩ : ByteArray)) ++ t256) ++ (⟨#[32]⟩ : ByteArray)) ++ t257) ++ (⟨#[32]⟩ : ByteArray)) ++ t258) ++ (⟨#[32]⟩ : ByteArray)) ++ t259) ++ (⟨#[32]⟩ : ByteArray)).size + t260.size ≤ 9223372036854775807 then (if (rd_T34 l0 x4_1).f7 = true then (if (((((((((((((x3_1 ++ ((rd_T34 l0 x4_1).f0)) ++ (⟨#[32]⟩ : ByteArray)) ++ t255) ++ (⟨#[32]⟩ : ByteArray)) ++ t256) ++ (⟨#[32]⟩ : ByteArray)) ++ t257) ++ (⟨#[32]⟩ : ByteArray)) ++ t258) ++ (⟨#[32]⟩ : ByteArray)) ++ t259) ++ (⟨#[32]⟩ : ByteArray)) ++ t260).size + 3 ≤ 9223372036854775807 then (basculeref21_Print.l0 k1 l0 ((((((((((((((x3_1 ++ ((rd_T34 l0 x4_1).f0)) ++ (⟨#[32]⟩ : ByteArray)) ++ t255) ++ (⟨#[32]⟩ : ByteArray)) ++ t256) ++ (⟨#[32]⟩ : ByteArray)) ++ t257) ++ (⟨#[32]⟩ : ByteArray)) ++ t258) ++ (⟨#[32]⟩ : ByteArray)) ++ t259) ++ (⟨#[32]⟩ : ByteArray)) ++ t260) ++ (⟨#[32, 119, 10]⟩ : ByteArray)) (wrap64 (x4_1 + 1))) else (none)) else (if (((((((((((((x3_1 ++ ((rd_T34 l0 x4_1).f0)) ++ (⟨#[32]⟩ : ByteArray)) ++ t255) ++ (⟨#[32]⟩ : ByteArray)) ++ t256) ++ (⟨#[32]⟩ : ByteArray)) ++ t257) ++ (⟨#[32]⟩ : ByteArray)) ++ t258) ++ (⟨#[32]⟩ : ByteArray)) ++ t259) ++ (⟨#[32]⟩ : ByteArray)) ++ t260).size + 3 ≤ 9223372036854775807 then (basculeref21_Print.l0 k1 l0 ((((((((((((((x3_1 ++ ((rd_T34 l0 x4_1).f0)) ++ (⟨#[32]⟩ : ByteArray)) ++ t255) ++ (⟨#[32]⟩ : ByteArray)) ++ t256) ++ (⟨#[32]⟩ : ByteArray)) ++ t257) ++ (⟨#[32]⟩ : ByteArray)) ++ t258) ++ (⟨#[32]⟩ : ByteArray)) ++ t259) ++ (⟨#[32]⟩ : ByteArray)) ++ t260) ++ (⟨#[32, 114, 10]⟩ : ByteArray)) (wrap64 (x4_1 + 1))) else (none))) else (none))) else (none)) else (none))) else (none)) else (none))) else (none)) else (none))) else (none)) else (none)) = some r := H
   have A9 := Aside0.mk A90
   clear A90
   have c10 : ((((x3_1 ++ ((rd_T34 l0 x4_1).f0)) ++ (⟨#[32]⟩ : ByteArray)) ++ t255) ++ (⟨#[32]⟩ : ByteArray)).size + t256.size ≤ 9223372036854775807 := znQx17_
   rw [if_pos c10] at H
   have c10b0 := eq_true c10
   have c10b1 : decide (((((x3_1 ++ ((rd_T34 l0 x4_1).f0)) ++ (⟨#[32]⟩ : ByteArray)) ++ t255) ++ (⟨#[32]⟩ : ByteArray)).size + t256.size ≤ 9223372036854775807) = true := decide_eq_true c10
   try have c10b2 : (9223372036854775807 < ((((x3_1 ++ ((rd_T34 l0 x4_1).f0)) ++ (⟨#[32]⟩ : ByteArray)) ++ t255) ++ (⟨#[32]⟩ : ByteArray)).size + t256.size) = False := eq_false (Nat.not_lt.2 c10)
   try have c10b7 : (9223372036854775807 < x3_1.size + ((rd_T34 l0 x4_1).f0).size + 1 + t255.size + 1 + t256.size) = False := eq_false (by have h9_ := c10; simp only [ByteArray.size_append] at h9_; simp only [ByteArray.size, List.size_toArray, List.length_cons, List.length_nil] at h9_ ⊢; omega)
   have c11 : (((((x3_1 ++ ((rd_T34 l0 x4_1).f0)) ++ (⟨#[32]⟩ : ByteArray)) ++ t255) ++ (⟨#[32]⟩ : ByteArray)) ++ t256).size + 1 ≤ 9223372036854775807 := znQx17_
   rw [if_pos c11] at H
   have c11b0 := eq_true c11
   have c11b1 : decide ((((((x3_1 ++ ((rd_T34 l0 x4_1).f0)) ++ (⟨#[32]⟩ : ByteArray)) ++ t255) ++ (⟨#[32]⟩ : ByteArray)) ++ t256).size + 1 ≤ 9223372036854775807) = true := decide_eq_true c11
   try have c11b2 : (9223372036854775807 < (((((x3_1 ++ ((rd_T34 l0 x4_1).f0)) ++ (⟨#[32]⟩ : ByteArray)) ++ t255) ++ (⟨#[32]⟩ : ByteArray)) ++ t256).size + 1) = False := eq_false (Nat.not_lt.2 c11)
   try have c11b7 : (9223372036854775807 < x3_1.size + ((rd_T34 l0 x4_1).f0).size + 1 + t255.size + 1 + t256.size + 1) = False := eq_false (by have h9_ := c11; simp only [ByteArray.size_append] at h9_; simp only [ByteArray.size, List.size_toArray, List.length_cons, List.length_nil] at h9_ ⊢; omega)
   replace H := Option.bind_eq_some_iff.mp H
   obtain ⟨t257, A120, H⟩ := H
   replace H : (if ((((((x3_1 ++ ((rd_T34 l0 x4_1).f0)) ++ (⟨#[32]⟩ : ByteArray)) ++ t255) ++ (⟨#[32]⟩ : ByteArray)) ++ t256) ++ (⟨#[32]⟩ : ByteArray)).size + t257.size ≤ 9223372036854775807 then (if (((((((x3_1 ++ ((rd_T34 l0 x4_1).f0)) ++ (⟨#[32]⟩ : ByteArray)) ++ t255) ++ (⟨#[32]⟩ : ByteArray)) ++ t256) ++ (⟨#[32]⟩ : ByteArray)) ++ t257).size + 1 ≤ 9223372036854775807 then ((basculeref21_Dec.f k1 ((rd_T34 l0 x4_1).f4)).bind fun t258 => (if ((((((((x3_1 ++ ((rd_T34 l0 x4_1).f0)) ++ (⟨#[32]⟩ : ByteArray)) ++ t255) ++ (⟨#[32]⟩ : ByteArray)) ++ t256) ++ (⟨#[32]⟩ : ByteArray)) ++ t257) ++ (⟨#[32]⟩ : ByteArray)).size + t258.size ≤ 9223372036854775807 then (if (((((((((x3_1 ++ ((rd_T34 l0 x4_1).f0)) ++ (⟨#[32]⟩ : ByteArray)) ++ t255) ++ (⟨#[32]⟩ : ByteArray)) ++ t256) ++ (⟨#[32]⟩ : ByteArray)) ++ t257) ++ (⟨#[32]⟩ : ByteArray)) ++ t258).size + 1 ≤ 9223372036854775807 then ((basculeref21_Dec.f k1 ((rd_T34 l0 x4_1).f5)).bind fun t259 => (if ((((((((((x3_1 ++ ((rd_T34 l0 x4_1).f0)) ++ (⟨#[32]⟩ : ByteArray)) ++ t255) ++ (⟨#[32]⟩ : ByteArray)) ++ t256) ++ (⟨#[32]⟩ : ByteArray)) ++ t257) ++ (⟨#[32]⟩ : ByteArray)) ++ t258) ++ (⟨#[32]⟩ : ByteArray)).size + t259.size ≤ 9223372036854775807 then (if (((((((((((x3_1 ++ ((rd_T34 l0 x4_1).f0)) ++ (⟨#[32]⟩ : ByteArray)) ++ t255) ++ (⟨#[32]⟩ : ByteArray)) ++ t256) ++ (⟨#[32]⟩ : ByteArray)) ++ t257) ++ (⟨#[32]⟩ : ByteArray)) ++ t258) ++ (⟨#[32]⟩ : ByteArray)) ++ t259).size + 1 ≤ 9223372036854775807 then ((basculeref21_Dec.f k1 ((rd_T34 l0 x4_1).f6)).bind fun t260 => (if ((((((((((((x3_1 ++ ((rd_T34 l0 x4_1).f0)) ++ (⟨#[32]⟩ : ByteArray)) ++ t255) ++ (⟨#[32]⟩ : ByteArray)) ++ t256) ++ (⟨#[32]⟩ : ByteArray)) ++ t257) ++ (⟨#[32]⟩ : ByteArray)) ++ t258) ++ (⟨#[32]⟩ : ByteArray)) ++ t259) ++ (⟨#[32]⟩ : ByteArray)).size + t260.size ≤ 9223372036854775807 then (if (rd_T34 l0 x4_1).f7 = true then (if (((((((((((((x3_1 ++ ((rd_T34 l0 x4_1).f0)) ++ (⟨#[32]⟩ : ByteArray)) ++ t255) ++ (⟨#[32]⟩ : ByteArray)) ++ t256) ++ (⟨#[32]⟩ : ByteArray)) ++ t257) ++ (⟨#[32]⟩ : ByteArray)) ++ t258) ++ (⟨#[32]⟩ : ByteArray)) ++ t259) ++ (⟨#[32]⟩ : ByteArray)) ++ t260).size + 3 ≤ 9223372036854775807 then (basculeref21_Print.l0 k1 l0 ((((((((((((((x3_1 ++ ((rd_T34 l0 x4_1).f0)) ++ (⟨#[32]⟩ : ByteArray)) ++ t255) ++ (⟨#[32]⟩ : ByteArray)) ++ t256) ++ (⟨#[32]⟩ : ByteArray)) ++ t257) ++ (⟨#[32]⟩ : ByteArray)) ++ t258) ++ (⟨#[32]⟩ : ByteArray)) ++ t259) ++ (⟨#[32]⟩ : ByteArray)) ++ t260) ++ (⟨#[32, 119, 10]⟩ : ByteArray)) (wrap64 (x4_1 + 1))) else (none)) else (if (((((((((((((x3_1 ++ ((rd_T34 l0 x4_1).f0)) ++ (⟨#[32]⟩ : ByteArray)) ++ t255) ++ (⟨#[32]⟩ : ByteArray)) ++ t256) ++ (⟨#[32]⟩ : ByteArray)) ++ t257) ++ (⟨#[32]⟩ : ByteArray)) ++ t258) ++ (⟨#[32]⟩ : ByteArray)) ++ t259) ++ (⟨#[32]⟩ : ByteArray)) ++ t260).size + 3 ≤ 9223372036854775807 then (basculeref21_Print.l0 k1 l0 ((((((((((((((x3_1 ++ ((rd_T34 l0 x4_1).f0)) ++ (⟨#[32]⟩ : ByteArray)) ++ t255) ++ (⟨#[32]⟩ : ByteArray)) ++ t256) ++ (⟨#[32]⟩ : ByteArray)) ++ t257) ++ (⟨#[32]⟩ : ByteArray)) ++ t258) ++ (⟨#[32]⟩ : ByteArray)) ++ t259) ++ (⟨#[32]⟩ : ByteArray)) ++ t260) ++ (⟨#[32, 114, 10]⟩ : ByteArray)) (wrap64 (x4_1 + 1))) else (none))) else (none))) else (none)) else (none))) else (none)) else (none))) else (none)) else (none)) = some r := H
   have A12 := Aside0.mk A120
   clear A120
   have c13 : ((((((x3_1 ++ ((rd_T34 l0 x4_1).f0)) ++ (⟨#[32]⟩ : ByteArray)) ++ t255) ++ (⟨#[32]⟩ : ByteArray)) ++ t256) ++ (⟨#[32]⟩ : ByteArray)).size + t257.size ≤ 9223372036854775807 := znQx17_
   rw [if_pos c13] at H
   have c13b0 := eq_true c13
   have c13b1 : decide (((((((x3_1 ++ ((rd_T34 l0 x4_1).f0)) ++ (⟨#[32]⟩ : ByteArray)) ++ t255) ++ (⟨#[32]⟩ : ByteArray)) ++ t256) ++ (⟨#[32]⟩ : ByteArray)).size + t257.size ≤ 9223372036854775807) = true := decide_eq_true c13
   try have c13b2 : (9223372036854775807 < ((((((x3_1 ++ ((rd_T34 l0 x4_1).f0)) ++ (⟨#[32]⟩ : ByteArray)) ++ t255) ++ (⟨#[32]⟩ : ByteArray)) ++ t256) ++ (⟨#[32]⟩ : ByteArray)).size + t257.size) = False := eq_false (Nat.not_lt.2 c13)
   try have c13b7 : (9223372036854775807 < x3_1.size + ((rd_T34 l0 x4_1).f0).size + 1 + t255.size + 1 + t256.size + 1 + t257.size) = False := eq_false (by have h9_ := c13; simp only [ByteArray.size_append] at h9_; simp only [ByteArray.size, List.size_toArray, List.length_cons, List.length_nil] at h9_ ⊢; omega)
   have c14 : (((((((x3_1 ++ ((rd_T34 l0 x4_1).f0)) ++ (⟨#[32]⟩ : ByteArray)) ++ t255) ++ (⟨#[32]⟩ : ByteArray)) ++ t256) ++ (⟨#[32]⟩ : ByteArray)) ++ t257).size + 1 ≤ 9223372036854775807 := znQx17_
   rw [if_pos c14] at H
   have c14b0 := eq_true c14
   have c14b1 : decide ((((((((x3_1 ++ ((rd_T34 l0 x4_1).f0)) ++ (⟨#[32]⟩ : ByteArray)) ++ t255) ++ (⟨#[32]⟩ : ByteArray)) ++ t256) ++ (⟨#[32]⟩ : ByteArray)) ++ t257).size + 1 ≤ 9223372036854775807) = true := decide_eq_true c14
   try have c14b2 : (9223372036854775807 < (((((((x3_1 ++ ((rd_T34 l0 x4_1).f0)) ++ (⟨#[32]⟩ : ByteArray)) ++ t255) ++ (⟨#[32]⟩ : ByteArray)) ++ t256) ++ (⟨#[32]⟩ : ByteArray)) ++ t257).size + 1) = False := eq_false (Nat.not_lt.2 c14)
   try have c14b7 : (9223372036854775807 < x3_1.size + ((rd_T34 l0 x4_1).f0).size + 1 + t255.size + 1 + t256.size + 1 + t257.size + 1) = False := eq_false (by have h9_ := c14; simp only [ByteArray.size_append] at h9_; simp only [ByteArray.size, List.size_toArray, List.length_cons, List.length_nil] at h9_ ⊢; omega)
   replace H := Option.bind_eq_some_iff.mp H
   obtain ⟨t258, A150, H⟩ := H
   replace H : (if ((((((((x3_1 ++ ((rd_T34 l0 x4_1).f0)) ++ (⟨#[32]⟩ : ByteArray)) ++ t255) ++ (⟨#[32]⟩ : ByteArray)) ++ t256) ++ (⟨#[32]⟩ : ByteArray)) ++ t257) ++ (⟨#[32]⟩ : ByteArray)).size + t258.size ≤ 9223372036854775807 then (if (((((((((x3_1 ++ ((rd_T34 l0 x4_1).f0)) ++ (⟨#[32]⟩ : ByteArray)) ++ t255) ++ (⟨#[32]⟩ : ByteArray)) ++ t256) ++ (⟨#[32]⟩ : ByteArray)) ++ t257) ++ (⟨#[32]⟩ : ByteArray)) ++ t258).size + 1 ≤ 9223372036854775807 then ((basculeref21_Dec.f k1 ((rd_T34 l0 x4_1).f5)).bind fun t259 => (if ((((((((((x3_1 ++ ((rd_T34 l0 x4_1).f0)) ++ (⟨#[32]⟩ : ByteArray)) ++ t255) ++ (⟨#[32]⟩ : ByteArray)) ++ t256) ++ (⟨#[32]⟩ : ByteArray)) ++ t257) ++ (⟨#[32]⟩ : ByteArray)) ++ t258) ++ (⟨#[32]⟩ : ByteArray)).size + t259.size ≤ 9223372036854775807 then (if (((((((((((x3_1 ++ ((rd_T34 l0 x4_1).f0)) ++ (⟨#[32]⟩ : ByteArray)) ++ t255) ++ (⟨#[32]⟩ : ByteArray)) ++ t256) ++ (⟨#[32]⟩ : ByteArray)) ++ t257) ++ (⟨#[32]⟩ : ByteArray)) ++ t258) ++ (⟨#[32]⟩ : ByteArray)) ++ t259).size + 1 ≤ 9223372036854775807 then ((basculeref21_Dec.f k1 ((rd_T34 l0 x4_1).f6)).bind fun t260 => (if ((((((((((((x3_1 ++ ((rd_T34 l0 x4_1).f0)) ++ (⟨#[32]⟩ : ByteArray)) ++ t255) ++ (⟨#[32]⟩ : ByteArray)) ++ t256) ++ (⟨#[32]⟩ : ByteArray)) ++ t257) ++ (⟨#[32]⟩ : ByteArray)) ++ t258) ++ (⟨#[32]⟩ : ByteArray)) ++ t259) ++ (⟨#[32]⟩ : ByteArray)).size + t260.size ≤ 9223372036854775807 then (if (rd_T34 l0 x4_1).f7 = true then (if (((((((((((((x3_1 ++ ((rd_T34 l0 x4_1).f0)) ++ (⟨#[32]⟩ : ByteArray)) ++ t255) ++ (⟨#[32]⟩ : ByteArray)) ++ t256) ++ (⟨#[32]⟩ : ByteArray)) ++ t257) ++ (⟨#[32]⟩ : ByteArray)) ++ t258) ++ (⟨#[32]⟩ : ByteArray)) ++ t259) ++ (⟨#[32]⟩ : ByteArray)) ++ t260).size + 3 ≤ 9223372036854775807 then (basculeref21_Print.l0 k1 l0 ((((((((((((((x3_1 ++ ((rd_T34 l0 x4_1).f0)) ++ (⟨#[32]⟩ : ByteArray)) ++ t255) ++ (⟨#[32]⟩ : ByteArray)) ++ t256) ++ (⟨#[32]⟩ : ByteArray)) ++ t257) ++ (⟨#[32]⟩ : ByteArray)) ++ t258) ++ (⟨#[32]⟩ : ByteArray)) ++ t259) ++ (⟨#[32]⟩ : ByteArray)) ++ t260) ++ (⟨#[32, 119, 10]⟩ : ByteArray)) (wrap64 (x4_1 + 1))) else (none)) else (if (((((((((((((x3_1 ++ ((rd_T34 l0 x4_1).f0)) ++ (⟨#[32]⟩ : ByteArray)) ++ t255) ++ (⟨#[32]⟩ : ByteArray)) ++ t256) ++ (⟨#[32]⟩ : ByteArray)) ++ t257) ++ (⟨#[32]⟩ : ByteArray)) ++ t258) ++ (⟨#[32]⟩ : ByteArray)) ++ t259) ++ (⟨#[32]⟩ : ByteArray)) ++ t260).size + 3 ≤ 9223372036854775807 then (basculeref21_Print.l0 k1 l0 ((((((((((((((x3_1 ++ ((rd_T34 l0 x4_1).f0)) ++ (⟨#[32]⟩ : ByteArray)) ++ t255) ++ (⟨#[32]⟩ : ByteArray)) ++ t256) ++ (⟨#[32]⟩ : ByteArray)) ++ t257) ++ (⟨#[32]⟩ : ByteArray)) ++ t258) ++ (⟨#[32]⟩ : ByteArray)) ++ t259) ++ (⟨#[32]⟩ : ByteArray)) ++ t260) ++ (⟨#[32, 114, 10]⟩ : ByteArray)) (wrap64 (x4_1 + 1))) else (none))) else (none))) else (none)) else (none))) else (none)) else (none)) = some r := H
   have A15 := Aside0.mk A150
   clear A150
   have c16 : ((((((((x3_1 ++ ((rd_T34 l0 x4_1).f0)) ++ (⟨#[32]⟩ : ByteArray)) ++ t255) ++ (⟨#[32]⟩ : ByteArray)) ++ t256) ++ (⟨#[32]⟩ : ByteArray)) ++ t257) ++ (⟨#[32]⟩ : ByteArray)).size + t258.size ≤ 9223372036854775807 := znQx17_
   rw [if_pos c16] at H
   have c16b0 := eq_true c16
   have c16b1 : decide (((((((((x3_1 ++ ((rd_T34 l0 x4_1).f0)) ++ (⟨#[32]⟩ : ByteArray)) ++ t255) ++ (⟨#[32]⟩ : ByteArray)) ++ t256) ++ (⟨#[32]⟩ : ByteArray)) ++ t257) ++ (⟨#[32]⟩ : ByteArray)).size + t258.size ≤ 9223372036854775807) = true := decide_eq_true c16
   try have c16b2 : (9223372036854775807 < ((((((((x3_1 ++ ((rd_T34 l0 x4_1).f0)) ++ (⟨#[32]⟩ : ByteArray)) ++ t255) ++ (⟨#[32]⟩ : ByteArray)) ++ t256) ++ (⟨#[32]⟩ : ByteArray)) ++ t257) ++ (⟨#[32]⟩ : ByteArray)).size + t258.size) = False := eq_false (Nat.not_lt.2 c16)
   try have c16b7 : (9223372036854775807 < x3_1.size + ((rd_T34 l0 x4_1).f0).size + 1 + t255.size + 1 + t256.size + 1 + t257.size + 1 + t258.size) = False := eq_false (by have h9_ := c16; simp only [ByteArray.size_append] at h9_; simp only [ByteArray.size, List.size_toArray, List.length_cons, List.length_nil] at h9_ ⊢; omega)
   have c17 : (((((((((x3_1 ++ ((rd_T34 l0 x4_1).f0)) ++ (⟨#[32]⟩ : ByteArray)) ++ t255) ++ (⟨#[32]⟩ : ByteArray)) ++ t256) ++ (⟨#[32]⟩ : ByteArray)) ++ t257) ++ (⟨#[32]⟩ : ByteArray)) ++ t258).size + 1 ≤ 9223372036854775807 := znQx17_
   rw [if_pos c17] at H
   have c17b0 := eq_true c17
   have c17b1 : decide ((((((((((x3_1 ++ ((rd_T34 l0 x4_1).f0)) ++ (⟨#[32]⟩ : ByteArray)) ++ t255) ++ (⟨#[32]⟩ : ByteArray)) ++ t256) ++ (⟨#[32]⟩ : ByteArray)) ++ t257) ++ (⟨#[32]⟩ : ByteArray)) ++ t258).size + 1 ≤ 9223372036854775807) = true := decide_eq_true c17
   try have c17b2 : (9223372036854775807 < (((((((((x3_1 ++ ((rd_T34 l0 x4_1).f0)) ++ (⟨#[32]⟩ : ByteArray)) ++ t255) ++ (⟨#[32]⟩ : ByteArray)) ++ t256) ++ (⟨#[32]⟩ : ByteArray)) ++ t257) ++ (⟨#[32]⟩ : ByteArray)) ++ t258).size + 1) = False := eq_false (Nat.not_lt.2 c17)
   try have c17b7 : (9223372036854775807 < x3_1.size + ((rd_T34 l0 x4_1).f0).size + 1 + t255.size + 1 + t256.size + 1 + t257.size + 1 + t258.size + 1) = False := eq_false (by have h9_ := c17; simp only [ByteArray.size_append] at h9_; simp only [ByteArray.size, List.size_toArray, List.length_cons, List.length_nil] at h9_ ⊢; omega)
   replace H := Option.bind_eq_some_iff.mp H
   obtain ⟨t259, A180, H⟩ := H
   replace H : (if ((((((((((x3_1 ++ ((rd_T34 l0 x4_1).f0)) ++ (⟨#[32]⟩ : ByteArray)) ++ t255) ++ (⟨#[32]⟩ : ByteArray)) ++ t256) ++ (⟨#[32]⟩ : ByteArray)) ++ t257) ++ (⟨#[32]⟩ : ByteArray)) ++ t258) ++ (⟨#[32]⟩ : ByteArray)).size + t259.size ≤ 9223372036854775807 then (if (((((((((((x3_1 ++ ((rd_T34 l0 x4_1).f0)) ++ (⟨#[32]⟩ : ByteArray)) ++ t255) ++ (⟨#[32]⟩ : ByteArray)) ++ t256) ++ (⟨#[32]⟩ : ByteArray)) ++ t257) ++ (⟨#[32]⟩ : ByteArray)) ++ t258) ++ (⟨#[32]⟩ : ByteArray)) ++ t259).size + 1 ≤ 9223372036854775807 then ((basculeref21_Dec.f k1 ((rd_T34 l0 x4_1).f6)).bind fun t260 => (if ((((((((((((x3_1 ++ ((rd_T34 l0 x4_1).f0)) ++ (⟨#[32]⟩ : ByteArray)) ++ t255) ++ (⟨#[32]⟩ : ByteArray)) ++ t256) ++ (⟨#[32]⟩ : ByteArray)) ++ t257) ++ (⟨#[32]⟩ : ByteArray)) ++ t258) ++ (⟨#[32]⟩ : ByteArray)) ++ t259) ++ (⟨#[32]⟩ : ByteArray)).size + t260.size ≤ 9223372036854775807 then (if (rd_T34 l0 x4_1).f7 = true then (if (((((((((((((x3_1 ++ ((rd_T34 l0 x4_1).f0)) ++ (⟨#[32]⟩ : ByteArray)) ++ t255) ++ (⟨#[32]⟩ : ByteArray)) ++ t256) ++ (⟨#[32]⟩ : ByteArray)) ++ t257) ++ (⟨#[32]⟩ : ByteArray)) ++ t258) ++ (⟨#[32]⟩ : ByteArray)) ++ t259) ++ (⟨#[32]⟩ : ByteArray)) ++ t260).size + 3 ≤ 9223372036854775807 then (basculeref21_Print.l0 k1 l0 ((((((((((((((x3_1 ++ ((rd_T34 l0 x4_1).f0)) ++ (⟨#[32]⟩ : ByteArray)) ++ t255) ++ (⟨#[32]⟩ : ByteArray)) ++ t256) ++ (⟨#[32]⟩ : ByteArray)) ++ t257) ++ (⟨#[32]⟩ : ByteArray)) ++ t258) ++ (⟨#[32]⟩ : ByteArray)) ++ t259) ++ (⟨#[32]⟩ : ByteArray)) ++ t260) ++ (⟨#[32, 119, 10]⟩ : ByteArray)) (wrap64 (x4_1 + 1))) else (none)) else (if (((((((((((((x3_1 ++ ((rd_T34 l0 x4_1).f0)) ++ (⟨#[32]⟩ : ByteArray)) ++ t255) ++ (⟨#[32]⟩ : ByteArray)) ++ t256) ++ (⟨#[32]⟩ : ByteArray)) ++ t257) ++ (⟨#[32]⟩ : ByteArray)) ++ t258) ++ (⟨#[32]⟩ : ByteArray)) ++ t259) ++ (⟨#[32]⟩ : ByteArray)) ++ t260).size + 3 ≤ 9223372036854775807 then (basculeref21_Print.l0 k1 l0 ((((((((((((((x3_1 ++ ((rd_T34 l0 x4_1).f0)) ++ (⟨#[32]⟩ : ByteArray)) ++ t255) ++ (⟨#[32]⟩ : ByteArray)) ++ t256) ++ (⟨#[32]⟩ : ByteArray)) ++ t257) ++ (⟨#[32]⟩ : ByteArray)) ++ t258) ++ (⟨#[32]⟩ : ByteArray)) ++ t259) ++ (⟨#[32]⟩ : ByteArray)) ++ t260) ++ (⟨#[32, 114, 10]⟩ : ByteArray)) (wrap64 (x4_1 + 1))) else (none))) else (none))) else (none)) else (none)) = some r := H
   have A18 := Aside0.mk A180
   clear A180
   have c19 : ((((((((((x3_1 ++ ((rd_T34 l0 x4_1).f0)) ++ (⟨#[32]⟩ : ByteArray)) ++ t255) ++ (⟨#[32]⟩ : ByteArray)) ++ t256) ++ (⟨#[32]⟩ : ByteArray)) ++ t257) ++ (⟨#[32]⟩ : ByteArray)) ++ t258) ++ (⟨#[32]⟩ : ByteArray)).size + t259.size ≤ 9223372036854775807 := znQx17_
   rw [if_pos c19] at H
   have c19b0 := eq_true c19
   have c19b1 : decide (((((((((((x3_1 ++ ((rd_T34 l0 x4_1).f0)) ++ (⟨#[32]⟩ : ByteArray)) ++ t255) ++ (⟨#[32]⟩ : ByteArray)) ++ t256) ++ (⟨#[32]⟩ : ByteArray)) ++ t257) ++ (⟨#[32]⟩ : ByteArray)) ++ t258) ++ (⟨#[32]⟩ : ByteArray)).size + t259.size ≤ 9223372036854775807) = true := decide_eq_true c19
   try have c19b2 : (9223372036854775807 < ((((((((((x3_1 ++ ((rd_T34 l0 x4_1).f0)) ++ (⟨#[32]⟩ : ByteArray)) ++ t255) ++ (⟨#[32]⟩ : ByteArray)) ++ t256) ++ (⟨#[32]⟩ : ByteArray)) ++ t257) ++ (⟨#[32]⟩ : ByteArray)) ++ t258) ++ (⟨#[32]⟩ : ByteArray)).size + t259.size) = False := eq_false (Nat.not_lt.2 c19)
   try have c19b7 : (9223372036854775807 < x3_1.size + ((rd_T34 l0 x4_1).f0).size + 1 + t255.size + 1 + t256.size + 1 + t257.size + 1 + t258.size + 1 + t259.size) = False := eq_false (by have h9_ := c19; simp only [ByteArray.size_append] at h9_; simp only [ByteArray.size, List.size_toArray, List.length_cons, List.length_nil] at h9_ ⊢; omega)
   have c20 : (((((((((((x3_1 ++ ((rd_T34 l0 x4_1).f0)) ++ (⟨#[32]⟩ : ByteArray)) ++ t255) ++ (⟨#[32]⟩ : ByteArray)) ++ t256) ++ (⟨#[32]⟩ : ByteArray)) ++ t257) ++ (⟨#[32]⟩ : ByteArray)) ++ t258) ++ (⟨#[32]⟩ : ByteArray)) ++ t259).size + 1 ≤ 9223372036854775807 := znQx17_
   rw [if_pos c20] at H
   have c20b0 := eq_true c20
   have c20b1 : decide ((((((((((((x3_1 ++ ((rd_T34 l0 x4_1).f0)) ++ (⟨#[32]⟩ : ByteArray)) ++ t255) ++ (⟨#[32]⟩ : ByteArray)) ++ t256) ++ (⟨#[32]⟩ : ByteArray)) ++ t257) ++ (⟨#[32]⟩ : ByteArray)) ++ t258) ++ (⟨#[32]⟩ : ByteArray)) ++ t259).size + 1 ≤ 9223372036854775807) = true := decide_eq_true c20
   try have c20b2 : (9223372036854775807 < (((((((((((x3_1 ++ ((rd_T34 l0 x4_1).f0)) ++ (⟨#[32]⟩ : ByteArray)) ++ t255) ++ (⟨#[32]⟩ : ByteArray)) ++ t256) ++ (⟨#[32]⟩ : ByteArray)) ++ t257) ++ (⟨#[32]⟩ : ByteArray)) ++ t258) ++ (⟨#[32]⟩ : ByteArray)) ++ t259).size + 1) = False := eq_false (Nat.not_lt.2 c20)
   try have c20b7 : (9223372036854775807 < x3_1.size + ((rd_T34 l0 x4_1).f0).size + 1 + t255.size + 1 + t256.size + 1 + t257.size + 1 + t258.size + 1 + t259.size + 1) = False := eq_false (by have h9_ := c20; simp only [ByteArray.size_append] at h9_; simp only [ByteArray.size, List.size_toArray, List.length_cons, List.length_nil] at h9_ ⊢; omega)
   replace H := Option.bind_eq_some_iff.mp H
   obtain ⟨t260, A210, H⟩ := H
   replace H : (if ((((((((((((x3_1 ++ ((rd_T34 l0 x4_1).f0)) ++ (⟨#[32]⟩ : ByteArray)) ++ t255) ++ (⟨#[32]⟩ : ByteArray)) ++ t256) ++ (⟨#[32]⟩ : ByteArray)) ++ t257) ++ (⟨#[32]⟩ : ByteArray)) ++ t258) ++ (⟨#[32]⟩ : ByteArray)) ++ t259) ++ (⟨#[32]⟩ : ByteArray)).size + t260.size ≤ 9223372036854775807 then (if (rd_T34 l0 x4_1).f7 = true then (if (((((((((((((x3_1 ++ ((rd_T34 l0 x4_1).f0)) ++ (⟨#[32]⟩ : ByteArray)) ++ t255) ++ (⟨#[32]⟩ : ByteArray)) ++ t256) ++ (⟨#[32]⟩ : ByteArray)) ++ t257) ++ (⟨#[32]⟩ : ByteArray)) ++ t258) ++ (⟨#[32]⟩ : ByteArray)) ++ t259) ++ (⟨#[32]⟩ : ByteArray)) ++ t260).size + 3 ≤ 9223372036854775807 then (basculeref21_Print.l0 k1 l0 ((((((((((((((x3_1 ++ ((rd_T34 l0 x4_1).f0)) ++ (⟨#[32]⟩ : ByteArray)) ++ t255) ++ (⟨#[32]⟩ : ByteArray)) ++ t256) ++ (⟨#[32]⟩ : ByteArray)) ++ t257) ++ (⟨#[32]⟩ : ByteArray)) ++ t258) ++ (⟨#[32]⟩ : ByteArray)) ++ t259) ++ (⟨#[32]⟩ : ByteArray)) ++ t260) ++ (⟨#[32, 119, 10]⟩ : ByteArray)) (wrap64 (x4_1 + 1))) else (none)) else (if (((((((((((((x3_1 ++ ((rd_T34 l0 x4_1).f0)) ++ (⟨#[32]⟩ : ByteArray)) ++ t255) ++ (⟨#[32]⟩ : ByteArray)) ++ t256) ++ (⟨#[32]⟩ : ByteArray)) ++ t257) ++ (⟨#[32]⟩ : ByteArray)) ++ t258) ++ (⟨#[32]⟩ : ByteArray)) ++ t259) ++ (⟨#[32]⟩ : ByteArray)) ++ t260).size + 3 ≤ 9223372036854775807 then (basculeref21_Print.l0 k1 l0 ((((((((((((((x3_1 ++ ((rd_T34 l0 x4_1).f0)) ++ (⟨#[32]⟩ : ByteArray)) ++ t255) ++ (⟨#[32]⟩ : ByteArray)) ++ t256) ++ (⟨#[32]⟩ : ByteArray)) ++ t257) ++ (⟨#[32]⟩ : ByteArray)) ++ t258) ++ (⟨#[32]⟩ : ByteArray)) ++ t259) ++ (⟨#[32]⟩ : ByteArray)) ++ t260) ++ (⟨#[32, 114, 10]⟩ : ByteArray)) (wrap64 (x4_1 + 1))) else (none))) else (none)) = some r := H
   have A21 := Aside0.mk A210
   clear A210
   have c22 : ((((((((((((x3_1 ++ ((rd_T34 l0 x4_1).f0)) ++ (⟨#[32]⟩ : ByteArray)) ++ t255) ++ (⟨#[32]⟩ : ByteArray)) ++ t256) ++ (⟨#[32]⟩ : ByteArray)) ++ t257) ++ (⟨#[32]⟩ : ByteArray)) ++ t258) ++ (⟨#[32]⟩ : ByteArray)) ++ t259) ++ (⟨#[32]⟩ : ByteArray)).size + t260.size ≤ 9223372036854775807 := znQx17_
   rw [if_pos c22] at H
   have c22b0 := eq_true c22
   have c22b1 : decide (((((((((((((x3_1 ++ ((rd_T34 l0 x4_1).f0)) ++ (⟨#[32]⟩ : ByteArray)) ++ t255) ++ (⟨#[32]⟩ : ByteArray)) ++ t256) ++ (⟨#[32]⟩ : ByteArray)) ++ t257) ++ (⟨#[32]⟩ : ByteArray)) ++ t258) ++ (⟨#[32]⟩ : ByteArray)) ++ t259) ++ (⟨#[32]⟩ : ByteArray)).size + t260.size ≤ 9223372036854775807) = true := decide_eq_true c22
   try have c22b2 : (9223372036854775807 < ((((((((((((x3_1 ++ ((rd_T34 l0 x4_1).f0)) ++ (⟨#[32]⟩ : ByteArray)) ++ t255) ++ (⟨#[32]⟩ : ByteArray)) ++ t256) ++ (⟨#[32]⟩ : ByteArray)) ++ t257) ++ (⟨#[32]⟩ : ByteArray)) ++ t258) ++ (⟨#[32]⟩ : ByteArray)) ++ t259) ++ (⟨#[32]⟩ : ByteArray)).size + t260.size) = False := eq_false (Nat.not_lt.2 c22)
   try have c22b7 : (9223372036854775807 < x3_1.size + ((rd_T34 l0 x4_1).f0).size + 1 + t255.size + 1 + t256.size + 1 + t257.size + 1 + t258.size + 1 + t259.size + 1 + t260.size) = False := eq_false (by have h9_ := c22; simp only [ByteArray.size_append] at h9_; simp only [ByteArray.size, List.size_toArray, List.length_cons, List.length_nil] at h9_ ⊢; omega)
   obtain ⟨bq23, hbq23⟩ : ∃ b_ : Bool, b_ = ((rd_T34 l0 x4_1).f7) := ⟨_, rfl⟩
   replace H : (if bq23 = true then (if (((((((((((((x3_1 ++ ((rd_T34 l0 x4_1).f0)) ++ (⟨#[32]⟩ : ByteArray)) ++ t255) ++ (⟨#[32]⟩ : ByteArray)) ++ t256) ++ (⟨#[32]⟩ : ByteArray)) ++ t257) ++ (⟨#[32]⟩ : ByteArray)) ++ t258) ++ (⟨#[32]⟩ : ByteArray)) ++ t259) ++ (⟨#[32]⟩ : ByteArray)) ++ t260).size + 3 ≤ 9223372036854775807 then (basculeref21_Print.l0 k1 l0 ((((((((((((((x3_1 ++ ((rd_T34 l0 x4_1).f0)) ++ (⟨#[32]⟩ : ByteArray)) ++ t255) ++ (⟨#[32]⟩ : ByteArray)) ++ t256) ++ (⟨#[32]⟩ : ByteArray)) ++ t257) ++ (⟨#[32]⟩ : ByteArray)) ++ t258) ++ (⟨#[32]⟩ : ByteArray)) ++ t259) ++ (⟨#[32]⟩ : ByteArray)) ++ t260) ++ (⟨#[32, 119, 10]⟩ : ByteArray)) (wrap64 (x4_1 + 1))) else (none)) else (if (((((((((((((x3_1 ++ ((rd_T34 l0 x4_1).f0)) ++ (⟨#[32]⟩ : ByteArray)) ++ t255) ++ (⟨#[32]⟩ : ByteArray)) ++ t256) ++ (⟨#[32]⟩ : ByteArray)) ++ t257) ++ (⟨#[32]⟩ : ByteArray)) ++ t258) ++ (⟨#[32]⟩ : ByteArray)) ++ t259) ++ (⟨#[32]⟩ : ByteArray)) ++ t260).size + 3 ≤ 9223372036854775807 then (basculeref21_Print.l0 k1 l0 ((((((((((((((x3_1 ++ ((rd_T34 l0 x4_1).f0)) ++ (⟨#[32]⟩ : ByteArray)) ++ t255) ++ (⟨#[32]⟩ : ByteArray)) ++ t256) ++ (⟨#[32]⟩ : ByteArray)) ++ t257) ++ (⟨#[32]⟩ : ByteArray)) ++ t258) ++ (⟨#[32]⟩ : ByteArray)) ++ t259) ++ (⟨#[32]⟩ : ByteArray)) ++ t260) ++ (⟨#[32, 114, 10]⟩ : ByteArray)) (wrap64 (x4_1 + 1))) else (none))) = some r := by rw [← hbq23] at H; exact H
   have Nbq23 := Aside0.mk hbq23
   clear hbq23
   by_cases c24 : bq23 = true
   ·
    subst c24
    have H1 : (if (((((((((((((x3_1 ++ ((rd_T34 l0 x4_1).f0)) ++ (⟨#[32]⟩ : ByteArray)) ++ t255) ++ (⟨#[32]⟩ : ByteArray)) ++ t256) ++ (⟨#[32]⟩ : ByteArray)) ++ t257) ++ (⟨#[32]⟩ : ByteArray)) ++ t258) ++ (⟨#[32]⟩ : ByteArray)) ++ t259) ++ (⟨#[32]⟩ : ByteArray)) ++ t260).size + 3 ≤ 9223372036854775807 then (basculeref21_Print.l0 k1 l0 ((((((((((((((x3_1 ++ ((rd_T34 l0 x4_1).f0)) ++ (⟨#[32]⟩ : ByteArray)) ++ t255) ++ (⟨#[32]⟩ : ByteArray)) ++ t256) ++ (⟨#[32]⟩ : ByteArray)) ++ t257) ++ (⟨#[32]⟩ : ByteArray)) ++ t258) ++ (⟨#[32]⟩ : ByteArray)) ++ t259) ++ (⟨#[32]⟩ : ByteArray)) ++ t260) ++ (⟨#[32, 119, 10]⟩ : ByteArray)) (wrap64 (x4_1 + 1))) else (none)) = some r := by rw [if_pos rfl] at H; exact H
    clear H
    have H := H1
    clear H1
    have c25 : (((((((((((((x3_1 ++ ((rd_T34 l0 x4_1).f0)) ++ (⟨#[32]⟩ : ByteArray)) ++ t255) ++ (⟨#[32]⟩ : ByteArray)) ++ t256) ++ (⟨#[32]⟩ : ByteArray)) ++ t257) ++ (⟨#[32]⟩ : ByteArray)) ++ t258) ++ (⟨#[32]⟩ : ByteArray)) ++ t259) ++ (⟨#[32]⟩ : ByteArray)) ++ t260).size + 3 ≤ 9223372036854775807 := znQx17_
    rw [if_pos c25] at H
    have c25b0 := eq_true c25
    have c25b1 : decide ((((((((((((((x3_1 ++ ((rd_T34 l0 x4_1).f0)) ++ (⟨#[32]⟩ : ByteArray)) ++ t255) ++ (⟨#[32]⟩ : ByteArray)) ++ t256) ++ (⟨#[32]⟩ : ByteArray)) ++ t257) ++ (⟨#[32]⟩ : ByteArray)) ++ t258) ++ (⟨#[32]⟩ : ByteArray)) ++ t259) ++ (⟨#[32]⟩ : ByteArray)) ++ t260).size + 3 ≤ 9223372036854775807) = true := decide_eq_true c25
    try have c25b2 : (9223372036854775807 < (((((((((((((x3_1 ++ ((rd_T34 l0 x4_1).f0)) ++ (⟨#[32]⟩ : ByteArray)) ++ t255) ++ (⟨#[32]⟩ : ByteArray)) ++ t256) ++ (⟨#[32]⟩ : ByteArray)) ++ t257) ++ (⟨#[32]⟩ : ByteArray)) ++ t258) ++ (⟨#[32]⟩ : ByteArray)) ++ t259) ++ (⟨#[32]⟩ : ByteArray)) ++ t260).size + 3) = False := eq_false (Nat.not_lt.2 c25)
    try have c25b7 : (9223372036854775807 < x3_1.size + ((rd_T34 l0 x4_1).f0).size + 1 + t255.size + 1 + t256.size + 1 + t257.size + 1 + t258.size + 1 + t259.size + 1 + t260.size + 3) = False := eq_false (by have h9_ := c25; simp only [ByteArray.size_append] at h9_; simp only [ByteArray.size, List.size_toArray, List.length_cons, List.length_nil] at h9_ ⊢; omega)
    have H' := Aside0.mk H
    clear H
    have p253 : 0 ≤ (x4_1 : Int) := of_decide_eq_true zQx17a6_
    have q253 : x4_1 < (l0.length : Int) := of_decide_eq_true zQx17a6_
    obtain ⟨ad253, e253, hx253_0, hx253_1, hx253_2, hx253_3, hx253_4, hx253_5, hx253_6, hx253_7⟩ := at_T34 HR0.out x4_1 p253 q253
    (try rw [← Nbq23.out] at hx253_7)
    cases e253
    replace hx253_0 := (HB.out.cell (World.block_lt_of_cell? w _ hx253_0)).trans hx253_0
    replace hx253_1 := (HB.out.cell (World.block_lt_of_cell? w _ hx253_1)).trans hx253_1
    replace hx253_2 := (HB.out.cell (World.block_lt_of_cell? w _ hx253_2)).trans hx253_2
    replace hx253_3 := (HB.out.cell (World.block_lt_of_cell? w _ hx253_3)).trans hx253_3
    replace hx253_4 := (HB.out.cell (World.block_lt_of_cell? w _ hx253_4)).trans hx253_4
    replace hx253_5 := (HB.out.cell (World.block_lt_of_cell? w _ hx253_5)).trans hx253_5
    replace hx253_6 := (HB.out.cell (World.block_lt_of_cell? w _ hx253_6)).trans hx253_6
    replace hx253_7 := (HB.out.cell (World.block_lt_of_cell? w _ hx253_7)).trans hx253_7
    replace p253 := eq_true p253
    replace q253 := eq_true q253
    try go_wp2_with (first | ((with_reducible refine gate_dst (N := 5) rfl ?_); refine box_event ?hg (N := 5) ?hd (cs := #[.string (⟨#[]⟩ : ByteArray), .int .i64 0, .int .i64 0, .int .i64 0, .int .i64 0, .int .i64 0, .int .i64 0, .bool false]) (t := 34) ?hr ?_; (case hd => rfl); (case hg => rfl); (case hr => first | (go_simp; done) | (go_simp; rfl)); intro gb254 hg w26 hbox hb; have n0_ := Aside0.mk (below_step zQx17a4_ hb); have n1_ := Aside0.mk (hbox); have n2_ := Aside0.mk ((by rw [hg]; exact (below_size zQx17a4_) : w.heap.size ≤ gb254)); have n3_ := Aside0.mk ((by rw [hg]; exact (below_size zQx17a4_) : w.heap.size ≤ gb254)); clear HB; have HB := n0_; have BK254 := n1_; have GW254 := n2_; have GE254 := n3_; clear n0_ n1_ n2_ n3_; clear hb hbox hg; have hcz27_0 : w26.cell? ⟨gb254, 0, none⟩ = some (.string (⟨#[]⟩ : ByteArray)) := (blk_cell BK254.out 0).trans rfl; have hcz27_1 : w26.cell? ⟨gb254, 1, none⟩ = some (.int .i64 0) := (blk_cell BK254.out 1).trans rfl; have hcz27_2 : w26.cell? ⟨gb254, 2, none⟩ = some (.int .i64 0) := (blk_cell BK254.out 2).trans rfl; have hcz27_3 : w26.cell? ⟨gb254, 3, none⟩ = some (.int .i64 0) := (blk_cell BK254.out 3).trans rfl; have hcz27_4 : w26.cell? ⟨gb254, 4, none⟩ = some (.int .i64 0) := (blk_cell BK254.out 4).trans rfl; have hcz27_5 : w26.cell? ⟨gb254, 5, none⟩ = some (.int .i64 0) := (blk_cell BK254.out 5).trans rfl; have hcz27_6 : w26.cell? ⟨gb254, 6, none⟩ = some (.int .i64 0) := (blk_cell BK254.out 6).trans rfl; have hcz27_7 : w26.cell? ⟨gb254, 7, none⟩ = some (.bool false) := (blk_cell BK254.out 7).trans rfl; have hfz27_0 := blk_frozen BK254.out 0; have hfz27_1 := blk_frozen BK254.out 1; have hfz27_2 := blk_frozen BK254.out 2; have hfz27_3 := blk_frozen BK254.out 3; have hfz27_4 := blk_frozen BK254.out 4; have hfz27_5 := blk_frozen BK254.out 5; have hfz27_6 := blk_frozen BK254.out 6; have hfz27_7 := blk_frozen BK254.out 7))
    have n0_ : Aside0 (((((((((w26.setCell ⟨gb254, 0, none⟩ (.string ((rd_T34 l0 x4_1).f0))).setCell ⟨gb254, 1, none⟩ (.int .i64 ((rd_T34 l0 x4_1).f1))).setCell ⟨gb254, 2, none⟩ (.int .i64 ((rd_T34 l0 x4_1).f2))).setCell ⟨gb254, 3, none⟩ (.int .i64 ((rd_T34 l0 x4_1).f3))).setCell ⟨gb254, 4, none⟩ (.int .i64 ((rd_T34 l0 x4_1).f4))).setCell ⟨gb254, 5, none⟩ (.int .i64 ((rd_T34 l0 x4_1).f5))).setCell ⟨gb254, 6, none⟩ (.int .i64 ((rd_T34 l0 x4_1).f6))).setCell ⟨gb254, 7, none⟩ (.bool true)).heap[gb254]? = some (.cells #[.string ((rd_T34 l0 x4_1).f0), .int .i64 ((rd_T34 l0 x4_1).f1), .int .i64 ((rd_T34 l0 x4_1).f2), .int .i64 ((rd_T34 l0 x4_1).f3), .int .i64 ((rd_T34 l0 x4_1).f4), .int .i64 ((rd_T34 l0 x4_1).f5), .int .i64 ((rd_T34 l0 x4_1).f6), .bool true] 34 (0, 0))) := ⟨zQx17a0_⟩
    have n1_ : Aside0 (Below w.heap.size w ((((((((w26.setCell ⟨gb254, 0, none⟩ (.string ((rd_T34 l0 x4_1).f0))).setCell ⟨gb254, 1, none⟩ (.int .i64 ((rd_T34 l0 x4_1).f1))).setCell ⟨gb254, 2, none⟩ (.int .i64 ((rd_T34 l0 x4_1).f2))).setCell ⟨gb254, 3, none⟩ (.int .i64 ((rd_T34 l0 x4_1).f3))).setCell ⟨gb254, 4, none⟩ (.int .i64 ((rd_T34 l0 x4_1).f4))).setCell ⟨gb254, 5, none⟩ (.int .i64 ((rd_T34 l0 x4_1).f5))).setCell ⟨gb254, 6, none⟩ (.int .i64 ((rd_T34 l0 x4_1).f6))).setCell ⟨gb254, 7, none⟩ (.bool true))) := ⟨zQx17a1_⟩
    (try clear BK254)
    (try clear HB)
    generalize ((((((((w26.setCell ⟨gb254, 0, none⟩ (.string ((rd_T34 l0 x4_1).f0))).setCell ⟨gb254, 1, none⟩ (.int .i64 ((rd_T34 l0 x4_1).f1))).setCell ⟨gb254, 2, none⟩ (.int .i64 ((rd_T34 l0 x4_1).f2))).setCell ⟨gb254, 3, none⟩ (.int .i64 ((rd_T34 l0 x4_1).f3))).setCell ⟨gb254, 4, none⟩ (.int .i64 ((rd_T34 l0 x4_1).f4))).setCell ⟨gb254, 5, none⟩ (.int .i64 ((rd_T34 l0 x4_1).f5))).setCell ⟨gb254, 6, none⟩ (.int .i64 ((rd_T34 l0 x4_1).f6))).setCell ⟨gb254, 7, none⟩ (.bool true)) = w28 at n0_ n1_ ⊢
    have BK254 := n0_
    have HB := n1_
    clear n0_ n1_
    have n0_ := Aside0.mk (blk_drew BK254.out)
    have n1_ := Aside0.mk (below_drew1 HB.out)
    clear BK254
    clear HB
    have BK254 := n0_
    have HB := n1_
    clear n0_ n1_
    refine start_ (n := 35) (S := fun w' => w'.cell? ⟨gb254, 0, none⟩ = some (.string ((rd_T34 l0 x4_1).f0)) ∧ w'.cell? ⟨gb254, 1, none⟩ = some (.int .i64 ((rd_T34 l0 x4_1).f1)) ∧ w'.cell? ⟨gb254, 2, none⟩ = some (.int .i64 ((rd_T34 l0 x4_1).f2)) ∧ w'.cell? ⟨gb254, 3, none⟩ = some (.int .i64 ((rd_T34 l0 x4_1).f3)) ∧ w'.cell? ⟨gb254, 4, none⟩ = some (.int .i64 ((rd_T34 l0 x4_1).f4)) ∧ w'.cell? ⟨gb254, 5, none⟩ = some (.int .i64 ((rd_T34 l0 x4_1).f5)) ∧ w'.cell? ⟨gb254, 6, none⟩ = some (.int .i64 ((rd_T34 l0 x4_1).f6)) ∧ w'.cell? ⟨gb254, 7, none⟩ = some (.bool true)) (ds := []) #[false, false, false, false, false, false, false, false, false, false, false, false, false, false, false, false, false, false, false, false, false, false, false, false, false, false, false, false, false, false, false, false, false, false, false] (by kernel_rfl) rfl rfl ⟨(blk_cell BK254.out 0).trans rfl, (blk_cell BK254.out 1).trans rfl, (blk_cell BK254.out 2).trans rfl, (blk_cell BK254.out 3).trans rfl, (blk_cell BK254.out 4).trans rfl, (blk_cell BK254.out 5).trans rfl, (blk_cell BK254.out 6).trans rfl, (blk_cell BK254.out 7).trans rfl⟩ (fun hHeld => ?_); refine with_tabW basculeref21_Print.tab6 basculeref21_Print.bits6 (fun HT_ HW_ => ?_)
    generalize w28.drew = w29 at BK254 HB hHeld ⊢
    refine pure_ (i := 0) (N := some 16) (v := ?_) (a' := ?_) #[true, false, false, false, false, false, false, false, false, false, false, false, false, false, false, false, false, false, false, false, false, false, false, false, false, false, false, false, false, false, false, false, false, false, false] rfl rfl (any_of HT_.out (by kernel_rfl)) (fun _ _ _ h => h) (Or.inl ⟨by rfl, ?_⟩) ?_ ?_
    rotate_left
    ·
     intro w'
     go_simp
     with_reducible rfl
    rotate_left
    ·
     simp only [Act.put, List.setIfInBounds_toArray, List.set_cons_zero, List.set_cons_succ, i64_w, i32_w]
     rfl
    refine pure_ (i := 1) (N := some 17) (v := ?_) (a' := ?_) #[true, true, false, false, false, false, false, false, false, false, false, false, false, false, false, false, false, false, false, false, false, false, false, false, false, false, false, false, false, false, false, false, false, false, false] rfl rfl (any_of HT_.out (by kernel_rfl)) (fun _ _ _ h => h) (Or.inl ⟨by rfl, ?_⟩) ?_ ?_
    rotate_left
    ·
     intro w'
     go_simp
     with_reducible rfl
    rotate_left
    ·
     simp only [Act.put, List.setIfInBounds_toArray, List.set_cons_zero, List.set_cons_succ, i64_w, i32_w]
     rfl
    refine pure_ (i := 5) (N := some 21) (v := ?_) (a' := ?_) #[true, true, false, false, false, true, false, false, false, false, false, false, false, false, false, false, false, false, false, false, false, false, false, false, false, false, false, false, false, false, false, false, false, false, false] rfl rfl (any_of HT_.out (by kernel_rfl)) (fun _ _ _ h => h) (Or.inl ⟨by rfl, ?_⟩) ?_ ?_
    rotate_left
    ·
     intro w'
     go_simp
     with_reducible rfl
    rotate_left
    ·
     simp only [Act.put, List.setIfInBounds_toArray, List.set_cons_zero, List.set_cons_succ, i64_w, i32_w]
     rfl
    refine pure_ (i := 10) (N := some 26) (v := ?_) (a' := ?_) #[true, true, false, false, false, true, false, false, false, false, true, false, false, false, false, false, false, false, false, false, false, false, false, false, false, false, false, false, false, false, false, false, false, false, false] rfl rfl (any_of HT_.out (by kernel_rfl)) (fun _ _ _ h => h) (Or.inl ⟨by rfl, ?_⟩) ?_ ?_
    rotate_left
    ·
     intro w'
     go_simp
     with_reducible rfl
    rotate_left
    ·
     simp only [Act.put, List.setIfInBounds_toArray, List.set_cons_zero, List.set_cons_succ, i64_w, i32_w]
     rfl
    refine pure_ (i := 15) (N := some 31) (v := ?_) (a' := ?_) #[true, true, false, false, false, true, false, false, false, false, true, false, false, false, false, true, false, false, false, false, false, false, false, false, false, false, false, false, false, false, false, false, false, false, false] rfl rfl (any_of HT_.out (by kernel_rfl)) (fun _ _ _ h => h) (Or.inl ⟨by rfl, ?_⟩) ?_ ?_
    rotate_left
    ·
     intro w'
     go_simp
     with_reducible rfl
    rotate_left
    ·
     simp only [Act.put, List.setIfInBounds_toArray, List.set_cons_zero, List.set_cons_succ, i64_w, i32_w]
     rfl
    refine pure_ (i := 20) (N := some 36) (v := ?_) (a' := ?_) #[true, true, false, false, false, true, false, false, false, false, true, false, false, false, false, true, false, false, false, false, true, false, false, false, false, false, false, false, false, false, false, false, false, false, false] rfl rfl (any_of HT_.out (by kernel_rfl)) (fun _ _ _ h => h) (Or.inl ⟨by rfl, ?_⟩) ?_ ?_
    rotate_left
    ·
     intro w'
     go_simp
     with_reducible rfl
    rotate_left
    ·
     simp only [Act.put, List.setIfInBounds_toArray, List.set_cons_zero, List.set_cons_succ, i64_w, i32_w]
     rfl
    refine pure_ (i := 25) (N := some 41) (v := ?_) (a' := ?_) #[true, true, false, false, false, true, false, false, false, false, true, false, false, false, false, true, false, false, false, false, true, false, false, false, false, true, false, false, false, false, false, false, false, false, false] rfl rfl (any_of HT_.out (by kernel_rfl)) (fun _ _ _ h => h) (Or.inl ⟨by rfl, ?_⟩) ?_ ?_
    rotate_left
    ·
     intro w'
     go_simp
     with_reducible rfl
    rotate_left
    ·
     simp only [Act.put, List.setIfInBounds_toArray, List.set_cons_zero, List.set_cons_succ, i64_w, i32_w]
     rfl
    refine pure_ (i := 30) (N := some 46) (v := ?_) (a' := ?_) #[true, true, false, false, false, true, false, false, false, false, true, false, false, false, false, true, false, false, false, false, true, false, false, false, false, true, false, false, false, false, true, false, false, false, false] rfl rfl (any_of HT_.out (by kernel_rfl)) (fun _ _ _ h => h) (Or.inl ⟨by rfl, ?_⟩) ?_ ?_
    rotate_left
    ·
     intro w'
     go_simp
     with_reducible rfl
    rotate_left
    ·
     simp only [Act.put, List.setIfInBounds_toArray, List.set_cons_zero, List.set_cons_succ, i64_w, i32_w]
     rfl
    refine take_ (i := 2) (N := some 18) (v := ?_) (a' := ?_) #[true, true, true, false, false, true, false, false, false, false, true, false, false, false, false, true, false, false, false, false, true, false, false, false, false, true, false, false, false, false, true, false, false, false, false] rfl rfl (take_ofW HT_.out HW_.out (by kernel_rfl)) (fun _ _ _ h => h) (Or.inl ⟨by rfl, ?_⟩) hHeld ?_ ?_
    rotate_left
    ·
     rintro w' ⟨s0, s1, s2, s3, s4, s5, s6, s7⟩
     go_simp
     with_reducible rfl
    rotate_left
    ·
     simp only [Act.put, List.setIfInBounds_toArray, List.set_cons_zero, List.set_cons_succ, i64_w, i32_w]
     rfl
    refine pure_ (i := 3) (N := some 19) (v := ?_) (a' := ?_) #[true, true, true, true, false, true, false, false, false, false, true, false, false, false, false, true, false, false, false, false, true, false, false, false, false, true, false, false, false, false, true, false, false, false, false] rfl rfl (any_of HT_.out (by kernel_rfl)) (fun _ _ _ h => h) (Or.inl ⟨by rfl, ?_⟩) ?_ ?_
    rotate_left
    ·
     intro w'
     go_simp
     with_reducible rfl
    rotate_left
    ·
     simp only [Act.put, List.setIfInBounds_toArray, List.set_cons_zero, List.set_cons_succ, i64_w, i32_w]
     rfl
    refine pure_ (i := 4) (N := some 20) (v := ?_) (a' := ?_) #[true, true, true, true, true, true, false, false, false, false, true, false, false, false, false, true, false, false, false, false, true, false, false, false, false, true, false, false, false, false, true, false, false, false, false] rfl rfl (any_of HT_.out (by kernel_rfl)) (fun _ _ _ h => h) (Or.inl ⟨by rfl, ?_⟩) ?_ ?_
    rotate_left
    ·
     intro w'
     go_simp
     with_reducible rfl
    rotate_left
    ·
     simp only [Act.put, List.setIfInBounds_toArray, List.set_cons_zero, List.set_cons_succ, i64_w, i32_w]
     rfl
    refine take_ (i := 6) (N := some 22) (v := ?_) (a' := ?_) #[true, true, true, true, true, true, true, false, false, false, true, false, false, false, false, true, false, false, false, false, true, false, false, false, false, true, false, false, false, false, true, false, false, false, false] rfl rfl (take_ofW HT_.out HW_.out (by kernel_rfl)) (fun _ _ _ h => h) (Or.inl ⟨by rfl, ?_⟩) hHeld ?_ ?_
    rotate_left
    ·
     rintro w' ⟨s0, s1, s2, s3, s4, s5, s6, s7⟩
     go_simp
     with_reducible rfl
    rotate_left
    ·
     simp only [Act.put, List.setIfInBounds_toArray, List.set_cons_zero, List.set_cons_succ, i64_w, i32_w]
     rfl
    refine take_ (i := 11) (N := some 27) (v := ?_) (a' := ?_) #[true, true, true, true, true, true, true, false, false, false, true, true, false, false, false, true, false, false, false, false, true, false, false, false, false, true, false, false, false, false, true, false, false, false, false] rfl rfl (take_ofW HT_.out HW_.out (by kernel_rfl)) (fun _ _ _ h => h) (Or.inl ⟨by rfl, ?_⟩) hHeld ?_ ?_
    rotate_left
    ·
     rintro w' ⟨s0, s1, s2, s3, s4, s5, s6, s7⟩
     go_simp
     with_reducible rfl
    rotate_left
    ·
     simp only [Act.put, List.setIfInBounds_toArray, List.set_cons_zero, List.set_cons_succ, i64_w, i32_w]
     rfl
    refine take_ (i := 16) (N := some 32) (v := ?_) (a' := ?_) #[true, true, true, true, true, true, true, false, false, false, true, true, false, false, false, true, true, false, false, false, true, false, false, false, false, true, false, false, false, false, true, false, false, false, false] rfl rfl (take_ofW HT_.out HW_.out (by kernel_rfl)) (fun _ _ _ h => h) (Or.inl ⟨by rfl, ?_⟩) hHeld ?_ ?_
    rotate_left
    ·
     rintro w' ⟨s0, s1, s2, s3, s4, s5, s6, s7⟩
     go_simp
     with_reducible rfl
    rotate_left
    ·
     simp only [Act.put, List.setIfInBounds_toArray, List.set_cons_zero, List.set_cons_succ, i64_w, i32_w]
     rfl
    refine take_ (i := 21) (N := some 37) (v := ?_) (a' := ?_) #[true, true, true, true, true, true, true, false, false, false, true, true, false, false, false, true, true, false, false, false, true, true, false, false, false, true, false, false, false, false, true, false, false, false, false] rfl rfl (take_ofW HT_.out HW_.out (by kernel_rfl)) (fun _ _ _ h => h) (Or.inl ⟨by rfl, ?_⟩) hHeld ?_ ?_
    rotate_left
    ·
     rintro w' ⟨s0, s1, s2, s3, s4, s5, s6, s7⟩
     go_simp
     with_reducible rfl
    rotate_left
    ·
     simp only [Act.put, List.setIfInBounds_toArray, List.set_cons_zero, List.set_cons_succ, i64_w, i32_w]
     rfl
    refine take_ (i := 26) (N := some 42) (v := ?_) (a' := ?_) #[true, true, true, true, true, true, true, false, false, false, true, true, false, false, false, true, true, false, false, false, true, true, false, false, false, true, true, false, false, false, true, false, false, false, false] rfl rfl (take_ofW HT_.out HW_.out (by kernel_rfl)) (fun _ _ _ h => h) (Or.inl ⟨by rfl, ?_⟩) hHeld ?_ ?_
    rotate_left
    ·
     rintro w' ⟨s0, s1, s2, s3, s4, s5, s6, s7⟩
     go_simp
     with_reducible rfl
    rotate_left
    ·
     simp only [Act.put, List.setIfInBounds_toArray, List.set_cons_zero, List.set_cons_succ, i64_w, i32_w]
     rfl
    refine take_ (i := 31) (N := some 47) (v := ?_) (a' := ?_) #[true, true, true, true, true, true, true, false, false, false, true, true, false, false, false, true, true, false, false, false, true, true, false, false, false, true, true, false, false, false, true, true, false, false, false] rfl rfl (take_ofW HT_.out HW_.out (by kernel_rfl)) (fun _ _ _ h => h) (Or.inl ⟨by rfl, ?_⟩) hHeld ?_ ?_
    rotate_left
    ·
     rintro w' ⟨s0, s1, s2, s3, s4, s5, s6, s7⟩
     go_simp
     with_reducible rfl
    rotate_left
    ·
     simp only [Act.put, List.setIfInBounds_toArray, List.set_cons_zero, List.set_cons_succ, i64_w, i32_w]
     rfl
    refine one_ (i := 7) (N := some 23) #[true, true, true, true, true, true, true, true, false, false, true, true, false, false, false, true, true, false, false, false, true, true, false, false, false, true, true, false, false, false, true, true, false, false, false] rfl rfl (one_of HT_.out (by kernel_rfl)) (by decide) (fun K hK => ?_)
    refine goes_ Tryz.func33 (by kernel_rfl) rfl #[.int .i64 ((rd_T34 l0 x4_1).f1)] (by rfl) rfl rfl zQx17a2_ ?_
    with_reducible refine (basculeref21_Dec.calls k1 ((rd_T34 l0 x4_1).f1) t255 _ A6.out).mono ?_
    rintro e w30 ⟨rfl, hb⟩
    refine ⟨_, rfl, ?_⟩
    have n0_ := Aside0.mk (blk_below (g := gb254) (o := .cells #[.string ((rd_T34 l0 x4_1).f0), .int .i64 ((rd_T34 l0 x4_1).f1), .int .i64 ((rd_T34 l0 x4_1).f2), .int .i64 ((rd_T34 l0 x4_1).f3), .int .i64 ((rd_T34 l0 x4_1).f4), .int .i64 ((rd_T34 l0 x4_1).f5), .int .i64 ((rd_T34 l0 x4_1).f6), .bool true] 34 (0, 0)) zQx17a3_ hb)
    have n1_ := Aside0.mk (below_step zQx17a1_ hb)
    clear BK254
    clear HB
    have BK254 := n0_
    have HB := n1_
    clear n0_ n1_
    (try clear hb)
    (try clear hb2)
    (try clear hk)
    (try clear hi)
    refine hK.out _ _ ⟨(blk_cell BK254.out 0).trans rfl, (blk_cell BK254.out 1).trans rfl, (blk_cell BK254.out 2).trans rfl, (blk_cell BK254.out 3).trans rfl, (blk_cell BK254.out 4).trans rfl, (blk_cell BK254.out 5).trans rfl, (blk_cell BK254.out 6).trans rfl, (blk_cell BK254.out 7).trans rfl⟩ (fun hHeld => ?_)
    clear hK K
    refine norm_ (a' := ?_) ?_ ?_
    rotate_left
    ·
     show Act.put _ (some 23) _ = _
     simp only [Act.put, List.setIfInBounds_toArray, List.set_cons_zero, List.set_cons_succ, i64_w, i32_w]
     rfl
    refine pure_ (i := 8) (N := some 24) (v := ?_) (a' := ?_) #[true, true, true, true, true, true, true, true, true, false, true, true, false, false, false, true, true, false, false, false, true, true, false, false, false, true, true, false, false, false, true, true, false, false, false] rfl rfl (any_of HT_.out (by kernel_rfl)) (fun _ _ _ h => h) (Or.inl ⟨by rfl, ?_⟩) ?_ ?_
    rotate_left
    ·
     intro w'
     go_simp
     with_reducible rfl
    rotate_left
    ·
     simp only [Act.put, List.setIfInBounds_toArray, List.set_cons_zero, List.set_cons_succ, i64_w, i32_w]
     rfl
    refine pure_ (i := 9) (N := some 25) (v := ?_) (a' := ?_) #[true, true, true, true, true, true, true, true, true, true, true, true, false, false, false, true, true, false, false, false, true, true, false, false, false, true, true, false, false, false, true, true, false, false, false] rfl rfl (any_of HT_.out (by kernel_rfl)) (fun _ _ _ h => h) (Or.inl ⟨by rfl, ?_⟩) ?_ ?_
    rotate_left
    ·
     intro w'
     go_simp
     with_reducible rfl
    rotate_left
    ·
     simp only [Act.put, List.setIfInBounds_toArray, List.set_cons_zero, List.set_cons_succ, i64_w, i32_w]
     rfl
    refine one_ (i := 12) (N := some 28) #[true, true, true, true, true, true, true, true, true, true, true, true, true, false, false, true, true, false, false, false, true, true, false, false, false, true, true, false, false, false, true, true, false, false, false] rfl rfl (one_of HT_.out (by kernel_rfl)) (by decide) (fun K hK => ?_)
    refine goes_ Tryz.func33 (by kernel_rfl) rfl #[.int .i64 ((rd_T34 l0 x4_1).f2)] (by rfl) rfl rfl zQx17a2_ ?_
    with_reducible refine (basculeref21_Dec.calls k1 ((rd_T34 l0 x4_1).f2) t256 _ A9.out).mono ?_
    rintro e w31 ⟨rfl, hb⟩
    refine ⟨_, rfl, ?_⟩
    have n0_ := Aside0.mk (blk_below (g := gb254) (o := .cells #[.string ((rd_T34 l0 x4_1).f0), .int .i64 ((rd_T34 l0 x4_1).f1), .int .i64 ((rd_T34 l0 x4_1).f2), .int .i64 ((rd_T34 l0 x4_1).f3), .int .i64 ((rd_T34 l0 x4_1).f4), .int .i64 ((rd_T34 l0 x4_1).f5), .int .i64 ((rd_T34 l0 x4_1).f6), .bool true] 34 (0, 0)) zQx17a3_ hb)
    have n1_ := Aside0.mk (below_step zQx17a1_ hb)
    clear BK254
    clear HB
    have BK254 := n0_
    have HB := n1_
    clear n0_ n1_
    (try clear hb)
    (try clear hb2)
    (try clear hk)
    (try clear hi)
    refine hK.out _ _ ⟨(blk_cell BK254.out 0).trans rfl, (blk_cell BK254.out 1).trans rfl, (blk_cell BK254.out 2).trans rfl, (blk_cell BK254.out 3).trans rfl, (blk_cell BK254.out 4).trans rfl, (blk_cell BK254.out 5).trans rfl, (blk_cell BK254.out 6).trans rfl, (blk_cell BK254.out 7).trans rfl⟩ (fun hHeld => ?_)
    clear hK K
    refine norm_ (a' := ?_) ?_ ?_
    rotate_left
    ·
     show Act.put _ (some 28) _ = _
     simp only [Act.put, List.setIfInBounds_toArray, List.set_cons_zero, List.set_cons_succ, i64_w, i32_w]
     rfl
    refine pure_ (i := 13) (N := some 29) (v := ?_) (a' := ?_) #[true, true, true, true, true, true, true, true, true, true, true, true, true, true, false, true, true, false, false, false, true, true, false, false, false, true, true, false, false, false, true, true, false, false, false] rfl rfl (any_of HT_.out (by kernel_rfl)) (fun _ _ _ h => h) (Or.inl ⟨by rfl, ?_⟩) ?_ ?_
    rotate_left
    ·
     intro w'
     go_simp
     with_reducible rfl
    rotate_left
    ·
     simp only [Act.put, List.setIfInBounds_toArray, List.set_cons_zero, List.set_cons_succ, i64_w, i32_w]
     rfl
    refine pure_ (i := 14) (N := some 30) (v := ?_) (a' := ?_) #[true, true, true, true, true, true, true, true, true, true, true, true, true, true, true, true, true, false, false, false, true, true, false, false, false, true, true, false, false, false, true, true, false, false, false] rfl rfl (any_of HT_.out (by kernel_rfl)) (fun _ _ _ h => h) (Or.inl ⟨by rfl, ?_⟩) ?_ ?_
    rotate_left
    ·
     intro w'
     go_simp
     with_reducible rfl
    rotate_left
    ·
     simp only [Act.put, List.setIfInBounds_toArray, List.set_cons_zero, List.set_cons_succ, i64_w, i32_w]
     rfl
    refine one_ (i := 17) (N := some 33) #[true, true, true, true, true, true, true, true, true, true, true, true, true, true, true, true, true, true, false, false, true, true, false, false, false, true, true, false, false, false, true, true, false, false, false] rfl rfl (one_of HT_.out (by kernel_rfl)) (by decide) (fun K hK => ?_)
    refine goes_ Tryz.func33 (by kernel_rfl) rfl #[.int .i64 ((rd_T34 l0 x4_1).f3)] (by rfl) rfl rfl zQx17a2_ ?_
    with_reducible refine (basculeref21_Dec.calls k1 ((rd_T34 l0 x4_1).f3) t257 _ A12.out).mono ?_
    rintro e w32 ⟨rfl, hb⟩
    refine ⟨_, rfl, ?_⟩
    have n0_ := Aside0.mk (blk_below (g := gb254) (o := .cells #[.string ((rd_T34 l0 x4_1).f0), .int .i64 ((rd_T34 l0 x4_1).f1), .int .i64 ((rd_T34 l0 x4_1).f2), .int .i64 ((rd_T34 l0 x4_1).f3), .int .i64 ((rd_T34 l0 x4_1).f4), .int .i64 ((rd_T34 l0 x4_1).f5), .int .i64 ((rd_T34 l0 x4_1).f6), .bool true] 34 (0, 0)) zQx17a3_ hb)
    have n1_ := Aside0.mk (below_step zQx17a1_ hb)
    clear BK254
    clear HB
    have BK254 := n0_
    have HB := n1_
    clear n0_ n1_
    (try clear hb)
    (try clear hb2)
    (try clear hk)
    (try clear hi)
    refine hK.out _ _ ⟨(blk_cell BK254.out 0).trans rfl, (blk_cell BK254.out 1).trans rfl, (blk_cell BK254.out 2).trans rfl, (blk_cell BK254.out 3).trans rfl, (blk_cell BK254.out 4).trans rfl, (blk_cell BK254.out 5).trans rfl, (blk_cell BK254.out 6).trans rfl, (blk_cell BK254.out 7).trans rfl⟩ (fun hHeld => ?_)
    clear hK K
    refine norm_ (a' := ?_) ?_ ?_
    rotate_left
    ·
     show Act.put _ (some 33) _ = _
     simp only [Act.put, List.setIfInBounds_toArray, List.set_cons_zero, List.set_cons_succ, i64_w, i32_w]
     rfl
    refine pure_ (i := 18) (N := some 34) (v := ?_) (a' := ?_) #[true, true, true, true, true, true, true, true, true, true, true, true, true, true, true, true, true, true, true, false, true, true, false, false, false, true, true, false, false, false, true, true, false, false, false] rfl rfl (any_of HT_.out (by kernel_rfl)) (fun _ _ _ h => h) (Or.inl ⟨by rfl, ?_⟩) ?_ ?_
    rotate_left
    ·
     intro w'
     go_simp
     with_reducible rfl
    rotate_left
    ·
     simp only [Act.put, List.setIfInBounds_toArray, List.set_cons_zero, List.set_cons_succ, i64_w, i32_w]
     rfl
    refine pure_ (i := 19) (N := some 35) (v := ?_) (a' := ?_) #[true, true, true, true, true, true, true, true, true, true, true, true, true, true, true, true, true, true, true, true, true, true, false, false, false, true, true, false, false, false, true, true, false, false, false] rfl rfl (any_of HT_.out (by kernel_rfl)) (fun _ _ _ h => h) (Or.inl ⟨by rfl, ?_⟩) ?_ ?_
    rotate_left
    ·
     intro w'
     go_simp
     with_reducible rfl
    rotate_left
    ·
     simp only [Act.put, List.setIfInBounds_toArray, List.set_cons_zero, List.set_cons_succ, i64_w, i32_w]
     rfl
    refine one_ (i := 22) (N := some 38) #[true, true, true, true, true, true, true, true, true, true, true, true, true, true, true, true, true, true, true, true, true, true, true, false, false, true, true, false, false, false, true, true, false, false, false] rfl rfl (one_of HT_.out (by kernel_rfl)) (by decide) (fun K hK => ?_)
    refine goes_ Tryz.func33 (by kernel_rfl) rfl #[.int .i64 ((rd_T34 l0 x4_1).f4)] (by rfl) rfl rfl zQx17a2_ ?_
    with_reducible refine (basculeref21_Dec.calls k1 ((rd_T34 l0 x4_1).f4) t258 _ A15.out).mono ?_
    rintro e w33 ⟨rfl, hb⟩
    refine ⟨_, rfl, ?_⟩
    have n0_ := Aside0.mk (blk_below (g := gb254) (o := .cells #[.string ((rd_T34 l0 x4_1).f0), .int .i64 ((rd_T34 l0 x4_1).f1), .int .i64 ((rd_T34 l0 x4_1).f2), .int .i64 ((rd_T34 l0 x4_1).f3), .int .i64 ((rd_T34 l0 x4_1).f4), .int .i64 ((rd_T34 l0 x4_1).f5), .int .i64 ((rd_T34 l0 x4_1).f6), .bool true] 34 (0, 0)) zQx17a3_ hb)
    have n1_ := Aside0.mk (below_step zQx17a1_ hb)
    clear BK254
    clear HB
    have BK254 := n0_
    have HB := n1_
    clear n0_ n1_
    (try clear hb)
    (try clear hb2)
    (try clear hk)
    (try clear hi)
    refine hK.out _ _ ⟨(blk_cell BK254.out 0).trans rfl, (blk_cell BK254.out 1).trans rfl, (blk_cell BK254.out 2).trans rfl, (blk_cell BK254.out 3).trans rfl, (blk_cell BK254.out 4).trans rfl, (blk_cell BK254.out 5).trans rfl, (blk_cell BK254.out 6).trans rfl, (blk_cell BK254.out 7).trans rfl⟩ (fun hHeld => ?_)
    clear hK K
    refine norm_ (a' := ?_) ?_ ?_
    rotate_left
    ·
     show Act.put _ (some 38) _ = _
     simp only [Act.put, List.setIfInBounds_toArray, List.set_cons_zero, List.set_cons_succ, i64_w, i32_w]
     rfl
    refine pure_ (i := 23) (N := some 39) (v := ?_) (a' := ?_) #[true, true, true, true, true, true, true, true, true, true, true, true, true, true, true, true, true, true, true, true, true, true, true, true, false, true, true, false, false, false, true, true, false, false, false] rfl rfl (any_of HT_.out (by kernel_rfl)) (fun _ _ _ h => h) (Or.inl ⟨by rfl, ?_⟩) ?_ ?_
    rotate_left
    ·
     intro w'
     go_simp
     with_reducible rfl
    rotate_left
    ·
     simp only [Act.put, List.setIfInBounds_toArray, List.set_cons_zero, List.set_cons_succ, i64_w, i32_w]
     rfl
    refine pure_ (i := 24) (N := some 40) (v := ?_) (a' := ?_) #[true, true, true, true, true, true, true, true, true, true, true, true, true, true, true, true, true, true, true, true, true, true, true, true, true, true, true, false, false, false, true, true, false, false, false] rfl rfl (any_of HT_.out (by kernel_rfl)) (fun _ _ _ h => h) (Or.inl ⟨by rfl, ?_⟩) ?_ ?_
    rotate_left
    ·
     intro w'
     go_simp
     with_reducible rfl
    rotate_left
    ·
     simp only [Act.put, List.setIfInBounds_toArray, List.set_cons_zero, List.set_cons_succ, i64_w, i32_w]
     rfl
    refine one_ (i := 27) (N := some 43) #[true, true, true, true, true, true, true, true, true, true, true, true, true, true, true, true, true, true, true, true, true, true, true, true, true, true, true, true, false, false, true, true, false, false, false] rfl rfl (one_of HT_.out (by kernel_rfl)) (by decide) (fun K hK => ?_)
    refine goes_ Tryz.func33 (by kernel_rfl) rfl #[.int .i64 ((rd_T34 l0 x4_1).f5)] (by rfl) rfl rfl zQx17a2_ ?_
    with_reducible refine (basculeref21_Dec.calls k1 ((rd_T34 l0 x4_1).f5) t259 _ A18.out).mono ?_
    rintro e w34 ⟨rfl, hb⟩
    refine ⟨_, rfl, ?_⟩
    have n0_ := Aside0.mk (blk_below (g := gb254) (o := .cells #[.string ((rd_T34 l0 x4_1).f0), .int .i64 ((rd_T34 l0 x4_1).f1), .int .i64 ((rd_T34 l0 x4_1).f2), .int .i64 ((rd_T34 l0 x4_1).f3), .int .i64 ((rd_T34 l0 x4_1).f4), .int .i64 ((rd_T34 l0 x4_1).f5), .int .i64 ((rd_T34 l0 x4_1).f6), .bool true] 34 (0, 0)) zQx17a3_ hb)
    have n1_ := Aside0.mk (below_step zQx17a1_ hb)
    clear BK254
    clear HB
    have BK254 := n0_
    have HB := n1_
    clear n0_ n1_
    (try clear hb)
    (try clear hb2)
    (try clear hk)
    (try clear hi)
    refine hK.out _ _ ⟨(blk_cell BK254.out 0).trans rfl, (blk_cell BK254.out 1).trans rfl, (blk_cell BK254.out 2).trans rfl, (blk_cell BK254.out 3).trans rfl, (blk_cell BK254.out 4).trans rfl, (blk_cell BK254.out 5).trans rfl, (blk_cell BK254.out 6).trans rfl, (blk_cell BK254.out 7).trans rfl⟩ (fun hHeld => ?_)
    clear hK K
    refine norm_ (a' := ?_) ?_ ?_
    rotate_left
    ·
     show Act.put _ (some 43) _ = _
     simp only [Act.put, List.setIfInBounds_toArray, List.set_cons_zero, List.set_cons_succ, i64_w, i32_w]
     rfl
    refine pure_ (i := 28) (N := some 44) (v := ?_) (a' := ?_) #[true, true, true, true, true, true, true, true, true, true, true, true, true, true, true, true, true, true, true, true, true, true, true, true, true, true, true, true, true, false, true, true, false, false, false] rfl rfl (any_of HT_.out (by kernel_rfl)) (fun _ _ _ h => h) (Or.inl ⟨by rfl, ?_⟩) ?_ ?_
    rotate_left
    ·
     intro w'
     go_simp
     with_reducible rfl
    rotate_left
    ·
     simp only [Act.put, List.setIfInBounds_toArray, List.set_cons_zero, List.set_cons_succ, i64_w, i32_w]
     rfl
    refine pure_ (i := 29) (N := some 45) (v := ?_) (a' := ?_) #[true, true, true, true, true, true, true, true, true, true, true, true, true, true, true, true, true, true, true, true, true, true, true, true, true, true, true, true, true, true, true, true, false, false, false] rfl rfl (any_of HT_.out (by kernel_rfl)) (fun _ _ _ h => h) (Or.inl ⟨by rfl, ?_⟩) ?_ ?_
    rotate_left
    ·
     intro w'
     go_simp
     with_reducible rfl
    rotate_left
    ·
     simp only [Act.put, List.setIfInBounds_toArray, List.set_cons_zero, List.set_cons_succ, i64_w, i32_w]
     rfl
    refine one_ (i := 32) (N := some 48) #[true, true, true, true, true, true, true, true, true, true, true, true, true, true, true, true, true, true, true, true, true, true, true, true, true, true, true, true, true, true, true, true, true, false, false] rfl rfl (one_of HT_.out (by kernel_rfl)) (by decide) (fun K hK => ?_)
    refine goes_ Tryz.func33 (by kernel_rfl) rfl #[.int .i64 ((rd_T34 l0 x4_1).f6)] (by rfl) rfl rfl zQx17a2_ ?_
    with_reducible refine (basculeref21_Dec.calls k1 ((rd_T34 l0 x4_1).f6) t260 _ A21.out).mono ?_
    rintro e w35 ⟨rfl, hb⟩
    refine ⟨_, rfl, ?_⟩
    have n0_ := Aside0.mk (blk_below (g := gb254) (o := .cells #[.string ((rd_T34 l0 x4_1).f0), .int .i64 ((rd_T34 l0 x4_1).f1), .int .i64 ((rd_T34 l0 x4_1).f2), .int .i64 ((rd_T34 l0 x4_1).f3), .int .i64 ((rd_T34 l0 x4_1).f4), .int .i64 ((rd_T34 l0 x4_1).f5), .int .i64 ((rd_T34 l0 x4_1).f6), .bool true] 34 (0, 0)) zQx17a3_ hb)
    have n1_ := Aside0.mk (below_step zQx17a1_ hb)
    clear BK254
    clear HB
    have BK254 := n0_
    have HB := n1_
    clear n0_ n1_
    (try clear hb)
    (try clear hb2)
    (try clear hk)
    (try clear hi)
    refine hK.out _ _ ⟨(blk_cell BK254.out 0).trans rfl, (blk_cell BK254.out 1).trans rfl, (blk_cell BK254.out 2).trans rfl, (blk_cell BK254.out 3).trans rfl, (blk_cell BK254.out 4).trans rfl, (blk_cell BK254.out 5).trans rfl, (blk_cell BK254.out 6).trans rfl, (blk_cell BK254.out 7).trans rfl⟩ (fun hHeld => ?_)
    clear hK K
    refine norm_ (a' := ?_) ?_ ?_
    rotate_left
    ·
     show Act.put _ (some 48) _ = _
     simp only [Act.put, List.setIfInBounds_toArray, List.set_cons_zero, List.set_cons_succ, i64_w, i32_w]
     rfl
    refine pure_ (i := 33) (N := some 49) (v := ?_) (a' := ?_) #[true, true, true, true, true, true, true, true, true, true, true, true, true, true, true, true, true, true, true, true, true, true, true, true, true, true, true, true, true, true, true, true, true, true, false] rfl rfl (any_of HT_.out (by kernel_rfl)) (fun _ _ _ h => h) (Or.inl ⟨by rfl, ?_⟩) ?_ ?_
    rotate_left
    ·
     intro w'
     go_simp
     with_reducible rfl
    rotate_left
    ·
     simp only [Act.put, List.setIfInBounds_toArray, List.set_cons_zero, List.set_cons_succ, i64_w, i32_w]
     rfl
    refine pure_ (i := 34) (N := some 3) (v := ?_) (a' := ?_) #[true, true, true, true, true, true, true, true, true, true, true, true, true, true, true, true, true, true, true, true, true, true, true, true, true, true, true, true, true, true, true, true, true, true, true] rfl rfl (any_of HT_.out (by kernel_rfl)) (fun _ _ _ h => h) (Or.inl ⟨by rfl, ?_⟩) ?_ ?_
    rotate_left
    ·
     intro w'
     go_simp
     with_reducible rfl
    rotate_left
    ·
     simp only [Act.put, List.setIfInBounds_toArray, List.set_cons_zero, List.set_cons_succ, i64_w, i32_w]
     rfl
    refine done_ (done_of HT_.out (by kernel_rfl)) ?_
    have hcz36_0 : w35.cell? ⟨gb254, 0, none⟩ = some (.string ((rd_T34 l0 x4_1).f0)) := (blk_cell BK254.out 0).trans rfl
    have hcz36_1 : w35.cell? ⟨gb254, 1, none⟩ = some (.int .i64 ((rd_T34 l0 x4_1).f1)) := (blk_cell BK254.out 1).trans rfl
    have hcz36_2 : w35.cell? ⟨gb254, 2, none⟩ = some (.int .i64 ((rd_T34 l0 x4_1).f2)) := (blk_cell BK254.out 2).trans rfl
    have hcz36_3 : w35.cell? ⟨gb254, 3, none⟩ = some (.int .i64 ((rd_T34 l0 x4_1).f3)) := (blk_cell BK254.out 3).trans rfl
    have hcz36_4 : w35.cell? ⟨gb254, 4, none⟩ = some (.int .i64 ((rd_T34 l0 x4_1).f4)) := (blk_cell BK254.out 4).trans rfl
    have hcz36_5 : w35.cell? ⟨gb254, 5, none⟩ = some (.int .i64 ((rd_T34 l0 x4_1).f5)) := (blk_cell BK254.out 5).trans rfl
    have hcz36_6 : w35.cell? ⟨gb254, 6, none⟩ = some (.int .i64 ((rd_T34 l0 x4_1).f6)) := (blk_cell BK254.out 6).trans rfl
    have hcz36_7 : w35.cell? ⟨gb254, 7, none⟩ = some (.bool true) := (blk_cell BK254.out 7).trans rfl
    have hfz36_0 := blk_frozen BK254.out 0
    have hfz36_1 := blk_frozen BK254.out 1
    have hfz36_2 := blk_frozen BK254.out 2
    have hfz36_3 := blk_frozen BK254.out 3
    have hfz36_4 := blk_frozen BK254.out 4
    have hfz36_5 := blk_frozen BK254.out 5
    have hfz36_6 := blk_frozen BK254.out 6
    have hfz36_7 := blk_frozen BK254.out 7
    try go_wp2
    go_roundg k1
    case measure => have := HK1.out; omega
    case rel => exact ⟨((((((((((((((x3_1 ++ ((rd_T34 l0 x4_1).f0)) ++ (⟨#[32]⟩ : ByteArray)) ++ t255) ++ (⟨#[32]⟩ : ByteArray)) ++ t256) ++ (⟨#[32]⟩ : ByteArray)) ++ t257) ++ (⟨#[32]⟩ : ByteArray)) ++ t258) ++ (⟨#[32]⟩ : ByteArray)) ++ t259) ++ (⟨#[32]⟩ : ByteArray)) ++ t260) ++ (⟨#[32, 119, 10]⟩ : ByteArray)), (wrap64 (x4_1 + 1)), zQx17a5_, zQx17a5_, H', ⟨by have := HK1.out; omega⟩, ⟨zQx17a1_⟩⟩
   replace c24 := Bool.eq_false_iff.mpr c24
   subst c24
   have H1 : (if (((((((((((((x3_1 ++ ((rd_T34 l0 x4_1).f0)) ++ (⟨#[32]⟩ : ByteArray)) ++ t255) ++ (⟨#[32]⟩ : ByteArray)) ++ t256) ++ (⟨#[32]⟩ : ByteArray)) ++ t257) ++ (⟨#[32]⟩ : ByteArray)) ++ t258) ++ (⟨#[32]⟩ : ByteArray)) ++ t259) ++ (⟨#[32]⟩ : ByteArray)) ++ t260).size + 3 ≤ 9223372036854775807 then (basculeref21_Print.l0 k1 l0 ((((((((((((((x3_1 ++ ((rd_T34 l0 x4_1).f0)) ++ (⟨#[32]⟩ : ByteArray)) ++ t255) ++ (⟨#[32]⟩ : ByteArray)) ++ t256) ++ (⟨#[32]⟩ : ByteArray)) ++ t257) ++ (⟨#[32]⟩ : ByteArray)) ++ t258) ++ (⟨#[32]⟩ : ByteArray)) ++ t259) ++ (⟨#[32]⟩ : ByteArray)) ++ t260) ++ (⟨#[32, 114, 10]⟩ : ByteArray)) (wrap64 (x4_1 + 1))) else (none)) = some r := by rw [if_neg (show ¬ (false = true) by decide)] at H; exact H
   clear H
   have H := H1
   clear H1
   have c37 : (((((((((((((x3_1 ++ ((rd_T34 l0 x4_1).f0)) ++ (⟨#[32]⟩ : ByteArray)) ++ t255) ++ (⟨#[32]⟩ : ByteArray)) ++ t256) ++ (⟨#[32]⟩ : ByteArray)) ++ t257) ++ (⟨#[32]⟩ : ByteArray)) ++ t258) ++ (⟨#[32]⟩ : ByteArray)) ++ t259) ++ (⟨#[32]⟩ : ByteArray)) ++ t260).size + 3 ≤ 9223372036854775807 := znQx17_
   rw [if_pos c37] at H
   have c37b0 := eq_true c37
   have c37b1 : decide ((((((((((((((x3_1 ++ ((rd_T34 l0 x4_1).f0)) ++ (⟨#[32]⟩ : ByteArray)) ++ t255) ++ (⟨#[32]⟩ : ByteArray)) ++ t256) ++ (⟨#[32]⟩ : ByteArray)) ++ t257) ++ (⟨#[32]⟩ : ByteArray)) ++ t258) ++ (⟨#[32]⟩ : ByteArray)) ++ t259) ++ (⟨#[32]⟩ : ByteArray)) ++ t260).size + 3 ≤ 9223372036854775807) = true := decide_eq_true c37
   try have c37b2 : (9223372036854775807 < (((((((((((((x3_1 ++ ((rd_T34 l0 x4_1).f0)) ++ (⟨#[32]⟩ : ByteArray)) ++ t255) ++ (⟨#[32]⟩ : ByteArray)) ++ t256) ++ (⟨#[32]⟩ : ByteArray)) ++ t257) ++ (⟨#[32]⟩ : ByteArray)) ++ t258) ++ (⟨#[32]⟩ : ByteArray)) ++ t259) ++ (⟨#[32]⟩ : ByteArray)) ++ t260).size + 3) = False := eq_false (Nat.not_lt.2 c37)
   try have c37b7 : (9223372036854775807 < x3_1.size + ((rd_T34 l0 x4_1).f0).size + 1 + t255.size + 1 + t256.size + 1 + t257.size + 1 + t258.size + 1 + t259.size + 1 + t260.size + 3) = False := eq_false (by have h9_ := c37; simp only [ByteArray.size_append] at h9_; simp only [ByteArray.size, List.size_toArray, List.length_cons, List.length_nil] at h9_ ⊢; omega)
   have H' := Aside0.mk H
   clear H
   have p253 : 0 ≤ (x4_1 : Int) := of_decide_eq_true zQx17a6_
   have q253 : x4_1 < (l0.length : Int) := of_decide_eq_true zQx17a6_
   obtain ⟨ad253, e253, hx253_0, hx253_1, hx253_2, hx253_3, hx253_4, hx253_5, hx253_6, hx253_7⟩ := at_T34 HR0.out x4_1 p253 q253
   (try rw [← Nbq23.out] at hx253_7)
   cases e253
   replace hx253_0 := (HB.out.cell (World.block_lt_of_cell? w _ hx253_0)).trans hx253_0
   replace hx253_1 := (HB.out.cell (World.block_lt_of_cell? w _ hx253_1)).trans hx253_1
   replace hx253_2 := (HB.out.cell (World.block_lt_of_cell? w _ hx253_2)).trans hx253_2
   replace hx253_3 := (HB.out.cell (World.block_lt_of_cell? w _ hx253_3)).trans hx253_3
   replace hx253_4 := (HB.out.cell (World.block_lt_of_cell? w _ hx253_4)).trans hx253_4
   replace hx253_5 := (HB.out.cell (World.block_lt_of_cell? w _ hx253_5)).trans hx253_5
   replace hx253_6 := (HB.out.cell (World.block_lt_of_cell? w _ hx253_6)).trans hx253_6
   replace hx253_7 := (HB.out.cell (World.block_lt_of_cell? w _ hx253_7)).trans hx253_7
   replace p253 := eq_true p253
   replace q253 := eq_true q253
   try go_wp2_with (first | ((with_reducible refine gate_dst (N := 5) rfl ?_); refine box_event ?hg (N := 5) ?hd (cs := #[.string (⟨#[]⟩ : ByteArray), .int .i64 0, .int .i64 0, .int .i64 0, .int .i64 0, .int .i64 0, .int .i64 0, .bool false]) (t := 34) ?hr ?_; (case hd => rfl); (case hg => rfl); (case hr => first | (go_simp; done) | (go_simp; rfl)); intro gb254 hg w38 hbox hb; have n0_ := Aside0.mk (below_step zQx17a4_ hb); have n1_ := Aside0.mk (hbox); have n2_ := Aside0.mk ((by rw [hg]; exact (below_size zQx17a4_) : w.heap.size ≤ gb254)); have n3_ := Aside0.mk ((by rw [hg]; exact (below_size zQx17a4_) : w.heap.size ≤ gb254)); clear HB; have HB := n0_; have BK254 := n1_; have GW254 := n2_; have GE254 := n3_; clear n0_ n1_ n2_ n3_; clear hb hbox hg; have hcz39_0 : w38.cell? ⟨gb254, 0, none⟩ = some (.string (⟨#[]⟩ : ByteArray)) := (blk_cell BK254.out 0).trans rfl; have hcz39_1 : w38.cell? ⟨gb254, 1, none⟩ = some (.int .i64 0) := (blk_cell BK254.out 1).trans rfl; have hcz39_2 : w38.cell? ⟨gb254, 2, none⟩ = some (.int .i64 0) := (blk_cell BK254.out 2).trans rfl; have hcz39_3 : w38.cell? ⟨gb254, 3, none⟩ = some (.int .i64 0) := (blk_cell BK254.out 3).trans rfl; have hcz39_4 : w38.cell? ⟨gb254, 4, none⟩ = some (.int .i64 0) := (blk_cell BK254.out 4).trans rfl; have hcz39_5 : w38.cell? ⟨gb254, 5, none⟩ = some (.int .i64 0) := (blk_cell BK254.out 5).trans rfl; have hcz39_6 : w38.cell? ⟨gb254, 6, none⟩ = some (.int .i64 0) := (blk_cell BK254.out 6).trans rfl; have hcz39_7 : w38.cell? ⟨gb254, 7, none⟩ = some (.bool false) := (blk_cell BK254.out 7).trans rfl; have hfz39_0 := blk_frozen BK254.out 0; have hfz39_1 := blk_frozen BK254.out 1; have hfz39_2 := blk_frozen BK254.out 2; have hfz39_3 := blk_frozen BK254.out 3; have hfz39_4 := blk_frozen BK254.out 4; have hfz39_5 := blk_frozen BK254.out 5; have hfz39_6 := blk_frozen BK254.out 6; have hfz39_7 := blk_frozen BK254.out 7))
   have n0_ : Aside0 (((((((((w38.setCell ⟨gb254, 0, none⟩ (.string ((rd_T34 l0 x4_1).f0))).setCell ⟨gb254, 1, none⟩ (.int .i64 ((rd_T34 l0 x4_1).f1))).setCell ⟨gb254, 2, none⟩ (.int .i64 ((rd_T34 l0 x4_1).f2))).setCell ⟨gb254, 3, none⟩ (.int .i64 ((rd_T34 l0 x4_1).f3))).setCell ⟨gb254, 4, none⟩ (.int .i64 ((rd_T34 l0 x4_1).f4))).setCell ⟨gb254, 5, none⟩ (.int .i64 ((rd_T34 l0 x4_1).f5))).setCell ⟨gb254, 6, none⟩ (.int .i64 ((rd_T34 l0 x4_1).f6))).setCell ⟨gb254, 7, none⟩ (.bool false)).heap[gb254]? = some (.cells #[.string ((rd_T34 l0 x4_1).f0), .int .i64 ((rd_T34 l0 x4_1).f1), .int .i64 ((rd_T34 l0 x4_1).f2), .int .i64 ((rd_T34 l0 x4_1).f3), .int .i64 ((rd_T34 l0 x4_1).f4), .int .i64 ((rd_T34 l0 x4_1).f5), .int .i64 ((rd_T34 l0 x4_1).f6), .bool false] 34 (0, 0))) := ⟨zQx17a0_⟩
   have n1_ : Aside0 (Below w.heap.size w ((((((((w38.setCell ⟨gb254, 0, none⟩ (.string ((rd_T34 l0 x4_1).f0))).setCell ⟨gb254, 1, none⟩ (.int .i64 ((rd_T34 l0 x4_1).f1))).setCell ⟨gb254, 2, none⟩ (.int .i64 ((rd_T34 l0 x4_1).f2))).setCell ⟨gb254, 3, none⟩ (.int .i64 ((rd_T34 l0 x4_1).f3))).setCell ⟨gb254, 4, none⟩ (.int .i64 ((rd_T34 l0 x4_1).f4))).setCell ⟨gb254, 5, none⟩ (.int .i64 ((rd_T34 l0 x4_1).f5))).setCell ⟨gb254, 6, none⟩ (.int .i64 ((rd_T34 l0 x4_1).f6))).setCell ⟨gb254, 7, none⟩ (.bool false))) := ⟨zQx17a1_⟩
   (try clear BK254)
   (try clear HB)
   generalize ((((((((w38.setCell ⟨gb254, 0, none⟩ (.string ((rd_T34 l0 x4_1).f0))).setCell ⟨gb254, 1, none⟩ (.int .i64 ((rd_T34 l0 x4_1).f1))).setCell ⟨gb254, 2, none⟩ (.int .i64 ((rd_T34 l0 x4_1).f2))).setCell ⟨gb254, 3, none⟩ (.int .i64 ((rd_T34 l0 x4_1).f3))).setCell ⟨gb254, 4, none⟩ (.int .i64 ((rd_T34 l0 x4_1).f4))).setCell ⟨gb254, 5, none⟩ (.int .i64 ((rd_T34 l0 x4_1).f5))).setCell ⟨gb254, 6, none⟩ (.int .i64 ((rd_T34 l0 x4_1).f6))).setCell ⟨gb254, 7, none⟩ (.bool false)) = w40 at n0_ n1_ ⊢
   have BK254 := n0_
   have HB := n1_
   clear n0_ n1_
   have n0_ := Aside0.mk (blk_drew BK254.out)
   have n1_ := Aside0.mk (below_drew1 HB.out)
   clear BK254
   clear HB
   have BK254 := n0_
   have HB := n1_
   clear n0_ n1_
   refine start_ (n := 35) (S := fun w' => w'.cell? ⟨gb254, 0, none⟩ = some (.string ((rd_T34 l0 x4_1).f0)) ∧ w'.cell? ⟨gb254, 1, none⟩ = some (.int .i64 ((rd_T34 l0 x4_1).f1)) ∧ w'.cell? ⟨gb254, 2, none⟩ = some (.int .i64 ((rd_T34 l0 x4_1).f2)) ∧ w'.cell? ⟨gb254, 3, none⟩ = some (.int .i64 ((rd_T34 l0 x4_1).f3)) ∧ w'.cell? ⟨gb254, 4, none⟩ = some (.int .i64 ((rd_T34 l0 x4_1).f4)) ∧ w'.cell? ⟨gb254, 5, none⟩ = some (.int .i64 ((rd_T34 l0 x4_1).f5)) ∧ w'.cell? ⟨gb254, 6, none⟩ = some (.int .i64 ((rd_T34 l0 x4_1).f6)) ∧ w'.cell? ⟨gb254, 7, none⟩ = some (.bool false)) (ds := []) #[false, false, false, false, false, false, false, false, false, false, false, false, false, false, false, false, false, false, false, false, false, false, false, false, false, false, false, false, false, false, false, false, false, false, false] (by kernel_rfl) rfl rfl ⟨(blk_cell BK254.out 0).trans rfl, (blk_cell BK254.out 1).trans rfl, (blk_cell BK254.out 2).trans rfl, (blk_cell BK254.out 3).trans rfl, (blk_cell BK254.out 4).trans rfl, (blk_cell BK254.out 5).trans rfl, (blk_cell BK254.out 6).trans rfl, (blk_cell BK254.out 7).trans rfl⟩ (fun hHeld => ?_); refine with_tabW basculeref21_Print.tab6 basculeref21_Print.bits6 (fun HT_ HW_ => ?_)
   generalize w40.drew = w41 at BK254 HB hHeld ⊢
   refine pure_ (i := 0) (N := some 16) (v := ?_) (a' := ?_) #[true, false, false, false, false, false, false, false, false, false, false, false, false, false, false, false, false, false, false, false, false, false, false, false, false, false, false, false, false, false, false, false, false, false, false] rfl rfl (any_of HT_.out (by kernel_rfl)) (fun _ _ _ h => h) (Or.inl ⟨by rfl, ?_⟩) ?_ ?_
   rotate_left
   ·
    intro w'
    go_simp
    with_reducible rfl
   rotate_left
   ·
    simp only [Act.put, List.setIfInBounds_toArray, List.set_cons_zero, List.set_cons_succ, i64_w, i32_w]
    rfl
   refine pure_ (i := 1) (N := some 17) (v := ?_) (a' := ?_) #[true, true, false, false, false, false, false, false, false, false, false, false, false, false, false, false, false, false, false, false, false, false, false, false, false, false, false, false, false, false, false, false, false, false, false] rfl rfl (any_of HT_.out (by kernel_rfl)) (fun _ _ _ h => h) (Or.inl ⟨by rfl, ?_⟩) ?_ ?_
   rotate_left
   ·
    intro w'
    go_simp
    with_reducible rfl
   rotate_left
   ·
    simp only [Act.put, List.setIfInBounds_toArray, List.set_cons_zero, List.set_cons_succ, i64_w, i32_w]
    rfl
   refine pure_ (i := 5) (N := some 21) (v := ?_) (a' := ?_) #[true, true, false, false, false, true, false, false, false, false, false, false, false, false, false, false, false, false, false, false, false, false, false, false, false, false, false, false, false, false, false, false, false, false, false] rfl rfl (any_of HT_.out (by kernel_rfl)) (fun _ _ _ h => h) (Or.inl ⟨by rfl, ?_⟩) ?_ ?_
   rotate_left
   ·
    intro w'
    go_simp
    with_reducible rfl
   rotate_left
   ·
    simp only [Act.put, List.setIfInBounds_toArray, List.set_cons_zero, List.set_cons_succ, i64_w, i32_w]
    rfl
   refine pure_ (i := 10) (N := some 26) (v := ?_) (a' := ?_) #[true, true, false, false, false, true, false, false, false, false, true, false, false, false, false, false, false, false, false, false, false, false, false, false, false, false, false, false, false, false, false, false, false, false, false] rfl rfl (any_of HT_.out (by kernel_rfl)) (fun _ _ _ h => h) (Or.inl ⟨by rfl, ?_⟩) ?_ ?_
   rotate_left
   ·
    intro w'
    go_simp
    with_reducible rfl
   rotate_left
   ·
    simp only [Act.put, List.setIfInBounds_toArray, List.set_cons_zero, List.set_cons_succ, i64_w, i32_w]
    rfl
   refine pure_ (i := 15) (N := some 31) (v := ?_) (a' := ?_) #[true, true, false, false, false, true, false, false, false, false, true, false, false, false, false, true, false, false, false, false, false, false, false, false, false, false, false, false, false, false, false, false, false, false, false] rfl rfl (any_of HT_.out (by kernel_rfl)) (fun _ _ _ h => h) (Or.inl ⟨by rfl, ?_⟩) ?_ ?_
   rotate_left
   ·
    intro w'
    go_simp
    with_reducible rfl
   rotate_left
   ·
    simp only [Act.put, List.setIfInBounds_toArray, List.set_cons_zero, List.set_cons_succ, i64_w, i32_w]
    rfl
   refine pure_ (i := 20) (N := some 36) (v := ?_) (a' := ?_) #[true, true, false, false, false, true, false, false, false, false, true, false, false, false, false, true, false, false, false, false, true, false, false, false, false, false, false, false, false, false, false, false, false, false, false] rfl rfl (any_of HT_.out (by kernel_rfl)) (fun _ _ _ h => h) (Or.inl ⟨by rfl, ?_⟩) ?_ ?_
   rotate_left
   ·
    intro w'
    go_simp
    with_reducible rfl
   rotate_left
   ·
    simp only [Act.put, List.setIfInBounds_toArray, List.set_cons_zero, List.set_cons_succ, i64_w, i32_w]
    rfl
   refine pure_ (i := 25) (N := some 41) (v := ?_) (a' := ?_) #[true, true, false, false, false, true, false, false, false, false, true, false, false, false, false, true, false, false, false, false, true, false, false, false, false, true, false, false, false, false, false, false, false, false, false] rfl rfl (any_of HT_.out (by kernel_rfl)) (fun _ _ _ h => h) (Or.inl ⟨by rfl, ?_⟩) ?_ ?_
   rotate_left
   ·
    intro w'
    go_simp
    with_reducible rfl
   rotate_left
   ·
    simp only [Act.put, List.setIfInBounds_toArray, List.set_cons_zero, List.set_cons_succ, i64_w, i32_w]
    rfl
   refine pure_ (i := 30) (N := some 46) (v := ?_) (a' := ?_) #[true, true, false, false, false, true, false, false, false, false, true, false, false, false, false, true, false, false, false, false, true, false, false, false, false, true, false, false, false, false, true, false, false, false, false] rfl rfl (any_of HT_.out (by kernel_rfl)) (fun _ _ _ h => h) (Or.inl ⟨by rfl, ?_⟩) ?_ ?_
   rotate_left
   ·
    intro w'
    go_simp
    with_reducible rfl
   rotate_left
   ·
    simp only [Act.put, List.setIfInBounds_toArray, List.set_cons_zero, List.set_cons_succ, i64_w, i32_w]
    rfl
   refine take_ (i := 2) (N := some 18) (v := ?_) (a' := ?_) #[true, true, true, false, false, true, false, false, false, false, true, false, false, false, false, true, false, false, false, false, true, false, false, false, false, true, false, false, false, false, true, false, false, false, false] rfl rfl (take_ofW HT_.out HW_.out (by kernel_rfl)) (fun _ _ _ h => h) (Or.inl ⟨by rfl, ?_⟩) hHeld ?_ ?_
   rotate_left
   ·
    rintro w' ⟨s0, s1, s2, s3, s4, s5, s6, s7⟩
    go_simp
    with_reducible rfl
   rotate_left
   ·
    simp only [Act.put, List.setIfInBounds_toArray, List.set_cons_zero, List.set_cons_succ, i64_w, i32_w]
    rfl
   refine pure_ (i := 3) (N := some 19) (v := ?_) (a' := ?_) #[true, true, true, true, false, true, false, false, false, false, true, false, false, false, false, true, false, false, false, false, true, false, false, false, false, true, false, false, false, false, true, false, false, false, false] rfl rfl (any_of HT_.out (by kernel_rfl)) (fun _ _ _ h => h) (Or.inl ⟨by rfl, ?_⟩) ?_ ?_
   rotate_left
   ·
    intro w'
    go_simp
    with_reducible rfl
   rotate_left
   ·
    simp only [Act.put, List.setIfInBounds_toArray, List.set_cons_zero, List.set_cons_succ, i64_w, i32_w]
    rfl
   refine pure_ (i := 4) (N := some 20) (v := ?_) (a' := ?_) #[true, true, true, true, true, true, false, false, false, false, true, false, false, false, false, true, false, false, false, false, true, false, false, false, false, true, false, false, false, false, true, false, false, false, false] rfl rfl (any_of HT_.out (by kernel_rfl)) (fun _ _ _ h => h) (Or.inl ⟨by rfl, ?_⟩) ?_ ?_
   rotate_left
   ·
    intro w'
    go_simp
    with_reducible rfl
   rotate_left
   ·
    simp only [Act.put, List.setIfInBounds_toArray, List.set_cons_zero, List.set_cons_succ, i64_w, i32_w]
    rfl
   refine take_ (i := 6) (N := some 22) (v := ?_) (a' := ?_) #[true, true, true, true, true, true, true, false, false, false, true, false, false, false, false, true, false, false, false, false, true, false, false, false, false, true, false, false, false, false, true, false, false, false, false] rfl rfl (take_ofW HT_.out HW_.out (by kernel_rfl)) (fun _ _ _ h => h) (Or.inl ⟨by rfl, ?_⟩) hHeld ?_ ?_
   rotate_left
   ·
    rintro w' ⟨s0, s1, s2, s3, s4, s5, s6, s7⟩
    go_simp
    with_reducible rfl
   rotate_left
   ·
    simp only [Act.put, List.setIfInBounds_toArray, List.set_cons_zero, List.set_cons_succ, i64_w, i32_w]
    rfl
   refine take_ (i := 11) (N := some 27) (v := ?_) (a' := ?_) #[true, true, true, true, true, true, true, false, false, false, true, true, false, false, false, true, false, false, false, false, true, false, false, false, false, true, false, false, false, false, true, false, false, false, false] rfl rfl (take_ofW HT_.out HW_.out (by kernel_rfl)) (fun _ _ _ h => h) (Or.inl ⟨by rfl, ?_⟩) hHeld ?_ ?_
   rotate_left
   ·
    rintro w' ⟨s0, s1, s2, s3, s4, s5, s6, s7⟩
    go_simp
    with_reducible rfl
   rotate_left
   ·
    simp only [Act.put, List.setIfInBounds_toArray, List.set_cons_zero, List.set_cons_succ, i64_w, i32_w]
    rfl
   refine take_ (i := 16) (N := some 32) (v := ?_) (a' := ?_) #[true, true, true, true, true, true, true, false, false, false, true, true, false, false, false, true, true, false, false, false, true, false, false, false, false, true, false, false, false, false, true, false, false, false, false] rfl rfl (take_ofW HT_.out HW_.out (by kernel_rfl)) (fun _ _ _ h => h) (Or.inl ⟨by rfl, ?_⟩) hHeld ?_ ?_
   rotate_left
   ·
    rintro w' ⟨s0, s1, s2, s3, s4, s5, s6, s7⟩
    go_simp
    with_reducible rfl
   rotate_left
   ·
    simp only [Act.put, List.setIfInBounds_toArray, List.set_cons_zero, List.set_cons_succ, i64_w, i32_w]
    rfl
   refine take_ (i := 21) (N := some 37) (v := ?_) (a' := ?_) #[true, true, true, true, true, true, true, false, false, false, true, true, false, false, false, true, true, false, false, false, true, true, false, false, false, true, false, false, false, false, true, false, false, false, false] rfl rfl (take_ofW HT_.out HW_.out (by kernel_rfl)) (fun _ _ _ h => h) (Or.inl ⟨by rfl, ?_⟩) hHeld ?_ ?_
   rotate_left
   ·
    rintro w' ⟨s0, s1, s2, s3, s4, s5, s6, s7⟩
    go_simp
    with_reducible rfl
   rotate_left
   ·
    simp only [Act.put, List.setIfInBounds_toArray, List.set_cons_zero, List.set_cons_succ, i64_w, i32_w]
    rfl
   refine take_ (i := 26) (N := some 42) (v := ?_) (a' := ?_) #[true, true, true, true, true, true, true, false, false, false, true, true, false, false, false, true, true, false, false, false, true, true, false, false, false, true, true, false, false, false, true, false, false, false, false] rfl rfl (take_ofW HT_.out HW_.out (by kernel_rfl)) (fun _ _ _ h => h) (Or.inl ⟨by rfl, ?_⟩) hHeld ?_ ?_
   rotate_left
   ·
    rintro w' ⟨s0, s1, s2, s3, s4, s5, s6, s7⟩
    go_simp
    with_reducible rfl
   rotate_left
   ·
    simp only [Act.put, List.setIfInBounds_toArray, List.set_cons_zero, List.set_cons_succ, i64_w, i32_w]
    rfl
   refine take_ (i := 31) (N := some 47) (v := ?_) (a' := ?_) #[true, true, true, true, true, true, true, false, false, false, true, true, false, false, false, true, true, false, false, false, true, true, false, false, false, true, true, false, false, false, true, true, false, false, false] rfl rfl (take_ofW HT_.out HW_.out (by kernel_rfl)) (fun _ _ _ h => h) (Or.inl ⟨by rfl, ?_⟩) hHeld ?_ ?_
   rotate_left
   ·
    rintro w' ⟨s0, s1, s2, s3, s4, s5, s6, s7⟩
    go_simp
    with_reducible rfl
   rotate_left
   ·
    simp only [Act.put, List.setIfInBounds_toArray, List.set_cons_zero, List.set_cons_succ, i64_w, i32_w]
    rfl
   refine one_ (i := 7) (N := some 23) #[true, true, true, true, true, true, true, true, false, false, true, true, false, false, false, true, true, false, false, false, true, true, false, false, false, true, true, false, false, false, true, true, false, false, false] rfl rfl (one_of HT_.out (by kernel_rfl)) (by decide) (fun K hK => ?_)
   refine goes_ Tryz.func33 (by kernel_rfl) rfl #[.int .i64 ((rd_T34 l0 x4_1).f1)] (by rfl) rfl rfl zQx17a2_ ?_
   with_reducible refine (basculeref21_Dec.calls k1 ((rd_T34 l0 x4_1).f1) t255 _ A6.out).mono ?_
   rintro e w42 ⟨rfl, hb⟩
   refine ⟨_, rfl, ?_⟩
   have n0_ := Aside0.mk (blk_below (g := gb254) (o := .cells #[.string ((rd_T34 l0 x4_1).f0), .int .i64 ((rd_T34 l0 x4_1).f1), .int .i64 ((rd_T34 l0 x4_1).f2), .int .i64 ((rd_T34 l0 x4_1).f3), .int .i64 ((rd_T34 l0 x4_1).f4), .int .i64 ((rd_T34 l0 x4_1).f5), .int .i64 ((rd_T34 l0 x4_1).f6), .bool false] 34 (0, 0)) zQx17a3_ hb)
   have n1_ := Aside0.mk (below_step zQx17a1_ hb)
   clear BK254
   clear HB
   have BK254 := n0_
   have HB := n1_
   clear n0_ n1_
   (try clear hb)
   (try clear hb2)
   (try clear hk)
   (try clear hi)
   refine hK.out _ _ ⟨(blk_cell BK254.out 0).trans rfl, (blk_cell BK254.out 1).trans rfl, (blk_cell BK254.out 2).trans rfl, (blk_cell BK254.out 3).trans rfl, (blk_cell BK254.out 4).trans rfl, (blk_cell BK254.out 5).trans rfl, (blk_cell BK254.out 6).trans rfl, (blk_cell BK254.out 7).trans rfl⟩ (fun hHeld => ?_)
   clear hK K
   refine norm_ (a' := ?_) ?_ ?_
   rotate_left
   ·
    show Act.put _ (some 23) _ = _
    simp only [Act.put, List.setIfInBounds_toArray, List.set_cons_zero, List.set_cons_succ, i64_w, i32_w]
    rfl
   refine pure_ (i := 8) (N := some 24) (v := ?_) (a' := ?_) #[true, true, true, true, true, true, true, true, true, false, true, true, false, false, false, true, true, false, false, false, true, true, false, false, false, true, true, false, false, false, true, true, false, false, false] rfl rfl (any_of HT_.out (by kernel_rfl)) (fun _ _ _ h => h) (Or.inl ⟨by rfl, ?_⟩) ?_ ?_
   rotate_left
   ·
    intro w'
    go_simp
    with_reducible rfl
   rotate_left
   ·
    simp only [Act.put, List.setIfInBounds_toArray, List.set_cons_zero, List.set_cons_succ, i64_w, i32_w]
    rfl
   refine pure_ (i := 9) (N := some 25) (v := ?_) (a' := ?_) #[true, true, true, true, true, true, true, true, true, true, true, true, false, false, false, true, true, false, false, false, true, true, false, false, false, true, true, false, false, false, true, true, false, false, false] rfl rfl (any_of HT_.out (by kernel_rfl)) (fun _ _ _ h => h) (Or.inl ⟨by rfl, ?_⟩) ?_ ?_
   rotate_left
   ·
    intro w'
    go_simp
    with_reducible rfl
   rotate_left
   ·
    simp only [Act.put, List.setIfInBounds_toArray, List.set_cons_zero, List.set_cons_succ, i64_w, i32_w]
    rfl
   refine one_ (i := 12) (N := some 28) #[true, true, true, true, true, true, true, true, true, true, true, true, true, false, false, true, true, false, false, false, true, true, false, false, false, true, true, false, false, false, true, true, false, false, false] rfl rfl (one_of HT_.out (by kernel_rfl)) (by decide) (fun K hK => ?_)
   refine goes_ Tryz.func33 (by kernel_rfl) rfl #[.int .i64 ((rd_T34 l0 x4_1).f2)] (by rfl) rfl rfl zQx17a2_ ?_
   with_reducible refine (basculeref21_Dec.calls k1 ((rd_T34 l0 x4_1).f2) t256 _ A9.out).mono ?_
   rintro e w43 ⟨rfl, hb⟩
   refine ⟨_, rfl, ?_⟩
   have n0_ := Aside0.mk (blk_below (g := gb254) (o := .cells #[.string ((rd_T34 l0 x4_1).f0), .int .i64 ((rd_T34 l0 x4_1).f1), .int .i64 ((rd_T34 l0 x4_1).f2), .int .i64 ((rd_T34 l0 x4_1).f3), .int .i64 ((rd_T34 l0 x4_1).f4), .int .i64 ((rd_T34 l0 x4_1).f5), .int .i64 ((rd_T34 l0 x4_1).f6), .bool false] 34 (0, 0)) zQx17a3_ hb)
   have n1_ := Aside0.mk (below_step zQx17a1_ hb)
   clear BK254
   clear HB
   have BK254 := n0_
   have HB := n1_
   clear n0_ n1_
   (try clear hb)
   (try clear hb2)
   (try clear hk)
   (try clear hi)
   refine hK.out _ _ ⟨(blk_cell BK254.out 0).trans rfl, (blk_cell BK254.out 1).trans rfl, (blk_cell BK254.out 2).trans rfl, (blk_cell BK254.out 3).trans rfl, (blk_cell BK254.out 4).trans rfl, (blk_cell BK254.out 5).trans rfl, (blk_cell BK254.out 6).trans rfl, (blk_cell BK254.out 7).trans rfl⟩ (fun hHeld => ?_)
   clear hK K
   refine norm_ (a' := ?_) ?_ ?_
   rotate_left
   ·
    show Act.put _ (some 28) _ = _
    simp only [Act.put, List.setIfInBounds_toArray, List.set_cons_zero, List.set_cons_succ, i64_w, i32_w]
    rfl
   refine pure_ (i := 13) (N := some 29) (v := ?_) (a' := ?_) #[true, true, true, true, true, true, true, true, true, true, true, true, true, true, false, true, true, false, false, false, true, true, false, false, false, true, true, false, false, false, true, true, false, false, false] rfl rfl (any_of HT_.out (by kernel_rfl)) (fun _ _ _ h => h) (Or.inl ⟨by rfl, ?_⟩) ?_ ?_
   rotate_left
   ·
    intro w'
    go_simp
    with_reducible rfl
   rotate_left
   ·
    simp only [Act.put, List.setIfInBounds_toArray, List.set_cons_zero, List.set_cons_succ, i64_w, i32_w]
    rfl
   refine pure_ (i := 14) (N := some 30) (v := ?_) (a' := ?_) #[true, true, true, true, true, true, true, true, true, true, true, true, true, true, true, true, true, false, false, false, true, true, false, false, false, true, true, false, false, false, true, true, false, false, false] rfl rfl (any_of HT_.out (by kernel_rfl)) (fun _ _ _ h => h) (Or.inl ⟨by rfl, ?_⟩) ?_ ?_
   rotate_left
   ·
    intro w'
    go_simp
    with_reducible rfl
   rotate_left
   ·
    simp only [Act.put, List.setIfInBounds_toArray, List.set_cons_zero, List.set_cons_succ, i64_w, i32_w]
    rfl
   refine one_ (i := 17) (N := some 33) #[true, true, true, true, true, true, true, true, true, true, true, true, true, true, true, true, true, true, false, false, true, true, false, false, false, true, true, false, false, false, true, true, false, false, false] rfl rfl (one_of HT_.out (by kernel_rfl)) (by decide) (fun K hK => ?_)
   refine goes_ Tryz.func33 (by kernel_rfl) rfl #[.int .i64 ((rd_T34 l0 x4_1).f3)] (by rfl) rfl rfl zQx17a2_ ?_
   with_reducible refine (basculeref21_Dec.calls k1 ((rd_T34 l0 x4_1).f3) t257 _ A12.out).mono ?_
   rintro e w44 ⟨rfl, hb⟩
   refine ⟨_, rfl, ?_⟩
   have n0_ := Aside0.mk (blk_below (g := gb254) (o := .cells #[.string ((rd_T34 l0 x4_1).f0), .int .i64 ((rd_T34 l0 x4_1).f1), .int .i64 ((rd_T34 l0 x4_1).f2), .int .i64 ((rd_T34 l0 x4_1).f3), .int .i64 ((rd_T34 l0 x4_1).f4), .int .i64 ((rd_T34 l0 x4_1).f5), .int .i64 ((rd_T34 l0 x4_1).f6), .bool false] 34 (0, 0)) zQx17a3_ hb)
   have n1_ := Aside0.mk (below_step zQx17a1_ hb)
   clear BK254
   clear HB
   have BK254 := n0_
   have HB := n1_
   clear n0_ n1_
   (try clear hb)
   (try clear hb2)
   (try clear hk)
   (try clear hi)
   refine hK.out _ _ ⟨(blk_cell BK254.out 0).trans rfl, (blk_cell BK254.out 1).trans rfl, (blk_cell BK254.out 2).trans rfl, (blk_cell BK254.out 3).trans rfl, (blk_cell BK254.out 4).trans rfl, (blk_cell BK254.out 5).trans rfl, (blk_cell BK254.out 6).trans rfl, (blk_cell BK254.out 7).trans rfl⟩ (fun hHeld => ?_)
   clear hK K
   refine norm_ (a' := ?_) ?_ ?_
   rotate_left
   ·
    show Act.put _ (some 33) _ = _
    simp only [Act.put, List.setIfInBounds_toArray, List.set_cons_zero, List.set_cons_succ, i64_w, i32_w]
    rfl
   refine pure_ (i := 18) (N := some 34) (v := ?_) (a' := ?_) #[true, true, true, true, true, true, true, true, true, true, true, true, true, true, true, true, true, true, true, false, true, true, false, false, false, true, true, false, false, false, true, true, false, false, false] rfl rfl (any_of HT_.out (by kernel_rfl)) (fun _ _ _ h => h) (Or.inl ⟨by rfl, ?_⟩) ?_ ?_
   rotate_left
   ·
    intro w'
    go_simp
    with_reducible rfl
   rotate_left
   ·
    simp only [Act.put, List.setIfInBounds_toArray, List.set_cons_zero, List.set_cons_succ, i64_w, i32_w]
    rfl
   refine pure_ (i := 19) (N := some 35) (v := ?_) (a' := ?_) #[true, true, true, true, true, true, true, true, true, true, true, true, true, true, true, true, true, true, true, true, true, true, false, false, false, true, true, false, false, false, true, true, false, false, false] rfl rfl (any_of HT_.out (by kernel_rfl)) (fun _ _ _ h => h) (Or.inl ⟨by rfl, ?_⟩) ?_ ?_
   rotate_left
   ·
    intro w'
    go_simp
    with_reducible rfl
   rotate_left
   ·
    simp only [Act.put, List.setIfInBounds_toArray, List.set_cons_zero, List.set_cons_succ, i64_w, i32_w]
    rfl
   refine one_ (i := 22) (N := some 38) #[true, true, true, true, true, true, true, true, true, true, true, true, true, true, true, true, true, true, true, true, true, true, true, false, false, true, true, false, false, false, true, true, false, false, false] rfl rfl (one_of HT_.out (by kernel_rfl)) (by decide) (fun K hK => ?_)
   refine goes_ Tryz.func33 (by kernel_rfl) rfl #[.int .i64 ((rd_T34 l0 x4_1).f4)] (by rfl) rfl rfl zQx17a2_ ?_
   with_reducible refine (basculeref21_Dec.calls k1 ((rd_T34 l0 x4_1).f4) t258 _ A15.out).mono ?_
   rintro e w45 ⟨rfl, hb⟩
   refine ⟨_, rfl, ?_⟩
   have n0_ := Aside0.mk (blk_below (g := gb254) (o := .cells #[.string ((rd_T34 l0 x4_1).f0), .int .i64 ((rd_T34 l0 x4_1).f1), .int .i64 ((rd_T34 l0 x4_1).f2), .int .i64 ((rd_T34 l0 x4_1).f3), .int .i64 ((rd_T34 l0 x4_1).f4), .int .i64 ((rd_T34 l0 x4_1).f5), .int .i64 ((rd_T34 l0 x4_1).f6), .bool false] 34 (0, 0)) zQx17a3_ hb)
   have n1_ := Aside0.mk (below_step zQx17a1_ hb)
   clear BK254
   clear HB
   have BK254 := n0_
   have HB := n1_
   clear n0_ n1_
   (try clear hb)
   (try clear hb2)
   (try clear hk)
   (try clear hi)
   refine hK.out _ _ ⟨(blk_cell BK254.out 0).trans rfl, (blk_cell BK254.out 1).trans rfl, (blk_cell BK254.out 2).trans rfl, (blk_cell BK254.out 3).trans rfl, (blk_cell BK254.out 4).trans rfl, (blk_cell BK254.out 5).trans rfl, (blk_cell BK254.out 6).trans rfl, (blk_cell BK254.out 7).trans rfl⟩ (fun hHeld => ?_)
   clear hK K
   refine norm_ (a' := ?_) ?_ ?_
   rotate_left
   ·
    show Act.put _ (some 38) _ = _
    simp only [Act.put, List.setIfInBounds_toArray, List.set_cons_zero, List.set_cons_succ, i64_w, i32_w]
    rfl
   refine pure_ (i := 23) (N := some 39) (v := ?_) (a' := ?_) #[true, true, true, true, true, true, true, true, true, true, true, true, true, true, true, true, true, true, true, true, true, true, true, true, false, true, true, false, false, false, true, true, false, false, false] rfl rfl (any_of HT_.out (by kernel_rfl)) (fun _ _ _ h => h) (Or.inl ⟨by rfl, ?_⟩) ?_ ?_
   rotate_left
   ·
    intro w'
    go_simp
    with_reducible rfl
   rotate_left
   ·
    simp only [Act.put, List.setIfInBounds_toArray, List.set_cons_zero, List.set_cons_succ, i64_w, i32_w]
    rfl
   refine pure_ (i := 24) (N := some 40) (v := ?_) (a' := ?_) #[true, true, true, true, true, true, true, true, true, true, true, true, true, true, true, true, true, true, true, true, true, true, true, true, true, true, true, false, false, false, true, true, false, false, false] rfl rfl (any_of HT_.out (by kernel_rfl)) (fun _ _ _ h => h) (Or.inl ⟨by rfl, ?_⟩) ?_ ?_
   rotate_left
   ·
    intro w'
    go_simp
    with_reducible rfl
   rotate_left
   ·
    simp only [Act.put, List.setIfInBounds_toArray, List.set_cons_zero, List.set_cons_succ, i64_w, i32_w]
    rfl
   refine one_ (i := 27) (N := some 43) #[true, true, true, true, true, true, true, true, true, true, true, true, true, true, true, true, true, true, true, true, true, true, true, true, true, true, true, true, false, false, true, true, false, false, false] rfl rfl (one_of HT_.out (by kernel_rfl)) (by decide) (fun K hK => ?_)
   refine goes_ Tryz.func33 (by kernel_rfl) rfl #[.int .i64 ((rd_T34 l0 x4_1).f5)] (by rfl) rfl rfl zQx17a2_ ?_
   with_reducible refine (basculeref21_Dec.calls k1 ((rd_T34 l0 x4_1).f5) t259 _ A18.out).mono ?_
   rintro e w46 ⟨rfl, hb⟩
   refine ⟨_, rfl, ?_⟩
   have n0_ := Aside0.mk (blk_below (g := gb254) (o := .cells #[.string ((rd_T34 l0 x4_1).f0), .int .i64 ((rd_T34 l0 x4_1).f1), .int .i64 ((rd_T34 l0 x4_1).f2), .int .i64 ((rd_T34 l0 x4_1).f3), .int .i64 ((rd_T34 l0 x4_1).f4), .int .i64 ((rd_T34 l0 x4_1).f5), .int .i64 ((rd_T34 l0 x4_1).f6), .bool false] 34 (0, 0)) zQx17a3_ hb)
   have n1_ := Aside0.mk (below_step zQx17a1_ hb)
   clear BK254
   clear HB
   have BK254 := n0_
   have HB := n1_
   clear n0_ n1_
   (try clear hb)
   (try clear hb2)
   (try clear hk)
   (try clear hi)
   refine hK.out _ _ ⟨(blk_cell BK254.out 0).trans rfl, (blk_cell BK254.out 1).trans rfl, (blk_cell BK254.out 2).trans rfl, (blk_cell BK254.out 3).trans rfl, (blk_cell BK254.out 4).trans rfl, (blk_cell BK254.out 5).trans rfl, (blk_cell BK254.out 6).trans rfl, (blk_cell BK254.out 7).trans rfl⟩ (fun hHeld => ?_)
   clear hK K
   refine norm_ (a' := ?_) ?_ ?_
   rotate_left
   ·
    show Act.put _ (some 43) _ = _
    simp only [Act.put, List.setIfInBounds_toArray, List.set_cons_zero, List.set_cons_succ, i64_w, i32_w]
    rfl
   refine pure_ (i := 28) (N := some 44) (v := ?_) (a' := ?_) #[true, true, true, true, true, true, true, true, true, true, true, true, true, true, true, true, true, true, true, true, true, true, true, true, true, true, true, true, true, false, true, true, false, false, false] rfl rfl (any_of HT_.out (by kernel_rfl)) (fun _ _ _ h => h) (Or.inl ⟨by rfl, ?_⟩) ?_ ?_
   rotate_left
   ·
    intro w'
    go_simp
    with_reducible rfl
   rotate_left
   ·
    simp only [Act.put, List.setIfInBounds_toArray, List.set_cons_zero, List.set_cons_succ, i64_w, i32_w]
    rfl
   refine pure_ (i := 29) (N := some 45) (v := ?_) (a' := ?_) #[true, true, true, true, true, true, true, true, true, true, true, true, true, true, true, true, true, true, true, true, true, true, true, true, true, true, true, true, true, true, true, true, false, false, false] rfl rfl (any_of HT_.out (by kernel_rfl)) (fun _ _ _ h => h) (Or.inl ⟨by rfl, ?_⟩) ?_ ?_
   rotate_left
   ·
    intro w'
    go_simp
    with_reducible rfl
   rotate_left
   ·
    simp only [Act.put, List.setIfInBounds_toArray, List.set_cons_zero, List.set_cons_succ, i64_w, i32_w]
    rfl
   refine one_ (i := 32) (N := some 48) #[true, true, true, true, true, true, true, true, true, true, true, true, true, true, true, true, true, true, true, true, true, true, true, true, true, true, true, true, true, true, true, true, true, false, false] rfl rfl (one_of HT_.out (by kernel_rfl)) (by decide) (fun K hK => ?_)
   refine goes_ Tryz.func33 (by kernel_rfl) rfl #[.int .i64 ((rd_T34 l0 x4_1).f6)] (by rfl) rfl rfl zQx17a2_ ?_
   with_reducible refine (basculeref21_Dec.calls k1 ((rd_T34 l0 x4_1).f6) t260 _ A21.out).mono ?_
   rintro e w47 ⟨rfl, hb⟩
   refine ⟨_, rfl, ?_⟩
   have n0_ := Aside0.mk (blk_below (g := gb254) (o := .cells #[.string ((rd_T34 l0 x4_1).f0), .int .i64 ((rd_T34 l0 x4_1).f1), .int .i64 ((rd_T34 l0 x4_1).f2), .int .i64 ((rd_T34 l0 x4_1).f3), .int .i64 ((rd_T34 l0 x4_1).f4), .int .i64 ((rd_T34 l0 x4_1).f5), .int .i64 ((rd_T34 l0 x4_1).f6), .bool false] 34 (0, 0)) zQx17a3_ hb)
   have n1_ := Aside0.mk (below_step zQx17a1_ hb)
   clear BK254
   clear HB
   have BK254 := n0_
   have HB := n1_
   clear n0_ n1_
   (try clear hb)
   (try clear hb2)
   (try clear hk)
   (try clear hi)
   refine hK.out _ _ ⟨(blk_cell BK254.out 0).trans rfl, (blk_cell BK254.out 1).trans rfl, (blk_cell BK254.out 2).trans rfl, (blk_cell BK254.out 3).trans rfl, (blk_cell BK254.out 4).trans rfl, (blk_cell BK254.out 5).trans rfl, (blk_cell BK254.out 6).trans rfl, (blk_cell BK254.out 7).trans rfl⟩ (fun hHeld => ?_)
   clear hK K
   refine norm_ (a' := ?_) ?_ ?_
   rotate_left
   ·
    show Act.put _ (some 48) _ = _
    simp only [Act.put, List.setIfInBounds_toArray, List.set_cons_zero, List.set_cons_succ, i64_w, i32_w]
    rfl
   refine pure_ (i := 33) (N := some 49) (v := ?_) (a' := ?_) #[true, true, true, true, true, true, true, true, true, true, true, true, true, true, true, true, true, true, true, true, true, true, true, true, true, true, true, true, true, true, true, true, true, true, false] rfl rfl (any_of HT_.out (by kernel_rfl)) (fun _ _ _ h => h) (Or.inl ⟨by rfl, ?_⟩) ?_ ?_
   rotate_left
   ·
    intro w'
    go_simp
    with_reducible rfl
   rotate_left
   ·
    simp only [Act.put, List.setIfInBounds_toArray, List.set_cons_zero, List.set_cons_succ, i64_w, i32_w]
    rfl
   refine pure_ (i := 34) (N := some 3) (v := ?_) (a' := ?_) #[true, true, true, true, true, true, true, true, true, true, true, true, true, true, true, true, true, true, true, true, true, true, true, true, true, true, true, true, true, true, true, true, true, true, true] rfl rfl (any_of HT_.out (by kernel_rfl)) (fun _ _ _ h => h) (Or.inl ⟨by rfl, ?_⟩) ?_ ?_
   rotate_left
   ·
    intro w'
    go_simp
    with_reducible rfl
   rotate_left
   ·
    simp only [Act.put, List.setIfInBounds_toArray, List.set_cons_zero, List.set_cons_succ, i64_w, i32_w]
    rfl
   refine done_ (done_of HT_.out (by kernel_rfl)) ?_
   have hcz48_0 : w47.cell? ⟨gb254, 0, none⟩ = some (.string ((rd_T34 l0 x4_1).f0)) := (blk_cell BK254.out 0).trans rfl
   have hcz48_1 : w47.cell? ⟨gb254, 1, none⟩ = some (.int .i64 ((rd_T34 l0 x4_1).f1)) := (blk_cell BK254.out 1).trans rfl
   have hcz48_2 : w47.cell? ⟨gb254, 2, none⟩ = some (.int .i64 ((rd_T34 l0 x4_1).f2)) := (blk_cell BK254.out 2).trans rfl
   have hcz48_3 : w47.cell? ⟨gb254, 3, none⟩ = some (.int .i64 ((rd_T34 l0 x4_1).f3)) := (blk_cell BK254.out 3).trans rfl
   have hcz48_4 : w47.cell? ⟨gb254, 4, none⟩ = some (.int .i64 ((rd_T34 l0 x4_1).f4)) := (blk_cell BK254.out 4).trans rfl
   have hcz48_5 : w47.cell? ⟨gb254, 5, none⟩ = some (.int .i64 ((rd_T34 l0 x4_1).f5)) := (blk_cell BK254.out 5).trans rfl
   have hcz48_6 : w47.cell? ⟨gb254, 6, none⟩ = some (.int .i64 ((rd_T34 l0 x4_1).f6)) := (blk_cell BK254.out 6).trans rfl
   have hcz48_7 : w47.cell? ⟨gb254, 7, none⟩ = some (.bool false) := (blk_cell BK254.out 7).trans rfl
   have hfz48_0 := blk_frozen BK254.out 0
   have hfz48_1 := blk_frozen BK254.out 1
   have hfz48_2 := blk_frozen BK254.out 2
   have hfz48_3 := blk_frozen BK254.out 3
   have hfz48_4 := blk_frozen BK254.out 4
   have hfz48_5 := blk_frozen BK254.out 5
   have hfz48_6 := blk_frozen BK254.out 6
   have hfz48_7 := blk_frozen BK254.out 7
   try go_wp2
   go_roundg k1
   case measure => have := HK1.out; omega
   case rel => exact ⟨((((((((((((((x3_1 ++ ((rd_T34 l0 x4_1).f0)) ++ (⟨#[32]⟩ : ByteArray)) ++ t255) ++ (⟨#[32]⟩ : ByteArray)) ++ t256) ++ (⟨#[32]⟩ : ByteArray)) ++ t257) ++ (⟨#[32]⟩ : ByteArray)) ++ t258) ++ (⟨#[32]⟩ : ByteArray)) ++ t259) ++ (⟨#[32]⟩ : ByteArray)) ++ t260) ++ (⟨#[32, 114, 10]⟩ : ByteArray)), (wrap64 (x4_1 + 1)), zQx17a5_, zQx17a5_, H', ⟨by have := HK1.out; omega⟩, ⟨zQx17a1_⟩⟩
end Go.Proofs.YtbfhiiokajbdhaaGreatDoor.Q
