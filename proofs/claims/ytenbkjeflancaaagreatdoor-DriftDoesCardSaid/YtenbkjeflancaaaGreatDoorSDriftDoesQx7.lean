/- What the proof of DriftDoes leans on: Qx7. -/
import Derived.Test.YtenbkjeflancaaaGreatDoorSDriftDoesValF
import Derived.Test.YtenbkjeflancaaaGreatDoorSDriftDoesQx6
import Derived.Test.YtenbkjeflancaaaGreatDoorSDriftDoesTabR
namespace Go.Proofs.YtenbkjeflancaaaGreatDoor.Q
open Go.RowKit Go.Proofs.YtenbkjeflancaaaGreatDoorW.PrintWords Go.Proofs.YtenbkjeflancaaaGreatDoorW.PrintLast Go.Proofs.YtenbkjeflancaaaGreatDoorW.PrintMore
attribute [local go_sem] max2_int min2_int max_two min_two
set_option linter.unusedVariables false
set_option linter.unusedSimpArgs false
theorem zQx7a0_ {P_ : Prop} (h_ : P_ := by repeat (first | (with_reducible first | exact HB.out | apply below_alloc | apply pw_below_drewN | apply below_drew1) | exact HB.out)) : P_ := h_
theorem zQx7a1_ {P_ : Prop} (h_ : P_ := by repeat (first | (with_reducible first | exact HB.out | apply below_alloc | apply pw_below_drewN | apply below_drew1 | refine below_set ?_ GE161.out) | exact HB.out)) : P_ := h_
theorem zQx7a2_ {P_ : Prop} (h_ : P_ := by (with_reducible repeat (first | refine blk_drewN ?_ _ | refine blk_drew ?_ | refine blk_alloc ?_ _)); exact BK161.out) : P_ := h_
theorem zQx7a3_ {P_ : Prop} (h_ : P_ := by first | (with_reducible assumption) | assumption) : P_ := h_
theorem zQx7a4_ {P_ : Prop} (h_ : P_ := by first | rfl | (simp [errW_none, errW_some] <;> rfl) | (simp [*, errW_none, errW_some] <;> rfl)) : P_ := h_
theorem zQx7a5_ {P_ : Prop} (h_ : P_ := by first | rfl | (simp; done) | (simp [*]; done)) : P_ := h_
theorem zQx7a6_ {P_ : Prop} (h_ : P_ := by repeat (first | (with_reducible first | exact HB.out | apply below_alloc | apply pw_below_drewN | apply below_drew1 | refine below_set ?_ GE165.out) | exact HB.out)) : P_ := h_
theorem zQx7a7_ {P_ : Prop} (h_ : P_ := by repeat (first | exact Drawn0.refl _ | apply Drawn0.step)) : P_ := h_
theorem zQx7a8_ {P_ : Prop} (h_ : P_ := by first | omega | exact Nat.le_refl _) : P_ := h_
theorem znQx7_ {X_ : Prop} [Decidable X_] (h_ : ¬ X_ → False := by intro c_; rw [if_neg c_] at H; exact absurd H (by simp)) : X_ := Decidable.byContradiction h_
def basculeref12_has.l0 : Nat → ByteArray → Int → Int → Option (Bool)
 | 0, _, _, _ => none
 | k + 1, x0, x1, x5 => if x5 < (x0.size : Int) then (if 0 ≤ x5 then (if (bt x0 x5) = x1 then (some true) else (basculeref12_has.l0 k x0 x1 (wrap64 (x5 + 1)))) else (none)) else (some false)
def basculeref12_has.f (k : Nat) (a0 : ByteArray) (a1 : Int) : Option (Bool) := basculeref12_has.l0 k a0 a1 0
set_option maxHeartbeats 8000000 in
set_option maxRecDepth 100000 in
theorem basculeref12_has.calls (k : Nat) (a0 : ByteArray) (a1 : Int) (r : Bool) (w : World) (h : basculeref12_has.f k a0 a1 = some r) :
  Calls Tryz.prog 73 #[.string a0, .int .u8 a1] w fun e w' => e = .returned (.bool r) ∧ Drawn0 w w' := by
 have H : (basculeref12_has.l0 k a0 a1 0) = some r := h
 clear h
 have H' := Aside0.mk H
 clear H
 go_enter Tryz.func73, Tryz.ntmps73
 go_wp2
 go_loopg [5] k (fun kq v5 w' => ∃ (x5_1 : Int), v5 = .int .i64 x5_1 ∧ Aside0 (basculeref12_has.l0 kq a0 a1 x5_1 = some r) ∧ Aside0 (kq ≤ k) ∧ Drawn0 w w')
 case atStart => exact ⟨(0), zQx7a5_, H', ⟨Nat.le_refl _⟩, zQx7a7_⟩
 case round =>
  clear H'
  try clear p2
  obtain ⟨x5_1, rfl, HA, HK1, ⟨m1, rfl⟩⟩ := hrel
  cases gk with
  | zero => exact absurd HA.out (by simp [basculeref12_has.l0])
  | succ k1 =>
   have H := HA.out
   clear HA
   simp only [basculeref12_has.l0] at H
   by_cases c3 : x5_1 < (a0.size : Int)
   rotate_left
   ·
    rw [if_neg c3] at H
    have c3b0 : decide (x5_1 < (a0.size : Int)) = false := decide_eq_false c3
    clear c3
    obtain rfl := Option.some.inj H
    go_wp2
    go_ret
    exact ⟨zQx7a5_, zQx7a7_⟩
   rw [if_pos c3] at H
   have c3b0 : decide (x5_1 < (a0.size : Int)) = true := decide_eq_true c3
   clear c3
   have c4 : 0 ≤ x5_1 := znQx7_
   rw [if_pos c4] at H
   have c4b0 : decide (0 ≤ x5_1) = true := decide_eq_true c4
   clear c4
   by_cases c6 : (bt a0 x5_1) = a1
   ·
    rw [if_pos c6] at H
    have c6b0 : ((bt a0 x5_1) == a1) = true := beq_iff_eq.mpr c6
    have c6b1 : ((bt a0 x5_1) != a1) = false := bne_eq_false_iff_eq.mpr c6
    clear c6
    obtain rfl := Option.some.inj H
    have p5 : 0 ≤ (x5_1 : Int) := of_decide_eq_true zQx7a3_
    have q5 : x5_1 < (a0.size : Int) := of_decide_eq_true zQx7a3_
    have hx5 := bt_at a0 x5_1
    replace p5 := eq_true p5
    replace q5 := eq_true q5
    go_wp2
    go_ret
    exact ⟨zQx7a5_, zQx7a7_⟩
   rw [if_neg c6] at H
   have c6b0 : ((bt a0 x5_1) == a1) = false := beq_eq_false_iff_ne.mpr c6
   have c6b1 : ((bt a0 x5_1) != a1) = true := bne_iff_ne.mpr c6
   have H' := Aside0.mk H
   clear H
   have p5 : 0 ≤ (x5_1 : Int) := of_decide_eq_true zQx7a3_
   have q5 : x5_1 < (a0.size : Int) := of_decide_eq_true zQx7a3_
   have hx5 := bt_at a0 x5_1
   replace p5 := eq_true p5
   replace q5 := eq_true q5
   go_wp2
   go_roundg k1
   case measure => have := HK1.out; omega
   case rel => exact ⟨(wrap64 (x5_1 + 1)), zQx7a5_, H', ⟨by have := HK1.out; omega⟩, zQx7a7_⟩
def basculeref12_Name.f (k : Nat) (a0 : ByteArray) : Option (Bool) := if a0.toList = ([] : List UInt8) then (some false) else ((basculeref09_Is.f k a0).bind fun t157 => (if t157 = true then ((basculeref12_has.f k a0 43).bind fun t158 => (if t158 = true then (some false) else ((basculeref12_has.f k a0 35).bind fun t159 => (some (!t159))))) else (some false)))
set_option maxHeartbeats 8000000 in
set_option maxRecDepth 100000 in
theorem basculeref12_Name.calls (k : Nat) (a0 : ByteArray) (r : Bool) (w : World) (h : basculeref12_Name.f k a0 = some r) :
  Calls Tryz.prog 46 #[.string a0] w fun e w' => e = .returned (.bool r) ∧ Below w.heap.size w w' := by
 have HB := Aside0.mk (Below.refl w.heap.size w)
 have H : (if a0.toList = ([] : List UInt8) then (some false) else ((basculeref09_Is.f k a0).bind fun t157 => (if t157 = true then ((basculeref12_has.f k a0 43).bind fun t158 => (if t158 = true then (some false) else ((basculeref12_has.f k a0 35).bind fun t159 => (some (!t159))))) else (some false)))) = some r := h
 clear h
 by_cases c2 : a0.toList = ([] : List UInt8)
 ·
  rw [if_pos c2] at H
  have c2b0 : (a0.toList == ([] : List UInt8)) = true := beq_iff_eq.mpr c2
  have c2b1 : (a0.toList != ([] : List UInt8)) = false := bne_eq_false_iff_eq.mpr c2
  clear c2
  obtain rfl := Option.some.inj H
  go_enter Tryz.func46, Tryz.ntmps46
  go_wp2
  go_ret
  exact ⟨zQx7a4_, zQx7a0_⟩
 rw [if_neg c2] at H
 have c2b0 : (a0.toList == ([] : List UInt8)) = false := beq_eq_false_iff_ne.mpr c2
 have c2b1 : (a0.toList != ([] : List UInt8)) = true := bne_iff_ne.mpr c2
 replace H := Option.bind_eq_some_iff.mp H
 obtain ⟨t157, A30, H⟩ := H
 replace H : (if t157 = true then ((basculeref12_has.f k a0 43).bind fun t158 => (if t158 = true then (some false) else ((basculeref12_has.f k a0 35).bind fun t159 => (some (!t159))))) else (some false)) = some r := H
 have A3 := Aside0.mk A30
 clear A30
 by_cases c4 : t157 = true
 rotate_left
 ·
  replace c4 := Bool.eq_false_iff.mpr c4
  subst c4
  have H1 : (some false) = some r := by rw [if_neg (show ¬ (false = true) by decide)] at H; exact H
  clear H
  have H := H1
  clear H1
  obtain rfl := Option.some.inj H
  go_enter Tryz.func46, Tryz.ntmps46
  go_wp2_with (first | (go_at_call 72; (with_reducible refine (basculeref09_Is.calls k a0 false _ A3.out).mono ?_); rintro e w10 ⟨rfl, hb⟩; have n0_ := Aside0.mk (below_step zQx7a0_ hb); clear HB; have HB := n0_; clear n0_; (try clear hb); (try clear hb2); (try clear hk); (try clear hi)))
  go_ret
  exact ⟨zQx7a4_, zQx7a0_⟩
 subst c4
 have H1 : ((basculeref12_has.f k a0 43).bind fun t158 => (if t158 = true then (some false) else ((basculeref12_has.f k a0 35).bind fun t159 => (some (!t159))))) = some r := by rw [if_pos rfl] at H; exact H
 clear H
 have H := H1
 clear H1
 replace H := Option.bind_eq_some_iff.mp H
 obtain ⟨t158, A50, H⟩ := H
 replace H : (if t158 = true then (some false) else ((basculeref12_has.f k a0 35).bind fun t159 => (some (!t159)))) = some r := H
 have A5 := Aside0.mk A50
 clear A50
 by_cases c6 : t158 = true
 ·
  subst c6
  have H1 : (some false) = some r := by rw [if_pos rfl] at H; exact H
  clear H
  have H := H1
  clear H1
  obtain rfl := Option.some.inj H
  go_enter Tryz.func46, Tryz.ntmps46
  go_wp2_with (first | (go_at_call 72; (with_reducible refine (basculeref09_Is.calls k a0 true _ A3.out).mono ?_); rintro e w7 ⟨rfl, hb⟩; have n0_ := Aside0.mk (below_step zQx7a0_ hb); clear HB; have HB := n0_; clear n0_; (try clear hb); (try clear hb2); (try clear hk); (try clear hi)) | (go_at_call 73; (with_reducible refine (basculeref12_has.calls k a0 43 true _ A5.out).mono ?_); rintro e w' ⟨rfl, ⟨nd, rfl⟩⟩))
  go_ret
  exact ⟨zQx7a4_, zQx7a0_⟩
 replace c6 := Bool.eq_false_iff.mpr c6
 subst c6
 have H1 : ((basculeref12_has.f k a0 35).bind fun t159 => (some (!t159))) = some r := by rw [if_neg (show ¬ (false = true) by decide)] at H; exact H
 clear H
 have H := H1
 clear H1
 replace H := Option.bind_eq_some_iff.mp H
 obtain ⟨t159, A80, H⟩ := H
 replace H : (some (!t159)) = some r := H
 have A8 := Aside0.mk A80
 clear A80
 obtain rfl := Option.some.inj H
 go_enter Tryz.func46, Tryz.ntmps46
 go_wp2_with (first | (go_at_call 72; (with_reducible refine (basculeref09_Is.calls k a0 true _ A3.out).mono ?_); rintro e w9 ⟨rfl, hb⟩; have n0_ := Aside0.mk (below_step zQx7a0_ hb); clear HB; have HB := n0_; clear n0_; (try clear hb); (try clear hb2); (try clear hk); (try clear hi)) | (go_at_call 73; (with_reducible refine (basculeref12_has.calls k a0 43 false _ A5.out).mono ?_); rintro e w' ⟨rfl, ⟨nd, rfl⟩⟩) | (go_at_call 73; (with_reducible refine (basculeref12_has.calls k a0 35 t159 _ A8.out).mono ?_); rintro e w' ⟨rfl, ⟨nd, rfl⟩⟩))
 go_ret
 exact ⟨zQx7a4_, zQx7a0_⟩
mutual
def basculeref21_name.j0 : Nat → ByteArray → Bool → Option (Bool)
 | 0, _, _ => none
 | k + 1, x0, x21 => if x21 = true then (some false) else (basculeref21_name.l0 k x0 0)
def basculeref21_name.l0 : Nat → ByteArray → Int → Option (Bool)
 | 0, _, _ => none
 | k + 1, x0, x3 => if x3 < (x0.size : Int) then (if 0 ≤ x3 then (if (bt x0 x3) = 32 then (some false) else (if (bt x0 x3) = 9 then (some false) else (if (bt x0 x3) = 10 then (some false) else (basculeref21_name.l0 k x0 (wrap64 (x3 + 1)))))) else (none)) else (some true)
end
def basculeref21_name.f (k : Nat) (a0 : ByteArray) : Option (Bool) := if (a0.size : Int) > 200 then (basculeref21_name.j0 k a0 true) else ((basculeref12_Name.f k a0).bind fun t160 => (if t160 = true then (if 0 < (a0.size : Int) then (if (bt a0 0) = 36 then (basculeref21_name.j0 k a0 true) else (basculeref21_name.j0 k a0 ((bt a0 0) == 35))) else (none)) else (basculeref21_name.j0 k a0 true)))
set_option maxHeartbeats 8000000 in
set_option maxRecDepth 100000 in
theorem basculeref21_name.calls (k : Nat) (a0 : ByteArray) (r : Bool) (w : World) (h : basculeref21_name.f k a0 = some r) :
  Calls Tryz.prog 23 #[.string a0] w fun e w' => e = .returned (.bool r) ∧ Below w.heap.size w w' := by
 have HB := Aside0.mk (Below.refl w.heap.size w)
 have H : (if (a0.size : Int) > 200 then (basculeref21_name.j0 k a0 true) else ((basculeref12_Name.f k a0).bind fun t160 => (if t160 = true then (if 0 < (a0.size : Int) then (if (bt a0 0) = 36 then (basculeref21_name.j0 k a0 true) else (basculeref21_name.j0 k a0 ((bt a0 0) == 35))) else (none)) else (basculeref21_name.j0 k a0 true)))) = some r := h
 clear h
 have HC2 := Aside0.mk H
 clear H
 go_enter Tryz.func23, Tryz.ntmps23
 go_upto_region 1 with (fail)
 go_cut [21] (fun v21 wc => ∃ (kq : Nat) (x21_1 : Bool), v21 = .bool x21_1 ∧ Aside0 (basculeref21_name.j0 kq a0 x21_1 = some r) ∧ Aside0 (kq ≤ k) ∧ Aside0 (Below w.heap.size w wc))
 case first =>
  have H := HC2.out
  clear HC2
  by_cases c3 : (a0.size : Int) > 200
  ·
   rw [if_pos c3] at H
   have c3b0 : decide (200 < (a0.size : Int)) = true := decide_eq_true c3
   have c3b1 : decide (200 < a0.size) = true := decide_eq_true (by omega)
   have c3b7 : (200 < a0.size) := of_decide_eq_true c3b1
   clear c3
   (first | rw [c3b0] | (simp only [i64_w, i32_w]; rw [c3b0]) | skip)
   have H' := Aside0.mk H
   clear H
   go_wp2
   go_meet
   case rel => exact ⟨_, (true), zQx7a5_, H', ⟨zQx7a8_⟩, ⟨zQx7a0_⟩⟩
  rw [if_neg c3] at H
  have c3b0 : decide (200 < (a0.size : Int)) = false := decide_eq_false c3
  have c3b1 : decide (200 < a0.size) = false := decide_eq_false (by omega)
  clear c3
  (first | rw [c3b0] | (simp only [i64_w, i32_w]; rw [c3b0]) | skip)
  replace H := Option.bind_eq_some_iff.mp H
  obtain ⟨t160, A40, H⟩ := H
  replace H : (if t160 = true then (if 0 < (a0.size : Int) then (if (bt a0 0) = 36 then (basculeref21_name.j0 k a0 true) else (basculeref21_name.j0 k a0 ((bt a0 0) == 35))) else (none)) else (basculeref21_name.j0 k a0 true)) = some r := H
  have A4 := Aside0.mk A40
  clear A40
  by_cases c5 : t160 = true
  rotate_left
  ·
   replace c5 := Bool.eq_false_iff.mpr c5
   subst c5
   have H1 : (basculeref21_name.j0 k a0 true) = some r := by rw [if_neg (show ¬ (false = true) by decide)] at H; exact H
   clear H
   have H := H1
   clear H1
   have H' := Aside0.mk H
   clear H
   go_wp2_with (first | (go_at_call 46; (with_reducible refine (basculeref12_Name.calls k a0 false _ A4.out).mono ?_); rintro e w12 ⟨rfl, hb⟩; have n0_ := Aside0.mk (below_step zQx7a0_ hb); clear HB; have HB := n0_; clear n0_; (try clear hb); (try clear hb2); (try clear hk); (try clear hi)))
   go_meet
   case rel => exact ⟨_, (true), zQx7a5_, H', ⟨zQx7a8_⟩, ⟨zQx7a0_⟩⟩
  subst c5
  have H1 : (if 0 < (a0.size : Int) then (if (bt a0 0) = 36 then (basculeref21_name.j0 k a0 true) else (basculeref21_name.j0 k a0 ((bt a0 0) == 35))) else (none)) = some r := by rw [if_pos rfl] at H; exact H
  clear H
  have H := H1
  clear H1
  have c6 : 0 < (a0.size : Int) := znQx7_
  rw [if_pos c6] at H
  have c6b0 : decide (0 < (a0.size : Int)) = true := decide_eq_true c6
  have c6b1 : decide (0 < a0.size) = true := decide_eq_true (by omega)
  have c6b7 : (0 < a0.size) := of_decide_eq_true c6b1
  clear c6
  by_cases c8 : (bt a0 0) = 36
  ·
   rw [if_pos c8] at H
   have c8b0 : ((bt a0 0) == 36) = true := beq_iff_eq.mpr c8
   have c8b1 : ((bt a0 0) != 36) = false := bne_eq_false_iff_eq.mpr c8
   clear c8
   have H' := Aside0.mk H
   clear H
   go_wp2_with (first | (go_at_call 46; (with_reducible refine (basculeref12_Name.calls k a0 true _ A4.out).mono ?_); rintro e w9 ⟨rfl, hb⟩; have n0_ := Aside0.mk (below_step zQx7a0_ hb); clear HB; have HB := n0_; clear n0_; (try clear hb); (try clear hb2); (try clear hk); (try clear hi); have p7 : 0 ≤ (0 : Int) := (by omega); have q7 : 0 < a0.size := (by have : (0 : Int) < (a0.size : Int) := of_decide_eq_true zQx7a3_; omega); have hx7 : ∀ h : 0 < a0.size, ((a0[0]'h).toNat : Int) = bt a0 0 := bt_at a0 0; clear p7; have qi7 : (0 < (a0.size : Int)) = True := eq_true (of_decide_eq_true zQx7a3_); replace q7 := eq_true q7))
   go_meet
   case rel => exact ⟨_, (true), zQx7a5_, H', ⟨zQx7a8_⟩, ⟨zQx7a0_⟩⟩
  rw [if_neg c8] at H
  have c8b0 : ((bt a0 0) == 36) = false := beq_eq_false_iff_ne.mpr c8
  have c8b1 : ((bt a0 0) != 36) = true := bne_iff_ne.mpr c8
  have H' := Aside0.mk H
  clear H
  go_wp2_with (first | (go_at_call 46; (with_reducible refine (basculeref12_Name.calls k a0 true _ A4.out).mono ?_); rintro e w11 ⟨rfl, hb⟩; have n0_ := Aside0.mk (below_step zQx7a0_ hb); clear HB; have HB := n0_; clear n0_; (try clear hb); (try clear hb2); (try clear hk); (try clear hi); have p7 : 0 ≤ (0 : Int) := (by omega); have q7 : 0 < a0.size := (by have : (0 : Int) < (a0.size : Int) := of_decide_eq_true zQx7a3_; omega); have hx7 : ∀ h : 0 < a0.size, ((a0[0]'h).toNat : Int) = bt a0 0 := bt_at a0 0; clear p7; have qi7 : (0 < (a0.size : Int)) = True := eq_true (of_decide_eq_true zQx7a3_); replace q7 := eq_true q7; have p10 : 0 ≤ (0 : Int) := (by omega); have q10 : 0 < a0.size := (by have : (0 : Int) < (a0.size : Int) := of_decide_eq_true zQx7a3_; omega); have hx10 : ∀ h : 0 < a0.size, ((a0[0]'h).toNat : Int) = bt a0 0 := bt_at a0 0; clear p10; have qi10 : (0 < (a0.size : Int)) = True := eq_true (of_decide_eq_true zQx7a3_); replace q10 := eq_true q10))
  go_meet
  case rel => exact ⟨_, (((bt a0 0) == 35)), zQx7a5_, H', ⟨zQx7a8_⟩, ⟨zQx7a0_⟩⟩
 case rest =>
  clear HC2
  try clear p1
  try clear q1
  try clear hx1
  try clear qi1
  try clear c2
  try clear p2
  try clear c3
  try clear c3b0
  try clear c3b1
  try clear c5
  try clear c6
  try clear c6b0
  try clear c6b1
  try clear p7
  try clear q7
  try clear hx7
  try clear qi7
  try clear c8
  try clear c8b0
  try clear c8b1
  try clear p10
  try clear q10
  try clear hx10
  try clear qi10
  try clear p10
  try clear p7
  try clear q10
  try clear q7
  obtain ⟨kq, x21_1, rfl, HA, HJ1, HB⟩ := hcut
  cases kq with
  | zero => exact absurd HA.out (by simp [basculeref21_name.j0])
  | succ kj1 =>
   have H := HA.out
   clear HA
   simp only [basculeref21_name.j0] at H
   by_cases c13 : x21_1 = true
   ·
    subst c13
    have H1 : (some false) = some r := by rw [if_pos rfl] at H; exact H
    clear H
    have H := H1
    clear H1
    obtain rfl := Option.some.inj H
    go_wp2
    go_ret
    exact ⟨zQx7a4_, zQx7a0_⟩
   replace c13 := Bool.eq_false_iff.mpr c13
   subst c13
   have H1 : (basculeref21_name.l0 kj1 a0 0) = some r := by rw [if_neg (show ¬ (false = true) by decide)] at H; exact H
   clear H
   have H := H1
   clear H1
   have H' := Aside0.mk H
   clear H
   go_wp2
   go_loopg [3] kj1 (fun kq v3 w' => ∃ (x3_2 : Int), v3 = .int .i64 x3_2 ∧ Aside0 (basculeref21_name.l0 kq a0 x3_2 = some r) ∧ Aside0 (kq ≤ kj1) ∧ Aside0 (Below w.heap.size w w'))
   case atStart => exact ⟨(0), zQx7a5_, H', ⟨Nat.le_refl _⟩, ⟨zQx7a0_⟩⟩
   case round =>
    clear H'
    try clear c1
    try clear p1
    try clear q1
    try clear hx1
    try clear qi1
    try clear c2
    try clear p2
    try clear c3
    try clear c3b0
    try clear c3b1
    try clear c5
    try clear c6
    try clear c6b0
    try clear c6b1
    try clear p7
    try clear q7
    try clear hx7
    try clear qi7
    try clear c8
    try clear c8b0
    try clear c8b1
    try clear p10
    try clear q10
    try clear hx10
    try clear qi10
    try clear c13
    try clear p1
    try clear p10
    try clear p2
    try clear p7
    try clear q1
    try clear q10
    try clear q7
    obtain ⟨x3_2, rfl, HA, HK2, HB⟩ := hrel
    cases gk with
    | zero => exact absurd HA.out (by simp [basculeref21_name.l0])
    | succ k2 =>
     have H := HA.out
     clear HA
     simp only [basculeref21_name.l0] at H
     by_cases c14 : x3_2 < (a0.size : Int)
     rotate_left
     ·
      rw [if_neg c14] at H
      have c14b0 : decide (x3_2 < (a0.size : Int)) = false := decide_eq_false c14
      clear c14
      obtain rfl := Option.some.inj H
      go_wp2
      go_ret
      exact ⟨zQx7a4_, zQx7a0_⟩
     rw [if_pos c14] at H
     have c14b0 : decide (x3_2 < (a0.size : Int)) = true := decide_eq_true c14
     clear c14
     have c15 : 0 ≤ x3_2 := znQx7_
     rw [if_pos c15] at H
     have c15b0 : decide (0 ≤ x3_2) = true := decide_eq_true c15
     clear c15
     by_cases c17 : (bt a0 x3_2) = 32
     ·
      rw [if_pos c17] at H
      have c17b0 : ((bt a0 x3_2) == 32) = true := beq_iff_eq.mpr c17
      have c17b1 : ((bt a0 x3_2) != 32) = false := bne_eq_false_iff_eq.mpr c17
      clear c17
      obtain rfl := Option.some.inj H
      have p16 : 0 ≤ (x3_2 : Int) := of_decide_eq_true zQx7a3_
      have q16 : x3_2 < (a0.size : Int) := of_decide_eq_true zQx7a3_
      have hx16 := bt_at a0 x3_2
      replace p16 := eq_true p16
      replace q16 := eq_true q16
      go_wp2
      go_ret
      exact ⟨zQx7a4_, zQx7a0_⟩
     rw [if_neg c17] at H
     have c17b0 : ((bt a0 x3_2) == 32) = false := beq_eq_false_iff_ne.mpr c17
     have c17b1 : ((bt a0 x3_2) != 32) = true := bne_iff_ne.mpr c17
     by_cases c19 : (bt a0 x3_2) = 9
     ·
      rw [if_pos c19] at H
      have c19b0 : ((bt a0 x3_2) == 9) = true := beq_iff_eq.mpr c19
      have c19b1 : ((bt a0 x3_2) != 9) = false := bne_eq_false_iff_eq.mpr c19
      clear c19
      obtain rfl := Option.some.inj H
      have p16 : 0 ≤ (x3_2 : Int) := of_decide_eq_true zQx7a3_
      have q16 : x3_2 < (a0.size : Int) := of_decide_eq_true zQx7a3_
      have hx16 := bt_at a0 x3_2
      replace p16 := eq_true p16
      replace q16 := eq_true q16
      have p18 : 0 ≤ (x3_2 : Int) := of_decide_eq_true zQx7a3_
      have q18 : x3_2 < (a0.size : Int) := of_decide_eq_true zQx7a3_
      have hx18 := bt_at a0 x3_2
      replace p18 := eq_true p18
      replace q18 := eq_true q18
      go_wp2
      go_ret
      exact ⟨zQx7a4_, zQx7a0_⟩
     rw [if_neg c19] at H
     have c19b0 : ((bt a0 x3_2) == 9) = false := beq_eq_false_iff_ne.mpr c19
     have c19b1 : ((bt a0 x3_2) != 9) = true := bne_iff_ne.mpr c19
     by_cases c21 : (bt a0 x3_2) = 10
     ·
      rw [if_pos c21] at H
      have c21b0 : ((bt a0 x3_2) == 10) = true := beq_iff_eq.mpr c21
      have c21b1 : ((bt a0 x3_2) != 10) = false := bne_eq_false_iff_eq.mpr c21
      clear c21
      obtain rfl := Option.some.inj H
      have p16 : 0 ≤ (x3_2 : Int) := of_decide_eq_true zQx7a3_
      have q16 : x3_2 < (a0.size : Int) := of_decide_eq_true zQx7a3_
      have hx16 := bt_at a0 x3_2
      replace p16 := eq_true p16
      replace q16 := eq_true q16
      have p18 : 0 ≤ (x3_2 : Int) := of_decide_eq_true zQx7a3_
      have q18 : x3_2 < (a0.size : Int) := of_decide_eq_true zQx7a3_
      have hx18 := bt_at a0 x3_2
      replace p18 := eq_true p18
      replace q18 := eq_true q18
      have p20 : 0 ≤ (x3_2 : Int) := of_decide_eq_true zQx7a3_
      have q20 : x3_2 < (a0.size : Int) := of_decide_eq_true zQx7a3_
      have hx20 := bt_at a0 x3_2
      replace p20 := eq_true p20
      replace q20 := eq_true q20
      go_wp2
      go_ret
      exact ⟨zQx7a4_, zQx7a0_⟩
     rw [if_neg c21] at H
     have c21b0 : ((bt a0 x3_2) == 10) = false := beq_eq_false_iff_ne.mpr c21
     have c21b1 : ((bt a0 x3_2) != 10) = true := bne_iff_ne.mpr c21
     have H' := Aside0.mk H
     clear H
     have p16 : 0 ≤ (x3_2 : Int) := of_decide_eq_true zQx7a3_
     have q16 : x3_2 < (a0.size : Int) := of_decide_eq_true zQx7a3_
     have hx16 := bt_at a0 x3_2
     replace p16 := eq_true p16
     replace q16 := eq_true q16
     have p18 : 0 ≤ (x3_2 : Int) := of_decide_eq_true zQx7a3_
     have q18 : x3_2 < (a0.size : Int) := of_decide_eq_true zQx7a3_
     have hx18 := bt_at a0 x3_2
     replace p18 := eq_true p18
     replace q18 := eq_true q18
     have p20 : 0 ≤ (x3_2 : Int) := of_decide_eq_true zQx7a3_
     have q20 : x3_2 < (a0.size : Int) := of_decide_eq_true zQx7a3_
     have hx20 := bt_at a0 x3_2
     replace p20 := eq_true p20
     replace q20 := eq_true q20
     go_wp2
     go_roundg k2
     case measure => have := HJ1.out; have := HK2.out; omega
     case rel => exact ⟨(wrap64 (x3_2 + 1)), zQx7a5_, H', ⟨by have := HJ1.out; have := HK2.out; omega⟩, ⟨zQx7a0_⟩⟩
def basculeref21_Range.f (a0_0 : ByteArray) (a0_1 : Int) (a0_2 : Int) (a0_3 : Int) (a0_4 : Int) (a0_5 : Int) (a0_6 : Int) (a0_7 : Bool) : Option (Bool) := some (Tab.rangeB a0_1 a0_2 a0_3 a0_4 a0_5 a0_6 a0_7)
theorem basculeref21_Range.calls (a0_0 : ByteArray) (a0_1 : Int) (a0_2 : Int) (a0_3 : Int) (a0_4 : Int) (a0_5 : Int) (a0_6 : Int) (a0_7 : Bool) (r : Bool) (w : World) (h : basculeref21_Range.f a0_0 a0_1 a0_2 a0_3 a0_4 a0_5 a0_6 a0_7 = some r) :
  Calls Tryz.prog 24 #[.agg #[.string a0_0, .int .i64 a0_1, .int .i64 a0_2, .int .i64 a0_3, .int .i64 a0_4, .int .i64 a0_5, .int .i64 a0_6, .bool a0_7]] w fun e w' => e = .returned (.bool r) ∧ Below w.heap.size w w' := by
 obtain rfl := Option.some.inj h
 exact Tab.range_calls a0_0 a0_1 a0_2 a0_3 a0_4 a0_5 a0_6 a0_7 w
def basculeref21_Error.l0 : Nat → List (S23) → Int → ByteArray → Int → Int → Int → Int → Int → Int → Bool → Option (Int)
 | 0, _, _, _, _, _, _, _, _, _, _ => none
 | k + 1, x0, x5, x162000, x162001, x162002, x162003, x162004, x162005, x162006, x162007 => if x5 < (x0.length : Int) then (if 0 ≤ x5 then (if ((rd_T23 x0 x5).f0).toList = x162000.toList then (some 210) else (basculeref21_Error.l0 k x0 (wrap64 (x5 + 1)) x162000 x162001 x162002 x162003 x162004 x162005 x162006 x162007)) else (none)) else ((basculeref21_Range.f x162000 x162001 x162002 x162003 x162004 x162005 x162006 x162007).bind fun t164 => (if t164 = true then (if (x0.length : Int) ≥ 64 then (some 6) else (some 0)) else (some 220)))
def basculeref21_Error.f (k : Nat) (l0 : List (S23)) (a1_0 : ByteArray) (a1_1 : Int) (a1_2 : Int) (a1_3 : Int) (a1_4 : Int) (a1_5 : Int) (a1_6 : Int) (a1_7 : Bool) : Option (Int) := (basculeref21_name.f k a1_0).bind fun t162 => (if t162 = true then (basculeref21_Error.l0 k l0 0 a1_0 a1_1 a1_2 a1_3 a1_4 a1_5 a1_6 a1_7) else (some 210))
set_option maxHeartbeats 8000000 in
set_option maxRecDepth 100000 in
theorem basculeref21_Error.calls (k : Nat) (A0 : Option Addr) (c0 : Nat) (l0 : List (S23)) (a1_0 : ByteArray) (a1_1 : Int) (a1_2 : Int) (a1_3 : Int) (a1_4 : Int) (a1_5 : Int) (a1_6 : Int) (a1_7 : Bool) (r : Int) (w : World) (hr0 : Kd.C k23 w A0 l0.length l0) (hc0 : l0.length ≤ c0) (h : basculeref21_Error.f k l0 a1_0 a1_1 a1_2 a1_3 a1_4 a1_5 a1_6 a1_7 = some r) :
  Calls Tryz.prog 15 #[.slice A0 l0.length c0, .agg #[.string a1_0, .int .i64 a1_1, .int .i64 a1_2, .int .i64 a1_3, .int .i64 a1_4, .int .i64 a1_5, .int .i64 a1_6, .bool a1_7]] w fun e w' => e = .returned (.int .i64 r) ∧ Below w.heap.size w w' := by
 have hu23 := Tryz.underlying23
 have HR0 := Aside0.mk hr0
 have HC0 := Aside0.mk hc0
 clear hr0 hc0
 have HB := Aside0.mk (Below.refl w.heap.size w)
 have H : ((basculeref21_name.f k a1_0).bind fun t162 => (if t162 = true then (basculeref21_Error.l0 k l0 0 a1_0 a1_1 a1_2 a1_3 a1_4 a1_5 a1_6 a1_7) else (some 210))) = some r := h
 clear h
 replace H := Option.bind_eq_some_iff.mp H
 obtain ⟨t162, A30, H⟩ := H
 replace H : (if t162 = true then (basculeref21_Error.l0 k l0 0 a1_0 a1_1 a1_2 a1_3 a1_4 a1_5 a1_6 a1_7) else (some 210)) = some r := H
 have A3 := Aside0.mk A30
 clear A30
 by_cases c4 : t162 = true
 rotate_left
 ·
  replace c4 := Bool.eq_false_iff.mpr c4
  subst c4
  have H1 : (some 210) = some r := by rw [if_neg (show ¬ (false = true) by decide)] at H; exact H
  clear H
  have H := H1
  clear H1
  obtain rfl := Option.some.inj H
  go_enter Tryz.func15, Tryz.ntmps15
  go_wp2_with (first | ((with_reducible refine gate_dst (N := 3) rfl ?_); refine box_event ?hg (N := 3) ?hd (cs := #[.string a1_0, .int .i64 a1_1, .int .i64 a1_2, .int .i64 a1_3, .int .i64 a1_4, .int .i64 a1_5, .int .i64 a1_6, .bool a1_7]) (t := 23) ?hr ?_; (case hd => rfl); (case hg => rfl); (case hr => first | (go_simp; done) | (go_simp; rfl)); intro gb161 hg w22 hbox hb; have n0_ := Aside0.mk (below_step zQx7a0_ hb); have n1_ := Aside0.mk (hbox); have n2_ := Aside0.mk ((by rw [hg]; exact (below_size zQx7a0_) : w.heap.size ≤ gb161)); have n3_ := Aside0.mk ((by rw [hg]; exact (below_size zQx7a0_) : w.heap.size ≤ gb161)); clear HB; have HB := n0_; have BK161 := n1_; have GW161 := n2_; have GE161 := n3_; clear n0_ n1_ n2_ n3_; clear hb hbox hg; have hcz23_0 : w22.cell? ⟨gb161, 0, none⟩ = some (.string a1_0) := (blk_cell BK161.out 0).trans rfl; have hcz23_1 : w22.cell? ⟨gb161, 1, none⟩ = some (.int .i64 a1_1) := (blk_cell BK161.out 1).trans rfl; have hcz23_2 : w22.cell? ⟨gb161, 2, none⟩ = some (.int .i64 a1_2) := (blk_cell BK161.out 2).trans rfl; have hcz23_3 : w22.cell? ⟨gb161, 3, none⟩ = some (.int .i64 a1_3) := (blk_cell BK161.out 3).trans rfl; have hcz23_4 : w22.cell? ⟨gb161, 4, none⟩ = some (.int .i64 a1_4) := (blk_cell BK161.out 4).trans rfl; have hcz23_5 : w22.cell? ⟨gb161, 5, none⟩ = some (.int .i64 a1_5) := (blk_cell BK161.out 5).trans rfl; have hcz23_6 : w22.cell? ⟨gb161, 6, none⟩ = some (.int .i64 a1_6) := (blk_cell BK161.out 6).trans rfl; have hcz23_7 : w22.cell? ⟨gb161, 7, none⟩ = some (.bool a1_7) := (blk_cell BK161.out 7).trans rfl; have hfz23_0 := blk_frozen BK161.out 0; have hfz23_1 := blk_frozen BK161.out 1; have hfz23_2 := blk_frozen BK161.out 2; have hfz23_3 := blk_frozen BK161.out 3; have hfz23_4 := blk_frozen BK161.out 4; have hfz23_5 := blk_frozen BK161.out 5; have hfz23_6 := blk_frozen BK161.out 6; have hfz23_7 := blk_frozen BK161.out 7) | (go_at_call 23; (with_reducible refine (basculeref21_name.calls k a1_0 false _ A3.out).mono ?_); rintro e w24 ⟨rfl, hb⟩; have n0_ := Aside0.mk (blk_below (g := gb161) (o := .cells #[.string a1_0, .int .i64 a1_1, .int .i64 a1_2, .int .i64 a1_3, .int .i64 a1_4, .int .i64 a1_5, .int .i64 a1_6, .bool a1_7] 23 (0, 0)) zQx7a2_ hb); have n1_ := Aside0.mk (below_step zQx7a1_ hb); clear BK161; clear HB; have BK161 := n0_; have HB := n1_; clear n0_ n1_; (try clear hb); (try clear hb2); (try clear hk); (try clear hi)))
  repeat (go_quiet (first | ((with_reducible refine gate_dst (N := 3) rfl ?_); refine box_event ?hg (N := 3) ?hd (cs := #[.string a1_0, .int .i64 a1_1, .int .i64 a1_2, .int .i64 a1_3, .int .i64 a1_4, .int .i64 a1_5, .int .i64 a1_6, .bool a1_7]) (t := 23) ?hr ?_; (case hd => rfl); (case hg => rfl); (case hr => first | (go_simp; done) | (go_simp; rfl)); intro gb161 hg w22 hbox hb; have n0_ := Aside0.mk (below_step zQx7a0_ hb); have n1_ := Aside0.mk (hbox); have n2_ := Aside0.mk ((by rw [hg]; exact (below_size zQx7a0_) : w.heap.size ≤ gb161)); have n3_ := Aside0.mk ((by rw [hg]; exact (below_size zQx7a0_) : w.heap.size ≤ gb161)); clear HB; have HB := n0_; have BK161 := n1_; have GW161 := n2_; have GE161 := n3_; clear n0_ n1_ n2_ n3_; clear hb hbox hg; have hcz23_0 : w22.cell? ⟨gb161, 0, none⟩ = some (.string a1_0) := (blk_cell BK161.out 0).trans rfl; have hcz23_1 : w22.cell? ⟨gb161, 1, none⟩ = some (.int .i64 a1_1) := (blk_cell BK161.out 1).trans rfl; have hcz23_2 : w22.cell? ⟨gb161, 2, none⟩ = some (.int .i64 a1_2) := (blk_cell BK161.out 2).trans rfl; have hcz23_3 : w22.cell? ⟨gb161, 3, none⟩ = some (.int .i64 a1_3) := (blk_cell BK161.out 3).trans rfl; have hcz23_4 : w22.cell? ⟨gb161, 4, none⟩ = some (.int .i64 a1_4) := (blk_cell BK161.out 4).trans rfl; have hcz23_5 : w22.cell? ⟨gb161, 5, none⟩ = some (.int .i64 a1_5) := (blk_cell BK161.out 5).trans rfl; have hcz23_6 : w22.cell? ⟨gb161, 6, none⟩ = some (.int .i64 a1_6) := (blk_cell BK161.out 6).trans rfl; have hcz23_7 : w22.cell? ⟨gb161, 7, none⟩ = some (.bool a1_7) := (blk_cell BK161.out 7).trans rfl; have hfz23_0 := blk_frozen BK161.out 0; have hfz23_1 := blk_frozen BK161.out 1; have hfz23_2 := blk_frozen BK161.out 2; have hfz23_3 := blk_frozen BK161.out 3; have hfz23_4 := blk_frozen BK161.out 4; have hfz23_5 := blk_frozen BK161.out 5; have hfz23_6 := blk_frozen BK161.out 6; have hfz23_7 := blk_frozen BK161.out 7) | (go_at_call 23; (with_reducible refine (basculeref21_name.calls k a1_0 false _ A3.out).mono ?_); rintro e w24 ⟨rfl, hb⟩; have n0_ := Aside0.mk (blk_below (g := gb161) (o := .cells #[.string a1_0, .int .i64 a1_1, .int .i64 a1_2, .int .i64 a1_3, .int .i64 a1_4, .int .i64 a1_5, .int .i64 a1_6, .bool a1_7] 23 (0, 0)) zQx7a2_ hb); have n1_ := Aside0.mk (below_step zQx7a1_ hb); clear BK161; clear HB; have BK161 := n0_; have HB := n1_; clear n0_ n1_; (try clear hb); (try clear hb2); (try clear hk); (try clear hi))); try go_wp2_with (first | ((with_reducible refine gate_dst (N := 3) rfl ?_); refine box_event ?hg (N := 3) ?hd (cs := #[.string a1_0, .int .i64 a1_1, .int .i64 a1_2, .int .i64 a1_3, .int .i64 a1_4, .int .i64 a1_5, .int .i64 a1_6, .bool a1_7]) (t := 23) ?hr ?_; (case hd => rfl); (case hg => rfl); (case hr => first | (go_simp; done) | (go_simp; rfl)); intro gb161 hg w22 hbox hb; have n0_ := Aside0.mk (below_step zQx7a0_ hb); have n1_ := Aside0.mk (hbox); have n2_ := Aside0.mk ((by rw [hg]; exact (below_size zQx7a0_) : w.heap.size ≤ gb161)); have n3_ := Aside0.mk ((by rw [hg]; exact (below_size zQx7a0_) : w.heap.size ≤ gb161)); clear HB; have HB := n0_; have BK161 := n1_; have GW161 := n2_; have GE161 := n3_; clear n0_ n1_ n2_ n3_; clear hb hbox hg; have hcz23_0 : w22.cell? ⟨gb161, 0, none⟩ = some (.string a1_0) := (blk_cell BK161.out 0).trans rfl; have hcz23_1 : w22.cell? ⟨gb161, 1, none⟩ = some (.int .i64 a1_1) := (blk_cell BK161.out 1).trans rfl; have hcz23_2 : w22.cell? ⟨gb161, 2, none⟩ = some (.int .i64 a1_2) := (blk_cell BK161.out 2).trans rfl; have hcz23_3 : w22.cell? ⟨gb161, 3, none⟩ = some (.int .i64 a1_3) := (blk_cell BK161.out 3).trans rfl; have hcz23_4 : w22.cell? ⟨gb161, 4, none⟩ = some (.int .i64 a1_4) := (blk_cell BK161.out 4).trans rfl; have hcz23_5 : w22.cell? ⟨gb161, 5, none⟩ = some (.int .i64 a1_5) := (blk_cell BK161.out 5).trans rfl; have hcz23_6 : w22.cell? ⟨gb161, 6, none⟩ = some (.int .i64 a1_6) := (blk_cell BK161.out 6).trans rfl; have hcz23_7 : w22.cell? ⟨gb161, 7, none⟩ = some (.bool a1_7) := (blk_cell BK161.out 7).trans rfl; have hfz23_0 := blk_frozen BK161.out 0; have hfz23_1 := blk_frozen BK161.out 1; have hfz23_2 := blk_frozen BK161.out 2; have hfz23_3 := blk_frozen BK161.out 3; have hfz23_4 := blk_frozen BK161.out 4; have hfz23_5 := blk_frozen BK161.out 5; have hfz23_6 := blk_frozen BK161.out 6; have hfz23_7 := blk_frozen BK161.out 7) | (go_at_call 23; (with_reducible refine (basculeref21_name.calls k a1_0 false _ A3.out).mono ?_); rintro e w24 ⟨rfl, hb⟩; have n0_ := Aside0.mk (blk_below (g := gb161) (o := .cells #[.string a1_0, .int .i64 a1_1, .int .i64 a1_2, .int .i64 a1_3, .int .i64 a1_4, .int .i64 a1_5, .int .i64 a1_6, .bool a1_7] 23 (0, 0)) zQx7a2_ hb); have n1_ := Aside0.mk (below_step zQx7a1_ hb); clear BK161; clear HB; have BK161 := n0_; have HB := n1_; clear n0_ n1_; (try clear hb); (try clear hb2); (try clear hk); (try clear hi))))
  go_ret
  exact ⟨zQx7a4_, zQx7a1_⟩
 subst c4
 have H1 : (basculeref21_Error.l0 k l0 0 a1_0 a1_1 a1_2 a1_3 a1_4 a1_5 a1_6 a1_7) = some r := by rw [if_pos rfl] at H; exact H
 clear H
 have H := H1
 clear H1
 have H' := Aside0.mk H
 clear H
 go_enter Tryz.func15, Tryz.ntmps15
 go_wp2_with (first | ((with_reducible refine gate_dst (N := 3) rfl ?_); refine box_event ?hg (N := 3) ?hd (cs := #[.string a1_0, .int .i64 a1_1, .int .i64 a1_2, .int .i64 a1_3, .int .i64 a1_4, .int .i64 a1_5, .int .i64 a1_6, .bool a1_7]) (t := 23) ?hr ?_; (case hd => rfl); (case hg => rfl); (case hr => first | (go_simp; done) | (go_simp; rfl)); intro gb161 hg w5 hbox hb; have n0_ := Aside0.mk (below_step zQx7a0_ hb); have n1_ := Aside0.mk (hbox); have n2_ := Aside0.mk ((by rw [hg]; exact (below_size zQx7a0_) : w.heap.size ≤ gb161)); have n3_ := Aside0.mk ((by rw [hg]; exact (below_size zQx7a0_) : w.heap.size ≤ gb161)); clear HB; have HB := n0_; have BK161 := n1_; have GW161 := n2_; have GE161 := n3_; clear n0_ n1_ n2_ n3_; clear hb hbox hg; have hcz6_0 : w5.cell? ⟨gb161, 0, none⟩ = some (.string a1_0) := (blk_cell BK161.out 0).trans rfl; have hcz6_1 : w5.cell? ⟨gb161, 1, none⟩ = some (.int .i64 a1_1) := (blk_cell BK161.out 1).trans rfl; have hcz6_2 : w5.cell? ⟨gb161, 2, none⟩ = some (.int .i64 a1_2) := (blk_cell BK161.out 2).trans rfl; have hcz6_3 : w5.cell? ⟨gb161, 3, none⟩ = some (.int .i64 a1_3) := (blk_cell BK161.out 3).trans rfl; have hcz6_4 : w5.cell? ⟨gb161, 4, none⟩ = some (.int .i64 a1_4) := (blk_cell BK161.out 4).trans rfl; have hcz6_5 : w5.cell? ⟨gb161, 5, none⟩ = some (.int .i64 a1_5) := (blk_cell BK161.out 5).trans rfl; have hcz6_6 : w5.cell? ⟨gb161, 6, none⟩ = some (.int .i64 a1_6) := (blk_cell BK161.out 6).trans rfl; have hcz6_7 : w5.cell? ⟨gb161, 7, none⟩ = some (.bool a1_7) := (blk_cell BK161.out 7).trans rfl; have hfz6_0 := blk_frozen BK161.out 0; have hfz6_1 := blk_frozen BK161.out 1; have hfz6_2 := blk_frozen BK161.out 2; have hfz6_3 := blk_frozen BK161.out 3; have hfz6_4 := blk_frozen BK161.out 4; have hfz6_5 := blk_frozen BK161.out 5; have hfz6_6 := blk_frozen BK161.out 6; have hfz6_7 := blk_frozen BK161.out 7) | (go_at_call 23; (with_reducible refine (basculeref21_name.calls k a1_0 true _ A3.out).mono ?_); rintro e w7 ⟨rfl, hb⟩; have n0_ := Aside0.mk (blk_below (g := gb161) (o := .cells #[.string a1_0, .int .i64 a1_1, .int .i64 a1_2, .int .i64 a1_3, .int .i64 a1_4, .int .i64 a1_5, .int .i64 a1_6, .bool a1_7] 23 (0, 0)) zQx7a2_ hb); have n1_ := Aside0.mk (below_step zQx7a1_ hb); clear BK161; clear HB; have BK161 := n0_; have HB := n1_; clear n0_ n1_; (try clear hb); (try clear hb2); (try clear hk); (try clear hi)))
 repeat (go_quiet (first | ((with_reducible refine gate_dst (N := 3) rfl ?_); refine box_event ?hg (N := 3) ?hd (cs := #[.string a1_0, .int .i64 a1_1, .int .i64 a1_2, .int .i64 a1_3, .int .i64 a1_4, .int .i64 a1_5, .int .i64 a1_6, .bool a1_7]) (t := 23) ?hr ?_; (case hd => rfl); (case hg => rfl); (case hr => first | (go_simp; done) | (go_simp; rfl)); intro gb161 hg w5 hbox hb; have n0_ := Aside0.mk (below_step zQx7a0_ hb); have n1_ := Aside0.mk (hbox); have n2_ := Aside0.mk ((by rw [hg]; exact (below_size zQx7a0_) : w.heap.size ≤ gb161)); have n3_ := Aside0.mk ((by rw [hg]; exact (below_size zQx7a0_) : w.heap.size ≤ gb161)); clear HB; have HB := n0_; have BK161 := n1_; have GW161 := n2_; have GE161 := n3_; clear n0_ n1_ n2_ n3_; clear hb hbox hg; have hcz6_0 : w5.cell? ⟨gb161, 0, none⟩ = some (.string a1_0) := (blk_cell BK161.out 0).trans rfl; have hcz6_1 : w5.cell? ⟨gb161, 1, none⟩ = some (.int .i64 a1_1) := (blk_cell BK161.out 1).trans rfl; have hcz6_2 : w5.cell? ⟨gb161, 2, none⟩ = some (.int .i64 a1_2) := (blk_cell BK161.out 2).trans rfl; have hcz6_3 : w5.cell? ⟨gb161, 3, none⟩ = some (.int .i64 a1_3) := (blk_cell BK161.out 3).trans rfl; have hcz6_4 : w5.cell? ⟨gb161, 4, none⟩ = some (.int .i64 a1_4) := (blk_cell BK161.out 4).trans rfl; have hcz6_5 : w5.cell? ⟨gb161, 5, none⟩ = some (.int .i64 a1_5) := (blk_cell BK161.out 5).trans rfl; have hcz6_6 : w5.cell? ⟨gb161, 6, none⟩ = some (.int .i64 a1_6) := (blk_cell BK161.out 6).trans rfl; have hcz6_7 : w5.cell? ⟨gb161, 7, none⟩ = some (.bool a1_7) := (blk_cell BK161.out 7).trans rfl; have hfz6_0 := blk_frozen BK161.out 0; have hfz6_1 := blk_frozen BK161.out 1; have hfz6_2 := blk_frozen BK161.out 2; have hfz6_3 := blk_frozen BK161.out 3; have hfz6_4 := blk_frozen BK161.out 4; have hfz6_5 := blk_frozen BK161.out 5; have hfz6_6 := blk_frozen BK161.out 6; have hfz6_7 := blk_frozen BK161.out 7) | (go_at_call 23; (with_reducible refine (basculeref21_name.calls k a1_0 true _ A3.out).mono ?_); rintro e w7 ⟨rfl, hb⟩; have n0_ := Aside0.mk (blk_below (g := gb161) (o := .cells #[.string a1_0, .int .i64 a1_1, .int .i64 a1_2, .int .i64 a1_3, .int .i64 a1_4, .int .i64 a1_5, .int .i64 a1_6, .bool a1_7] 23 (0, 0)) zQx7a2_ hb); have n1_ := Aside0.mk (below_step zQx7a1_ hb); clear BK161; clear HB; have BK161 := n0_; have HB := n1_; clear n0_ n1_; (try clear hb); (try clear hb2); (try clear hk); (try clear hi))); try go_wp2_with (first | ((with_reducible refine gate_dst (N := 3) rfl ?_); refine box_event ?hg (N := 3) ?hd (cs := #[.string a1_0, .int .i64 a1_1, .int .i64 a1_2, .int .i64 a1_3, .int .i64 a1_4, .int .i64 a1_5, .int .i64 a1_6, .bool a1_7]) (t := 23) ?hr ?_; (case hd => rfl); (case hg => rfl); (case hr => first | (go_simp; done) | (go_simp; rfl)); intro gb161 hg w5 hbox hb; have n0_ := Aside0.mk (below_step zQx7a0_ hb); have n1_ := Aside0.mk (hbox); have n2_ := Aside0.mk ((by rw [hg]; exact (below_size zQx7a0_) : w.heap.size ≤ gb161)); have n3_ := Aside0.mk ((by rw [hg]; exact (below_size zQx7a0_) : w.heap.size ≤ gb161)); clear HB; have HB := n0_; have BK161 := n1_; have GW161 := n2_; have GE161 := n3_; clear n0_ n1_ n2_ n3_; clear hb hbox hg; have hcz6_0 : w5.cell? ⟨gb161, 0, none⟩ = some (.string a1_0) := (blk_cell BK161.out 0).trans rfl; have hcz6_1 : w5.cell? ⟨gb161, 1, none⟩ = some (.int .i64 a1_1) := (blk_cell BK161.out 1).trans rfl; have hcz6_2 : w5.cell? ⟨gb161, 2, none⟩ = some (.int .i64 a1_2) := (blk_cell BK161.out 2).trans rfl; have hcz6_3 : w5.cell? ⟨gb161, 3, none⟩ = some (.int .i64 a1_3) := (blk_cell BK161.out 3).trans rfl; have hcz6_4 : w5.cell? ⟨gb161, 4, none⟩ = some (.int .i64 a1_4) := (blk_cell BK161.out 4).trans rfl; have hcz6_5 : w5.cell? ⟨gb161, 5, none⟩ = some (.int .i64 a1_5) := (blk_cell BK161.out 5).trans rfl; have hcz6_6 : w5.cell? ⟨gb161, 6, none⟩ = some (.int .i64 a1_6) := (blk_cell BK161.out 6).trans rfl; have hcz6_7 : w5.cell? ⟨gb161, 7, none⟩ = some (.bool a1_7) := (blk_cell BK161.out 7).trans rfl; have hfz6_0 := blk_frozen BK161.out 0; have hfz6_1 := blk_frozen BK161.out 1; have hfz6_2 := blk_frozen BK161.out 2; have hfz6_3 := blk_frozen BK161.out 3; have hfz6_4 := blk_frozen BK161.out 4; have hfz6_5 := blk_frozen BK161.out 5; have hfz6_6 := blk_frozen BK161.out 6; have hfz6_7 := blk_frozen BK161.out 7) | (go_at_call 23; (with_reducible refine (basculeref21_name.calls k a1_0 true _ A3.out).mono ?_); rintro e w7 ⟨rfl, hb⟩; have n0_ := Aside0.mk (blk_below (g := gb161) (o := .cells #[.string a1_0, .int .i64 a1_1, .int .i64 a1_2, .int .i64 a1_3, .int .i64 a1_4, .int .i64 a1_5, .int .i64 a1_6, .bool a1_7] 23 (0, 0)) zQx7a2_ hb); have n1_ := Aside0.mk (below_step zQx7a1_ hb); clear BK161; clear HB; have BK161 := n0_; have HB := n1_; clear n0_ n1_; (try clear hb); (try clear hb2); (try clear hk); (try clear hi))))
 go_loopg [5] k (fun kq v5 w' => ∃ (x5_1 : Int), v5 = .int .i64 x5_1 ∧ Aside0 (basculeref21_Error.l0 kq l0 x5_1 a1_0 a1_1 a1_2 a1_3 a1_4 a1_5 a1_6 a1_7 = some r) ∧ Aside0 (kq ≤ k) ∧ Aside0 (w'.heap[gb161]? = some (.cells #[.string a1_0, .int .i64 a1_1, .int .i64 a1_2, .int .i64 a1_3, .int .i64 a1_4, .int .i64 a1_5, .int .i64 a1_6, .bool a1_7] 23 (0, 0))) ∧ Aside0 (Below w.heap.size w w'))
 case atStart => exact ⟨(0), zQx7a5_, H', ⟨Nat.le_refl _⟩, ⟨zQx7a2_⟩, ⟨zQx7a1_⟩⟩
 case round =>
  clear H'
  try clear c1
  try clear p2
  try clear c4
  try clear hcz6_0
  try clear hcz6_1
  try clear hcz6_2
  try clear hcz6_3
  try clear hcz6_4
  try clear hcz6_5
  try clear hcz6_6
  try clear hcz6_7
  try clear hfz6_0
  try clear hfz6_1
  try clear hfz6_2
  try clear hfz6_3
  try clear hfz6_4
  try clear hfz6_5
  try clear hfz6_6
  try clear hfz6_7
  obtain ⟨x5_1, rfl, HA, HK1, BK161, HB⟩ := hrel
  cases gk with
  | zero => exact absurd HA.out (by simp [basculeref21_Error.l0])
  | succ k1 =>
   have H := HA.out
   clear HA
   simp only [basculeref21_Error.l0] at H
   by_cases c8 : x5_1 < (l0.length : Int)
   ·
    rw [if_pos c8] at H
    have c8b0 : decide (x5_1 < (l0.length : Int)) = true := decide_eq_true c8
    clear c8
    have c9 : 0 ≤ x5_1 := znQx7_
    rw [if_pos c9] at H
    have c9b0 : decide (0 ≤ x5_1) = true := decide_eq_true c9
    clear c9
    by_cases c10 : ((rd_T23 l0 x5_1).f0).toList = a1_0.toList
    ·
     rw [if_pos c10] at H
     have c10b0 : (((rd_T23 l0 x5_1).f0).toList == a1_0.toList) = true := beq_iff_eq.mpr c10
     have c10b1 : (((rd_T23 l0 x5_1).f0).toList != a1_0.toList) = false := bne_eq_false_iff_eq.mpr c10
     clear c10
     obtain rfl := Option.some.inj H
     have p163 : 0 ≤ (x5_1 : Int) := of_decide_eq_true zQx7a3_
     have q163 : x5_1 < (l0.length : Int) := of_decide_eq_true zQx7a3_
     obtain ⟨ad163, e163, hx163_0, hx163_1, hx163_2, hx163_3, hx163_4, hx163_5, hx163_6, hx163_7⟩ := at_T23 HR0.out x5_1 p163 q163
     cases e163
     replace hx163_0 := (HB.out.cell (World.block_lt_of_cell? w _ hx163_0)).trans hx163_0
     replace hx163_1 := (HB.out.cell (World.block_lt_of_cell? w _ hx163_1)).trans hx163_1
     replace hx163_2 := (HB.out.cell (World.block_lt_of_cell? w _ hx163_2)).trans hx163_2
     replace hx163_3 := (HB.out.cell (World.block_lt_of_cell? w _ hx163_3)).trans hx163_3
     replace hx163_4 := (HB.out.cell (World.block_lt_of_cell? w _ hx163_4)).trans hx163_4
     replace hx163_5 := (HB.out.cell (World.block_lt_of_cell? w _ hx163_5)).trans hx163_5
     replace hx163_6 := (HB.out.cell (World.block_lt_of_cell? w _ hx163_6)).trans hx163_6
     replace hx163_7 := (HB.out.cell (World.block_lt_of_cell? w _ hx163_7)).trans hx163_7
     replace p163 := eq_true p163
     replace q163 := eq_true q163
     have hcz11_0 : wr.cell? ⟨gb161, 0, none⟩ = some (.string a1_0) := (blk_cell BK161.out 0).trans rfl
     have hcz11_1 : wr.cell? ⟨gb161, 1, none⟩ = some (.int .i64 a1_1) := (blk_cell BK161.out 1).trans rfl
     have hcz11_2 : wr.cell? ⟨gb161, 2, none⟩ = some (.int .i64 a1_2) := (blk_cell BK161.out 2).trans rfl
     have hcz11_3 : wr.cell? ⟨gb161, 3, none⟩ = some (.int .i64 a1_3) := (blk_cell BK161.out 3).trans rfl
     have hcz11_4 : wr.cell? ⟨gb161, 4, none⟩ = some (.int .i64 a1_4) := (blk_cell BK161.out 4).trans rfl
     have hcz11_5 : wr.cell? ⟨gb161, 5, none⟩ = some (.int .i64 a1_5) := (blk_cell BK161.out 5).trans rfl
     have hcz11_6 : wr.cell? ⟨gb161, 6, none⟩ = some (.int .i64 a1_6) := (blk_cell BK161.out 6).trans rfl
     have hcz11_7 : wr.cell? ⟨gb161, 7, none⟩ = some (.bool a1_7) := (blk_cell BK161.out 7).trans rfl
     have hfz11_0 := blk_frozen BK161.out 0
     have hfz11_1 := blk_frozen BK161.out 1
     have hfz11_2 := blk_frozen BK161.out 2
     have hfz11_3 := blk_frozen BK161.out 3
     have hfz11_4 := blk_frozen BK161.out 4
     have hfz11_5 := blk_frozen BK161.out 5
     have hfz11_6 := blk_frozen BK161.out 6
     have hfz11_7 := blk_frozen BK161.out 7
     go_wp2
     repeat (go_quiet (fail); try go_wp2)
     go_ret
     exact ⟨zQx7a4_, zQx7a1_⟩
    rw [if_neg c10] at H
    have c10b0 : (((rd_T23 l0 x5_1).f0).toList == a1_0.toList) = false := beq_eq_false_iff_ne.mpr c10
    have c10b1 : (((rd_T23 l0 x5_1).f0).toList != a1_0.toList) = true := bne_iff_ne.mpr c10
    have H' := Aside0.mk H
    clear H
    have p163 : 0 ≤ (x5_1 : Int) := of_decide_eq_true zQx7a3_
    have q163 : x5_1 < (l0.length : Int) := of_decide_eq_true zQx7a3_
    obtain ⟨ad163, e163, hx163_0, hx163_1, hx163_2, hx163_3, hx163_4, hx163_5, hx163_6, hx163_7⟩ := at_T23 HR0.out x5_1 p163 q163
    cases e163
    replace hx163_0 := (HB.out.cell (World.block_lt_of_cell? w _ hx163_0)).trans hx163_0
    replace hx163_1 := (HB.out.cell (World.block_lt_of_cell? w _ hx163_1)).trans hx163_1
    replace hx163_2 := (HB.out.cell (World.block_lt_of_cell? w _ hx163_2)).trans hx163_2
    replace hx163_3 := (HB.out.cell (World.block_lt_of_cell? w _ hx163_3)).trans hx163_3
    replace hx163_4 := (HB.out.cell (World.block_lt_of_cell? w _ hx163_4)).trans hx163_4
    replace hx163_5 := (HB.out.cell (World.block_lt_of_cell? w _ hx163_5)).trans hx163_5
    replace hx163_6 := (HB.out.cell (World.block_lt_of_cell? w _ hx163_6)).trans hx163_6
    replace hx163_7 := (HB.out.cell (World.block_lt_of_cell? w _ hx163_7)).trans hx163_7
    replace p163 := eq_true p163
    replace q163 := eq_true q163
    have hcz12_0 : wr.cell? ⟨gb161, 0, none⟩ = some (.string a1_0) := (blk_cell BK161.out 0).trans rfl
    have hcz12_1 : wr.cell? ⟨gb161, 1, none⟩ = some (.int .i64 a1_1) := (blk_cell BK161.out 1).trans rfl
    have hcz12_2 : wr.cell? ⟨gb161, 2, none⟩ = some (.int .i64 a1_2) := (blk_cell BK161.out 2).trans rfl
    have hcz12_3 : wr.cell? ⟨gb161, 3, none⟩ = some (.int .i64 a1_3) := (blk_cell BK161.out 3).trans rfl
    have hcz12_4 : wr.cell? ⟨gb161, 4, none⟩ = some (.int .i64 a1_4) := (blk_cell BK161.out 4).trans rfl
    have hcz12_5 : wr.cell? ⟨gb161, 5, none⟩ = some (.int .i64 a1_5) := (blk_cell BK161.out 5).trans rfl
    have hcz12_6 : wr.cell? ⟨gb161, 6, none⟩ = some (.int .i64 a1_6) := (blk_cell BK161.out 6).trans rfl
    have hcz12_7 : wr.cell? ⟨gb161, 7, none⟩ = some (.bool a1_7) := (blk_cell BK161.out 7).trans rfl
    have hfz12_0 := blk_frozen BK161.out 0
    have hfz12_1 := blk_frozen BK161.out 1
    have hfz12_2 := blk_frozen BK161.out 2
    have hfz12_3 := blk_frozen BK161.out 3
    have hfz12_4 := blk_frozen BK161.out 4
    have hfz12_5 := blk_frozen BK161.out 5
    have hfz12_6 := blk_frozen BK161.out 6
    have hfz12_7 := blk_frozen BK161.out 7
    go_wp2
    repeat (go_quiet (fail); try go_wp2)
    go_roundg k1
    case measure => have := HK1.out; omega
    case rel => exact ⟨(wrap64 (x5_1 + 1)), zQx7a5_, H', ⟨by have := HK1.out; omega⟩, ⟨zQx7a2_⟩, ⟨zQx7a1_⟩⟩
   rw [if_neg c8] at H
   have c8b0 : decide (x5_1 < (l0.length : Int)) = false := decide_eq_false c8
   clear c8
   replace H := Option.bind_eq_some_iff.mp H
   obtain ⟨t164, A130, H⟩ := H
   replace H : (if t164 = true then (if (l0.length : Int) ≥ 64 then (some 6) else (some 0)) else (some 220)) = some r := H
   have A13 := Aside0.mk A130
   clear A130
   by_cases c14 : t164 = true
   rotate_left
   ·
    replace c14 := Bool.eq_false_iff.mpr c14
    subst c14
    have H1 : (some 220) = some r := by rw [if_neg (show ¬ (false = true) by decide)] at H; exact H
    clear H
    have H := H1
    clear H1
    obtain rfl := Option.some.inj H
    have hcz20_0 : wr.cell? ⟨gb161, 0, none⟩ = some (.string a1_0) := (blk_cell BK161.out 0).trans rfl
    have hcz20_1 : wr.cell? ⟨gb161, 1, none⟩ = some (.int .i64 a1_1) := (blk_cell BK161.out 1).trans rfl
    have hcz20_2 : wr.cell? ⟨gb161, 2, none⟩ = some (.int .i64 a1_2) := (blk_cell BK161.out 2).trans rfl
    have hcz20_3 : wr.cell? ⟨gb161, 3, none⟩ = some (.int .i64 a1_3) := (blk_cell BK161.out 3).trans rfl
    have hcz20_4 : wr.cell? ⟨gb161, 4, none⟩ = some (.int .i64 a1_4) := (blk_cell BK161.out 4).trans rfl
    have hcz20_5 : wr.cell? ⟨gb161, 5, none⟩ = some (.int .i64 a1_5) := (blk_cell BK161.out 5).trans rfl
    have hcz20_6 : wr.cell? ⟨gb161, 6, none⟩ = some (.int .i64 a1_6) := (blk_cell BK161.out 6).trans rfl
    have hcz20_7 : wr.cell? ⟨gb161, 7, none⟩ = some (.bool a1_7) := (blk_cell BK161.out 7).trans rfl
    have hfz20_0 := blk_frozen BK161.out 0
    have hfz20_1 := blk_frozen BK161.out 1
    have hfz20_2 := blk_frozen BK161.out 2
    have hfz20_3 := blk_frozen BK161.out 3
    have hfz20_4 := blk_frozen BK161.out 4
    have hfz20_5 := blk_frozen BK161.out 5
    have hfz20_6 := blk_frozen BK161.out 6
    have hfz20_7 := blk_frozen BK161.out 7
    go_wp2_with (first | (go_at_call 24; (with_reducible refine (basculeref21_Range.calls a1_0 a1_1 a1_2 a1_3 a1_4 a1_5 a1_6 a1_7 false _ A13.out).mono ?_); rintro e w21 ⟨rfl, hb⟩; have n0_ := Aside0.mk (blk_below (g := gb161) (o := .cells #[.string a1_0, .int .i64 a1_1, .int .i64 a1_2, .int .i64 a1_3, .int .i64 a1_4, .int .i64 a1_5, .int .i64 a1_6, .bool a1_7] 23 (0, 0)) zQx7a2_ hb); have n1_ := Aside0.mk (below_step zQx7a1_ hb); clear BK161; clear HB; have BK161 := n0_; have HB := n1_; clear n0_ n1_; (try clear hb); (try clear hb2); (try clear hk); (try clear hi)))
    repeat (go_quiet (first | (go_at_call 24; (with_reducible refine (basculeref21_Range.calls a1_0 a1_1 a1_2 a1_3 a1_4 a1_5 a1_6 a1_7 false _ A13.out).mono ?_); rintro e w21 ⟨rfl, hb⟩; have n0_ := Aside0.mk (blk_below (g := gb161) (o := .cells #[.string a1_0, .int .i64 a1_1, .int .i64 a1_2, .int .i64 a1_3, .int .i64 a1_4, .int .i64 a1_5, .int .i64 a1_6, .bool a1_7] 23 (0, 0)) zQx7a2_ hb); have n1_ := Aside0.mk (below_step zQx7a1_ hb); clear BK161; clear HB; have BK161 := n0_; have HB := n1_; clear n0_ n1_; (try clear hb); (try clear hb2); (try clear hk); (try clear hi))); try go_wp2_with (first | (go_at_call 24; (with_reducible refine (basculeref21_Range.calls a1_0 a1_1 a1_2 a1_3 a1_4 a1_5 a1_6 a1_7 false _ A13.out).mono ?_); rintro e w21 ⟨rfl, hb⟩; have n0_ := Aside0.mk (blk_below (g := gb161) (o := .cells #[.string a1_0, .int .i64 a1_1, .int .i64 a1_2, .int .i64 a1_3, .int .i64 a1_4, .int .i64 a1_5, .int .i64 a1_6, .bool a1_7] 23 (0, 0)) zQx7a2_ hb); have n1_ := Aside0.mk (below_step zQx7a1_ hb); clear BK161; clear HB; have BK161 := n0_; have HB := n1_; clear n0_ n1_; (try clear hb); (try clear hb2); (try clear hk); (try clear hi))))
    go_ret
    exact ⟨zQx7a4_, zQx7a1_⟩
   subst c14
   have H1 : (if (l0.length : Int) ≥ 64 then (some 6) else (some 0)) = some r := by rw [if_pos rfl] at H; exact H
   clear H
   have H := H1
   clear H1
   by_cases c15 : (l0.length : Int) ≥ 64
   ·
    rw [if_pos c15] at H
    have c15b0 : decide (64 ≤ (l0.length : Int)) = true := decide_eq_true c15
    have c15b1 : decide (64 ≤ l0.length) = true := decide_eq_true (by omega)
    clear c15
    obtain rfl := Option.some.inj H
    have hcz16_0 : wr.cell? ⟨gb161, 0, none⟩ = some (.string a1_0) := (blk_cell BK161.out 0).trans rfl
    have hcz16_1 : wr.cell? ⟨gb161, 1, none⟩ = some (.int .i64 a1_1) := (blk_cell BK161.out 1).trans rfl
    have hcz16_2 : wr.cell? ⟨gb161, 2, none⟩ = some (.int .i64 a1_2) := (blk_cell BK161.out 2).trans rfl
    have hcz16_3 : wr.cell? ⟨gb161, 3, none⟩ = some (.int .i64 a1_3) := (blk_cell BK161.out 3).trans rfl
    have hcz16_4 : wr.cell? ⟨gb161, 4, none⟩ = some (.int .i64 a1_4) := (blk_cell BK161.out 4).trans rfl
    have hcz16_5 : wr.cell? ⟨gb161, 5, none⟩ = some (.int .i64 a1_5) := (blk_cell BK161.out 5).trans rfl
    have hcz16_6 : wr.cell? ⟨gb161, 6, none⟩ = some (.int .i64 a1_6) := (blk_cell BK161.out 6).trans rfl
    have hcz16_7 : wr.cell? ⟨gb161, 7, none⟩ = some (.bool a1_7) := (blk_cell BK161.out 7).trans rfl
    have hfz16_0 := blk_frozen BK161.out 0
    have hfz16_1 := blk_frozen BK161.out 1
    have hfz16_2 := blk_frozen BK161.out 2
    have hfz16_3 := blk_frozen BK161.out 3
    have hfz16_4 := blk_frozen BK161.out 4
    have hfz16_5 := blk_frozen BK161.out 5
    have hfz16_6 := blk_frozen BK161.out 6
    have hfz16_7 := blk_frozen BK161.out 7
    go_wp2_with (first | (go_at_call 24; (with_reducible refine (basculeref21_Range.calls a1_0 a1_1 a1_2 a1_3 a1_4 a1_5 a1_6 a1_7 true _ A13.out).mono ?_); rintro e w17 ⟨rfl, hb⟩; have n0_ := Aside0.mk (blk_below (g := gb161) (o := .cells #[.string a1_0, .int .i64 a1_1, .int .i64 a1_2, .int .i64 a1_3, .int .i64 a1_4, .int .i64 a1_5, .int .i64 a1_6, .bool a1_7] 23 (0, 0)) zQx7a2_ hb); have n1_ := Aside0.mk (below_step zQx7a1_ hb); clear BK161; clear HB; have BK161 := n0_; have HB := n1_; clear n0_ n1_; (try clear hb); (try clear hb2); (try clear hk); (try clear hi)))
    repeat (go_quiet (first | (go_at_call 24; (with_reducible refine (basculeref21_Range.calls a1_0 a1_1 a1_2 a1_3 a1_4 a1_5 a1_6 a1_7 true _ A13.out).mono ?_); rintro e w17 ⟨rfl, hb⟩; have n0_ := Aside0.mk (blk_below (g := gb161) (o := .cells #[.string a1_0, .int .i64 a1_1, .int .i64 a1_2, .int .i64 a1_3, .int .i64 a1_4, .int .i64 a1_5, .int .i64 a1_6, .bool a1_7] 23 (0, 0)) zQx7a2_ hb); have n1_ := Aside0.mk (below_step zQx7a1_ hb); clear BK161; clear HB; have BK161 := n0_; have HB := n1_; clear n0_ n1_; (try clear hb); (try clear hb2); (try clear hk); (try clear hi))); try go_wp2_with (first | (go_at_call 24; (with_reducible refine (basculeref21_Range.calls a1_0 a1_1 a1_2 a1_3 a1_4 a1_5 a1_6 a1_7 true _ A13.out).mono ?_); rintro e w17 ⟨rfl, hb⟩; have n0_ := Aside0.mk (blk_below (g := gb161) (o := .cells #[.string a1_0, .int .i64 a1_1, .int .i64 a1_2, .int .i64 a1_3, .int .i64 a1_4, .int .i64 a1_5, .int .i64 a1_6, .bool a1_7] 23 (0, 0)) zQx7a2_ hb); have n1_ := Aside0.mk (below_step zQx7a1_ hb); clear BK161; clear HB; have BK161 := n0_; have HB := n1_; clear n0_ n1_; (try clear hb); (try clear hb2); (try clear hk); (try clear hi))))
    go_ret
    exact ⟨zQx7a4_, zQx7a1_⟩
   rw [if_neg c15] at H
   have c15b0 : decide (64 ≤ (l0.length : Int)) = false := decide_eq_false c15
   have c15b1 : decide (64 ≤ l0.length) = false := decide_eq_false (by omega)
   clear c15
   obtain rfl := Option.some.inj H
   have hcz18_0 : wr.cell? ⟨gb161, 0, none⟩ = some (.string a1_0) := (blk_cell BK161.out 0).trans rfl
   have hcz18_1 : wr.cell? ⟨gb161, 1, none⟩ = some (.int .i64 a1_1) := (blk_cell BK161.out 1).trans rfl
   have hcz18_2 : wr.cell? ⟨gb161, 2, none⟩ = some (.int .i64 a1_2) := (blk_cell BK161.out 2).trans rfl
   have hcz18_3 : wr.cell? ⟨gb161, 3, none⟩ = some (.int .i64 a1_3) := (blk_cell BK161.out 3).trans rfl
   have hcz18_4 : wr.cell? ⟨gb161, 4, none⟩ = some (.int .i64 a1_4) := (blk_cell BK161.out 4).trans rfl
   have hcz18_5 : wr.cell? ⟨gb161, 5, none⟩ = some (.int .i64 a1_5) := (blk_cell BK161.out 5).trans rfl
   have hcz18_6 : wr.cell? ⟨gb161, 6, none⟩ = some (.int .i64 a1_6) := (blk_cell BK161.out 6).trans rfl
   have hcz18_7 : wr.cell? ⟨gb161, 7, none⟩ = some (.bool a1_7) := (blk_cell BK161.out 7).trans rfl
   have hfz18_0 := blk_frozen BK161.out 0
   have hfz18_1 := blk_frozen BK161.out 1
   have hfz18_2 := blk_frozen BK161.out 2
   have hfz18_3 := blk_frozen BK161.out 3
   have hfz18_4 := blk_frozen BK161.out 4
   have hfz18_5 := blk_frozen BK161.out 5
   have hfz18_6 := blk_frozen BK161.out 6
   have hfz18_7 := blk_frozen BK161.out 7
   go_wp2_with (first | (go_at_call 24; (with_reducible refine (basculeref21_Range.calls a1_0 a1_1 a1_2 a1_3 a1_4 a1_5 a1_6 a1_7 true _ A13.out).mono ?_); rintro e w19 ⟨rfl, hb⟩; have n0_ := Aside0.mk (blk_below (g := gb161) (o := .cells #[.string a1_0, .int .i64 a1_1, .int .i64 a1_2, .int .i64 a1_3, .int .i64 a1_4, .int .i64 a1_5, .int .i64 a1_6, .bool a1_7] 23 (0, 0)) zQx7a2_ hb); have n1_ := Aside0.mk (below_step zQx7a1_ hb); clear BK161; clear HB; have BK161 := n0_; have HB := n1_; clear n0_ n1_; (try clear hb); (try clear hb2); (try clear hk); (try clear hi)))
   repeat (go_quiet (first | (go_at_call 24; (with_reducible refine (basculeref21_Range.calls a1_0 a1_1 a1_2 a1_3 a1_4 a1_5 a1_6 a1_7 true _ A13.out).mono ?_); rintro e w19 ⟨rfl, hb⟩; have n0_ := Aside0.mk (blk_below (g := gb161) (o := .cells #[.string a1_0, .int .i64 a1_1, .int .i64 a1_2, .int .i64 a1_3, .int .i64 a1_4, .int .i64 a1_5, .int .i64 a1_6, .bool a1_7] 23 (0, 0)) zQx7a2_ hb); have n1_ := Aside0.mk (below_step zQx7a1_ hb); clear BK161; clear HB; have BK161 := n0_; have HB := n1_; clear n0_ n1_; (try clear hb); (try clear hb2); (try clear hk); (try clear hi))); try go_wp2_with (first | (go_at_call 24; (with_reducible refine (basculeref21_Range.calls a1_0 a1_1 a1_2 a1_3 a1_4 a1_5 a1_6 a1_7 true _ A13.out).mono ?_); rintro e w19 ⟨rfl, hb⟩; have n0_ := Aside0.mk (blk_below (g := gb161) (o := .cells #[.string a1_0, .int .i64 a1_1, .int .i64 a1_2, .int .i64 a1_3, .int .i64 a1_4, .int .i64 a1_5, .int .i64 a1_6, .bool a1_7] 23 (0, 0)) zQx7a2_ hb); have n1_ := Aside0.mk (below_step zQx7a1_ hb); clear BK161; clear HB; have BK161 := n0_; have HB := n1_; clear n0_ n1_; (try clear hb); (try clear hb2); (try clear hk); (try clear hi))))
   go_ret
   exact ⟨zQx7a4_, zQx7a1_⟩
def basculeref22_Row.f (k : Nat) (a0_0 : ByteArray) (a0_1 : Int) (a0_2 : Int) (a0_3 : Int) (a0_4 : Int) (a0_5 : Int) (a0_6 : Int) (a0_7 : Bool) : Option (Bool) := (basculeref21_Error.f k ([] : List (S23)) a0_0 a0_1 a0_2 a0_3 a0_4 a0_5 a0_6 a0_7).bind fun t166 => (some (t166 == 0))
set_option maxHeartbeats 8000000 in
set_option maxRecDepth 100000 in
theorem basculeref22_Row.calls (k : Nat) (a0_0 : ByteArray) (a0_1 : Int) (a0_2 : Int) (a0_3 : Int) (a0_4 : Int) (a0_5 : Int) (a0_6 : Int) (a0_7 : Bool) (r : Bool) (w : World) (h : basculeref22_Row.f k a0_0 a0_1 a0_2 a0_3 a0_4 a0_5 a0_6 a0_7 = some r) :
  Calls Tryz.prog 6 #[.agg #[.string a0_0, .int .i64 a0_1, .int .i64 a0_2, .int .i64 a0_3, .int .i64 a0_4, .int .i64 a0_5, .int .i64 a0_6, .bool a0_7]] w fun e w' => e = .returned (.bool r) ∧ Below w.heap.size w w' := by
 have hu23 := Tryz.underlying23
 have HB := Aside0.mk (Below.refl w.heap.size w)
 have H : ((basculeref21_Error.f k ([] : List (S23)) a0_0 a0_1 a0_2 a0_3 a0_4 a0_5 a0_6 a0_7).bind fun t166 => (some (t166 == 0))) = some r := h
 clear h
 replace H := Option.bind_eq_some_iff.mp H
 obtain ⟨t166, A20, H⟩ := H
 replace H : (some (t166 == 0)) = some r := H
 have A2 := Aside0.mk A20
 clear A20
 obtain rfl := Option.some.inj H
 go_enter Tryz.func6, Tryz.ntmps6
 go_wp2_with (first | ((with_reducible refine gate_dst (N := 1) rfl ?_); refine box_event ?hg (N := 1) ?hd (cs := #[.string a0_0, .int .i64 a0_1, .int .i64 a0_2, .int .i64 a0_3, .int .i64 a0_4, .int .i64 a0_5, .int .i64 a0_6, .bool a0_7]) (t := 23) ?hr ?_; (case hd => rfl); (case hg => rfl); (case hr => first | (go_simp; done) | (go_simp; rfl)); intro gb165 hg w3 hbox hb; have n0_ := Aside0.mk (below_step zQx7a0_ hb); have n1_ := Aside0.mk (hbox); have n2_ := Aside0.mk ((by rw [hg]; exact (below_size zQx7a0_) : w.heap.size ≤ gb165)); have n3_ := Aside0.mk ((by rw [hg]; exact (below_size zQx7a0_) : w.heap.size ≤ gb165)); clear HB; have HB := n0_; have BK165 := n1_; have GW165 := n2_; have GE165 := n3_; clear n0_ n1_ n2_ n3_; clear hb hbox hg; have hcz4_0 : w3.cell? ⟨gb165, 0, none⟩ = some (.string a0_0) := (blk_cell BK165.out 0).trans rfl; have hcz4_1 : w3.cell? ⟨gb165, 1, none⟩ = some (.int .i64 a0_1) := (blk_cell BK165.out 1).trans rfl; have hcz4_2 : w3.cell? ⟨gb165, 2, none⟩ = some (.int .i64 a0_2) := (blk_cell BK165.out 2).trans rfl; have hcz4_3 : w3.cell? ⟨gb165, 3, none⟩ = some (.int .i64 a0_3) := (blk_cell BK165.out 3).trans rfl; have hcz4_4 : w3.cell? ⟨gb165, 4, none⟩ = some (.int .i64 a0_4) := (blk_cell BK165.out 4).trans rfl; have hcz4_5 : w3.cell? ⟨gb165, 5, none⟩ = some (.int .i64 a0_5) := (blk_cell BK165.out 5).trans rfl; have hcz4_6 : w3.cell? ⟨gb165, 6, none⟩ = some (.int .i64 a0_6) := (blk_cell BK165.out 6).trans rfl; have hcz4_7 : w3.cell? ⟨gb165, 7, none⟩ = some (.bool a0_7) := (blk_cell BK165.out 7).trans rfl; have hfz4_0 := blk_frozen BK165.out 0; have hfz4_1 := blk_frozen BK165.out 1; have hfz4_2 := blk_frozen BK165.out 2; have hfz4_3 := blk_frozen BK165.out 3; have hfz4_4 := blk_frozen BK165.out 4; have hfz4_5 := blk_frozen BK165.out 5; have hfz4_6 := blk_frozen BK165.out 6; have hfz4_7 := blk_frozen BK165.out 7) | ((with_reducible refine gate_callee (f := 15) rfl ?_); refine goesL_ (some 4) rfl rfl Tryz.func15 (by kernel_rfl) rfl #[.slice none 0 0, .agg #[.string a0_0, .int .i64 a0_1, .int .i64 a0_2, .int .i64 a0_3, .int .i64 a0_4, .int .i64 a0_5, .int .i64 a0_6, .bool a0_7]] rfl (by (try simp only [List.map_toArray, List.map_cons, List.map_nil]); first | done | rfl | (simp only [List.length_drop, List.length_take]; rfl)) ?_; (refine (basculeref21_Error.calls k _ _ ([] : List (S23)) a0_0 a0_1 a0_2 a0_3 a0_4 a0_5 a0_6 a0_7 t166 _ ?side1 ?side2 A2.out).mono ?_); (case side1 => exact Kd.C_nil _ _); (case side2 => exact Nat.le_refl _); rintro e w5 ⟨rfl, hb⟩; refine ⟨_, rfl, ?_⟩; have n0_ := Aside0.mk (blk_below (g := gb165) (o := .cells #[.string a0_0, .int .i64 a0_1, .int .i64 a0_2, .int .i64 a0_3, .int .i64 a0_4, .int .i64 a0_5, .int .i64 a0_6, .bool a0_7] 23 (0, 0)) (by (with_reducible repeat (first | refine blk_drewN ?_ _ | refine blk_drew ?_ | refine blk_alloc ?_ _)); exact BK165.out) hb); have n1_ := Aside0.mk (below_step zQx7a6_ hb); clear BK165; clear HB; have BK165 := n0_; have HB := n1_; clear n0_ n1_; (try clear hb); (try clear hb2); (try clear hk); (try clear hi)))
 go_ret
 exact ⟨zQx7a4_, zQx7a6_⟩
end Go.Proofs.YtenbkjeflancaaaGreatDoor.Q
