/- What the proof of RetainFew leans on: Qx2. -/
import Derived.Test.YtdchcdagjnaicaaDoorSRetainFewQx0
namespace Go.Proofs.YtdchcdagjnaicaaDoor.Q
open Go.RowKit Go.Proofs.YtdchcdagjnaicaaDoorW.PrintWords Go.Proofs.YtdchcdagjnaicaaDoorW.PrintLast Go.Proofs.YtdchcdagjnaicaaDoorW.PrintMore
set_option linter.unusedVariables false
set_option linter.unusedSimpArgs false
theorem zQx2a0_ {P_ : Prop} (h_ : P_ := by first | (with_reducible assumption) | assumption) : P_ := h_
theorem zQx2a1_ {P_ : Prop} (h_ : P_ := by repeat (first | exact Drawn0.refl _ | apply Drawn0.step)) : P_ := h_
theorem zQx2a2_ {P_ : Prop} (h_ : P_ := by first | rfl | (simp; done) | (simp [*]; done)) : P_ := h_
theorem znQx2_ {X_ : Prop} [Decidable X_] (h_ : ¬ X_ → False := by intro c_; rw [if_neg c_] at H; exact absurd H (by simp)) : X_ := Decidable.byContradiction h_
def basculelaw14_few.l0 : Nat → List (S27) → Int → Option (Bool)
  | 0, _, _ => none
  | k + 1, x0, x3 => if x3 < (x0.length : Int) then (if 0 ≤ x3 then (if (((rd_T27 x0 x3).f0).size : Int) > 100 then (some false) else (if (((rd_T27 x0 x3).f1).size : Int) > 1000 then (some false) else (basculelaw14_few.l0 k x0 (wrap64 (x3 + 1))))) else (none)) else (some true)
def basculelaw14_few.f (k : Nat) (l0 : List (S27)) : Option (Bool) := if (l0.length : Int) > 100 then (some false) else (basculelaw14_few.l0 k l0 0)
set_option maxHeartbeats 8000000 in
set_option maxRecDepth 100000 in
theorem basculelaw14_few.calls (k : Nat) (A0 : Option Addr) (c0 : Nat) (l0 : List (S27)) (r : Bool) (w : World) (hr0 : Kd.C k27 w A0 l0.length l0) (hc0 : l0.length ≤ c0) (h : basculelaw14_few.f k l0 = some r) :
    Calls Tryd.prog 7 #[.slice A0 l0.length c0] w fun e w' => e = .returned (.bool r) ∧ Drawn0 w w' := by
  have HR0 := Aside0.mk hr0
  have HC0 := Aside0.mk hc0
  clear hr0 hc0
  have H : (if (l0.length : Int) > 100 then (some false) else (basculelaw14_few.l0 k l0 0)) = some r := h
  clear h
  by_cases c2 : (l0.length : Int) > 100
  · rw [if_pos c2] at H
    have c2b0 : decide (100 < (l0.length : Int)) = true := decide_eq_true c2
    have c2b1 : decide (100 < l0.length) = true := decide_eq_true (by omega)
    clear c2
    obtain rfl := Option.some.inj H
    go_enter Tryd.func7, Tryd.ntmps7
    go_wp2
    go_ret
    exact ⟨zQx2a2_, zQx2a1_⟩
  rw [if_neg c2] at H
  have c2b0 : decide (100 < (l0.length : Int)) = false := decide_eq_false c2
  have c2b1 : decide (100 < l0.length) = false := decide_eq_false (by omega)
  clear c2
  have H' := Aside0.mk H
  clear H
  go_enter Tryd.func7, Tryd.ntmps7
  go_wp2
  go_loopg [3] k (fun kq v3 w' => ∃ (x3_1 : Int), v3 = .int .i64 x3_1 ∧ Aside0 (basculelaw14_few.l0 kq l0 x3_1 = some r) ∧ Aside0 (kq ≤ k) ∧ Drawn0 w w')
  case atStart => exact ⟨(0), zQx2a2_, H', ⟨Nat.le_refl _⟩, zQx2a1_⟩
  case round =>
    clear H'
    try clear c2
    try clear c2b0
    try clear c2b1
    try clear p2
    obtain ⟨x3_1, rfl, HA, HK1, ⟨m1, rfl⟩⟩ := hrel
    cases gk with
    | zero => exact absurd HA.out (by simp [basculelaw14_few.l0])
    | succ k1 =>
      have H := HA.out
      clear HA
      simp only [basculelaw14_few.l0] at H
      by_cases c3 : x3_1 < (l0.length : Int)
      rotate_left
      · rw [if_neg c3] at H
        have c3b0 : decide (x3_1 < (l0.length : Int)) = false := decide_eq_false c3
        clear c3
        obtain rfl := Option.some.inj H
        go_wp2
        go_ret
        exact ⟨zQx2a2_, zQx2a1_⟩
      rw [if_pos c3] at H
      have c3b0 : decide (x3_1 < (l0.length : Int)) = true := decide_eq_true c3
      clear c3
      have c4 : 0 ≤ x3_1 := znQx2_
      rw [if_pos c4] at H
      have c4b0 : decide (0 ≤ x3_1) = true := decide_eq_true c4
      clear c4
      by_cases c5 : (((rd_T27 l0 x3_1).f0).size : Int) > 100
      · rw [if_pos c5] at H
        have c5b0 : decide (100 < (((rd_T27 l0 x3_1).f0).size : Int)) = true := decide_eq_true c5
        have c5b1 : decide (100 < ((rd_T27 l0 x3_1).f0).size) = true := decide_eq_true (by omega)
        clear c5
        obtain rfl := Option.some.inj H
        have p101 : 0 ≤ (x3_1 : Int) := of_decide_eq_true zQx2a0_
        have q101 : x3_1 < (l0.length : Int) := of_decide_eq_true zQx2a0_
        obtain ⟨ad101, e101, hx101_0, hx101_1, hx101_2, hx101_3⟩ := at_T27 HR0.out x3_1 p101 q101
        cases e101
        replace p101 := eq_true p101
        replace q101 := eq_true q101
        go_wp2
        go_ret
        exact ⟨zQx2a2_, zQx2a1_⟩
      rw [if_neg c5] at H
      have c5b0 : decide (100 < (((rd_T27 l0 x3_1).f0).size : Int)) = false := decide_eq_false c5
      have c5b1 : decide (100 < ((rd_T27 l0 x3_1).f0).size) = false := decide_eq_false (by omega)
      clear c5
      by_cases c6 : (((rd_T27 l0 x3_1).f1).size : Int) > 1000
      · rw [if_pos c6] at H
        have c6b0 : decide (1000 < (((rd_T27 l0 x3_1).f1).size : Int)) = true := decide_eq_true c6
        have c6b1 : decide (1000 < ((rd_T27 l0 x3_1).f1).size) = true := decide_eq_true (by omega)
        clear c6
        obtain rfl := Option.some.inj H
        have p101 : 0 ≤ (x3_1 : Int) := of_decide_eq_true zQx2a0_
        have q101 : x3_1 < (l0.length : Int) := of_decide_eq_true zQx2a0_
        obtain ⟨ad101, e101, hx101_0, hx101_1, hx101_2, hx101_3⟩ := at_T27 HR0.out x3_1 p101 q101
        cases e101
        replace p101 := eq_true p101
        replace q101 := eq_true q101
        have p102 : 0 ≤ (x3_1 : Int) := of_decide_eq_true zQx2a0_
        have q102 : x3_1 < (l0.length : Int) := of_decide_eq_true zQx2a0_
        obtain ⟨ad102, e102, hx102_0, hx102_1, hx102_2, hx102_3⟩ := at_T27 HR0.out x3_1 p102 q102
        obtain rfl : ad101 = ad102 := (by injection e102)
        replace p102 := eq_true p102
        replace q102 := eq_true q102
        go_wp2
        go_ret
        exact ⟨zQx2a2_, zQx2a1_⟩
      rw [if_neg c6] at H
      have c6b0 : decide (1000 < (((rd_T27 l0 x3_1).f1).size : Int)) = false := decide_eq_false c6
      have c6b1 : decide (1000 < ((rd_T27 l0 x3_1).f1).size) = false := decide_eq_false (by omega)
      clear c6
      have H' := Aside0.mk H
      clear H
      have p101 : 0 ≤ (x3_1 : Int) := of_decide_eq_true zQx2a0_
      have q101 : x3_1 < (l0.length : Int) := of_decide_eq_true zQx2a0_
      obtain ⟨ad101, e101, hx101_0, hx101_1, hx101_2, hx101_3⟩ := at_T27 HR0.out x3_1 p101 q101
      cases e101
      replace p101 := eq_true p101
      replace q101 := eq_true q101
      have p102 : 0 ≤ (x3_1 : Int) := of_decide_eq_true zQx2a0_
      have q102 : x3_1 < (l0.length : Int) := of_decide_eq_true zQx2a0_
      obtain ⟨ad102, e102, hx102_0, hx102_1, hx102_2, hx102_3⟩ := at_T27 HR0.out x3_1 p102 q102
      obtain rfl : ad101 = ad102 := (by injection e102)
      replace p102 := eq_true p102
      replace q102 := eq_true q102
      go_wp2
      go_roundg k1
      case measure => have := HK1.out; omega
      case rel => exact ⟨(wrap64 (x3_1 + 1)), zQx2a2_, H', ⟨by have := HK1.out; omega⟩, zQx2a1_⟩
-- NOT PRINTED: function 8 (retain_New)
-- NOT PRINTED: function 9 (retain_Kept_Put)
-- NOT PRINTED: function 10 (retain_Kept_At)
-- NOT PRINTED: function 11 (basculelaw14_awake)
end Go.Proofs.YtdchcdagjnaicaaDoor.Q
