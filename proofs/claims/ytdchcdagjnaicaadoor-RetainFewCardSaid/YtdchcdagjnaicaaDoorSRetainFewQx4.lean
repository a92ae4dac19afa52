/- What the proof of RetainFew leans on: Qx4. -/
import Derived.Test.YtdchcdagjnaicaaDoorSRetainFewQx0
import Derived.Test.YtdchcdagjnaicaaDoorSRetainFewQx2
namespace Go.Proofs.YtdchcdagjnaicaaDoor.Q
open Go.RowKit Go.Proofs.YtdchcdagjnaicaaDoorW.PrintWords Go.Proofs.YtdchcdagjnaicaaDoorW.PrintLast Go.Proofs.YtdchcdagjnaicaaDoorW.PrintMore
set_option linter.unusedVariables false
set_option linter.unusedSimpArgs false
attribute [local go_sem high] eqA27
theorem zQx4a0_ {P_ : Prop} (h_ : P_ := by first | (with_reducible assumption) | assumption) : P_ := h_
theorem zQx4a1_ {P_ : Prop} (h_ : P_ := by repeat (first | exact Drawn0.refl _ | apply Drawn0.step)) : P_ := h_
theorem zQx4a2_ {P_ : Prop} (h_ : P_ := by first | rfl | (simp; done) | (simp [*]; done)) : P_ := h_
theorem znQx4_ {X_ : Prop} [Decidable X_] (h_ : ¬ X_ → False := by intro c_; rw [if_neg c_] at H; exact absurd H (by simp)) : X_ := Decidable.byContradiction h_
def basculeref14_Rows.l0 : Nat → List (S27) → List (S27) → Int → Option (Bool)
  | 0, _, _, _ => none
  | k + 1, x0, x1, x5 => if x5 < (x0.length : Int) then (if 0 ≤ x5 then (if x5 < (x1.length : Int) then (if (!((((rd_T27 x0 x5).f0).toList) == (((rd_T27 x1 x5).f0).toList)) || (!((((rd_T27 x0 x5).f1).toList) == (((rd_T27 x1 x5).f1).toList)) || (!(((rd_T27 x0 x5).f2) == ((rd_T27 x1 x5).f2)) || (!(((rd_T27 x0 x5).f3) == ((rd_T27 x1 x5).f3)))))) = true then (some false) else (basculeref14_Rows.l0 k x0 x1 (wrap64 (x5 + 1)))) else (none)) else (none)) else (some true)
def basculeref14_Rows.f (k : Nat) (l0 : List (S27)) (l1 : List (S27)) : Option (Bool) := if (l0.length : Int) = (l1.length : Int) then (basculeref14_Rows.l0 k l0 l1 0) else (some false)
set_option maxHeartbeats 8000000 in
set_option maxRecDepth 100000 in
theorem basculeref14_Rows.calls (k : Nat) (A0 : Option Addr) (c0 : Nat) (l0 : List (S27)) (A1 : Option Addr) (c1 : Nat) (l1 : List (S27)) (r : Bool) (w : World) (hr0 : Kd.C k27 w A0 l0.length l0) (hc0 : l0.length ≤ c0) (hr1 : Kd.C k27 w A1 l1.length l1) (hc1 : l1.length ≤ c1) (h : basculeref14_Rows.f k l0 l1 = some r) :
    Calls Tryd.prog 16 #[.slice A0 l0.length c0, .slice A1 l1.length c1] w fun e w' => e = .returned (.bool r) ∧ Drawn0 w w' := by
  have hu27 := Tryd.underlying27
  have HR0 := Aside0.mk hr0
  have HC0 := Aside0.mk hc0
  clear hr0 hc0
  have HR1 := Aside0.mk hr1
  have HC1 := Aside0.mk hc1
  clear hr1 hc1
  have H : (if (l0.length : Int) = (l1.length : Int) then (basculeref14_Rows.l0 k l0 l1 0) else (some false)) = some r := h
  clear h
  by_cases c3 : (l0.length : Int) = (l1.length : Int)
  rotate_left
  · rw [if_neg c3] at H
    have c3b0 : ((l0.length : Int) == (l1.length : Int)) = false := beq_eq_false_iff_ne.mpr c3
    have c3b1 : ((l0.length : Int) != (l1.length : Int)) = true := bne_iff_ne.mpr c3
    have c3b2 : (l0.length == l1.length) = false := by first | simpa using c3 | (simp at c3 ⊢; omega)
    obtain rfl := Option.some.inj H
    go_enter Tryd.func16, Tryd.ntmps16
    go_wp2
    repeat (go_quiet (fail); try go_wp2)
    go_ret
    exact ⟨zQx4a2_, zQx4a1_⟩
  rw [if_pos c3] at H
  have c3b0 : ((l0.length : Int) == (l1.length : Int)) = true := beq_iff_eq.mpr c3
  have c3b1 : ((l0.length : Int) != (l1.length : Int)) = false := bne_eq_false_iff_eq.mpr c3
  have c3b2 : (l0.length == l1.length) = true := by first | simpa using c3 | (simp at c3 ⊢; omega)
  clear c3
  have H' := Aside0.mk H
  clear H
  go_enter Tryd.func16, Tryd.ntmps16
  go_wp2
  repeat (go_quiet (fail); try go_wp2)
  go_loopg [5] k (fun kq v5 w' => ∃ (x5_1 : Int), v5 = .int .i64 x5_1 ∧ Aside0 (basculeref14_Rows.l0 kq l0 l1 x5_1 = some r) ∧ Aside0 (kq ≤ k) ∧ Drawn0 w w')
  case atStart => exact ⟨(0), zQx4a2_, H', ⟨Nat.le_refl _⟩, zQx4a1_⟩
  case round =>
    clear H'
    try clear c1
    try clear p2
    try clear c3
    try clear c3b0
    try clear c3b1
    try clear c3b2
    obtain ⟨x5_1, rfl, HA, HK1, ⟨m1, rfl⟩⟩ := hrel
    cases gk with
    | zero => exact absurd HA.out (by simp [basculeref14_Rows.l0])
    | succ k1 =>
      have H := HA.out
      clear HA
      simp only [basculeref14_Rows.l0] at H
      by_cases c4 : x5_1 < (l0.length : Int)
      rotate_left
      · rw [if_neg c4] at H
        have c4b0 : decide (x5_1 < (l0.length : Int)) = false := decide_eq_false c4
        clear c4
        obtain rfl := Option.some.inj H
        go_wp2
        repeat (go_quiet (fail); try go_wp2)
        go_ret
        exact ⟨zQx4a2_, zQx4a1_⟩
      rw [if_pos c4] at H
      have c4b0 : decide (x5_1 < (l0.length : Int)) = true := decide_eq_true c4
      clear c4
      have c5 : 0 ≤ x5_1 := znQx4_
      rw [if_pos c5] at H
      have c5b0 : decide (0 ≤ x5_1) = true := decide_eq_true c5
      clear c5
      have c6 : x5_1 < (l1.length : Int) := znQx4_
      rw [if_pos c6] at H
      have c6b0 : decide (x5_1 < (l1.length : Int)) = true := decide_eq_true c6
      clear c6
      by_cases c7 : (!((((rd_T27 l0 x5_1).f0).toList) == (((rd_T27 l1 x5_1).f0).toList)) || (!((((rd_T27 l0 x5_1).f1).toList) == (((rd_T27 l1 x5_1).f1).toList)) || (!(((rd_T27 l0 x5_1).f2) == ((rd_T27 l1 x5_1).f2)) || (!(((rd_T27 l0 x5_1).f3) == ((rd_T27 l1 x5_1).f3)))))) = true
      · rw [if_pos c7] at H
        have c7b0 : (!((((rd_T27 l0 x5_1).f0).toList) == (((rd_T27 l1 x5_1).f0).toList)) || (!((((rd_T27 l0 x5_1).f1).toList) == (((rd_T27 l1 x5_1).f1).toList)) || (!(((rd_T27 l0 x5_1).f2) == ((rd_T27 l1 x5_1).f2)) || (!(((rd_T27 l0 x5_1).f3) == ((rd_T27 l1 x5_1).f3)))))) = true := c7
        clear c7
        obtain rfl := Option.some.inj H
        have p142 : 0 ≤ (x5_1 : Int) := of_decide_eq_true zQx4a0_
        have q142 : x5_1 < (l0.length : Int) := of_decide_eq_true zQx4a0_
        obtain ⟨ad142, e142, hx142_0, hx142_1, hx142_2, hx142_3⟩ := at_T27 HR0.out x5_1 p142 q142
        cases e142
        replace p142 := eq_true p142
        replace q142 := eq_true q142
        have p143 : 0 ≤ (x5_1 : Int) := of_decide_eq_true zQx4a0_
        have q143 : x5_1 < (l1.length : Int) := of_decide_eq_true zQx4a0_
        obtain ⟨ad143, e143, hx143_0, hx143_1, hx143_2, hx143_3⟩ := at_T27 HR1.out x5_1 p143 q143
        cases e143
        replace p143 := eq_true p143
        replace q143 := eq_true q143
        go_wp2
        repeat (go_quiet (fail); try go_wp2)
        go_ret
        exact ⟨zQx4a2_, zQx4a1_⟩
      rw [if_neg c7] at H
      have c7b0 : (!((((rd_T27 l0 x5_1).f0).toList) == (((rd_T27 l1 x5_1).f0).toList)) || (!((((rd_T27 l0 x5_1).f1).toList) == (((rd_T27 l1 x5_1).f1).toList)) || (!(((rd_T27 l0 x5_1).f2) == ((rd_T27 l1 x5_1).f2)) || (!(((rd_T27 l0 x5_1).f3) == ((rd_T27 l1 x5_1).f3)))))) = false := by simpa using c7
      clear c7
      have H' := Aside0.mk H
      clear H
      have p142 : 0 ≤ (x5_1 : Int) := of_decide_eq_true zQx4a0_
      have q142 : x5_1 < (l0.length : Int) := of_decide_eq_true zQx4a0_
      obtain ⟨ad142, e142, hx142_0, hx142_1, hx142_2, hx142_3⟩ := at_T27 HR0.out x5_1 p142 q142
      cases e142
      replace p142 := eq_true p142
      replace q142 := eq_true q142
      have p143 : 0 ≤ (x5_1 : Int) := of_decide_eq_true zQx4a0_
      have q143 : x5_1 < (l1.length : Int) := of_decide_eq_true zQx4a0_
      obtain ⟨ad143, e143, hx143_0, hx143_1, hx143_2, hx143_3⟩ := at_T27 HR1.out x5_1 p143 q143
      cases e143
      replace p143 := eq_true p143
      replace q143 := eq_true q143
      go_wp2
      repeat (go_quiet (fail); try go_wp2)
      go_roundg k1
      case measure => have := HK1.out; omega
      case rel => exact ⟨(wrap64 (x5_1 + 1)), zQx4a2_, H', ⟨by have := HK1.out; omega⟩, zQx4a1_⟩
-- NOT PRINTED: function 17 (retain_Kept_Count)
end Go.Proofs.YtdchcdagjnaicaaDoor.Q
