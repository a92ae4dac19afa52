/- What the proof of SubsAgain leans on: Qx6. -/
import Derived.Test.YtjibcekillcgjaaDoorSSubsAgainQx0
import Derived.Test.YtjibcekillcgjaaDoorSSubsAgainQx4
import Derived.Test.YtjibcekillcgjaaDoorSSubsAgainQx5
namespace Go.Proofs.YtjibcekillcgjaaDoor.Q
open Go.RowKit Go.Proofs.YtjibcekillcgjaaDoorW.PrintWords Go.Proofs.YtjibcekillcgjaaDoorW.PrintLast Go.Proofs.YtjibcekillcgjaaDoorW.PrintMore
attribute [local go_sem] max2_int max_two
set_option linter.unusedVariables false
set_option linter.unusedSimpArgs false
attribute [local go_sem high] eqA48
theorem zQx6a0_ {P_ : Prop} (h_ : P_ := by first | (with_reducible assumption) | assumption) : P_ := h_
theorem zQx6a1_ {P_ : Prop} (h_ : P_ := by repeat (first | exact Drawn0.refl _ | apply Drawn0.step)) : P_ := h_
theorem zQx6a2_ {P_ : Prop} (h_ : P_ := by first | rfl | (simp; done) | (simp [*]; done)) : P_ := h_
theorem znQx6_ {X_ : Prop} [Decidable X_] (h_ : ¬ X_ → False := by intro c_; rw [if_neg c_] at H; exact absurd H (by simp)) : X_ := Decidable.byContradiction h_
def basculeref13_Wants.l0 : Nat → List (S48) → List (S48) → Int → Option (Bool)
  | 0, _, _, _ => none
  | k + 1, x0, x1, x5 => if x5 < (x0.length : Int) then (if 0 ≤ x5 then (if x5 < (x1.length : Int) then (if (!((((rd_T48 x0 x5).f0).toList) == (((rd_T48 x1 x5).f0).toList)) || (!(((rd_T48 x0 x5).f1) == ((rd_T48 x1 x5).f1)))) = true then (some false) else (basculeref13_Wants.l0 k x0 x1 (wrap64 (x5 + 1)))) else (none)) else (none)) else (some true)
def basculeref13_Wants.f (k : Nat) (l0 : List (S48)) (l1 : List (S48)) : Option (Bool) := if (l0.length : Int) = (l1.length : Int) then (basculeref13_Wants.l0 k l0 l1 0) else (some false)
set_option maxHeartbeats 8000000 in
set_option maxRecDepth 100000 in
theorem basculeref13_Wants.calls (k : Nat) (A0 : Option Addr) (c0 : Nat) (l0 : List (S48)) (A1 : Option Addr) (c1 : Nat) (l1 : List (S48)) (r : Bool) (w : World) (hr0 : Kd.C k48 w A0 l0.length l0) (hc0 : l0.length ≤ c0) (hr1 : Kd.C k48 w A1 l1.length l1) (hc1 : l1.length ≤ c1) (h : basculeref13_Wants.f k l0 l1 = some r) :
    Calls Tryd.prog 17 #[.slice A0 l0.length c0, .slice A1 l1.length c1] w fun e w' => e = .returned (.bool r) ∧ Drawn0 w w' := by
  have hu48 := Tryd.underlying48
  have HR0 := Aside0.mk hr0
  have HC0 := Aside0.mk hc0
  clear hr0 hc0
  have HR1 := Aside0.mk hr1
  have HC1 := Aside0.mk hc1
  clear hr1 hc1
  have H : (if (l0.length : Int) = (l1.length : Int) then (basculeref13_Wants.l0 k l0 l1 0) else (some false)) = some r := h
  clear h
  by_cases c3 : (l0.length : Int) = (l1.length : Int)
  rotate_left
  · rw [if_neg c3] at H
    have c3b0 : ((l0.length : Int) == (l1.length : Int)) = false := beq_eq_false_iff_ne.mpr c3
    have c3b1 : ((l0.length : Int) != (l1.length : Int)) = true := bne_iff_ne.mpr c3
    have c3b2 : (l0.length == l1.length) = false := by first | simpa using c3 | (simp at c3 ⊢; omega)
    obtain rfl := Option.some.inj H
    go_enter Tryd.func17, Tryd.ntmps17
    go_wp2
    repeat (go_quiet (fail); try go_wp2)
    go_ret
    exact ⟨zQx6a2_, zQx6a1_⟩
  rw [if_pos c3] at H
  have c3b0 : ((l0.length : Int) == (l1.length : Int)) = true := beq_iff_eq.mpr c3
  have c3b1 : ((l0.length : Int) != (l1.length : Int)) = false := bne_eq_false_iff_eq.mpr c3
  have c3b2 : (l0.length == l1.length) = true := by first | simpa using c3 | (simp at c3 ⊢; omega)
  clear c3
  have H' := Aside0.mk H
  clear H
  go_enter Tryd.func17, Tryd.ntmps17
  go_wp2
  repeat (go_quiet (fail); try go_wp2)
  go_loopg [5] k (fun kq v5 w' => ∃ (x5_1 : Int), v5 = .int .i64 x5_1 ∧ Aside0 (basculeref13_Wants.l0 kq l0 l1 x5_1 = some r) ∧ Aside0 (kq ≤ k) ∧ Drawn0 w w')
  case atStart => exact ⟨(0), zQx6a2_, H', ⟨Nat.le_refl _⟩, zQx6a1_⟩
  case round =>
    clear H'
    try clear c1
    try clear p2
    try clear c3
    try clear c3b0
    try clear c3b1
    try clear c3b2
    obtain ⟨x5_1, rfl, HA, HK1, ⟨m1, rfl⟩⟩ := hrel
    cases gk with
    | zero => exact absurd HA.out (by simp [basculeref13_Wants.l0])
    | succ k1 =>
      have H := HA.out
      clear HA
      simp only [basculeref13_Wants.l0] at H
      by_cases c4 : x5_1 < (l0.length : Int)
      rotate_left
      · rw [if_neg c4] at H
        have c4b0 : decide (x5_1 < (l0.length : Int)) = false := decide_eq_false c4
        clear c4
        obtain rfl := Option.some.inj H
        go_wp2
        repeat (go_quiet (fail); try go_wp2)
        go_ret
        exact ⟨zQx6a2_, zQx6a1_⟩
      rw [if_pos c4] at H
      have c4b0 : decide (x5_1 < (l0.length : Int)) = true := decide_eq_true c4
      clear c4
      have c5 : 0 ≤ x5_1 := znQx6_
      rw [if_pos c5] at H
      have c5b0 : decide (0 ≤ x5_1) = true := decide_eq_true c5
      clear c5
      have c6 : x5_1 < (l1.length : Int) := znQx6_
      rw [if_pos c6] at H
      have c6b0 : decide (x5_1 < (l1.length : Int)) = true := decide_eq_true c6
      clear c6
      by_cases c7 : (!((((rd_T48 l0 x5_1).f0).toList) == (((rd_T48 l1 x5_1).f0).toList)) || (!(((rd_T48 l0 x5_1).f1) == ((rd_T48 l1 x5_1).f1)))) = true
      · rw [if_pos c7] at H
        have c7b0 : (!((((rd_T48 l0 x5_1).f0).toList) == (((rd_T48 l1 x5_1).f0).toList)) || (!(((rd_T48 l0 x5_1).f1) == ((rd_T48 l1 x5_1).f1)))) = true := c7
        clear c7
        obtain rfl := Option.some.inj H
        have p149 : 0 ≤ (x5_1 : Int) := of_decide_eq_true zQx6a0_
        have q149 : x5_1 < (l0.length : Int) := of_decide_eq_true zQx6a0_
        obtain ⟨ad149, e149, hx149_0, hx149_1⟩ := at_T48 HR0.out x5_1 p149 q149
        cases e149
        replace p149 := eq_true p149
        replace q149 := eq_true q149
        have p150 : 0 ≤ (x5_1 : Int) := of_decide_eq_true zQx6a0_
        have q150 : x5_1 < (l1.length : Int) := of_decide_eq_true zQx6a0_
        obtain ⟨ad150, e150, hx150_0, hx150_1⟩ := at_T48 HR1.out x5_1 p150 q150
        cases e150
        replace p150 := eq_true p150
        replace q150 := eq_true q150
        go_wp2
        repeat (go_quiet (fail); try go_wp2)
        go_ret
        exact ⟨zQx6a2_, zQx6a1_⟩
      rw [if_neg c7] at H
      have c7b0 : (!((((rd_T48 l0 x5_1).f0).toList) == (((rd_T48 l1 x5_1).f0).toList)) || (!(((rd_T48 l0 x5_1).f1) == ((rd_T48 l1 x5_1).f1)))) = false := by simpa using c7
      clear c7
      have H' := Aside0.mk H
      clear H
      have p149 : 0 ≤ (x5_1 : Int) := of_decide_eq_true zQx6a0_
      have q149 : x5_1 < (l0.length : Int) := of_decide_eq_true zQx6a0_
      obtain ⟨ad149, e149, hx149_0, hx149_1⟩ := at_T48 HR0.out x5_1 p149 q149
      cases e149
      replace p149 := eq_true p149
      replace q149 := eq_true q149
      have p150 : 0 ≤ (x5_1 : Int) := of_decide_eq_true zQx6a0_
      have q150 : x5_1 < (l1.length : Int) := of_decide_eq_true zQx6a0_
      obtain ⟨ad150, e150, hx150_0, hx150_1⟩ := at_T48 HR1.out x5_1 p150 q150
      cases e150
      replace p150 := eq_true p150
      replace q150 := eq_true q150
      go_wp2
      repeat (go_quiet (fail); try go_wp2)
      go_roundg k1
      case measure => have := HK1.out; omega
      case rel => exact ⟨(wrap64 (x5_1 + 1)), zQx6a2_, H', ⟨by have := HK1.out; omega⟩, zQx6a1_⟩
-- NOT PRINTED: function 18 (subs_Index_Gone)
-- NOT PRINTED: function 4 (basculelaw13_SubsOrder)
end Go.Proofs.YtjibcekillcgjaaDoor.Q
