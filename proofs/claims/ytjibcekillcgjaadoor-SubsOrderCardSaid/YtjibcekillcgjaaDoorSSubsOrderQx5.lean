/- What the proof of SubsOrder leans on: Qx5. -/
import Derived.Test.YtjibcekillcgjaaDoorSSubsOrderQx0
import Derived.Test.YtjibcekillcgjaaDoorSSubsOrderQx4
namespace Go.Proofs.YtjibcekillcgjaaDoor.Q
open Go.RowKit Go.Proofs.YtjibcekillcgjaaDoorW.PrintWords Go.Proofs.YtjibcekillcgjaaDoorW.PrintLast Go.Proofs.YtjibcekillcgjaaDoorW.PrintMore
attribute [local go_sem] max2_int max_two
set_option linter.unusedVariables false
set_option linter.unusedSimpArgs false
theorem zQx5a0_ {P_ : Prop} (h_ : P_ := by repeat (first | exact Drawn0.refl _ | apply Drawn0.step)) : P_ := h_
theorem zQx5a1_ {P_ : Prop} (h_ : P_ := by first | (with_reducible assumption) | assumption) : P_ := h_
theorem zQx5a2_ {P_ : Prop} (h_ : P_ := by first | rfl | (simp; done) | (simp [*]; done)) : P_ := h_
theorem znQx5_ {X_ : Prop} [Decidable X_] (h_ : ¬ X_ → False := by intro c_; rw [if_neg c_] at H; exact absurd H (by simp)) : X_ := Decidable.byContradiction h_
def basculeref12_has.l0 : Nat → ByteArray → Int → Int → Option (Bool)
  | 0, _, _, _ => none
  | k + 1, x0, x1, x5 => if x5 < (x0.size : Int) then (if 0 ≤ x5 then (if (bt x0 x5) = x1 then (some true) else (basculeref12_has.l0 k x0 x1 (wrap64 (x5 + 1)))) else (none)) else (some false)
def basculeref12_has.f (k : Nat) (a0 : ByteArray) (a1 : Int) : Option (Bool) := basculeref12_has.l0 k a0 a1 0
set_option maxHeartbeats 8000000 in
set_option maxRecDepth 100000 in
theorem basculeref12_has.calls (k : Nat) (a0 : ByteArray) (a1 : Int) (r : Bool) (w : World) (h : basculeref12_has.f k a0 a1 = some r) :
    Calls Tryd.prog 22 #[.string a0, .int .u8 a1] w fun e w' => e = .returned (.bool r) ∧ Drawn0 w w' := by
  have H : (basculeref12_has.l0 k a0 a1 0) = some r := h
  clear h
  have H' := Aside0.mk H
  clear H
  go_enter Tryd.func22, Tryd.ntmps22
  go_wp2
  go_loopg [5] k (fun kq v5 w' => ∃ (x5_1 : Int), v5 = .int .i64 x5_1 ∧ Aside0 (basculeref12_has.l0 kq a0 a1 x5_1 = some r) ∧ Aside0 (kq ≤ k) ∧ Drawn0 w w')
  case atStart => exact ⟨(0), zQx5a2_, H', ⟨Nat.le_refl _⟩, zQx5a0_⟩
  case round =>
    clear H'
    try clear c2
    try clear p2
    obtain ⟨x5_1, rfl, HA, HK1, ⟨m1, rfl⟩⟩ := hrel
    cases gk with
    | zero => exact absurd HA.out (by simp [basculeref12_has.l0])
    | succ k1 =>
      have H := HA.out
      clear HA
      simp only [basculeref12_has.l0] at H
      by_cases c3 : x5_1 < (a0.size : Int)
      rotate_left
      · rw [if_neg c3] at H
        have c3b0 : decide (x5_1 < (a0.size : Int)) = false := decide_eq_false c3
        clear c3
        obtain rfl := Option.some.inj H
        go_wp2
        go_ret
        exact ⟨zQx5a2_, zQx5a0_⟩
      rw [if_pos c3] at H
      have c3b0 : decide (x5_1 < (a0.size : Int)) = true := decide_eq_true c3
      clear c3
      have c4 : 0 ≤ x5_1 := znQx5_
      rw [if_pos c4] at H
      have c4b0 : decide (0 ≤ x5_1) = true := decide_eq_true c4
      clear c4
      by_cases c6 : (bt a0 x5_1) = a1
      · rw [if_pos c6] at H
        have c6b0 : ((bt a0 x5_1) == a1) = true := beq_iff_eq.mpr c6
        have c6b1 : ((bt a0 x5_1) != a1) = false := bne_eq_false_iff_eq.mpr c6
        clear c6
        obtain rfl := Option.some.inj H
        have p5 : 0 ≤ (x5_1 : Int) := of_decide_eq_true zQx5a1_
        have q5 : x5_1 < (a0.size : Int) := of_decide_eq_true zQx5a1_
        have hx5 := bt_at a0 x5_1
        replace p5 := eq_true p5
        replace q5 := eq_true q5
        go_wp2
        go_ret
        exact ⟨zQx5a2_, zQx5a0_⟩
      rw [if_neg c6] at H
      have c6b0 : ((bt a0 x5_1) == a1) = false := beq_eq_false_iff_ne.mpr c6
      have c6b1 : ((bt a0 x5_1) != a1) = true := bne_iff_ne.mpr c6
      have H' := Aside0.mk H
      clear H
      have p5 : 0 ≤ (x5_1 : Int) := of_decide_eq_true zQx5a1_
      have q5 : x5_1 < (a0.size : Int) := of_decide_eq_true zQx5a1_
      have hx5 := bt_at a0 x5_1
      replace p5 := eq_true p5
      replace q5 := eq_true q5
      go_wp2
      go_roundg k1
      case measure => have := HK1.out; omega
      case rel => exact ⟨(wrap64 (x5_1 + 1)), zQx5a2_, H', ⟨by have := HK1.out; omega⟩, zQx5a0_⟩
end Go.Proofs.YtjibcekillcgjaaDoor.Q
