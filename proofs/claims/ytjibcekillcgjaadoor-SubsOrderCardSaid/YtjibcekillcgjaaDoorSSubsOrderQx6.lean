/- What the proof of SubsOrder leans on: Qx6. -/
import Derived.Test.YtjibcekillcgjaaDoorSSubsOrderQx0
import Derived.Test.YtjibcekillcgjaaDoorSSubsOrderQx4
import Derived.Test.YtjibcekillcgjaaDoorSSubsOrderQx5
namespace Go.Proofs.YtjibcekillcgjaaDoor.Q
open Go.RowKit Go.Proofs.YtjibcekillcgjaaDoorW.PrintWords Go.Proofs.YtjibcekillcgjaaDoorW.PrintLast Go.Proofs.YtjibcekillcgjaaDoorW.PrintMore
attribute [local go_sem] max2_int max_two
set_option linter.unusedVariables false
set_option linter.unusedSimpArgs false
attribute [local go_sem high] eqA48
theorem zQx6a0_ {P_ : Prop} (h_ : P_ := by repeat (first | (with_reducible first | exact HB.out | apply below_alloc | apply pw_below_drewN | apply below_drew1) | exact HB.out)) : P_ := h_
theorem zQx6a1_ {P_ : Prop} (h_ : P_ := by first | (with_reducible assumption) | assumption) : P_ := h_
theorem zQx6a2_ {P_ : Prop} (h_ : P_ := by first | rfl | (simp [errW_none, errW_some] <;> rfl) | (simp [*, errW_none, errW_some] <;> rfl)) : P_ := h_
theorem zQx6a3_ {P_ : Prop} (h_ : P_ := by repeat (first | exact Drawn0.refl _ | apply Drawn0.step)) : P_ := h_
theorem zQx6a4_ {P_ : Prop} (h_ : P_ := by first | rfl | (simp; done) | (simp [*]; done)) : P_ := h_
theorem znQx6_ {X_ : Prop} [Decidable X_] (h_ : ¬ X_ → False := by intro c_; rw [if_neg c_] at H; exact absurd H (by simp)) : X_ := Decidable.byContradiction h_
def basculeref12_Name.f (k : Nat) (a0 : ByteArray) : Option (Bool) := if a0.toList = ([] : List UInt8) then (some false) else ((basculeref09_Is.f k a0).bind fun t146 => (if t146 = true then ((basculeref12_has.f k a0 43).bind fun t147 => (if t147 = true then (some false) else ((basculeref12_has.f k a0 35).bind fun t148 => (some (!t148))))) else (some false)))
set_option maxHeartbeats 8000000 in
set_option maxRecDepth 100000 in
theorem basculeref12_Name.calls (k : Nat) (a0 : ByteArray) (r : Bool) (w : World) (h : basculeref12_Name.f k a0 = some r) :
    Calls Tryd.prog 15 #[.string a0] w fun e w' => e = .returned (.bool r) ∧ Below w.heap.size w w' := by
  have HB := Aside0.mk (Below.refl w.heap.size w)
  have H : (if a0.toList = ([] : List UInt8) then (some false) else ((basculeref09_Is.f k a0).bind fun t146 => (if t146 = true then ((basculeref12_has.f k a0 43).bind fun t147 => (if t147 = true then (some false) else ((basculeref12_has.f k a0 35).bind fun t148 => (some (!t148))))) else (some false)))) = some r := h
  clear h
  by_cases c2 : a0.toList = ([] : List UInt8)
  · rw [if_pos c2] at H
    have c2b0 : (a0.toList == ([] : List UInt8)) = true := beq_iff_eq.mpr c2
    have c2b1 : (a0.toList != ([] : List UInt8)) = false := bne_eq_false_iff_eq.mpr c2
    clear c2
    obtain rfl := Option.some.inj H
    go_enter Tryd.func15, Tryd.ntmps15
    go_wp2
    go_ret
    exact ⟨zQx6a2_, zQx6a0_⟩
  rw [if_neg c2] at H
  have c2b0 : (a0.toList == ([] : List UInt8)) = false := beq_eq_false_iff_ne.mpr c2
  have c2b1 : (a0.toList != ([] : List UInt8)) = true := bne_iff_ne.mpr c2
  replace H := Option.bind_eq_some_iff.mp H
  obtain ⟨t146, A30, H⟩ := H
  replace H : (if t146 = true then ((basculeref12_has.f k a0 43).bind fun t147 => (if t147 = true then (some false) else ((basculeref12_has.f k a0 35).bind fun t148 => (some (!t148))))) else (some false)) = some r := H
  have A3 := Aside0.mk A30
  clear A30
  by_cases c4 : t146 = true
  rotate_left
  · replace c4 := Bool.eq_false_iff.mpr c4
    subst c4
    have H1 : (some false) = some r := by rw [if_neg (show ¬ (false = true) by decide)] at H; exact H
    clear H
    have H := H1
    clear H1
    obtain rfl := Option.some.inj H
    go_enter Tryd.func15, Tryd.ntmps15
    go_wp2_with (first | (go_at_call 20; (with_reducible refine (basculeref09_Is.calls k a0 false _ A3.out).mono ?_); rintro e w10 ⟨rfl, hb⟩; have n0_ := Aside0.mk (below_step zQx6a0_ hb); clear HB; have HB := n0_; clear n0_; (try clear hb); (try clear hb2); (try clear hk); (try clear hi)))
    go_ret
    exact ⟨zQx6a2_, zQx6a0_⟩
  subst c4
  have H1 : ((basculeref12_has.f k a0 43).bind fun t147 => (if t147 = true then (some false) else ((basculeref12_has.f k a0 35).bind fun t148 => (some (!t148))))) = some r := by rw [if_pos rfl] at H; exact H
  clear H
  have H := H1
  clear H1
  replace H := Option.bind_eq_some_iff.mp H
  obtain ⟨t147, A50, H⟩ := H
  replace H : (if t147 = true then (some false) else ((basculeref12_has.f k a0 35).bind fun t148 => (some (!t148)))) = some r := H
  have A5 := Aside0.mk A50
  clear A50
  by_cases c6 : t147 = true
  · subst c6
    have H1 : (some false) = some r := by rw [if_pos rfl] at H; exact H
    clear H
    have H := H1
    clear H1
    obtain rfl := Option.some.inj H
    go_enter Tryd.func15, Tryd.ntmps15
    go_wp2_with (first | (go_at_call 20; (with_reducible refine (basculeref09_Is.calls k a0 true _ A3.out).mono ?_); rintro e w7 ⟨rfl, hb⟩; have n0_ := Aside0.mk (below_step zQx6a0_ hb); clear HB; have HB := n0_; clear n0_; (try clear hb); (try clear hb2); (try clear hk); (try clear hi)) | (go_at_call 22; (with_reducible refine (basculeref12_has.calls k a0 43 true _ A5.out).mono ?_); rintro e w' ⟨rfl, ⟨nd, rfl⟩⟩))
    go_ret
    exact ⟨zQx6a2_, zQx6a0_⟩
  replace c6 := Bool.eq_false_iff.mpr c6
  subst c6
  have H1 : ((basculeref12_has.f k a0 35).bind fun t148 => (some (!t148))) = some r := by rw [if_neg (show ¬ (false = true) by decide)] at H; exact H
  clear H
  have H := H1
  clear H1
  replace H := Option.bind_eq_some_iff.mp H
  obtain ⟨t148, A80, H⟩ := H
  replace H : (some (!t148)) = some r := H
  have A8 := Aside0.mk A80
  clear A80
  obtain rfl := Option.some.inj H
  go_enter Tryd.func15, Tryd.ntmps15
  go_wp2_with (first | (go_at_call 20; (with_reducible refine (basculeref09_Is.calls k a0 true _ A3.out).mono ?_); rintro e w9 ⟨rfl, hb⟩; have n0_ := Aside0.mk (below_step zQx6a0_ hb); clear HB; have HB := n0_; clear n0_; (try clear hb); (try clear hb2); (try clear hk); (try clear hi)) | (go_at_call 22; (with_reducible refine (basculeref12_has.calls k a0 43 false _ A5.out).mono ?_); rintro e w' ⟨rfl, ⟨nd, rfl⟩⟩) | (go_at_call 22; (with_reducible refine (basculeref12_has.calls k a0 35 t148 _ A8.out).mono ?_); rintro e w' ⟨rfl, ⟨nd, rfl⟩⟩))
  go_ret
  exact ⟨zQx6a2_, zQx6a0_⟩
-- NOT PRINTED: function 16 (subs_Index_Find)
def basculeref13_Wants.l0 : Nat → List (S48) → List (S48) → Int → Option (Bool)
  | 0, _, _, _ => none
  | k + 1, x0, x1, x5 => if x5 < (x0.length : Int) then (if 0 ≤ x5 then (if x5 < (x1.length : Int) then (if (!((((rd_T48 x0 x5).f0).toList) == (((rd_T48 x1 x5).f0).toList)) || (!(((rd_T48 x0 x5).f1) == ((rd_T48 x1 x5).f1)))) = true then (some false) else (basculeref13_Wants.l0 k x0 x1 (wrap64 (x5 + 1)))) else (none)) else (none)) else (some true)
def basculeref13_Wants.f (k : Nat) (l0 : List (S48)) (l1 : List (S48)) : Option (Bool) := if (l0.length : Int) = (l1.length : Int) then (basculeref13_Wants.l0 k l0 l1 0) else (some false)
set_option maxHeartbeats 8000000 in
set_option maxRecDepth 100000 in
theorem basculeref13_Wants.calls (k : Nat) (A0 : Option Addr) (c0 : Nat) (l0 : List (S48)) (A1 : Option Addr) (c1 : Nat) (l1 : List (S48)) (r : Bool) (w : World) (hr0 : Kd.C k48 w A0 l0.length l0) (hc0 : l0.length ≤ c0) (hr1 : Kd.C k48 w A1 l1.length l1) (hc1 : l1.length ≤ c1) (h : basculeref13_Wants.f k l0 l1 = some r) :
    Calls Tryd.prog 17 #[.slice A0 l0.length c0, .slice A1 l1.length c1] w fun e w' => e = .returned (.bool r) ∧ Drawn0 w w' := by
  have hu48 := Tryd.underlying48
  have HR0 := Aside0.mk hr0
  have HC0 := Aside0.mk hc0
  clear hr0 hc0
  have HR1 := Aside0.mk hr1
  have HC1 := Aside0.mk hc1
  clear hr1 hc1
  have H : (if (l0.length : Int) = (l1.length : Int) then (basculeref13_Wants.l0 k l0 l1 0) else (some false)) = some r := h
  clear h
  by_cases c3 : (l0.length : Int) = (l1.length : Int)
  rotate_left
  · rw [if_neg c3] at H
    have c3b0 : ((l0.length : Int) == (l1.length : Int)) = false := beq_eq_false_iff_ne.mpr c3
    have c3b1 : ((l0.length : Int) != (l1.length : Int)) = true := bne_iff_ne.mpr c3
    have c3b2 : (l0.length == l1.length) = false := by first | simpa using c3 | (simp at c3 ⊢; omega)
    obtain rfl := Option.some.inj H
    go_enter Tryd.func17, Tryd.ntmps17
    go_wp2
    repeat (go_quiet (fail); try go_wp2)
    go_ret
    exact ⟨zQx6a4_, zQx6a3_⟩
  rw [if_pos c3] at H
  have c3b0 : ((l0.length : Int) == (l1.length : Int)) = true := beq_iff_eq.mpr c3
  have c3b1 : ((l0.length : Int) != (l1.length : Int)) = false := bne_eq_false_iff_eq.mpr c3
  have c3b2 : (l0.length == l1.length) = true := by first | simpa using c3 | (simp at c3 ⊢; omega)
  clear c3
  have H' := Aside0.mk H
  clear H
  go_enter Tryd.func17, Tryd.ntmps17
  go_wp2
  repeat (go_quiet (fail); try go_wp2)
  go_loopg [5] k (fun kq v5 w' => ∃ (x5_1 : Int), v5 = .int .i64 x5_1 ∧ Aside0 (basculeref13_Wants.l0 kq l0 l1 x5_1 = some r) ∧ Aside0 (kq ≤ k) ∧ Drawn0 w w')
  case atStart => exact ⟨(0), zQx6a4_, H', ⟨Nat.le_refl _⟩, zQx6a3_⟩
  case round =>
    clear H'
    try clear c1
    try clear p2
    try clear c3
    try clear c3b0
    try clear c3b1
    try clear c3b2
    obtain ⟨x5_1, rfl, HA, HK1, ⟨m1, rfl⟩⟩ := hrel
    cases gk with
    | zero => exact absurd HA.out (by simp [basculeref13_Wants.l0])
    | succ k1 =>
      have H := HA.out
      clear HA
      simp only [basculeref13_Wants.l0] at H
      by_cases c4 : x5_1 < (l0.length : Int)
      rotate_left
      · rw [if_neg c4] at H
        have c4b0 : decide (x5_1 < (l0.length : Int)) = false := decide_eq_false c4
        clear c4
        obtain rfl := Option.some.inj H
        go_wp2
        repeat (go_quiet (fail); try go_wp2)
        go_ret
        exact ⟨zQx6a4_, zQx6a3_⟩
      rw [if_pos c4] at H
      have c4b0 : decide (x5_1 < (l0.length : Int)) = true := decide_eq_true c4
      clear c4
      have c5 : 0 ≤ x5_1 := znQx6_
      rw [if_pos c5] at H
      have c5b0 : decide (0 ≤ x5_1) = true := decide_eq_true c5
      clear c5
      have c6 : x5_1 < (l1.length : Int) := znQx6_
      rw [if_pos c6] at H
      have c6b0 : decide (x5_1 < (l1.length : Int)) = true := decide_eq_true c6
      clear c6
      by_cases c7 : (!((((rd_T48 l0 x5_1).f0).toList) == (((rd_T48 l1 x5_1).f0).toList)) || (!(((rd_T48 l0 x5_1).f1) == ((rd_T48 l1 x5_1).f1)))) = true
      · rw [if_pos c7] at H
        have c7b0 : (!((((rd_T48 l0 x5_1).f0).toList) == (((rd_T48 l1 x5_1).f0).toList)) || (!(((rd_T48 l0 x5_1).f1) == ((rd_T48 l1 x5_1).f1)))) = true := c7
        clear c7
        obtain rfl := Option.some.inj H
        have p149 : 0 ≤ (x5_1 : Int) := of_decide_eq_true zQx6a1_
        have q149 : x5_1 < (l0.length : Int) := of_decide_eq_true zQx6a1_
        obtain ⟨ad149, e149, hx149_0, hx149_1⟩ := at_T48 HR0.out x5_1 p149 q149
        cases e149
        replace p149 := eq_true p149
        replace q149 := eq_true q149
        have p150 : 0 ≤ (x5_1 : Int) := of_decide_eq_true zQx6a1_
        have q150 : x5_1 < (l1.length : Int) := of_decide_eq_true zQx6a1_
        obtain ⟨ad150, e150, hx150_0, hx150_1⟩ := at_T48 HR1.out x5_1 p150 q150
        cases e150
        replace p150 := eq_true p150
        replace q150 := eq_true q150
        go_wp2
        repeat (go_quiet (fail); try go_wp2)
        go_ret
        exact ⟨zQx6a4_, zQx6a3_⟩
      rw [if_neg c7] at H
      have c7b0 : (!((((rd_T48 l0 x5_1).f0).toList) == (((rd_T48 l1 x5_1).f0).toList)) || (!(((rd_T48 l0 x5_1).f1) == ((rd_T48 l1 x5_1).f1)))) = false := by simpa using c7
      clear c7
      have H' := Aside0.mk H
      clear H
      have p149 : 0 ≤ (x5_1 : Int) := of_decide_eq_true zQx6a1_
      have q149 : x5_1 < (l0.length : Int) := of_decide_eq_true zQx6a1_
      obtain ⟨ad149, e149, hx149_0, hx149_1⟩ := at_T48 HR0.out x5_1 p149 q149
      cases e149
      replace p149 := eq_true p149
      replace q149 := eq_true q149
      have p150 : 0 ≤ (x5_1 : Int) := of_decide_eq_true zQx6a1_
      have q150 : x5_1 < (l1.length : Int) := of_decide_eq_true zQx6a1_
      obtain ⟨ad150, e150, hx150_0, hx150_1⟩ := at_T48 HR1.out x5_1 p150 q150
      cases e150
      replace p150 := eq_true p150
      replace q150 := eq_true q150
      go_wp2
      repeat (go_quiet (fail); try go_wp2)
      go_roundg k1
      case measure => have := HK1.out; omega
      case rel => exact ⟨(wrap64 (x5_1 + 1)), zQx6a4_, H', ⟨by have := HK1.out; omega⟩, zQx6a3_⟩
-- NOT PRINTED: function 18 (subs_Index_Gone)
-- NOT PRINTED: function 4 (basculelaw13_SubsOrder)
end Go.Proofs.YtjibcekillcgjaaDoor.Q
