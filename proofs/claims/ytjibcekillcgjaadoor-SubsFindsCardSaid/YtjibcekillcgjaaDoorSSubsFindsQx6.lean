/- What the proof of SubsFinds leans on: Qx6. -/
import Derived.Test.YtjibcekillcgjaaDoorSSubsFindsQx0
import Derived.Test.YtjibcekillcgjaaDoorSSubsFindsQx4
import Derived.Test.YtjibcekillcgjaaDoorSSubsFindsQx5
namespace Go.Proofs.YtjibcekillcgjaaDoor.Q
open Go.RowKit Go.Proofs.YtjibcekillcgjaaDoorW.PrintWords Go.Proofs.YtjibcekillcgjaaDoorW.PrintLast Go.Proofs.YtjibcekillcgjaaDoorW.PrintMore
attribute [local go_sem] max2_int max_two
set_option linter.unusedVariables false
set_option linter.unusedSimpArgs false
attribute [local go_sem high] eqA48
theorem zQx6a0_ {P_ : Prop} (h_ : P_ := by repeat (first | (with_reducible first | exact HB.out | apply below_alloc | apply pw_below_drewN | apply below_drew1) | exact HB.out)) : P_ := h_
theorem zQx6a1_ {P_ : Prop} (h_ : P_ := by first | (with_reducible assumption) | assumption) : P_ := h_
theorem zQx6a2_ {P_ : Prop} (h_ : P_ := by first | rfl | (simp [errW_none, errW_some] <;> rfl) | (simp [*, errW_none, errW_some] <;> rfl)) : P_ := h_
theorem zQx6a3_ {P_ : Prop} (h_ : P_ := by (with_reducible repeat (first | apply Kd.R_alloc | apply Kd.R_drewN | apply Kd.R_drew)); exact HO155.out) : P_ := h_
theorem zQx6a4_ {P_ : Prop} (h_ : P_ := by first | rfl | (simp; done) | (simp [*]; done)) : P_ := h_
theorem zQx6a5_ {P_ : Prop} (h_ : P_ := by (with_reducible repeat (first | apply Kd.R_alloc | apply Kd.R_drewN | apply Kd.R_drew)); exact Kd.R_mono HO155.out (fun _ hk => hk.2)) : P_ := h_
theorem zQx6a6_ {P_ : Prop} (h_ : P_ := by (with_reducible repeat (first | apply Kd.R_alloc | apply Kd.R_drewN | apply Kd.R_drew)); exact Kd.R_mono HO158.out (fun _ hk => hk.2)) : P_ := h_
theorem zQx6a7_ {P_ : Prop} (h_ : P_ := by (with_reducible repeat (first | apply Kd.R_alloc | apply Kd.R_drewN | apply Kd.R_drew)); exact HO_5.out) : P_ := h_
theorem zQx6a8_ {P_ : Prop} (h_ : P_ := by (with_reducible repeat (first | apply Kd.R_alloc | apply Kd.R_drewN | apply Kd.R_drew)); exact HO_6.out) : P_ := h_
theorem zQx6a9_ {P_ : Prop} (h_ : P_ := by repeat (first | exact Drawn0.refl _ | apply Drawn0.step)) : P_ := h_
theorem znQx6_ {X_ : Prop} [Decidable X_] (h_ : ¬ X_ → False := by intro c_; rw [if_neg c_] at H; exact absurd H (by simp)) : X_ := Decidable.byContradiction h_
def basculeref12_Name.f (k : Nat) (a0 : ByteArray) : Option (Bool) := if a0.toList = ([] : List UInt8) then (some false) else ((basculeref09_Is.f k a0).bind fun t146 => (if t146 = true then ((basculeref12_has.f k a0 43).bind fun t147 => (if t147 = true then (some false) else ((basculeref12_has.f k a0 35).bind fun t148 => (some (!t148))))) else (some false)))
set_option maxHeartbeats 8000000 in
set_option maxRecDepth 100000 in
theorem basculeref12_Name.calls (k : Nat) (a0 : ByteArray) (r : Bool) (w : World) (h : basculeref12_Name.f k a0 = some r) :
  Calls Tryd.prog 15 #[.string a0] w fun e w' => e = .returned (.bool r) ∧ Below w.heap.size w w' := by
 have HB := Aside0.mk (Below.refl w.heap.size w)
 have H : (if a0.toList = ([] : List UInt8) then (some false) else ((basculeref09_Is.f k a0).bind fun t146 => (if t146 = true then ((basculeref12_has.f k a0 43).bind fun t147 => (if t147 = true then (some false) else ((basculeref12_has.f k a0 35).bind fun t148 => (some (!t148))))) else (some false)))) = some r := h
 clear h
 by_cases c2 : a0.toList = ([] : List UInt8)
 ·
  rw [if_pos c2] at H
  have c2b0 : (a0.toList == ([] : List UInt8)) = true := beq_iff_eq.mpr c2
  have c2b1 : (a0.toList != ([] : List UInt8)) = false := bne_eq_false_iff_eq.mpr c2
  clear c2
  obtain rfl := Option.some.inj H
  go_enter Tryd.func15, Tryd.ntmps15
  go_wp2
  go_ret
  exact ⟨zQx6a2_, zQx6a0_⟩
 rw [if_neg c2] at H
 have c2b0 : (a0.toList == ([] : List UInt8)) = false := beq_eq_false_iff_ne.mpr c2
 have c2b1 : (a0.toList != ([] : List UInt8)) = true := bne_iff_ne.mpr c2
 replace H := Option.bind_eq_some_iff.mp H
 obtain ⟨t146, A30, H⟩ := H
 replace H : (if t146 = true then ((basculeref12_has.f k a0 43).bind fun t147 => (if t147 = true then (some false) else ((basculeref12_has.f k a0 35).bind fun t148 => (some (!t148))))) else (some false)) = some r := H
 have A3 := Aside0.mk A30
 clear A30
 by_cases c4 : t146 = true
 rotate_left
 ·
  replace c4 := Bool.eq_false_iff.mpr c4
  subst c4
  have H1 : (some false) = some r := by rw [if_neg (show ¬ (false = true) by decide)] at H; exact H
  clear H
  have H := H1
  clear H1
  obtain rfl := Option.some.inj H
  go_enter Tryd.func15, Tryd.ntmps15
  go_wp2_with (first | (go_at_call 20; (with_reducible refine (basculeref09_Is.calls k a0 false _ A3.out).mono ?_); rintro e w10 ⟨rfl, hb⟩; have n0_ := Aside0.mk (below_step zQx6a0_ hb); clear HB; have HB := n0_; clear n0_; (try clear hb); (try clear hb2); (try clear hk); (try clear hi)))
  go_ret
  exact ⟨zQx6a2_, zQx6a0_⟩
 subst c4
 have H1 : ((basculeref12_has.f k a0 43).bind fun t147 => (if t147 = true then (some false) else ((basculeref12_has.f k a0 35).bind fun t148 => (some (!t148))))) = some r := by rw [if_pos rfl] at H; exact H
 clear H
 have H := H1
 clear H1
 replace H := Option.bind_eq_some_iff.mp H
 obtain ⟨t147, A50, H⟩ := H
 replace H : (if t147 = true then (some false) else ((basculeref12_has.f k a0 35).bind fun t148 => (some (!t148)))) = some r := H
 have A5 := Aside0.mk A50
 clear A50
 by_cases c6 : t147 = true
 ·
  subst c6
  have H1 : (some false) = some r := by rw [if_pos rfl] at H; exact H
  clear H
  have H := H1
  clear H1
  obtain rfl := Option.some.inj H
  go_enter Tryd.func15, Tryd.ntmps15
  go_wp2_with (first | (go_at_call 20; (with_reducible refine (basculeref09_Is.calls k a0 true _ A3.out).mono ?_); rintro e w7 ⟨rfl, hb⟩; have n0_ := Aside0.mk (below_step zQx6a0_ hb); clear HB; have HB := n0_; clear n0_; (try clear hb); (try clear hb2); (try clear hk); (try clear hi)) | (go_at_call 22; (with_reducible refine (basculeref12_has.calls k a0 43 true _ A5.out).mono ?_); rintro e w' ⟨rfl, ⟨nd, rfl⟩⟩))
  go_ret
  exact ⟨zQx6a2_, zQx6a0_⟩
 replace c6 := Bool.eq_false_iff.mpr c6
 subst c6
 have H1 : ((basculeref12_has.f k a0 35).bind fun t148 => (some (!t148))) = some r := by rw [if_neg (show ¬ (false = true) by decide)] at H; exact H
 clear H
 have H := H1
 clear H1
 replace H := Option.bind_eq_some_iff.mp H
 obtain ⟨t148, A80, H⟩ := H
 replace H : (some (!t148)) = some r := H
 have A8 := Aside0.mk A80
 clear A80
 obtain rfl := Option.some.inj H
 go_enter Tryd.func15, Tryd.ntmps15
 go_wp2_with (first | (go_at_call 20; (with_reducible refine (basculeref09_Is.calls k a0 true _ A3.out).mono ?_); rintro e w9 ⟨rfl, hb⟩; have n0_ := Aside0.mk (below_step zQx6a0_ hb); clear HB; have HB := n0_; clear n0_; (try clear hb); (try clear hb2); (try clear hk); (try clear hi)) | (go_at_call 22; (with_reducible refine (basculeref12_has.calls k a0 43 false _ A5.out).mono ?_); rintro e w' ⟨rfl, ⟨nd, rfl⟩⟩) | (go_at_call 22; (with_reducible refine (basculeref12_has.calls k a0 35 t148 _ A8.out).mono ?_); rintro e w' ⟨rfl, ⟨nd, rfl⟩⟩))
 go_ret
 exact ⟨zQx6a2_, zQx6a0_⟩
-- NOT PRINTED: function 16 (subs_Index_Find)
def basculeref13_Wants.l0 : Nat → List (S48) → List (S48) → Int → Option (Bool)
 | 0, _, _, _ => none
 | k + 1, x0, x1, x5 => if x5 < (x0.length : Int) then (if 0 ≤ x5 then (if x5 < (x1.length : Int) then (if (!((((rd_T48 x0 x5).f0).toList) == (((rd_T48 x1 x5).f0).toList)) || (!(((rd_T48 x0 x5).f1) == ((rd_T48 x1 x5).f1)))) = true then (some false) else (basculeref13_Wants.l0 k x0 x1 (wrap64 (x5 + 1)))) else (none)) else (none)) else (some true)
def basculeref13_Wants.f (k : Nat) (l0 : List (S48)) (l1 : List (S48)) : Option (Bool) := if (l0.length : Int) = (l1.length : Int) then (basculeref13_Wants.l0 k l0 l1 0) else (some false)
set_option maxHeartbeats 8000000 in
set_option maxRecDepth 100000 in
theorem basculeref13_Wants.calls (k : Nat) (A0 : Option Addr) (c0 : Nat) (l0 : List (S48)) (A1 : Option Addr) (c1 : Nat) (l1 : List (S48)) (r : Bool) (w : World) (hr0 : Kd.C k48 w A0 l0.length l0) (hc0 : l0.length ≤ c0) (hr1 : Kd.C k48 w A1 l1.length l1) (hc1 : l1.length ≤ c1) (h : basculeref13_Wants.f k l0 l1 = some r) :
  Calls Tryd.prog 17 #[.slice A0 l0.length c0, .slice A1 l1.length c1] w fun e w' => e = .returned (.bool r) ∧ Drawn0 w w' := by
 have hu48 := Tryd.underlying48
 have HR0 := Aside0.mk hr0
 have HC0 := Aside0.mk hc0
 clear hr0 hc0
 have HR1 := Aside0.mk hr1
 have HC1 := Aside0.mk hc1
 clear hr1 hc1
 have H : (if (l0.length : Int) = (l1.length : Int) then (basculeref13_Wants.l0 k l0 l1 0) else (some false)) = some r := h
 clear h
 by_cases c3 : (l0.length : Int) = (l1.length : Int)
 rotate_left
 ·
  rw [if_neg c3] at H
  have c3b0 : ((l0.length : Int) == (l1.length : Int)) = false := beq_eq_false_iff_ne.mpr c3
  have c3b1 : ((l0.length : Int) != (l1.length : Int)) = true := bne_iff_ne.mpr c3
  have c3b2 : (l0.length == l1.length) = false := by first | simpa using c3 | (simp at c3 ⊢; omega)
  obtain rfl := Option.some.inj H
  go_enter Tryd.func17, Tryd.ntmps17
  go_wp2
  repeat (go_quiet (fail); try go_wp2)
  go_ret
  exact ⟨zQx6a4_, zQx6a9_⟩
 rw [if_pos c3] at H
 have c3b0 : ((l0.length : Int) == (l1.length : Int)) = true := beq_iff_eq.mpr c3
 have c3b1 : ((l0.length : Int) != (l1.length : Int)) = false := bne_eq_false_iff_eq.mpr c3
 have c3b2 : (l0.length == l1.length) = true := by first | simpa using c3 | (simp at c3 ⊢; omega)
 clear c3
 have H' := Aside0.mk H
 clear H
 go_enter Tryd.func17, Tryd.ntmps17
 go_wp2
 repeat (go_quiet (fail); try go_wp2)
 go_loopg [5] k (fun kq v5 w' => ∃ (x5_1 : Int), v5 = .int .i64 x5_1 ∧ Aside0 (basculeref13_Wants.l0 kq l0 l1 x5_1 = some r) ∧ Aside0 (kq ≤ k) ∧ Drawn0 w w')
 case atStart => exact ⟨(0), zQx6a4_, H', ⟨Nat.le_refl _⟩, zQx6a9_⟩
 case round =>
  clear H'
  try clear c1
  try clear p2
  try clear c3
  try clear c3b0
  try clear c3b1
  try clear c3b2
  obtain ⟨x5_1, rfl, HA, HK1, ⟨m1, rfl⟩⟩ := hrel
  cases gk with
  | zero => exact absurd HA.out (by simp [basculeref13_Wants.l0])
  | succ k1 =>
   have H := HA.out
   clear HA
   simp only [basculeref13_Wants.l0] at H
   by_cases c4 : x5_1 < (l0.length : Int)
   rotate_left
   ·
    rw [if_neg c4] at H
    have c4b0 : decide (x5_1 < (l0.length : Int)) = false := decide_eq_false c4
    clear c4
    obtain rfl := Option.some.inj H
    go_wp2
    repeat (go_quiet (fail); try go_wp2)
    go_ret
    exact ⟨zQx6a4_, zQx6a9_⟩
   rw [if_pos c4] at H
   have c4b0 : decide (x5_1 < (l0.length : Int)) = true := decide_eq_true c4
   clear c4
   have c5 : 0 ≤ x5_1 := znQx6_
   rw [if_pos c5] at H
   have c5b0 : decide (0 ≤ x5_1) = true := decide_eq_true c5
   clear c5
   have c6 : x5_1 < (l1.length : Int) := znQx6_
   rw [if_pos c6] at H
   have c6b0 : decide (x5_1 < (l1.length : Int)) = true := decide_eq_true c6
   clear c6
   by_cases c7 : (!((((rd_T48 l0 x5_1).f0).toList) == (((rd_T48 l1 x5_1).f0).toList)) || (!(((rd_T48 l0 x5_1).f1) == ((rd_T48 l1 x5_1).f1)))) = true
   ·
    rw [if_pos c7] at H
    have c7b0 : (!((((rd_T48 l0 x5_1).f0).toList) == (((rd_T48 l1 x5_1).f0).toList)) || (!(((rd_T48 l0 x5_1).f1) == ((rd_T48 l1 x5_1).f1)))) = true := c7
    clear c7
    obtain rfl := Option.some.inj H
    have p149 : 0 ≤ (x5_1 : Int) := of_decide_eq_true zQx6a1_
    have q149 : x5_1 < (l0.length : Int) := of_decide_eq_true zQx6a1_
    obtain ⟨ad149, e149, hx149_0, hx149_1⟩ := at_T48 HR0.out x5_1 p149 q149
    cases e149
    replace p149 := eq_true p149
    replace q149 := eq_true q149
    have p150 : 0 ≤ (x5_1 : Int) := of_decide_eq_true zQx6a1_
    have q150 : x5_1 < (l1.length : Int) := of_decide_eq_true zQx6a1_
    obtain ⟨ad150, e150, hx150_0, hx150_1⟩ := at_T48 HR1.out x5_1 p150 q150
    cases e150
    replace p150 := eq_true p150
    replace q150 := eq_true q150
    go_wp2
    repeat (go_quiet (fail); try go_wp2)
    go_ret
    exact ⟨zQx6a4_, zQx6a9_⟩
   rw [if_neg c7] at H
   have c7b0 : (!((((rd_T48 l0 x5_1).f0).toList) == (((rd_T48 l1 x5_1).f0).toList)) || (!(((rd_T48 l0 x5_1).f1) == ((rd_T48 l1 x5_1).f1)))) = false := by simpa using c7
   clear c7
   have H' := Aside0.mk H
   clear H
   have p149 : 0 ≤ (x5_1 : Int) := of_decide_eq_true zQx6a1_
   have q149 : x5_1 < (l0.length : Int) := of_decide_eq_true zQx6a1_
   obtain ⟨ad149, e149, hx149_0, hx149_1⟩ := at_T48 HR0.out x5_1 p149 q149
   cases e149
   replace p149 := eq_true p149
   replace q149 := eq_true q149
   have p150 : 0 ≤ (x5_1 : Int) := of_decide_eq_true zQx6a1_
   have q150 : x5_1 < (l1.length : Int) := of_decide_eq_true zQx6a1_
   obtain ⟨ad150, e150, hx150_0, hx150_1⟩ := at_T48 HR1.out x5_1 p150 q150
   cases e150
   replace p150 := eq_true p150
   replace q150 := eq_true q150
   go_wp2
   repeat (go_quiet (fail); try go_wp2)
   go_roundg k1
   case measure => have := HK1.out; omega
   case rel => exact ⟨(wrap64 (x5_1 + 1)), zQx6a4_, H', ⟨by have := HK1.out; omega⟩, zQx6a9_⟩
-- NOT PRINTED: function 18 (subs_Index_Gone)
-- NOT PRINTED: function 4 (basculelaw13_SubsOrder)
mutual
def basculeref12_Takes.j0 : Nat → List ByteArray → List ByteArray → Bool → Option (Bool)
 | 0, _, _, _ => none
 | k + 1, x5, x6, x26 => if x26 = true then (some false) else (basculeref12_Takes.l0 k x5 x6 0)
def basculeref12_Takes.l0 : Nat → List ByteArray → List ByteArray → Int → Option (Bool)
 | 0, _, _, _ => none
 | k + 1, x5, x6, x7 => if x7 < (x5.length : Int) then (if 0 ≤ x7 then (if (rdOf ByteArray.empty x5 x7).toList = ([35] : List UInt8) then (some true) else (if x7 ≥ (x6.length : Int) then (some false) else (if (rdOf ByteArray.empty x5 x7).toList = ([43] : List UInt8) then (basculeref12_Takes.l0 k x5 x6 (wrap64 (x7 + 1))) else (if x7 < (x6.length : Int) then (if (rdOf ByteArray.empty x5 x7).toList = (rdOf ByteArray.empty x6 x7).toList then (basculeref12_Takes.l0 k x5 x6 (wrap64 (x7 + 1))) else (some false)) else (none))))) else (none)) else (some ((x5.length : Int) == (x6.length : Int)))
end
def basculeref12_Takes.f (k : Nat) (a0 : ByteArray) (a1 : ByteArray) : Option (Bool) := (basculeref12_Levels.f k a0).bind fun t153 => ((basculeref12_Levels.f k a1).bind fun t156 => (if 0 < (a1.size : Int) then (if (bt a1 0) = 36 then (if 0 < (t153.length : Int) then (if (rdOf ByteArray.empty t153 0).toList = ([43] : List UInt8) then (basculeref12_Takes.j0 k t153 t156 true) else (basculeref12_Takes.j0 k t153 t156 ((rdOf ByteArray.empty t153 0).toList == ([35] : List UInt8)))) else (none)) else (basculeref12_Takes.j0 k t153 t156 false)) else (none)))
set_option maxHeartbeats 8000000 in
set_option maxRecDepth 100000 in
theorem basculeref12_Takes.calls (k : Nat) (a0 : ByteArray) (a1 : ByteArray) (r : Bool) (w : World) (h : basculeref12_Takes.f k a0 a1 = some r) :
  Calls Tryd.prog 19 #[.string a0, .string a1] w fun e w' => e = .returned (.bool r) ∧ Below w.heap.size w w' := by
 have HB := Aside0.mk (Below.refl w.heap.size w)
 have H : ((basculeref12_Levels.f k a0).bind fun t153 => ((basculeref12_Levels.f k a1).bind fun t156 => (if 0 < (a1.size : Int) then (if (bt a1 0) = 36 then (if 0 < (t153.length : Int) then (if (rdOf ByteArray.empty t153 0).toList = ([43] : List UInt8) then (basculeref12_Takes.j0 k t153 t156 true) else (basculeref12_Takes.j0 k t153 t156 ((rdOf ByteArray.empty t153 0).toList == ([35] : List UInt8)))) else (none)) else (basculeref12_Takes.j0 k t153 t156 false)) else (none)))) = some r := h
 clear h
 replace H := Option.bind_eq_some_iff.mp H
 obtain ⟨t153, A30, H⟩ := H
 replace H : ((basculeref12_Levels.f k a1).bind fun t156 => (if 0 < (a1.size : Int) then (if (bt a1 0) = 36 then (if 0 < (t153.length : Int) then (if (rdOf ByteArray.empty t153 0).toList = ([43] : List UInt8) then (basculeref12_Takes.j0 k t153 t156 true) else (basculeref12_Takes.j0 k t153 t156 ((rdOf ByteArray.empty t153 0).toList == ([35] : List UInt8)))) else (none)) else (basculeref12_Takes.j0 k t153 t156 false)) else (none))) = some r := H
 have A3 := Aside0.mk A30
 clear A30
 replace H := Option.bind_eq_some_iff.mp H
 obtain ⟨t156, A40, H⟩ := H
 replace H : (if 0 < (a1.size : Int) then (if (bt a1 0) = 36 then (if 0 < (t153.length : Int) then (if (rdOf ByteArray.empty t153 0).toList = ([43] : List UInt8) then (basculeref12_Takes.j0 k t153 t156 true) else (basculeref12_Takes.j0 k t153 t156 ((rdOf ByteArray.empty t153 0).toList == ([35] : List UInt8)))) else (none)) else (basculeref12_Takes.j0 k t153 t156 false)) else (none)) = some r := H
 have A4 := Aside0.mk A40
 clear A40
 have HC5 := Aside0.mk H
 clear H
 go_enter Tryd.func19, Tryd.ntmps19
 go_upto_region 3 with (first | (go_at_call 21; (with_reducible refine (basculeref12_Levels.calls k a0 t153 _ A3.out).mono ?_); rintro e w6 ⟨v154, rfl, ho0, hb⟩; have n0_ := Aside0.mk (Kd.R_lower ho0 (below_size zQx6a0_)); have n1_ := Aside0.mk (below_step zQx6a0_ hb); clear HB; have HO155 := n0_; have HB := n1_; clear n0_ n1_; (try clear hb); (try clear hb2); (try clear hk); (try clear hi); (try clear ho0)) | (go_at_call 21; (with_reducible refine (basculeref12_Levels.calls k a1 t156 _ A4.out).mono ?_); rintro e w7 ⟨v157, rfl, ho0, hb⟩; have n0_ := Aside0.mk (Kd.R_elder' zQx6a3_ (Kd.R_base ho0) hb); have n1_ := Aside0.mk (Kd.R_lower (Kd.R_new' ho0 (Kd.R_lt zQx6a3_)) (below_size zQx6a0_)); have n2_ := Aside0.mk (below_step zQx6a0_ hb); clear HO155; clear HB; have HO155 := n0_; have HO158 := n1_; have HB := n2_; clear n0_ n1_ n2_; (try clear hb); (try clear hb2); (try clear hk); (try clear hi); (try clear ho0)))
 repeat (go_quiet (first | (go_at_call 21; (with_reducible refine (basculeref12_Levels.calls k a0 t153 _ A3.out).mono ?_); rintro e w6 ⟨v154, rfl, ho0, hb⟩; have n0_ := Aside0.mk (Kd.R_lower ho0 (below_size zQx6a0_)); have n1_ := Aside0.mk (below_step zQx6a0_ hb); clear HB; have HO155 := n0_; have HB := n1_; clear n0_ n1_; (try clear hb); (try clear hb2); (try clear hk); (try clear hi); (try clear ho0)) | (go_at_call 21; (with_reducible refine (basculeref12_Levels.calls k a1 t156 _ A4.out).mono ?_); rintro e w7 ⟨v157, rfl, ho0, hb⟩; have n0_ := Aside0.mk (Kd.R_elder' zQx6a3_ (Kd.R_base ho0) hb); have n1_ := Aside0.mk (Kd.R_lower (Kd.R_new' ho0 (Kd.R_lt zQx6a3_)) (below_size zQx6a0_)); have n2_ := Aside0.mk (below_step zQx6a0_ hb); clear HO155; clear HB; have HO155 := n0_; have HO158 := n1_; have HB := n2_; clear n0_ n1_ n2_; (try clear hb); (try clear hb2); (try clear hk); (try clear hi); (try clear ho0))); go_upto_region 3 with (first | (go_at_call 21; (with_reducible refine (basculeref12_Levels.calls k a0 t153 _ A3.out).mono ?_); rintro e w6 ⟨v154, rfl, ho0, hb⟩; have n0_ := Aside0.mk (Kd.R_lower ho0 (below_size zQx6a0_)); have n1_ := Aside0.mk (below_step zQx6a0_ hb); clear HB; have HO155 := n0_; have HB := n1_; clear n0_ n1_; (try clear hb); (try clear hb2); (try clear hk); (try clear hi); (try clear ho0)) | (go_at_call 21; (with_reducible refine (basculeref12_Levels.calls k a1 t156 _ A4.out).mono ?_); rintro e w7 ⟨v157, rfl, ho0, hb⟩; have n0_ := Aside0.mk (Kd.R_elder' zQx6a3_ (Kd.R_base ho0) hb); have n1_ := Aside0.mk (Kd.R_lower (Kd.R_new' ho0 (Kd.R_lt zQx6a3_)) (below_size zQx6a0_)); have n2_ := Aside0.mk (below_step zQx6a0_ hb); clear HO155; clear HB; have HO155 := n0_; have HO158 := n1_; have HB := n2_; clear n0_ n1_ n2_; (try clear hb); (try clear hb2); (try clear hk); (try clear hi); (try clear ho0))))
 (try simp only [Act.put, List.setIfInBounds_toArray, List.set_cons_zero, List.set_cons_succ])
 go_cut [26] (fun v26 wc => ∃ (kq : Nat) (x26_4 : Bool), v26 = .bool x26_4 ∧ Aside0 (basculeref12_Takes.j0 kq t153 t156 x26_4 = some r) ∧ Aside0 (kq ≤ k) ∧ Aside0 (Kd.R Kd.string 9 wc w.heap.size (fun k_ => some k_ ≠ (v157 : Value).ownBlock) v154 t153) ∧ Aside0 (Kd.R Kd.string 9 wc w.heap.size (fun k_ => some k_ ≠ (v154 : Value).ownBlock) v157 t156) ∧ Aside0 (Below w.heap.size w wc))
 case first =>
  have H := HC5.out
  clear HC5
  have c8 : 0 < (a1.size : Int) := znQx6_
  rw [if_pos c8] at H
  have c8b0 : decide (0 < (a1.size : Int)) = true := decide_eq_true c8
  have c8b1 : decide (0 < a1.size) = true := decide_eq_true (by omega)
  have c8b7 : (0 < a1.size) := of_decide_eq_true c8b1
  clear c8
  (first | rw [c8b0] | (simp only [i64_w, i32_w]; rw [c8b0]) | skip)
  by_cases c10 : (bt a1 0) = 36
  rotate_left
  ·
   rw [if_neg c10] at H
   have c10b0 : ((bt a1 0) == 36) = false := beq_eq_false_iff_ne.mpr c10
   have c10b1 : ((bt a1 0) != 36) = true := bne_iff_ne.mpr c10
   have H' := Aside0.mk H
   clear H
   have p9 : 0 ≤ (0 : Int) := (by omega)
   have q9 : 0 < a1.size := (by have : (0 : Int) < (a1.size : Int) := of_decide_eq_true zQx6a1_; omega)
   have hx9 : ∀ h : 0 < a1.size, ((a1[0]'h).toNat : Int) = bt a1 0 := bt_at a1 0
   clear p9
   have qi9 : (0 < (a1.size : Int)) = True := eq_true (of_decide_eq_true zQx6a1_)
   replace q9 := eq_true q9
   go_wp2
   repeat (go_quiet (fail); try go_wp2)
   go_meet
   case rel => exact ⟨_, (false), zQx6a4_, H', ⟨by first | omega | exact Nat.le_refl _⟩, ⟨zQx6a5_⟩, ⟨zQx6a6_⟩, ⟨zQx6a0_⟩⟩
  rw [if_pos c10] at H
  have c10b0 : ((bt a1 0) == 36) = true := beq_iff_eq.mpr c10
  have c10b1 : ((bt a1 0) != 36) = false := bne_eq_false_iff_eq.mpr c10
  clear c10
  have c11 : 0 < (t153.length : Int) := znQx6_
  rw [if_pos c11] at H
  have c11b0 : decide (0 < (t153.length : Int)) = true := decide_eq_true c11
  have c11b1 : decide (0 < t153.length) = true := decide_eq_true (by omega)
  clear c11
  by_cases c12 : (rdOf ByteArray.empty t153 0).toList = ([43] : List UInt8)
  ·
   rw [if_pos c12] at H
   have c12b0 : ((rdOf ByteArray.empty t153 0).toList == ([43] : List UInt8)) = true := beq_iff_eq.mpr c12
   have c12b1 : ((rdOf ByteArray.empty t153 0).toList != ([43] : List UInt8)) = false := bne_eq_false_iff_eq.mpr c12
   clear c12
   have H' := Aside0.mk H
   clear H
   have p9 : 0 ≤ (0 : Int) := (by omega)
   have q9 : 0 < a1.size := (by have : (0 : Int) < (a1.size : Int) := of_decide_eq_true zQx6a1_; omega)
   have hx9 : ∀ h : 0 < a1.size, ((a1[0]'h).toNat : Int) = bt a1 0 := bt_at a1 0
   clear p9
   have qi9 : (0 < (a1.size : Int)) = True := eq_true (of_decide_eq_true zQx6a1_)
   replace q9 := eq_true q9
   obtain ⟨Ao13, co13, eo13⟩ := Kd.R_slice HO155.out
   subst eo13
   have p159 : 0 ≤ (0 : Int) := (by omega)
   have q159 : 0 < (t153.length : Int) := of_decide_eq_true zQx6a1_
   obtain ⟨ad159, e159, hx159_0⟩ := Kd.at_string (Kd.R_reads' HO155.out).2.2 0 p159 q159
   cases e159
   have qi159 : (0 < t153.length) = True := eq_true (by omega)
   (try rw [show ((0 : Int)).toNat = 0 from rfl] at hx159_0)
   (try rw [Addr.add_zero'] at hx159_0)
   replace p159 := eq_true p159
   replace q159 := eq_true q159
   go_wp2
   repeat (go_quiet (fail); try go_wp2)
   go_meet
   case rel => exact ⟨_, (true), zQx6a4_, H', ⟨by first | omega | exact Nat.le_refl _⟩, ⟨zQx6a5_⟩, ⟨zQx6a6_⟩, ⟨zQx6a0_⟩⟩
  rw [if_neg c12] at H
  have c12b0 : ((rdOf ByteArray.empty t153 0).toList == ([43] : List UInt8)) = false := beq_eq_false_iff_ne.mpr c12
  have c12b1 : ((rdOf ByteArray.empty t153 0).toList != ([43] : List UInt8)) = true := bne_iff_ne.mpr c12
  have H' := Aside0.mk H
  clear H
  have p9 : 0 ≤ (0 : Int) := (by omega)
  have q9 : 0 < a1.size := (by have : (0 : Int) < (a1.size : Int) := of_decide_eq_true zQx6a1_; omega)
  have hx9 : ∀ h : 0 < a1.size, ((a1[0]'h).toNat : Int) = bt a1 0 := bt_at a1 0
  clear p9
  have qi9 : (0 < (a1.size : Int)) = True := eq_true (of_decide_eq_true zQx6a1_)
  replace q9 := eq_true q9
  obtain ⟨Ao14, co14, eo14⟩ := Kd.R_slice HO155.out
  subst eo14
  have p159 : 0 ≤ (0 : Int) := (by omega)
  have q159 : 0 < (t153.length : Int) := of_decide_eq_true zQx6a1_
  obtain ⟨ad159, e159, hx159_0⟩ := Kd.at_string (Kd.R_reads' HO155.out).2.2 0 p159 q159
  cases e159
  have qi159 : (0 < t153.length) = True := eq_true (by omega)
  (try rw [show ((0 : Int)).toNat = 0 from rfl] at hx159_0)
  (try rw [Addr.add_zero'] at hx159_0)
  replace p159 := eq_true p159
  replace q159 := eq_true q159
  have p160 : 0 ≤ (0 : Int) := (by omega)
  have q160 : 0 < (t153.length : Int) := of_decide_eq_true zQx6a1_
  obtain ⟨ad160, e160, hx160_0⟩ := Kd.at_string (Kd.R_reads' HO155.out).2.2 0 p160 q160
  obtain rfl : ad159 = ad160 := (by injection e160)
  have qi160 : (0 < t153.length) = True := eq_true (by omega)
  (try rw [show ((0 : Int)).toNat = 0 from rfl] at hx160_0)
  (try rw [Addr.add_zero'] at hx160_0)
  replace p160 := eq_true p160
  replace q160 := eq_true q160
  go_wp2
  repeat (go_quiet (fail); try go_wp2)
  go_meet
  case rel => exact ⟨_, (((rdOf ByteArray.empty t153 0).toList == ([35] : List UInt8))), zQx6a4_, H', ⟨by first | omega | exact Nat.le_refl _⟩, ⟨zQx6a5_⟩, ⟨zQx6a6_⟩, ⟨zQx6a0_⟩⟩
 case rest =>
  clear HC5
  try clear c1
  try clear p1
  try clear q1
  try clear hx1
  try clear qi1
  try clear p2
  try clear c8
  try clear c8b0
  try clear c8b1
  try clear p9
  try clear q9
  try clear hx9
  try clear qi9
  try clear c10
  try clear c10b0
  try clear c10b1
  try clear c11
  try clear c11b0
  try clear c11b1
  try clear c12
  try clear c12b0
  try clear c12b1
  try clear hx159_0
  try clear hx160_0
  try clear p159
  try clear p160
  try clear p9
  try clear q159
  try clear q160
  try clear q9
  obtain ⟨kq, x26_4, rfl, HA, HJ4, HO_5, HO_6, HB⟩ := hcut
  cases kq with
  | zero => exact absurd HA.out (by simp [basculeref12_Takes.j0])
  | succ kj4 =>
   have H := HA.out
   clear HA
   simp only [basculeref12_Takes.j0] at H
   by_cases c15 : x26_4 = true
   ·
    subst c15
    have H1 : (some false) = some r := by rw [if_pos rfl] at H; exact H
    clear H
    have H := H1
    clear H1
    obtain rfl := Option.some.inj H
    go_wp2
    repeat (go_quiet (fail); try go_wp2)
    go_ret
    exact ⟨zQx6a2_, zQx6a0_⟩
   replace c15 := Bool.eq_false_iff.mpr c15
   subst c15
   have H1 : (basculeref12_Takes.l0 kj4 t153 t156 0) = some r := by rw [if_neg (show ¬ (false = true) by decide)] at H; exact H
   clear H
   have H := H1
   clear H1
   have H' := Aside0.mk H
   clear H
   go_wp2
   repeat (go_quiet (fail); try go_wp2)
   go_loopg [7] kj4 (fun kq v7 w' => ∃ (x7_2 : Int), v7 = .int .i64 x7_2 ∧ Aside0 (basculeref12_Takes.l0 kq t153 t156 x7_2 = some r) ∧ Aside0 (kq ≤ kj4) ∧ Aside0 (Kd.R Kd.string 9 w' w.heap.size (fun k_ => some k_ ≠ (v157 : Value).ownBlock) v154 t153) ∧ Aside0 (Kd.R Kd.string 9 w' w.heap.size (fun k_ => some k_ ≠ (v154 : Value).ownBlock) v157 t156) ∧ Aside0 (Below w.heap.size w w'))
   case atStart => exact ⟨(0), zQx6a4_, H', ⟨Nat.le_refl _⟩, ⟨zQx6a7_⟩, ⟨zQx6a8_⟩, ⟨zQx6a0_⟩⟩
   case round =>
    clear H'
    try clear c1
    try clear p1
    try clear q1
    try clear hx1
    try clear qi1
    try clear p2
    try clear c8
    try clear c8b0
    try clear c8b1
    try clear p9
    try clear q9
    try clear hx9
    try clear qi9
    try clear c10
    try clear c10b0
    try clear c10b1
    try clear c11
    try clear c11b0
    try clear c11b1
    try clear c12
    try clear c12b0
    try clear c12b1
    try clear c15
    try clear p15
    try clear q15
    try clear hx15
    try clear qi15
    try clear hx159_0
    try clear hx160_0
    try clear p1
    try clear p159
    try clear p160
    try clear p2
    try clear p9
    try clear q1
    try clear q159
    try clear q160
    try clear q9
    obtain ⟨x7_2, rfl, HA, HK2, HO_5, HO_6, HB⟩ := hrel
    cases gk with
    | zero => exact absurd HA.out (by simp [basculeref12_Takes.l0])
    | succ k2 =>
     have H := HA.out
     clear HA
     simp only [basculeref12_Takes.l0] at H
     by_cases c16 : x7_2 < (t153.length : Int)
     rotate_left
     ·
      rw [if_neg c16] at H
      have c16b0 : decide (x7_2 < (t153.length : Int)) = false := decide_eq_false c16
      clear c16
      obtain rfl := Option.some.inj H
      obtain ⟨Ao32, co32, eo32⟩ := Kd.R_slice HO_5.out
      subst eo32
      obtain ⟨Ao33, co33, eo33⟩ := Kd.R_slice HO_6.out
      subst eo33
      go_wp2
      repeat (go_quiet (fail); try go_wp2)
      go_ret
      exact ⟨zQx6a2_, zQx6a0_⟩
     rw [if_pos c16] at H
     have c16b0 : decide (x7_2 < (t153.length : Int)) = true := decide_eq_true c16
     clear c16
     have c17 : 0 ≤ x7_2 := znQx6_
     rw [if_pos c17] at H
     have c17b0 : decide (0 ≤ x7_2) = true := decide_eq_true c17
     clear c17
     by_cases c18 : (rdOf ByteArray.empty t153 x7_2).toList = ([35] : List UInt8)
     ·
      rw [if_pos c18] at H
      have c18b0 : ((rdOf ByteArray.empty t153 x7_2).toList == ([35] : List UInt8)) = true := beq_iff_eq.mpr c18
      have c18b1 : ((rdOf ByteArray.empty t153 x7_2).toList != ([35] : List UInt8)) = false := bne_eq_false_iff_eq.mpr c18
      clear c18
      obtain rfl := Option.some.inj H
      obtain ⟨Ao19, co19, eo19⟩ := Kd.R_slice HO_5.out
      subst eo19
      have p161 : 0 ≤ (x7_2 : Int) := of_decide_eq_true zQx6a1_
      have q161 : x7_2 < (t153.length : Int) := of_decide_eq_true zQx6a1_
      obtain ⟨ad161, e161, hx161_0⟩ := Kd.at_string (Kd.R_reads' HO_5.out).2.2 x7_2 p161 q161
      cases e161
      replace p161 := eq_true p161
      replace q161 := eq_true q161
      go_wp2
      repeat (go_quiet (fail); try go_wp2)
      go_ret
      exact ⟨zQx6a2_, zQx6a0_⟩
     rw [if_neg c18] at H
     have c18b0 : ((rdOf ByteArray.empty t153 x7_2).toList == ([35] : List UInt8)) = false := beq_eq_false_iff_ne.mpr c18
     have c18b1 : ((rdOf ByteArray.empty t153 x7_2).toList != ([35] : List UInt8)) = true := bne_iff_ne.mpr c18
     by_cases c20 : x7_2 ≥ (t156.length : Int)
     ·
      rw [if_pos c20] at H
      have c20b0 : decide ((t156.length : Int) ≤ x7_2) = true := decide_eq_true c20
      clear c20
      obtain rfl := Option.some.inj H
      obtain ⟨Ao21, co21, eo21⟩ := Kd.R_slice HO_5.out
      subst eo21
      have p161 : 0 ≤ (x7_2 : Int) := of_decide_eq_true zQx6a1_
      have q161 : x7_2 < (t153.length : Int) := of_decide_eq_true zQx6a1_
      obtain ⟨ad161, e161, hx161_0⟩ := Kd.at_string (Kd.R_reads' HO_5.out).2.2 x7_2 p161 q161
      cases e161
      replace p161 := eq_true p161
      replace q161 := eq_true q161
      obtain ⟨Ao22, co22, eo22⟩ := Kd.R_slice HO_6.out
      subst eo22
      go_wp2
      repeat (go_quiet (fail); try go_wp2)
      go_ret
      exact ⟨zQx6a2_, zQx6a0_⟩
     rw [if_neg c20] at H
     have c20b0 : decide ((t156.length : Int) ≤ x7_2) = false := decide_eq_false c20
     clear c20
     by_cases c23 : (rdOf ByteArray.empty t153 x7_2).toList = ([43] : List UInt8)
     ·
      rw [if_pos c23] at H
      have c23b0 : ((rdOf ByteArray.empty t153 x7_2).toList == ([43] : List UInt8)) = true := beq_iff_eq.mpr c23
      have c23b1 : ((rdOf ByteArray.empty t153 x7_2).toList != ([43] : List UInt8)) = false := bne_eq_false_iff_eq.mpr c23
      clear c23
      have H' := Aside0.mk H
      clear H
      obtain ⟨Ao24, co24, eo24⟩ := Kd.R_slice HO_5.out
      subst eo24
      have p161 : 0 ≤ (x7_2 : Int) := of_decide_eq_true zQx6a1_
      have q161 : x7_2 < (t153.length : Int) := of_decide_eq_true zQx6a1_
      obtain ⟨ad161, e161, hx161_0⟩ := Kd.at_string (Kd.R_reads' HO_5.out).2.2 x7_2 p161 q161
      cases e161
      replace p161 := eq_true p161
      replace q161 := eq_true q161
      obtain ⟨Ao25, co25, eo25⟩ := Kd.R_slice HO_6.out
      subst eo25
      have p162 : 0 ≤ (x7_2 : Int) := of_decide_eq_true zQx6a1_
      have q162 : x7_2 < (t153.length : Int) := of_decide_eq_true zQx6a1_
      obtain ⟨ad162, e162, hx162_0⟩ := Kd.at_string (Kd.R_reads' HO_5.out).2.2 x7_2 p162 q162
      obtain rfl : ad161 = ad162 := (by injection e162)
      replace p162 := eq_true p162
      replace q162 := eq_true q162
      go_wp2
      repeat (go_quiet (fail); try go_wp2)
      go_roundg k2
      case measure => have := HJ4.out; have := HK2.out; omega
      case rel => exact ⟨(wrap64 (x7_2 + 1)), zQx6a4_, H', ⟨by have := HJ4.out; have := HK2.out; omega⟩, ⟨zQx6a7_⟩, ⟨zQx6a8_⟩, ⟨zQx6a0_⟩⟩
     rw [if_neg c23] at H
     have c23b0 : ((rdOf ByteArray.empty t153 x7_2).toList == ([43] : List UInt8)) = false := beq_eq_false_iff_ne.mpr c23
     have c23b1 : ((rdOf ByteArray.empty t153 x7_2).toList != ([43] : List UInt8)) = true := bne_iff_ne.mpr c23
     have c26 : x7_2 < (t156.length : Int) := znQx6_
     rw [if_pos c26] at H
     have c26b0 : decide (x7_2 < (t156.length : Int)) = true := decide_eq_true c26
     clear c26
     by_cases c27 : (rdOf ByteArray.empty t153 x7_2).toList = (rdOf ByteArray.empty t156 x7_2).toList
     rotate_left
     ·
      rw [if_neg c27] at H
      have c27b0 : ((rdOf ByteArray.empty t153 x7_2).toList == (rdOf ByteArray.empty t156 x7_2).toList) = false := beq_eq_false_iff_ne.mpr c27
      have c27b1 : ((rdOf ByteArray.empty t153 x7_2).toList != (rdOf ByteArray.empty t156 x7_2).toList) = true := bne_iff_ne.mpr c27
      obtain rfl := Option.some.inj H
      obtain ⟨Ao30, co30, eo30⟩ := Kd.R_slice HO_5.out
      subst eo30
      have p161 : 0 ≤ (x7_2 : Int) := of_decide_eq_true zQx6a1_
      have q161 : x7_2 < (t153.length : Int) := of_decide_eq_true zQx6a1_
      obtain ⟨ad161, e161, hx161_0⟩ := Kd.at_string (Kd.R_reads' HO_5.out).2.2 x7_2 p161 q161
      cases e161
      replace p161 := eq_true p161
      replace q161 := eq_true q161
      obtain ⟨Ao31, co31, eo31⟩ := Kd.R_slice HO_6.out
      subst eo31
      have p162 : 0 ≤ (x7_2 : Int) := of_decide_eq_true zQx6a1_
      have q162 : x7_2 < (t153.length : Int) := of_decide_eq_true zQx6a1_
      obtain ⟨ad162, e162, hx162_0⟩ := Kd.at_string (Kd.R_reads' HO_5.out).2.2 x7_2 p162 q162
      obtain rfl : ad161 = ad162 := (by injection e162)
      replace p162 := eq_true p162
      replace q162 := eq_true q162
      have p163 : 0 ≤ (x7_2 : Int) := of_decide_eq_true zQx6a1_
      have q163 : x7_2 < (t153.length : Int) := of_decide_eq_true zQx6a1_
      obtain ⟨ad163, e163, hx163_0⟩ := Kd.at_string (Kd.R_reads' HO_5.out).2.2 x7_2 p163 q163
      obtain rfl : ad161 = ad163 := (by injection e163)
      replace p163 := eq_true p163
      replace q163 := eq_true q163
      have p164 : 0 ≤ (x7_2 : Int) := of_decide_eq_true zQx6a1_
      have q164 : x7_2 < (t156.length : Int) := of_decide_eq_true zQx6a1_
      obtain ⟨ad164, e164, hx164_0⟩ := Kd.at_string (Kd.R_reads' HO_6.out).2.2 x7_2 p164 q164
      cases e164
      replace p164 := eq_true p164
      replace q164 := eq_true q164
      go_wp2
      repeat (go_quiet (fail); try go_wp2)
      go_ret
      exact ⟨zQx6a2_, zQx6a0_⟩
     rw [if_pos c27] at H
     have c27b0 : ((rdOf ByteArray.empty t153 x7_2).toList == (rdOf ByteArray.empty t156 x7_2).toList) = true := beq_iff_eq.mpr c27
     have c27b1 : ((rdOf ByteArray.empty t153 x7_2).toList != (rdOf ByteArray.empty t156 x7_2).toList) = false := bne_eq_false_iff_eq.mpr c27
     clear c27
     have H' := Aside0.mk H
     clear H
     obtain ⟨Ao28, co28, eo28⟩ := Kd.R_slice HO_5.out
     subst eo28
     have p161 : 0 ≤ (x7_2 : Int) := of_decide_eq_true zQx6a1_
     have q161 : x7_2 < (t153.length : Int) := of_decide_eq_true zQx6a1_
     obtain ⟨ad161, e161, hx161_0⟩ := Kd.at_string (Kd.R_reads' HO_5.out).2.2 x7_2 p161 q161
     cases e161
     replace p161 := eq_true p161
     replace q161 := eq_true q161
     obtain ⟨Ao29, co29, eo29⟩ := Kd.R_slice HO_6.out
     subst eo29
     have p162 : 0 ≤ (x7_2 : Int) := of_decide_eq_true zQx6a1_
     have q162 : x7_2 < (t153.length : Int) := of_decide_eq_true zQx6a1_
     obtain ⟨ad162, e162, hx162_0⟩ := Kd.at_string (Kd.R_reads' HO_5.out).2.2 x7_2 p162 q162
     obtain rfl : ad161 = ad162 := (by injection e162)
     replace p162 := eq_true p162
     replace q162 := eq_true q162
     have p163 : 0 ≤ (x7_2 : Int) := of_decide_eq_true zQx6a1_
     have q163 : x7_2 < (t153.length : Int) := of_decide_eq_true zQx6a1_
     obtain ⟨ad163, e163, hx163_0⟩ := Kd.at_string (Kd.R_reads' HO_5.out).2.2 x7_2 p163 q163
     obtain rfl : ad161 = ad163 := (by injection e163)
     replace p163 := eq_true p163
     replace q163 := eq_true q163
     have p164 : 0 ≤ (x7_2 : Int) := of_decide_eq_true zQx6a1_
     have q164 : x7_2 < (t156.length : Int) := of_decide_eq_true zQx6a1_
     obtain ⟨ad164, e164, hx164_0⟩ := Kd.at_string (Kd.R_reads' HO_6.out).2.2 x7_2 p164 q164
     cases e164
     replace p164 := eq_true p164
     replace q164 := eq_true q164
     go_wp2
     repeat (go_quiet (fail); try go_wp2)
     go_roundg k2
     case measure => have := HJ4.out; have := HK2.out; omega
     case rel => exact ⟨(wrap64 (x7_2 + 1)), zQx6a4_, H', ⟨by have := HJ4.out; have := HK2.out; omega⟩, ⟨zQx6a7_⟩, ⟨zQx6a8_⟩, ⟨zQx6a0_⟩⟩
-- NOT PRINTED: function 5 (basculelaw13_SubsFinds)
-- NOT PRINTED: function 6 (basculelaw13_SubsNil)
end Go.Proofs.YtjibcekillcgjaaDoor.Q
