/- Qx13 -/
import Derived.Test.YtmkekhjbbapngaaGreatDoorSValueReadsQx12
namespace Go.Proofs.YtmkekhjbbapngaaGreatDoor.Q
open Go.RowKit YtmkekhjbbapngaaGreatDoorW.PrintWords YtmkekhjbbapngaaGreatDoorW.PrintLast YtmkekhjbbapngaaGreatDoorW.PrintMore
attribute [local go_sem] max2_int min2_int max_two min_two
set_option linter.all false
theorem zQx13a0_ {P_ : Prop} (h_ : P_ := by repeat (first | (with_reducible first | exact HB.out | apply below_alloc | apply pw_below_drewN | apply below_drew1) | exact HB.out)) : P_ := h_
theorem zQx13a1_ {P_ : Prop} (h_ : P_ := by (try simp only [List.map_toArray, List.map_cons, List.map_nil]); first | done | rfl | (simp only [List.length_drop, List.length_take]; rfl)) : P_ := h_
theorem zQx13a2_ {P_ : Prop} (h_ : P_ := by first | rfl | (simp [errW_none, errW_some] <;> rfl) | (simp [*, errW_none, errW_some] <;> rfl)) : P_ := h_
theorem zQx13a3_ {P_ : Prop} (h_ : P_ := by first | rfl | (simp; done) | (simp [*]; done)) : P_ := h_
theorem zQx13a4_ {P_ : Prop} (h_ : P_ := by have := HJ3.out; first | omega | exact Nat.le_refl _) : P_ := h_
theorem znQx13_ {X_ : Prop} [Decidable X_] (h_ : ¬ X_ → False := by intro c_; rw [if_neg c_] at H; exact absurd H (by simp)) : X_ := Decidable.byContradiction h_
mutual
def value_plain.j0 : Nat → Bool → ByteArray → ByteArray → Option (ByteArray × Bool × Bool)
 | 0, _, _, _ => none
 | k + 1, x8, x9, x10 => if x9.toList = ([] : List UInt8) then (value_plain.j1 k x8 x9 x10 true) else (if x9.size + x10.size ≤ 9223372036854775807 then ((strings_Trim.f (x9 ++ x10) (⟨#[48, 49, 50, 51, 52, 53, 54, 55, 56, 57]⟩ : ByteArray)).bind fun t202 => (if t202.toList = ([] : List UInt8) then (if (x9.size : Int) > 1 then (if 0 < (x9.size : Int) then (value_plain.j1 k x8 x9 x10 ((bt x9 0) == 48)) else (none)) else (value_plain.j1 k x8 x9 x10 false)) else (value_plain.j1 k x8 x9 x10 true))) else (none))
def value_plain.j1 : Nat → Bool → ByteArray → ByteArray → Bool → Option (ByteArray × Bool × Bool)
 | 0, _, _, _, _ => none
 | k + 1, x8, x9, x10, x53 => if x53 = true then (some ((⟨#[]⟩ : ByteArray), false, false)) else (if x9.size + x10.size ≤ 9223372036854775807 then ((strings_TrimLeft.f (x9 ++ x10) (⟨#[48]⟩ : ByteArray)).bind fun t203 => (if x8 = true then (if t203.toList = ([] : List UInt8) then (some ((⟨#[]⟩ : ByteArray), false, false)) else (if 1 + t203.size ≤ 9223372036854775807 then (some ((⟨#[48]⟩ : ByteArray) ++ t203, x8, true)) else (none))) else (if 1 + t203.size ≤ 9223372036854775807 then (some ((⟨#[48]⟩ : ByteArray) ++ t203, x8, true)) else (none)))) else (none))
end
def value_plain.f (k : Nat) (a0 : ByteArray) (a1 : Int) : Option (ByteArray × Bool × Bool) := (strings_CutPrefix.f a0 (⟨#[45]⟩ : ByteArray)).bind fun bt197 => (if a1 > 0 then ((strings_Cut.f bt197.1 (⟨#[46]⟩ : ByteArray)).bind fun bt199 => (if bt199.2.2 = true then (if (bt199.2.1.size : Int) = a1 then (value_plain.j0 k bt197.2 bt199.1 bt199.2.1) else (some ((⟨#[]⟩ : ByteArray), false, false))) else (some ((⟨#[]⟩ : ByteArray), false, false)))) else (value_plain.j0 k bt197.2 bt197.1 (⟨#[]⟩ : ByteArray)))
theorem value_plain.mono_l : ∀ k, (∀ y0 y1 y2, LeO (value_plain.j0 k y0 y1 y2) (value_plain.j0 (k + 1) y0 y1 y2)) ∧ (∀ y0 y1 y2 y3, LeO (value_plain.j1 k y0 y1 y2 y3) (value_plain.j1 (k + 1) y0 y1 y2 y3))
 | 0 => ⟨fun _ _ _ r h => by simp [value_plain.j0] at h, fun _ _ _ _ r h => by simp [value_plain.j1] at h⟩
 | k + 1 => by
  obtain ⟨ih0, ih1⟩ := value_plain.mono_l k
  refine ⟨?_, ?_⟩
  ·
   intro y0 y1 y2
   unfold value_plain.j0
   repeat' first
   | (with_reducible first | exact ih0 _ _ _ | exact ih1 _ _ _ _ | exact LeO.refl _ | exact LeO.none _ | refine LeO.ite ?_ ?_ | refine LeO.bind ?_ (fun _ => ?_))
  ·
   intro y0 y1 y2 y3
   unfold value_plain.j1
   repeat' first
   | (with_reducible first | exact ih0 _ _ _ | exact ih1 _ _ _ _ | exact LeO.refl _ | exact LeO.none _ | refine LeO.ite ?_ ?_ | refine LeO.bind ?_ (fun _ => ?_))
theorem value_plain.mono : ∀ a0 a1 k, LeO (value_plain.f k a0 a1) (value_plain.f (k + 1) a0 a1) := by
 intro a0 a1 k
 obtain ⟨ih0, ih1⟩ := value_plain.mono_l k
 unfold value_plain.f
 repeat' first
   | (with_reducible first | exact ih0 _ _ _ | exact ih1 _ _ _ _ | exact LeO.refl _ | exact LeO.none _ | refine LeO.ite ?_ ?_ | refine LeO.bind ?_ (fun _ => ?_))
set_option maxHeartbeats 8000000 in
set_option maxRecDepth 100000 in
theorem value_plain.calls (k : Nat) (a0 : ByteArray) (a1 : Int) (r1 : ByteArray) (r2 : Bool) (r3 : Bool) (w : World) (hLd_ : Val.Laid w) (h : value_plain.f k a0 a1 = some (r1, r2, r3)) :
  Calls Tryz.prog 38 #[.string a0, .int .i64 a1] w fun e w' => e = .returned (.tuple #[.string r1, .bool r2, .bool r3]) ∧ Below w.heap.size w w' := by
 have HB := Aside0.mk (Below.refl w.heap.size w)
 have H : ((strings_CutPrefix.f a0 (⟨#[45]⟩ : ByteArray)).bind fun bt197 => (if a1 > 0 then ((strings_Cut.f bt197.1 (⟨#[46]⟩ : ByteArray)).bind fun bt199 => (if bt199.2.2 = true then (if (bt199.2.1.size : Int) = a1 then (value_plain.j0 k bt197.2 bt199.1 bt199.2.1) else (some ((⟨#[]⟩ : ByteArray), false, false))) else (some ((⟨#[]⟩ : ByteArray), false, false)))) else (value_plain.j0 k bt197.2 bt197.1 (⟨#[]⟩ : ByteArray)))) = some (r1, r2, r3) := h
 clear h
 replace H := Option.bind_eq_some_iff.mp H
 obtain ⟨⟨t197, t198⟩, A30, H⟩ := H
 replace H : (if a1 > 0 then ((strings_Cut.f t197 (⟨#[46]⟩ : ByteArray)).bind fun bt199 => (if bt199.2.2 = true then (if (bt199.2.1.size : Int) = a1 then (value_plain.j0 k t198 bt199.1 bt199.2.1) else (some ((⟨#[]⟩ : ByteArray), false, false))) else (some ((⟨#[]⟩ : ByteArray), false, false)))) else (value_plain.j0 k t198 t197 (⟨#[]⟩ : ByteArray))) = some (r1, r2, r3) := H
 have A3 := Aside0.mk A30
 clear A30
 have HC4 := Aside0.mk H
 clear H
 go_enter Tryz.func38, Tryz.ntmps38
 go_upto_if 20 with (first | ((with_reducible refine gate_callee (f := 69) rfl ?_); refine goesL_ (some 15) rfl rfl Tryz.func69 (by kernel_rfl) rfl #[.string a0, .string (⟨#[45]⟩ : ByteArray)] rfl zQx13a1_ ?_; (with_reducible refine (strings_CutPrefix.calls a0 (⟨#[45]⟩ : ByteArray) t197 t198 _ A3.out).mono ?_); rintro e w' ⟨rfl, ⟨nd, rfl⟩⟩; refine ⟨_, rfl, ?_⟩))
 (try simp only [Act.put, sA_, sB_, sC_])
 go_cut [9, 10] (fun v9 v10 wc => ∃ (kq : Nat) (x9_3 : ByteArray) (x10_3 : ByteArray), v9 = .string x9_3 ∧ v10 = .string x10_3 ∧ Aside0 (value_plain.j0 kq t198 x9_3 x10_3 = some (r1, r2, r3)) ∧ Aside0 (kq ≤ k) ∧ Aside0 (Below w.heap.size w wc))
 case first =>
  have H := HC4.out
  clear HC4
  by_cases c5 : a1 > 0
  rotate_left
  ·
   rw [if_neg c5] at H
   have c5b0 : decide (0 < a1) = false := decide_eq_false c5
   clear c5
   (first | rw [c5b0] | (simp only [i64_w, i32_w]; rw [c5b0]) | skip)
   have H' := Aside0.mk H
   clear H
   go_wp2
   go_meet
   case rel => exact ⟨_, (t197), ((⟨#[]⟩ : ByteArray)), zQx13a3_, zQx13a3_, H', ⟨by first | omega | exact Nat.le_refl _⟩, ⟨zQx13a0_⟩⟩
  rw [if_pos c5] at H
  have c5b0 : decide (0 < a1) = true := decide_eq_true c5
  clear c5
  (first | rw [c5b0] | (simp only [i64_w, i32_w]; rw [c5b0]) | skip)
  replace H := Option.bind_eq_some_iff.mp H
  obtain ⟨⟨t199, t200, t201⟩, A60, H⟩ := H
  replace H : (if t201 = true then (if (t200.size : Int) = a1 then (value_plain.j0 k t198 t199 t200) else (some ((⟨#[]⟩ : ByteArray), false, false))) else (some ((⟨#[]⟩ : ByteArray), false, false))) = some (r1, r2, r3) := H
  have A6 := Aside0.mk A60
  clear A60
  by_cases c7 : t201 = true
  rotate_left
  ·
   replace c7 := Bool.eq_false_iff.mpr c7
   subst c7
   have H1 : (some ((⟨#[]⟩ : ByteArray), false, false)) = some (r1, r2, r3) := by rw [if_neg (show ¬ (false = true) by decide)] at H; exact H
   clear H
   have H := H1
   clear H1
   simp only [Option.some.injEq, Prod.mk.injEq] at H
   obtain ⟨rfl, rfl, rfl⟩ := H
   go_wp2_with (first | ((with_reducible refine gate_callee (f := 70) rfl ?_); refine goesL_ (some 23) rfl rfl Tryz.func70 (by kernel_rfl) rfl #[.string t197, .string (⟨#[46]⟩ : ByteArray)] rfl zQx13a1_ ?_; (with_reducible refine (strings_Cut.calls t197 (⟨#[46]⟩ : ByteArray) t199 t200 false _ (Val.Laid.below hLd_ zQx13a0_) A6.out).mono ?_); rintro e w11 ⟨rfl, hb⟩; refine ⟨_, rfl, ?_⟩; have n0_ := Aside0.mk (below_step zQx13a0_ hb); clear HB; have HB := n0_; clear n0_; (try clear hb); (try clear hb2); (try clear hk); (try clear hi)))
   go_ret3
   exact ⟨zQx13a2_, zQx13a0_⟩
  subst c7
  have H1 : (if (t200.size : Int) = a1 then (value_plain.j0 k t198 t199 t200) else (some ((⟨#[]⟩ : ByteArray), false, false))) = some (r1, r2, r3) := by rw [if_pos rfl] at H; exact H
  clear H
  have H := H1
  clear H1
  by_cases c8 : (t200.size : Int) = a1
  rotate_left
  ·
   rw [if_neg c8] at H
   have c8b0 : ((t200.size : Int) == a1) = false := beq_eq_false_iff_ne.mpr c8
   have c8b1 : ((t200.size : Int) != a1) = true := bne_iff_ne.mpr c8
   simp only [Option.some.injEq, Prod.mk.injEq] at H
   obtain ⟨rfl, rfl, rfl⟩ := H
   go_wp2_with (first | ((with_reducible refine gate_callee (f := 70) rfl ?_); refine goesL_ (some 23) rfl rfl Tryz.func70 (by kernel_rfl) rfl #[.string t197, .string (⟨#[46]⟩ : ByteArray)] rfl zQx13a1_ ?_; (with_reducible refine (strings_Cut.calls t197 (⟨#[46]⟩ : ByteArray) t199 t200 true _ (Val.Laid.below hLd_ zQx13a0_) A6.out).mono ?_); rintro e w10 ⟨rfl, hb⟩; refine ⟨_, rfl, ?_⟩; have n0_ := Aside0.mk (below_step zQx13a0_ hb); clear HB; have HB := n0_; clear n0_; (try clear hb); (try clear hb2); (try clear hk); (try clear hi)))
   go_ret3
   exact ⟨zQx13a2_, zQx13a0_⟩
  rw [if_pos c8] at H
  have c8b0 : ((t200.size : Int) == a1) = true := beq_iff_eq.mpr c8
  have c8b1 : ((t200.size : Int) != a1) = false := bne_eq_false_iff_eq.mpr c8
  clear c8
  have H' := Aside0.mk H
  clear H
  go_wp2_with (first | ((with_reducible refine gate_callee (f := 70) rfl ?_); refine goesL_ (some 23) rfl rfl Tryz.func70 (by kernel_rfl) rfl #[.string t197, .string (⟨#[46]⟩ : ByteArray)] rfl zQx13a1_ ?_; (with_reducible refine (strings_Cut.calls t197 (⟨#[46]⟩ : ByteArray) t199 t200 true _ (Val.Laid.below hLd_ zQx13a0_) A6.out).mono ?_); rintro e w9 ⟨rfl, hb⟩; refine ⟨_, rfl, ?_⟩; have n0_ := Aside0.mk (below_step zQx13a0_ hb); clear HB; have HB := n0_; clear n0_; (try clear hb); (try clear hb2); (try clear hk); (try clear hi)))
  go_meet
  case rel => exact ⟨_, (t199), (t200), zQx13a3_, zQx13a3_, H', ⟨by first | omega | exact Nat.le_refl _⟩, ⟨zQx13a0_⟩⟩
 case rest =>
  clear HC4
  try clear p2
  try clear c3
  try clear c5
  try clear c5b0
  try clear c6
  try clear c7
  try clear c8
  try clear c8b0
  try clear c8b1
  obtain ⟨kq, x9_3, x10_3, rfl, rfl, HA, HJ3, HB⟩ := hcut
  cases kq with
  | zero => exact absurd HA.out (by simp [value_plain.j0])
  | succ kj3 =>
   have H := HA.out
   clear HA
   simp only [value_plain.j0] at H
   have HC12 := Aside0.mk H
   clear H
   go_upto_region 8 with (fail)
   go_cut [53] (fun v53 wc => ∃ (kq : Nat) (x53_11 : Bool), v53 = .bool x53_11 ∧ Aside0 (value_plain.j1 kq t198 x9_3 x10_3 x53_11 = some (r1, r2, r3)) ∧ Aside0 (kq ≤ kj3) ∧ Aside0 (Below w.heap.size w wc))
   case first =>
    have H := HC12.out
    clear HC12
    by_cases c13 : x9_3.toList = ([] : List UInt8)
    ·
     rw [if_pos c13] at H
     have c13b0 : (x9_3.toList == ([] : List UInt8)) = true := beq_iff_eq.mpr c13
     have c13b1 : (x9_3.toList != ([] : List UInt8)) = false := bne_eq_false_iff_eq.mpr c13
     clear c13
     (first | rw [c13b0] | (simp only [i64_w, i32_w]; rw [c13b0]) | skip)
     have H' := Aside0.mk H
     clear H
     go_wp2
     go_meet
     case rel => exact ⟨_, (true), zQx13a3_, H', ⟨zQx13a4_⟩, ⟨zQx13a0_⟩⟩
    rw [if_neg c13] at H
    have c13b0 : (x9_3.toList == ([] : List UInt8)) = false := beq_eq_false_iff_ne.mpr c13
    have c13b1 : (x9_3.toList != ([] : List UInt8)) = true := bne_iff_ne.mpr c13
    (first | rw [c13b0] | (simp only [i64_w, i32_w]; rw [c13b0]) | skip)
    have c14 : x9_3.size + x10_3.size ≤ 9223372036854775807 := znQx13_
    rw [if_pos c14] at H
    have c14b0 := eq_true c14
    have c14b1 : decide (x9_3.size + x10_3.size ≤ 9223372036854775807) = true := decide_eq_true c14
    try have c14b2 : (9223372036854775807 < x9_3.size + x10_3.size) = False := eq_false (Nat.not_lt.2 c14)
    replace H := Option.bind_eq_some_iff.mp H
    obtain ⟨t202, A150, H⟩ := H
    replace H : (if t202.toList = ([] : List UInt8) then (if (x9_3.size : Int) > 1 then (if 0 < (x9_3.size : Int) then (value_plain.j1 kj3 t198 x9_3 x10_3 ((bt x9_3 0) == 48)) else (none)) else (value_plain.j1 kj3 t198 x9_3 x10_3 false)) else (value_plain.j1 kj3 t198 x9_3 x10_3 true)) = some (r1, r2, r3) := H
    have A15 := Aside0.mk A150
    clear A150
    by_cases c16 : t202.toList = ([] : List UInt8)
    rotate_left
    ·
     rw [if_neg c16] at H
     have c16b0 : (t202.toList == ([] : List UInt8)) = false := beq_eq_false_iff_ne.mpr c16
     have c16b1 : (t202.toList != ([] : List UInt8)) = true := bne_iff_ne.mpr c16
     have H' := Aside0.mk H
     clear H
     go_wp2_with (first | (go_at_call 71; (with_reducible refine (strings_Trim.calls (x9_3 ++ x10_3) (⟨#[48, 49, 50, 51, 52, 53, 54, 55, 56, 57]⟩ : ByteArray) t202 _ A15.out).mono ?_); rintro e w22 ⟨rfl, hb⟩; have n0_ := Aside0.mk (below_step zQx13a0_ hb); clear HB; have HB := n0_; clear n0_; (try clear hb); (try clear hb2); (try clear hk); (try clear hi)))
     go_meet
     case rel => exact ⟨_, (true), zQx13a3_, H', ⟨zQx13a4_⟩, ⟨zQx13a0_⟩⟩
    rw [if_pos c16] at H
    have c16b0 : (t202.toList == ([] : List UInt8)) = true := beq_iff_eq.mpr c16
    have c16b1 : (t202.toList != ([] : List UInt8)) = false := bne_eq_false_iff_eq.mpr c16
    clear c16
    by_cases c17 : (x9_3.size : Int) > 1
    rotate_left
    ·
     rw [if_neg c17] at H
     have c17b0 : decide (1 < (x9_3.size : Int)) = false := decide_eq_false c17
     have c17b1 : decide (1 < x9_3.size) = false := decide_eq_false (by omega)
     clear c17
     have H' := Aside0.mk H
     clear H
     go_wp2_with (first | (go_at_call 71; (with_reducible refine (strings_Trim.calls (x9_3 ++ x10_3) (⟨#[48, 49, 50, 51, 52, 53, 54, 55, 56, 57]⟩ : ByteArray) t202 _ A15.out).mono ?_); rintro e w21 ⟨rfl, hb⟩; have n0_ := Aside0.mk (below_step zQx13a0_ hb); clear HB; have HB := n0_; clear n0_; (try clear hb); (try clear hb2); (try clear hk); (try clear hi)))
     go_meet
     case rel => exact ⟨_, (false), zQx13a3_, H', ⟨zQx13a4_⟩, ⟨zQx13a0_⟩⟩
    rw [if_pos c17] at H
    have c17b0 : decide (1 < (x9_3.size : Int)) = true := decide_eq_true c17
    have c17b1 : decide (1 < x9_3.size) = true := decide_eq_true (by omega)
    have c17b7 : (1 < x9_3.size) := of_decide_eq_true c17b1
    clear c17
    have c18 : 0 < (x9_3.size : Int) := znQx13_
    rw [if_pos c18] at H
    have c18b0 : decide (0 < (x9_3.size : Int)) = true := decide_eq_true c18
    have c18b1 : decide (0 < x9_3.size) = true := decide_eq_true (by omega)
    have c18b7 : (0 < x9_3.size) := of_decide_eq_true c18b1
    clear c18
    have H' := Aside0.mk H
    clear H
    go_wp2_with (first | (go_at_call 71; (with_reducible refine (strings_Trim.calls (x9_3 ++ x10_3) (⟨#[48, 49, 50, 51, 52, 53, 54, 55, 56, 57]⟩ : ByteArray) t202 _ A15.out).mono ?_); rintro e w20 ⟨rfl, hb⟩; have n0_ := Aside0.mk (below_step zQx13a0_ hb); clear HB; have HB := n0_; clear n0_; (try clear hb); (try clear hb2); (try clear hk); (try clear hi); have p19 : 0 ≤ (0 : Int) := (by omega); have q19 : 0 < x9_3.size := (by have : (0 : Int) < (x9_3.size : Int) := of_decide_eq_true (by first | (with_reducible assumption) | assumption); omega); have hx19 : ∀ h : 0 < x9_3.size, ((x9_3[0]'h).toNat : Int) = bt x9_3 0 := bt_at x9_3 0; clear p19; have qi19 : (0 < (x9_3.size : Int)) = True := eq_true (of_decide_eq_true (by first | (with_reducible assumption) | assumption)); replace q19 := eq_true q19))
    go_meet
    case rel => exact ⟨_, (((bt x9_3 0) == 48)), zQx13a3_, H', ⟨zQx13a4_⟩, ⟨zQx13a0_⟩⟩
   case rest =>
    clear HC12
    try clear c1
    try clear p1
    try clear q1
    try clear hx1
    try clear qi1
    try clear p2
    try clear c3
    try clear c5
    try clear c5b0
    try clear c6
    try clear c7
    try clear c8
    try clear c8b0
    try clear c8b1
    try clear c13
    try clear c13b0
    try clear c13b1
    try clear c14
    try clear c14b0
    try clear c14b1
    try clear c14b2
    try clear c16
    try clear c16b0
    try clear c16b1
    try clear c17
    try clear c17b0
    try clear c17b1
    try clear c18
    try clear c18b0
    try clear c18b1
    try clear p19
    try clear q19
    try clear hx19
    try clear qi19
    try clear p19
    try clear p2
    try clear q19
    obtain ⟨kq, x53_11, rfl, HA, HJ11, HB⟩ := hcut
    cases kq with
    | zero => exact absurd HA.out (by simp [value_plain.j1])
    | succ kj11 =>
     have H := HA.out
     clear HA
     simp only [value_plain.j1] at H
     by_cases c23 : x53_11 = true
     ·
      subst c23
      have H1 : (some ((⟨#[]⟩ : ByteArray), false, false)) = some (r1, r2, r3) := by rw [if_pos rfl] at H; exact H
      clear H
      have H := H1
      clear H1
      simp only [Option.some.injEq, Prod.mk.injEq] at H
      obtain ⟨rfl, rfl, rfl⟩ := H
      go_wp2
      go_ret3
      exact ⟨zQx13a2_, zQx13a0_⟩
     replace c23 := Bool.eq_false_iff.mpr c23
     subst c23
     have H1 : (if x9_3.size + x10_3.size ≤ 9223372036854775807 then ((strings_TrimLeft.f (x9_3 ++ x10_3) (⟨#[48]⟩ : ByteArray)).bind fun t203 => (if t198 = true then (if t203.toList = ([] : List UInt8) then (some ((⟨#[]⟩ : ByteArray), false, false)) else (if 1 + t203.size ≤ 9223372036854775807 then (some ((⟨#[48]⟩ : ByteArray) ++ t203, t198, true)) else (none))) else (if 1 + t203.size ≤ 9223372036854775807 then (some ((⟨#[48]⟩ : ByteArray) ++ t203, t198, true)) else (none)))) else (none)) = some (r1, r2, r3) := by rw [if_neg (show ¬ (false = true) by decide)] at H; exact H
     clear H
     have H := H1
     clear H1
     have c24 : x9_3.size + x10_3.size ≤ 9223372036854775807 := znQx13_
     rw [if_pos c24] at H
     have c24b0 := eq_true c24
     have c24b1 : decide (x9_3.size + x10_3.size ≤ 9223372036854775807) = true := decide_eq_true c24
     try have c24b2 : (9223372036854775807 < x9_3.size + x10_3.size) = False := eq_false (Nat.not_lt.2 c24)
     replace H := Option.bind_eq_some_iff.mp H
     obtain ⟨t203, A250, H⟩ := H
     replace H : (if t198 = true then (if t203.toList = ([] : List UInt8) then (some ((⟨#[]⟩ : ByteArray), false, false)) else (if 1 + t203.size ≤ 9223372036854775807 then (some ((⟨#[48]⟩ : ByteArray) ++ t203, t198, true)) else (none))) else (if 1 + t203.size ≤ 9223372036854775807 then (some ((⟨#[48]⟩ : ByteArray) ++ t203, t198, true)) else (none))) = some (r1, r2, r3) := H
     have A25 := Aside0.mk A250
     clear A250
     by_cases c26 : t198 = true
     rotate_left
     ·
      replace c26 := Bool.eq_false_iff.mpr c26
      subst c26
      have H1 : (if 1 + t203.size ≤ 9223372036854775807 then (some ((⟨#[48]⟩ : ByteArray) ++ t203, false, true)) else (none)) = some (r1, r2, r3) := by rw [if_neg (show ¬ (false = true) by decide)] at H; exact H
      clear H
      have H := H1
      clear H1
      have c31 : 1 + t203.size ≤ 9223372036854775807 := znQx13_
      rw [if_pos c31] at H
      have c31b0 := eq_true c31
      have c31b1 : decide (1 + t203.size ≤ 9223372036854775807) = true := decide_eq_true c31
      try have c31b2 : (9223372036854775807 < 1 + t203.size) = False := eq_false (Nat.not_lt.2 c31)
      simp only [Option.some.injEq, Prod.mk.injEq] at H
      obtain ⟨rfl, rfl, rfl⟩ := H
      go_wp2_with (first | ((with_reducible refine gate_callee (f := 72) rfl ?_); refine goesL_ (some 57) rfl rfl Tryz.func72 (by kernel_rfl) rfl #[.string (x9_3 ++ x10_3), .string (⟨#[48]⟩ : ByteArray)] rfl zQx13a1_ ?_; (with_reducible refine (strings_TrimLeft.calls (x9_3 ++ x10_3) (⟨#[48]⟩ : ByteArray) t203 _ A25.out).mono ?_); rintro e w32 ⟨rfl, hb⟩; refine ⟨_, rfl, ?_⟩; have n0_ := Aside0.mk (below_step zQx13a0_ hb); clear HB; have HB := n0_; clear n0_; (try clear hb); (try clear hb2); (try clear hk); (try clear hi)))
      go_ret3
      exact ⟨zQx13a2_, zQx13a0_⟩
     subst c26
     have H1 : (if t203.toList = ([] : List UInt8) then (some ((⟨#[]⟩ : ByteArray), false, false)) else (if 1 + t203.size ≤ 9223372036854775807 then (some ((⟨#[48]⟩ : ByteArray) ++ t203, true, true)) else (none))) = some (r1, r2, r3) := by rw [if_pos rfl] at H; exact H
     clear H
     have H := H1
     clear H1
     by_cases c27 : t203.toList = ([] : List UInt8)
     ·
      rw [if_pos c27] at H
      have c27b0 : (t203.toList == ([] : List UInt8)) = true := beq_iff_eq.mpr c27
      have c27b1 : (t203.toList != ([] : List UInt8)) = false := bne_eq_false_iff_eq.mpr c27
      clear c27
      simp only [Option.some.injEq, Prod.mk.injEq] at H
      obtain ⟨rfl, rfl, rfl⟩ := H
      go_wp2_with (first | ((with_reducible refine gate_callee (f := 72) rfl ?_); refine goesL_ (some 57) rfl rfl Tryz.func72 (by kernel_rfl) rfl #[.string (x9_3 ++ x10_3), .string (⟨#[48]⟩ : ByteArray)] rfl zQx13a1_ ?_; (with_reducible refine (strings_TrimLeft.calls (x9_3 ++ x10_3) (⟨#[48]⟩ : ByteArray) t203 _ A25.out).mono ?_); rintro e w28 ⟨rfl, hb⟩; refine ⟨_, rfl, ?_⟩; have n0_ := Aside0.mk (below_step zQx13a0_ hb); clear HB; have HB := n0_; clear n0_; (try clear hb); (try clear hb2); (try clear hk); (try clear hi)))
      go_ret3
      exact ⟨zQx13a2_, zQx13a0_⟩
     rw [if_neg c27] at H
     have c27b0 : (t203.toList == ([] : List UInt8)) = false := beq_eq_false_iff_ne.mpr c27
     have c27b1 : (t203.toList != ([] : List UInt8)) = true := bne_iff_ne.mpr c27
     have c29 : 1 + t203.size ≤ 9223372036854775807 := znQx13_
     rw [if_pos c29] at H
     have c29b0 := eq_true c29
     have c29b1 : decide (1 + t203.size ≤ 9223372036854775807) = true := decide_eq_true c29
     try have c29b2 : (9223372036854775807 < 1 + t203.size) = False := eq_false (Nat.not_lt.2 c29)
     simp only [Option.some.injEq, Prod.mk.injEq] at H
     obtain ⟨rfl, rfl, rfl⟩ := H
     go_wp2_with (first | ((with_reducible refine gate_callee (f := 72) rfl ?_); refine goesL_ (some 57) rfl rfl Tryz.func72 (by kernel_rfl) rfl #[.string (x9_3 ++ x10_3), .string (⟨#[48]⟩ : ByteArray)] rfl zQx13a1_ ?_; (with_reducible refine (strings_TrimLeft.calls (x9_3 ++ x10_3) (⟨#[48]⟩ : ByteArray) t203 _ A25.out).mono ?_); rintro e w30 ⟨rfl, hb⟩; refine ⟨_, rfl, ?_⟩; have n0_ := Aside0.mk (below_step zQx13a0_ hb); clear HB; have HB := n0_; clear n0_; (try clear hb); (try clear hb2); (try clear hk); (try clear hi)))
     go_ret3
     exact ⟨zQx13a2_, zQx13a0_⟩
end Go.Proofs.YtmkekhjbbapngaaGreatDoor.Q
