/- Qx12 -/
import Derived.Test.YtmkekhjbbapngaaGreatDoorSValueReadsQx3
import Derived.Test.YtmkekhjbbapngaaGreatDoorSValueReadsQx11
set_option maxRecDepth 100000
set_option maxHeartbeats 8000000
namespace Go.Proofs.YtmkekhjbbapngaaGreatDoor.Q
open Go.RowKit YtmkekhjbbapngaaGreatDoorW.PrintWords YtmkekhjbbapngaaGreatDoorW.PrintLast YtmkekhjbbapngaaGreatDoorW.PrintMore
attribute [local go_sem] max2_int min2_int max_two min_two
set_option linter.all false
theorem zQx12a0_ {P_ : Prop} (h_ : P_ := by repeat (first | (with_reducible first | exact HB.out | apply below_alloc | apply pw_below_drewN | apply below_drew1) | exact HB.out)) : P_ := h_
theorem zQx12a1_ {P_ : Prop} (h_ : P_ := by repeat (first | (with_reducible first | exact HB.out | apply below_alloc | apply pw_below_drewN | apply below_drew1 | refine below_set ?_ GE189.out) | exact HB.out)) : P_ := h_
theorem zQx12a2_ {P_ : Prop} (h_ : P_ := by repeat (first | exact Drawn0.refl _ | apply Drawn0.step)) : P_ := h_
theorem zQx12a3_ {P_ : Prop} (h_ : P_ := by (try simp only [List.map_toArray, List.map_cons, List.map_nil]); first | done | rfl | (simp only [List.length_drop, List.length_take]; rfl)) : P_ := h_
theorem zQx12a4_ {P_ : Prop} (h_ : P_ := by first | rfl | (simp; done) | (simp [*]; done)) : P_ := h_
theorem zQx12a5_ {P_ : Prop} (h_ : P_ := by first | (with_reducible assumption) | assumption) : P_ := h_
theorem zQx12a6_ {P_ : Prop} (h_ : P_ := by first | rfl | (simp [errW_none, errW_some] <;> rfl) | (simp [*, errW_none, errW_some] <;> rfl)) : P_ := h_
theorem zQx12a7_ {P_ : Prop} (h_ : P_ := by (with_reducible repeat (first | refine blk_drewN ?_ _ | refine blk_drew ?_ | refine blk_alloc ?_ _)); exact BK189.out) : P_ := h_
theorem znQx12_ {X_ : Prop} [Decidable X_] (h_ : ¬ X_ → False := by intro c_; rw [if_neg c_] at H; exact absurd H (by simp)) : X_ := Decidable.byContradiction h_
def basculeref01_Bits.l0 : Nat → List Int → Int → Option (Bool)
 | 0, _, _ => none
 | k + 1, x0, x3 => if x3 < (x0.length : Int) then (if 0 ≤ x3 then (if (rd x0 x3) = 0 then (basculeref01_Bits.l0 k x0 (wrap64 (x3 + 1))) else (if (rd x0 x3) = 1 then (basculeref01_Bits.l0 k x0 (wrap64 (x3 + 1))) else (some false))) else (none)) else (some true)
def basculeref01_Bits.f (k : Nat) (l0 : List Int) : Option (Bool) := basculeref01_Bits.l0 k l0 0
theorem basculeref01_Bits.mono_l : ∀ k, (∀ y0 y1, LeO (basculeref01_Bits.l0 k y0 y1) (basculeref01_Bits.l0 (k + 1) y0 y1))
 | 0 => fun _ _ r h => by simp [basculeref01_Bits.l0] at h
 | k + 1 => by
  have ih0 := basculeref01_Bits.mono_l k
  ·
   intro y0 y1
   unfold basculeref01_Bits.l0
   repeat' first
   | (with_reducible first | exact ih0 _ _ | exact LeO.refl _ | exact LeO.none _ | refine LeO.ite ?_ ?_ | refine LeO.bind ?_ (fun _ => ?_))
theorem basculeref01_Bits.mono : ∀ a0 k, LeO (basculeref01_Bits.f k a0) (basculeref01_Bits.f (k + 1) a0) := by
 intro a0 k
 have ih0 := basculeref01_Bits.mono_l k
 unfold basculeref01_Bits.f
 repeat' first
   | (with_reducible first | exact ih0 _ _ | exact LeO.refl _ | exact LeO.none _ | refine LeO.ite ?_ ?_ | refine LeO.bind ?_ (fun _ => ?_))
theorem basculeref01_Bits.calls (k : Nat) (A0 : Option Addr) (c0 : Nat) (l0 : List Int) (r : Bool) (w : World) (hr0 : Kd.C (Kd.int .i64) w A0 l0.length l0) (hc0 : l0.length ≤ c0) (h : basculeref01_Bits.f k l0 = some r) :
  Calls Tryz.prog 32 #[.slice A0 l0.length c0] w fun e w' => e = .returned (.bool r) ∧ Drawn0 w w' := by
 have HR0 := Aside0.mk hr0
 have HC0 := Aside0.mk hc0
 clear hr0 hc0
 have H : (basculeref01_Bits.l0 k l0 0) = some r := h
 clear h
 have H' := Aside0.mk H
 clear H
 go_enter Tryz.func32, Tryz.ntmps32
 go_wp2
 go_loopg [3] k (fun kq v3 w' => ∃ (x3_1 : Int), v3 = .int .i64 x3_1 ∧ Aside0 (basculeref01_Bits.l0 kq l0 x3_1 = some r) ∧ Aside0 (kq ≤ k) ∧ Drawn0 w w')
 case atStart => exact ⟨(0), zQx12a4_, H', ⟨Nat.le_refl _⟩, zQx12a2_⟩
 case round =>
  clear H'
  obtain ⟨x3_1, rfl, HA, HK1, ⟨m1, rfl⟩⟩ := hrel
  cases gk with
  | zero => exact absurd HA.out (by simp [basculeref01_Bits.l0])
  | succ k1 =>
   have H := HA.out
   clear HA
   simp only [basculeref01_Bits.l0] at H
   by_cases c2 : x3_1 < (l0.length : Int)
   rotate_left
   ·
    rw [if_neg c2] at H
    have c2b0 : decide (x3_1 < (l0.length : Int)) = false := decide_eq_false c2
    clear c2
    obtain rfl := Option.some.inj H
    go_wp2
    go_ret
    exact ⟨zQx12a4_, zQx12a2_⟩
   rw [if_pos c2] at H
   have c2b0 : decide (x3_1 < (l0.length : Int)) = true := decide_eq_true c2
   clear c2
   have c3 : 0 ≤ x3_1 := znQx12_
   rw [if_pos c3] at H
   have c3b0 : decide (0 ≤ x3_1) = true := decide_eq_true c3
   clear c3
   by_cases c4 : (rd l0 x3_1) = 0
   ·
    rw [if_pos c4] at H
    have c4b0 : ((rd l0 x3_1) == 0) = true := beq_iff_eq.mpr c4
    have c4b1 : ((rd l0 x3_1) != 0) = false := bne_eq_false_iff_eq.mpr c4
    clear c4
    have H' := Aside0.mk H
    clear H
    have p187 : 0 ≤ (x3_1 : Int) := of_decide_eq_true zQx12a5_
    have q187 : x3_1 < (l0.length : Int) := of_decide_eq_true zQx12a5_
    obtain ⟨ad187, e187, hx187_0⟩ := Kd.at_int HR0.out x3_1 p187 q187
    cases e187
    replace p187 := eq_true p187
    replace q187 := eq_true q187
    go_wp2
    go_roundg k1
    case measure => have := HK1.out; omega
    case rel => exact ⟨(wrap64 (x3_1 + 1)), zQx12a4_, H', ⟨by have := HK1.out; omega⟩, zQx12a2_⟩
   rw [if_neg c4] at H
   have c4b0 : ((rd l0 x3_1) == 0) = false := beq_eq_false_iff_ne.mpr c4
   have c4b1 : ((rd l0 x3_1) != 0) = true := bne_iff_ne.mpr c4
   by_cases c5 : (rd l0 x3_1) = 1
   rotate_left
   ·
    rw [if_neg c5] at H
    have c5b0 : ((rd l0 x3_1) == 1) = false := beq_eq_false_iff_ne.mpr c5
    have c5b1 : ((rd l0 x3_1) != 1) = true := bne_iff_ne.mpr c5
    obtain rfl := Option.some.inj H
    have p187 : 0 ≤ (x3_1 : Int) := of_decide_eq_true zQx12a5_
    have q187 : x3_1 < (l0.length : Int) := of_decide_eq_true zQx12a5_
    obtain ⟨ad187, e187, hx187_0⟩ := Kd.at_int HR0.out x3_1 p187 q187
    cases e187
    replace p187 := eq_true p187
    replace q187 := eq_true q187
    have p188 : 0 ≤ (x3_1 : Int) := of_decide_eq_true zQx12a5_
    have q188 : x3_1 < (l0.length : Int) := of_decide_eq_true zQx12a5_
    obtain ⟨ad188, e188, hx188_0⟩ := Kd.at_int HR0.out x3_1 p188 q188
    obtain rfl : ad187 = ad188 := (by injection e188)
    replace p188 := eq_true p188
    replace q188 := eq_true q188
    go_wp2
    go_ret
    exact ⟨zQx12a4_, zQx12a2_⟩
   rw [if_pos c5] at H
   have c5b0 : ((rd l0 x3_1) == 1) = true := beq_iff_eq.mpr c5
   have c5b1 : ((rd l0 x3_1) != 1) = false := bne_eq_false_iff_eq.mpr c5
   clear c5
   have H' := Aside0.mk H
   clear H
   have p187 : 0 ≤ (x3_1 : Int) := of_decide_eq_true zQx12a5_
   have q187 : x3_1 < (l0.length : Int) := of_decide_eq_true zQx12a5_
   obtain ⟨ad187, e187, hx187_0⟩ := Kd.at_int HR0.out x3_1 p187 q187
   cases e187
   replace p187 := eq_true p187
   replace q187 := eq_true q187
   have p188 : 0 ≤ (x3_1 : Int) := of_decide_eq_true zQx12a5_
   have q188 : x3_1 < (l0.length : Int) := of_decide_eq_true zQx12a5_
   obtain ⟨ad188, e188, hx188_0⟩ := Kd.at_int HR0.out x3_1 p188 q188
   obtain rfl : ad187 = ad188 := (by injection e188)
   replace p188 := eq_true p188
   replace q188 := eq_true q188
   go_wp2
   go_roundg k1
   case measure => have := HK1.out; omega
   case rel => exact ⟨(wrap64 (x3_1 + 1)), zQx12a4_, H', ⟨by have := HK1.out; omega⟩, zQx12a2_⟩
def basculeref21_Words.j0 : Nat → Int → Bool → Option (Int)
 | 0, _, _ => none
 | k + 1, x3, x6 => if x6 = true then (some 1) else (if x3 = 9 then (some 4) else (if x3 = 10 then (some 4) else (some 2)))
def basculeref21_Words.f (k : Nat) (a0 : Int) : Option (Int) := if a0 = 1 then (some 0) else (if a0 = 2 then (basculeref21_Words.j0 k a0 (a0 == 2)) else (basculeref21_Words.j0 k a0 (a0 == 3)))
theorem basculeref21_Words.mono_l : ∀ k, (∀ y0 y1, LeO (basculeref21_Words.j0 k y0 y1) (basculeref21_Words.j0 (k + 1) y0 y1))
 | 0 => fun _ _ r h => by simp [basculeref21_Words.j0] at h
 | k + 1 => by
  have ih0 := basculeref21_Words.mono_l k
  ·
   intro y0 y1
   unfold basculeref21_Words.j0
   repeat' first
   | (with_reducible first | exact ih0 _ _ | exact LeO.refl _ | exact LeO.none _ | refine LeO.ite ?_ ?_ | refine LeO.bind ?_ (fun _ => ?_))
theorem basculeref21_Words.mono : ∀ a0 k, LeO (basculeref21_Words.f k a0) (basculeref21_Words.f (k + 1) a0) := by
 intro a0 k
 have ih0 := basculeref21_Words.mono_l k
 unfold basculeref21_Words.f
 repeat' first
   | (with_reducible first | exact ih0 _ _ | exact LeO.refl _ | exact LeO.none _ | refine LeO.ite ?_ ?_ | refine LeO.bind ?_ (fun _ => ?_))
theorem basculeref21_Words.calls (k : Nat) (a0 : Int) (r : Int) (w : World) (h : basculeref21_Words.f k a0 = some r) :
  Calls Tryz.prog 33 #[.int .i64 a0] w fun e w' => e = .returned (.int .i64 r) ∧ Drawn0 w w' := by
 have H : (if a0 = 1 then (some 0) else (if a0 = 2 then (basculeref21_Words.j0 k a0 (a0 == 2)) else (basculeref21_Words.j0 k a0 (a0 == 3)))) = some r := h
 clear h
 by_cases c2 : a0 = 1
 ·
  rw [if_pos c2] at H
  have c2b0 : (a0 == 1) = true := beq_iff_eq.mpr c2
  have c2b1 : (a0 != 1) = false := bne_eq_false_iff_eq.mpr c2
  clear c2
  obtain rfl := Option.some.inj H
  go_enter Tryz.func33, Tryz.ntmps33
  go_wp2
  go_ret
  exact ⟨zQx12a4_, zQx12a2_⟩
 rw [if_neg c2] at H
 have c2b0 : (a0 == 1) = false := beq_eq_false_iff_ne.mpr c2
 have c2b1 : (a0 != 1) = true := bne_iff_ne.mpr c2
 have HC3 := Aside0.mk H
 clear H
 go_enter Tryz.func33, Tryz.ntmps33
 go_upto_if 6 with (fail)
 go_cut [6] (fun v6 wc => ∃ (kq : Nat) (x6_2 : Bool), v6 = .bool x6_2 ∧ Aside0 (basculeref21_Words.j0 kq a0 x6_2 = some r) ∧ Aside0 (kq ≤ k) ∧ Drawn0 w wc)
 case first =>
  have H := HC3.out
  clear HC3
  by_cases c4 : a0 = 2
  rotate_left
  ·
   rw [if_neg c4] at H
   have c4b0 : (a0 == 2) = false := beq_eq_false_iff_ne.mpr c4
   have c4b1 : (a0 != 2) = true := bne_iff_ne.mpr c4
   (first | rw [c4b0] | (simp only [i64_w, i32_w]; rw [c4b0]) | skip)
   have H' := Aside0.mk H
   clear H
   go_wp2
   go_meet
   case rel => exact ⟨_, ((a0 == 3)), zQx12a4_, H', ⟨by first | omega | exact Nat.le_refl _⟩, zQx12a2_⟩
  rw [if_pos c4] at H
  have c4b0 : (a0 == 2) = true := beq_iff_eq.mpr c4
  have c4b1 : (a0 != 2) = false := bne_eq_false_iff_eq.mpr c4
  clear c4
  (first | rw [c4b0] | (simp only [i64_w, i32_w]; rw [c4b0]) | skip)
  have H' := Aside0.mk H
  clear H
  go_wp2
  go_meet
  case rel => exact ⟨_, ((a0 == 2)), zQx12a4_, H', ⟨by first | omega | exact Nat.le_refl _⟩, zQx12a2_⟩
 case rest =>
  clear HC3
  try clear c2
  try clear c2b0
  try clear c2b1
  try clear p2
  try clear c3
  try clear c4
  try clear c4b0
  try clear c4b1
  obtain ⟨kq, x6_2, rfl, HA, HJ2, ⟨mc2, rfl⟩⟩ := hcut
  cases kq with
  | zero => exact absurd HA.out (by simp [basculeref21_Words.j0])
  | succ kj2 =>
   have H := HA.out
   clear HA
   simp only [basculeref21_Words.j0] at H
   by_cases c5 : x6_2 = true
   ·
    subst c5
    have H1 : (some 1) = some r := by rw [if_pos rfl] at H; exact H
    clear H
    have H := H1
    clear H1
    obtain rfl := Option.some.inj H
    go_wp2
    go_ret
    exact ⟨zQx12a4_, zQx12a2_⟩
   replace c5 := Bool.eq_false_iff.mpr c5
   subst c5
   have H1 : (if a0 = 9 then (some 4) else (if a0 = 10 then (some 4) else (some 2))) = some r := by rw [if_neg (show ¬ (false = true) by decide)] at H; exact H
   clear H
   have H := H1
   clear H1
   by_cases c6 : a0 = 9
   ·
    rw [if_pos c6] at H
    have c6b0 : (a0 == 9) = true := beq_iff_eq.mpr c6
    have c6b1 : (a0 != 9) = false := bne_eq_false_iff_eq.mpr c6
    clear c6
    obtain rfl := Option.some.inj H
    go_wp2
    go_ret
    exact ⟨zQx12a4_, zQx12a2_⟩
   rw [if_neg c6] at H
   have c6b0 : (a0 == 9) = false := beq_eq_false_iff_ne.mpr c6
   have c6b1 : (a0 != 9) = true := bne_iff_ne.mpr c6
   by_cases c7 : a0 = 10
   rotate_left
   ·
    rw [if_neg c7] at H
    have c7b0 : (a0 == 10) = false := beq_eq_false_iff_ne.mpr c7
    have c7b1 : (a0 != 10) = true := bne_iff_ne.mpr c7
    obtain rfl := Option.some.inj H
    go_wp2
    go_ret
    exact ⟨zQx12a4_, zQx12a2_⟩
   rw [if_pos c7] at H
   have c7b0 : (a0 == 10) = true := beq_iff_eq.mpr c7
   have c7b1 : (a0 != 10) = false := bne_eq_false_iff_eq.mpr c7
   clear c7
   obtain rfl := Option.some.inj H
   go_wp2
   go_ret
   exact ⟨zQx12a4_, zQx12a2_⟩
def basculeref22_May.l0 : Nat → List Int → Int → ByteArray → Int → Int → Int → Int → Int → Int → Bool → Option (Bool)
 | 0, _, _, _, _, _, _, _, _, _, _ => none
 | k + 1, x1, x5, x190000, x190001, x190002, x190003, x190004, x190005, x190006, x190007 => if x5 < (x1.length : Int) then (if 0 ≤ x5 then ((basculeref01_Is.f (rd x1 x5)).bind fun t192 => (if t192 = true then (basculeref22_May.l0 k x1 (wrap64 (x5 + 1)) x190000 x190001 x190002 x190003 x190004 x190005 x190006 x190007) else (some false))) else (none)) else ((basculeref21_Words.f k x190004).bind fun t193 => (some ((x1.length : Int) == t193)))
def basculeref22_May.f (k : Nat) (a0_0 : ByteArray) (a0_1 : Int) (a0_2 : Int) (a0_3 : Int) (a0_4 : Int) (a0_5 : Int) (a0_6 : Int) (a0_7 : Bool) (l1 : List Int) : Option (Bool) := if a0_4 = 1 then (if (l1.length : Int) = 1 then ((basculeref01_Bits.f k l1).bind fun t190 => (some t190)) else (some false)) else (basculeref22_May.l0 k l1 0 a0_0 a0_1 a0_2 a0_3 a0_4 a0_5 a0_6 a0_7)
theorem basculeref22_May.mono_l : ∀ k, (∀ y0 y1 y2 y3 y4 y5 y6 y7 y8 y9, LeO (basculeref22_May.l0 k y0 y1 y2 y3 y4 y5 y6 y7 y8 y9) (basculeref22_May.l0 (k + 1) y0 y1 y2 y3 y4 y5 y6 y7 y8 y9))
 | 0 => fun _ _ _ _ _ _ _ _ _ _ r h => by simp [basculeref22_May.l0] at h
 | k + 1 => by
  have ih0 := basculeref22_May.mono_l k
  ·
   intro y0 y1 y2 y3 y4 y5 y6 y7 y8 y9
   unfold basculeref22_May.l0
   repeat' first
   | (with_reducible first | exact ih0 _ _ _ _ _ _ _ _ _ _ | exact basculeref01_Bits.mono _ _ | exact basculeref21_Words.mono _ _ | exact LeO.refl _ | exact LeO.none _ | refine LeO.ite ?_ ?_ | refine LeO.bind ?_ (fun _ => ?_))
theorem basculeref22_May.mono : ∀ a0 a1 a2 a3 a4 a5 a6 a7 a8 k, LeO (basculeref22_May.f k a0 a1 a2 a3 a4 a5 a6 a7 a8) (basculeref22_May.f (k + 1) a0 a1 a2 a3 a4 a5 a6 a7 a8) := by
 intro a0 a1 a2 a3 a4 a5 a6 a7 a8 k
 have ih0 := basculeref22_May.mono_l k
 unfold basculeref22_May.f
 repeat' first
   | (with_reducible first | exact ih0 _ _ _ _ _ _ _ _ _ _ | exact basculeref01_Bits.mono _ _ | exact basculeref21_Words.mono _ _ | exact LeO.refl _ | exact LeO.none _ | refine LeO.ite ?_ ?_ | refine LeO.bind ?_ (fun _ => ?_))
theorem basculeref22_May.calls (k : Nat) (a0_0 : ByteArray) (a0_1 : Int) (a0_2 : Int) (a0_3 : Int) (a0_4 : Int) (a0_5 : Int) (a0_6 : Int) (a0_7 : Bool) (A1 : Option Addr) (c1 : Nat) (l1 : List Int) (r : Bool) (w : World) (hr1 : Kd.C (Kd.int .i64) w A1 l1.length l1) (hc1 : l1.length ≤ c1) (h : basculeref22_May.f k a0_0 a0_1 a0_2 a0_3 a0_4 a0_5 a0_6 a0_7 l1 = some r) :
  Calls Tryz.prog 15 #[.agg #[.string a0_0, .int .i64 a0_1, .int .i64 a0_2, .int .i64 a0_3, .int .i64 a0_4, .int .i64 a0_5, .int .i64 a0_6, .bool a0_7], .slice A1 l1.length c1] w fun e w' => e = .returned (.bool r) ∧ Below w.heap.size w w' := by
 have hu23 := Tryz.underlying23
 have HR1 := Aside0.mk hr1
 have HC1 := Aside0.mk hc1
 clear hr1 hc1
 have HB := Aside0.mk (Below.refl w.heap.size w)
 have H : (if a0_4 = 1 then (if (l1.length : Int) = 1 then ((basculeref01_Bits.f k l1).bind fun t190 => (some t190)) else (some false)) else (basculeref22_May.l0 k l1 0 a0_0 a0_1 a0_2 a0_3 a0_4 a0_5 a0_6 a0_7)) = some r := h
 clear h
 by_cases c3 : a0_4 = 1
 ·
  rw [if_pos c3] at H
  have c3b0 : (a0_4 == 1) = true := beq_iff_eq.mpr c3
  have c3b1 : (a0_4 != 1) = false := bne_eq_false_iff_eq.mpr c3
  clear c3
  by_cases c4 : (l1.length : Int) = 1
  rotate_left
  ·
   rw [if_neg c4] at H
   have c4b0 : ((l1.length : Int) == 1) = false := beq_eq_false_iff_ne.mpr c4
   have c4b1 : ((l1.length : Int) != 1) = true := bne_iff_ne.mpr c4
   obtain rfl := Option.some.inj H
   go_enter Tryz.func15, Tryz.ntmps15
   go_wp2_with (first | ((with_reducible refine gate_dst (N := 2) rfl ?_); refine box_event ?hg (N := 2) ?hd (cs := #[.string a0_0, .int .i64 a0_1, .int .i64 a0_2, .int .i64 a0_3, .int .i64 a0_4, .int .i64 a0_5, .int .i64 a0_6, .bool a0_7]) (t := 23) ?hr ?_; (case hd => rfl); (case hg => rfl); (case hr => first | (go_simp; done) | (go_simp; rfl)); intro gb189 hg w8 hbox hb; have n0_ := Aside0.mk (below_step zQx12a0_ hb); have n1_ := Aside0.mk (hbox); have n2_ := Aside0.mk ((by rw [hg]; exact (below_size zQx12a0_) : w.heap.size ≤ gb189)); have n3_ := Aside0.mk ((by rw [hg]; exact (below_size zQx12a0_) : w.heap.size ≤ gb189)); clear HB; have HB := n0_; have BK189 := n1_; have GW189 := n2_; have GE189 := n3_; clear n0_ n1_ n2_ n3_; clear hb hbox hg; have hcz9_0 : w8.cell? ⟨gb189, 0, none⟩ = some (.string a0_0) := (blk_cell BK189.out 0).trans rfl; have hcz9_1 : w8.cell? ⟨gb189, 1, none⟩ = some (.int .i64 a0_1) := (blk_cell BK189.out 1).trans rfl; have hcz9_2 : w8.cell? ⟨gb189, 2, none⟩ = some (.int .i64 a0_2) := (blk_cell BK189.out 2).trans rfl; have hcz9_3 : w8.cell? ⟨gb189, 3, none⟩ = some (.int .i64 a0_3) := (blk_cell BK189.out 3).trans rfl; have hcz9_4 : w8.cell? ⟨gb189, 4, none⟩ = some (.int .i64 a0_4) := (blk_cell BK189.out 4).trans rfl; have hcz9_5 : w8.cell? ⟨gb189, 5, none⟩ = some (.int .i64 a0_5) := (blk_cell BK189.out 5).trans rfl; have hcz9_6 : w8.cell? ⟨gb189, 6, none⟩ = some (.int .i64 a0_6) := (blk_cell BK189.out 6).trans rfl; have hcz9_7 : w8.cell? ⟨gb189, 7, none⟩ = some (.bool a0_7) := (blk_cell BK189.out 7).trans rfl; have hfz9_0 := blk_frozen BK189.out 0; have hfz9_1 := blk_frozen BK189.out 1; have hfz9_2 := blk_frozen BK189.out 2; have hfz9_3 := blk_frozen BK189.out 3; have hfz9_4 := blk_frozen BK189.out 4; have hfz9_5 := blk_frozen BK189.out 5; have hfz9_6 := blk_frozen BK189.out 6; have hfz9_7 := blk_frozen BK189.out 7))
   go_ret
   exact ⟨zQx12a6_, zQx12a1_⟩
  rw [if_pos c4] at H
  have c4b0 : ((l1.length : Int) == 1) = true := beq_iff_eq.mpr c4
  have c4b1 : ((l1.length : Int) != 1) = false := bne_eq_false_iff_eq.mpr c4
  clear c4
  replace H := Option.bind_eq_some_iff.mp H
  obtain ⟨t190, A50, H⟩ := H
  replace H : (some t190) = some r := H
  have A5 := Aside0.mk A50
  clear A50
  obtain rfl := Option.some.inj H
  go_enter Tryz.func15, Tryz.ntmps15
  go_wp2_with (first | ((with_reducible refine gate_dst (N := 2) rfl ?_); refine box_event ?hg (N := 2) ?hd (cs := #[.string a0_0, .int .i64 a0_1, .int .i64 a0_2, .int .i64 a0_3, .int .i64 a0_4, .int .i64 a0_5, .int .i64 a0_6, .bool a0_7]) (t := 23) ?hr ?_; (case hd => rfl); (case hg => rfl); (case hr => first | (go_simp; done) | (go_simp; rfl)); intro gb189 hg w6 hbox hb; have n0_ := Aside0.mk (below_step zQx12a0_ hb); have n1_ := Aside0.mk (hbox); have n2_ := Aside0.mk ((by rw [hg]; exact (below_size zQx12a0_) : w.heap.size ≤ gb189)); have n3_ := Aside0.mk ((by rw [hg]; exact (below_size zQx12a0_) : w.heap.size ≤ gb189)); clear HB; have HB := n0_; have BK189 := n1_; have GW189 := n2_; have GE189 := n3_; clear n0_ n1_ n2_ n3_; clear hb hbox hg; have hcz7_0 : w6.cell? ⟨gb189, 0, none⟩ = some (.string a0_0) := (blk_cell BK189.out 0).trans rfl; have hcz7_1 : w6.cell? ⟨gb189, 1, none⟩ = some (.int .i64 a0_1) := (blk_cell BK189.out 1).trans rfl; have hcz7_2 : w6.cell? ⟨gb189, 2, none⟩ = some (.int .i64 a0_2) := (blk_cell BK189.out 2).trans rfl; have hcz7_3 : w6.cell? ⟨gb189, 3, none⟩ = some (.int .i64 a0_3) := (blk_cell BK189.out 3).trans rfl; have hcz7_4 : w6.cell? ⟨gb189, 4, none⟩ = some (.int .i64 a0_4) := (blk_cell BK189.out 4).trans rfl; have hcz7_5 : w6.cell? ⟨gb189, 5, none⟩ = some (.int .i64 a0_5) := (blk_cell BK189.out 5).trans rfl; have hcz7_6 : w6.cell? ⟨gb189, 6, none⟩ = some (.int .i64 a0_6) := (blk_cell BK189.out 6).trans rfl; have hcz7_7 : w6.cell? ⟨gb189, 7, none⟩ = some (.bool a0_7) := (blk_cell BK189.out 7).trans rfl; have hfz7_0 := blk_frozen BK189.out 0; have hfz7_1 := blk_frozen BK189.out 1; have hfz7_2 := blk_frozen BK189.out 2; have hfz7_3 := blk_frozen BK189.out 3; have hfz7_4 := blk_frozen BK189.out 4; have hfz7_5 := blk_frozen BK189.out 5; have hfz7_6 := blk_frozen BK189.out 6; have hfz7_7 := blk_frozen BK189.out 7) | (go_at_call 32; (with_reducible refine (basculeref01_Bits.calls k _ _ l1 t190 _ ?side1 ?side2 A5.out).mono ?_); (case side1 => repeat (first | exact (Kd.C_below HR1.out HB.out) | (with_reducible first | refine Kd.C_alloc ?_ _ | refine Kd.C_drewN ?_ _ | refine Kd.C_drew ?_))); (case side2 => exact HC1.out); rintro e w' ⟨rfl, ⟨nd, rfl⟩⟩))
  go_ret
  exact ⟨zQx12a6_, zQx12a1_⟩
 rw [if_neg c3] at H
 have c3b0 : (a0_4 == 1) = false := beq_eq_false_iff_ne.mpr c3
 have c3b1 : (a0_4 != 1) = true := bne_iff_ne.mpr c3
 have H' := Aside0.mk H
 clear H
 go_enter Tryz.func15, Tryz.ntmps15
 go_wp2_with (first | ((with_reducible refine gate_dst (N := 2) rfl ?_); refine box_event ?hg (N := 2) ?hd (cs := #[.string a0_0, .int .i64 a0_1, .int .i64 a0_2, .int .i64 a0_3, .int .i64 a0_4, .int .i64 a0_5, .int .i64 a0_6, .bool a0_7]) (t := 23) ?hr ?_; (case hd => rfl); (case hg => rfl); (case hr => first | (go_simp; done) | (go_simp; rfl)); intro gb189 hg w10 hbox hb; have n0_ := Aside0.mk (below_step zQx12a0_ hb); have n1_ := Aside0.mk (hbox); have n2_ := Aside0.mk ((by rw [hg]; exact (below_size zQx12a0_) : w.heap.size ≤ gb189)); have n3_ := Aside0.mk ((by rw [hg]; exact (below_size zQx12a0_) : w.heap.size ≤ gb189)); clear HB; have HB := n0_; have BK189 := n1_; have GW189 := n2_; have GE189 := n3_; clear n0_ n1_ n2_ n3_; clear hb hbox hg; have hcz11_0 : w10.cell? ⟨gb189, 0, none⟩ = some (.string a0_0) := (blk_cell BK189.out 0).trans rfl; have hcz11_1 : w10.cell? ⟨gb189, 1, none⟩ = some (.int .i64 a0_1) := (blk_cell BK189.out 1).trans rfl; have hcz11_2 : w10.cell? ⟨gb189, 2, none⟩ = some (.int .i64 a0_2) := (blk_cell BK189.out 2).trans rfl; have hcz11_3 : w10.cell? ⟨gb189, 3, none⟩ = some (.int .i64 a0_3) := (blk_cell BK189.out 3).trans rfl; have hcz11_4 : w10.cell? ⟨gb189, 4, none⟩ = some (.int .i64 a0_4) := (blk_cell BK189.out 4).trans rfl; have hcz11_5 : w10.cell? ⟨gb189, 5, none⟩ = some (.int .i64 a0_5) := (blk_cell BK189.out 5).trans rfl; have hcz11_6 : w10.cell? ⟨gb189, 6, none⟩ = some (.int .i64 a0_6) := (blk_cell BK189.out 6).trans rfl; have hcz11_7 : w10.cell? ⟨gb189, 7, none⟩ = some (.bool a0_7) := (blk_cell BK189.out 7).trans rfl; have hfz11_0 := blk_frozen BK189.out 0; have hfz11_1 := blk_frozen BK189.out 1; have hfz11_2 := blk_frozen BK189.out 2; have hfz11_3 := blk_frozen BK189.out 3; have hfz11_4 := blk_frozen BK189.out 4; have hfz11_5 := blk_frozen BK189.out 5; have hfz11_6 := blk_frozen BK189.out 6; have hfz11_7 := blk_frozen BK189.out 7))
 go_loopg [5] k (fun kq v5 w' => ∃ (x5_1 : Int), v5 = .int .i64 x5_1 ∧ Aside0 (basculeref22_May.l0 kq l1 x5_1 a0_0 a0_1 a0_2 a0_3 a0_4 a0_5 a0_6 a0_7 = some r) ∧ Aside0 (kq ≤ k) ∧ Aside0 (w'.heap[gb189]? = some (.cells #[.string a0_0, .int .i64 a0_1, .int .i64 a0_2, .int .i64 a0_3, .int .i64 a0_4, .int .i64 a0_5, .int .i64 a0_6, .bool a0_7] 23 (0, 0))) ∧ Aside0 (Below w.heap.size w w'))
 case atStart => exact ⟨(0), zQx12a4_, H', ⟨Nat.le_refl _⟩, ⟨zQx12a7_⟩, ⟨zQx12a1_⟩⟩
 case round =>
  clear H'
  try clear c1
  try clear p2
  try clear c3
  try clear c3b0
  try clear c3b1
  try clear c4
  try clear c4b0
  try clear c4b1
  try clear hcz11_0
  try clear hcz11_1
  try clear hcz11_2
  try clear hcz11_3
  try clear hcz11_4
  try clear hcz11_5
  try clear hcz11_6
  try clear hcz11_7
  try clear hcz7_0
  try clear hcz7_1
  try clear hcz7_2
  try clear hcz7_3
  try clear hcz7_4
  try clear hcz7_5
  try clear hcz7_6
  try clear hcz7_7
  try clear hcz9_0
  try clear hcz9_1
  try clear hcz9_2
  try clear hcz9_3
  try clear hcz9_4
  try clear hcz9_5
  try clear hcz9_6
  try clear hcz9_7
  try clear hfz11_0
  try clear hfz11_1
  try clear hfz11_2
  try clear hfz11_3
  try clear hfz11_4
  try clear hfz11_5
  try clear hfz11_6
  try clear hfz11_7
  try clear hfz7_0
  try clear hfz7_1
  try clear hfz7_2
  try clear hfz7_3
  try clear hfz7_4
  try clear hfz7_5
  try clear hfz7_6
  try clear hfz7_7
  try clear hfz9_0
  try clear hfz9_1
  try clear hfz9_2
  try clear hfz9_3
  try clear hfz9_4
  try clear hfz9_5
  try clear hfz9_6
  try clear hfz9_7
  obtain ⟨x5_1, rfl, HA, HK1, BK189, HB⟩ := hrel
  cases gk with
  | zero => exact absurd HA.out (by simp [basculeref22_May.l0])
  | succ k1 =>
   have H := HA.out
   clear HA
   simp only [basculeref22_May.l0] at H
   by_cases c12 : x5_1 < (l1.length : Int)
   rotate_left
   ·
    rw [if_neg c12] at H
    have c12b0 : decide (x5_1 < (l1.length : Int)) = false := decide_eq_false c12
    clear c12
    replace H := Option.bind_eq_some_iff.mp H
    obtain ⟨t193, A160, H⟩ := H
    replace H : (some ((l1.length : Int) == t193)) = some r := H
    have A16 := Aside0.mk A160
    clear A160
    obtain rfl := Option.some.inj H
    have hcz17_0 : wr.cell? ⟨gb189, 0, none⟩ = some (.string a0_0) := (blk_cell BK189.out 0).trans rfl
    have hcz17_1 : wr.cell? ⟨gb189, 1, none⟩ = some (.int .i64 a0_1) := (blk_cell BK189.out 1).trans rfl
    have hcz17_2 : wr.cell? ⟨gb189, 2, none⟩ = some (.int .i64 a0_2) := (blk_cell BK189.out 2).trans rfl
    have hcz17_3 : wr.cell? ⟨gb189, 3, none⟩ = some (.int .i64 a0_3) := (blk_cell BK189.out 3).trans rfl
    have hcz17_4 : wr.cell? ⟨gb189, 4, none⟩ = some (.int .i64 a0_4) := (blk_cell BK189.out 4).trans rfl
    have hcz17_5 : wr.cell? ⟨gb189, 5, none⟩ = some (.int .i64 a0_5) := (blk_cell BK189.out 5).trans rfl
    have hcz17_6 : wr.cell? ⟨gb189, 6, none⟩ = some (.int .i64 a0_6) := (blk_cell BK189.out 6).trans rfl
    have hcz17_7 : wr.cell? ⟨gb189, 7, none⟩ = some (.bool a0_7) := (blk_cell BK189.out 7).trans rfl
    have hfz17_0 := blk_frozen BK189.out 0
    have hfz17_1 := blk_frozen BK189.out 1
    have hfz17_2 := blk_frozen BK189.out 2
    have hfz17_3 := blk_frozen BK189.out 3
    have hfz17_4 := blk_frozen BK189.out 4
    have hfz17_5 := blk_frozen BK189.out 5
    have hfz17_6 := blk_frozen BK189.out 6
    have hfz17_7 := blk_frozen BK189.out 7
    go_wp2_with (first | ((with_reducible refine gate_callee (f := 33) rfl ?_); refine goesL_ (some 32) rfl rfl Tryz.func33 (by kernel_rfl) rfl #[.int .i64 a0_4] rfl zQx12a3_ ?_; (with_reducible refine (basculeref21_Words.calls k1 a0_4 t193 _ A16.out).mono ?_); rintro e w' ⟨rfl, ⟨nd, rfl⟩⟩; refine ⟨_, rfl, ?_⟩))
    go_ret
    exact ⟨zQx12a6_, zQx12a1_⟩
   rw [if_pos c12] at H
   have c12b0 : decide (x5_1 < (l1.length : Int)) = true := decide_eq_true c12
   clear c12
   have c13 : 0 ≤ x5_1 := znQx12_
   rw [if_pos c13] at H
   have c13b0 : decide (0 ≤ x5_1) = true := decide_eq_true c13
   clear c13
   replace H := Option.bind_eq_some_iff.mp H
   obtain ⟨t192, A140, H⟩ := H
   replace H : (if t192 = true then (basculeref22_May.l0 k1 l1 (wrap64 (x5_1 + 1)) a0_0 a0_1 a0_2 a0_3 a0_4 a0_5 a0_6 a0_7) else (some false)) = some r := H
   have A14 := Aside0.mk A140
   clear A140
   by_cases c15 : t192 = true
   rotate_left
   ·
    replace c15 := Bool.eq_false_iff.mpr c15
    subst c15
    have H1 : (some false) = some r := by rw [if_neg (show ¬ (false = true) by decide)] at H; exact H
    clear H
    have H := H1
    clear H1
    obtain rfl := Option.some.inj H
    have p191 : 0 ≤ (x5_1 : Int) := of_decide_eq_true zQx12a5_
    have q191 : x5_1 < (l1.length : Int) := of_decide_eq_true zQx12a5_
    obtain ⟨ad191, e191, hx191_0⟩ := Kd.at_int HR1.out x5_1 p191 q191
    cases e191
    replace hx191_0 := (HB.out.cell (World.block_lt_of_cell? w _ hx191_0)).trans hx191_0
    replace p191 := eq_true p191
    replace q191 := eq_true q191
    go_wp2_with (first | ((with_reducible refine gate_callee (f := 23) rfl ?_); refine goesL_ (some 26) rfl rfl Tryz.func23 (by kernel_rfl) rfl #[.int .i64 (rd l1 x5_1)] rfl zQx12a3_ ?_; (with_reducible refine (basculeref01_Is.calls (rd l1 x5_1) false _ A14.out).mono ?_); rintro e w' ⟨rfl, ⟨nd, rfl⟩⟩; refine ⟨_, rfl, ?_⟩))
    go_ret
    exact ⟨zQx12a6_, zQx12a1_⟩
   subst c15
   have H1 : (basculeref22_May.l0 k1 l1 (wrap64 (x5_1 + 1)) a0_0 a0_1 a0_2 a0_3 a0_4 a0_5 a0_6 a0_7) = some r := by rw [if_pos rfl] at H; exact H
   clear H
   have H := H1
   clear H1
   have H' := Aside0.mk H
   clear H
   have p191 : 0 ≤ (x5_1 : Int) := of_decide_eq_true zQx12a5_
   have q191 : x5_1 < (l1.length : Int) := of_decide_eq_true zQx12a5_
   obtain ⟨ad191, e191, hx191_0⟩ := Kd.at_int HR1.out x5_1 p191 q191
   cases e191
   replace hx191_0 := (HB.out.cell (World.block_lt_of_cell? w _ hx191_0)).trans hx191_0
   replace p191 := eq_true p191
   replace q191 := eq_true q191
   go_wp2_with (first | ((with_reducible refine gate_callee (f := 23) rfl ?_); refine goesL_ (some 26) rfl rfl Tryz.func23 (by kernel_rfl) rfl #[.int .i64 (rd l1 x5_1)] rfl zQx12a3_ ?_; (with_reducible refine (basculeref01_Is.calls (rd l1 x5_1) true _ A14.out).mono ?_); rintro e w' ⟨rfl, ⟨nd, rfl⟩⟩; refine ⟨_, rfl, ?_⟩))
   go_roundg k1
   case measure => have := HK1.out; omega
   case rel => exact ⟨(wrap64 (x5_1 + 1)), zQx12a4_, H', ⟨by have := HK1.out; omega⟩, ⟨zQx12a7_⟩, ⟨zQx12a1_⟩⟩
def stringslite_CutPrefix.f (a0 : ByteArray) (a1 : ByteArray) : Option (ByteArray × Bool) := (stringslite_HasPrefix.f a0 a1).bind fun t194 => (if t194 = true then (if 0 ≤ (a1.size : Int) then (if (a1.size : Int) ≤ (a0.size : Int) then (some (a0.extract ((a1.size : Int) : Int).toNat a0.size, true)) else (none)) else (none)) else (some (a0, false)))
theorem stringslite_CutPrefix.calls (a0 : ByteArray) (a1 : ByteArray) (r1 : ByteArray) (r2 : Bool) (w : World) (h : stringslite_CutPrefix.f a0 a1 = some (r1, r2)) :
  Calls Tryz.prog 92 #[.string a0, .string a1] w fun e w' => e = .returned (.tuple #[.string r1, .bool r2]) ∧ Drawn0 w w' := by
 have H : ((stringslite_HasPrefix.f a0 a1).bind fun t194 => (if t194 = true then (if 0 ≤ (a1.size : Int) then (if (a1.size : Int) ≤ (a0.size : Int) then (some (a0.extract ((a1.size : Int) : Int).toNat a0.size, true)) else (none)) else (none)) else (some (a0, false)))) = some (r1, r2) := h
 clear h
 replace H := Option.bind_eq_some_iff.mp H
 obtain ⟨t194, A30, H⟩ := H
 replace H : (if t194 = true then (if 0 ≤ (a1.size : Int) then (if (a1.size : Int) ≤ (a0.size : Int) then (some (a0.extract ((a1.size : Int) : Int).toNat a0.size, true)) else (none)) else (none)) else (some (a0, false))) = some (r1, r2) := H
 have A3 := Aside0.mk A30
 clear A30
 by_cases c4 : t194 = true
 rotate_left
 ·
  replace c4 := Bool.eq_false_iff.mpr c4
  subst c4
  have H1 : (some (a0, false)) = some (r1, r2) := by rw [if_neg (show ¬ (false = true) by decide)] at H; exact H
  clear H
  have H := H1
  clear H1
  simp only [Option.some.injEq, Prod.mk.injEq] at H
  obtain ⟨rfl, rfl⟩ := H
  go_enter Tryz.func92, Tryz.ntmps92
  go_wp2_with (first | ((with_reducible refine gate_callee (f := 80) rfl ?_); refine goesL_ (some 8) rfl rfl Tryz.func80 (by kernel_rfl) rfl #[.string a0, .string a1] rfl zQx12a3_ ?_; (with_reducible refine (stringslite_HasPrefix.calls a0 a1 false _ A3.out).mono ?_); rintro e w' ⟨rfl, ⟨nd, rfl⟩⟩; refine ⟨_, rfl, ?_⟩))
  go_ret2
  exact ⟨zQx12a4_, zQx12a2_⟩
 subst c4
 have H1 : (if 0 ≤ (a1.size : Int) then (if (a1.size : Int) ≤ (a0.size : Int) then (some (a0.extract ((a1.size : Int) : Int).toNat a0.size, true)) else (none)) else (none)) = some (r1, r2) := by rw [if_pos rfl] at H; exact H
 clear H
 have H := H1
 clear H1
 have c5 : 0 ≤ (a1.size : Int) := znQx12_
 rw [if_pos c5] at H
 have c5b0 := eq_true c5
 have c5b1 : decide (0 ≤ (a1.size : Int)) = true := decide_eq_true c5
 clear c5
 have c6 : (a1.size : Int) ≤ (a0.size : Int) := znQx12_
 rw [if_pos c6] at H
 have c6b0 := eq_true c6
 have c6b1 : decide ((a1.size : Int) ≤ (a0.size : Int)) = true := decide_eq_true c6
 clear c6
 simp only [Option.some.injEq, Prod.mk.injEq] at H
 obtain ⟨rfl, rfl⟩ := H
 go_enter Tryz.func92, Tryz.ntmps92
 go_wp2_with (first | ((with_reducible refine gate_callee (f := 80) rfl ?_); refine goesL_ (some 8) rfl rfl Tryz.func80 (by kernel_rfl) rfl #[.string a0, .string a1] rfl zQx12a3_ ?_; (with_reducible refine (stringslite_HasPrefix.calls a0 a1 true _ A3.out).mono ?_); rintro e w' ⟨rfl, ⟨nd, rfl⟩⟩; refine ⟨_, rfl, ?_⟩))
 go_ret2
 exact ⟨zQx12a4_, zQx12a2_⟩
def strings_CutPrefix.f (a0 : ByteArray) (a1 : ByteArray) : Option (ByteArray × Bool) := (stringslite_CutPrefix.f a0 a1).bind fun bt195 => (some (bt195.1, bt195.2))
theorem strings_CutPrefix.calls (a0 : ByteArray) (a1 : ByteArray) (r1 : ByteArray) (r2 : Bool) (w : World) (h : strings_CutPrefix.f a0 a1 = some (r1, r2)) :
  Calls Tryz.prog 69 #[.string a0, .string a1] w fun e w' => e = .returned (.tuple #[.string r1, .bool r2]) ∧ Drawn0 w w' := by
 have H : ((stringslite_CutPrefix.f a0 a1).bind fun bt195 => (some (bt195.1, bt195.2))) = some (r1, r2) := h
 clear h
 replace H := Option.bind_eq_some_iff.mp H
 obtain ⟨⟨t195, t196⟩, A30, H⟩ := H
 replace H : (some (t195, t196)) = some (r1, r2) := H
 have A3 := Aside0.mk A30
 clear A30
 simp only [Option.some.injEq, Prod.mk.injEq] at H
 obtain ⟨rfl, rfl⟩ := H
 go_enter Tryz.func69, Tryz.ntmps69
 go_wp2_with (first | ((with_reducible refine gate_callee (f := 92) rfl ?_); refine goesL_ (some 8) rfl rfl Tryz.func92 (by kernel_rfl) rfl #[.string a0, .string a1] rfl zQx12a3_ ?_; (with_reducible refine (stringslite_CutPrefix.calls a0 a1 t195 t196 _ A3.out).mono ?_); rintro e w' ⟨rfl, ⟨nd, rfl⟩⟩; refine ⟨_, rfl, ?_⟩))
 go_ret2
 exact ⟨zQx12a4_, zQx12a2_⟩
def strings_Cut.f (a0 : ByteArray) (a1 : ByteArray) : Option (ByteArray × ByteArray × Bool) := if a0.size < 4294967281 then some (⟨(Go.Lib.cut a0.data.toList a1.data.toList).1.toArray⟩, ⟨(Go.Lib.cut a0.data.toList a1.data.toList).2.1.toArray⟩, (Go.Lib.cut a0.data.toList a1.data.toList).2.2) else none
theorem strings_Cut.calls (a0 : ByteArray) (a1 : ByteArray) (r1 : ByteArray) (r2 : ByteArray) (r3 : Bool) (w : World) (hLd_ : Val.Laid w) (h : strings_Cut.f a0 a1 = some (r1, r2, r3)) :
  Calls Tryz.prog 70 #[.string a0, .string a1] w fun e w' => e = .returned (.tuple #[.string r1, .string r2, .bool r3]) ∧ Below w.heap.size w w' := by
 unfold strings_Cut.f at h
 split at h
 ·
  rename_i hc
  have h2 := Option.some.inj h
  obtain ⟨h3, h4⟩ := Prod.mk.inj h2
  obtain ⟨h5, h6⟩ := Prod.mk.inj h4
  subst h3; subst h5; subst h6
  exact Val.cut_calls a0 a1 w hLd_.top hc
 ·
  cases h
def strings_Trim.f (a0 : ByteArray) (a1 : ByteArray) : Option (ByteArray) := if a0.size ≤ 9223372036854775807 ∧ a1.size < 4294967281 ∧ (a1.data.toList.all fun b => decide (b.toNat < 128)) = true then some ⟨(Go.Lib.trimS a0.data.toList a1.data.toList).toArray⟩ else none
theorem strings_Trim.calls (a0 : ByteArray) (a1 : ByteArray) (r : ByteArray) (w : World) (h : strings_Trim.f a0 a1 = some r) :
  Calls Tryz.prog 71 #[.string a0, .string a1] w fun e w' => e = .returned (.string r) ∧ Below w.heap.size w w' := by
 unfold strings_Trim.f at h
 split at h
 ·
  rename_i hc
  obtain ⟨h1, h3, h4⟩ := hc
  obtain rfl := Option.some.inj h
  exact Val.trim_calls a0 a1 w h1 h3 fun j b hb => of_decide_eq_true (List.all_eq_true.1 h4 b (List.mem_of_getElem? hb))
 ·
  cases h
def strings_TrimLeft.f (a0 : ByteArray) (a1 : ByteArray) : Option (ByteArray) := if a0.size ≤ 9223372036854775807 ∧ a1.size < 4294967281 ∧ (a1.data.toList.all fun b => decide (b.toNat < 128)) = true then some ⟨(Go.Lib.trimLeftS a0.data.toList a1.data.toList).toArray⟩ else none
theorem strings_TrimLeft.calls (a0 : ByteArray) (a1 : ByteArray) (r : ByteArray) (w : World) (h : strings_TrimLeft.f a0 a1 = some r) :
  Calls Tryz.prog 72 #[.string a0, .string a1] w fun e w' => e = .returned (.string r) ∧ Below w.heap.size w w' := by
 unfold strings_TrimLeft.f at h
 split at h
 ·
  rename_i hc
  obtain ⟨h1, h3, h4⟩ := hc
  obtain rfl := Option.some.inj h
  exact Val.trimLeft_calls a0 a1 w h3 fun j b hb => of_decide_eq_true (List.all_eq_true.1 h4 b (List.mem_of_getElem? hb))
 ·
  cases h
end Go.Proofs.YtmkekhjbbapngaaGreatDoor.Q
