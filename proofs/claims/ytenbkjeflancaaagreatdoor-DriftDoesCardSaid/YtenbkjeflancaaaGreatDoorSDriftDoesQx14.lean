/- What the proof of DriftDoes leans on: Qx14. -/
import Derived.Test.YtenbkjeflancaaaGreatDoorSDriftDoesValF
namespace Go.Proofs.YtenbkjeflancaaaGreatDoor.Q
open Go.RowKit Go.Proofs.YtenbkjeflancaaaGreatDoorW.PrintWords Go.Proofs.YtenbkjeflancaaaGreatDoorW.PrintLast Go.Proofs.YtenbkjeflancaaaGreatDoorW.PrintMore
attribute [local go_sem] max2_int min2_int max_two min_two
set_option linter.unusedVariables false
set_option linter.unusedSimpArgs false
-- NOT PRINTED: function 9 (drift_Drift_Feed)
theorem zQx14a0_ {P_ : Prop} (h_ : P_ := by repeat (first | (with_reducible first | exact HB.out | apply below_alloc | apply pw_below_drewN | apply below_drew1) | exact HB.out)) : P_ := h_
theorem zQx14a1_ {P_ : Prop} (h_ : P_ := by first | rfl | (simp; done) | (simp [*]; done)) : P_ := h_
theorem zQx14a2_ {P_ : Prop} (h_ : P_ := by first | (with_reducible assumption) | assumption) : P_ := h_
theorem zQx14a3_ {P_ : Prop} (h_ : P_ := by repeat (first | exact Drawn0.refl _ | apply Drawn0.step)) : P_ := h_
theorem zQx14a4_ {P_ : Prop} (h_ : P_ := by repeat (first | (with_reducible first | exact HB.out | apply below_alloc | apply pw_below_drewN | apply below_drew1 | refine below_set ?_ GE190.out) | exact HB.out)) : P_ := h_
theorem zQx14a5_ {P_ : Prop} (h_ : P_ := by (with_reducible repeat (first | apply Kd.R_alloc | apply Kd.R_drewN | apply Kd.R_drew)); exact HO_7.out) : P_ := h_
theorem zQx14a6_ {P_ : Prop} (h_ : P_ := by first | rfl | (simp [errW_none, errW_some] <;> rfl) | (simp [*, errW_none, errW_some] <;> rfl)) : P_ := h_
theorem zQx14a7_ {P_ : Prop} (h_ : P_ := by (try simp only [List.map_toArray, List.map_cons, List.map_nil]); first | done | rfl | (simp only [List.length_drop, List.length_take]; rfl)) : P_ := h_
theorem zQx14a8_ {P_ : Prop} (h_ : P_ := by (with_reducible repeat (first | refine blk_drewN ?_ _ | refine blk_drew ?_ | refine blk_alloc ?_ _)); exact BK190.out) : P_ := h_
theorem znQx14_ {X_ : Prop} [Decidable X_] (h_ : ¬ X_ → False := by intro c_; rw [if_neg c_] at H; exact absurd H (by simp)) : X_ := Decidable.byContradiction h_
def basculeref01_Bits.l0 : Nat → List Int → Int → Option (Bool)
 | 0, _, _ => none
 | k + 1, x0, x3 => if x3 < (x0.length : Int) then (if 0 ≤ x3 then (if (rd x0 x3) = 0 then (basculeref01_Bits.l0 k x0 (wrap64 (x3 + 1))) else (if (rd x0 x3) = 1 then (basculeref01_Bits.l0 k x0 (wrap64 (x3 + 1))) else (some false))) else (none)) else (some true)
def basculeref01_Bits.f (k : Nat) (l0 : List Int) : Option (Bool) := basculeref01_Bits.l0 k l0 0
set_option maxHeartbeats 8000000 in
set_option maxRecDepth 100000 in
theorem basculeref01_Bits.calls (k : Nat) (A0 : Option Addr) (c0 : Nat) (l0 : List Int) (r : Bool) (w : World) (hr0 : Kd.C (Kd.int .i64) w A0 l0.length l0) (hc0 : l0.length ≤ c0) (h : basculeref01_Bits.f k l0 = some r) :
  Calls Tryz.prog 33 #[.slice A0 l0.length c0] w fun e w' => e = .returned (.bool r) ∧ Drawn0 w w' := by
 have HR0 := Aside0.mk hr0
 have HC0 := Aside0.mk hc0
 clear hr0 hc0
 have H : (basculeref01_Bits.l0 k l0 0) = some r := h
 clear h
 have H' := Aside0.mk H
 clear H
 go_enter Tryz.func33, Tryz.ntmps33
 go_wp2
 go_loopg [3] k (fun kq v3 w' => ∃ (x3_1 : Int), v3 = .int .i64 x3_1 ∧ Aside0 (basculeref01_Bits.l0 kq l0 x3_1 = some r) ∧ Aside0 (kq ≤ k) ∧ Drawn0 w w')
 case atStart => exact ⟨(0), zQx14a1_, H', ⟨Nat.le_refl _⟩, zQx14a3_⟩
 case round =>
  clear H'
  obtain ⟨x3_1, rfl, HA, HK1, ⟨m1, rfl⟩⟩ := hrel
  cases gk with
  | zero => exact absurd HA.out (by simp [basculeref01_Bits.l0])
  | succ k1 =>
   have H := HA.out
   clear HA
   simp only [basculeref01_Bits.l0] at H
   by_cases c2 : x3_1 < (l0.length : Int)
   rotate_left
   ·
    rw [if_neg c2] at H
    have c2b0 : decide (x3_1 < (l0.length : Int)) = false := decide_eq_false c2
    clear c2
    obtain rfl := Option.some.inj H
    go_wp2
    go_ret
    exact ⟨zQx14a1_, zQx14a3_⟩
   rw [if_pos c2] at H
   have c2b0 : decide (x3_1 < (l0.length : Int)) = true := decide_eq_true c2
   clear c2
   have c3 : 0 ≤ x3_1 := znQx14_
   rw [if_pos c3] at H
   have c3b0 : decide (0 ≤ x3_1) = true := decide_eq_true c3
   clear c3
   by_cases c4 : (rd l0 x3_1) = 0
   ·
    rw [if_pos c4] at H
    have c4b0 : ((rd l0 x3_1) == 0) = true := beq_iff_eq.mpr c4
    have c4b1 : ((rd l0 x3_1) != 0) = false := bne_eq_false_iff_eq.mpr c4
    clear c4
    have H' := Aside0.mk H
    clear H
    have p188 : 0 ≤ (x3_1 : Int) := of_decide_eq_true zQx14a2_
    have q188 : x3_1 < (l0.length : Int) := of_decide_eq_true zQx14a2_
    obtain ⟨ad188, e188, hx188_0⟩ := Kd.at_int HR0.out x3_1 p188 q188
    cases e188
    replace p188 := eq_true p188
    replace q188 := eq_true q188
    go_wp2
    go_roundg k1
    case measure => have := HK1.out; omega
    case rel => exact ⟨(wrap64 (x3_1 + 1)), zQx14a1_, H', ⟨by have := HK1.out; omega⟩, zQx14a3_⟩
   rw [if_neg c4] at H
   have c4b0 : ((rd l0 x3_1) == 0) = false := beq_eq_false_iff_ne.mpr c4
   have c4b1 : ((rd l0 x3_1) != 0) = true := bne_iff_ne.mpr c4
   by_cases c5 : (rd l0 x3_1) = 1
   rotate_left
   ·
    rw [if_neg c5] at H
    have c5b0 : ((rd l0 x3_1) == 1) = false := beq_eq_false_iff_ne.mpr c5
    have c5b1 : ((rd l0 x3_1) != 1) = true := bne_iff_ne.mpr c5
    obtain rfl := Option.some.inj H
    have p188 : 0 ≤ (x3_1 : Int) := of_decide_eq_true zQx14a2_
    have q188 : x3_1 < (l0.length : Int) := of_decide_eq_true zQx14a2_
    obtain ⟨ad188, e188, hx188_0⟩ := Kd.at_int HR0.out x3_1 p188 q188
    cases e188
    replace p188 := eq_true p188
    replace q188 := eq_true q188
    have p189 : 0 ≤ (x3_1 : Int) := of_decide_eq_true zQx14a2_
    have q189 : x3_1 < (l0.length : Int) := of_decide_eq_true zQx14a2_
    obtain ⟨ad189, e189, hx189_0⟩ := Kd.at_int HR0.out x3_1 p189 q189
    obtain rfl : ad188 = ad189 := (by injection e189)
    replace p189 := eq_true p189
    replace q189 := eq_true q189
    go_wp2
    go_ret
    exact ⟨zQx14a1_, zQx14a3_⟩
   rw [if_pos c5] at H
   have c5b0 : ((rd l0 x3_1) == 1) = true := beq_iff_eq.mpr c5
   have c5b1 : ((rd l0 x3_1) != 1) = false := bne_eq_false_iff_eq.mpr c5
   clear c5
   have H' := Aside0.mk H
   clear H
   have p188 : 0 ≤ (x3_1 : Int) := of_decide_eq_true zQx14a2_
   have q188 : x3_1 < (l0.length : Int) := of_decide_eq_true zQx14a2_
   obtain ⟨ad188, e188, hx188_0⟩ := Kd.at_int HR0.out x3_1 p188 q188
   cases e188
   replace p188 := eq_true p188
   replace q188 := eq_true q188
   have p189 : 0 ≤ (x3_1 : Int) := of_decide_eq_true zQx14a2_
   have q189 : x3_1 < (l0.length : Int) := of_decide_eq_true zQx14a2_
   obtain ⟨ad189, e189, hx189_0⟩ := Kd.at_int HR0.out x3_1 p189 q189
   obtain rfl : ad188 = ad189 := (by injection e189)
   replace p189 := eq_true p189
   replace q189 := eq_true q189
   go_wp2
   go_roundg k1
   case measure => have := HK1.out; omega
   case rel => exact ⟨(wrap64 (x3_1 + 1)), zQx14a1_, H', ⟨by have := HK1.out; omega⟩, zQx14a3_⟩
def basculeref01_Is.f (a0 : Int) : Option (Bool) := if a0 ≥ 0 then (some (decide (a0 ≤ 65535))) else (some false)
set_option maxHeartbeats 8000000 in
set_option maxRecDepth 100000 in
theorem basculeref01_Is.calls (a0 : Int) (r : Bool) (w : World) (h : basculeref01_Is.f a0 = some r) :
  Calls Tryz.prog 34 #[.int .i64 a0] w fun e w' => e = .returned (.bool r) ∧ Drawn0 w w' := by
 have H : (if a0 ≥ 0 then (some (decide (a0 ≤ 65535))) else (some false)) = some r := h
 clear h
 by_cases c2 : a0 ≥ 0
 ·
  rw [if_pos c2] at H
  have c2b0 : decide (0 ≤ a0) = true := decide_eq_true c2
  clear c2
  obtain rfl := Option.some.inj H
  go_enter Tryz.func34, Tryz.ntmps34
  go_wp2
  go_ret
  exact ⟨zQx14a1_, zQx14a3_⟩
 rw [if_neg c2] at H
 have c2b0 : decide (0 ≤ a0) = false := decide_eq_false c2
 clear c2
 obtain rfl := Option.some.inj H
 go_enter Tryz.func34, Tryz.ntmps34
 go_wp2
 go_ret
 exact ⟨zQx14a1_, zQx14a3_⟩
def basculeref21_Words.j0 : Nat → Int → Bool → Option (Int)
 | 0, _, _ => none
 | k + 1, x3, x6 => if x6 = true then (some 1) else (if x3 = 9 then (some 4) else (if x3 = 10 then (some 4) else (some 2)))
def basculeref21_Words.f (k : Nat) (a0 : Int) : Option (Int) := if a0 = 1 then (some 0) else (if a0 = 2 then (basculeref21_Words.j0 k a0 (a0 == 2)) else (basculeref21_Words.j0 k a0 (a0 == 3)))
set_option maxHeartbeats 8000000 in
set_option maxRecDepth 100000 in
theorem basculeref21_Words.calls (k : Nat) (a0 : Int) (r : Int) (w : World) (h : basculeref21_Words.f k a0 = some r) :
  Calls Tryz.prog 35 #[.int .i64 a0] w fun e w' => e = .returned (.int .i64 r) ∧ Drawn0 w w' := by
 have H : (if a0 = 1 then (some 0) else (if a0 = 2 then (basculeref21_Words.j0 k a0 (a0 == 2)) else (basculeref21_Words.j0 k a0 (a0 == 3)))) = some r := h
 clear h
 by_cases c2 : a0 = 1
 ·
  rw [if_pos c2] at H
  have c2b0 : (a0 == 1) = true := beq_iff_eq.mpr c2
  have c2b1 : (a0 != 1) = false := bne_eq_false_iff_eq.mpr c2
  clear c2
  obtain rfl := Option.some.inj H
  go_enter Tryz.func35, Tryz.ntmps35
  go_wp2
  go_ret
  exact ⟨zQx14a1_, zQx14a3_⟩
 rw [if_neg c2] at H
 have c2b0 : (a0 == 1) = false := beq_eq_false_iff_ne.mpr c2
 have c2b1 : (a0 != 1) = true := bne_iff_ne.mpr c2
 have HC3 := Aside0.mk H
 clear H
 go_enter Tryz.func35, Tryz.ntmps35
 go_upto_if 6 with (fail)
 go_cut [6] (fun v6 wc => ∃ (kq : Nat) (x6_2 : Bool), v6 = .bool x6_2 ∧ Aside0 (basculeref21_Words.j0 kq a0 x6_2 = some r) ∧ Aside0 (kq ≤ k) ∧ Drawn0 w wc)
 case first =>
  have H := HC3.out
  clear HC3
  by_cases c4 : a0 = 2
  rotate_left
  ·
   rw [if_neg c4] at H
   have c4b0 : (a0 == 2) = false := beq_eq_false_iff_ne.mpr c4
   have c4b1 : (a0 != 2) = true := bne_iff_ne.mpr c4
   (first | rw [c4b0] | (simp only [i64_w, i32_w]; rw [c4b0]) | skip)
   have H' := Aside0.mk H
   clear H
   go_wp2
   go_meet
   case rel => exact ⟨_, ((a0 == 3)), zQx14a1_, H', ⟨by first | omega | exact Nat.le_refl _⟩, zQx14a3_⟩
  rw [if_pos c4] at H
  have c4b0 : (a0 == 2) = true := beq_iff_eq.mpr c4
  have c4b1 : (a0 != 2) = false := bne_eq_false_iff_eq.mpr c4
  clear c4
  (first | rw [c4b0] | (simp only [i64_w, i32_w]; rw [c4b0]) | skip)
  have H' := Aside0.mk H
  clear H
  go_wp2
  go_meet
  case rel => exact ⟨_, ((a0 == 2)), zQx14a1_, H', ⟨by first | omega | exact Nat.le_refl _⟩, zQx14a3_⟩
 case rest =>
  clear HC3
  try clear c2
  try clear c2b0
  try clear c2b1
  try clear p2
  try clear c3
  try clear c4
  try clear c4b0
  try clear c4b1
  obtain ⟨kq, x6_2, rfl, HA, HJ2, ⟨mc2, rfl⟩⟩ := hcut
  cases kq with
  | zero => exact absurd HA.out (by simp [basculeref21_Words.j0])
  | succ kj2 =>
   have H := HA.out
   clear HA
   simp only [basculeref21_Words.j0] at H
   by_cases c5 : x6_2 = true
   ·
    subst c5
    have H1 : (some 1) = some r := by rw [if_pos rfl] at H; exact H
    clear H
    have H := H1
    clear H1
    obtain rfl := Option.some.inj H
    go_wp2
    go_ret
    exact ⟨zQx14a1_, zQx14a3_⟩
   replace c5 := Bool.eq_false_iff.mpr c5
   subst c5
   have H1 : (if a0 = 9 then (some 4) else (if a0 = 10 then (some 4) else (some 2))) = some r := by rw [if_neg (show ¬ (false = true) by decide)] at H; exact H
   clear H
   have H := H1
   clear H1
   by_cases c6 : a0 = 9
   ·
    rw [if_pos c6] at H
    have c6b0 : (a0 == 9) = true := beq_iff_eq.mpr c6
    have c6b1 : (a0 != 9) = false := bne_eq_false_iff_eq.mpr c6
    clear c6
    obtain rfl := Option.some.inj H
    go_wp2
    go_ret
    exact ⟨zQx14a1_, zQx14a3_⟩
   rw [if_neg c6] at H
   have c6b0 : (a0 == 9) = false := beq_eq_false_iff_ne.mpr c6
   have c6b1 : (a0 != 9) = true := bne_iff_ne.mpr c6
   by_cases c7 : a0 = 10
   rotate_left
   ·
    rw [if_neg c7] at H
    have c7b0 : (a0 == 10) = false := beq_eq_false_iff_ne.mpr c7
    have c7b1 : (a0 != 10) = true := bne_iff_ne.mpr c7
    obtain rfl := Option.some.inj H
    go_wp2
    go_ret
    exact ⟨zQx14a1_, zQx14a3_⟩
   rw [if_pos c7] at H
   have c7b0 : (a0 == 10) = true := beq_iff_eq.mpr c7
   have c7b1 : (a0 != 10) = false := bne_eq_false_iff_eq.mpr c7
   clear c7
   obtain rfl := Option.some.inj H
   go_wp2
   go_ret
   exact ⟨zQx14a1_, zQx14a3_⟩
def basculeref22_May.l0 : Nat → List Int → Int → ByteArray → Int → Int → Int → Int → Int → Int → Bool → Option (Bool)
 | 0, _, _, _, _, _, _, _, _, _, _ => none
 | k + 1, x1, x5, x191000, x191001, x191002, x191003, x191004, x191005, x191006, x191007 => if x5 < (x1.length : Int) then (if 0 ≤ x5 then ((basculeref01_Is.f (rd x1 x5)).bind fun t193 => (if t193 = true then (basculeref22_May.l0 k x1 (wrap64 (x5 + 1)) x191000 x191001 x191002 x191003 x191004 x191005 x191006 x191007) else (some false))) else (none)) else ((basculeref21_Words.f k x191004).bind fun t194 => (some ((x1.length : Int) == t194)))
def basculeref22_May.f (k : Nat) (a0_0 : ByteArray) (a0_1 : Int) (a0_2 : Int) (a0_3 : Int) (a0_4 : Int) (a0_5 : Int) (a0_6 : Int) (a0_7 : Bool) (l1 : List Int) : Option (Bool) := if a0_4 = 1 then (if (l1.length : Int) = 1 then ((basculeref01_Bits.f k l1).bind fun t191 => (some t191)) else (some false)) else (basculeref22_May.l0 k l1 0 a0_0 a0_1 a0_2 a0_3 a0_4 a0_5 a0_6 a0_7)
set_option maxHeartbeats 8000000 in
set_option maxRecDepth 100000 in
theorem basculeref22_May.calls (k : Nat) (a0_0 : ByteArray) (a0_1 : Int) (a0_2 : Int) (a0_3 : Int) (a0_4 : Int) (a0_5 : Int) (a0_6 : Int) (a0_7 : Bool) (A1 : Option Addr) (c1 : Nat) (l1 : List Int) (r : Bool) (w : World) (hr1 : Kd.C (Kd.int .i64) w A1 l1.length l1) (hc1 : l1.length ≤ c1) (h : basculeref22_May.f k a0_0 a0_1 a0_2 a0_3 a0_4 a0_5 a0_6 a0_7 l1 = some r) :
  Calls Tryz.prog 19 #[.agg #[.string a0_0, .int .i64 a0_1, .int .i64 a0_2, .int .i64 a0_3, .int .i64 a0_4, .int .i64 a0_5, .int .i64 a0_6, .bool a0_7], .slice A1 l1.length c1] w fun e w' => e = .returned (.bool r) ∧ Below w.heap.size w w' := by
 have hu23 := Tryz.underlying23
 have HR1 := Aside0.mk hr1
 have HC1 := Aside0.mk hc1
 clear hr1 hc1
 have HB := Aside0.mk (Below.refl w.heap.size w)
 have H : (if a0_4 = 1 then (if (l1.length : Int) = 1 then ((basculeref01_Bits.f k l1).bind fun t191 => (some t191)) else (some false)) else (basculeref22_May.l0 k l1 0 a0_0 a0_1 a0_2 a0_3 a0_4 a0_5 a0_6 a0_7)) = some r := h
 clear h
 by_cases c3 : a0_4 = 1
 ·
  rw [if_pos c3] at H
  have c3b0 : (a0_4 == 1) = true := beq_iff_eq.mpr c3
  have c3b1 : (a0_4 != 1) = false := bne_eq_false_iff_eq.mpr c3
  clear c3
  by_cases c4 : (l1.length : Int) = 1
  rotate_left
  ·
   rw [if_neg c4] at H
   have c4b0 : ((l1.length : Int) == 1) = false := beq_eq_false_iff_ne.mpr c4
   have c4b1 : ((l1.length : Int) != 1) = true := bne_iff_ne.mpr c4
   obtain rfl := Option.some.inj H
   go_enter Tryz.func19, Tryz.ntmps19
   go_wp2_with (first | ((with_reducible refine gate_dst (N := 2) rfl ?_); refine box_event ?hg (N := 2) ?hd (cs := #[.string a0_0, .int .i64 a0_1, .int .i64 a0_2, .int .i64 a0_3, .int .i64 a0_4, .int .i64 a0_5, .int .i64 a0_6, .bool a0_7]) (t := 23) ?hr ?_; (case hd => rfl); (case hg => rfl); (case hr => first | (go_simp; done) | (go_simp; rfl)); intro gb190 hg w8 hbox hb; have n0_ := Aside0.mk (below_step zQx14a0_ hb); have n1_ := Aside0.mk (hbox); have n2_ := Aside0.mk ((by rw [hg]; exact (below_size zQx14a0_) : w.heap.size ≤ gb190)); have n3_ := Aside0.mk ((by rw [hg]; exact (below_size zQx14a0_) : w.heap.size ≤ gb190)); clear HB; have HB := n0_; have BK190 := n1_; have GW190 := n2_; have GE190 := n3_; clear n0_ n1_ n2_ n3_; clear hb hbox hg; have hcz9_0 : w8.cell? ⟨gb190, 0, none⟩ = some (.string a0_0) := (blk_cell BK190.out 0).trans rfl; have hcz9_1 : w8.cell? ⟨gb190, 1, none⟩ = some (.int .i64 a0_1) := (blk_cell BK190.out 1).trans rfl; have hcz9_2 : w8.cell? ⟨gb190, 2, none⟩ = some (.int .i64 a0_2) := (blk_cell BK190.out 2).trans rfl; have hcz9_3 : w8.cell? ⟨gb190, 3, none⟩ = some (.int .i64 a0_3) := (blk_cell BK190.out 3).trans rfl; have hcz9_4 : w8.cell? ⟨gb190, 4, none⟩ = some (.int .i64 a0_4) := (blk_cell BK190.out 4).trans rfl; have hcz9_5 : w8.cell? ⟨gb190, 5, none⟩ = some (.int .i64 a0_5) := (blk_cell BK190.out 5).trans rfl; have hcz9_6 : w8.cell? ⟨gb190, 6, none⟩ = some (.int .i64 a0_6) := (blk_cell BK190.out 6).trans rfl; have hcz9_7 : w8.cell? ⟨gb190, 7, none⟩ = some (.bool a0_7) := (blk_cell BK190.out 7).trans rfl; have hfz9_0 := blk_frozen BK190.out 0; have hfz9_1 := blk_frozen BK190.out 1; have hfz9_2 := blk_frozen BK190.out 2; have hfz9_3 := blk_frozen BK190.out 3; have hfz9_4 := blk_frozen BK190.out 4; have hfz9_5 := blk_frozen BK190.out 5; have hfz9_6 := blk_frozen BK190.out 6; have hfz9_7 := blk_frozen BK190.out 7))
   go_ret
   exact ⟨zQx14a6_, zQx14a4_⟩
  rw [if_pos c4] at H
  have c4b0 : ((l1.length : Int) == 1) = true := beq_iff_eq.mpr c4
  have c4b1 : ((l1.length : Int) != 1) = false := bne_eq_false_iff_eq.mpr c4
  clear c4
  replace H := Option.bind_eq_some_iff.mp H
  obtain ⟨t191, A50, H⟩ := H
  replace H : (some t191) = some r := H
  have A5 := Aside0.mk A50
  clear A50
  obtain rfl := Option.some.inj H
  go_enter Tryz.func19, Tryz.ntmps19
  go_wp2_with (first | ((with_reducible refine gate_dst (N := 2) rfl ?_); refine box_event ?hg (N := 2) ?hd (cs := #[.string a0_0, .int .i64 a0_1, .int .i64 a0_2, .int .i64 a0_3, .int .i64 a0_4, .int .i64 a0_5, .int .i64 a0_6, .bool a0_7]) (t := 23) ?hr ?_; (case hd => rfl); (case hg => rfl); (case hr => first | (go_simp; done) | (go_simp; rfl)); intro gb190 hg w6 hbox hb; have n0_ := Aside0.mk (below_step zQx14a0_ hb); have n1_ := Aside0.mk (hbox); have n2_ := Aside0.mk ((by rw [hg]; exact (below_size zQx14a0_) : w.heap.size ≤ gb190)); have n3_ := Aside0.mk ((by rw [hg]; exact (below_size zQx14a0_) : w.heap.size ≤ gb190)); clear HB; have HB := n0_; have BK190 := n1_; have GW190 := n2_; have GE190 := n3_; clear n0_ n1_ n2_ n3_; clear hb hbox hg; have hcz7_0 : w6.cell? ⟨gb190, 0, none⟩ = some (.string a0_0) := (blk_cell BK190.out 0).trans rfl; have hcz7_1 : w6.cell? ⟨gb190, 1, none⟩ = some (.int .i64 a0_1) := (blk_cell BK190.out 1).trans rfl; have hcz7_2 : w6.cell? ⟨gb190, 2, none⟩ = some (.int .i64 a0_2) := (blk_cell BK190.out 2).trans rfl; have hcz7_3 : w6.cell? ⟨gb190, 3, none⟩ = some (.int .i64 a0_3) := (blk_cell BK190.out 3).trans rfl; have hcz7_4 : w6.cell? ⟨gb190, 4, none⟩ = some (.int .i64 a0_4) := (blk_cell BK190.out 4).trans rfl; have hcz7_5 : w6.cell? ⟨gb190, 5, none⟩ = some (.int .i64 a0_5) := (blk_cell BK190.out 5).trans rfl; have hcz7_6 : w6.cell? ⟨gb190, 6, none⟩ = some (.int .i64 a0_6) := (blk_cell BK190.out 6).trans rfl; have hcz7_7 : w6.cell? ⟨gb190, 7, none⟩ = some (.bool a0_7) := (blk_cell BK190.out 7).trans rfl; have hfz7_0 := blk_frozen BK190.out 0; have hfz7_1 := blk_frozen BK190.out 1; have hfz7_2 := blk_frozen BK190.out 2; have hfz7_3 := blk_frozen BK190.out 3; have hfz7_4 := blk_frozen BK190.out 4; have hfz7_5 := blk_frozen BK190.out 5; have hfz7_6 := blk_frozen BK190.out 6; have hfz7_7 := blk_frozen BK190.out 7) | (go_at_call 33; (with_reducible refine (basculeref01_Bits.calls k _ _ l1 t191 _ ?side1 ?side2 A5.out).mono ?_); (case side1 => repeat (first | exact (Kd.C_below HR1.out HB.out) | (with_reducible refine Kd.C_alloc ?_ _) | (with_reducible refine Kd.C_drewN ?_ _) | (with_reducible refine Kd.C_drew ?_))); (case side2 => exact HC1.out); rintro e w' ⟨rfl, ⟨nd, rfl⟩⟩))
  go_ret
  exact ⟨zQx14a6_, zQx14a4_⟩
 rw [if_neg c3] at H
 have c3b0 : (a0_4 == 1) = false := beq_eq_false_iff_ne.mpr c3
 have c3b1 : (a0_4 != 1) = true := bne_iff_ne.mpr c3
 have H' := Aside0.mk H
 clear H
 go_enter Tryz.func19, Tryz.ntmps19
 go_wp2_with (first | ((with_reducible refine gate_dst (N := 2) rfl ?_); refine box_event ?hg (N := 2) ?hd (cs := #[.string a0_0, .int .i64 a0_1, .int .i64 a0_2, .int .i64 a0_3, .int .i64 a0_4, .int .i64 a0_5, .int .i64 a0_6, .bool a0_7]) (t := 23) ?hr ?_; (case hd => rfl); (case hg => rfl); (case hr => first | (go_simp; done) | (go_simp; rfl)); intro gb190 hg w10 hbox hb; have n0_ := Aside0.mk (below_step zQx14a0_ hb); have n1_ := Aside0.mk (hbox); have n2_ := Aside0.mk ((by rw [hg]; exact (below_size zQx14a0_) : w.heap.size ≤ gb190)); have n3_ := Aside0.mk ((by rw [hg]; exact (below_size zQx14a0_) : w.heap.size ≤ gb190)); clear HB; have HB := n0_; have BK190 := n1_; have GW190 := n2_; have GE190 := n3_; clear n0_ n1_ n2_ n3_; clear hb hbox hg; have hcz11_0 : w10.cell? ⟨gb190, 0, none⟩ = some (.string a0_0) := (blk_cell BK190.out 0).trans rfl; have hcz11_1 : w10.cell? ⟨gb190, 1, none⟩ = some (.int .i64 a0_1) := (blk_cell BK190.out 1).trans rfl; have hcz11_2 : w10.cell? ⟨gb190, 2, none⟩ = some (.int .i64 a0_2) := (blk_cell BK190.out 2).trans rfl; have hcz11_3 : w10.cell? ⟨gb190, 3, none⟩ = some (.int .i64 a0_3) := (blk_cell BK190.out 3).trans rfl; have hcz11_4 : w10.cell? ⟨gb190, 4, none⟩ = some (.int .i64 a0_4) := (blk_cell BK190.out 4).trans rfl; have hcz11_5 : w10.cell? ⟨gb190, 5, none⟩ = some (.int .i64 a0_5) := (blk_cell BK190.out 5).trans rfl; have hcz11_6 : w10.cell? ⟨gb190, 6, none⟩ = some (.int .i64 a0_6) := (blk_cell BK190.out 6).trans rfl; have hcz11_7 : w10.cell? ⟨gb190, 7, none⟩ = some (.bool a0_7) := (blk_cell BK190.out 7).trans rfl; have hfz11_0 := blk_frozen BK190.out 0; have hfz11_1 := blk_frozen BK190.out 1; have hfz11_2 := blk_frozen BK190.out 2; have hfz11_3 := blk_frozen BK190.out 3; have hfz11_4 := blk_frozen BK190.out 4; have hfz11_5 := blk_frozen BK190.out 5; have hfz11_6 := blk_frozen BK190.out 6; have hfz11_7 := blk_frozen BK190.out 7))
 go_loopg [5] k (fun kq v5 w' => ∃ (x5_1 : Int), v5 = .int .i64 x5_1 ∧ Aside0 (basculeref22_May.l0 kq l1 x5_1 a0_0 a0_1 a0_2 a0_3 a0_4 a0_5 a0_6 a0_7 = some r) ∧ Aside0 (kq ≤ k) ∧ Aside0 (w'.heap[gb190]? = some (.cells #[.string a0_0, .int .i64 a0_1, .int .i64 a0_2, .int .i64 a0_3, .int .i64 a0_4, .int .i64 a0_5, .int .i64 a0_6, .bool a0_7] 23 (0, 0))) ∧ Aside0 (Below w.heap.size w w'))
 case atStart => exact ⟨(0), zQx14a1_, H', ⟨Nat.le_refl _⟩, ⟨zQx14a8_⟩, ⟨zQx14a4_⟩⟩
 case round =>
  clear H'
  try clear c1
  try clear p2
  try clear c3
  try clear c3b0
  try clear c3b1
  try clear c4
  try clear c4b0
  try clear c4b1
  try clear hcz11_0
  try clear hcz11_1
  try clear hcz11_2
  try clear hcz11_3
  try clear hcz11_4
  try clear hcz11_5
  try clear hcz11_6
  try clear hcz11_7
  try clear hcz7_0
  try clear hcz7_1
  try clear hcz7_2
  try clear hcz7_3
  try clear hcz7_4
  try clear hcz7_5
  try clear hcz7_6
  try clear hcz7_7
  try clear hcz9_0
  try clear hcz9_1
  try clear hcz9_2
  try clear hcz9_3
  try clear hcz9_4
  try clear hcz9_5
  try clear hcz9_6
  try clear hcz9_7
  try clear hfz11_0
  try clear hfz11_1
  try clear hfz11_2
  try clear hfz11_3
  try clear hfz11_4
  try clear hfz11_5
  try clear hfz11_6
  try clear hfz11_7
  try clear hfz7_0
  try clear hfz7_1
  try clear hfz7_2
  try clear hfz7_3
  try clear hfz7_4
  try clear hfz7_5
  try clear hfz7_6
  try clear hfz7_7
  try clear hfz9_0
  try clear hfz9_1
  try clear hfz9_2
  try clear hfz9_3
  try clear hfz9_4
  try clear hfz9_5
  try clear hfz9_6
  try clear hfz9_7
  obtain ⟨x5_1, rfl, HA, HK1, BK190, HB⟩ := hrel
  cases gk with
  | zero => exact absurd HA.out (by simp [basculeref22_May.l0])
  | succ k1 =>
   have H := HA.out
   clear HA
   simp only [basculeref22_May.l0] at H
   by_cases c12 : x5_1 < (l1.length : Int)
   rotate_left
   ·
    rw [if_neg c12] at H
    have c12b0 : decide (x5_1 < (l1.length : Int)) = false := decide_eq_false c12
    clear c12
    replace H := Option.bind_eq_some_iff.mp H
    obtain ⟨t194, A160, H⟩ := H
    replace H : (some ((l1.length : Int) == t194)) = some r := H
    have A16 := Aside0.mk A160
    clear A160
    obtain rfl := Option.some.inj H
    have hcz17_0 : wr.cell? ⟨gb190, 0, none⟩ = some (.string a0_0) := (blk_cell BK190.out 0).trans rfl
    have hcz17_1 : wr.cell? ⟨gb190, 1, none⟩ = some (.int .i64 a0_1) := (blk_cell BK190.out 1).trans rfl
    have hcz17_2 : wr.cell? ⟨gb190, 2, none⟩ = some (.int .i64 a0_2) := (blk_cell BK190.out 2).trans rfl
    have hcz17_3 : wr.cell? ⟨gb190, 3, none⟩ = some (.int .i64 a0_3) := (blk_cell BK190.out 3).trans rfl
    have hcz17_4 : wr.cell? ⟨gb190, 4, none⟩ = some (.int .i64 a0_4) := (blk_cell BK190.out 4).trans rfl
    have hcz17_5 : wr.cell? ⟨gb190, 5, none⟩ = some (.int .i64 a0_5) := (blk_cell BK190.out 5).trans rfl
    have hcz17_6 : wr.cell? ⟨gb190, 6, none⟩ = some (.int .i64 a0_6) := (blk_cell BK190.out 6).trans rfl
    have hcz17_7 : wr.cell? ⟨gb190, 7, none⟩ = some (.bool a0_7) := (blk_cell BK190.out 7).trans rfl
    have hfz17_0 := blk_frozen BK190.out 0
    have hfz17_1 := blk_frozen BK190.out 1
    have hfz17_2 := blk_frozen BK190.out 2
    have hfz17_3 := blk_frozen BK190.out 3
    have hfz17_4 := blk_frozen BK190.out 4
    have hfz17_5 := blk_frozen BK190.out 5
    have hfz17_6 := blk_frozen BK190.out 6
    have hfz17_7 := blk_frozen BK190.out 7
    go_wp2_with (first | ((with_reducible refine gate_callee (f := 35) rfl ?_); refine goesL_ (some 32) rfl rfl Tryz.func35 (by kernel_rfl) rfl #[.int .i64 a0_4] rfl zQx14a7_ ?_; (with_reducible refine (basculeref21_Words.calls k1 a0_4 t194 _ A16.out).mono ?_); rintro e w' ⟨rfl, ⟨nd, rfl⟩⟩; refine ⟨_, rfl, ?_⟩))
    go_ret
    exact ⟨zQx14a6_, zQx14a4_⟩
   rw [if_pos c12] at H
   have c12b0 : decide (x5_1 < (l1.length : Int)) = true := decide_eq_true c12
   clear c12
   have c13 : 0 ≤ x5_1 := znQx14_
   rw [if_pos c13] at H
   have c13b0 : decide (0 ≤ x5_1) = true := decide_eq_true c13
   clear c13
   replace H := Option.bind_eq_some_iff.mp H
   obtain ⟨t193, A140, H⟩ := H
   replace H : (if t193 = true then (basculeref22_May.l0 k1 l1 (wrap64 (x5_1 + 1)) a0_0 a0_1 a0_2 a0_3 a0_4 a0_5 a0_6 a0_7) else (some false)) = some r := H
   have A14 := Aside0.mk A140
   clear A140
   by_cases c15 : t193 = true
   rotate_left
   ·
    replace c15 := Bool.eq_false_iff.mpr c15
    subst c15
    have H1 : (some false) = some r := by rw [if_neg (show ¬ (false = true) by decide)] at H; exact H
    clear H
    have H := H1
    clear H1
    obtain rfl := Option.some.inj H
    have p192 : 0 ≤ (x5_1 : Int) := of_decide_eq_true zQx14a2_
    have q192 : x5_1 < (l1.length : Int) := of_decide_eq_true zQx14a2_
    obtain ⟨ad192, e192, hx192_0⟩ := Kd.at_int HR1.out x5_1 p192 q192
    cases e192
    replace hx192_0 := (HB.out.cell (World.block_lt_of_cell? w _ hx192_0)).trans hx192_0
    replace p192 := eq_true p192
    replace q192 := eq_true q192
    go_wp2_with (first | ((with_reducible refine gate_callee (f := 34) rfl ?_); refine goesL_ (some 26) rfl rfl Tryz.func34 (by kernel_rfl) rfl #[.int .i64 (rd l1 x5_1)] rfl zQx14a7_ ?_; (with_reducible refine (basculeref01_Is.calls (rd l1 x5_1) false _ A14.out).mono ?_); rintro e w' ⟨rfl, ⟨nd, rfl⟩⟩; refine ⟨_, rfl, ?_⟩))
    go_ret
    exact ⟨zQx14a6_, zQx14a4_⟩
   subst c15
   have H1 : (basculeref22_May.l0 k1 l1 (wrap64 (x5_1 + 1)) a0_0 a0_1 a0_2 a0_3 a0_4 a0_5 a0_6 a0_7) = some r := by rw [if_pos rfl] at H; exact H
   clear H
   have H := H1
   clear H1
   have H' := Aside0.mk H
   clear H
   have p192 : 0 ≤ (x5_1 : Int) := of_decide_eq_true zQx14a2_
   have q192 : x5_1 < (l1.length : Int) := of_decide_eq_true zQx14a2_
   obtain ⟨ad192, e192, hx192_0⟩ := Kd.at_int HR1.out x5_1 p192 q192
   cases e192
   replace hx192_0 := (HB.out.cell (World.block_lt_of_cell? w _ hx192_0)).trans hx192_0
   replace p192 := eq_true p192
   replace q192 := eq_true q192
   go_wp2_with (first | ((with_reducible refine gate_callee (f := 34) rfl ?_); refine goesL_ (some 26) rfl rfl Tryz.func34 (by kernel_rfl) rfl #[.int .i64 (rd l1 x5_1)] rfl zQx14a7_ ?_; (with_reducible refine (basculeref01_Is.calls (rd l1 x5_1) true _ A14.out).mono ?_); rintro e w' ⟨rfl, ⟨nd, rfl⟩⟩; refine ⟨_, rfl, ?_⟩))
   go_roundg k1
   case measure => have := HK1.out; omega
   case rel => exact ⟨(wrap64 (x5_1 + 1)), zQx14a1_, H', ⟨by have := HK1.out; omega⟩, ⟨zQx14a8_⟩, ⟨zQx14a4_⟩⟩
def basculeref01_Ints.l0 : Nat → List Int → List Int → Int → Option (Bool)
 | 0, _, _, _ => none
 | k + 1, x0, x1, x5 => if x5 < (x0.length : Int) then (if 0 ≤ x5 then (if x5 < (x1.length : Int) then (if (rd x0 x5) = (rd x1 x5) then (basculeref01_Ints.l0 k x0 x1 (wrap64 (x5 + 1))) else (some false)) else (none)) else (none)) else (some true)
def basculeref01_Ints.f (k : Nat) (l0 : List Int) (l1 : List Int) : Option (Bool) := if (l0.length : Int) = (l1.length : Int) then (basculeref01_Ints.l0 k l0 l1 0) else (some false)
set_option maxHeartbeats 8000000 in
set_option maxRecDepth 100000 in
theorem basculeref01_Ints.calls (k : Nat) (A0 : Option Addr) (c0 : Nat) (l0 : List Int) (A1 : Option Addr) (c1 : Nat) (l1 : List Int) (r : Bool) (w : World) (hr0 : Kd.C (Kd.int .i64) w A0 l0.length l0) (hc0 : l0.length ≤ c0) (hr1 : Kd.C (Kd.int .i64) w A1 l1.length l1) (hc1 : l1.length ≤ c1) (h : basculeref01_Ints.f k l0 l1 = some r) :
  Calls Tryz.prog 36 #[.slice A0 l0.length c0, .slice A1 l1.length c1] w fun e w' => e = .returned (.bool r) ∧ Drawn0 w w' := by
 have HR0 := Aside0.mk hr0
 have HC0 := Aside0.mk hc0
 clear hr0 hc0
 have HR1 := Aside0.mk hr1
 have HC1 := Aside0.mk hc1
 clear hr1 hc1
 have H : (if (l0.length : Int) = (l1.length : Int) then (basculeref01_Ints.l0 k l0 l1 0) else (some false)) = some r := h
 clear h
 by_cases c3 : (l0.length : Int) = (l1.length : Int)
 rotate_left
 ·
  rw [if_neg c3] at H
  have c3b0 : ((l0.length : Int) == (l1.length : Int)) = false := beq_eq_false_iff_ne.mpr c3
  have c3b1 : ((l0.length : Int) != (l1.length : Int)) = true := bne_iff_ne.mpr c3
  have c3b2 : (l0.length == l1.length) = false := by first | simpa using c3 | (simp at c3 ⊢; omega)
  obtain rfl := Option.some.inj H
  go_enter Tryz.func36, Tryz.ntmps36
  go_wp2
  repeat (go_quiet (fail); try go_wp2)
  go_ret
  exact ⟨zQx14a1_, zQx14a3_⟩
 rw [if_pos c3] at H
 have c3b0 : ((l0.length : Int) == (l1.length : Int)) = true := beq_iff_eq.mpr c3
 have c3b1 : ((l0.length : Int) != (l1.length : Int)) = false := bne_eq_false_iff_eq.mpr c3
 have c3b2 : (l0.length == l1.length) = true := by first | simpa using c3 | (simp at c3 ⊢; omega)
 clear c3
 have H' := Aside0.mk H
 clear H
 go_enter Tryz.func36, Tryz.ntmps36
 go_wp2
 repeat (go_quiet (fail); try go_wp2)
 go_loopg [5] k (fun kq v5 w' => ∃ (x5_1 : Int), v5 = .int .i64 x5_1 ∧ Aside0 (basculeref01_Ints.l0 kq l0 l1 x5_1 = some r) ∧ Aside0 (kq ≤ k) ∧ Drawn0 w w')
 case atStart => exact ⟨(0), zQx14a1_, H', ⟨Nat.le_refl _⟩, zQx14a3_⟩
 case round =>
  clear H'
  try clear c1
  try clear p2
  try clear c3
  try clear c3b0
  try clear c3b1
  try clear c3b2
  obtain ⟨x5_1, rfl, HA, HK1, ⟨m1, rfl⟩⟩ := hrel
  cases gk with
  | zero => exact absurd HA.out (by simp [basculeref01_Ints.l0])
  | succ k1 =>
   have H := HA.out
   clear HA
   simp only [basculeref01_Ints.l0] at H
   by_cases c4 : x5_1 < (l0.length : Int)
   rotate_left
   ·
    rw [if_neg c4] at H
    have c4b0 : decide (x5_1 < (l0.length : Int)) = false := decide_eq_false c4
    clear c4
    obtain rfl := Option.some.inj H
    go_wp2
    repeat (go_quiet (fail); try go_wp2)
    go_ret
    exact ⟨zQx14a1_, zQx14a3_⟩
   rw [if_pos c4] at H
   have c4b0 : decide (x5_1 < (l0.length : Int)) = true := decide_eq_true c4
   clear c4
   have c5 : 0 ≤ x5_1 := znQx14_
   rw [if_pos c5] at H
   have c5b0 : decide (0 ≤ x5_1) = true := decide_eq_true c5
   clear c5
   have c6 : x5_1 < (l1.length : Int) := znQx14_
   rw [if_pos c6] at H
   have c6b0 : decide (x5_1 < (l1.length : Int)) = true := decide_eq_true c6
   clear c6
   by_cases c7 : (rd l0 x5_1) = (rd l1 x5_1)
   rotate_left
   ·
    rw [if_neg c7] at H
    have c7b0 : ((rd l0 x5_1) == (rd l1 x5_1)) = false := beq_eq_false_iff_ne.mpr c7
    have c7b1 : ((rd l0 x5_1) != (rd l1 x5_1)) = true := bne_iff_ne.mpr c7
    obtain rfl := Option.some.inj H
    have p195 : 0 ≤ (x5_1 : Int) := of_decide_eq_true zQx14a2_
    have q195 : x5_1 < (l0.length : Int) := of_decide_eq_true zQx14a2_
    obtain ⟨ad195, e195, hx195_0⟩ := Kd.at_int HR0.out x5_1 p195 q195
    cases e195
    replace p195 := eq_true p195
    replace q195 := eq_true q195
    have p196 : 0 ≤ (x5_1 : Int) := of_decide_eq_true zQx14a2_
    have q196 : x5_1 < (l1.length : Int) := of_decide_eq_true zQx14a2_
    obtain ⟨ad196, e196, hx196_0⟩ := Kd.at_int HR1.out x5_1 p196 q196
    cases e196
    replace p196 := eq_true p196
    replace q196 := eq_true q196
    go_wp2
    repeat (go_quiet (fail); try go_wp2)
    go_ret
    exact ⟨zQx14a1_, zQx14a3_⟩
   rw [if_pos c7] at H
   have c7b0 : ((rd l0 x5_1) == (rd l1 x5_1)) = true := beq_iff_eq.mpr c7
   have c7b1 : ((rd l0 x5_1) != (rd l1 x5_1)) = false := bne_eq_false_iff_eq.mpr c7
   clear c7
   have H' := Aside0.mk H
   clear H
   have p195 : 0 ≤ (x5_1 : Int) := of_decide_eq_true zQx14a2_
   have q195 : x5_1 < (l0.length : Int) := of_decide_eq_true zQx14a2_
   obtain ⟨ad195, e195, hx195_0⟩ := Kd.at_int HR0.out x5_1 p195 q195
   cases e195
   replace p195 := eq_true p195
   replace q195 := eq_true q195
   have p196 : 0 ≤ (x5_1 : Int) := of_decide_eq_true zQx14a2_
   have q196 : x5_1 < (l1.length : Int) := of_decide_eq_true zQx14a2_
   obtain ⟨ad196, e196, hx196_0⟩ := Kd.at_int HR1.out x5_1 p196 q196
   cases e196
   replace p196 := eq_true p196
   replace q196 := eq_true q196
   go_wp2
   repeat (go_quiet (fail); try go_wp2)
   go_roundg k1
   case measure => have := HK1.out; omega
   case rel => exact ⟨(wrap64 (x5_1 + 1)), zQx14a1_, H', ⟨by have := HK1.out; omega⟩, zQx14a3_⟩
mutual
def basculeref22_times.l0 : Nat → List Int → Int → List Int → Int → Int → Option (List Int)
 | 0, _, _, _, _, _ => none
 | k + 1, x0, x1, x7, x8, x9 => if x9 < (x0.length : Int) then (basculeref22_times.j1 k x0 x1 x7 x8 x9 true) else (basculeref22_times.j1 k x0 x1 x7 x8 x9 (decide (x8 > 0)))
def basculeref22_times.j1 : Nat → List Int → Int → List Int → Int → Int → Bool → Option (List Int)
 | 0, _, _, _, _, _, _ => none
 | k + 1, x0, x1, x7, x8, x9, x18 => if x18 = true then (if x9 < (x0.length : Int) then (if 0 ≤ x9 then (if x7.length < 17592186044416 then (basculeref22_times.l0 k x0 x1 (x7 ++ [Int.tmod (wrap64 (x8 + (wrap64 (x1 * (rd x0 x9))))) 10]) (wrap64 (Int.tdiv (wrap64 (x8 + (wrap64 (x1 * (rd x0 x9))))) 10)) (wrap64 (x9 + 1))) else (none)) else (none)) else (if x7.length < 17592186044416 then (basculeref22_times.l0 k x0 x1 (x7 ++ [Int.tmod x8 10]) (wrap64 (Int.tdiv x8 10)) (wrap64 (x9 + 1))) else (none))) else (some x7)
end
def basculeref22_times.f (k : Nat) (l0 : List Int) (a1 : Int) (a2 : Int) : Option (List Int) := basculeref22_times.l0 k l0 a1 ([] : List Int) a2 0
set_option maxHeartbeats 8000000 in
set_option maxRecDepth 100000 in
theorem basculeref22_times.calls (k : Nat) (A0 : Option Addr) (c0 : Nat) (l0 : List Int) (a1 : Int) (a2 : Int) (r : List Int) (w : World) (hr0 : Kd.C (Kd.int .i64) w A0 l0.length l0) (hc0 : l0.length ≤ c0) (h : basculeref22_times.f k l0 a1 a2 = some r) :
  Calls Tryz.prog 41 #[.slice A0 l0.length c0, .int .i64 a1, .int .i64 a2] w fun e w' => ∃ v0_ : Value, e = .returned (v0_) ∧ Kd.R (Kd.int .i64) 3 w' w.heap.size (fun _ => True) v0_ r ∧ Below w.heap.size w w' := by
 have HR0 := Aside0.mk hr0
 have HC0 := Aside0.mk hc0
 clear hr0 hc0
 have HB := Aside0.mk (Below.refl w.heap.size w)
 have H : (basculeref22_times.l0 k l0 a1 ([] : List Int) a2 0) = some r := h
 clear h
 have H' := Aside0.mk H
 clear H
 go_enter Tryz.func41, Tryz.ntmps41
 go_wp2
 go_loopg [7, 8, 9] k (fun kq v7 v8 v9 w' => ∃ (x7_1 : List Int) (x8_1 : Int) (x9_1 : Int), v8 = .int .i64 x8_1 ∧ v9 = .int .i64 x9_1 ∧ Aside0 (basculeref22_times.l0 kq l0 a1 x7_1 x8_1 x9_1 = some r) ∧ Aside0 (kq ≤ k) ∧ Aside0 (Kd.R (Kd.int .i64) 3 w' w.heap.size (fun _ => True) v7 x7_1) ∧ Aside0 (Below w.heap.size w w'))
 case atStart => exact ⟨(([] : List Int)), (a2), (0), zQx14a1_, zQx14a1_, H', ⟨Nat.le_refl _⟩, ⟨by first | exact Kd.R_nil _ _ _ _ _ | exact Kd.N_nil _ _ _ _ _ | exact Kd.V_nil _ _ _ _ _ | exact Kd.Q_nil _ _ _ _ _ | exact Kd.S_nil _ _ _ _ _⟩, ⟨zQx14a0_⟩⟩
 case round =>
  clear H'
  try clear p2
  obtain ⟨x7_1, x8_1, x9_1, rfl, rfl, HA, HK1, HO_7, HB⟩ := hrel
  cases gk with
  | zero => exact absurd HA.out (by simp [basculeref22_times.l0])
  | succ k1 =>
   have H := HA.out
   clear HA
   simp only [basculeref22_times.l0] at H
   have HC4 := Aside0.mk H
   clear H
   go_upto_region 4 with (fail)
   go_cut [18] (fun v18 wc => ∃ (kq : Nat) (x18_3 : Bool), v18 = .bool x18_3 ∧ Aside0 (basculeref22_times.j1 kq l0 a1 x7_1 x8_1 x9_1 x18_3 = some r) ∧ Aside0 (kq ≤ k1) ∧ Aside0 (Kd.R (Kd.int .i64) 3 wc w.heap.size (fun _ => True) u7 x7_1) ∧ Aside0 (Below w.heap.size w wc))
   case first =>
    have H := HC4.out
    clear HC4
    by_cases c5 : x9_1 < (l0.length : Int)
    ·
     rw [if_pos c5] at H
     have c5b0 : decide (x9_1 < (l0.length : Int)) = true := decide_eq_true c5
     clear c5
     (first | rw [c5b0] | (simp only [i64_w, i32_w]; rw [c5b0]) | skip)
     have H' := Aside0.mk H
     clear H
     go_wp2
     go_meet
     case rel => exact ⟨_, (true), zQx14a1_, H', ⟨by have := HK1.out; first | omega | exact Nat.le_refl _⟩, ⟨zQx14a5_⟩, ⟨zQx14a0_⟩⟩
    rw [if_neg c5] at H
    have c5b0 : decide (x9_1 < (l0.length : Int)) = false := decide_eq_false c5
    clear c5
    (first | rw [c5b0] | (simp only [i64_w, i32_w]; rw [c5b0]) | skip)
    have H' := Aside0.mk H
    clear H
    go_wp2
    go_meet
    case rel => exact ⟨_, (decide (x8_1 > 0)), zQx14a1_, H', ⟨by have := HK1.out; first | omega | exact Nat.le_refl _⟩, ⟨zQx14a5_⟩, ⟨zQx14a0_⟩⟩
   case rest =>
    clear HC4
    try clear p2
    try clear c4
    try clear c5
    try clear c5b0
    try clear p2
    obtain ⟨kq, x18_3, rfl, HA, HJ3, HO_7, HB⟩ := hcut
    cases kq with
    | zero => exact absurd HA.out (by simp [basculeref22_times.j1])
    | succ kj3 =>
     have H := HA.out
     clear HA
     simp only [basculeref22_times.j1] at H
     by_cases c6 : x18_3 = true
     rotate_left
     ·
      replace c6 := Bool.eq_false_iff.mpr c6
      subst c6
      have H1 : (some x7_1) = some r := by rw [if_neg (show ¬ (false = true) by decide)] at H; exact H
      clear H
      have H := H1
      clear H1
      obtain rfl := Option.some.inj H
      go_wp2
      go_ret
      exact ⟨_, zQx14a6_, zQx14a5_, zQx14a0_⟩
     subst c6
     have H1 : (if x9_1 < (l0.length : Int) then (if 0 ≤ x9_1 then (if x7_1.length < 17592186044416 then (basculeref22_times.l0 kj3 l0 a1 (x7_1 ++ [Int.tmod (wrap64 (x8_1 + (wrap64 (a1 * (rd l0 x9_1))))) 10]) (wrap64 (Int.tdiv (wrap64 (x8_1 + (wrap64 (a1 * (rd l0 x9_1))))) 10)) (wrap64 (x9_1 + 1))) else (none)) else (none)) else (if x7_1.length < 17592186044416 then (basculeref22_times.l0 kj3 l0 a1 (x7_1 ++ [Int.tmod x8_1 10]) (wrap64 (Int.tdiv x8_1 10)) (wrap64 (x9_1 + 1))) else (none))) = some r := by rw [if_pos rfl] at H; exact H
     clear H
     have H := H1
     clear H1
     by_cases c7 : x9_1 < (l0.length : Int)
     rotate_left
     ·
      rw [if_neg c7] at H
      have c7b0 : decide (x9_1 < (l0.length : Int)) = false := decide_eq_false c7
      clear c7
      have c11 : x7_1.length < 17592186044416 := znQx14_
      rw [if_pos c11] at H
      have LMc11 := Aside0.mk c11
      clear c11
      obtain ⟨y201, hy201⟩ : ∃ y_ : List Int, y_ = (x7_1 ++ [Int.tmod x8_1 10]) := ⟨_, rfl⟩
      replace H : (basculeref22_times.l0 kj3 l0 a1 y201 (wrap64 (Int.tdiv x8_1 10)) (wrap64 (x9_1 + 1))) = some r := by first | (rw [hy201]; with_reducible exact H) | (have H2_ := (Option.bind_some _ _).symm.trans H; rw [hy201]; with_reducible exact H2_) | (have H2_ := (Option.bind_some _ _).symm.trans H; with_reducible exact H2_) | with_reducible exact H | (rw [hy201]; exact H) | exact H
      have Ny201 := Aside0.mk hy201
      clear hy201
      have H' := Aside0.mk H
      clear H
      go_wp2_with (first | ((with_reducible refine gate_builtin (b := .append) (xs := #[.tmp 33, .tmp 36]) rfl ?_); at_builtin; refine Kd.R_append (Kd.int .i64) (w0 := w) w.heap.size rfl (.tmp 33) (.tmp 36) 33 3 (.int .i64 0) 8 rfl Tryz.underlying33 info3 rfl (by decide) (by omega) u7 x7_1 (Int.tmod x8_1 10) [.int .i64 (Int.tmod x8_1 10)] (fun _ => True) (fun _ => False) rfl rfl ?aP (fun _ hk => hk.elim) ?aF ?aO ?aB ?aS ?aL ?_; (case aP => exact rfl); (case aB => exact zQx14a0_); (case aF => exact (fun _ _ => trivial)); (case aO => exact zQx14a5_); (case aS => exact (below_size zQx14a0_)); (case aL => have := LMc11.out; omega); intro v202 w12 ho hb hg hat; rw [← Ny201.out] at ho; have n0_ := Aside0.mk (hb); have n1_ := Aside0.mk (ho); clear HB; clear HO_7; have HB := n0_; have HO203 := n1_; clear n0_ n1_; clear ho hb hg hat))
      go_roundg kj3
      case measure => have := HK1.out; have := HJ3.out; omega
      case rel => exact ⟨(y201), (wrap64 (Int.tdiv x8_1 10)), (wrap64 (x9_1 + 1)), zQx14a1_, zQx14a1_, H', ⟨by have := HK1.out; have := HJ3.out; omega⟩, ⟨by (with_reducible repeat (first | apply Kd.R_alloc | apply Kd.R_drewN | apply Kd.R_drew)); exact HO203.out⟩, ⟨zQx14a0_⟩⟩
     rw [if_pos c7] at H
     have c7b0 : decide (x9_1 < (l0.length : Int)) = true := decide_eq_true c7
     clear c7
     have c8 : 0 ≤ x9_1 := znQx14_
     rw [if_pos c8] at H
     have c8b0 : decide (0 ≤ x9_1) = true := decide_eq_true c8
     clear c8
     have c9 : x7_1.length < 17592186044416 := znQx14_
     rw [if_pos c9] at H
     have LMc9 := Aside0.mk c9
     clear c9
     obtain ⟨y198, hy198⟩ : ∃ y_ : List Int, y_ = (x7_1 ++ [Int.tmod (wrap64 (x8_1 + (wrap64 (a1 * (rd l0 x9_1))))) 10]) := ⟨_, rfl⟩
     replace H : (basculeref22_times.l0 kj3 l0 a1 y198 (wrap64 (Int.tdiv (wrap64 (x8_1 + (wrap64 (a1 * (rd l0 x9_1))))) 10)) (wrap64 (x9_1 + 1))) = some r := by first | (rw [hy198]; with_reducible exact H) | (have H2_ := (Option.bind_some _ _).symm.trans H; rw [hy198]; with_reducible exact H2_) | (have H2_ := (Option.bind_some _ _).symm.trans H; with_reducible exact H2_) | with_reducible exact H | (rw [hy198]; exact H) | exact H
     have Ny198 := Aside0.mk hy198
     clear hy198
     have H' := Aside0.mk H
     clear H
     have p197 : 0 ≤ (x9_1 : Int) := of_decide_eq_true zQx14a2_
     have q197 : x9_1 < (l0.length : Int) := of_decide_eq_true zQx14a2_
     obtain ⟨ad197, e197, hx197_0⟩ := Kd.at_int HR0.out x9_1 p197 q197
     cases e197
     replace hx197_0 := (HB.out.cell (World.block_lt_of_cell? w _ hx197_0)).trans hx197_0
     replace p197 := eq_true p197
     replace q197 := eq_true q197
     go_wp2_with (first | ((with_reducible refine gate_builtin (b := .append) (xs := #[.tmp 33, .tmp 36]) rfl ?_); at_builtin; refine Kd.R_append (Kd.int .i64) (w0 := w) w.heap.size rfl (.tmp 33) (.tmp 36) 33 3 (.int .i64 0) 8 rfl Tryz.underlying33 info3 rfl (by decide) (by omega) u7 x7_1 (Int.tmod (wrap64 (x8_1 + (wrap64 (a1 * (rd l0 x9_1))))) 10) [.int .i64 (Int.tmod (wrap64 (x8_1 + (wrap64 (a1 * (rd l0 x9_1))))) 10)] (fun _ => True) (fun _ => False) rfl rfl ?aP (fun _ hk => hk.elim) ?aF ?aO ?aB ?aS ?aL ?_; (case aP => exact rfl); (case aB => exact zQx14a0_); (case aF => exact (fun _ _ => trivial)); (case aO => exact zQx14a5_); (case aS => exact (below_size zQx14a0_)); (case aL => have := LMc9.out; omega); intro v199 w10 ho hb hg hat; rw [← Ny198.out] at ho; have n0_ := Aside0.mk (hb); have n1_ := Aside0.mk (ho); clear HB; clear HO_7; have HB := n0_; have HO200 := n1_; clear n0_ n1_; clear ho hb hg hat))
     go_roundg kj3
     case measure => have := HK1.out; have := HJ3.out; omega
     case rel => exact ⟨(y198), (wrap64 (Int.tdiv (wrap64 (x8_1 + (wrap64 (a1 * (rd l0 x9_1))))) 10)), (wrap64 (x9_1 + 1)), zQx14a1_, zQx14a1_, H', ⟨by have := HK1.out; have := HJ3.out; omega⟩, ⟨by (with_reducible repeat (first | apply Kd.R_alloc | apply Kd.R_drewN | apply Kd.R_drew)); exact HO200.out⟩, ⟨zQx14a0_⟩⟩
end Go.Proofs.YtenbkjeflancaaaGreatDoor.Q
