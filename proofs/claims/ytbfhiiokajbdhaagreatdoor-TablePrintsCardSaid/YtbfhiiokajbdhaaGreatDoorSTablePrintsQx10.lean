/- What the proof of TablePrints leans on: Qx10. -/
import Derived.Test.YtbfhiiokajbdhaaGreatDoorSTablePrintsQx0
import Derived.Test.YtbfhiiokajbdhaaGreatDoorSTablePrintsQx9
import Derived.Test.YtbfhiiokajbdhaaGreatDoorSTablePrintsTabR
namespace Go.Proofs.YtbfhiiokajbdhaaGreatDoor.Q
open Go.RowKit Go.Proofs.YtbfhiiokajbdhaaGreatDoorW.PrintWords Go.Proofs.YtbfhiiokajbdhaaGreatDoorW.PrintLast Go.Proofs.YtbfhiiokajbdhaaGreatDoorW.PrintMore
attribute [local go_sem] max2_int max_two
set_option linter.unusedVariables false
set_option linter.unusedSimpArgs false
theorem zQx10a0_ {P_ : Prop} (h_ : P_ := by repeat (first | (with_reducible first | exact HB.out | apply below_alloc | apply pw_below_drewN | apply below_drew1) | exact HB.out)) : P_ := h_
theorem zQx10a1_ {P_ : Prop} (h_ : P_ := by first | (with_reducible assumption) | assumption) : P_ := h_
theorem zQx10a2_ {P_ : Prop} (h_ : P_ := by first | rfl | (simp [errW_none, errW_some] <;> rfl) | (simp [*, errW_none, errW_some] <;> rfl)) : P_ := h_
theorem zQx10a3_ {P_ : Prop} (h_ : P_ := by first | rfl | (simp; done) | (simp [*]; done)) : P_ := h_
theorem zQx10a4_ {P_ : Prop} (h_ : P_ := by (try simp only [List.map_toArray, List.map_cons, List.map_nil]); first | done | rfl | (simp only [List.length_drop, List.length_take]; rfl)) : P_ := h_
theorem zQx10a5_ {P_ : Prop} (h_ : P_ := by first | exact Kd.R_nil _ _ _ _ _ | exact Kd.N_nil _ _ _ _ _ | exact Kd.V_nil _ _ _ _ _ | exact Kd.Q_nil _ _ _ _ _ | exact Kd.S_nil _ _ _ _ _) : P_ := h_
theorem zQx10a6_ {P_ : Prop} (h_ : P_ := by (with_reducible repeat (first | apply Kd.R_alloc | apply Kd.R_drewN | apply Kd.R_drew)); exact HO_4.out) : P_ := h_
theorem zQx10a7_ {P_ : Prop} (h_ : P_ := by repeat (first | exact Drawn0.refl _ | apply Drawn0.step)) : P_ := h_
theorem zQx10a8_ {P_ : Prop} (h_ : P_ := by (with_reducible repeat (first | apply Kd.R_alloc | apply Kd.R_drewN | apply Kd.R_drew)); exact HO146.out) : P_ := h_
theorem zQx10a9_ {P_ : Prop} (h_ : P_ := by first | omega | exact Nat.le_refl _) : P_ := h_
theorem znQx10_ {X_ : Prop} [Decidable X_] (h_ : ¬ X_ → False := by intro c_; rw [if_neg c_] at H; exact absurd H (by simp)) : X_ := Decidable.byContradiction h_
def basculeref09_Points.l0 : Nat → ByteArray → List Int → Option (List Int × Bool)
 | 0, _, _ => none
 | k + 1, x0, x4 => if (x0.size : Int) > 0 then ((basculeref09_first.f k x0).bind fun t143 => (if t143 = 0 then (some (([] : List Int), false)) else (if x4.length < 17592186044416 then ((basculeref09_Bytes.f t143).bind fun t147 => (if 0 ≤ (t147.size : Int) then (if (t147.size : Int) ≤ (x0.size : Int) then (basculeref09_Points.l0 k (x0.extract ((t147.size : Int) : Int).toNat x0.size) (x4 ++ [t143])) else (none)) else (none))) else (none)))) else (some (x4, true))
def basculeref09_Points.f (k : Nat) (a0 : ByteArray) : Option (List Int × Bool) := if (a0.size : Int) > 65535 then (some (([] : List Int), false)) else (basculeref09_Points.l0 k a0 ([] : List Int))
set_option maxHeartbeats 8000000 in
set_option maxRecDepth 100000 in
theorem basculeref09_Points.calls (k : Nat) (a0 : ByteArray) (r1 : List Int) (r2 : Bool) (w : World) (h : basculeref09_Points.f k a0 = some (r1, r2)) :
  Calls Tryz.prog 105 #[.string a0] w fun e w' => ∃ v0_ : Value, e = .returned (.tuple #[v0_, .bool r2]) ∧ Kd.R (Kd.int .i64) 3 w' w.heap.size (fun _ => True) v0_ r1 ∧ Below w.heap.size w w' := by
 have HB := Aside0.mk (Below.refl w.heap.size w)
 have H : (if (a0.size : Int) > 65535 then (some (([] : List Int), false)) else (basculeref09_Points.l0 k a0 ([] : List Int))) = some (r1, r2) := h
 clear h
 by_cases c2 : (a0.size : Int) > 65535
 ·
  rw [if_pos c2] at H
  have c2b0 : decide (65535 < (a0.size : Int)) = true := decide_eq_true c2
  have c2b1 : decide (65535 < a0.size) = true := decide_eq_true (by omega)
  have c2b7 : (65535 < a0.size) := of_decide_eq_true c2b1
  clear c2
  simp only [Option.some.injEq, Prod.mk.injEq] at H
  obtain ⟨rfl, rfl⟩ := H
  go_enter Tryz.func105, Tryz.ntmps105
  go_wp2
  go_ret2
  exact ⟨_, zQx10a2_, zQx10a5_, zQx10a0_⟩
 rw [if_neg c2] at H
 have c2b0 : decide (65535 < (a0.size : Int)) = false := decide_eq_false c2
 have c2b1 : decide (65535 < a0.size) = false := decide_eq_false (by omega)
 clear c2
 have H' := Aside0.mk H
 clear H
 go_enter Tryz.func105, Tryz.ntmps105
 go_wp2
 go_loopg [0, 4] k (fun kq v0 v4 w' => ∃ (x0_1 : ByteArray) (x4_1 : List Int), v0 = .string x0_1 ∧ Aside0 (basculeref09_Points.l0 kq x0_1 x4_1 = some (r1, r2)) ∧ Aside0 (kq ≤ k) ∧ Aside0 (Kd.R (Kd.int .i64) 3 w' w.heap.size (fun _ => True) v4 x4_1) ∧ Aside0 (Below w.heap.size w w'))
 case atStart => exact ⟨(a0), (([] : List Int)), zQx10a3_, H', ⟨Nat.le_refl _⟩, ⟨zQx10a5_⟩, ⟨zQx10a0_⟩⟩
 case round =>
  clear H'
  try clear c1
  try clear c2
  try clear c2b0
  try clear c2b1
  try clear p2
  obtain ⟨x0_1, x4_1, rfl, HA, HK1, HO_4, HB⟩ := hrel
  cases gk with
  | zero => exact absurd HA.out (by simp [basculeref09_Points.l0])
  | succ k1 =>
   have H := HA.out
   clear HA
   simp only [basculeref09_Points.l0] at H
   by_cases c3 : (x0_1.size : Int) > 0
   rotate_left
   ·
    rw [if_neg c3] at H
    have c3b0 : decide (0 < (x0_1.size : Int)) = false := decide_eq_false c3
    have c3b1 : decide (0 < x0_1.size) = false := decide_eq_false (by omega)
    clear c3
    simp only [Option.some.injEq, Prod.mk.injEq] at H
    obtain ⟨rfl, rfl⟩ := H
    go_wp2
    go_ret2
    exact ⟨_, zQx10a2_, zQx10a6_, zQx10a0_⟩
   rw [if_pos c3] at H
   have c3b0 : decide (0 < (x0_1.size : Int)) = true := decide_eq_true c3
   have c3b1 : decide (0 < x0_1.size) = true := decide_eq_true (by omega)
   have c3b7 : (0 < x0_1.size) := of_decide_eq_true c3b1
   clear c3
   replace H := Option.bind_eq_some_iff.mp H
   obtain ⟨t143, A40, H⟩ := H
   replace H : (if t143 = 0 then (some (([] : List Int), false)) else (if x4_1.length < 17592186044416 then ((basculeref09_Bytes.f t143).bind fun t147 => (if 0 ≤ (t147.size : Int) then (if (t147.size : Int) ≤ (x0_1.size : Int) then (basculeref09_Points.l0 k1 (x0_1.extract ((t147.size : Int) : Int).toNat x0_1.size) (x4_1 ++ [t143])) else (none)) else (none))) else (none))) = some (r1, r2) := H
   have A4 := Aside0.mk A40
   clear A40
   by_cases c5 : t143 = 0
   ·
    rw [if_pos c5] at H
    have c5b0 : (t143 == 0) = true := beq_iff_eq.mpr c5
    have c5b1 : (t143 != 0) = false := bne_eq_false_iff_eq.mpr c5
    clear c5
    simp only [Option.some.injEq, Prod.mk.injEq] at H
    obtain ⟨rfl, rfl⟩ := H
    go_wp2_with (first | ((with_reducible refine gate_callee (f := 119) rfl ?_); refine goesL_ (some 13) rfl rfl Tryz.func119 (by kernel_rfl) rfl #[.string x0_1] rfl zQx10a4_ ?_; (with_reducible refine (basculeref09_first.calls k1 x0_1 t143 _ A4.out).mono ?_); rintro e w6 ⟨rfl, hb⟩; refine ⟨_, rfl, ?_⟩; have n0_ := Aside0.mk (Kd.R_below zQx10a6_ hb); have n1_ := Aside0.mk (below_step zQx10a0_ hb); clear HO_4; clear HB; have HO_4 := n0_; have HB := n1_; clear n0_ n1_; (try clear hb); (try clear hb2); (try clear hk); (try clear hi)))
    go_ret2
    exact ⟨_, zQx10a2_, zQx10a5_, zQx10a0_⟩
   rw [if_neg c5] at H
   have c5b0 : (t143 == 0) = false := beq_eq_false_iff_ne.mpr c5
   have c5b1 : (t143 != 0) = true := bne_iff_ne.mpr c5
   have c7 : x4_1.length < 17592186044416 := znQx10_
   rw [if_pos c7] at H
   have LMc7 := Aside0.mk c7
   clear c7
   obtain ⟨y144, hy144⟩ : ∃ y_ : List Int, y_ = (x4_1 ++ [t143]) := ⟨_, rfl⟩
   replace H : ((basculeref09_Bytes.f t143).bind fun t147 => (if 0 ≤ (t147.size : Int) then (if (t147.size : Int) ≤ (x0_1.size : Int) then (basculeref09_Points.l0 k1 (x0_1.extract ((t147.size : Int) : Int).toNat x0_1.size) y144) else (none)) else (none))) = some (r1, r2) := by first | (rw [hy144]; with_reducible exact H) | (have H2_ := (Option.bind_some _ _).symm.trans H; rw [hy144]; with_reducible exact H2_) | (have H2_ := (Option.bind_some _ _).symm.trans H; with_reducible exact H2_) | with_reducible exact H | (rw [hy144]; exact H) | exact H
   have Ny144 := Aside0.mk hy144
   clear hy144
   replace H := Option.bind_eq_some_iff.mp H
   obtain ⟨t147, A80, H⟩ := H
   replace H : (if 0 ≤ (t147.size : Int) then (if (t147.size : Int) ≤ (x0_1.size : Int) then (basculeref09_Points.l0 k1 (x0_1.extract ((t147.size : Int) : Int).toNat x0_1.size) y144) else (none)) else (none)) = some (r1, r2) := H
   have A8 := Aside0.mk A80
   clear A80
   have c9 : 0 ≤ (t147.size : Int) := znQx10_
   rw [if_pos c9] at H
   have c9b0 := eq_true c9
   have c9b1 : decide (0 ≤ (t147.size : Int)) = true := decide_eq_true c9
   clear c9
   have c10 : (t147.size : Int) ≤ (x0_1.size : Int) := znQx10_
   rw [if_pos c10] at H
   have c10b0 := eq_true c10
   have c10b1 : decide ((t147.size : Int) ≤ (x0_1.size : Int)) = true := decide_eq_true c10
   clear c10
   have H' := Aside0.mk H
   clear H
   go_wp2_with (first | ((with_reducible refine gate_callee (f := 119) rfl ?_); refine goesL_ (some 13) rfl rfl Tryz.func119 (by kernel_rfl) rfl #[.string x0_1] rfl zQx10a4_ ?_; (with_reducible refine (basculeref09_first.calls k1 x0_1 t143 _ A4.out).mono ?_); rintro e w11 ⟨rfl, hb⟩; refine ⟨_, rfl, ?_⟩; have n0_ := Aside0.mk (Kd.R_below zQx10a6_ hb); have n1_ := Aside0.mk (below_step zQx10a0_ hb); clear HO_4; clear HB; have HO_4 := n0_; have HB := n1_; clear n0_ n1_; (try clear hb); (try clear hb2); (try clear hk); (try clear hi)) | ((with_reducible refine gate_builtin (b := .append) (xs := #[.tmp 16, .tmp 18]) rfl ?_); at_builtin; refine Kd.R_append (Kd.int .i64) (w0 := w) w.heap.size rfl (.tmp 16) (.tmp 18) 115 3 (.int .i64 0) 8 rfl Tryz.underlying115 info3 rfl (by decide) (by omega) u4 x4_1 t143 [.int .i64 t143] (fun _ => True) (fun _ => False) rfl rfl ?aP (fun _ hk => hk.elim) ?aF ?aO ?aB ?aS ?aL ?_; (case aP => exact rfl); (case aB => exact zQx10a0_); (case aF => exact (fun _ _ => trivial)); (case aO => exact zQx10a6_); (case aS => exact (below_size zQx10a0_)); (case aL => have := LMc7.out; omega); intro v145 w12 ho hb hg hat; rw [← Ny144.out] at ho; have n0_ := Aside0.mk (hb); have n1_ := Aside0.mk (ho); clear HB; clear HO_4; have HB := n0_; have HO146 := n1_; clear n0_ n1_; clear ho hb hg hat) | ((with_reducible refine gate_callee (f := 120) rfl ?_); refine goesL_ (some 22) rfl rfl Tryz.func120 (by kernel_rfl) rfl #[.int .i64 t143] rfl zQx10a4_ ?_; (with_reducible refine (basculeref09_Bytes.calls t143 t147 _ A8.out).mono ?_); rintro e w13 ⟨rfl, hb⟩; refine ⟨_, rfl, ?_⟩; have n0_ := Aside0.mk (Kd.R_below zQx10a8_ hb); have n1_ := Aside0.mk (below_step zQx10a0_ hb); clear HO146; clear HB; have HO146 := n0_; have HB := n1_; clear n0_ n1_; (try clear hb); (try clear hb2); (try clear hk); (try clear hi)))
   go_roundg k1
   case measure => have := HK1.out; omega
   case rel => exact ⟨(x0_1.extract ((t147.size : Int) : Int).toNat x0_1.size), (y144), zQx10a3_, H', ⟨by have := HK1.out; omega⟩, ⟨zQx10a8_⟩, ⟨zQx10a0_⟩⟩
def basculeref09_Is.f (k : Nat) (a0 : ByteArray) : Option (Bool) := (basculeref09_Points.f k a0).bind fun bt148 => (some bt148.2)
set_option maxHeartbeats 8000000 in
set_option maxRecDepth 100000 in
theorem basculeref09_Is.calls (k : Nat) (a0 : ByteArray) (r : Bool) (w : World) (h : basculeref09_Is.f k a0 = some r) :
  Calls Tryz.prog 85 #[.string a0] w fun e w' => e = .returned (.bool r) ∧ Below w.heap.size w w' := by
 have HB := Aside0.mk (Below.refl w.heap.size w)
 have H : ((basculeref09_Points.f k a0).bind fun bt148 => (some bt148.2)) = some r := h
 clear h
 replace H := Option.bind_eq_some_iff.mp H
 obtain ⟨⟨t148, t149⟩, A20, H⟩ := H
 replace H : (some t149) = some r := H
 have A2 := Aside0.mk A20
 clear A20
 obtain rfl := Option.some.inj H
 go_enter Tryz.func85, Tryz.ntmps85
 go_wp2_with (first | ((with_reducible refine gate_callee (f := 105) rfl ?_); refine goesL_ (some 7) rfl rfl Tryz.func105 (by kernel_rfl) rfl #[.string a0] rfl zQx10a4_ ?_; (with_reducible refine (basculeref09_Points.calls k a0 t148 t149 _ A2.out).mono ?_); rintro e w3 ⟨v150, rfl, ho0, hb⟩; refine ⟨_, rfl, ?_⟩; have n0_ := Aside0.mk (Kd.R_lower ho0 (below_size zQx10a0_)); have n1_ := Aside0.mk (below_step zQx10a0_ hb); clear HB; have HO151 := n0_; have HB := n1_; clear n0_ n1_; (try clear hb); (try clear hb2); (try clear hk); (try clear hi); (try clear ho0)))
 go_ret
 exact ⟨zQx10a2_, zQx10a0_⟩
def basculeref12_has.l0 : Nat → ByteArray → Int → Int → Option (Bool)
 | 0, _, _, _ => none
 | k + 1, x0, x1, x5 => if x5 < (x0.size : Int) then (if 0 ≤ x5 then (if (bt x0 x5) = x1 then (some true) else (basculeref12_has.l0 k x0 x1 (wrap64 (x5 + 1)))) else (none)) else (some false)
def basculeref12_has.f (k : Nat) (a0 : ByteArray) (a1 : Int) : Option (Bool) := basculeref12_has.l0 k a0 a1 0
set_option maxHeartbeats 8000000 in
set_option maxRecDepth 100000 in
theorem basculeref12_has.calls (k : Nat) (a0 : ByteArray) (a1 : Int) (r : Bool) (w : World) (h : basculeref12_has.f k a0 a1 = some r) :
  Calls Tryz.prog 86 #[.string a0, .int .u8 a1] w fun e w' => e = .returned (.bool r) ∧ Drawn0 w w' := by
 have H : (basculeref12_has.l0 k a0 a1 0) = some r := h
 clear h
 have H' := Aside0.mk H
 clear H
 go_enter Tryz.func86, Tryz.ntmps86
 go_wp2
 go_loopg [5] k (fun kq v5 w' => ∃ (x5_1 : Int), v5 = .int .i64 x5_1 ∧ Aside0 (basculeref12_has.l0 kq a0 a1 x5_1 = some r) ∧ Aside0 (kq ≤ k) ∧ Drawn0 w w')
 case atStart => exact ⟨(0), zQx10a3_, H', ⟨Nat.le_refl _⟩, zQx10a7_⟩
 case round =>
  clear H'
  try clear p2
  obtain ⟨x5_1, rfl, HA, HK1, ⟨m1, rfl⟩⟩ := hrel
  cases gk with
  | zero => exact absurd HA.out (by simp [basculeref12_has.l0])
  | succ k1 =>
   have H := HA.out
   clear HA
   simp only [basculeref12_has.l0] at H
   by_cases c3 : x5_1 < (a0.size : Int)
   rotate_left
   ·
    rw [if_neg c3] at H
    have c3b0 : decide (x5_1 < (a0.size : Int)) = false := decide_eq_false c3
    clear c3
    obtain rfl := Option.some.inj H
    go_wp2
    go_ret
    exact ⟨zQx10a3_, zQx10a7_⟩
   rw [if_pos c3] at H
   have c3b0 : decide (x5_1 < (a0.size : Int)) = true := decide_eq_true c3
   clear c3
   have c4 : 0 ≤ x5_1 := znQx10_
   rw [if_pos c4] at H
   have c4b0 : decide (0 ≤ x5_1) = true := decide_eq_true c4
   clear c4
   by_cases c6 : (bt a0 x5_1) = a1
   ·
    rw [if_pos c6] at H
    have c6b0 : ((bt a0 x5_1) == a1) = true := beq_iff_eq.mpr c6
    have c6b1 : ((bt a0 x5_1) != a1) = false := bne_eq_false_iff_eq.mpr c6
    clear c6
    obtain rfl := Option.some.inj H
    have p5 : 0 ≤ (x5_1 : Int) := of_decide_eq_true zQx10a1_
    have q5 : x5_1 < (a0.size : Int) := of_decide_eq_true zQx10a1_
    have hx5 := bt_at a0 x5_1
    replace p5 := eq_true p5
    replace q5 := eq_true q5
    go_wp2
    go_ret
    exact ⟨zQx10a3_, zQx10a7_⟩
   rw [if_neg c6] at H
   have c6b0 : ((bt a0 x5_1) == a1) = false := beq_eq_false_iff_ne.mpr c6
   have c6b1 : ((bt a0 x5_1) != a1) = true := bne_iff_ne.mpr c6
   have H' := Aside0.mk H
   clear H
   have p5 : 0 ≤ (x5_1 : Int) := of_decide_eq_true zQx10a1_
   have q5 : x5_1 < (a0.size : Int) := of_decide_eq_true zQx10a1_
   have hx5 := bt_at a0 x5_1
   replace p5 := eq_true p5
   replace q5 := eq_true q5
   go_wp2
   go_roundg k1
   case measure => have := HK1.out; omega
   case rel => exact ⟨(wrap64 (x5_1 + 1)), zQx10a3_, H', ⟨by have := HK1.out; omega⟩, zQx10a7_⟩
def basculeref12_Name.f (k : Nat) (a0 : ByteArray) : Option (Bool) := if a0.toList = ([] : List UInt8) then (some false) else ((basculeref09_Is.f k a0).bind fun t152 => (if t152 = true then ((basculeref12_has.f k a0 43).bind fun t153 => (if t153 = true then (some false) else ((basculeref12_has.f k a0 35).bind fun t154 => (some (!t154))))) else (some false)))
set_option maxHeartbeats 8000000 in
set_option maxRecDepth 100000 in
theorem basculeref12_Name.calls (k : Nat) (a0 : ByteArray) (r : Bool) (w : World) (h : basculeref12_Name.f k a0 = some r) :
  Calls Tryz.prog 65 #[.string a0] w fun e w' => e = .returned (.bool r) ∧ Below w.heap.size w w' := by
 have HB := Aside0.mk (Below.refl w.heap.size w)
 have H : (if a0.toList = ([] : List UInt8) then (some false) else ((basculeref09_Is.f k a0).bind fun t152 => (if t152 = true then ((basculeref12_has.f k a0 43).bind fun t153 => (if t153 = true then (some false) else ((basculeref12_has.f k a0 35).bind fun t154 => (some (!t154))))) else (some false)))) = some r := h
 clear h
 by_cases c2 : a0.toList = ([] : List UInt8)
 ·
  rw [if_pos c2] at H
  have c2b0 : (a0.toList == ([] : List UInt8)) = true := beq_iff_eq.mpr c2
  have c2b1 : (a0.toList != ([] : List UInt8)) = false := bne_eq_false_iff_eq.mpr c2
  clear c2
  obtain rfl := Option.some.inj H
  go_enter Tryz.func65, Tryz.ntmps65
  go_wp2
  go_ret
  exact ⟨zQx10a2_, zQx10a0_⟩
 rw [if_neg c2] at H
 have c2b0 : (a0.toList == ([] : List UInt8)) = false := beq_eq_false_iff_ne.mpr c2
 have c2b1 : (a0.toList != ([] : List UInt8)) = true := bne_iff_ne.mpr c2
 replace H := Option.bind_eq_some_iff.mp H
 obtain ⟨t152, A30, H⟩ := H
 replace H : (if t152 = true then ((basculeref12_has.f k a0 43).bind fun t153 => (if t153 = true then (some false) else ((basculeref12_has.f k a0 35).bind fun t154 => (some (!t154))))) else (some false)) = some r := H
 have A3 := Aside0.mk A30
 clear A30
 by_cases c4 : t152 = true
 rotate_left
 ·
  replace c4 := Bool.eq_false_iff.mpr c4
  subst c4
  have H1 : (some false) = some r := by rw [if_neg (show ¬ (false = true) by decide)] at H; exact H
  clear H
  have H := H1
  clear H1
  obtain rfl := Option.some.inj H
  go_enter Tryz.func65, Tryz.ntmps65
  go_wp2_with (first | (go_at_call 85; (with_reducible refine (basculeref09_Is.calls k a0 false _ A3.out).mono ?_); rintro e w10 ⟨rfl, hb⟩; have n0_ := Aside0.mk (below_step zQx10a0_ hb); clear HB; have HB := n0_; clear n0_; (try clear hb); (try clear hb2); (try clear hk); (try clear hi)))
  go_ret
  exact ⟨zQx10a2_, zQx10a0_⟩
 subst c4
 have H1 : ((basculeref12_has.f k a0 43).bind fun t153 => (if t153 = true then (some false) else ((basculeref12_has.f k a0 35).bind fun t154 => (some (!t154))))) = some r := by rw [if_pos rfl] at H; exact H
 clear H
 have H := H1
 clear H1
 replace H := Option.bind_eq_some_iff.mp H
 obtain ⟨t153, A50, H⟩ := H
 replace H : (if t153 = true then (some false) else ((basculeref12_has.f k a0 35).bind fun t154 => (some (!t154)))) = some r := H
 have A5 := Aside0.mk A50
 clear A50
 by_cases c6 : t153 = true
 ·
  subst c6
  have H1 : (some false) = some r := by rw [if_pos rfl] at H; exact H
  clear H
  have H := H1
  clear H1
  obtain rfl := Option.some.inj H
  go_enter Tryz.func65, Tryz.ntmps65
  go_wp2_with (first | (go_at_call 85; (with_reducible refine (basculeref09_Is.calls k a0 true _ A3.out).mono ?_); rintro e w7 ⟨rfl, hb⟩; have n0_ := Aside0.mk (below_step zQx10a0_ hb); clear HB; have HB := n0_; clear n0_; (try clear hb); (try clear hb2); (try clear hk); (try clear hi)) | (go_at_call 86; (with_reducible refine (basculeref12_has.calls k a0 43 true _ A5.out).mono ?_); rintro e w' ⟨rfl, ⟨nd, rfl⟩⟩))
  go_ret
  exact ⟨zQx10a2_, zQx10a0_⟩
 replace c6 := Bool.eq_false_iff.mpr c6
 subst c6
 have H1 : ((basculeref12_has.f k a0 35).bind fun t154 => (some (!t154))) = some r := by rw [if_neg (show ¬ (false = true) by decide)] at H; exact H
 clear H
 have H := H1
 clear H1
 replace H := Option.bind_eq_some_iff.mp H
 obtain ⟨t154, A80, H⟩ := H
 replace H : (some (!t154)) = some r := H
 have A8 := Aside0.mk A80
 clear A80
 obtain rfl := Option.some.inj H
 go_enter Tryz.func65, Tryz.ntmps65
 go_wp2_with (first | (go_at_call 85; (with_reducible refine (basculeref09_Is.calls k a0 true _ A3.out).mono ?_); rintro e w9 ⟨rfl, hb⟩; have n0_ := Aside0.mk (below_step zQx10a0_ hb); clear HB; have HB := n0_; clear n0_; (try clear hb); (try clear hb2); (try clear hk); (try clear hi)) | (go_at_call 86; (with_reducible refine (basculeref12_has.calls k a0 43 false _ A5.out).mono ?_); rintro e w' ⟨rfl, ⟨nd, rfl⟩⟩) | (go_at_call 86; (with_reducible refine (basculeref12_has.calls k a0 35 t154 _ A8.out).mono ?_); rintro e w' ⟨rfl, ⟨nd, rfl⟩⟩))
 go_ret
 exact ⟨zQx10a2_, zQx10a0_⟩
mutual
def basculeref21_name.j0 : Nat → ByteArray → Bool → Option (Bool)
 | 0, _, _ => none
 | k + 1, x0, x21 => if x21 = true then (some false) else (basculeref21_name.l0 k x0 0)
def basculeref21_name.l0 : Nat → ByteArray → Int → Option (Bool)
 | 0, _, _ => none
 | k + 1, x0, x3 => if x3 < (x0.size : Int) then (if 0 ≤ x3 then (if (bt x0 x3) = 32 then (some false) else (if (bt x0 x3) = 9 then (some false) else (if (bt x0 x3) = 10 then (some false) else (basculeref21_name.l0 k x0 (wrap64 (x3 + 1)))))) else (none)) else (some true)
end
def basculeref21_name.f (k : Nat) (a0 : ByteArray) : Option (Bool) := if (a0.size : Int) > 200 then (basculeref21_name.j0 k a0 true) else ((basculeref12_Name.f k a0).bind fun t155 => (if t155 = true then (if 0 < (a0.size : Int) then (if (bt a0 0) = 36 then (basculeref21_name.j0 k a0 true) else (basculeref21_name.j0 k a0 ((bt a0 0) == 35))) else (none)) else (basculeref21_name.j0 k a0 true)))
set_option maxHeartbeats 8000000 in
set_option maxRecDepth 100000 in
theorem basculeref21_name.calls (k : Nat) (a0 : ByteArray) (r : Bool) (w : World) (h : basculeref21_name.f k a0 = some r) :
  Calls Tryz.prog 49 #[.string a0] w fun e w' => e = .returned (.bool r) ∧ Below w.heap.size w w' := by
 have HB := Aside0.mk (Below.refl w.heap.size w)
 have H : (if (a0.size : Int) > 200 then (basculeref21_name.j0 k a0 true) else ((basculeref12_Name.f k a0).bind fun t155 => (if t155 = true then (if 0 < (a0.size : Int) then (if (bt a0 0) = 36 then (basculeref21_name.j0 k a0 true) else (basculeref21_name.j0 k a0 ((bt a0 0) == 35))) else (none)) else (basculeref21_name.j0 k a0 true)))) = some r := h
 clear h
 have HC2 := Aside0.mk H
 clear H
 go_enter Tryz.func49, Tryz.ntmps49
 go_upto_region 1 with (fail)
 go_cut [21] (fun v21 wc => ∃ (kq : Nat) (x21_1 : Bool), v21 = .bool x21_1 ∧ Aside0 (basculeref21_name.j0 kq a0 x21_1 = some r) ∧ Aside0 (kq ≤ k) ∧ Aside0 (Below w.heap.size w wc))
 case first =>
  have H := HC2.out
  clear HC2
  by_cases c3 : (a0.size : Int) > 200
  ·
   rw [if_pos c3] at H
   have c3b0 : decide (200 < (a0.size : Int)) = true := decide_eq_true c3
   have c3b1 : decide (200 < a0.size) = true := decide_eq_true (by omega)
   have c3b7 : (200 < a0.size) := of_decide_eq_true c3b1
   clear c3
   (first | rw [c3b0] | (simp only [i64_w, i32_w]; rw [c3b0]) | skip)
   have H' := Aside0.mk H
   clear H
   go_wp2
   go_meet
   case rel => exact ⟨_, (true), zQx10a3_, H', ⟨zQx10a9_⟩, ⟨zQx10a0_⟩⟩
  rw [if_neg c3] at H
  have c3b0 : decide (200 < (a0.size : Int)) = false := decide_eq_false c3
  have c3b1 : decide (200 < a0.size) = false := decide_eq_false (by omega)
  clear c3
  (first | rw [c3b0] | (simp only [i64_w, i32_w]; rw [c3b0]) | skip)
  replace H := Option.bind_eq_some_iff.mp H
  obtain ⟨t155, A40, H⟩ := H
  replace H : (if t155 = true then (if 0 < (a0.size : Int) then (if (bt a0 0) = 36 then (basculeref21_name.j0 k a0 true) else (basculeref21_name.j0 k a0 ((bt a0 0) == 35))) else (none)) else (basculeref21_name.j0 k a0 true)) = some r := H
  have A4 := Aside0.mk A40
  clear A40
  by_cases c5 : t155 = true
  rotate_left
  ·
   replace c5 := Bool.eq_false_iff.mpr c5
   subst c5
   have H1 : (basculeref21_name.j0 k a0 true) = some r := by rw [if_neg (show ¬ (false = true) by decide)] at H; exact H
   clear H
   have H := H1
   clear H1
   have H' := Aside0.mk H
   clear H
   go_wp2_with (first | (go_at_call 65; (with_reducible refine (basculeref12_Name.calls k a0 false _ A4.out).mono ?_); rintro e w12 ⟨rfl, hb⟩; have n0_ := Aside0.mk (below_step zQx10a0_ hb); clear HB; have HB := n0_; clear n0_; (try clear hb); (try clear hb2); (try clear hk); (try clear hi)))
   go_meet
   case rel => exact ⟨_, (true), zQx10a3_, H', ⟨zQx10a9_⟩, ⟨zQx10a0_⟩⟩
  subst c5
  have H1 : (if 0 < (a0.size : Int) then (if (bt a0 0) = 36 then (basculeref21_name.j0 k a0 true) else (basculeref21_name.j0 k a0 ((bt a0 0) == 35))) else (none)) = some r := by rw [if_pos rfl] at H; exact H
  clear H
  have H := H1
  clear H1
  have c6 : 0 < (a0.size : Int) := znQx10_
  rw [if_pos c6] at H
  have c6b0 : decide (0 < (a0.size : Int)) = true := decide_eq_true c6
  have c6b1 : decide (0 < a0.size) = true := decide_eq_true (by omega)
  have c6b7 : (0 < a0.size) := of_decide_eq_true c6b1
  clear c6
  by_cases c8 : (bt a0 0) = 36
  ·
   rw [if_pos c8] at H
   have c8b0 : ((bt a0 0) == 36) = true := beq_iff_eq.mpr c8
   have c8b1 : ((bt a0 0) != 36) = false := bne_eq_false_iff_eq.mpr c8
   clear c8
   have H' := Aside0.mk H
   clear H
   go_wp2_with (first | (go_at_call 65; (with_reducible refine (basculeref12_Name.calls k a0 true _ A4.out).mono ?_); rintro e w9 ⟨rfl, hb⟩; have n0_ := Aside0.mk (below_step zQx10a0_ hb); clear HB; have HB := n0_; clear n0_; (try clear hb); (try clear hb2); (try clear hk); (try clear hi); have p7 : 0 ≤ (0 : Int) := (by omega); have q7 : 0 < a0.size := (by have : (0 : Int) < (a0.size : Int) := of_decide_eq_true zQx10a1_; omega); have hx7 : ∀ h : 0 < a0.size, ((a0[0]'h).toNat : Int) = bt a0 0 := bt_at a0 0; clear p7; have qi7 : (0 < (a0.size : Int)) = True := eq_true (of_decide_eq_true zQx10a1_); replace q7 := eq_true q7))
   go_meet
   case rel => exact ⟨_, (true), zQx10a3_, H', ⟨zQx10a9_⟩, ⟨zQx10a0_⟩⟩
  rw [if_neg c8] at H
  have c8b0 : ((bt a0 0) == 36) = false := beq_eq_false_iff_ne.mpr c8
  have c8b1 : ((bt a0 0) != 36) = true := bne_iff_ne.mpr c8
  have H' := Aside0.mk H
  clear H
  go_wp2_with (first | (go_at_call 65; (with_reducible refine (basculeref12_Name.calls k a0 true _ A4.out).mono ?_); rintro e w11 ⟨rfl, hb⟩; have n0_ := Aside0.mk (below_step zQx10a0_ hb); clear HB; have HB := n0_; clear n0_; (try clear hb); (try clear hb2); (try clear hk); (try clear hi); have p7 : 0 ≤ (0 : Int) := (by omega); have q7 : 0 < a0.size := (by have : (0 : Int) < (a0.size : Int) := of_decide_eq_true zQx10a1_; omega); have hx7 : ∀ h : 0 < a0.size, ((a0[0]'h).toNat : Int) = bt a0 0 := bt_at a0 0; clear p7; have qi7 : (0 < (a0.size : Int)) = True := eq_true (of_decide_eq_true zQx10a1_); replace q7 := eq_true q7; have p10 : 0 ≤ (0 : Int) := (by omega); have q10 : 0 < a0.size := (by have : (0 : Int) < (a0.size : Int) := of_decide_eq_true zQx10a1_; omega); have hx10 : ∀ h : 0 < a0.size, ((a0[0]'h).toNat : Int) = bt a0 0 := bt_at a0 0; clear p10; have qi10 : (0 < (a0.size : Int)) = True := eq_true (of_decide_eq_true zQx10a1_); replace q10 := eq_true q10))
  go_meet
  case rel => exact ⟨_, (((bt a0 0) == 35)), zQx10a3_, H', ⟨zQx10a9_⟩, ⟨zQx10a0_⟩⟩
 case rest =>
  clear HC2
  try clear p1
  try clear q1
  try clear hx1
  try clear qi1
  try clear p2
  try clear c3
  try clear c3b0
  try clear c3b1
  try clear c4
  try clear c5
  try clear c6
  try clear c6b0
  try clear c6b1
  try clear p7
  try clear q7
  try clear hx7
  try clear qi7
  try clear c8
  try clear c8b0
  try clear c8b1
  try clear p10
  try clear q10
  try clear hx10
  try clear qi10
  try clear p10
  try clear p7
  try clear q10
  try clear q7
  obtain ⟨kq, x21_1, rfl, HA, HJ1, HB⟩ := hcut
  cases kq with
  | zero => exact absurd HA.out (by simp [basculeref21_name.j0])
  | succ kj1 =>
   have H := HA.out
   clear HA
   simp only [basculeref21_name.j0] at H
   by_cases c13 : x21_1 = true
   ·
    subst c13
    have H1 : (some false) = some r := by rw [if_pos rfl] at H; exact H
    clear H
    have H := H1
    clear H1
    obtain rfl := Option.some.inj H
    go_wp2
    go_ret
    exact ⟨zQx10a2_, zQx10a0_⟩
   replace c13 := Bool.eq_false_iff.mpr c13
   subst c13
   have H1 : (basculeref21_name.l0 kj1 a0 0) = some r := by rw [if_neg (show ¬ (false = true) by decide)] at H; exact H
   clear H
   have H := H1
   clear H1
   have H' := Aside0.mk H
   clear H
   go_wp2
   go_loopg [3] kj1 (fun kq v3 w' => ∃ (x3_2 : Int), v3 = .int .i64 x3_2 ∧ Aside0 (basculeref21_name.l0 kq a0 x3_2 = some r) ∧ Aside0 (kq ≤ kj1) ∧ Aside0 (Below w.heap.size w w'))
   case atStart => exact ⟨(0), zQx10a3_, H', ⟨Nat.le_refl _⟩, ⟨zQx10a0_⟩⟩
   case round =>
    clear H'
    try clear c1
    try clear p1
    try clear q1
    try clear hx1
    try clear qi1
    try clear p2
    try clear c3
    try clear c3b0
    try clear c3b1
    try clear c4
    try clear c5
    try clear c6
    try clear c6b0
    try clear c6b1
    try clear p7
    try clear q7
    try clear hx7
    try clear qi7
    try clear c8
    try clear c8b0
    try clear c8b1
    try clear p10
    try clear q10
    try clear hx10
    try clear qi10
    try clear c13
    try clear p1
    try clear p10
    try clear p2
    try clear p7
    try clear q1
    try clear q10
    try clear q7
    obtain ⟨x3_2, rfl, HA, HK2, HB⟩ := hrel
    cases gk with
    | zero => exact absurd HA.out (by simp [basculeref21_name.l0])
    | succ k2 =>
     have H := HA.out
     clear HA
     simp only [basculeref21_name.l0] at H
     by_cases c14 : x3_2 < (a0.size : Int)
     rotate_left
     ·
      rw [if_neg c14] at H
      have c14b0 : decide (x3_2 < (a0.size : Int)) = false := decide_eq_false c14
      clear c14
      obtain rfl := Option.some.inj H
      go_wp2
      go_ret
      exact ⟨zQx10a2_, zQx10a0_⟩
     rw [if_pos c14] at H
     have c14b0 : decide (x3_2 < (a0.size : Int)) = true := decide_eq_true c14
     clear c14
     have c15 : 0 ≤ x3_2 := znQx10_
     rw [if_pos c15] at H
     have c15b0 : decide (0 ≤ x3_2) = true := decide_eq_true c15
     clear c15
     by_cases c17 : (bt a0 x3_2) = 32
     ·
      rw [if_pos c17] at H
      have c17b0 : ((bt a0 x3_2) == 32) = true := beq_iff_eq.mpr c17
      have c17b1 : ((bt a0 x3_2) != 32) = false := bne_eq_false_iff_eq.mpr c17
      clear c17
      obtain rfl := Option.some.inj H
      have p16 : 0 ≤ (x3_2 : Int) := of_decide_eq_true zQx10a1_
      have q16 : x3_2 < (a0.size : Int) := of_decide_eq_true zQx10a1_
      have hx16 := bt_at a0 x3_2
      replace p16 := eq_true p16
      replace q16 := eq_true q16
      go_wp2
      go_ret
      exact ⟨zQx10a2_, zQx10a0_⟩
     rw [if_neg c17] at H
     have c17b0 : ((bt a0 x3_2) == 32) = false := beq_eq_false_iff_ne.mpr c17
     have c17b1 : ((bt a0 x3_2) != 32) = true := bne_iff_ne.mpr c17
     by_cases c19 : (bt a0 x3_2) = 9
     ·
      rw [if_pos c19] at H
      have c19b0 : ((bt a0 x3_2) == 9) = true := beq_iff_eq.mpr c19
      have c19b1 : ((bt a0 x3_2) != 9) = false := bne_eq_false_iff_eq.mpr c19
      clear c19
      obtain rfl := Option.some.inj H
      have p16 : 0 ≤ (x3_2 : Int) := of_decide_eq_true zQx10a1_
      have q16 : x3_2 < (a0.size : Int) := of_decide_eq_true zQx10a1_
      have hx16 := bt_at a0 x3_2
      replace p16 := eq_true p16
      replace q16 := eq_true q16
      have p18 : 0 ≤ (x3_2 : Int) := of_decide_eq_true zQx10a1_
      have q18 : x3_2 < (a0.size : Int) := of_decide_eq_true zQx10a1_
      have hx18 := bt_at a0 x3_2
      replace p18 := eq_true p18
      replace q18 := eq_true q18
      go_wp2
      go_ret
      exact ⟨zQx10a2_, zQx10a0_⟩
     rw [if_neg c19] at H
     have c19b0 : ((bt a0 x3_2) == 9) = false := beq_eq_false_iff_ne.mpr c19
     have c19b1 : ((bt a0 x3_2) != 9) = true := bne_iff_ne.mpr c19
     by_cases c21 : (bt a0 x3_2) = 10
     ·
      rw [if_pos c21] at H
      have c21b0 : ((bt a0 x3_2) == 10) = true := beq_iff_eq.mpr c21
      have c21b1 : ((bt a0 x3_2) != 10) = false := bne_eq_false_iff_eq.mpr c21
      clear c21
      obtain rfl := Option.some.inj H
      have p16 : 0 ≤ (x3_2 : Int) := of_decide_eq_true zQx10a1_
      have q16 : x3_2 < (a0.size : Int) := of_decide_eq_true zQx10a1_
      have hx16 := bt_at a0 x3_2
      replace p16 := eq_true p16
      replace q16 := eq_true q16
      have p18 : 0 ≤ (x3_2 : Int) := of_decide_eq_true zQx10a1_
      have q18 : x3_2 < (a0.size : Int) := of_decide_eq_true zQx10a1_
      have hx18 := bt_at a0 x3_2
      replace p18 := eq_true p18
      replace q18 := eq_true q18
      have p20 : 0 ≤ (x3_2 : Int) := of_decide_eq_true zQx10a1_
      have q20 : x3_2 < (a0.size : Int) := of_decide_eq_true zQx10a1_
      have hx20 := bt_at a0 x3_2
      replace p20 := eq_true p20
      replace q20 := eq_true q20
      go_wp2
      go_ret
      exact ⟨zQx10a2_, zQx10a0_⟩
     rw [if_neg c21] at H
     have c21b0 : ((bt a0 x3_2) == 10) = false := beq_eq_false_iff_ne.mpr c21
     have c21b1 : ((bt a0 x3_2) != 10) = true := bne_iff_ne.mpr c21
     have H' := Aside0.mk H
     clear H
     have p16 : 0 ≤ (x3_2 : Int) := of_decide_eq_true zQx10a1_
     have q16 : x3_2 < (a0.size : Int) := of_decide_eq_true zQx10a1_
     have hx16 := bt_at a0 x3_2
     replace p16 := eq_true p16
     replace q16 := eq_true q16
     have p18 : 0 ≤ (x3_2 : Int) := of_decide_eq_true zQx10a1_
     have q18 : x3_2 < (a0.size : Int) := of_decide_eq_true zQx10a1_
     have hx18 := bt_at a0 x3_2
     replace p18 := eq_true p18
     replace q18 := eq_true q18
     have p20 : 0 ≤ (x3_2 : Int) := of_decide_eq_true zQx10a1_
     have q20 : x3_2 < (a0.size : Int) := of_decide_eq_true zQx10a1_
     have hx20 := bt_at a0 x3_2
     replace p20 := eq_true p20
     replace q20 := eq_true q20
     go_wp2
     go_roundg k2
     case measure => have := HJ1.out; have := HK2.out; omega
     case rel => exact ⟨(wrap64 (x3_2 + 1)), zQx10a3_, H', ⟨by have := HJ1.out; have := HK2.out; omega⟩, ⟨zQx10a0_⟩⟩
def basculeref21_Range.f (a0_0 : ByteArray) (a0_1 : Int) (a0_2 : Int) (a0_3 : Int) (a0_4 : Int) (a0_5 : Int) (a0_6 : Int) (a0_7 : Bool) : Option (Bool) := some (Tab.rangeB a0_1 a0_2 a0_3 a0_4 a0_5 a0_6 a0_7)
theorem basculeref21_Range.calls (a0_0 : ByteArray) (a0_1 : Int) (a0_2 : Int) (a0_3 : Int) (a0_4 : Int) (a0_5 : Int) (a0_6 : Int) (a0_7 : Bool) (r : Bool) (w : World) (h : basculeref21_Range.f a0_0 a0_1 a0_2 a0_3 a0_4 a0_5 a0_6 a0_7 = some r) :
  Calls Tryz.prog 50 #[.agg #[.string a0_0, .int .i64 a0_1, .int .i64 a0_2, .int .i64 a0_3, .int .i64 a0_4, .int .i64 a0_5, .int .i64 a0_6, .bool a0_7]] w fun e w' => e = .returned (.bool r) ∧ Below w.heap.size w w' := by
 obtain rfl := Option.some.inj h
 exact Tab.range_calls a0_0 a0_1 a0_2 a0_3 a0_4 a0_5 a0_6 a0_7 w
end Go.Proofs.YtbfhiiokajbdhaaGreatDoor.Q
