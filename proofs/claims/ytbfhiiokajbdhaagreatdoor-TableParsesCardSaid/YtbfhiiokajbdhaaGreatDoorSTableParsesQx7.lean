/- What the proof of TableParses leans on: Qx7. -/
import Derived.Test.YtbfhiiokajbdhaaGreatDoorSTableParsesQx0
namespace Go.Proofs.YtbfhiiokajbdhaaGreatDoor.Q
open Go.RowKit Go.Proofs.YtbfhiiokajbdhaaGreatDoorW.PrintWords Go.Proofs.YtbfhiiokajbdhaaGreatDoorW.PrintLast Go.Proofs.YtbfhiiokajbdhaaGreatDoorW.PrintMore
attribute [local go_sem] max2_int max_two
set_option linter.unusedVariables false
set_option linter.unusedSimpArgs false
theorem zQx7a0_ {P_ : Prop} (h_ : P_ := by repeat (first | (with_reducible first | exact HB.out | apply below_alloc | apply pw_below_drewN | apply below_drew1) | exact HB.out)) : P_ := h_
theorem zQx7a1_ {P_ : Prop} (h_ : P_ := by first | (with_reducible assumption) | assumption) : P_ := h_
theorem zQx7a2_ {P_ : Prop} (h_ : P_ := by first | rfl | (simp; done) | (simp [*]; done)) : P_ := h_
theorem zQx7a3_ {P_ : Prop} (h_ : P_ := by (with_reducible repeat (first | apply Kd.R_alloc | apply Kd.R_drewN | apply Kd.R_drew)); exact HO_3.out) : P_ := h_
theorem zQx7a4_ {P_ : Prop} (h_ : P_ := by first | rfl | (simp; done) | (simp [*]; done) | (cases a0.toList <;> rfl) | (simp; cases a0.toList <;> rfl)) : P_ := h_
theorem zQx7a5_ {P_ : Prop} (h_ : P_ := by repeat (first | exact Drawn0.refl _ | apply Drawn0.step)) : P_ := h_
theorem zQx7a6_ {P_ : Prop} (h_ : P_ := by have := HK1.out; have := HJ2.out; omega) : P_ := h_
theorem znQx7_ {X_ : Prop} [Decidable X_] (h_ : ¬ X_ → False := by intro c_; rw [if_neg c_] at H; exact absurd H (by simp)) : X_ := Decidable.byContradiction h_
mutual
def basculeref21_split.l0 : Nat → ByteArray → List ByteArray → ByteArray → Int → Option (List ByteArray)
 | 0, _, _, _, _ => none
 | k + 1, x0, x3, x4, x5 => if x5 ≤ (x0.size : Int) then (if x5 < (x0.size : Int) then (if 0 ≤ x5 then (basculeref21_split.j1 k x0 x3 x4 x5 ((bt x0 x5) != 32)) else (none)) else (basculeref21_split.j1 k x0 x3 x4 x5 false)) else (some x3)
def basculeref21_split.j1 : Nat → ByteArray → List ByteArray → ByteArray → Int → Bool → Option (List ByteArray)
 | 0, _, _, _, _, _ => none
 | k + 1, x0, x3, x4, x5, x21 => if x21 = true then (if 0 ≤ x5 then (if x5 ≤ (wrap64 (x5 + 1)) then (if (wrap64 (x5 + 1)) ≤ (x0.size : Int) then (if x4.size + (x0.extract (x5 : Int).toNat ((wrap64 (x5 + 1)) : Int).toNat).size ≤ 9223372036854775807 then (basculeref21_split.l0 k x0 x3 (x4 ++ (x0.extract (x5 : Int).toNat ((wrap64 (x5 + 1)) : Int).toNat)) (wrap64 (x5 + 1))) else (none)) else (none)) else (none)) else (none)) else (if x4.toList = ([] : List UInt8) then (basculeref21_split.l0 k x0 x3 (⟨#[]⟩ : ByteArray) (wrap64 (x5 + 1))) else (if x3.length < 8796093022208 then (basculeref21_split.l0 k x0 (x3 ++ [x4]) (⟨#[]⟩ : ByteArray) (wrap64 (x5 + 1))) else (none)))
end
def basculeref21_split.f (k : Nat) (a0 : ByteArray) : Option (List ByteArray) := basculeref21_split.l0 k a0 ([] : List ByteArray) (⟨#[]⟩ : ByteArray) 0
set_option maxHeartbeats 8000000 in
set_option maxRecDepth 100000 in
theorem basculeref21_split.calls (k : Nat) (a0 : ByteArray) (r : List ByteArray) (w : World) (h : basculeref21_split.f k a0 = some r) :
  Calls Tryz.prog 25 #[.string a0] w fun e w' => ∃ v0_ : Value, e = .returned (v0_) ∧ Kd.R Kd.string 9 w' w.heap.size (fun _ => True) v0_ r ∧ Below w.heap.size w w' := by
 have HB := Aside0.mk (Below.refl w.heap.size w)
 have H : (basculeref21_split.l0 k a0 ([] : List ByteArray) (⟨#[]⟩ : ByteArray) 0) = some r := h
 clear h
 have H' := Aside0.mk H
 clear H
 go_enter Tryz.func25, Tryz.ntmps25
 go_wp2
 go_loopg [3, 4, 5] k (fun kq v3 v4 v5 w' => ∃ (x3_1 : List ByteArray) (x4_1 : ByteArray) (x5_1 : Int), v4 = .string x4_1 ∧ v5 = .int .i64 x5_1 ∧ Aside0 (basculeref21_split.l0 kq a0 x3_1 x4_1 x5_1 = some r) ∧ Aside0 (kq ≤ k) ∧ Aside0 (Kd.R Kd.string 9 w' w.heap.size (fun _ => True) v3 x3_1) ∧ Aside0 (Below w.heap.size w w'))
 case atStart => exact ⟨(([] : List ByteArray)), ((⟨#[]⟩ : ByteArray)), (0), zQx7a2_, zQx7a2_, H', ⟨Nat.le_refl _⟩, ⟨by first | exact Kd.R_nil _ _ _ _ _ | exact Kd.N_nil _ _ _ _ _ | exact Kd.V_nil _ _ _ _ _ | exact Kd.Q_nil _ _ _ _ _ | exact Kd.S_nil _ _ _ _ _⟩, ⟨zQx7a0_⟩⟩
 case round =>
  clear H'
  obtain ⟨x3_1, x4_1, x5_1, rfl, rfl, HA, HK1, HO_3, HB⟩ := hrel
  cases gk with
  | zero => exact absurd HA.out (by simp [basculeref21_split.l0])
  | succ k1 =>
   have H := HA.out
   clear HA
   simp only [basculeref21_split.l0] at H
   by_cases c2 : x5_1 ≤ (a0.size : Int)
   rotate_left
   ·
    rw [if_neg c2] at H
    have c2b0 : decide (x5_1 ≤ (a0.size : Int)) = false := decide_eq_false c2
    clear c2
    obtain rfl := Option.some.inj H
    go_wp2
    go_ret
    exact ⟨_, by first | rfl | (simp [errW_none, errW_some] <;> rfl) | (simp [*, errW_none, errW_some] <;> rfl), zQx7a3_, zQx7a0_⟩
   rw [if_pos c2] at H
   have c2b0 : decide (x5_1 ≤ (a0.size : Int)) = true := decide_eq_true c2
   clear c2
   have HC3 := Aside0.mk H
   clear H
   go_upto_region 6 with (fail)
   go_cut [21] (fun v21 wc => ∃ (kq : Nat) (x21_2 : Bool), v21 = .bool x21_2 ∧ Aside0 (basculeref21_split.j1 kq a0 x3_1 x4_1 x5_1 x21_2 = some r) ∧ Aside0 (kq ≤ k1) ∧ Aside0 (Kd.R Kd.string 9 wc w.heap.size (fun _ => True) u3 x3_1) ∧ Aside0 (Below w.heap.size w wc))
   case first =>
    have H := HC3.out
    clear HC3
    by_cases c4 : x5_1 < (a0.size : Int)
    rotate_left
    ·
     rw [if_neg c4] at H
     have c4b0 : decide (x5_1 < (a0.size : Int)) = false := decide_eq_false c4
     clear c4
     (first | rw [c4b0] | (simp only [i64_w, i32_w]; rw [c4b0]) | skip)
     have H' := Aside0.mk H
     clear H
     go_wp2
     go_meet
     case rel => exact ⟨_, (false), zQx7a2_, H', ⟨by have := HK1.out; first | omega | exact Nat.le_refl _⟩, ⟨zQx7a3_⟩, ⟨zQx7a0_⟩⟩
    rw [if_pos c4] at H
    have c4b0 : decide (x5_1 < (a0.size : Int)) = true := decide_eq_true c4
    clear c4
    (first | rw [c4b0] | (simp only [i64_w, i32_w]; rw [c4b0]) | skip)
    have c5 : 0 ≤ x5_1 := znQx7_
    rw [if_pos c5] at H
    have c5b0 : decide (0 ≤ x5_1) = true := decide_eq_true c5
    clear c5
    have H' := Aside0.mk H
    clear H
    have p6 : 0 ≤ (x5_1 : Int) := of_decide_eq_true zQx7a1_
    have q6 : x5_1 < (a0.size : Int) := of_decide_eq_true zQx7a1_
    have hx6 := bt_at a0 x5_1
    replace p6 := eq_true p6
    replace q6 := eq_true q6
    go_wp2
    go_meet
    case rel => exact ⟨_, (((bt a0 x5_1) != 32)), zQx7a2_, H', ⟨by have := HK1.out; first | omega | exact Nat.le_refl _⟩, ⟨zQx7a3_⟩, ⟨zQx7a0_⟩⟩
   case rest =>
    clear HC3
    try clear c2
    try clear c2b0
    try clear p2
    try clear c4
    try clear c4b0
    try clear c5
    try clear c5b0
    try clear p6
    try clear q6
    try clear hx6
    try clear p6
    try clear q6
    obtain ⟨kq, x21_2, rfl, HA, HJ2, HO_3, HB⟩ := hcut
    cases kq with
    | zero => exact absurd HA.out (by simp [basculeref21_split.j1])
    | succ kj2 =>
     have H := HA.out
     clear HA
     simp only [basculeref21_split.j1] at H
     by_cases c7 : x21_2 = true
     ·
      subst c7
      have H1 : (if 0 ≤ x5_1 then (if x5_1 ≤ (wrap64 (x5_1 + 1)) then (if (wrap64 (x5_1 + 1)) ≤ (a0.size : Int) then (if x4_1.size + (a0.extract (x5_1 : Int).toNat ((wrap64 (x5_1 + 1)) : Int).toNat).size ≤ 9223372036854775807 then (basculeref21_split.l0 kj2 a0 x3_1 (x4_1 ++ (a0.extract (x5_1 : Int).toNat ((wrap64 (x5_1 + 1)) : Int).toNat)) (wrap64 (x5_1 + 1))) else (none)) else (none)) else (none)) else (none)) = some r := by rw [if_pos rfl] at H; exact H
      clear H
      have H := H1
      clear H1
      have c8 : 0 ≤ x5_1 := znQx7_
      rw [if_pos c8] at H
      have c8b0 := eq_true c8
      have c8b1 : decide (0 ≤ x5_1) = true := decide_eq_true c8
      clear c8
      have c9 : x5_1 ≤ (wrap64 (x5_1 + 1)) := znQx7_
      rw [if_pos c9] at H
      have c9b0 := eq_true c9
      have c9b1 : decide (x5_1 ≤ (wrap64 (x5_1 + 1))) = true := decide_eq_true c9
      have c10 : (wrap64 (x5_1 + 1)) ≤ (a0.size : Int) := znQx7_
      rw [if_pos c10] at H
      have c10b0 := eq_true c10
      have c10b1 : decide ((wrap64 (x5_1 + 1)) ≤ (a0.size : Int)) = true := decide_eq_true c10
      have c11 : x4_1.size + (a0.extract (x5_1 : Int).toNat ((wrap64 (x5_1 + 1)) : Int).toNat).size ≤ 9223372036854775807 := znQx7_
      rw [if_pos c11] at H
      have c11b0 := eq_true c11
      have c11b1 : decide (x4_1.size + (a0.extract (x5_1 : Int).toNat ((wrap64 (x5_1 + 1)) : Int).toNat).size ≤ 9223372036854775807) = true := decide_eq_true c11
      try have c11b2 : (9223372036854775807 < x4_1.size + (a0.extract (x5_1 : Int).toNat ((wrap64 (x5_1 + 1)) : Int).toNat).size) = False := eq_false (Nat.not_lt.2 c11)
      have H' := Aside0.mk H
      clear H
      go_wp2
      go_roundg kj2
      case measure => have := HK1.out; have := HJ2.out; omega
      case rel => exact ⟨(x3_1), (x4_1 ++ (a0.extract (x5_1 : Int).toNat ((wrap64 (x5_1 + 1)) : Int).toNat)), (wrap64 (x5_1 + 1)), zQx7a2_, zQx7a2_, H', ⟨zQx7a6_⟩, ⟨zQx7a3_⟩, ⟨zQx7a0_⟩⟩
     replace c7 := Bool.eq_false_iff.mpr c7
     subst c7
     have H1 : (if x4_1.toList = ([] : List UInt8) then (basculeref21_split.l0 kj2 a0 x3_1 (⟨#[]⟩ : ByteArray) (wrap64 (x5_1 + 1))) else (if x3_1.length < 8796093022208 then (basculeref21_split.l0 kj2 a0 (x3_1 ++ [x4_1]) (⟨#[]⟩ : ByteArray) (wrap64 (x5_1 + 1))) else (none))) = some r := by rw [if_neg (show ¬ (false = true) by decide)] at H; exact H
     clear H
     have H := H1
     clear H1
     by_cases c12 : x4_1.toList = ([] : List UInt8)
     ·
      rw [if_pos c12] at H
      have c12b0 : (x4_1.toList == ([] : List UInt8)) = true := beq_iff_eq.mpr c12
      have c12b1 : (x4_1.toList != ([] : List UInt8)) = false := bne_eq_false_iff_eq.mpr c12
      clear c12
      have H' := Aside0.mk H
      clear H
      go_wp2
      go_roundg kj2
      case measure => have := HK1.out; have := HJ2.out; omega
      case rel => exact ⟨(x3_1), ((⟨#[]⟩ : ByteArray)), (wrap64 (x5_1 + 1)), zQx7a2_, zQx7a2_, H', ⟨zQx7a6_⟩, ⟨zQx7a3_⟩, ⟨zQx7a0_⟩⟩
     rw [if_neg c12] at H
     have c12b0 : (x4_1.toList == ([] : List UInt8)) = false := beq_eq_false_iff_ne.mpr c12
     have c12b1 : (x4_1.toList != ([] : List UInt8)) = true := bne_iff_ne.mpr c12
     have c13 : x3_1.length < 8796093022208 := znQx7_
     rw [if_pos c13] at H
     have LMc13 := Aside0.mk c13
     clear c13
     obtain ⟨y126, hy126⟩ : ∃ y_ : List ByteArray, y_ = (x3_1 ++ [x4_1]) := ⟨_, rfl⟩
     replace H : (basculeref21_split.l0 kj2 a0 y126 (⟨#[]⟩ : ByteArray) (wrap64 (x5_1 + 1))) = some r := by first | (rw [hy126]; with_reducible exact H) | (have H2_ := (Option.bind_some _ _).symm.trans H; rw [hy126]; with_reducible exact H2_) | (have H2_ := (Option.bind_some _ _).symm.trans H; with_reducible exact H2_) | with_reducible exact H | (rw [hy126]; exact H) | exact H
     have Ny126 := Aside0.mk hy126
     clear hy126
     have H' := Aside0.mk H
     clear H
     go_wp2_with (first | ((with_reducible refine gate_builtin (b := .append) (xs := #[.tmp 31, .tmp 33]) rfl ?_); at_builtin; refine Kd.R_append Kd.string (w0 := w) w.heap.size rfl (.tmp 31) (.tmp 33) 46 9 (.string ⟨#[]⟩) 16 rfl Tryz.underlying46 info9 rfl (by decide) (by omega) u3 x3_1 x4_1 [.string x4_1] (fun _ => True) (fun _ => False) rfl rfl ?aP (fun _ hk => hk.elim) ?aF ?aO ?aB ?aS ?aL ?_; (case aP => exact rfl); (case aB => exact zQx7a0_); (case aF => exact (fun _ _ => trivial)); (case aO => exact zQx7a3_); (case aS => exact (below_size zQx7a0_)); (case aL => have := LMc13.out; omega); intro v127 w14 ho hb hg hat; rw [← Ny126.out] at ho; have n0_ := Aside0.mk (hb); have n1_ := Aside0.mk (ho); clear HB; clear HO_3; have HB := n0_; have HO128 := n1_; clear n0_ n1_; clear ho hb hg hat))
     go_roundg kj2
     case measure => have := HK1.out; have := HJ2.out; omega
     case rel => exact ⟨(y126), ((⟨#[]⟩ : ByteArray)), (wrap64 (x5_1 + 1)), zQx7a2_, zQx7a2_, H', ⟨zQx7a6_⟩, ⟨by (with_reducible repeat (first | apply Kd.R_alloc | apply Kd.R_drewN | apply Kd.R_drew)); exact HO128.out⟩, ⟨zQx7a0_⟩⟩
def basculeref21_number.l0 : Nat → ByteArray → Int → Int → Option (Int × Bool)
 | 0, _, _, _ => none
 | k + 1, x0, x4, x5 => if x5 < (x0.size : Int) then (if 0 ≤ x5 then (if (bt x0 x5) < 48 then (some (0, false)) else (if (bt x0 x5) > 57 then (some (0, false)) else (if x5 > 9 then (some (0, false)) else (basculeref21_number.l0 k x0 (wrap64 ((wrap64 (10 * x4)) + (((bt x0 x5) - 48) % 256))) (wrap64 (x5 + 1)))))) else (none)) else (some (x4, (x0.toList != ([] : List UInt8))))
def basculeref21_number.f (k : Nat) (a0 : ByteArray) : Option (Int × Bool) := basculeref21_number.l0 k a0 0 0
set_option maxHeartbeats 8000000 in
set_option maxRecDepth 100000 in
theorem basculeref21_number.calls (k : Nat) (a0 : ByteArray) (r1 : Int) (r2 : Bool) (w : World) (h : basculeref21_number.f k a0 = some (r1, r2)) :
  Calls Tryz.prog 48 #[.string a0] w fun e w' => e = .returned (.tuple #[.int .i64 r1, .bool r2]) ∧ Drawn0 w w' := by
 have H : (basculeref21_number.l0 k a0 0 0) = some (r1, r2) := h
 clear h
 have H' := Aside0.mk H
 clear H
 go_enter Tryz.func48, Tryz.ntmps48
 go_wp2
 go_loopg [4, 5] k (fun kq v4 v5 w' => ∃ (x4_1 : Int) (x5_1 : Int), v4 = .int .i64 x4_1 ∧ v5 = .int .i64 x5_1 ∧ Aside0 (basculeref21_number.l0 kq a0 x4_1 x5_1 = some (r1, r2)) ∧ Aside0 (kq ≤ k) ∧ Drawn0 w w')
 case atStart => exact ⟨(0), (0), zQx7a2_, zQx7a2_, H', ⟨Nat.le_refl _⟩, zQx7a5_⟩
 case round =>
  clear H'
  obtain ⟨x4_1, x5_1, rfl, rfl, HA, HK1, ⟨m1, rfl⟩⟩ := hrel
  cases gk with
  | zero => exact absurd HA.out (by simp [basculeref21_number.l0])
  | succ k1 =>
   have H := HA.out
   clear HA
   simp only [basculeref21_number.l0] at H
   by_cases c2 : x5_1 < (a0.size : Int)
   rotate_left
   ·
    rw [if_neg c2] at H
    have c2b0 : decide (x5_1 < (a0.size : Int)) = false := decide_eq_false c2
    clear c2
    simp only [Option.some.injEq, Prod.mk.injEq] at H
    obtain ⟨rfl, rfl⟩ := H
    go_wp2
    go_ret2
    exact ⟨zQx7a4_, zQx7a5_⟩
   rw [if_pos c2] at H
   have c2b0 : decide (x5_1 < (a0.size : Int)) = true := decide_eq_true c2
   clear c2
   have c3 : 0 ≤ x5_1 := znQx7_
   rw [if_pos c3] at H
   have c3b0 : decide (0 ≤ x5_1) = true := decide_eq_true c3
   clear c3
   by_cases c5 : (bt a0 x5_1) < 48
   ·
    rw [if_pos c5] at H
    have c5b0 : decide ((bt a0 x5_1) < 48) = true := decide_eq_true c5
    clear c5
    simp only [Option.some.injEq, Prod.mk.injEq] at H
    obtain ⟨rfl, rfl⟩ := H
    have p4 : 0 ≤ (x5_1 : Int) := of_decide_eq_true zQx7a1_
    have q4 : x5_1 < (a0.size : Int) := of_decide_eq_true zQx7a1_
    have hx4 := bt_at a0 x5_1
    replace p4 := eq_true p4
    replace q4 := eq_true q4
    go_wp2
    go_ret2
    exact ⟨zQx7a4_, zQx7a5_⟩
   rw [if_neg c5] at H
   have c5b0 : decide ((bt a0 x5_1) < 48) = false := decide_eq_false c5
   clear c5
   by_cases c7 : (bt a0 x5_1) > 57
   ·
    rw [if_pos c7] at H
    have c7b0 : decide (57 < (bt a0 x5_1)) = true := decide_eq_true c7
    clear c7
    simp only [Option.some.injEq, Prod.mk.injEq] at H
    obtain ⟨rfl, rfl⟩ := H
    have p4 : 0 ≤ (x5_1 : Int) := of_decide_eq_true zQx7a1_
    have q4 : x5_1 < (a0.size : Int) := of_decide_eq_true zQx7a1_
    have hx4 := bt_at a0 x5_1
    replace p4 := eq_true p4
    replace q4 := eq_true q4
    have p6 : 0 ≤ (x5_1 : Int) := of_decide_eq_true zQx7a1_
    have q6 : x5_1 < (a0.size : Int) := of_decide_eq_true zQx7a1_
    have hx6 := bt_at a0 x5_1
    replace p6 := eq_true p6
    replace q6 := eq_true q6
    go_wp2
    go_ret2
    exact ⟨zQx7a4_, zQx7a5_⟩
   rw [if_neg c7] at H
   have c7b0 : decide (57 < (bt a0 x5_1)) = false := decide_eq_false c7
   clear c7
   by_cases c8 : x5_1 > 9
   ·
    rw [if_pos c8] at H
    have c8b0 : decide (9 < x5_1) = true := decide_eq_true c8
    clear c8
    simp only [Option.some.injEq, Prod.mk.injEq] at H
    obtain ⟨rfl, rfl⟩ := H
    have p4 : 0 ≤ (x5_1 : Int) := of_decide_eq_true zQx7a1_
    have q4 : x5_1 < (a0.size : Int) := of_decide_eq_true zQx7a1_
    have hx4 := bt_at a0 x5_1
    replace p4 := eq_true p4
    replace q4 := eq_true q4
    have p6 : 0 ≤ (x5_1 : Int) := of_decide_eq_true zQx7a1_
    have q6 : x5_1 < (a0.size : Int) := of_decide_eq_true zQx7a1_
    have hx6 := bt_at a0 x5_1
    replace p6 := eq_true p6
    replace q6 := eq_true q6
    go_wp2
    go_ret2
    exact ⟨zQx7a4_, zQx7a5_⟩
   rw [if_neg c8] at H
   have c8b0 : decide (9 < x5_1) = false := decide_eq_false c8
   clear c8
   have H' := Aside0.mk H
   clear H
   have p4 : 0 ≤ (x5_1 : Int) := of_decide_eq_true zQx7a1_
   have q4 : x5_1 < (a0.size : Int) := of_decide_eq_true zQx7a1_
   have hx4 := bt_at a0 x5_1
   replace p4 := eq_true p4
   replace q4 := eq_true q4
   have p6 : 0 ≤ (x5_1 : Int) := of_decide_eq_true zQx7a1_
   have q6 : x5_1 < (a0.size : Int) := of_decide_eq_true zQx7a1_
   have hx6 := bt_at a0 x5_1
   replace p6 := eq_true p6
   replace q6 := eq_true q6
   have p9 : 0 ≤ (x5_1 : Int) := of_decide_eq_true zQx7a1_
   have q9 : x5_1 < (a0.size : Int) := of_decide_eq_true zQx7a1_
   have hx9 := bt_at a0 x5_1
   replace p9 := eq_true p9
   replace q9 := eq_true q9
   go_wp2
   go_roundg k1
   case measure => have := HK1.out; omega
   case rel => exact ⟨(wrap64 ((wrap64 (10 * x4_1)) + (((bt a0 x5_1) - 48) % 256))), (wrap64 (x5_1 + 1)), zQx7a2_, zQx7a2_, H', ⟨by have := HK1.out; omega⟩, zQx7a5_⟩
end Go.Proofs.YtbfhiiokajbdhaaGreatDoor.Q
