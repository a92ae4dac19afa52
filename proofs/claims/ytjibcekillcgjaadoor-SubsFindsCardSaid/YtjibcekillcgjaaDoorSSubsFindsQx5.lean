/- What the proof of SubsFinds leans on: Qx5. -/
import Derived.Test.YtjibcekillcgjaaDoorSSubsFindsQx0
import Derived.Test.YtjibcekillcgjaaDoorSSubsFindsQx4
namespace Go.Proofs.YtjibcekillcgjaaDoor.Q
open Go.RowKit Go.Proofs.YtjibcekillcgjaaDoorW.PrintWords Go.Proofs.YtjibcekillcgjaaDoorW.PrintLast Go.Proofs.YtjibcekillcgjaaDoorW.PrintMore
attribute [local go_sem] max2_int max_two
set_option linter.unusedVariables false
set_option linter.unusedSimpArgs false
theorem zQx5a0_ {P_ : Prop} (h_ : P_ := by repeat (first | (with_reducible first | exact HB.out | apply below_alloc | apply pw_below_drewN | apply below_drew1) | exact HB.out)) : P_ := h_
theorem zQx5a1_ {P_ : Prop} (h_ : P_ := by first | rfl | (simp; done) | (simp [*]; done)) : P_ := h_
theorem zQx5a2_ {P_ : Prop} (h_ : P_ := by first | (with_reducible assumption) | assumption) : P_ := h_
theorem zQx5a3_ {P_ : Prop} (h_ : P_ := by (with_reducible repeat (first | apply Kd.R_alloc | apply Kd.R_drewN | apply Kd.R_drew)); exact HO_3.out) : P_ := h_
theorem zQx5a4_ {P_ : Prop} (h_ : P_ := by repeat (first | exact Drawn0.refl _ | apply Drawn0.step)) : P_ := h_
theorem znQx5_ {X_ : Prop} [Decidable X_] (h_ : ¬ X_ → False := by intro c_; rw [if_neg c_] at H; exact absurd H (by simp)) : X_ := Decidable.byContradiction h_
def basculeref12_Levels.l0 : Nat → ByteArray → List ByteArray → Int → Int → Option (List ByteArray)
 | 0, _, _, _, _ => none
 | k + 1, x0, x3, x4, x5 => if x5 ≤ (x0.size : Int) then (if x5 = (x0.size : Int) then (if 0 ≤ x4 then (if x4 ≤ x5 then (if x3.length < 8796093022208 then (basculeref12_Levels.l0 k x0 (x3 ++ [x0.extract (x4 : Int).toNat (x5 : Int).toNat]) (wrap64 (x5 + 1)) (wrap64 (x5 + 1))) else (none)) else (none)) else (none)) else (if 0 ≤ x5 then (if x5 < (x0.size : Int) then (if (bt x0 x5) = 47 then (if 0 ≤ x4 then (if x4 ≤ x5 then (if x3.length < 8796093022208 then (basculeref12_Levels.l0 k x0 (x3 ++ [x0.extract (x4 : Int).toNat (x5 : Int).toNat]) (wrap64 (x5 + 1)) (wrap64 (x5 + 1))) else (none)) else (none)) else (none)) else (basculeref12_Levels.l0 k x0 x3 x4 (wrap64 (x5 + 1)))) else (none)) else (none))) else (some x3)
def basculeref12_Levels.f (k : Nat) (a0 : ByteArray) : Option (List ByteArray) := basculeref12_Levels.l0 k a0 ([] : List ByteArray) 0 0
set_option maxHeartbeats 8000000 in
set_option maxRecDepth 100000 in
theorem basculeref12_Levels.calls (k : Nat) (a0 : ByteArray) (r : List ByteArray) (w : World) (h : basculeref12_Levels.f k a0 = some r) :
  Calls Tryd.prog 21 #[.string a0] w fun e w' => ∃ v0_ : Value, e = .returned (v0_) ∧ Kd.R Kd.string 9 w' w.heap.size (fun _ => True) v0_ r ∧ Below w.heap.size w w' := by
 have HB := Aside0.mk (Below.refl w.heap.size w)
 have H : (basculeref12_Levels.l0 k a0 ([] : List ByteArray) 0 0) = some r := h
 clear h
 have H' := Aside0.mk H
 clear H
 go_enter Tryd.func21, Tryd.ntmps21
 go_wp2
 go_loopg [3, 4, 5] k (fun kq v3 v4 v5 w' => ∃ (x3_1 : List ByteArray) (x4_1 : Int) (x5_1 : Int), v4 = .int .i64 x4_1 ∧ v5 = .int .i64 x5_1 ∧ Aside0 (basculeref12_Levels.l0 kq a0 x3_1 x4_1 x5_1 = some r) ∧ Aside0 (kq ≤ k) ∧ Aside0 (Kd.R Kd.string 9 w' w.heap.size (fun _ => True) v3 x3_1) ∧ Aside0 (Below w.heap.size w w'))
 case atStart => exact ⟨(([] : List ByteArray)), (0), (0), zQx5a1_, zQx5a1_, H', ⟨Nat.le_refl _⟩, ⟨by first | exact Kd.R_nil _ _ _ _ _ | exact Kd.N_nil _ _ _ _ _ | exact Kd.V_nil _ _ _ _ _ | exact Kd.Q_nil _ _ _ _ _ | exact Kd.S_nil _ _ _ _ _⟩, ⟨zQx5a0_⟩⟩
 case round =>
  clear H'
  obtain ⟨x3_1, x4_1, x5_1, rfl, rfl, HA, HK1, HO_3, HB⟩ := hrel
  cases gk with
  | zero => exact absurd HA.out (by simp [basculeref12_Levels.l0])
  | succ k1 =>
   have H := HA.out
   clear HA
   simp only [basculeref12_Levels.l0] at H
   by_cases c2 : x5_1 ≤ (a0.size : Int)
   rotate_left
   ·
    rw [if_neg c2] at H
    have c2b0 : decide (x5_1 ≤ (a0.size : Int)) = false := decide_eq_false c2
    clear c2
    obtain rfl := Option.some.inj H
    go_wp2
    go_ret
    exact ⟨_, by first | rfl | (simp [errW_none, errW_some] <;> rfl) | (simp [*, errW_none, errW_some] <;> rfl), zQx5a3_, zQx5a0_⟩
   rw [if_pos c2] at H
   have c2b0 : decide (x5_1 ≤ (a0.size : Int)) = true := decide_eq_true c2
   clear c2
   by_cases c3 : x5_1 = (a0.size : Int)
   ·
    rw [if_pos c3] at H
    have c3b0 : (x5_1 == (a0.size : Int)) = true := beq_iff_eq.mpr c3
    have c3b1 : (x5_1 != (a0.size : Int)) = false := bne_eq_false_iff_eq.mpr c3
    clear c3
    have c4 : 0 ≤ x4_1 := znQx5_
    rw [if_pos c4] at H
    have c4b0 := eq_true c4
    have c4b1 : decide (0 ≤ x4_1) = true := decide_eq_true c4
    clear c4
    have c5 : x4_1 ≤ x5_1 := znQx5_
    rw [if_pos c5] at H
    have c5b0 := eq_true c5
    have c5b1 : decide (x4_1 ≤ x5_1) = true := decide_eq_true c5
    clear c5
    have c6b0 := eq_true (of_decide_eq_true zQx5a2_ : x5_1 ≤ (a0.size : Int))
    have c7 : x3_1.length < 8796093022208 := znQx5_
    rw [if_pos c7] at H
    have LMc7 := Aside0.mk c7
    clear c7
    obtain ⟨y126, hy126⟩ : ∃ y_ : List ByteArray, y_ = (x3_1 ++ [a0.extract (x4_1 : Int).toNat (x5_1 : Int).toNat]) := ⟨_, rfl⟩
    replace H : (basculeref12_Levels.l0 k1 a0 y126 (wrap64 (x5_1 + 1)) (wrap64 (x5_1 + 1))) = some r := by first | (rw [hy126]; with_reducible exact H) | (have H2_ := (Option.bind_some _ _).symm.trans H; rw [hy126]; with_reducible exact H2_) | (have H2_ := (Option.bind_some _ _).symm.trans H; with_reducible exact H2_) | with_reducible exact H | (rw [hy126]; exact H) | exact H
    have Ny126 := Aside0.mk hy126
    clear hy126
    have H' := Aside0.mk H
    clear H
    go_wp2_with (first | ((with_reducible refine gate_builtin (b := .append) (xs := #[.tmp 22, .tmp 27]) rfl ?_); at_builtin; refine Kd.R_append Kd.string (w0 := w) w.heap.size rfl (.tmp 22) (.tmp 27) 53 9 (.string ⟨#[]⟩) 16 rfl Tryd.underlying53 info9 rfl (by decide) (by omega) u3 x3_1 (a0.extract (x4_1 : Int).toNat (x5_1 : Int).toNat) [.string (a0.extract (x4_1 : Int).toNat (x5_1 : Int).toNat)] (fun _ => True) (fun _ => False) rfl rfl ?aP (fun _ hk => hk.elim) ?aF ?aO ?aB ?aS ?aL ?_; (case aP => exact rfl); (case aB => exact zQx5a0_); (case aF => exact (fun _ _ => trivial)); (case aO => exact zQx5a3_); (case aS => exact (below_size zQx5a0_)); (case aL => have := LMc7.out; omega); intro v127 w8 ho hb hg hat; rw [← Ny126.out] at ho; have n0_ := Aside0.mk (hb); have n1_ := Aside0.mk (ho); clear HB; clear HO_3; have HB := n0_; have HO128 := n1_; clear n0_ n1_; clear ho hb hg hat))
    go_roundg k1
    case measure => have := HK1.out; omega
    case rel => exact ⟨(y126), (wrap64 (x5_1 + 1)), (wrap64 (x5_1 + 1)), zQx5a1_, zQx5a1_, H', ⟨by have := HK1.out; omega⟩, ⟨by (with_reducible repeat (first | apply Kd.R_alloc | apply Kd.R_drewN | apply Kd.R_drew)); exact HO128.out⟩, ⟨zQx5a0_⟩⟩
   rw [if_neg c3] at H
   have c3b0 : (x5_1 == (a0.size : Int)) = false := beq_eq_false_iff_ne.mpr c3
   have c3b1 : (x5_1 != (a0.size : Int)) = true := bne_iff_ne.mpr c3
   have c9 : 0 ≤ x5_1 := znQx5_
   rw [if_pos c9] at H
   have c9b0 : decide (0 ≤ x5_1) = true := decide_eq_true c9
   clear c9
   have c10 : x5_1 < (a0.size : Int) := znQx5_
   rw [if_pos c10] at H
   have c10b0 : decide (x5_1 < (a0.size : Int)) = true := decide_eq_true c10
   clear c10
   by_cases c12 : (bt a0 x5_1) = 47
   rotate_left
   ·
    rw [if_neg c12] at H
    have c12b0 : ((bt a0 x5_1) == 47) = false := beq_eq_false_iff_ne.mpr c12
    have c12b1 : ((bt a0 x5_1) != 47) = true := bne_iff_ne.mpr c12
    have H' := Aside0.mk H
    clear H
    have p11 : 0 ≤ (x5_1 : Int) := of_decide_eq_true zQx5a2_
    have q11 : x5_1 < (a0.size : Int) := of_decide_eq_true zQx5a2_
    have hx11 := bt_at a0 x5_1
    replace p11 := eq_true p11
    replace q11 := eq_true q11
    go_wp2
    go_roundg k1
    case measure => have := HK1.out; omega
    case rel => exact ⟨(x3_1), (x4_1), (wrap64 (x5_1 + 1)), zQx5a1_, zQx5a1_, H', ⟨by have := HK1.out; omega⟩, ⟨zQx5a3_⟩, ⟨zQx5a0_⟩⟩
   rw [if_pos c12] at H
   have c12b0 : ((bt a0 x5_1) == 47) = true := beq_iff_eq.mpr c12
   have c12b1 : ((bt a0 x5_1) != 47) = false := bne_eq_false_iff_eq.mpr c12
   clear c12
   have c13 : 0 ≤ x4_1 := znQx5_
   rw [if_pos c13] at H
   have c13b0 := eq_true c13
   have c13b1 : decide (0 ≤ x4_1) = true := decide_eq_true c13
   clear c13
   have c14 : x4_1 ≤ x5_1 := znQx5_
   rw [if_pos c14] at H
   have c14b0 := eq_true c14
   have c14b1 : decide (x4_1 ≤ x5_1) = true := decide_eq_true c14
   clear c14
   have c15b0 := eq_true (of_decide_eq_true zQx5a2_ : x5_1 ≤ (a0.size : Int))
   have c16 : x3_1.length < 8796093022208 := znQx5_
   rw [if_pos c16] at H
   have LMc16 := Aside0.mk c16
   clear c16
   obtain ⟨y129, hy129⟩ : ∃ y_ : List ByteArray, y_ = (x3_1 ++ [a0.extract (x4_1 : Int).toNat (x5_1 : Int).toNat]) := ⟨_, rfl⟩
   replace H : (basculeref12_Levels.l0 k1 a0 y129 (wrap64 (x5_1 + 1)) (wrap64 (x5_1 + 1))) = some r := by first | (rw [hy129]; with_reducible exact H) | (have H2_ := (Option.bind_some _ _).symm.trans H; rw [hy129]; with_reducible exact H2_) | (have H2_ := (Option.bind_some _ _).symm.trans H; with_reducible exact H2_) | with_reducible exact H | (rw [hy129]; exact H) | exact H
   have Ny129 := Aside0.mk hy129
   clear hy129
   have H' := Aside0.mk H
   clear H
   have p11 : 0 ≤ (x5_1 : Int) := of_decide_eq_true zQx5a2_
   have q11 : x5_1 < (a0.size : Int) := of_decide_eq_true zQx5a2_
   have hx11 := bt_at a0 x5_1
   replace p11 := eq_true p11
   replace q11 := eq_true q11
   go_wp2_with (first | ((with_reducible refine gate_builtin (b := .append) (xs := #[.tmp 22, .tmp 27]) rfl ?_); at_builtin; refine Kd.R_append Kd.string (w0 := w) w.heap.size rfl (.tmp 22) (.tmp 27) 53 9 (.string ⟨#[]⟩) 16 rfl Tryd.underlying53 info9 rfl (by decide) (by omega) u3 x3_1 (a0.extract (x4_1 : Int).toNat (x5_1 : Int).toNat) [.string (a0.extract (x4_1 : Int).toNat (x5_1 : Int).toNat)] (fun _ => True) (fun _ => False) rfl rfl ?aP (fun _ hk => hk.elim) ?aF ?aO ?aB ?aS ?aL ?_; (case aP => exact rfl); (case aB => exact zQx5a0_); (case aF => exact (fun _ _ => trivial)); (case aO => exact zQx5a3_); (case aS => exact (below_size zQx5a0_)); (case aL => have := LMc16.out; omega); intro v130 w17 ho hb hg hat; rw [← Ny129.out] at ho; have n0_ := Aside0.mk (hb); have n1_ := Aside0.mk (ho); clear HB; clear HO_3; have HB := n0_; have HO131 := n1_; clear n0_ n1_; clear ho hb hg hat))
   go_roundg k1
   case measure => have := HK1.out; omega
   case rel => exact ⟨(y129), (wrap64 (x5_1 + 1)), (wrap64 (x5_1 + 1)), zQx5a1_, zQx5a1_, H', ⟨by have := HK1.out; omega⟩, ⟨by (with_reducible repeat (first | apply Kd.R_alloc | apply Kd.R_drewN | apply Kd.R_drew)); exact HO131.out⟩, ⟨zQx5a0_⟩⟩
def basculeref12_has.l0 : Nat → ByteArray → Int → Int → Option (Bool)
 | 0, _, _, _ => none
 | k + 1, x0, x1, x5 => if x5 < (x0.size : Int) then (if 0 ≤ x5 then (if (bt x0 x5) = x1 then (some true) else (basculeref12_has.l0 k x0 x1 (wrap64 (x5 + 1)))) else (none)) else (some false)
def basculeref12_has.f (k : Nat) (a0 : ByteArray) (a1 : Int) : Option (Bool) := basculeref12_has.l0 k a0 a1 0
set_option maxHeartbeats 8000000 in
set_option maxRecDepth 100000 in
theorem basculeref12_has.calls (k : Nat) (a0 : ByteArray) (a1 : Int) (r : Bool) (w : World) (h : basculeref12_has.f k a0 a1 = some r) :
  Calls Tryd.prog 22 #[.string a0, .int .u8 a1] w fun e w' => e = .returned (.bool r) ∧ Drawn0 w w' := by
 have H : (basculeref12_has.l0 k a0 a1 0) = some r := h
 clear h
 have H' := Aside0.mk H
 clear H
 go_enter Tryd.func22, Tryd.ntmps22
 go_wp2
 go_loopg [5] k (fun kq v5 w' => ∃ (x5_1 : Int), v5 = .int .i64 x5_1 ∧ Aside0 (basculeref12_has.l0 kq a0 a1 x5_1 = some r) ∧ Aside0 (kq ≤ k) ∧ Drawn0 w w')
 case atStart => exact ⟨(0), zQx5a1_, H', ⟨Nat.le_refl _⟩, zQx5a4_⟩
 case round =>
  clear H'
  try clear c2
  try clear p2
  obtain ⟨x5_1, rfl, HA, HK1, ⟨m1, rfl⟩⟩ := hrel
  cases gk with
  | zero => exact absurd HA.out (by simp [basculeref12_has.l0])
  | succ k1 =>
   have H := HA.out
   clear HA
   simp only [basculeref12_has.l0] at H
   by_cases c3 : x5_1 < (a0.size : Int)
   rotate_left
   ·
    rw [if_neg c3] at H
    have c3b0 : decide (x5_1 < (a0.size : Int)) = false := decide_eq_false c3
    clear c3
    obtain rfl := Option.some.inj H
    go_wp2
    go_ret
    exact ⟨zQx5a1_, zQx5a4_⟩
   rw [if_pos c3] at H
   have c3b0 : decide (x5_1 < (a0.size : Int)) = true := decide_eq_true c3
   clear c3
   have c4 : 0 ≤ x5_1 := znQx5_
   rw [if_pos c4] at H
   have c4b0 : decide (0 ≤ x5_1) = true := decide_eq_true c4
   clear c4
   by_cases c6 : (bt a0 x5_1) = a1
   ·
    rw [if_pos c6] at H
    have c6b0 : ((bt a0 x5_1) == a1) = true := beq_iff_eq.mpr c6
    have c6b1 : ((bt a0 x5_1) != a1) = false := bne_eq_false_iff_eq.mpr c6
    clear c6
    obtain rfl := Option.some.inj H
    have p5 : 0 ≤ (x5_1 : Int) := of_decide_eq_true zQx5a2_
    have q5 : x5_1 < (a0.size : Int) := of_decide_eq_true zQx5a2_
    have hx5 := bt_at a0 x5_1
    replace p5 := eq_true p5
    replace q5 := eq_true q5
    go_wp2
    go_ret
    exact ⟨zQx5a1_, zQx5a4_⟩
   rw [if_neg c6] at H
   have c6b0 : ((bt a0 x5_1) == a1) = false := beq_eq_false_iff_ne.mpr c6
   have c6b1 : ((bt a0 x5_1) != a1) = true := bne_iff_ne.mpr c6
   have H' := Aside0.mk H
   clear H
   have p5 : 0 ≤ (x5_1 : Int) := of_decide_eq_true zQx5a2_
   have q5 : x5_1 < (a0.size : Int) := of_decide_eq_true zQx5a2_
   have hx5 := bt_at a0 x5_1
   replace p5 := eq_true p5
   replace q5 := eq_true q5
   go_wp2
   go_roundg k1
   case measure => have := HK1.out; omega
   case rel => exact ⟨(wrap64 (x5_1 + 1)), zQx5a1_, H', ⟨by have := HK1.out; omega⟩, zQx5a4_⟩
end Go.Proofs.YtjibcekillcgjaaDoor.Q
