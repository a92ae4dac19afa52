/- What the proof of SubsAgain leans on: Qx5. -/
import Derived.Test.YtjibcekillcgjaaDoorSSubsAgainQx0
import Derived.Test.YtjibcekillcgjaaDoorSSubsAgainQx4
namespace Go.Proofs.YtjibcekillcgjaaDoor.Q
open Go.RowKit Go.Proofs.YtjibcekillcgjaaDoorW.PrintWords Go.Proofs.YtjibcekillcgjaaDoorW.PrintLast Go.Proofs.YtjibcekillcgjaaDoorW.PrintMore
attribute [local go_sem] max2_int max_two
set_option linter.unusedVariables false
set_option linter.unusedSimpArgs false
attribute [local go_sem high] eqA33
theorem zQx5a0_ {P_ : Prop} (h_ : P_ := by repeat (first | (with_reducible first | exact HB.out | apply below_alloc | apply pw_below_drewN | apply below_drew1) | exact HB.out)) : P_ := h_
theorem zQx5a1_ {P_ : Prop} (h_ : P_ := by first | (with_reducible assumption) | assumption) : P_ := h_
theorem zQx5a2_ {P_ : Prop} (h_ : P_ := by first | rfl | (simp; done) | (simp [*]; done)) : P_ := h_
theorem zQx5a3_ {P_ : Prop} (h_ : P_ := by (with_reducible repeat (first | apply Kd.R_alloc | apply Kd.R_drewN | apply Kd.R_drew)); exact HO_3.out) : P_ := h_
theorem zQx5a4_ {P_ : Prop} (h_ : P_ := by (try simp only [List.map_toArray, List.map_cons, List.map_nil]); first | done | rfl | (simp only [List.length_drop, List.length_take]; rfl)) : P_ := h_
theorem zQx5a5_ {P_ : Prop} (h_ : P_ := by repeat (first | exact Drawn0.refl _ | apply Drawn0.step)) : P_ := h_
theorem zQx5a6_ {P_ : Prop} (h_ : P_ := by first | rfl | (simp [errW_none, errW_some] <;> rfl) | (simp [*, errW_none, errW_some] <;> rfl)) : P_ := h_
theorem zQx5a7_ {P_ : Prop} (h_ : P_ := by have := HJ1.out; have := HK2.out; first | omega | exact Nat.le_refl _) : P_ := h_
theorem zQx5a8_ {P_ : Prop} (h_ : P_ := by have := HK1.out; omega) : P_ := h_
theorem znQx5_ {X_ : Prop} [Decidable X_] (h_ : ¬ X_ → False := by intro c_; rw [if_neg c_] at H; exact absurd H (by simp)) : X_ := Decidable.byContradiction h_
def basculeref12_Levels.l0 : Nat → ByteArray → List ByteArray → Int → Int → Option (List ByteArray)
 | 0, _, _, _, _ => none
 | k + 1, x0, x3, x4, x5 => if x5 ≤ (x0.size : Int) then (if x5 = (x0.size : Int) then (if 0 ≤ x4 then (if x4 ≤ x5 then (if x3.length < 8796093022208 then (basculeref12_Levels.l0 k x0 (x3 ++ [x0.extract (x4 : Int).toNat (x5 : Int).toNat]) (wrap64 (x5 + 1)) (wrap64 (x5 + 1))) else (none)) else (none)) else (none)) else (if 0 ≤ x5 then (if x5 < (x0.size : Int) then (if (bt x0 x5) = 47 then (if 0 ≤ x4 then (if x4 ≤ x5 then (if x3.length < 8796093022208 then (basculeref12_Levels.l0 k x0 (x3 ++ [x0.extract (x4 : Int).toNat (x5 : Int).toNat]) (wrap64 (x5 + 1)) (wrap64 (x5 + 1))) else (none)) else (none)) else (none)) else (basculeref12_Levels.l0 k x0 x3 x4 (wrap64 (x5 + 1)))) else (none)) else (none))) else (some x3)
def basculeref12_Levels.f (k : Nat) (a0 : ByteArray) : Option (List ByteArray) := basculeref12_Levels.l0 k a0 ([] : List ByteArray) 0 0
set_option maxHeartbeats 8000000 in
set_option maxRecDepth 100000 in
theorem basculeref12_Levels.calls (k : Nat) (a0 : ByteArray) (r : List ByteArray) (w : World) (h : basculeref12_Levels.f k a0 = some r) :
  Calls Tryd.prog 21 #[.string a0] w fun e w' => ∃ v0_ : Value, e = .returned (v0_) ∧ Kd.R Kd.string 9 w' w.heap.size (fun _ => True) v0_ r ∧ Below w.heap.size w w' := by
 have HB := Aside0.mk (Below.refl w.heap.size w)
 have H : (basculeref12_Levels.l0 k a0 ([] : List ByteArray) 0 0) = some r := h
 clear h
 have H' := Aside0.mk H
 clear H
 go_enter Tryd.func21, Tryd.ntmps21
 go_wp2
 go_loopg [3, 4, 5] k (fun kq v3 v4 v5 w' => ∃ (x3_1 : List ByteArray) (x4_1 : Int) (x5_1 : Int), v4 = .int .i64 x4_1 ∧ v5 = .int .i64 x5_1 ∧ Aside0 (basculeref12_Levels.l0 kq a0 x3_1 x4_1 x5_1 = some r) ∧ Aside0 (kq ≤ k) ∧ Aside0 (Kd.R Kd.string 9 w' w.heap.size (fun _ => True) v3 x3_1) ∧ Aside0 (Below w.heap.size w w'))
 case atStart => exact ⟨(([] : List ByteArray)), (0), (0), zQx5a2_, zQx5a2_, H', ⟨Nat.le_refl _⟩, ⟨by first | exact Kd.R_nil _ _ _ _ _ | exact Kd.N_nil _ _ _ _ _ | exact Kd.V_nil _ _ _ _ _ | exact Kd.Q_nil _ _ _ _ _ | exact Kd.S_nil _ _ _ _ _⟩, ⟨zQx5a0_⟩⟩
 case round =>
  clear H'
  obtain ⟨x3_1, x4_1, x5_1, rfl, rfl, HA, HK1, HO_3, HB⟩ := hrel
  cases gk with
  | zero => exact absurd HA.out (by simp [basculeref12_Levels.l0])
  | succ k1 =>
   have H := HA.out
   clear HA
   simp only [basculeref12_Levels.l0] at H
   by_cases c2 : x5_1 ≤ (a0.size : Int)
   rotate_left
   ·
    rw [if_neg c2] at H
    have c2b0 : decide (x5_1 ≤ (a0.size : Int)) = false := decide_eq_false c2
    clear c2
    obtain rfl := Option.some.inj H
    go_wp2
    go_ret
    exact ⟨_, zQx5a6_, zQx5a3_, zQx5a0_⟩
   rw [if_pos c2] at H
   have c2b0 : decide (x5_1 ≤ (a0.size : Int)) = true := decide_eq_true c2
   clear c2
   by_cases c3 : x5_1 = (a0.size : Int)
   ·
    rw [if_pos c3] at H
    have c3b0 : (x5_1 == (a0.size : Int)) = true := beq_iff_eq.mpr c3
    have c3b1 : (x5_1 != (a0.size : Int)) = false := bne_eq_false_iff_eq.mpr c3
    clear c3
    have c4 : 0 ≤ x4_1 := znQx5_
    rw [if_pos c4] at H
    have c4b0 := eq_true c4
    have c4b1 : decide (0 ≤ x4_1) = true := decide_eq_true c4
    clear c4
    have c5 : x4_1 ≤ x5_1 := znQx5_
    rw [if_pos c5] at H
    have c5b0 := eq_true c5
    have c5b1 : decide (x4_1 ≤ x5_1) = true := decide_eq_true c5
    clear c5
    have c6b0 := eq_true (of_decide_eq_true zQx5a1_ : x5_1 ≤ (a0.size : Int))
    have c7 : x3_1.length < 8796093022208 := znQx5_
    rw [if_pos c7] at H
    have LMc7 := Aside0.mk c7
    clear c7
    obtain ⟨y126, hy126⟩ : ∃ y_ : List ByteArray, y_ = (x3_1 ++ [a0.extract (x4_1 : Int).toNat (x5_1 : Int).toNat]) := ⟨_, rfl⟩
    replace H : (basculeref12_Levels.l0 k1 a0 y126 (wrap64 (x5_1 + 1)) (wrap64 (x5_1 + 1))) = some r := by first | (rw [hy126]; with_reducible exact H) | (have H2_ := (Option.bind_some _ _).symm.trans H; rw [hy126]; with_reducible exact H2_) | (have H2_ := (Option.bind_some _ _).symm.trans H; with_reducible exact H2_) | with_reducible exact H | (rw [hy126]; exact H) | exact H
    have Ny126 := Aside0.mk hy126
    clear hy126
    have H' := Aside0.mk H
    clear H
    go_wp2_with (first | ((with_reducible refine gate_builtin (b := .append) (xs := #[.tmp 22, .tmp 27]) rfl ?_); at_builtin; refine Kd.R_append Kd.string (w0 := w) w.heap.size rfl (.tmp 22) (.tmp 27) 53 9 (.string ⟨#[]⟩) 16 rfl Tryd.underlying53 info9 rfl (by decide) (by omega) u3 x3_1 (a0.extract (x4_1 : Int).toNat (x5_1 : Int).toNat) [.string (a0.extract (x4_1 : Int).toNat (x5_1 : Int).toNat)] (fun _ => True) (fun _ => False) rfl rfl ?aP (fun _ hk => hk.elim) ?aF ?aO ?aB ?aS ?aL ?_; (case aP => exact rfl); (case aB => exact zQx5a0_); (case aF => exact (fun _ _ => trivial)); (case aO => exact zQx5a3_); (case aS => exact (below_size zQx5a0_)); (case aL => have := LMc7.out; omega); intro v127 w8 ho hb hg hat; rw [← Ny126.out] at ho; have n0_ := Aside0.mk (hb); have n1_ := Aside0.mk (ho); clear HB; clear HO_3; have HB := n0_; have HO128 := n1_; clear n0_ n1_; clear ho hb hg hat))
    go_roundg k1
    case measure => have := HK1.out; omega
    case rel => exact ⟨(y126), (wrap64 (x5_1 + 1)), (wrap64 (x5_1 + 1)), zQx5a2_, zQx5a2_, H', ⟨zQx5a8_⟩, ⟨by (with_reducible repeat (first | apply Kd.R_alloc | apply Kd.R_drewN | apply Kd.R_drew)); exact HO128.out⟩, ⟨zQx5a0_⟩⟩
   rw [if_neg c3] at H
   have c3b0 : (x5_1 == (a0.size : Int)) = false := beq_eq_false_iff_ne.mpr c3
   have c3b1 : (x5_1 != (a0.size : Int)) = true := bne_iff_ne.mpr c3
   have c9 : 0 ≤ x5_1 := znQx5_
   rw [if_pos c9] at H
   have c9b0 : decide (0 ≤ x5_1) = true := decide_eq_true c9
   clear c9
   have c10 : x5_1 < (a0.size : Int) := znQx5_
   rw [if_pos c10] at H
   have c10b0 : decide (x5_1 < (a0.size : Int)) = true := decide_eq_true c10
   clear c10
   by_cases c12 : (bt a0 x5_1) = 47
   rotate_left
   ·
    rw [if_neg c12] at H
    have c12b0 : ((bt a0 x5_1) == 47) = false := beq_eq_false_iff_ne.mpr c12
    have c12b1 : ((bt a0 x5_1) != 47) = true := bne_iff_ne.mpr c12
    have H' := Aside0.mk H
    clear H
    have p11 : 0 ≤ (x5_1 : Int) := of_decide_eq_true zQx5a1_
    have q11 : x5_1 < (a0.size : Int) := of_decide_eq_true zQx5a1_
    have hx11 := bt_at a0 x5_1
    replace p11 := eq_true p11
    replace q11 := eq_true q11
    go_wp2
    go_roundg k1
    case measure => have := HK1.out; omega
    case rel => exact ⟨(x3_1), (x4_1), (wrap64 (x5_1 + 1)), zQx5a2_, zQx5a2_, H', ⟨zQx5a8_⟩, ⟨zQx5a3_⟩, ⟨zQx5a0_⟩⟩
   rw [if_pos c12] at H
   have c12b0 : ((bt a0 x5_1) == 47) = true := beq_iff_eq.mpr c12
   have c12b1 : ((bt a0 x5_1) != 47) = false := bne_eq_false_iff_eq.mpr c12
   clear c12
   have c13 : 0 ≤ x4_1 := znQx5_
   rw [if_pos c13] at H
   have c13b0 := eq_true c13
   have c13b1 : decide (0 ≤ x4_1) = true := decide_eq_true c13
   clear c13
   have c14 : x4_1 ≤ x5_1 := znQx5_
   rw [if_pos c14] at H
   have c14b0 := eq_true c14
   have c14b1 : decide (x4_1 ≤ x5_1) = true := decide_eq_true c14
   clear c14
   have c15b0 := eq_true (of_decide_eq_true zQx5a1_ : x5_1 ≤ (a0.size : Int))
   have c16 : x3_1.length < 8796093022208 := znQx5_
   rw [if_pos c16] at H
   have LMc16 := Aside0.mk c16
   clear c16
   obtain ⟨y129, hy129⟩ : ∃ y_ : List ByteArray, y_ = (x3_1 ++ [a0.extract (x4_1 : Int).toNat (x5_1 : Int).toNat]) := ⟨_, rfl⟩
   replace H : (basculeref12_Levels.l0 k1 a0 y129 (wrap64 (x5_1 + 1)) (wrap64 (x5_1 + 1))) = some r := by first | (rw [hy129]; with_reducible exact H) | (have H2_ := (Option.bind_some _ _).symm.trans H; rw [hy129]; with_reducible exact H2_) | (have H2_ := (Option.bind_some _ _).symm.trans H; with_reducible exact H2_) | with_reducible exact H | (rw [hy129]; exact H) | exact H
   have Ny129 := Aside0.mk hy129
   clear hy129
   have H' := Aside0.mk H
   clear H
   have p11 : 0 ≤ (x5_1 : Int) := of_decide_eq_true zQx5a1_
   have q11 : x5_1 < (a0.size : Int) := of_decide_eq_true zQx5a1_
   have hx11 := bt_at a0 x5_1
   replace p11 := eq_true p11
   replace q11 := eq_true q11
   go_wp2_with (first | ((with_reducible refine gate_builtin (b := .append) (xs := #[.tmp 22, .tmp 27]) rfl ?_); at_builtin; refine Kd.R_append Kd.string (w0 := w) w.heap.size rfl (.tmp 22) (.tmp 27) 53 9 (.string ⟨#[]⟩) 16 rfl Tryd.underlying53 info9 rfl (by decide) (by omega) u3 x3_1 (a0.extract (x4_1 : Int).toNat (x5_1 : Int).toNat) [.string (a0.extract (x4_1 : Int).toNat (x5_1 : Int).toNat)] (fun _ => True) (fun _ => False) rfl rfl ?aP (fun _ hk => hk.elim) ?aF ?aO ?aB ?aS ?aL ?_; (case aP => exact rfl); (case aB => exact zQx5a0_); (case aF => exact (fun _ _ => trivial)); (case aO => exact zQx5a3_); (case aS => exact (below_size zQx5a0_)); (case aL => have := LMc16.out; omega); intro v130 w17 ho hb hg hat; rw [← Ny129.out] at ho; have n0_ := Aside0.mk (hb); have n1_ := Aside0.mk (ho); clear HB; clear HO_3; have HB := n0_; have HO131 := n1_; clear n0_ n1_; clear ho hb hg hat))
   go_roundg k1
   case measure => have := HK1.out; omega
   case rel => exact ⟨(y129), (wrap64 (x5_1 + 1)), (wrap64 (x5_1 + 1)), zQx5a2_, zQx5a2_, H', ⟨zQx5a8_⟩, ⟨by (with_reducible repeat (first | apply Kd.R_alloc | apply Kd.R_drewN | apply Kd.R_drew)); exact HO131.out⟩, ⟨zQx5a0_⟩⟩
def basculeref12_has.l0 : Nat → ByteArray → Int → Int → Option (Bool)
 | 0, _, _, _ => none
 | k + 1, x0, x1, x5 => if x5 < (x0.size : Int) then (if 0 ≤ x5 then (if (bt x0 x5) = x1 then (some true) else (basculeref12_has.l0 k x0 x1 (wrap64 (x5 + 1)))) else (none)) else (some false)
def basculeref12_has.f (k : Nat) (a0 : ByteArray) (a1 : Int) : Option (Bool) := basculeref12_has.l0 k a0 a1 0
set_option maxHeartbeats 8000000 in
set_option maxRecDepth 100000 in
theorem basculeref12_has.calls (k : Nat) (a0 : ByteArray) (a1 : Int) (r : Bool) (w : World) (h : basculeref12_has.f k a0 a1 = some r) :
  Calls Tryd.prog 22 #[.string a0, .int .u8 a1] w fun e w' => e = .returned (.bool r) ∧ Drawn0 w w' := by
 have H : (basculeref12_has.l0 k a0 a1 0) = some r := h
 clear h
 have H' := Aside0.mk H
 clear H
 go_enter Tryd.func22, Tryd.ntmps22
 go_wp2
 go_loopg [5] k (fun kq v5 w' => ∃ (x5_1 : Int), v5 = .int .i64 x5_1 ∧ Aside0 (basculeref12_has.l0 kq a0 a1 x5_1 = some r) ∧ Aside0 (kq ≤ k) ∧ Drawn0 w w')
 case atStart => exact ⟨(0), zQx5a2_, H', ⟨Nat.le_refl _⟩, zQx5a5_⟩
 case round =>
  clear H'
  try clear c2
  try clear p2
  obtain ⟨x5_1, rfl, HA, HK1, ⟨m1, rfl⟩⟩ := hrel
  cases gk with
  | zero => exact absurd HA.out (by simp [basculeref12_has.l0])
  | succ k1 =>
   have H := HA.out
   clear HA
   simp only [basculeref12_has.l0] at H
   by_cases c3 : x5_1 < (a0.size : Int)
   rotate_left
   ·
    rw [if_neg c3] at H
    have c3b0 : decide (x5_1 < (a0.size : Int)) = false := decide_eq_false c3
    clear c3
    obtain rfl := Option.some.inj H
    go_wp2
    go_ret
    exact ⟨zQx5a2_, zQx5a5_⟩
   rw [if_pos c3] at H
   have c3b0 : decide (x5_1 < (a0.size : Int)) = true := decide_eq_true c3
   clear c3
   have c4 : 0 ≤ x5_1 := znQx5_
   rw [if_pos c4] at H
   have c4b0 : decide (0 ≤ x5_1) = true := decide_eq_true c4
   clear c4
   by_cases c6 : (bt a0 x5_1) = a1
   ·
    rw [if_pos c6] at H
    have c6b0 : ((bt a0 x5_1) == a1) = true := beq_iff_eq.mpr c6
    have c6b1 : ((bt a0 x5_1) != a1) = false := bne_eq_false_iff_eq.mpr c6
    clear c6
    obtain rfl := Option.some.inj H
    have p5 : 0 ≤ (x5_1 : Int) := of_decide_eq_true zQx5a1_
    have q5 : x5_1 < (a0.size : Int) := of_decide_eq_true zQx5a1_
    have hx5 := bt_at a0 x5_1
    replace p5 := eq_true p5
    replace q5 := eq_true q5
    go_wp2
    go_ret
    exact ⟨zQx5a2_, zQx5a5_⟩
   rw [if_neg c6] at H
   have c6b0 : ((bt a0 x5_1) == a1) = false := beq_eq_false_iff_ne.mpr c6
   have c6b1 : ((bt a0 x5_1) != a1) = true := bne_iff_ne.mpr c6
   have H' := Aside0.mk H
   clear H
   have p5 : 0 ≤ (x5_1 : Int) := of_decide_eq_true zQx5a1_
   have q5 : x5_1 < (a0.size : Int) := of_decide_eq_true zQx5a1_
   have hx5 := bt_at a0 x5_1
   replace p5 := eq_true p5
   replace q5 := eq_true q5
   go_wp2
   go_roundg k1
   case measure => have := HK1.out; omega
   case rel => exact ⟨(wrap64 (x5_1 + 1)), zQx5a2_, H', ⟨zQx5a8_⟩, zQx5a5_⟩
mutual
def basculeref12_Filter.j0 : Nat → ByteArray → Bool → Option (Bool)
 | 0, _, _ => none
 | k + 1, x0, x11 => if x11 = true then (some false) else ((basculeref12_Levels.f k x0).bind fun t133 => (basculeref12_Filter.l0 k t133 0))
def basculeref12_Filter.l0 : Nat → List ByteArray → Int → Option (Bool)
 | 0, _, _ => none
 | k + 1, x3, x4 => if x4 < (x3.length : Int) then (if 0 ≤ x4 then (if (rdOf ByteArray.empty x3 x4).toList = ([43] : List UInt8) then (basculeref12_Filter.j2 k x3 x4 true) else (if (rdOf ByteArray.empty x3 x4).toList = ([35] : List UInt8) then (basculeref12_Filter.j2 k x3 x4 (x4 == (wrap64 ((x3.length : Int) - 1)))) else (basculeref12_Filter.j2 k x3 x4 false))) else (none)) else (some true)
def basculeref12_Filter.j2 : Nat → List ByteArray → Int → Bool → Option (Bool)
 | 0, _, _, _ => none
 | k + 1, x3, x4, x38 => if x38 = true then (basculeref12_Filter.l0 k x3 (wrap64 (x4 + 1))) else (if 0 ≤ x4 then (if x4 < (x3.length : Int) then ((basculeref12_has.f k (rdOf ByteArray.empty x3 x4) 43).bind fun t139 => (if t139 = true then (some false) else ((basculeref12_has.f k (rdOf ByteArray.empty x3 x4) 35).bind fun t141 => (if t141 = true then (some false) else (basculeref12_Filter.l0 k x3 (wrap64 (x4 + 1))))))) else (none)) else (none))
end
def basculeref12_Filter.f (k : Nat) (a0 : ByteArray) : Option (Bool) := if a0.toList = ([] : List UInt8) then (basculeref12_Filter.j0 k a0 true) else ((basculeref09_Is.f k a0).bind fun t132 => (basculeref12_Filter.j0 k a0 (!t132)))
set_option maxHeartbeats 8000000 in
set_option maxRecDepth 100000 in
theorem basculeref12_Filter.calls (k : Nat) (a0 : ByteArray) (r : Bool) (w : World) (h : basculeref12_Filter.f k a0 = some r) :
  Calls Tryd.prog 8 #[.string a0] w fun e w' => e = .returned (.bool r) ∧ Below w.heap.size w w' := by
 have HB := Aside0.mk (Below.refl w.heap.size w)
 have H : (if a0.toList = ([] : List UInt8) then (basculeref12_Filter.j0 k a0 true) else ((basculeref09_Is.f k a0).bind fun t132 => (basculeref12_Filter.j0 k a0 (!t132)))) = some r := h
 clear h
 have HC2 := Aside0.mk H
 clear H
 go_enter Tryd.func8, Tryd.ntmps8
 go_upto_region 1 with (fail)
 go_cut [11] (fun v11 wc => ∃ (kq : Nat) (x11_1 : Bool), v11 = .bool x11_1 ∧ Aside0 (basculeref12_Filter.j0 kq a0 x11_1 = some r) ∧ Aside0 (kq ≤ k) ∧ Aside0 (Below w.heap.size w wc))
 case first =>
  have H := HC2.out
  clear HC2
  by_cases c3 : a0.toList = ([] : List UInt8)
  ·
   rw [if_pos c3] at H
   have c3b0 : (a0.toList == ([] : List UInt8)) = true := beq_iff_eq.mpr c3
   have c3b1 : (a0.toList != ([] : List UInt8)) = false := bne_eq_false_iff_eq.mpr c3
   clear c3
   (first | rw [c3b0] | (simp only [i64_w, i32_w]; rw [c3b0]) | skip)
   have H' := Aside0.mk H
   clear H
   go_wp2
   go_meet
   case rel => exact ⟨_, (true), zQx5a2_, H', ⟨by first | omega | exact Nat.le_refl _⟩, ⟨zQx5a0_⟩⟩
  rw [if_neg c3] at H
  have c3b0 : (a0.toList == ([] : List UInt8)) = false := beq_eq_false_iff_ne.mpr c3
  have c3b1 : (a0.toList != ([] : List UInt8)) = true := bne_iff_ne.mpr c3
  (first | rw [c3b0] | (simp only [i64_w, i32_w]; rw [c3b0]) | skip)
  replace H := Option.bind_eq_some_iff.mp H
  obtain ⟨t132, A40, H⟩ := H
  replace H : (basculeref12_Filter.j0 k a0 (!t132)) = some r := H
  have A4 := Aside0.mk A40
  clear A40
  have H' := Aside0.mk H
  clear H
  go_wp2_with (first | (go_at_call 20; (with_reducible refine (basculeref09_Is.calls k a0 t132 _ A4.out).mono ?_); rintro e w5 ⟨rfl, hb⟩; have n0_ := Aside0.mk (below_step zQx5a0_ hb); clear HB; have HB := n0_; clear n0_; (try clear hb); (try clear hb2); (try clear hk); (try clear hi)))
  go_meet
  case rel => exact ⟨_, (!t132), zQx5a2_, H', ⟨by first | omega | exact Nat.le_refl _⟩, ⟨zQx5a0_⟩⟩
 case rest =>
  clear HC2
  try clear p2
  try clear c3
  try clear c3b0
  try clear c3b1
  obtain ⟨kq, x11_1, rfl, HA, HJ1, HB⟩ := hcut
  cases kq with
  | zero => exact absurd HA.out (by simp [basculeref12_Filter.j0])
  | succ kj1 =>
   have H := HA.out
   clear HA
   simp only [basculeref12_Filter.j0] at H
   by_cases c6 : x11_1 = true
   ·
    subst c6
    have H1 : (some false) = some r := by rw [if_pos rfl] at H; exact H
    clear H
    have H := H1
    clear H1
    obtain rfl := Option.some.inj H
    go_wp2
    go_ret
    exact ⟨zQx5a6_, zQx5a0_⟩
   replace c6 := Bool.eq_false_iff.mpr c6
   subst c6
   have H1 : ((basculeref12_Levels.f kj1 a0).bind fun t133 => (basculeref12_Filter.l0 kj1 t133 0)) = some r := by rw [if_neg (show ¬ (false = true) by decide)] at H; exact H
   clear H
   have H := H1
   clear H1
   replace H := Option.bind_eq_some_iff.mp H
   obtain ⟨t133, A70, H⟩ := H
   replace H : (basculeref12_Filter.l0 kj1 t133 0) = some r := H
   have A7 := Aside0.mk A70
   clear A70
   have H' := Aside0.mk H
   clear H
   go_wp2_with (first | ((with_reducible refine gate_callee (f := 21) rfl ?_); refine goesL_ (some 13) rfl rfl Tryd.func21 (by kernel_rfl) rfl #[.string a0] rfl zQx5a4_ ?_; (with_reducible refine (basculeref12_Levels.calls kj1 a0 t133 _ A7.out).mono ?_); rintro e w8 ⟨v134, rfl, ho0, hb⟩; refine ⟨_, rfl, ?_⟩; have n0_ := Aside0.mk (Kd.R_lower ho0 (below_size zQx5a0_)); have n1_ := Aside0.mk (below_step zQx5a0_ hb); clear HB; have HO135 := n0_; have HB := n1_; clear n0_ n1_; (try clear hb); (try clear hb2); (try clear hk); (try clear hi); (try clear ho0)))
   go_loopg [4] kj1 (fun kq v4 w' => ∃ (x4_2 : Int), v4 = .int .i64 x4_2 ∧ Aside0 (basculeref12_Filter.l0 kq t133 x4_2 = some r) ∧ Aside0 (kq ≤ kj1) ∧ Aside0 (Kd.R Kd.string 9 w' w.heap.size (fun _ => True) v134 t133) ∧ Aside0 (Below w.heap.size w w'))
   case atStart => exact ⟨(0), zQx5a2_, H', ⟨Nat.le_refl _⟩, ⟨by (with_reducible repeat (first | apply Kd.R_alloc | apply Kd.R_drewN | apply Kd.R_drew)); exact HO135.out⟩, ⟨zQx5a0_⟩⟩
   case round =>
    clear H'
    try clear c2
    try clear p2
    try clear c3
    try clear c3b0
    try clear c3b1
    try clear c6
    try clear c8
    try clear p2
    obtain ⟨x4_2, rfl, HA, HK2, HO_3, HB⟩ := hrel
    cases gk with
    | zero => exact absurd HA.out (by simp [basculeref12_Filter.l0])
    | succ k2 =>
     have H := HA.out
     clear HA
     simp only [basculeref12_Filter.l0] at H
     by_cases c9 : x4_2 < (t133.length : Int)
     rotate_left
     ·
      rw [if_neg c9] at H
      have c9b0 : decide (x4_2 < (t133.length : Int)) = false := decide_eq_false c9
      clear c9
      obtain rfl := Option.some.inj H
      obtain ⟨Ao22, co22, eo22⟩ := Kd.R_slice HO_3.out
      subst eo22
      go_wp2
      go_ret
      exact ⟨zQx5a6_, zQx5a0_⟩
     rw [if_pos c9] at H
     have c9b0 : decide (x4_2 < (t133.length : Int)) = true := decide_eq_true c9
     clear c9
     have HC10 := Aside0.mk H
     clear H
     obtain ⟨Ao11, co11, eo11⟩ := Kd.R_slice HO_3.out
     subst eo11
     go_upto_region 7 with (fail)
     go_cut [38] (fun v38 wc => ∃ (kq : Nat) (x38_9 : Bool), v38 = .bool x38_9 ∧ Aside0 (basculeref12_Filter.j2 kq t133 x4_2 x38_9 = some r) ∧ Aside0 (kq ≤ k2) ∧ Aside0 (Kd.R Kd.string 9 wc w.heap.size (fun _ => True) (.slice Ao11 t133.length co11) t133) ∧ Aside0 (Below w.heap.size w wc))
     case first =>
      have H := HC10.out
      clear HC10
      have c12 : 0 ≤ x4_2 := znQx5_
      rw [if_pos c12] at H
      have c12b0 : decide (0 ≤ x4_2) = true := decide_eq_true c12
      clear c12
      (first | rw [c12b0] | (simp only [i64_w, i32_w]; rw [c12b0]) | skip)
      by_cases c13 : (rdOf ByteArray.empty t133 x4_2).toList = ([43] : List UInt8)
      ·
       rw [if_pos c13] at H
       have c13b0 : ((rdOf ByteArray.empty t133 x4_2).toList == ([43] : List UInt8)) = true := beq_iff_eq.mpr c13
       have c13b1 : ((rdOf ByteArray.empty t133 x4_2).toList != ([43] : List UInt8)) = false := bne_eq_false_iff_eq.mpr c13
       clear c13
       have H' := Aside0.mk H
       clear H
       have p136 : 0 ≤ (x4_2 : Int) := of_decide_eq_true zQx5a1_
       have q136 : x4_2 < (t133.length : Int) := of_decide_eq_true zQx5a1_
       obtain ⟨ad136, e136, hx136_0⟩ := Kd.at_string (Kd.R_reads' HO_3.out).2.2 x4_2 p136 q136
       cases e136
       replace p136 := eq_true p136
       replace q136 := eq_true q136
       go_wp2
       go_meet
       case rel => exact ⟨_, (true), zQx5a2_, H', ⟨zQx5a7_⟩, ⟨zQx5a3_⟩, ⟨zQx5a0_⟩⟩
      rw [if_neg c13] at H
      have c13b0 : ((rdOf ByteArray.empty t133 x4_2).toList == ([43] : List UInt8)) = false := beq_eq_false_iff_ne.mpr c13
      have c13b1 : ((rdOf ByteArray.empty t133 x4_2).toList != ([43] : List UInt8)) = true := bne_iff_ne.mpr c13
      by_cases c14 : (rdOf ByteArray.empty t133 x4_2).toList = ([35] : List UInt8)
      rotate_left
      ·
       rw [if_neg c14] at H
       have c14b0 : ((rdOf ByteArray.empty t133 x4_2).toList == ([35] : List UInt8)) = false := beq_eq_false_iff_ne.mpr c14
       have c14b1 : ((rdOf ByteArray.empty t133 x4_2).toList != ([35] : List UInt8)) = true := bne_iff_ne.mpr c14
       have H' := Aside0.mk H
       clear H
       have p136 : 0 ≤ (x4_2 : Int) := of_decide_eq_true zQx5a1_
       have q136 : x4_2 < (t133.length : Int) := of_decide_eq_true zQx5a1_
       obtain ⟨ad136, e136, hx136_0⟩ := Kd.at_string (Kd.R_reads' HO_3.out).2.2 x4_2 p136 q136
       cases e136
       replace p136 := eq_true p136
       replace q136 := eq_true q136
       have p137 : 0 ≤ (x4_2 : Int) := of_decide_eq_true zQx5a1_
       have q137 : x4_2 < (t133.length : Int) := of_decide_eq_true zQx5a1_
       obtain ⟨ad137, e137, hx137_0⟩ := Kd.at_string (Kd.R_reads' HO_3.out).2.2 x4_2 p137 q137
       obtain rfl : ad136 = ad137 := (by injection e137)
       replace p137 := eq_true p137
       replace q137 := eq_true q137
       go_wp2
       go_meet
       case rel => exact ⟨_, (false), zQx5a2_, H', ⟨zQx5a7_⟩, ⟨zQx5a3_⟩, ⟨zQx5a0_⟩⟩
      rw [if_pos c14] at H
      have c14b0 : ((rdOf ByteArray.empty t133 x4_2).toList == ([35] : List UInt8)) = true := beq_iff_eq.mpr c14
      have c14b1 : ((rdOf ByteArray.empty t133 x4_2).toList != ([35] : List UInt8)) = false := bne_eq_false_iff_eq.mpr c14
      clear c14
      have H' := Aside0.mk H
      clear H
      have p136 : 0 ≤ (x4_2 : Int) := of_decide_eq_true zQx5a1_
      have q136 : x4_2 < (t133.length : Int) := of_decide_eq_true zQx5a1_
      obtain ⟨ad136, e136, hx136_0⟩ := Kd.at_string (Kd.R_reads' HO_3.out).2.2 x4_2 p136 q136
      cases e136
      replace p136 := eq_true p136
      replace q136 := eq_true q136
      have p137 : 0 ≤ (x4_2 : Int) := of_decide_eq_true zQx5a1_
      have q137 : x4_2 < (t133.length : Int) := of_decide_eq_true zQx5a1_
      obtain ⟨ad137, e137, hx137_0⟩ := Kd.at_string (Kd.R_reads' HO_3.out).2.2 x4_2 p137 q137
      obtain rfl : ad136 = ad137 := (by injection e137)
      replace p137 := eq_true p137
      replace q137 := eq_true q137
      go_wp2
      go_meet
      case rel => exact ⟨_, ((x4_2 == (wrap64 ((t133.length : Int) - 1)))), zQx5a2_, H', ⟨zQx5a7_⟩, ⟨zQx5a3_⟩, ⟨zQx5a0_⟩⟩
     case rest =>
      clear HC10
      try clear c1
      try clear p1
      try clear q1
      try clear hx1
      try clear c2
      try clear p2
      try clear c3
      try clear c3b0
      try clear c3b1
      try clear c6
      try clear p6
      try clear c8
      try clear c9
      try clear c9b0
      try clear c12
      try clear c12b0
      try clear c13
      try clear c13b0
      try clear c13b1
      try clear p13
      try clear q13
      try clear hx13
      try clear c14
      try clear c14b0
      try clear c14b1
      try clear hx136_0
      try clear hx137_0
      try clear p136
      try clear p137
      try clear p2
      try clear q136
      try clear q137
      obtain ⟨kq, x38_9, rfl, HA, HJ9, HO_3, HB⟩ := hcut
      cases kq with
      | zero => exact absurd HA.out (by simp [basculeref12_Filter.j2])
      | succ kj9 =>
       have H := HA.out
       clear HA
       simp only [basculeref12_Filter.j2] at H
       by_cases c15 : x38_9 = true
       ·
        subst c15
        have H1 : (basculeref12_Filter.l0 kj9 t133 (wrap64 (x4_2 + 1))) = some r := by rw [if_pos rfl] at H; exact H
        clear H
        have H := H1
        clear H1
        have H' := Aside0.mk H
        clear H
        go_wp2
        go_roundg kj9
        case measure => have := HJ1.out; have := HK2.out; have := HJ9.out; omega
        case rel => exact ⟨(wrap64 (x4_2 + 1)), zQx5a2_, H', ⟨by have := HJ1.out; have := HK2.out; have := HJ9.out; omega⟩, ⟨zQx5a3_⟩, ⟨zQx5a0_⟩⟩
       replace c15 := Bool.eq_false_iff.mpr c15
       subst c15
       have H1 : (if 0 ≤ x4_2 then (if x4_2 < (t133.length : Int) then ((basculeref12_has.f kj9 (rdOf ByteArray.empty t133 x4_2) 43).bind fun t139 => (if t139 = true then (some false) else ((basculeref12_has.f kj9 (rdOf ByteArray.empty t133 x4_2) 35).bind fun t141 => (if t141 = true then (some false) else (basculeref12_Filter.l0 kj9 t133 (wrap64 (x4_2 + 1))))))) else (none)) else (none)) = some r := by rw [if_neg (show ¬ (false = true) by decide)] at H; exact H
       clear H
       have H := H1
       clear H1
       have c16 : 0 ≤ x4_2 := znQx5_
       rw [if_pos c16] at H
       have c16b0 : decide (0 ≤ x4_2) = true := decide_eq_true c16
       clear c16
       have c17 : x4_2 < (t133.length : Int) := znQx5_
       rw [if_pos c17] at H
       have c17b0 : decide (x4_2 < (t133.length : Int)) = true := decide_eq_true c17
       clear c17
       replace H := Option.bind_eq_some_iff.mp H
       obtain ⟨t139, A180, H⟩ := H
       replace H : (if t139 = true then (some false) else ((basculeref12_has.f kj9 (rdOf ByteArray.empty t133 x4_2) 35).bind fun t141 => (if t141 = true then (some false) else (basculeref12_Filter.l0 kj9 t133 (wrap64 (x4_2 + 1)))))) = some r := H
       have A18 := Aside0.mk A180
       clear A180
       by_cases c19 : t139 = true
       ·
        subst c19
        have H1 : (some false) = some r := by rw [if_pos rfl] at H; exact H
        clear H
        have H := H1
        clear H1
        obtain rfl := Option.some.inj H
        have p138 : 0 ≤ (x4_2 : Int) := of_decide_eq_true zQx5a1_
        have q138 : x4_2 < (t133.length : Int) := of_decide_eq_true zQx5a1_
        obtain ⟨ad138, e138, hx138_0⟩ := Kd.at_string (Kd.R_reads' HO_3.out).2.2 x4_2 p138 q138
        cases e138
        replace p138 := eq_true p138
        replace q138 := eq_true q138
        go_wp2_with (first | ((with_reducible refine gate_callee (f := 22) rfl ?_); refine goesL_ (some 43) rfl rfl Tryd.func22 (by kernel_rfl) rfl #[.string (rdOf ByteArray.empty t133 x4_2), .int .u8 43] rfl zQx5a4_ ?_; (with_reducible refine (basculeref12_has.calls kj9 (rdOf ByteArray.empty t133 x4_2) 43 true _ A18.out).mono ?_); rintro e w' ⟨rfl, ⟨nd, rfl⟩⟩; refine ⟨_, rfl, ?_⟩))
        go_ret
        exact ⟨zQx5a6_, zQx5a0_⟩
       replace c19 := Bool.eq_false_iff.mpr c19
       subst c19
       have H1 : ((basculeref12_has.f kj9 (rdOf ByteArray.empty t133 x4_2) 35).bind fun t141 => (if t141 = true then (some false) else (basculeref12_Filter.l0 kj9 t133 (wrap64 (x4_2 + 1))))) = some r := by rw [if_neg (show ¬ (false = true) by decide)] at H; exact H
       clear H
       have H := H1
       clear H1
       replace H := Option.bind_eq_some_iff.mp H
       obtain ⟨t141, A200, H⟩ := H
       replace H : (if t141 = true then (some false) else (basculeref12_Filter.l0 kj9 t133 (wrap64 (x4_2 + 1)))) = some r := H
       have A20 := Aside0.mk A200
       clear A200
       by_cases c21 : t141 = true
       ·
        subst c21
        have H1 : (some false) = some r := by rw [if_pos rfl] at H; exact H
        clear H
        have H := H1
        clear H1
        obtain rfl := Option.some.inj H
        have p138 : 0 ≤ (x4_2 : Int) := of_decide_eq_true zQx5a1_
        have q138 : x4_2 < (t133.length : Int) := of_decide_eq_true zQx5a1_
        obtain ⟨ad138, e138, hx138_0⟩ := Kd.at_string (Kd.R_reads' HO_3.out).2.2 x4_2 p138 q138
        cases e138
        replace p138 := eq_true p138
        replace q138 := eq_true q138
        go_wp2_with (first | ((with_reducible refine gate_callee (f := 22) rfl ?_); refine goesL_ (some 43) rfl rfl Tryd.func22 (by kernel_rfl) rfl #[.string (rdOf ByteArray.empty t133 x4_2), .int .u8 43] rfl zQx5a4_ ?_; (with_reducible refine (basculeref12_has.calls kj9 (rdOf ByteArray.empty t133 x4_2) 43 false _ A18.out).mono ?_); rintro e w' ⟨rfl, ⟨nd, rfl⟩⟩; refine ⟨_, rfl, ?_⟩; have p140 : 0 ≤ (x4_2 : Int) := of_decide_eq_true zQx5a1_; have q140 : x4_2 < (t133.length : Int) := of_decide_eq_true zQx5a1_; obtain ⟨ad140, e140, hx140_0⟩ := Kd.at_string (Kd.R_reads' HO_3.out).2.2 x4_2 p140 q140; obtain rfl : ad138 = ad140 := (by injection e140); replace p140 := eq_true p140; replace q140 := eq_true q140) | (go_at_call 22; (with_reducible refine (basculeref12_has.calls kj9 (rdOf ByteArray.empty t133 x4_2) 35 true _ A20.out).mono ?_); rintro e w' ⟨rfl, ⟨nd, rfl⟩⟩))
        go_ret
        exact ⟨zQx5a6_, zQx5a0_⟩
       replace c21 := Bool.eq_false_iff.mpr c21
       subst c21
       have H1 : (basculeref12_Filter.l0 kj9 t133 (wrap64 (x4_2 + 1))) = some r := by rw [if_neg (show ¬ (false = true) by decide)] at H; exact H
       clear H
       have H := H1
       clear H1
       have H' := Aside0.mk H
       clear H
       have p138 : 0 ≤ (x4_2 : Int) := of_decide_eq_true zQx5a1_
       have q138 : x4_2 < (t133.length : Int) := of_decide_eq_true zQx5a1_
       obtain ⟨ad138, e138, hx138_0⟩ := Kd.at_string (Kd.R_reads' HO_3.out).2.2 x4_2 p138 q138
       cases e138
       replace p138 := eq_true p138
       replace q138 := eq_true q138
       go_wp2_with (first | ((with_reducible refine gate_callee (f := 22) rfl ?_); refine goesL_ (some 43) rfl rfl Tryd.func22 (by kernel_rfl) rfl #[.string (rdOf ByteArray.empty t133 x4_2), .int .u8 43] rfl zQx5a4_ ?_; (with_reducible refine (basculeref12_has.calls kj9 (rdOf ByteArray.empty t133 x4_2) 43 false _ A18.out).mono ?_); rintro e w' ⟨rfl, ⟨nd, rfl⟩⟩; refine ⟨_, rfl, ?_⟩; have p140 : 0 ≤ (x4_2 : Int) := of_decide_eq_true zQx5a1_; have q140 : x4_2 < (t133.length : Int) := of_decide_eq_true zQx5a1_; obtain ⟨ad140, e140, hx140_0⟩ := Kd.at_string (Kd.R_reads' HO_3.out).2.2 x4_2 p140 q140; obtain rfl : ad138 = ad140 := (by injection e140); replace p140 := eq_true p140; replace q140 := eq_true q140) | (go_at_call 22; (with_reducible refine (basculeref12_has.calls kj9 (rdOf ByteArray.empty t133 x4_2) 35 false _ A20.out).mono ?_); rintro e w' ⟨rfl, ⟨nd, rfl⟩⟩))
       go_roundg kj9
       case measure => have := HJ1.out; have := HK2.out; have := HJ9.out; omega
       case rel => exact ⟨(wrap64 (x4_2 + 1)), zQx5a2_, H', ⟨by have := HJ1.out; have := HK2.out; have := HJ9.out; omega⟩, ⟨zQx5a3_⟩, ⟨zQx5a0_⟩⟩
-- NOT PRINTED: function 9 (subs_New)
-- NOT PRINTED: function 10 (subs_Index_Add)
-- NOT PRINTED: function 11 (subs_Index_Of)
-- NOT PRINTED: function 12 (subs_Index_Drop)
-- NOT PRINTED: function 13 (basculelaw13_awake)
def basculeref13_Subs.l0 : Nat → List (S33) → List (S33) → Int → Option (Bool)
 | 0, _, _, _ => none
 | k + 1, x0, x1, x5 => if x5 < (x0.length : Int) then (if 0 ≤ x5 then (if x5 < (x1.length : Int) then (if (!((((rd_T33 x0 x5).f0).toList) == (((rd_T33 x1 x5).f0).toList)) || (!(((rd_T33 x0 x5).f1) == ((rd_T33 x1 x5).f1)))) = true then (some false) else (basculeref13_Subs.l0 k x0 x1 (wrap64 (x5 + 1)))) else (none)) else (none)) else (some true)
def basculeref13_Subs.f (k : Nat) (l0 : List (S33)) (l1 : List (S33)) : Option (Bool) := if (l0.length : Int) = (l1.length : Int) then (basculeref13_Subs.l0 k l0 l1 0) else (some false)
set_option maxHeartbeats 8000000 in
set_option maxRecDepth 100000 in
theorem basculeref13_Subs.calls (k : Nat) (A0 : Option Addr) (c0 : Nat) (l0 : List (S33)) (A1 : Option Addr) (c1 : Nat) (l1 : List (S33)) (r : Bool) (w : World) (hr0 : Kd.C k33 w A0 l0.length l0) (hc0 : l0.length ≤ c0) (hr1 : Kd.C k33 w A1 l1.length l1) (hc1 : l1.length ≤ c1) (h : basculeref13_Subs.f k l0 l1 = some r) :
  Calls Tryd.prog 14 #[.slice A0 l0.length c0, .slice A1 l1.length c1] w fun e w' => e = .returned (.bool r) ∧ Drawn0 w w' := by
 have hu33 := Tryd.underlying33
 have HR0 := Aside0.mk hr0
 have HC0 := Aside0.mk hc0
 clear hr0 hc0
 have HR1 := Aside0.mk hr1
 have HC1 := Aside0.mk hc1
 clear hr1 hc1
 have H : (if (l0.length : Int) = (l1.length : Int) then (basculeref13_Subs.l0 k l0 l1 0) else (some false)) = some r := h
 clear h
 by_cases c3 : (l0.length : Int) = (l1.length : Int)
 rotate_left
 ·
  rw [if_neg c3] at H
  have c3b0 : ((l0.length : Int) == (l1.length : Int)) = false := beq_eq_false_iff_ne.mpr c3
  have c3b1 : ((l0.length : Int) != (l1.length : Int)) = true := bne_iff_ne.mpr c3
  have c3b2 : (l0.length == l1.length) = false := by first | simpa using c3 | (simp at c3 ⊢; omega)
  obtain rfl := Option.some.inj H
  go_enter Tryd.func14, Tryd.ntmps14
  go_wp2
  repeat (go_quiet (fail); try go_wp2)
  go_ret
  exact ⟨zQx5a2_, zQx5a5_⟩
 rw [if_pos c3] at H
 have c3b0 : ((l0.length : Int) == (l1.length : Int)) = true := beq_iff_eq.mpr c3
 have c3b1 : ((l0.length : Int) != (l1.length : Int)) = false := bne_eq_false_iff_eq.mpr c3
 have c3b2 : (l0.length == l1.length) = true := by first | simpa using c3 | (simp at c3 ⊢; omega)
 clear c3
 have H' := Aside0.mk H
 clear H
 go_enter Tryd.func14, Tryd.ntmps14
 go_wp2
 repeat (go_quiet (fail); try go_wp2)
 go_loopg [5] k (fun kq v5 w' => ∃ (x5_1 : Int), v5 = .int .i64 x5_1 ∧ Aside0 (basculeref13_Subs.l0 kq l0 l1 x5_1 = some r) ∧ Aside0 (kq ≤ k) ∧ Drawn0 w w')
 case atStart => exact ⟨(0), zQx5a2_, H', ⟨Nat.le_refl _⟩, zQx5a5_⟩
 case round =>
  clear H'
  try clear c1
  try clear p2
  try clear c3
  try clear c3b0
  try clear c3b1
  try clear c3b2
  obtain ⟨x5_1, rfl, HA, HK1, ⟨m1, rfl⟩⟩ := hrel
  cases gk with
  | zero => exact absurd HA.out (by simp [basculeref13_Subs.l0])
  | succ k1 =>
   have H := HA.out
   clear HA
   simp only [basculeref13_Subs.l0] at H
   by_cases c4 : x5_1 < (l0.length : Int)
   rotate_left
   ·
    rw [if_neg c4] at H
    have c4b0 : decide (x5_1 < (l0.length : Int)) = false := decide_eq_false c4
    clear c4
    obtain rfl := Option.some.inj H
    go_wp2
    repeat (go_quiet (fail); try go_wp2)
    go_ret
    exact ⟨zQx5a2_, zQx5a5_⟩
   rw [if_pos c4] at H
   have c4b0 : decide (x5_1 < (l0.length : Int)) = true := decide_eq_true c4
   clear c4
   have c5 : 0 ≤ x5_1 := znQx5_
   rw [if_pos c5] at H
   have c5b0 : decide (0 ≤ x5_1) = true := decide_eq_true c5
   clear c5
   have c6 : x5_1 < (l1.length : Int) := znQx5_
   rw [if_pos c6] at H
   have c6b0 : decide (x5_1 < (l1.length : Int)) = true := decide_eq_true c6
   clear c6
   by_cases c7 : (!((((rd_T33 l0 x5_1).f0).toList) == (((rd_T33 l1 x5_1).f0).toList)) || (!(((rd_T33 l0 x5_1).f1) == ((rd_T33 l1 x5_1).f1)))) = true
   ·
    rw [if_pos c7] at H
    have c7b0 : (!((((rd_T33 l0 x5_1).f0).toList) == (((rd_T33 l1 x5_1).f0).toList)) || (!(((rd_T33 l0 x5_1).f1) == ((rd_T33 l1 x5_1).f1)))) = true := c7
    clear c7
    obtain rfl := Option.some.inj H
    have p142 : 0 ≤ (x5_1 : Int) := of_decide_eq_true zQx5a1_
    have q142 : x5_1 < (l0.length : Int) := of_decide_eq_true zQx5a1_
    obtain ⟨ad142, e142, hx142_0, hx142_1⟩ := at_T33 HR0.out x5_1 p142 q142
    cases e142
    replace p142 := eq_true p142
    replace q142 := eq_true q142
    have p143 : 0 ≤ (x5_1 : Int) := of_decide_eq_true zQx5a1_
    have q143 : x5_1 < (l1.length : Int) := of_decide_eq_true zQx5a1_
    obtain ⟨ad143, e143, hx143_0, hx143_1⟩ := at_T33 HR1.out x5_1 p143 q143
    cases e143
    replace p143 := eq_true p143
    replace q143 := eq_true q143
    go_wp2
    repeat (go_quiet (fail); try go_wp2)
    go_ret
    exact ⟨zQx5a2_, zQx5a5_⟩
   rw [if_neg c7] at H
   have c7b0 : (!((((rd_T33 l0 x5_1).f0).toList) == (((rd_T33 l1 x5_1).f0).toList)) || (!(((rd_T33 l0 x5_1).f1) == ((rd_T33 l1 x5_1).f1)))) = false := by simpa using c7
   clear c7
   have H' := Aside0.mk H
   clear H
   have p142 : 0 ≤ (x5_1 : Int) := of_decide_eq_true zQx5a1_
   have q142 : x5_1 < (l0.length : Int) := of_decide_eq_true zQx5a1_
   obtain ⟨ad142, e142, hx142_0, hx142_1⟩ := at_T33 HR0.out x5_1 p142 q142
   cases e142
   replace p142 := eq_true p142
   replace q142 := eq_true q142
   have p143 : 0 ≤ (x5_1 : Int) := of_decide_eq_true zQx5a1_
   have q143 : x5_1 < (l1.length : Int) := of_decide_eq_true zQx5a1_
   obtain ⟨ad143, e143, hx143_0, hx143_1⟩ := at_T33 HR1.out x5_1 p143 q143
   cases e143
   replace p143 := eq_true p143
   replace q143 := eq_true q143
   go_wp2
   repeat (go_quiet (fail); try go_wp2)
   go_roundg k1
   case measure => have := HK1.out; omega
   case rel => exact ⟨(wrap64 (x5_1 + 1)), zQx5a2_, H', ⟨zQx5a8_⟩, zQx5a5_⟩
-- NOT PRINTED: function 3 (basculelaw13_SubsAgain)
end Go.Proofs.YtjibcekillcgjaaDoor.Q
