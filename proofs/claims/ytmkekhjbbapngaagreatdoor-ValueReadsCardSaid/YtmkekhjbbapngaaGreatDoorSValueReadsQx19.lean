/- Qx19 -/
import Derived.Test.YtmkekhjbbapngaaGreatDoorSValueReadsQx0
set_option maxRecDepth 100000
set_option maxHeartbeats 8000000
namespace Go.Proofs.YtmkekhjbbapngaaGreatDoor.Q
open Go.RowKit YtmkekhjbbapngaaGreatDoorW.PrintWords YtmkekhjbbapngaaGreatDoorW.PrintLast YtmkekhjbbapngaaGreatDoorW.PrintMore
attribute [local go_sem] max2_int min2_int max_two min_two
set_option linter.all false
theorem zQx19a0_ {P_ : Prop} (h_ : P_ := by repeat (first | (with_reducible first | exact HB.out | apply below_alloc | apply pw_below_drewN | apply below_drew1) | exact HB.out)) : P_ := h_
theorem zQx19a1_ {P_ : Prop} (h_ : P_ := by first | rfl | (simp; done) | (simp [*]; done)) : P_ := h_
theorem zQx19a2_ {P_ : Prop} (h_ : P_ := by (with_reducible repeat (first | apply Kd.R_alloc | apply Kd.R_drewN | apply Kd.R_drew)); exact HO_7.out) : P_ := h_
theorem zQx19a3_ {P_ : Prop} (h_ : P_ := by repeat (first | (with_reducible first | exact HK.out | apply Kept.alloc | apply Kept.drewN | apply Kept.drew) | exact HK.out)) : P_ := h_
theorem zQx19a4_ {P_ : Prop} (h_ : P_ := by first | (with_reducible assumption) | assumption) : P_ := h_
theorem zQx19a5_ {P_ : Prop} (h_ : P_ := by repeat (first | exact Drawn0.refl _ | apply Drawn0.step)) : P_ := h_
theorem zQx19a6_ {P_ : Prop} (h_ : P_ := by first | rfl | (simp [errW_none, errW_some] <;> rfl) | (simp [*, errW_none, errW_some] <;> rfl)) : P_ := h_
theorem znQx19_ {X_ : Prop} [Decidable X_] (h_ : ¬ X_ → False := by intro c_; rw [if_neg c_] at H; exact absurd H (by simp)) : X_ := Decidable.byContradiction h_
def basculeref22_trim.l0 : Nat → List Int → Int → Option (List Int)
 | 0, _, _ => none
 | k + 1, x0, x3 => if x3 > 0 then (if 0 ≤ (wrap64 (x3 - 1)) then (if (wrap64 (x3 - 1)) < (x0.length : Int) then (if (rd x0 (wrap64 (x3 - 1))) = 0 then (basculeref22_trim.l0 k x0 (wrap64 (x3 - 1))) else (if 0 ≤ x3 then (if x3 ≤ (x0.length : Int) then (some (x0.take (x3 : Int).toNat)) else (none)) else (none))) else (none)) else (none)) else (if 0 ≤ x3 then (if x3 ≤ (x0.length : Int) then (some (x0.take (x3 : Int).toNat)) else (none)) else (none))
def basculeref22_trim.f (k : Nat) (l0 : List Int) : Option (List Int) := basculeref22_trim.l0 k l0 (l0.length : Int)
theorem basculeref22_trim.mono_l : ∀ k, (∀ y0 y1, LeO (basculeref22_trim.l0 k y0 y1) (basculeref22_trim.l0 (k + 1) y0 y1))
 | 0 => fun _ _ r h => by simp [basculeref22_trim.l0] at h
 | k + 1 => by
  have ih0 := basculeref22_trim.mono_l k
  ·
   intro y0 y1
   unfold basculeref22_trim.l0
   repeat' first
   | (with_reducible first | exact ih0 _ _ | exact LeO.refl _ | exact LeO.none _ | refine LeO.ite ?_ ?_ | refine LeO.bind ?_ (fun _ => ?_))
theorem basculeref22_trim.mono : ∀ a0 k, LeO (basculeref22_trim.f k a0) (basculeref22_trim.f (k + 1) a0) := by
 intro a0 k
 have ih0 := basculeref22_trim.mono_l k
 unfold basculeref22_trim.f
 repeat' first
   | (with_reducible first | exact ih0 _ _ | exact LeO.refl _ | exact LeO.none _ | refine LeO.ite ?_ ?_ | refine LeO.bind ?_ (fun _ => ?_))
theorem basculeref22_trim.calls (k : Nat) (P0_ : Nat → Prop) (u9000_ : Value) (l0 : List Int) (r : List Int) (w0 w : World) (hB : Below w0.heap.size w0 w) (ho0 : Kd.R (Kd.int .i64) 3 w w0.heap.size P0_ u9000_ l0) (h : basculeref22_trim.f k l0 = some r) :
  Calls Tryz.prog 40 #[u9000_] w fun e w' => ∃ v0_ : Value, e = .returned (v0_) ∧ Kd.R (Kd.int .i64) 3 w' w0.heap.size (fun k_ => (P0_ k_ ∨ w.heap.size ≤ k_)) v0_ r ∧ Below w0.heap.size w0 w' ∧ Kept w w' (fun k_ => P0_ k_) := by
 have HO0 := Aside0.mk (show Kd.R (Kd.int .i64) 3 w w0.heap.size (fun k_ => (P0_ k_ ∨ w.heap.size ≤ k_)) u9000_ l0 from Kd.R_mono ho0 (fun k_ hk => (.inl hk)))
 have HK := Aside0.mk (Kept.refl w (fun k_ => P0_ k_))
 have HW0 := Aside0.mk hB.size
 have HB := Aside0.mk hB
 clear hB
 have H : (basculeref22_trim.l0 k l0 (l0.length : Int)) = some r := h
 clear h
 have H' := Aside0.mk H
 clear H
 obtain ⟨Ao2, co2, eo2⟩ := Kd.R_slice HO0.out
 subst eo2
 go_enter Tryz.func40, Tryz.ntmps40
 go_wp2
 go_loopg [3] k (fun kq v3 w' => ∃ (x3_1 : Int), v3 = .int .i64 x3_1 ∧ Aside0 (basculeref22_trim.l0 kq l0 x3_1 = some r) ∧ Aside0 (kq ≤ k) ∧ Aside0 (Kd.R (Kd.int .i64) 3 w' w0.heap.size (fun k_ => (P0_ k_ ∨ w.heap.size ≤ k_)) (.slice Ao2 l0.length co2) l0) ∧ Aside0 (Kept w w' (fun k_ => P0_ k_)) ∧ Aside0 (Below w0.heap.size w0 w'))
 case atStart => exact ⟨((l0.length : Int)), zQx19a1_, H', ⟨Nat.le_refl _⟩, ⟨by (with_reducible repeat (first | apply Kd.R_alloc | apply Kd.R_drewN | apply Kd.R_drew)); exact HO0.out⟩, ⟨zQx19a3_⟩, ⟨zQx19a0_⟩⟩
 case round =>
  clear H'
  try clear p2
  obtain ⟨x3_1, rfl, HA, HK1, HO_0, HK, HB⟩ := hrel
  cases gk with
  | zero => exact absurd HA.out (by simp [basculeref22_trim.l0])
  | succ k1 =>
   have H := HA.out
   clear HA
   simp only [basculeref22_trim.l0] at H
   by_cases c3 : x3_1 > 0
   rotate_left
   ·
    rw [if_neg c3] at H
    have c3b0 : decide (0 < x3_1) = false := decide_eq_false c3
    clear c3
    have c11 : 0 ≤ x3_1 := znQx19_
    rw [if_pos c11] at H
    have c11b0 := eq_true c11
    have c11b1 : decide (0 ≤ x3_1) = true := decide_eq_true c11
    clear c11
    have c12 : x3_1 ≤ (l0.length : Int) := znQx19_
    rw [if_pos c12] at H
    have c12b0 := eq_true c12
    have c12b1 : decide (x3_1 ≤ (l0.length : Int)) = true := decide_eq_true c12
    clear c12
    obtain ⟨y292, hy292⟩ : ∃ y_ : List Int, y_ = (l0.take (x3_1 : Int).toNat) := ⟨_, rfl⟩
    replace H : (some y292) = some r := by first | (rw [hy292]; with_reducible exact H) | (have H2_ := (Option.bind_some _ _).symm.trans H; rw [hy292]; with_reducible exact H2_) | (have H2_ := (Option.bind_some _ _).symm.trans H; with_reducible exact H2_) | with_reducible exact H | (rw [hy292]; exact H) | exact H
    have Ny292 := Aside0.mk hy292
    clear hy292
    obtain rfl := Option.some.inj H
    have q13 : (x3_1 : Int) ≤ ((l0.length : Int) : Int) := of_decide_eq_true zQx19a4_
    obtain ⟨i013, hi013, _, hsz13, _⟩ := info_parts info3
    have hcut13 := cut_to (P := Tryz.prog) 24 3 .i64 Tryz.underlying24 hi013 Ao2 l0.length co2 x3_1 (of_decide_eq_true zQx19a4_) q13 (Kd.R_reads' HO_0.out).2.1
    have hr13 := Kd.R_take (m := (x3_1 : Int).toNat) HO_0.out (by omega)
    have hy13 : y292.length = (x3_1 : Int).toNat := (by rw [Ny292.out, List.length_take]; omega)
    rw [← Ny292.out] at hr13
    rw [← hy13] at hr13 hcut13
    clear hy13 hi013 hsz13 HO_0
    have HO294 := Aside0.mk hr13
    clear hr13
    replace q13 := eq_true q13
    go_wp2
    go_ret
    exact ⟨_, zQx19a6_, by (with_reducible repeat (first | apply Kd.R_alloc | apply Kd.R_drewN | apply Kd.R_drew)); exact HO294.out, zQx19a0_, zQx19a3_⟩
   rw [if_pos c3] at H
   have c3b0 : decide (0 < x3_1) = true := decide_eq_true c3
   clear c3
   obtain ⟨ji4, hji4⟩ : ∃ j_ : Int, (wrap64 (x3_1 - 1)) = j_ := ⟨_, rfl⟩
   replace H : (if 0 ≤ (ji4) then (if (ji4) < (l0.length : Int) then (if (rd l0 (ji4)) = 0 then (basculeref22_trim.l0 k1 l0 ji4) else (if 0 ≤ x3_1 then (if x3_1 ≤ (l0.length : Int) then (some (l0.take (x3_1 : Int).toNat)) else (none)) else (none))) else (none)) else (none)) = some r := by first | (rw [hji4] at H; exact H) | (simp only [hji4] at H ⊢; exact H)
   have hji4w : (IntKind.i64.wrap (x3_1 - 1)) = ji4 := (i64_w _).trans hji4
   have c5 : 0 ≤ (ji4) := znQx19_
   rw [if_pos c5] at H
   have c5b0 : decide (0 ≤ (ji4)) = true := decide_eq_true c5
   clear c5
   have c6 : (ji4) < (l0.length : Int) := znQx19_
   rw [if_pos c6] at H
   have c6b0 : decide ((ji4) < (l0.length : Int)) = true := decide_eq_true c6
   clear c6
   by_cases c7 : (rd l0 (ji4)) = 0
   ·
    rw [if_pos c7] at H
    have c7b0 : ((rd l0 (ji4)) == 0) = true := beq_iff_eq.mpr c7
    have c7b1 : ((rd l0 (ji4)) != 0) = false := bne_eq_false_iff_eq.mpr c7
    clear c7
    have H' := Aside0.mk H
    clear H
    have p288 : 0 ≤ ((ji4) : Int) := of_decide_eq_true zQx19a4_
    have q288 : (ji4) < (l0.length : Int) := of_decide_eq_true zQx19a4_
    obtain ⟨ad288, e288, hx288_0⟩ := Kd.at_int (Kd.R_reads' HO_0.out).2.2 (ji4) p288 q288
    cases e288
    replace p288 := eq_true p288
    replace q288 := eq_true q288
    go_wp2
    go_roundg k1
    case measure => have := HK1.out; omega
    case rel => exact ⟨(ji4), (by first | rfl | (simp; done) | (simp only [← hji4] <;> (first | rfl | simp)) | (simp [*]; done)), H', ⟨by have := HK1.out; omega⟩, ⟨by (with_reducible repeat (first | apply Kd.R_alloc | apply Kd.R_drewN | apply Kd.R_drew)); exact HO_0.out⟩, ⟨zQx19a3_⟩, ⟨zQx19a0_⟩⟩
   rw [if_neg c7] at H
   have c7b0 : ((rd l0 (ji4)) == 0) = false := beq_eq_false_iff_ne.mpr c7
   have c7b1 : ((rd l0 (ji4)) != 0) = true := bne_iff_ne.mpr c7
   have c8 : 0 ≤ x3_1 := znQx19_
   rw [if_pos c8] at H
   have c8b0 := eq_true c8
   have c8b1 : decide (0 ≤ x3_1) = true := decide_eq_true c8
   clear c8
   have c9 : x3_1 ≤ (l0.length : Int) := znQx19_
   rw [if_pos c9] at H
   have c9b0 := eq_true c9
   have c9b1 : decide (x3_1 ≤ (l0.length : Int)) = true := decide_eq_true c9
   clear c9
   obtain ⟨y289, hy289⟩ : ∃ y_ : List Int, y_ = (l0.take (x3_1 : Int).toNat) := ⟨_, rfl⟩
   replace H : (some y289) = some r := by first | (rw [hy289]; with_reducible exact H) | (have H2_ := (Option.bind_some _ _).symm.trans H; rw [hy289]; with_reducible exact H2_) | (have H2_ := (Option.bind_some _ _).symm.trans H; with_reducible exact H2_) | with_reducible exact H | (rw [hy289]; exact H) | exact H
   have Ny289 := Aside0.mk hy289
   clear hy289
   obtain rfl := Option.some.inj H
   have p288 : 0 ≤ ((ji4) : Int) := of_decide_eq_true zQx19a4_
   have q288 : (ji4) < (l0.length : Int) := of_decide_eq_true zQx19a4_
   obtain ⟨ad288, e288, hx288_0⟩ := Kd.at_int (Kd.R_reads' HO_0.out).2.2 (ji4) p288 q288
   cases e288
   replace p288 := eq_true p288
   replace q288 := eq_true q288
   have q10 : (x3_1 : Int) ≤ ((l0.length : Int) : Int) := of_decide_eq_true zQx19a4_
   obtain ⟨i010, hi010, _, hsz10, _⟩ := info_parts info3
   have hcut10 := cut_to (P := Tryz.prog) 24 3 .i64 Tryz.underlying24 hi010 (some ad288) l0.length co2 x3_1 (of_decide_eq_true zQx19a4_) q10 (Kd.R_reads' HO_0.out).2.1
   have hr10 := Kd.R_take (m := (x3_1 : Int).toNat) HO_0.out (by omega)
   have hy10 : y289.length = (x3_1 : Int).toNat := (by rw [Ny289.out, List.length_take]; omega)
   rw [← Ny289.out] at hr10
   rw [← hy10] at hr10 hcut10
   clear hy10 hi010 hsz10 HO_0
   have HO291 := Aside0.mk hr10
   clear hr10
   replace q10 := eq_true q10
   go_wp2
   go_ret
   exact ⟨_, by first | rfl | (simp [errW_none, errW_some] <;> rfl) | (simp only [← hji4]; first | rfl | (simp [errW_none, errW_some] <;> rfl)) | (simp [*, errW_none, errW_some] <;> rfl), by (with_reducible repeat (first | apply Kd.R_alloc | apply Kd.R_drewN | apply Kd.R_drew)); exact HO291.out, zQx19a0_, zQx19a3_⟩
mutual
def basculeref22_times.l0 : Nat → List Int → Int → List Int → Int → Int → Option (List Int)
 | 0, _, _, _, _, _ => none
 | k + 1, x0, x1, x7, x8, x9 => if x9 < (x0.length : Int) then (basculeref22_times.j1 k x0 x1 x7 x8 x9 true) else (basculeref22_times.j1 k x0 x1 x7 x8 x9 (decide (x8 > 0)))
def basculeref22_times.j1 : Nat → List Int → Int → List Int → Int → Int → Bool → Option (List Int)
 | 0, _, _, _, _, _, _ => none
 | k + 1, x0, x1, x7, x8, x9, x18 => if x18 = true then (if x9 < (x0.length : Int) then (if 0 ≤ x9 then (if x7.length < 17592186044416 then (basculeref22_times.l0 k x0 x1 (x7 ++ [Int.tmod (wrap64 (x8 + (wrap64 (x1 * (rd x0 x9))))) 10]) (wrap64 (Int.tdiv (wrap64 (x8 + (wrap64 (x1 * (rd x0 x9))))) 10)) (wrap64 (x9 + 1))) else (none)) else (none)) else (if x7.length < 17592186044416 then (basculeref22_times.l0 k x0 x1 (x7 ++ [Int.tmod x8 10]) (wrap64 (Int.tdiv x8 10)) (wrap64 (x9 + 1))) else (none))) else (some x7)
end
def basculeref22_times.f (k : Nat) (l0 : List Int) (a1 : Int) (a2 : Int) : Option (List Int) := basculeref22_times.l0 k l0 a1 ([] : List Int) a2 0
theorem basculeref22_times.mono_l : ∀ k, (∀ y0 y1 y2 y3 y4, LeO (basculeref22_times.l0 k y0 y1 y2 y3 y4) (basculeref22_times.l0 (k + 1) y0 y1 y2 y3 y4)) ∧ (∀ y0 y1 y2 y3 y4 y5, LeO (basculeref22_times.j1 k y0 y1 y2 y3 y4 y5) (basculeref22_times.j1 (k + 1) y0 y1 y2 y3 y4 y5))
 | 0 => ⟨fun _ _ _ _ _ r h => by simp [basculeref22_times.l0] at h, fun _ _ _ _ _ _ r h => by simp [basculeref22_times.j1] at h⟩
 | k + 1 => by
  obtain ⟨ih0, ih1⟩ := basculeref22_times.mono_l k
  refine ⟨?_, ?_⟩
  ·
   intro y0 y1 y2 y3 y4
   unfold basculeref22_times.l0
   repeat' first
   | (with_reducible first | exact ih0 _ _ _ _ _ | exact ih1 _ _ _ _ _ _ | exact LeO.refl _ | exact LeO.none _ | refine LeO.ite ?_ ?_ | refine LeO.bind ?_ (fun _ => ?_))
  ·
   intro y0 y1 y2 y3 y4 y5
   unfold basculeref22_times.j1
   repeat' first
   | (with_reducible first | exact ih0 _ _ _ _ _ | exact ih1 _ _ _ _ _ _ | exact LeO.refl _ | exact LeO.none _ | refine LeO.ite ?_ ?_ | refine LeO.bind ?_ (fun _ => ?_))
theorem basculeref22_times.mono : ∀ a0 a1 a2 k, LeO (basculeref22_times.f k a0 a1 a2) (basculeref22_times.f (k + 1) a0 a1 a2) := by
 intro a0 a1 a2 k
 obtain ⟨ih0, ih1⟩ := basculeref22_times.mono_l k
 unfold basculeref22_times.f
 repeat' first
   | (with_reducible first | exact ih0 _ _ _ _ _ | exact ih1 _ _ _ _ _ _ | exact LeO.refl _ | exact LeO.none _ | refine LeO.ite ?_ ?_ | refine LeO.bind ?_ (fun _ => ?_))
theorem basculeref22_times.calls (k : Nat) (A0 : Option Addr) (c0 : Nat) (l0 : List Int) (a1 : Int) (a2 : Int) (r : List Int) (w : World) (hr0 : Kd.C (Kd.int .i64) w A0 l0.length l0) (hc0 : l0.length ≤ c0) (h : basculeref22_times.f k l0 a1 a2 = some r) :
  Calls Tryz.prog 45 #[.slice A0 l0.length c0, .int .i64 a1, .int .i64 a2] w fun e w' => ∃ v0_ : Value, e = .returned (v0_) ∧ Kd.R (Kd.int .i64) 3 w' w.heap.size (fun _ => True) v0_ r ∧ Below w.heap.size w w' := by
 have HR0 := Aside0.mk hr0
 have HC0 := Aside0.mk hc0
 clear hr0 hc0
 have HB := Aside0.mk (Below.refl w.heap.size w)
 have H : (basculeref22_times.l0 k l0 a1 ([] : List Int) a2 0) = some r := h
 clear h
 have H' := Aside0.mk H
 clear H
 go_enter Tryz.func45, Tryz.ntmps45
 go_wp2
 go_loopg [7, 8, 9] k (fun kq v7 v8 v9 w' => ∃ (x7_1 : List Int) (x8_1 : Int) (x9_1 : Int), v8 = .int .i64 x8_1 ∧ v9 = .int .i64 x9_1 ∧ Aside0 (basculeref22_times.l0 kq l0 a1 x7_1 x8_1 x9_1 = some r) ∧ Aside0 (kq ≤ k) ∧ Aside0 (Kd.R (Kd.int .i64) 3 w' w.heap.size (fun _ => True) v7 x7_1) ∧ Aside0 (Below w.heap.size w w'))
 case atStart => exact ⟨(([] : List Int)), (a2), (0), zQx19a1_, zQx19a1_, H', ⟨Nat.le_refl _⟩, ⟨by first | exact Kd.R_nil _ _ _ _ _ | exact Kd.N_nil _ _ _ _ _ | exact Kd.V_nil _ _ _ _ _ | exact Kd.Q_nil _ _ _ _ _ | exact Kd.S_nil _ _ _ _ _⟩, ⟨zQx19a0_⟩⟩
 case round =>
  clear H'
  try clear p2
  obtain ⟨x7_1, x8_1, x9_1, rfl, rfl, HA, HK1, HO_7, HB⟩ := hrel
  cases gk with
  | zero => exact absurd HA.out (by simp [basculeref22_times.l0])
  | succ k1 =>
   have H := HA.out
   clear HA
   simp only [basculeref22_times.l0] at H
   have HC4 := Aside0.mk H
   clear H
   go_upto_region 4 with (fail)
   go_cut [18] (fun v18 wc => ∃ (kq : Nat) (x18_3 : Bool), v18 = .bool x18_3 ∧ Aside0 (basculeref22_times.j1 kq l0 a1 x7_1 x8_1 x9_1 x18_3 = some r) ∧ Aside0 (kq ≤ k1) ∧ Aside0 (Kd.R (Kd.int .i64) 3 wc w.heap.size (fun _ => True) u7 x7_1) ∧ Aside0 (Below w.heap.size w wc))
   case first =>
    have H := HC4.out
    clear HC4
    by_cases c5 : x9_1 < (l0.length : Int)
    ·
     rw [if_pos c5] at H
     have c5b0 : decide (x9_1 < (l0.length : Int)) = true := decide_eq_true c5
     clear c5
     (first | rw [c5b0] | (simp only [i64_w, i32_w]; rw [c5b0]) | skip)
     have H' := Aside0.mk H
     clear H
     go_wp2
     go_meet
     case rel => exact ⟨_, (true), zQx19a1_, H', ⟨by have := HK1.out; first | omega | exact Nat.le_refl _⟩, ⟨zQx19a2_⟩, ⟨zQx19a0_⟩⟩
    rw [if_neg c5] at H
    have c5b0 : decide (x9_1 < (l0.length : Int)) = false := decide_eq_false c5
    clear c5
    (first | rw [c5b0] | (simp only [i64_w, i32_w]; rw [c5b0]) | skip)
    have H' := Aside0.mk H
    clear H
    go_wp2
    go_meet
    case rel => exact ⟨_, (decide (x8_1 > 0)), zQx19a1_, H', ⟨by have := HK1.out; first | omega | exact Nat.le_refl _⟩, ⟨zQx19a2_⟩, ⟨zQx19a0_⟩⟩
   case rest =>
    clear HC4
    try clear p2
    try clear c4
    try clear c5
    try clear c5b0
    try clear p2
    obtain ⟨kq, x18_3, rfl, HA, HJ3, HO_7, HB⟩ := hcut
    cases kq with
    | zero => exact absurd HA.out (by simp [basculeref22_times.j1])
    | succ kj3 =>
     have H := HA.out
     clear HA
     simp only [basculeref22_times.j1] at H
     by_cases c6 : x18_3 = true
     rotate_left
     ·
      replace c6 := Bool.eq_false_iff.mpr c6
      subst c6
      have H1 : (some x7_1) = some r := by rw [if_neg (show ¬ (false = true) by decide)] at H; exact H
      clear H
      have H := H1
      clear H1
      obtain rfl := Option.some.inj H
      go_wp2
      go_ret
      exact ⟨_, zQx19a6_, zQx19a2_, zQx19a0_⟩
     subst c6
     have H1 : (if x9_1 < (l0.length : Int) then (if 0 ≤ x9_1 then (if x7_1.length < 17592186044416 then (basculeref22_times.l0 kj3 l0 a1 (x7_1 ++ [Int.tmod (wrap64 (x8_1 + (wrap64 (a1 * (rd l0 x9_1))))) 10]) (wrap64 (Int.tdiv (wrap64 (x8_1 + (wrap64 (a1 * (rd l0 x9_1))))) 10)) (wrap64 (x9_1 + 1))) else (none)) else (none)) else (if x7_1.length < 17592186044416 then (basculeref22_times.l0 kj3 l0 a1 (x7_1 ++ [Int.tmod x8_1 10]) (wrap64 (Int.tdiv x8_1 10)) (wrap64 (x9_1 + 1))) else (none))) = some r := by rw [if_pos rfl] at H; exact H
     clear H
     have H := H1
     clear H1
     by_cases c7 : x9_1 < (l0.length : Int)
     rotate_left
     ·
      rw [if_neg c7] at H
      have c7b0 : decide (x9_1 < (l0.length : Int)) = false := decide_eq_false c7
      clear c7
      have c11 : x7_1.length < 17592186044416 := znQx19_
      rw [if_pos c11] at H
      have LMc11 := Aside0.mk c11
      clear c11
      obtain ⟨y299, hy299⟩ : ∃ y_ : List Int, y_ = (x7_1 ++ [Int.tmod x8_1 10]) := ⟨_, rfl⟩
      replace H : (basculeref22_times.l0 kj3 l0 a1 y299 (wrap64 (Int.tdiv x8_1 10)) (wrap64 (x9_1 + 1))) = some r := by first | (rw [hy299]; with_reducible exact H) | (have H2_ := (Option.bind_some _ _).symm.trans H; rw [hy299]; with_reducible exact H2_) | (have H2_ := (Option.bind_some _ _).symm.trans H; with_reducible exact H2_) | with_reducible exact H | (rw [hy299]; exact H) | exact H
      have Ny299 := Aside0.mk hy299
      clear hy299
      have H' := Aside0.mk H
      clear H
      go_wp2_with (first | ((with_reducible refine gate_builtin (b := .append) (xs := #[.tmp 33, .tmp 36]) rfl ?_); at_builtin; refine Kd.R_append (Kd.int .i64) (w0 := w) w.heap.size rfl (.tmp 33) (.tmp 36) 24 3 (.int .i64 0) 8 rfl Tryz.underlying24 info3 rfl (by decide) (by omega) u7 x7_1 (Int.tmod x8_1 10) [.int .i64 (Int.tmod x8_1 10)] (fun _ => True) (fun _ => False) rfl rfl ?aP (fun _ hk => hk.elim) ?aF ?aO ?aB ?aS ?aL ?_; (case aP => exact rfl); (case aB => exact zQx19a0_); (case aF => exact (fun _ _ => trivial)); (case aO => exact zQx19a2_); (case aS => exact (below_size zQx19a0_)); (case aL => have := LMc11.out; omega); intro v300 w12 ho hb hg hat; rw [← Ny299.out] at ho; have n0_ := Aside0.mk (hb); have n1_ := Aside0.mk (ho); clear HB; clear HO_7; have HB := n0_; have HO301 := n1_; clear n0_ n1_; clear ho hb hg hat))
      go_roundg kj3
      case measure => have := HK1.out; have := HJ3.out; omega
      case rel => exact ⟨(y299), (wrap64 (Int.tdiv x8_1 10)), (wrap64 (x9_1 + 1)), zQx19a1_, zQx19a1_, H', ⟨by have := HK1.out; have := HJ3.out; omega⟩, ⟨by (with_reducible repeat (first | apply Kd.R_alloc | apply Kd.R_drewN | apply Kd.R_drew)); exact HO301.out⟩, ⟨zQx19a0_⟩⟩
     rw [if_pos c7] at H
     have c7b0 : decide (x9_1 < (l0.length : Int)) = true := decide_eq_true c7
     clear c7
     have c8 : 0 ≤ x9_1 := znQx19_
     rw [if_pos c8] at H
     have c8b0 : decide (0 ≤ x9_1) = true := decide_eq_true c8
     clear c8
     have c9 : x7_1.length < 17592186044416 := znQx19_
     rw [if_pos c9] at H
     have LMc9 := Aside0.mk c9
     clear c9
     obtain ⟨y296, hy296⟩ : ∃ y_ : List Int, y_ = (x7_1 ++ [Int.tmod (wrap64 (x8_1 + (wrap64 (a1 * (rd l0 x9_1))))) 10]) := ⟨_, rfl⟩
     replace H : (basculeref22_times.l0 kj3 l0 a1 y296 (wrap64 (Int.tdiv (wrap64 (x8_1 + (wrap64 (a1 * (rd l0 x9_1))))) 10)) (wrap64 (x9_1 + 1))) = some r := by first | (rw [hy296]; with_reducible exact H) | (have H2_ := (Option.bind_some _ _).symm.trans H; rw [hy296]; with_reducible exact H2_) | (have H2_ := (Option.bind_some _ _).symm.trans H; with_reducible exact H2_) | with_reducible exact H | (rw [hy296]; exact H) | exact H
     have Ny296 := Aside0.mk hy296
     clear hy296
     have H' := Aside0.mk H
     clear H
     have p295 : 0 ≤ (x9_1 : Int) := of_decide_eq_true zQx19a4_
     have q295 : x9_1 < (l0.length : Int) := of_decide_eq_true zQx19a4_
     obtain ⟨ad295, e295, hx295_0⟩ := Kd.at_int HR0.out x9_1 p295 q295
     cases e295
     replace hx295_0 := (HB.out.cell (World.block_lt_of_cell? w _ hx295_0)).trans hx295_0
     replace p295 := eq_true p295
     replace q295 := eq_true q295
     go_wp2_with (first | ((with_reducible refine gate_builtin (b := .append) (xs := #[.tmp 33, .tmp 36]) rfl ?_); at_builtin; refine Kd.R_append (Kd.int .i64) (w0 := w) w.heap.size rfl (.tmp 33) (.tmp 36) 24 3 (.int .i64 0) 8 rfl Tryz.underlying24 info3 rfl (by decide) (by omega) u7 x7_1 (Int.tmod (wrap64 (x8_1 + (wrap64 (a1 * (rd l0 x9_1))))) 10) [.int .i64 (Int.tmod (wrap64 (x8_1 + (wrap64 (a1 * (rd l0 x9_1))))) 10)] (fun _ => True) (fun _ => False) rfl rfl ?aP (fun _ hk => hk.elim) ?aF ?aO ?aB ?aS ?aL ?_; (case aP => exact rfl); (case aB => exact zQx19a0_); (case aF => exact (fun _ _ => trivial)); (case aO => exact zQx19a2_); (case aS => exact (below_size zQx19a0_)); (case aL => have := LMc9.out; omega); intro v297 w10 ho hb hg hat; rw [← Ny296.out] at ho; have n0_ := Aside0.mk (hb); have n1_ := Aside0.mk (ho); clear HB; clear HO_7; have HB := n0_; have HO298 := n1_; clear n0_ n1_; clear ho hb hg hat))
     go_roundg kj3
     case measure => have := HK1.out; have := HJ3.out; omega
     case rel => exact ⟨(y296), (wrap64 (Int.tdiv (wrap64 (x8_1 + (wrap64 (a1 * (rd l0 x9_1))))) 10)), (wrap64 (x9_1 + 1)), zQx19a1_, zQx19a1_, H', ⟨by have := HK1.out; have := HJ3.out; omega⟩, ⟨by (with_reducible repeat (first | apply Kd.R_alloc | apply Kd.R_drewN | apply Kd.R_drew)); exact HO298.out⟩, ⟨zQx19a0_⟩⟩
def basculeref22_Signed.f (a0 : Int) : Option (Bool) := if a0 = 3 then (some true) else (if a0 = 5 then (some true) else (if a0 = 7 then (some true) else (some (a0 == 10))))
theorem basculeref22_Signed.calls (a0 : Int) (r : Bool) (w : World) (h : basculeref22_Signed.f a0 = some r) :
  Calls Tryz.prog 65 #[.int .i64 a0] w fun e w' => e = .returned (.bool r) ∧ Drawn0 w w' := by
 have H : (if a0 = 3 then (some true) else (if a0 = 5 then (some true) else (if a0 = 7 then (some true) else (some (a0 == 10))))) = some r := h
 clear h
 by_cases c2 : a0 = 3
 ·
  rw [if_pos c2] at H
  have c2b0 : (a0 == 3) = true := beq_iff_eq.mpr c2
  have c2b1 : (a0 != 3) = false := bne_eq_false_iff_eq.mpr c2
  clear c2
  obtain rfl := Option.some.inj H
  go_enter Tryz.func65, Tryz.ntmps65
  go_wp2
  go_ret
  exact ⟨zQx19a1_, zQx19a5_⟩
 rw [if_neg c2] at H
 have c2b0 : (a0 == 3) = false := beq_eq_false_iff_ne.mpr c2
 have c2b1 : (a0 != 3) = true := bne_iff_ne.mpr c2
 by_cases c3 : a0 = 5
 ·
  rw [if_pos c3] at H
  have c3b0 : (a0 == 5) = true := beq_iff_eq.mpr c3
  have c3b1 : (a0 != 5) = false := bne_eq_false_iff_eq.mpr c3
  clear c3
  obtain rfl := Option.some.inj H
  go_enter Tryz.func65, Tryz.ntmps65
  go_wp2
  go_ret
  exact ⟨zQx19a1_, zQx19a5_⟩
 rw [if_neg c3] at H
 have c3b0 : (a0 == 5) = false := beq_eq_false_iff_ne.mpr c3
 have c3b1 : (a0 != 5) = true := bne_iff_ne.mpr c3
 by_cases c4 : a0 = 7
 rotate_left
 ·
  rw [if_neg c4] at H
  have c4b0 : (a0 == 7) = false := beq_eq_false_iff_ne.mpr c4
  have c4b1 : (a0 != 7) = true := bne_iff_ne.mpr c4
  obtain rfl := Option.some.inj H
  go_enter Tryz.func65, Tryz.ntmps65
  go_wp2
  go_ret
  exact ⟨zQx19a1_, zQx19a5_⟩
 rw [if_pos c4] at H
 have c4b0 : (a0 == 7) = true := beq_iff_eq.mpr c4
 have c4b1 : (a0 != 7) = false := bne_eq_false_iff_eq.mpr c4
 clear c4
 obtain rfl := Option.some.inj H
 go_enter Tryz.func65, Tryz.ntmps65
 go_wp2
 go_ret
 exact ⟨zQx19a1_, zQx19a5_⟩
end Go.Proofs.YtmkekhjbbapngaaGreatDoor.Q
