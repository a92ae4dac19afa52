/- Qx28 -/
import Derived.Test.YtmkekhjbbapngaaGreatDoorSValueApartQx9
import Derived.Test.YtmkekhjbbapngaaGreatDoorSValueApartPDig
import Derived.Test.YtmkekhjbbapngaaGreatDoorSValueApartQx26
set_option maxRecDepth 100000
set_option maxHeartbeats 8000000
namespace Go.Proofs.YtmkekhjbbapngaaGreatDoor.Q
open Go.RowKit YtmkekhjbbapngaaGreatDoorW.PrintWords YtmkekhjbbapngaaGreatDoorW.PrintLast YtmkekhjbbapngaaGreatDoorW.PrintMore
attribute [local go_sem] max2_int min2_int max_two min_two
set_option linter.all false
theorem zQx28a0_ {P_ : Prop} (h_ : P_ := by repeat (first | (with_reducible first | exact HB.out | apply below_alloc | apply pw_below_drewN | apply below_drew1 | refine below_set ?_ GE429.out) | exact HB.out)) : P_ := h_
theorem zQx28a1_ {P_ : Prop} (h_ : P_ := by (try simp only [List.map_toArray, List.map_cons, List.map_nil]); first | done | rfl | (simp only [List.length_drop, List.length_take]; rfl)) : P_ := h_
theorem zQx28a2_ {P_ : Prop} (h_ : P_ := by (with_reducible repeat (first | apply Kd.R_alloc | apply Kd.R_drewN | apply Kd.R_drew)); exact HO433.out) : P_ := h_
theorem zQx28a3_ {P_ : Prop} (h_ : P_ := by (with_reducible repeat (first | refine blk_drewN ?_ _ | refine blk_drew ?_ | refine blk_alloc ?_ _)); exact BK429.out) : P_ := h_
theorem zQx28a4_ {P_ : Prop} (h_ : P_ := by repeat (first | (with_reducible first | exact HB.out | apply below_alloc | apply pw_below_drewN | apply below_drew1) | exact HB.out)) : P_ := h_
theorem zQx28a5_ {P_ : Prop} (h_ : P_ := by (with_reducible repeat (first | apply Kd.R_alloc | apply Kd.R_drewN | apply Kd.R_drew)); exact HO437.out) : P_ := h_
theorem zQx28a6_ {P_ : Prop} (h_ : P_ := by first | rfl | (simp; done) | (simp [*]; done)) : P_ := h_
theorem zQx28a7_ {P_ : Prop} (h_ : P_ := by first | (with_reducible assumption) | assumption) : P_ := h_
theorem zQx28a8_ {P_ : Prop} (h_ : P_ := by first | rfl | (simp [errW_none, errW_some] <;> rfl) | (simp [*, errW_none, errW_some] <;> rfl)) : P_ := h_
theorem zQx28a9_ {P_ : Prop} (h_ : P_ := by (with_reducible repeat (first | apply Kd.R_alloc | apply Kd.R_drewN | apply Kd.R_drew)); exact HO_5.out) : P_ := h_
theorem zQx28a10_ {P_ : Prop} (h_ : P_ := by (with_reducible repeat (first | apply Kd.R_alloc | apply Kd.R_drewN | apply Kd.R_drew)); exact HO441.out) : P_ := h_
theorem zQx28a11_ {P_ : Prop} (h_ : P_ := by (with_reducible repeat (first | apply Kd.R_alloc | apply Kd.R_drewN | apply Kd.R_drew)); exact HO449.out) : P_ := h_
theorem zQx28a12_ {P_ : Prop} (h_ : P_ := by (with_reducible repeat (first | apply Kd.R_alloc | apply Kd.R_drewN | apply Kd.R_drew)); exact HO456.out) : P_ := h_
theorem znQx28_ {X_ : Prop} [Decidable X_] (h_ : ¬ X_ → False := by intro c_; rw [if_neg c_] at H; exact absurd H (by simp)) : X_ := Decidable.byContradiction h_
def basculeref22_minus.l0 : Nat → List Int → List Int → List Int → Int → Int → Option (List Int)
 | 0, _, _, _, _, _ => none
 | k + 1, x0, x1, x5, x6, x7 => if x7 < (x0.length : Int) then (if 0 ≤ x7 then (if x7 < (x1.length : Int) then (if (wrap64 ((wrap64 ((rd x0 x7) - x6)) - (rd x1 x7))) < 0 then (if x5.length < 17592186044416 then (basculeref22_minus.l0 k x0 x1 (x5 ++ [wrap64 ((wrap64 ((wrap64 ((rd x0 x7) - x6)) - (rd x1 x7))) + 10)]) 1 (wrap64 (x7 + 1))) else (none)) else (if x5.length < 17592186044416 then (basculeref22_minus.l0 k x0 x1 (x5 ++ [wrap64 ((wrap64 ((rd x0 x7) - x6)) - (rd x1 x7))]) 0 (wrap64 (x7 + 1))) else (none))) else (if (wrap64 ((rd x0 x7) - x6)) < 0 then (if x5.length < 17592186044416 then (basculeref22_minus.l0 k x0 x1 (x5 ++ [wrap64 ((wrap64 ((rd x0 x7) - x6)) + 10)]) 1 (wrap64 (x7 + 1))) else (none)) else (if x5.length < 17592186044416 then (basculeref22_minus.l0 k x0 x1 (x5 ++ [wrap64 ((rd x0 x7) - x6)]) 0 (wrap64 (x7 + 1))) else (none)))) else (none)) else ((basculeref22_trim.f k x5).bind fun t412 => (some t412))
def basculeref22_minus.f (k : Nat) (l0 : List Int) (l1 : List Int) : Option (List Int) := basculeref22_minus.l0 k l0 l1 ([] : List Int) 0 0
theorem basculeref22_minus.mono_l : ∀ k, (∀ y0 y1 y2 y3 y4, LeO (basculeref22_minus.l0 k y0 y1 y2 y3 y4) (basculeref22_minus.l0 (k + 1) y0 y1 y2 y3 y4))
 | 0 => fun _ _ _ _ _ r h => by simp [basculeref22_minus.l0] at h
 | k + 1 => by
  have ih0 := basculeref22_minus.mono_l k
  ·
   intro y0 y1 y2 y3 y4
   unfold basculeref22_minus.l0
   repeat' first
   | (with_reducible first | exact ih0 _ _ _ _ _ | exact basculeref22_trim.mono _ _ | exact LeO.refl _ | exact LeO.none _ | refine LeO.ite ?_ ?_ | refine LeO.bind ?_ (fun _ => ?_))
   | exact ih0 _ _ _ _ _ | exact basculeref22_trim.mono _ _ | exact LeO.none _ | refine LeO.ite ?_ ?_ | refine LeO.bind ?_ (fun _ => ?_)
theorem basculeref22_minus.mono : ∀ a0 a1 k, LeO (basculeref22_minus.f k a0 a1) (basculeref22_minus.f (k + 1) a0 a1) := by
 intro a0 a1 k
 have ih0 := basculeref22_minus.mono_l k
 unfold basculeref22_minus.f
 repeat' first
   | (with_reducible first | exact ih0 _ _ _ _ _ | exact basculeref22_trim.mono _ _ | exact LeO.refl _ | exact LeO.none _ | refine LeO.ite ?_ ?_ | refine LeO.bind ?_ (fun _ => ?_))
   | exact ih0 _ _ _ _ _ | exact basculeref22_trim.mono _ _ | exact LeO.none _ | refine LeO.ite ?_ ?_ | refine LeO.bind ?_ (fun _ => ?_)
theorem basculeref22_minus.calls (k : Nat) (A0 : Option Addr) (c0 : Nat) (l0 : List Int) (A1 : Option Addr) (c1 : Nat) (l1 : List Int) (r : List Int) (w : World) (hr0 : Kd.C (Kd.int .i64) w A0 l0.length l0) (hc0 : l0.length ≤ c0) (hr1 : Kd.C (Kd.int .i64) w A1 l1.length l1) (hc1 : l1.length ≤ c1) (h : basculeref22_minus.f k l0 l1 = some r) :
  Calls Tryz.prog 44 #[.slice A0 l0.length c0, .slice A1 l1.length c1] w fun e w' => ∃ v0_ : Value, e = .returned (v0_) ∧ Kd.R (Kd.int .i64) 3 w' w.heap.size (fun _ => True) v0_ r ∧ Below w.heap.size w w' := by
 have HR0 := Aside0.mk hr0
 have HC0 := Aside0.mk hc0
 clear hr0 hc0
 have HR1 := Aside0.mk hr1
 have HC1 := Aside0.mk hc1
 clear hr1 hc1
 have HB := Aside0.mk (Below.refl w.heap.size w)
 have H : (basculeref22_minus.l0 k l0 l1 ([] : List Int) 0 0) = some r := h
 clear h
 have H' := Aside0.mk H
 clear H
 go_enter Tryz.func44, Tryz.ntmps44
 go_wp2
 go_loopg [5, 6, 7] k (fun kq v5 v6 v7 w' => ∃ (x5_1 : List Int) (x6_1 : Int) (x7_1 : Int), v6 = .int .i64 x6_1 ∧ v7 = .int .i64 x7_1 ∧ Aside0 (basculeref22_minus.l0 kq l0 l1 x5_1 x6_1 x7_1 = some r) ∧ Aside0 (kq ≤ k) ∧ Aside0 (Kd.R (Kd.int .i64) 3 w' w.heap.size (fun _ => True) v5 x5_1) ∧ Aside0 (Below w.heap.size w w'))
 case atStart => exact ⟨(([] : List Int)), (0), (0), zQx28a6_, zQx28a6_, H', ⟨Nat.le_refl _⟩, ⟨by first | exact Kd.R_nil _ _ _ _ _ | exact Kd.N_nil _ _ _ _ _ | exact Kd.V_nil _ _ _ _ _ | exact Kd.Q_nil _ _ _ _ _ | exact Kd.S_nil _ _ _ _ _⟩, ⟨zQx28a4_⟩⟩
 case round =>
  clear H'
  try clear c1
  try clear p2
  obtain ⟨x5_1, x6_1, x7_1, rfl, rfl, HA, HK1, HO_5, HB⟩ := hrel
  cases gk with
  | zero => exact absurd HA.out (by simp [basculeref22_minus.l0])
  | succ k1 =>
   have H := HA.out
   clear HA
   simp only [basculeref22_minus.l0] at H
   by_cases c3 : x7_1 < (l0.length : Int)
   rotate_left
   ·
    rw [if_neg c3] at H
    have c3b0 : decide (x7_1 < (l0.length : Int)) = false := decide_eq_false c3
    clear c3
    replace H := Option.bind_eq_some_iff.mp H
    obtain ⟨t412, A160, H⟩ := H
    replace H : (some t412) = some r := H
    have A16 := Aside0.mk A160
    clear A160
    obtain rfl := Option.some.inj H
    obtain ⟨Ao17, co17, eo17⟩ := Kd.R_slice HO_5.out
    subst eo17
    go_wp2_with (first | ((with_reducible refine gate_callee (f := 40) rfl ?_); refine goesL_ (some 40) rfl rfl Tryz.func40 (by kernel_rfl) rfl #[.slice Ao17 x5_1.length co17] rfl zQx28a1_ ?_; (with_reducible refine (basculeref22_trim.calls k1 (fun k_ => some k_ = (.slice Ao17 x5_1.length co17 : Value).ownBlock) (.slice Ao17 x5_1.length co17) x5_1 t412 w _ ?side1 ?side2 A16.out).mono ?_); (case side1 => repeat (first | (with_reducible first | exact HB.out | apply below_alloc | apply pw_below_drewN | apply below_drew1) | exact HB.out)); (case side2 => exact Kd.R_tight rfl HO_5.out); rintro e w18 ⟨v413, rfl, ho0, hb, hkp⟩; refine ⟨_, rfl, ?_⟩; have n0_ := Aside0.mk (Kd.R_mono (ok' := fun k_ => True) ho0 (fun k_ hk_ => trivial)); have n1_ := Aside0.mk (hb); clear HB; clear HO_5; have HO414 := n0_; have HB := n1_; clear n0_ n1_; (try clear hb); (try clear hkp); (try clear ho0)))
    go_ret
    exact ⟨_, zQx28a8_, by (with_reducible repeat (first | apply Kd.R_alloc | apply Kd.R_drewN | apply Kd.R_drew)); exact HO414.out, zQx28a4_⟩
   rw [if_pos c3] at H
   have c3b0 : decide (x7_1 < (l0.length : Int)) = true := decide_eq_true c3
   clear c3
   have c4 : 0 ≤ x7_1 := znQx28_
   rw [if_pos c4] at H
   have c4b0 : decide (0 ≤ x7_1) = true := decide_eq_true c4
   clear c4
   by_cases c5 : x7_1 < (l1.length : Int)
   rotate_left
   ·
    rw [if_neg c5] at H
    have c5b0 : decide (x7_1 < (l1.length : Int)) = false := decide_eq_false c5
    clear c5
    by_cases c11 : (wrap64 ((rd l0 x7_1) - x6_1)) < 0
    rotate_left
    ·
     rw [if_neg c11] at H
     have c11b0 : decide ((wrap64 ((rd l0 x7_1) - x6_1)) < 0) = false := decide_eq_false c11
     clear c11
     have c14 : x5_1.length < 17592186044416 := znQx28_
     rw [if_pos c14] at H
     have LMc14 := Aside0.mk c14
     clear c14
     obtain ⟨y426, hy426⟩ : ∃ y_ : List Int, y_ = (x5_1 ++ [wrap64 ((rd l0 x7_1) - x6_1)]) := ⟨_, rfl⟩
     replace H : (basculeref22_minus.l0 k1 l0 l1 y426 0 (wrap64 (x7_1 + 1))) = some r := by first | (rw [hy426]; with_reducible exact H) | (have H2_ := (Option.bind_some _ _).symm.trans H; rw [hy426]; with_reducible exact H2_) | (have H2_ := (Option.bind_some _ _).symm.trans H; with_reducible exact H2_) | with_reducible exact H | (rw [hy426]; exact H) | exact H
     have Ny426 := Aside0.mk hy426
     clear hy426
     have H' := Aside0.mk H
     clear H
     have p415 : 0 ≤ (x7_1 : Int) := of_decide_eq_true zQx28a7_
     have q415 : x7_1 < (l0.length : Int) := of_decide_eq_true zQx28a7_
     obtain ⟨ad415, e415, hx415_0⟩ := Kd.at_int HR0.out x7_1 p415 q415
     cases e415
     replace hx415_0 := (HB.out.cell (World.block_lt_of_cell? w _ hx415_0)).trans hx415_0
     replace p415 := eq_true p415
     replace q415 := eq_true q415
     go_wp2_with (first | ((with_reducible refine gate_builtin (b := .append) (xs := #[.tmp 35, .tmp 37]) rfl ?_); at_builtin; refine Kd.R_append (Kd.int .i64) (w0 := w) w.heap.size rfl (.tmp 35) (.tmp 37) 24 3 (.int .i64 0) 8 rfl Tryz.underlying24 info3 rfl (by decide) (by omega) u5 x5_1 (wrap64 ((rd l0 x7_1) - x6_1)) [.int .i64 (wrap64 ((rd l0 x7_1) - x6_1))] (fun _ => True) (fun _ => False) rfl rfl ?aP (fun _ hk => hk.elim) ?aF ?aO ?aB ?aS ?aL ?_; (case aP => exact rfl); (case aB => exact zQx28a4_); (case aF => exact (fun _ _ => trivial)); (case aO => exact zQx28a9_); (case aS => exact (below_size zQx28a4_)); (case aL => have := LMc14.out; omega); intro v427 w15 ho hb hg hat; rw [← Ny426.out] at ho; have n0_ := Aside0.mk (hb); have n1_ := Aside0.mk (ho); clear HB; clear HO_5; have HB := n0_; have HO428 := n1_; clear n0_ n1_; clear ho hb hg hat))
     go_roundg k1
     case measure => have := HK1.out; omega
     case rel => exact ⟨(y426), (0), (wrap64 (x7_1 + 1)), zQx28a6_, zQx28a6_, H', ⟨by have := HK1.out; omega⟩, ⟨by (with_reducible repeat (first | apply Kd.R_alloc | apply Kd.R_drewN | apply Kd.R_drew)); exact HO428.out⟩, ⟨zQx28a4_⟩⟩
    rw [if_pos c11] at H
    have c11b0 : decide ((wrap64 ((rd l0 x7_1) - x6_1)) < 0) = true := decide_eq_true c11
    clear c11
    have c12 : x5_1.length < 17592186044416 := znQx28_
    rw [if_pos c12] at H
    have LMc12 := Aside0.mk c12
    clear c12
    obtain ⟨y423, hy423⟩ : ∃ y_ : List Int, y_ = (x5_1 ++ [wrap64 ((wrap64 ((rd l0 x7_1) - x6_1)) + 10)]) := ⟨_, rfl⟩
    replace H : (basculeref22_minus.l0 k1 l0 l1 y423 1 (wrap64 (x7_1 + 1))) = some r := by first | (rw [hy423]; with_reducible exact H) | (have H2_ := (Option.bind_some _ _).symm.trans H; rw [hy423]; with_reducible exact H2_) | (have H2_ := (Option.bind_some _ _).symm.trans H; with_reducible exact H2_) | with_reducible exact H | (rw [hy423]; exact H) | exact H
    have Ny423 := Aside0.mk hy423
    clear hy423
    have H' := Aside0.mk H
    clear H
    have p415 : 0 ≤ (x7_1 : Int) := of_decide_eq_true zQx28a7_
    have q415 : x7_1 < (l0.length : Int) := of_decide_eq_true zQx28a7_
    obtain ⟨ad415, e415, hx415_0⟩ := Kd.at_int HR0.out x7_1 p415 q415
    cases e415
    replace hx415_0 := (HB.out.cell (World.block_lt_of_cell? w _ hx415_0)).trans hx415_0
    replace p415 := eq_true p415
    replace q415 := eq_true q415
    go_wp2_with (first | ((with_reducible refine gate_builtin (b := .append) (xs := #[.tmp 35, .tmp 37]) rfl ?_); at_builtin; refine Kd.R_append (Kd.int .i64) (w0 := w) w.heap.size rfl (.tmp 35) (.tmp 37) 24 3 (.int .i64 0) 8 rfl Tryz.underlying24 info3 rfl (by decide) (by omega) u5 x5_1 (wrap64 ((wrap64 ((rd l0 x7_1) - x6_1)) + 10)) [.int .i64 (wrap64 ((wrap64 ((rd l0 x7_1) - x6_1)) + 10))] (fun _ => True) (fun _ => False) rfl rfl ?aP (fun _ hk => hk.elim) ?aF ?aO ?aB ?aS ?aL ?_; (case aP => exact rfl); (case aB => exact zQx28a4_); (case aF => exact (fun _ _ => trivial)); (case aO => exact zQx28a9_); (case aS => exact (below_size zQx28a4_)); (case aL => have := LMc12.out; omega); intro v424 w13 ho hb hg hat; rw [← Ny423.out] at ho; have n0_ := Aside0.mk (hb); have n1_ := Aside0.mk (ho); clear HB; clear HO_5; have HB := n0_; have HO425 := n1_; clear n0_ n1_; clear ho hb hg hat))
    go_roundg k1
    case measure => have := HK1.out; omega
    case rel => exact ⟨(y423), (1), (wrap64 (x7_1 + 1)), zQx28a6_, zQx28a6_, H', ⟨by have := HK1.out; omega⟩, ⟨by (with_reducible repeat (first | apply Kd.R_alloc | apply Kd.R_drewN | apply Kd.R_drew)); exact HO425.out⟩, ⟨zQx28a4_⟩⟩
   rw [if_pos c5] at H
   have c5b0 : decide (x7_1 < (l1.length : Int)) = true := decide_eq_true c5
   clear c5
   by_cases c6 : (wrap64 ((wrap64 ((rd l0 x7_1) - x6_1)) - (rd l1 x7_1))) < 0
   rotate_left
   ·
    rw [if_neg c6] at H
    have c6b0 : decide ((wrap64 ((wrap64 ((rd l0 x7_1) - x6_1)) - (rd l1 x7_1))) < 0) = false := decide_eq_false c6
    clear c6
    have c9 : x5_1.length < 17592186044416 := znQx28_
    rw [if_pos c9] at H
    have LMc9 := Aside0.mk c9
    clear c9
    obtain ⟨y420, hy420⟩ : ∃ y_ : List Int, y_ = (x5_1 ++ [wrap64 ((wrap64 ((rd l0 x7_1) - x6_1)) - (rd l1 x7_1))]) := ⟨_, rfl⟩
    replace H : (basculeref22_minus.l0 k1 l0 l1 y420 0 (wrap64 (x7_1 + 1))) = some r := by first | (rw [hy420]; with_reducible exact H) | (have H2_ := (Option.bind_some _ _).symm.trans H; rw [hy420]; with_reducible exact H2_) | (have H2_ := (Option.bind_some _ _).symm.trans H; with_reducible exact H2_) | with_reducible exact H | (rw [hy420]; exact H) | exact H
    have Ny420 := Aside0.mk hy420
    clear hy420
    have H' := Aside0.mk H
    clear H
    have p415 : 0 ≤ (x7_1 : Int) := of_decide_eq_true zQx28a7_
    have q415 : x7_1 < (l0.length : Int) := of_decide_eq_true zQx28a7_
    obtain ⟨ad415, e415, hx415_0⟩ := Kd.at_int HR0.out x7_1 p415 q415
    cases e415
    replace hx415_0 := (HB.out.cell (World.block_lt_of_cell? w _ hx415_0)).trans hx415_0
    replace p415 := eq_true p415
    replace q415 := eq_true q415
    have p416 : 0 ≤ (x7_1 : Int) := of_decide_eq_true zQx28a7_
    have q416 : x7_1 < (l1.length : Int) := of_decide_eq_true zQx28a7_
    obtain ⟨ad416, e416, hx416_0⟩ := Kd.at_int HR1.out x7_1 p416 q416
    cases e416
    replace hx416_0 := (HB.out.cell (World.block_lt_of_cell? w _ hx416_0)).trans hx416_0
    replace p416 := eq_true p416
    replace q416 := eq_true q416
    go_wp2_with (first | ((with_reducible refine gate_builtin (b := .append) (xs := #[.tmp 35, .tmp 37]) rfl ?_); at_builtin; refine Kd.R_append (Kd.int .i64) (w0 := w) w.heap.size rfl (.tmp 35) (.tmp 37) 24 3 (.int .i64 0) 8 rfl Tryz.underlying24 info3 rfl (by decide) (by omega) u5 x5_1 (wrap64 ((wrap64 ((rd l0 x7_1) - x6_1)) - (rd l1 x7_1))) [.int .i64 (wrap64 ((wrap64 ((rd l0 x7_1) - x6_1)) - (rd l1 x7_1)))] (fun _ => True) (fun _ => False) rfl rfl ?aP (fun _ hk => hk.elim) ?aF ?aO ?aB ?aS ?aL ?_; (case aP => exact rfl); (case aB => exact zQx28a4_); (case aF => exact (fun _ _ => trivial)); (case aO => exact zQx28a9_); (case aS => exact (below_size zQx28a4_)); (case aL => have := LMc9.out; omega); intro v421 w10 ho hb hg hat; rw [← Ny420.out] at ho; have n0_ := Aside0.mk (hb); have n1_ := Aside0.mk (ho); clear HB; clear HO_5; have HB := n0_; have HO422 := n1_; clear n0_ n1_; clear ho hb hg hat))
    go_roundg k1
    case measure => have := HK1.out; omega
    case rel => exact ⟨(y420), (0), (wrap64 (x7_1 + 1)), zQx28a6_, zQx28a6_, H', ⟨by have := HK1.out; omega⟩, ⟨by (with_reducible repeat (first | apply Kd.R_alloc | apply Kd.R_drewN | apply Kd.R_drew)); exact HO422.out⟩, ⟨zQx28a4_⟩⟩
   rw [if_pos c6] at H
   have c6b0 : decide ((wrap64 ((wrap64 ((rd l0 x7_1) - x6_1)) - (rd l1 x7_1))) < 0) = true := decide_eq_true c6
   clear c6
   have c7 : x5_1.length < 17592186044416 := znQx28_
   rw [if_pos c7] at H
   have LMc7 := Aside0.mk c7
   clear c7
   obtain ⟨y417, hy417⟩ : ∃ y_ : List Int, y_ = (x5_1 ++ [wrap64 ((wrap64 ((wrap64 ((rd l0 x7_1) - x6_1)) - (rd l1 x7_1))) + 10)]) := ⟨_, rfl⟩
   replace H : (basculeref22_minus.l0 k1 l0 l1 y417 1 (wrap64 (x7_1 + 1))) = some r := by first | (rw [hy417]; with_reducible exact H) | (have H2_ := (Option.bind_some _ _).symm.trans H; rw [hy417]; with_reducible exact H2_) | (have H2_ := (Option.bind_some _ _).symm.trans H; with_reducible exact H2_) | with_reducible exact H | (rw [hy417]; exact H) | exact H
   have Ny417 := Aside0.mk hy417
   clear hy417
   have H' := Aside0.mk H
   clear H
   have p415 : 0 ≤ (x7_1 : Int) := of_decide_eq_true zQx28a7_
   have q415 : x7_1 < (l0.length : Int) := of_decide_eq_true zQx28a7_
   obtain ⟨ad415, e415, hx415_0⟩ := Kd.at_int HR0.out x7_1 p415 q415
   cases e415
   replace hx415_0 := (HB.out.cell (World.block_lt_of_cell? w _ hx415_0)).trans hx415_0
   replace p415 := eq_true p415
   replace q415 := eq_true q415
   have p416 : 0 ≤ (x7_1 : Int) := of_decide_eq_true zQx28a7_
   have q416 : x7_1 < (l1.length : Int) := of_decide_eq_true zQx28a7_
   obtain ⟨ad416, e416, hx416_0⟩ := Kd.at_int HR1.out x7_1 p416 q416
   cases e416
   replace hx416_0 := (HB.out.cell (World.block_lt_of_cell? w _ hx416_0)).trans hx416_0
   replace p416 := eq_true p416
   replace q416 := eq_true q416
   go_wp2_with (first | ((with_reducible refine gate_builtin (b := .append) (xs := #[.tmp 35, .tmp 37]) rfl ?_); at_builtin; refine Kd.R_append (Kd.int .i64) (w0 := w) w.heap.size rfl (.tmp 35) (.tmp 37) 24 3 (.int .i64 0) 8 rfl Tryz.underlying24 info3 rfl (by decide) (by omega) u5 x5_1 (wrap64 ((wrap64 ((wrap64 ((rd l0 x7_1) - x6_1)) - (rd l1 x7_1))) + 10)) [.int .i64 (wrap64 ((wrap64 ((wrap64 ((rd l0 x7_1) - x6_1)) - (rd l1 x7_1))) + 10))] (fun _ => True) (fun _ => False) rfl rfl ?aP (fun _ hk => hk.elim) ?aF ?aO ?aB ?aS ?aL ?_; (case aP => exact rfl); (case aB => exact zQx28a4_); (case aF => exact (fun _ _ => trivial)); (case aO => exact zQx28a9_); (case aS => exact (below_size zQx28a4_)); (case aL => have := LMc7.out; omega); intro v418 w8 ho hb hg hat; rw [← Ny417.out] at ho; have n0_ := Aside0.mk (hb); have n1_ := Aside0.mk (ho); clear HB; clear HO_5; have HB := n0_; have HO419 := n1_; clear n0_ n1_; clear ho hb hg hat))
   go_roundg k1
   case measure => have := HK1.out; omega
   case rel => exact ⟨(y417), (1), (wrap64 (x7_1 + 1)), zQx28a6_, zQx28a6_, H', ⟨by have := HK1.out; omega⟩, ⟨by (with_reducible repeat (first | apply Kd.R_alloc | apply Kd.R_drewN | apply Kd.R_drew)); exact HO419.out⟩, ⟨zQx28a4_⟩⟩
def basculeref22_Apart.j0 : Nat → List Int → List Int → Bool → ByteArray → Int → Int → Int → Int → Int → Int → Bool → Option (Bool)
 | 0, _, _, _, _, _, _, _, _, _, _, _ => none
 | k + 1, x1, x2, x24, x430000, x430001, x430002, x430003, x430004, x430005, x430006, x430007 => if x24 = true then ((basculeref01_Ints.f k x1 x2).bind fun t430 => (some (!t430))) else ((basculeref22_Digits.f x430000 x430001 x430002 x430003 x430004 x430005 x430006 x430007 x1).bind fun bt431 => ((basculeref22_Digits.f x430000 x430001 x430002 x430003 x430004 x430005 x430006 x430007 x2).bind fun bt435 => (if (bt431.2 != bt435.2) = true then ((basculeref22_plus.f k bt431.1 bt435.1).bind fun t439 => ((basculeref22_times.f k ([] : List Int) 10 x430006).bind fun t442 => ((basculeref22_less.f t439 t442).bind fun t445 => (some (!t445))))) else ((basculeref22_less.f bt431.1 bt435.1).bind fun t446 => (if t446 = true then ((basculeref22_minus.f k bt435.1 bt431.1).bind fun t447 => ((basculeref22_times.f k ([] : List Int) 10 x430006).bind fun t450 => ((basculeref22_less.f t447 t450).bind fun t453 => (some (!t453))))) else ((basculeref22_minus.f k bt431.1 bt435.1).bind fun t454 => ((basculeref22_times.f k ([] : List Int) 10 x430006).bind fun t457 => ((basculeref22_less.f t454 t457).bind fun t460 => (some (!t460))))))))))
def basculeref22_Apart.f (k : Nat) (a0_0 : ByteArray) (a0_1 : Int) (a0_2 : Int) (a0_3 : Int) (a0_4 : Int) (a0_5 : Int) (a0_6 : Int) (a0_7 : Bool) (l1 : List Int) (l2 : List Int) : Option (Bool) := if a0_4 = 1 then (basculeref22_Apart.j0 k l1 l2 true a0_0 a0_1 a0_2 a0_3 a0_4 a0_5 a0_6 a0_7) else (if a0_4 = 8 then (basculeref22_Apart.j0 k l1 l2 true a0_0 a0_1 a0_2 a0_3 a0_4 a0_5 a0_6 a0_7) else (basculeref22_Apart.j0 k l1 l2 (a0_6 == 0) a0_0 a0_1 a0_2 a0_3 a0_4 a0_5 a0_6 a0_7))
theorem basculeref22_Apart.mono_l : ∀ k, (∀ y0 y1 y2 y3 y4 y5 y6 y7 y8 y9 y10, LeO (basculeref22_Apart.j0 k y0 y1 y2 y3 y4 y5 y6 y7 y8 y9 y10) (basculeref22_Apart.j0 (k + 1) y0 y1 y2 y3 y4 y5 y6 y7 y8 y9 y10))
 | 0 => fun _ _ _ _ _ _ _ _ _ _ _ r h => by simp [basculeref22_Apart.j0] at h
 | k + 1 => by
  have ih0 := basculeref22_Apart.mono_l k
  ·
   intro y0 y1 y2 y3 y4 y5 y6 y7 y8 y9 y10
   unfold basculeref22_Apart.j0
   repeat' first
   | (with_reducible first | exact ih0 _ _ _ _ _ _ _ _ _ _ _ | exact basculeref01_Ints.mono _ _ _ | exact basculeref22_minus.mono _ _ _ | exact basculeref22_plus.mono _ _ _ | exact basculeref22_times.mono _ _ _ _ | exact LeO.refl _ | exact LeO.none _ | refine LeO.ite ?_ ?_ | refine LeO.bind ?_ (fun _ => ?_))
   | exact ih0 _ _ _ _ _ _ _ _ _ _ _ | exact basculeref01_Ints.mono _ _ _ | exact basculeref22_minus.mono _ _ _ | exact basculeref22_plus.mono _ _ _ | exact basculeref22_times.mono _ _ _ _ | exact LeO.none _ | refine LeO.ite ?_ ?_ | refine LeO.bind ?_ (fun _ => ?_)
theorem basculeref22_Apart.mono : ∀ a0 a1 a2 a3 a4 a5 a6 a7 a8 a9 k, LeO (basculeref22_Apart.f k a0 a1 a2 a3 a4 a5 a6 a7 a8 a9) (basculeref22_Apart.f (k + 1) a0 a1 a2 a3 a4 a5 a6 a7 a8 a9) := by
 intro a0 a1 a2 a3 a4 a5 a6 a7 a8 a9 k
 have ih0 := basculeref22_Apart.mono_l k
 unfold basculeref22_Apart.f
 repeat' first
   | (with_reducible first | exact ih0 _ _ _ _ _ _ _ _ _ _ _ | exact basculeref01_Ints.mono _ _ _ | exact basculeref22_minus.mono _ _ _ | exact basculeref22_plus.mono _ _ _ | exact basculeref22_times.mono _ _ _ _ | exact LeO.refl _ | exact LeO.none _ | refine LeO.ite ?_ ?_ | refine LeO.bind ?_ (fun _ => ?_))
   | exact ih0 _ _ _ _ _ _ _ _ _ _ _ | exact basculeref01_Ints.mono _ _ _ | exact basculeref22_minus.mono _ _ _ | exact basculeref22_plus.mono _ _ _ | exact basculeref22_times.mono _ _ _ _ | exact LeO.none _ | refine LeO.ite ?_ ?_ | refine LeO.bind ?_ (fun _ => ?_)
theorem basculeref22_Apart.calls (k : Nat) (a0_0 : ByteArray) (a0_1 : Int) (a0_2 : Int) (a0_3 : Int) (a0_4 : Int) (a0_5 : Int) (a0_6 : Int) (a0_7 : Bool) (A1 : Option Addr) (c1 : Nat) (l1 : List Int) (A2 : Option Addr) (c2 : Nat) (l2 : List Int) (r : Bool) (w : World) (hr1 : Kd.C (Kd.int .i64) w A1 l1.length l1) (hc1 : l1.length ≤ c1) (hr2 : Kd.C (Kd.int .i64) w A2 l2.length l2) (hc2 : l2.length ≤ c2) (h : basculeref22_Apart.f k a0_0 a0_1 a0_2 a0_3 a0_4 a0_5 a0_6 a0_7 l1 l2 = some r) :
  Calls Tryz.prog 21 #[.agg #[.string a0_0, .int .i64 a0_1, .int .i64 a0_2, .int .i64 a0_3, .int .i64 a0_4, .int .i64 a0_5, .int .i64 a0_6, .bool a0_7], .slice A1 l1.length c1, .slice A2 l2.length c2] w fun e w' => e = .returned (.bool r) ∧ Below w.heap.size w w' := by
 have hu23 := Tryz.underlying23
 have HR1 := Aside0.mk hr1
 have HC1 := Aside0.mk hc1
 clear hr1 hc1
 have HR2 := Aside0.mk hr2
 have HC2 := Aside0.mk hc2
 clear hr2 hc2
 have HB := Aside0.mk (Below.refl w.heap.size w)
 have H : (if a0_4 = 1 then (basculeref22_Apart.j0 k l1 l2 true a0_0 a0_1 a0_2 a0_3 a0_4 a0_5 a0_6 a0_7) else (if a0_4 = 8 then (basculeref22_Apart.j0 k l1 l2 true a0_0 a0_1 a0_2 a0_3 a0_4 a0_5 a0_6 a0_7) else (basculeref22_Apart.j0 k l1 l2 (a0_6 == 0) a0_0 a0_1 a0_2 a0_3 a0_4 a0_5 a0_6 a0_7))) = some r := h
 clear h
 have HC4 := Aside0.mk H
 clear H
 go_enter Tryz.func21, Tryz.ntmps21
 go_upto_region 1 with (first | ((with_reducible refine gate_dst (N := 3) rfl ?_); refine box_event ?hg (N := 3) ?hd (cs := #[.string a0_0, .int .i64 a0_1, .int .i64 a0_2, .int .i64 a0_3, .int .i64 a0_4, .int .i64 a0_5, .int .i64 a0_6, .bool a0_7]) (t := 23) ?hr ?_; (case hd => rfl); (case hg => rfl); (case hr => first | (go_simp; done) | (go_simp; rfl)); intro gb429 hg w5 hbox hb; have n0_ := Aside0.mk (below_step zQx28a4_ hb); have n1_ := Aside0.mk (hbox); have n2_ := Aside0.mk ((by rw [hg]; exact (below_size zQx28a4_) : w.heap.size ≤ gb429)); have n3_ := Aside0.mk ((by rw [hg]; exact (below_size zQx28a4_) : w.heap.size ≤ gb429)); clear HB; have HB := n0_; have BK429 := n1_; have GW429 := n2_; have GE429 := n3_; clear n0_ n1_ n2_ n3_; clear hb hbox hg))
 (try simp only [Act.put, List.setIfInBounds_toArray, List.set_cons_zero, List.set_cons_succ])
 go_cut [24] (fun v24 wc => ∃ (kq : Nat) (x24_3 : Bool), v24 = .bool x24_3 ∧ Aside0 (basculeref22_Apart.j0 kq l1 l2 x24_3 a0_0 a0_1 a0_2 a0_3 a0_4 a0_5 a0_6 a0_7 = some r) ∧ Aside0 (kq ≤ k) ∧ Aside0 (wc.heap[gb429]? = some (.cells #[.string a0_0, .int .i64 a0_1, .int .i64 a0_2, .int .i64 a0_3, .int .i64 a0_4, .int .i64 a0_5, .int .i64 a0_6, .bool a0_7] 23 (0, 0))) ∧ Aside0 (Below w.heap.size w wc))
 case first =>
  have H := HC4.out
  clear HC4
  by_cases c6 : a0_4 = 1
  ·
   rw [if_pos c6] at H
   have c6b0 : (a0_4 == 1) = true := beq_iff_eq.mpr c6
   have c6b1 : (a0_4 != 1) = false := bne_eq_false_iff_eq.mpr c6
   clear c6
   (first | rw [c6b0] | (simp only [i64_w, i32_w]; rw [c6b0]) | skip)
   have H' := Aside0.mk H
   clear H
   have hcz7_0 : w5.cell? ⟨gb429, 0, none⟩ = some (.string a0_0) := (blk_cell BK429.out 0).trans rfl
   have hcz7_1 : w5.cell? ⟨gb429, 1, none⟩ = some (.int .i64 a0_1) := (blk_cell BK429.out 1).trans rfl
   have hcz7_2 : w5.cell? ⟨gb429, 2, none⟩ = some (.int .i64 a0_2) := (blk_cell BK429.out 2).trans rfl
   have hcz7_3 : w5.cell? ⟨gb429, 3, none⟩ = some (.int .i64 a0_3) := (blk_cell BK429.out 3).trans rfl
   have hcz7_4 : w5.cell? ⟨gb429, 4, none⟩ = some (.int .i64 a0_4) := (blk_cell BK429.out 4).trans rfl
   have hcz7_5 : w5.cell? ⟨gb429, 5, none⟩ = some (.int .i64 a0_5) := (blk_cell BK429.out 5).trans rfl
   have hcz7_6 : w5.cell? ⟨gb429, 6, none⟩ = some (.int .i64 a0_6) := (blk_cell BK429.out 6).trans rfl
   have hcz7_7 : w5.cell? ⟨gb429, 7, none⟩ = some (.bool a0_7) := (blk_cell BK429.out 7).trans rfl
   have hfz7_0 := blk_frozen BK429.out 0
   have hfz7_1 := blk_frozen BK429.out 1
   have hfz7_2 := blk_frozen BK429.out 2
   have hfz7_3 := blk_frozen BK429.out 3
   have hfz7_4 := blk_frozen BK429.out 4
   have hfz7_5 := blk_frozen BK429.out 5
   have hfz7_6 := blk_frozen BK429.out 6
   have hfz7_7 := blk_frozen BK429.out 7
   go_wp2
   go_meet
   case rel => exact ⟨_, (true), zQx28a6_, H', ⟨by first | omega | exact Nat.le_refl _⟩, ⟨zQx28a3_⟩, ⟨zQx28a0_⟩⟩
  rw [if_neg c6] at H
  have c6b0 : (a0_4 == 1) = false := beq_eq_false_iff_ne.mpr c6
  have c6b1 : (a0_4 != 1) = true := bne_iff_ne.mpr c6
  (first | rw [c6b0] | (simp only [i64_w, i32_w]; rw [c6b0]) | skip)
  by_cases c8 : a0_4 = 8
  ·
   rw [if_pos c8] at H
   have c8b0 : (a0_4 == 8) = true := beq_iff_eq.mpr c8
   have c8b1 : (a0_4 != 8) = false := bne_eq_false_iff_eq.mpr c8
   clear c8
   have H' := Aside0.mk H
   clear H
   have hcz9_0 : w5.cell? ⟨gb429, 0, none⟩ = some (.string a0_0) := (blk_cell BK429.out 0).trans rfl
   have hcz9_1 : w5.cell? ⟨gb429, 1, none⟩ = some (.int .i64 a0_1) := (blk_cell BK429.out 1).trans rfl
   have hcz9_2 : w5.cell? ⟨gb429, 2, none⟩ = some (.int .i64 a0_2) := (blk_cell BK429.out 2).trans rfl
   have hcz9_3 : w5.cell? ⟨gb429, 3, none⟩ = some (.int .i64 a0_3) := (blk_cell BK429.out 3).trans rfl
   have hcz9_4 : w5.cell? ⟨gb429, 4, none⟩ = some (.int .i64 a0_4) := (blk_cell BK429.out 4).trans rfl
   have hcz9_5 : w5.cell? ⟨gb429, 5, none⟩ = some (.int .i64 a0_5) := (blk_cell BK429.out 5).trans rfl
   have hcz9_6 : w5.cell? ⟨gb429, 6, none⟩ = some (.int .i64 a0_6) := (blk_cell BK429.out 6).trans rfl
   have hcz9_7 : w5.cell? ⟨gb429, 7, none⟩ = some (.bool a0_7) := (blk_cell BK429.out 7).trans rfl
   have hfz9_0 := blk_frozen BK429.out 0
   have hfz9_1 := blk_frozen BK429.out 1
   have hfz9_2 := blk_frozen BK429.out 2
   have hfz9_3 := blk_frozen BK429.out 3
   have hfz9_4 := blk_frozen BK429.out 4
   have hfz9_5 := blk_frozen BK429.out 5
   have hfz9_6 := blk_frozen BK429.out 6
   have hfz9_7 := blk_frozen BK429.out 7
   go_wp2
   go_meet
   case rel => exact ⟨_, (true), zQx28a6_, H', ⟨by first | omega | exact Nat.le_refl _⟩, ⟨zQx28a3_⟩, ⟨zQx28a0_⟩⟩
  rw [if_neg c8] at H
  have c8b0 : (a0_4 == 8) = false := beq_eq_false_iff_ne.mpr c8
  have c8b1 : (a0_4 != 8) = true := bne_iff_ne.mpr c8
  have H' := Aside0.mk H
  clear H
  have hcz10_0 : w5.cell? ⟨gb429, 0, none⟩ = some (.string a0_0) := (blk_cell BK429.out 0).trans rfl
  have hcz10_1 : w5.cell? ⟨gb429, 1, none⟩ = some (.int .i64 a0_1) := (blk_cell BK429.out 1).trans rfl
  have hcz10_2 : w5.cell? ⟨gb429, 2, none⟩ = some (.int .i64 a0_2) := (blk_cell BK429.out 2).trans rfl
  have hcz10_3 : w5.cell? ⟨gb429, 3, none⟩ = some (.int .i64 a0_3) := (blk_cell BK429.out 3).trans rfl
  have hcz10_4 : w5.cell? ⟨gb429, 4, none⟩ = some (.int .i64 a0_4) := (blk_cell BK429.out 4).trans rfl
  have hcz10_5 : w5.cell? ⟨gb429, 5, none⟩ = some (.int .i64 a0_5) := (blk_cell BK429.out 5).trans rfl
  have hcz10_6 : w5.cell? ⟨gb429, 6, none⟩ = some (.int .i64 a0_6) := (blk_cell BK429.out 6).trans rfl
  have hcz10_7 : w5.cell? ⟨gb429, 7, none⟩ = some (.bool a0_7) := (blk_cell BK429.out 7).trans rfl
  have hfz10_0 := blk_frozen BK429.out 0
  have hfz10_1 := blk_frozen BK429.out 1
  have hfz10_2 := blk_frozen BK429.out 2
  have hfz10_3 := blk_frozen BK429.out 3
  have hfz10_4 := blk_frozen BK429.out 4
  have hfz10_5 := blk_frozen BK429.out 5
  have hfz10_6 := blk_frozen BK429.out 6
  have hfz10_7 := blk_frozen BK429.out 7
  go_wp2
  go_meet
  case rel => exact ⟨_, ((a0_6 == 0)), zQx28a6_, H', ⟨by first | omega | exact Nat.le_refl _⟩, ⟨zQx28a3_⟩, ⟨zQx28a0_⟩⟩
 case rest =>
  clear HC4
  try clear c1
  try clear c2
  try clear p2
  try clear c6
  try clear c6b0
  try clear c6b1
  try clear c8
  try clear c8b0
  try clear c8b1
  try clear hcz10_0
  try clear hcz10_1
  try clear hcz10_2
  try clear hcz10_3
  try clear hcz10_4
  try clear hcz10_5
  try clear hcz10_6
  try clear hcz10_7
  try clear hcz7_0
  try clear hcz7_1
  try clear hcz7_2
  try clear hcz7_3
  try clear hcz7_4
  try clear hcz7_5
  try clear hcz7_6
  try clear hcz7_7
  try clear hcz9_0
  try clear hcz9_1
  try clear hcz9_2
  try clear hcz9_3
  try clear hcz9_4
  try clear hcz9_5
  try clear hcz9_6
  try clear hcz9_7
  try clear hfz10_0
  try clear hfz10_1
  try clear hfz10_2
  try clear hfz10_3
  try clear hfz10_4
  try clear hfz10_5
  try clear hfz10_6
  try clear hfz10_7
  try clear hfz7_0
  try clear hfz7_1
  try clear hfz7_2
  try clear hfz7_3
  try clear hfz7_4
  try clear hfz7_5
  try clear hfz7_6
  try clear hfz7_7
  try clear hfz9_0
  try clear hfz9_1
  try clear hfz9_2
  try clear hfz9_3
  try clear hfz9_4
  try clear hfz9_5
  try clear hfz9_6
  try clear hfz9_7
  obtain ⟨kq, x24_3, rfl, HA, HJ3, BK429, HB⟩ := hcut
  cases kq with
  | zero => exact absurd HA.out (by simp [basculeref22_Apart.j0])
  | succ kj3 =>
   have H := HA.out
   clear HA
   simp only [basculeref22_Apart.j0] at H
   by_cases c11 : x24_3 = true
   ·
    subst c11
    have H1 : ((basculeref01_Ints.f kj3 l1 l2).bind fun t430 => (some (!t430))) = some r := by rw [if_pos rfl] at H; exact H
    clear H
    have H := H1
    clear H1
    replace H := Option.bind_eq_some_iff.mp H
    obtain ⟨t430, A120, H⟩ := H
    replace H : (some (!t430)) = some r := H
    have A12 := Aside0.mk A120
    clear A120
    obtain rfl := Option.some.inj H
    go_wp2_with (first | ((with_reducible refine gate_callee (f := 13) rfl ?_); refine goesL_ (some 27) rfl rfl Tryz.func13 (by kernel_rfl) rfl #[.slice A1 l1.length c1, .slice A2 l2.length c2] rfl zQx28a1_ ?_; (with_reducible refine (basculeref01_Ints.calls kj3 _ _ l1 _ _ l2 t430 _ ?side1 ?side2 ?side3 ?side4 A12.out).mono ?_); (case side1 => repeat (first | exact (Kd.C_below HR1.out HB.out) | (with_reducible refine Kd.C_alloc ?_ _) | (with_reducible refine Kd.C_drewN ?_ _) | (with_reducible refine Kd.C_drew ?_))); (case side2 => exact HC1.out); (case side3 => repeat (first | exact (Kd.C_below HR2.out HB.out) | (with_reducible refine Kd.C_alloc ?_ _) | (with_reducible refine Kd.C_drewN ?_ _) | (with_reducible refine Kd.C_drew ?_))); (case side4 => exact HC2.out); rintro e w' ⟨rfl, ⟨nd, rfl⟩⟩; refine ⟨_, rfl, ?_⟩))
    go_ret
    exact ⟨zQx28a8_, zQx28a0_⟩
   replace c11 := Bool.eq_false_iff.mpr c11
   subst c11
   have H1 : ((basculeref22_Digits.f a0_0 a0_1 a0_2 a0_3 a0_4 a0_5 a0_6 a0_7 l1).bind fun bt431 => ((basculeref22_Digits.f a0_0 a0_1 a0_2 a0_3 a0_4 a0_5 a0_6 a0_7 l2).bind fun bt435 => (if (bt431.2 != bt435.2) = true then ((basculeref22_plus.f kj3 bt431.1 bt435.1).bind fun t439 => ((basculeref22_times.f kj3 ([] : List Int) 10 a0_6).bind fun t442 => ((basculeref22_less.f t439 t442).bind fun t445 => (some (!t445))))) else ((basculeref22_less.f bt431.1 bt435.1).bind fun t446 => (if t446 = true then ((basculeref22_minus.f kj3 bt435.1 bt431.1).bind fun t447 => ((basculeref22_times.f kj3 ([] : List Int) 10 a0_6).bind fun t450 => ((basculeref22_less.f t447 t450).bind fun t453 => (some (!t453))))) else ((basculeref22_minus.f kj3 bt431.1 bt435.1).bind fun t454 => ((basculeref22_times.f kj3 ([] : List Int) 10 a0_6).bind fun t457 => ((basculeref22_less.f t454 t457).bind fun t460 => (some (!t460)))))))))) = some r := by rw [if_neg (show ¬ (false = true) by decide)] at H; exact H
   clear H
   have H := H1
   clear H1
   replace H := Option.bind_eq_some_iff.mp H
   obtain ⟨⟨t431, t434⟩, A130, H⟩ := H
   replace H : ((basculeref22_Digits.f a0_0 a0_1 a0_2 a0_3 a0_4 a0_5 a0_6 a0_7 l2).bind fun bt435 => (if (t434 != bt435.2) = true then ((basculeref22_plus.f kj3 t431 bt435.1).bind fun t439 => ((basculeref22_times.f kj3 ([] : List Int) 10 a0_6).bind fun t442 => ((basculeref22_less.f t439 t442).bind fun t445 => (some (!t445))))) else ((basculeref22_less.f t431 bt435.1).bind fun t446 => (if t446 = true then ((basculeref22_minus.f kj3 bt435.1 t431).bind fun t447 => ((basculeref22_times.f kj3 ([] : List Int) 10 a0_6).bind fun t450 => ((basculeref22_less.f t447 t450).bind fun t453 => (some (!t453))))) else ((basculeref22_minus.f kj3 t431 bt435.1).bind fun t454 => ((basculeref22_times.f kj3 ([] : List Int) 10 a0_6).bind fun t457 => ((basculeref22_less.f t454 t457).bind fun t460 => (some (!t460))))))))) = some r := H
   have A13 := Aside0.mk A130
   clear A130
   replace H := Option.bind_eq_some_iff.mp H
   obtain ⟨⟨t435, t438⟩, A140, H⟩ := H
   replace H : (if (t434 != t438) = true then ((basculeref22_plus.f kj3 t431 t435).bind fun t439 => ((basculeref22_times.f kj3 ([] : List Int) 10 a0_6).bind fun t442 => ((basculeref22_less.f t439 t442).bind fun t445 => (some (!t445))))) else ((basculeref22_less.f t431 t435).bind fun t446 => (if t446 = true then ((basculeref22_minus.f kj3 t435 t431).bind fun t447 => ((basculeref22_times.f kj3 ([] : List Int) 10 a0_6).bind fun t450 => ((basculeref22_less.f t447 t450).bind fun t453 => (some (!t453))))) else ((basculeref22_minus.f kj3 t431 t435).bind fun t454 => ((basculeref22_times.f kj3 ([] : List Int) 10 a0_6).bind fun t457 => ((basculeref22_less.f t454 t457).bind fun t460 => (some (!t460)))))))) = some r := H
   have A14 := Aside0.mk A140
   clear A140
   by_cases c15 : (t434 != t438) = true
   ·
    rw [if_pos c15] at H
    have c15b0 : (t434 != t438) = true := c15
    (try (have c15b1 : decide (t434 = t438) = false := by simpa using c15))
    (try (have c15b2 : (t434 == t438) = false := by simpa using c15))
    (try (have c15b3 : ¬ (t434 = t438) := by simpa using c15))
    clear c15
    replace H := Option.bind_eq_some_iff.mp H
    obtain ⟨t439, A160, H⟩ := H
    replace H : ((basculeref22_times.f kj3 ([] : List Int) 10 a0_6).bind fun t442 => ((basculeref22_less.f t439 t442).bind fun t445 => (some (!t445)))) = some r := H
    have A16 := Aside0.mk A160
    clear A160
    replace H := Option.bind_eq_some_iff.mp H
    obtain ⟨t442, A170, H⟩ := H
    replace H : ((basculeref22_less.f t439 t442).bind fun t445 => (some (!t445))) = some r := H
    have A17 := Aside0.mk A170
    clear A170
    replace H := Option.bind_eq_some_iff.mp H
    obtain ⟨t445, A180, H⟩ := H
    replace H : (some (!t445)) = some r := H
    have A18 := Aside0.mk A180
    clear A180
    obtain rfl := Option.some.inj H
    have hcz19_0 : wc.cell? ⟨gb429, 0, none⟩ = some (.string a0_0) := (blk_cell BK429.out 0).trans rfl
    have hcz19_1 : wc.cell? ⟨gb429, 1, none⟩ = some (.int .i64 a0_1) := (blk_cell BK429.out 1).trans rfl
    have hcz19_2 : wc.cell? ⟨gb429, 2, none⟩ = some (.int .i64 a0_2) := (blk_cell BK429.out 2).trans rfl
    have hcz19_3 : wc.cell? ⟨gb429, 3, none⟩ = some (.int .i64 a0_3) := (blk_cell BK429.out 3).trans rfl
    have hcz19_4 : wc.cell? ⟨gb429, 4, none⟩ = some (.int .i64 a0_4) := (blk_cell BK429.out 4).trans rfl
    have hcz19_5 : wc.cell? ⟨gb429, 5, none⟩ = some (.int .i64 a0_5) := (blk_cell BK429.out 5).trans rfl
    have hcz19_6 : wc.cell? ⟨gb429, 6, none⟩ = some (.int .i64 a0_6) := (blk_cell BK429.out 6).trans rfl
    have hcz19_7 : wc.cell? ⟨gb429, 7, none⟩ = some (.bool a0_7) := (blk_cell BK429.out 7).trans rfl
    have hfz19_0 := blk_frozen BK429.out 0
    have hfz19_1 := blk_frozen BK429.out 1
    have hfz19_2 := blk_frozen BK429.out 2
    have hfz19_3 := blk_frozen BK429.out 3
    have hfz19_4 := blk_frozen BK429.out 4
    have hfz19_5 := blk_frozen BK429.out 5
    have hfz19_6 := blk_frozen BK429.out 6
    have hfz19_7 := blk_frozen BK429.out 7
    go_wp2_with (first | ((with_reducible refine gate_callee (f := 34) rfl ?_); refine goesL_ (some 32) rfl rfl Tryz.func34 (by kernel_rfl) rfl #[.agg #[.string a0_0, .int .i64 a0_1, .int .i64 a0_2, .int .i64 a0_3, .int .i64 a0_4, .int .i64 a0_5, .int .i64 a0_6, .bool a0_7], .slice A1 l1.length c1] rfl zQx28a1_ ?_; (with_reducible refine (basculeref22_Digits.calls a0_0 a0_1 a0_2 a0_3 a0_4 a0_5 a0_6 a0_7 _ _ l1 t431 t434 _ ?side1 ?side2 A13.out).mono ?_); (case side1 => repeat (first | exact (Kd.C_below HR1.out HB.out) | (with_reducible refine Kd.C_alloc ?_ _) | (with_reducible refine Kd.C_drewN ?_ _) | (with_reducible refine Kd.C_drew ?_))); (case side2 => exact HC1.out); rintro e w20 ⟨v432, rfl, ho0, hb⟩; refine ⟨_, rfl, ?_⟩; have n0_ := Aside0.mk (Kd.R_lower ho0 (below_size zQx28a0_)); have n1_ := Aside0.mk (blk_below (g := gb429) (o := .cells #[.string a0_0, .int .i64 a0_1, .int .i64 a0_2, .int .i64 a0_3, .int .i64 a0_4, .int .i64 a0_5, .int .i64 a0_6, .bool a0_7] 23 (0, 0)) zQx28a3_ hb); have n2_ := Aside0.mk (below_step zQx28a0_ hb); clear BK429; clear HB; have HO433 := n0_; have BK429 := n1_; have HB := n2_; clear n0_ n1_ n2_; (try clear hb); (try clear hb2); (try clear hk); (try clear hi); (try clear ho0); have hcz21_0 : w20.cell? ⟨gb429, 0, none⟩ = some (.string a0_0) := (blk_cell BK429.out 0).trans rfl; have hcz21_1 : w20.cell? ⟨gb429, 1, none⟩ = some (.int .i64 a0_1) := (blk_cell BK429.out 1).trans rfl; have hcz21_2 : w20.cell? ⟨gb429, 2, none⟩ = some (.int .i64 a0_2) := (blk_cell BK429.out 2).trans rfl; have hcz21_3 : w20.cell? ⟨gb429, 3, none⟩ = some (.int .i64 a0_3) := (blk_cell BK429.out 3).trans rfl; have hcz21_4 : w20.cell? ⟨gb429, 4, none⟩ = some (.int .i64 a0_4) := (blk_cell BK429.out 4).trans rfl; have hcz21_5 : w20.cell? ⟨gb429, 5, none⟩ = some (.int .i64 a0_5) := (blk_cell BK429.out 5).trans rfl; have hcz21_6 : w20.cell? ⟨gb429, 6, none⟩ = some (.int .i64 a0_6) := (blk_cell BK429.out 6).trans rfl; have hcz21_7 : w20.cell? ⟨gb429, 7, none⟩ = some (.bool a0_7) := (blk_cell BK429.out 7).trans rfl; have hfz21_0 := blk_frozen BK429.out 0; have hfz21_1 := blk_frozen BK429.out 1; have hfz21_2 := blk_frozen BK429.out 2; have hfz21_3 := blk_frozen BK429.out 3; have hfz21_4 := blk_frozen BK429.out 4; have hfz21_5 := blk_frozen BK429.out 5; have hfz21_6 := blk_frozen BK429.out 6; have hfz21_7 := blk_frozen BK429.out 7) | ((with_reducible refine gate_callee (f := 34) rfl ?_); refine goesL_ (some 38) rfl rfl Tryz.func34 (by kernel_rfl) rfl #[.agg #[.string a0_0, .int .i64 a0_1, .int .i64 a0_2, .int .i64 a0_3, .int .i64 a0_4, .int .i64 a0_5, .int .i64 a0_6, .bool a0_7], .slice A2 l2.length c2] rfl zQx28a1_ ?_; (with_reducible refine (basculeref22_Digits.calls a0_0 a0_1 a0_2 a0_3 a0_4 a0_5 a0_6 a0_7 _ _ l2 t435 t438 _ ?side1 ?side2 A14.out).mono ?_); (case side1 => repeat (first | exact (Kd.C_below HR2.out HB.out) | (with_reducible refine Kd.C_alloc ?_ _) | (with_reducible refine Kd.C_drewN ?_ _) | (with_reducible refine Kd.C_drew ?_))); (case side2 => exact HC2.out); rintro e w22 ⟨v436, rfl, ho0, hb⟩; refine ⟨_, rfl, ?_⟩; have n0_ := Aside0.mk (Kd.R_elder' zQx28a2_ (Kd.R_base ho0) hb); have n1_ := Aside0.mk (Kd.R_lower (Kd.R_new' ho0 (Kd.R_lt zQx28a2_)) (below_size zQx28a0_)); have n2_ := Aside0.mk (blk_below (g := gb429) (o := .cells #[.string a0_0, .int .i64 a0_1, .int .i64 a0_2, .int .i64 a0_3, .int .i64 a0_4, .int .i64 a0_5, .int .i64 a0_6, .bool a0_7] 23 (0, 0)) zQx28a3_ hb); have n3_ := Aside0.mk (below_step zQx28a0_ hb); clear HO433; clear BK429; clear HB; have HO433 := n0_; have HO437 := n1_; have BK429 := n2_; have HB := n3_; clear n0_ n1_ n2_ n3_; (try clear hb); (try clear hb2); (try clear hk); (try clear hi); (try clear ho0); obtain ⟨Ao23, co23, eo23⟩ := Kd.R_slice HO433.out; subst eo23; obtain ⟨Ao24, co24, eo24⟩ := Kd.R_slice HO437.out; subst eo24) | ((with_reducible refine gate_callee (f := 42) rfl ?_); refine goesL_ (some 46) rfl rfl Tryz.func42 (by kernel_rfl) rfl #[.slice Ao23 t431.length co23, .slice Ao24 t435.length co24] rfl zQx28a1_ ?_; (with_reducible refine (basculeref22_plus.calls kj3 _ _ t431 _ _ t435 t439 _ ?side1 ?side2 ?side3 ?side4 A16.out).mono ?_); (case side1 => repeat (first | exact (Kd.R_reads' HO433.out).2.2 | (with_reducible refine Kd.C_alloc ?_ _) | (with_reducible refine Kd.C_drewN ?_ _) | (with_reducible refine Kd.C_drew ?_))); (case side2 => exact (Kd.R_reads' HO433.out).2.1); (case side3 => repeat (first | exact (Kd.R_reads' HO437.out).2.2 | (with_reducible refine Kd.C_alloc ?_ _) | (with_reducible refine Kd.C_drewN ?_ _) | (with_reducible refine Kd.C_drew ?_))); (case side4 => exact (Kd.R_reads' HO437.out).2.1); rintro e w25 ⟨v440, rfl, ho0, hb⟩; refine ⟨_, rfl, ?_⟩; have n0_ := Aside0.mk (Kd.R_elder' zQx28a2_ (Kd.R_base ho0) hb); have n1_ := Aside0.mk (Kd.R_elder' zQx28a5_ (Kd.R_base ho0) hb); have n2_ := Aside0.mk (Kd.R_lower (Kd.R_new' (Kd.R_new' ho0 (Kd.R_lt zQx28a2_)) (Kd.R_lt zQx28a5_)) (below_size zQx28a0_)); have n3_ := Aside0.mk (blk_below (g := gb429) (o := .cells #[.string a0_0, .int .i64 a0_1, .int .i64 a0_2, .int .i64 a0_3, .int .i64 a0_4, .int .i64 a0_5, .int .i64 a0_6, .bool a0_7] 23 (0, 0)) zQx28a3_ hb); have n4_ := Aside0.mk (below_step zQx28a0_ hb); clear HO433; clear HO437; clear BK429; clear HB; have HO433 := n0_; have HO437 := n1_; have HO441 := n2_; have BK429 := n3_; have HB := n4_; clear n0_ n1_ n2_ n3_ n4_; (try clear hb); (try clear hb2); (try clear hk); (try clear hi); (try clear ho0); have hcz26_0 : w25.cell? ⟨gb429, 0, none⟩ = some (.string a0_0) := (blk_cell BK429.out 0).trans rfl; have hcz26_1 : w25.cell? ⟨gb429, 1, none⟩ = some (.int .i64 a0_1) := (blk_cell BK429.out 1).trans rfl; have hcz26_2 : w25.cell? ⟨gb429, 2, none⟩ = some (.int .i64 a0_2) := (blk_cell BK429.out 2).trans rfl; have hcz26_3 : w25.cell? ⟨gb429, 3, none⟩ = some (.int .i64 a0_3) := (blk_cell BK429.out 3).trans rfl; have hcz26_4 : w25.cell? ⟨gb429, 4, none⟩ = some (.int .i64 a0_4) := (blk_cell BK429.out 4).trans rfl; have hcz26_5 : w25.cell? ⟨gb429, 5, none⟩ = some (.int .i64 a0_5) := (blk_cell BK429.out 5).trans rfl; have hcz26_6 : w25.cell? ⟨gb429, 6, none⟩ = some (.int .i64 a0_6) := (blk_cell BK429.out 6).trans rfl; have hcz26_7 : w25.cell? ⟨gb429, 7, none⟩ = some (.bool a0_7) := (blk_cell BK429.out 7).trans rfl; have hfz26_0 := blk_frozen BK429.out 0; have hfz26_1 := blk_frozen BK429.out 1; have hfz26_2 := blk_frozen BK429.out 2; have hfz26_3 := blk_frozen BK429.out 3; have hfz26_4 := blk_frozen BK429.out 4; have hfz26_5 := blk_frozen BK429.out 5; have hfz26_6 := blk_frozen BK429.out 6; have hfz26_7 := blk_frozen BK429.out 7) | ((with_reducible refine gate_callee (f := 45) rfl ?_); refine goesL_ (some 59) rfl rfl Tryz.func45 (by kernel_rfl) rfl #[.slice none 0 0, .int .i64 10, .int .i64 a0_6] rfl zQx28a1_ ?_; (refine (basculeref22_times.calls kj3 _ _ ([] : List Int) 10 a0_6 t442 _ ?side1 ?side2 A17.out).mono ?_); (case side1 => exact Kd.C_nil _ _); (case side2 => exact Nat.le_refl _); rintro e w27 ⟨v443, rfl, ho0, hb⟩; refine ⟨_, rfl, ?_⟩; have n0_ := Aside0.mk (Kd.R_elder' zQx28a2_ (Kd.R_base ho0) hb); have n1_ := Aside0.mk (Kd.R_elder' zQx28a5_ (Kd.R_base ho0) hb); have n2_ := Aside0.mk (Kd.R_elder' zQx28a10_ (Kd.R_base ho0) hb); have n3_ := Aside0.mk (Kd.R_lower (Kd.R_new' (Kd.R_new' (Kd.R_new' ho0 (Kd.R_lt zQx28a2_)) (Kd.R_lt zQx28a5_)) (Kd.R_lt zQx28a10_)) (below_size zQx28a0_)); have n4_ := Aside0.mk (blk_below (g := gb429) (o := .cells #[.string a0_0, .int .i64 a0_1, .int .i64 a0_2, .int .i64 a0_3, .int .i64 a0_4, .int .i64 a0_5, .int .i64 a0_6, .bool a0_7] 23 (0, 0)) zQx28a3_ hb); have n5_ := Aside0.mk (below_step zQx28a0_ hb); clear HO433; clear HO437; clear HO441; clear BK429; clear HB; have HO433 := n0_; have HO437 := n1_; have HO441 := n2_; have HO444 := n3_; have BK429 := n4_; have HB := n5_; clear n0_ n1_ n2_ n3_ n4_ n5_; (try clear hb); (try clear hb2); (try clear hk); (try clear hi); (try clear ho0); obtain ⟨Ao28, co28, eo28⟩ := Kd.R_slice HO441.out; subst eo28; obtain ⟨Ao29, co29, eo29⟩ := Kd.R_slice HO444.out; subst eo29) | ((with_reducible refine gate_callee (f := 43) rfl ?_); refine goesL_ (some 60) rfl rfl Tryz.func43 (by kernel_rfl) rfl #[.slice Ao28 t439.length co28, .slice Ao29 t442.length co29] rfl zQx28a1_ ?_; (with_reducible refine (basculeref22_less.calls _ _ t439 _ _ t442 t445 _ ?side1 ?side2 ?side3 ?side4 A18.out).mono ?_); (case side1 => repeat (first | exact (Kd.R_reads' HO441.out).2.2 | (with_reducible refine Kd.C_alloc ?_ _) | (with_reducible refine Kd.C_drewN ?_ _) | (with_reducible refine Kd.C_drew ?_))); (case side2 => exact (Kd.R_reads' HO441.out).2.1); (case side3 => repeat (first | exact (Kd.R_reads' HO444.out).2.2 | (with_reducible refine Kd.C_alloc ?_ _) | (with_reducible refine Kd.C_drewN ?_ _) | (with_reducible refine Kd.C_drew ?_))); (case side4 => exact (Kd.R_reads' HO444.out).2.1); rintro e w30 ⟨rfl, hb⟩; refine ⟨_, rfl, ?_⟩; have n0_ := Aside0.mk (Kd.R_below zQx28a2_ hb); have n1_ := Aside0.mk (Kd.R_below zQx28a5_ hb); have n2_ := Aside0.mk (Kd.R_below zQx28a10_ hb); have n3_ := Aside0.mk (Kd.R_below (by (with_reducible repeat (first | apply Kd.R_alloc | apply Kd.R_drewN | apply Kd.R_drew)); exact HO444.out) hb); have n4_ := Aside0.mk (blk_below (g := gb429) (o := .cells #[.string a0_0, .int .i64 a0_1, .int .i64 a0_2, .int .i64 a0_3, .int .i64 a0_4, .int .i64 a0_5, .int .i64 a0_6, .bool a0_7] 23 (0, 0)) zQx28a3_ hb); have n5_ := Aside0.mk (below_step zQx28a0_ hb); clear HO433; clear HO437; clear HO441; clear HO444; clear BK429; clear HB; have HO433 := n0_; have HO437 := n1_; have HO441 := n2_; have HO444 := n3_; have BK429 := n4_; have HB := n5_; clear n0_ n1_ n2_ n3_ n4_ n5_; (try clear hb); (try clear hb2); (try clear hk); (try clear hi)))
    go_ret
    exact ⟨zQx28a8_, zQx28a0_⟩
   rw [if_neg c15] at H
   have c15b0 : (t434 != t438) = false := by simpa using c15
   (try (have c15b1 : decide (t434 = t438) = true := by simpa using c15))
   (try (have c15b2 : (t434 == t438) = true := by simpa using c15))
   clear c15
   replace H := Option.bind_eq_some_iff.mp H
   obtain ⟨t446, A310, H⟩ := H
   replace H : (if t446 = true then ((basculeref22_minus.f kj3 t435 t431).bind fun t447 => ((basculeref22_times.f kj3 ([] : List Int) 10 a0_6).bind fun t450 => ((basculeref22_less.f t447 t450).bind fun t453 => (some (!t453))))) else ((basculeref22_minus.f kj3 t431 t435).bind fun t454 => ((basculeref22_times.f kj3 ([] : List Int) 10 a0_6).bind fun t457 => ((basculeref22_less.f t454 t457).bind fun t460 => (some (!t460)))))) = some r := H
   have A31 := Aside0.mk A310
   clear A310
   by_cases c32 : t446 = true
   ·
    subst c32
    have H1 : ((basculeref22_minus.f kj3 t435 t431).bind fun t447 => ((basculeref22_times.f kj3 ([] : List Int) 10 a0_6).bind fun t450 => ((basculeref22_less.f t447 t450).bind fun t453 => (some (!t453))))) = some r := by rw [if_pos rfl] at H; exact H
    clear H
    have H := H1
    clear H1
    replace H := Option.bind_eq_some_iff.mp H
    obtain ⟨t447, A330, H⟩ := H
    replace H : ((basculeref22_times.f kj3 ([] : List Int) 10 a0_6).bind fun t450 => ((basculeref22_less.f t447 t450).bind fun t453 => (some (!t453)))) = some r := H
    have A33 := Aside0.mk A330
    clear A330
    replace H := Option.bind_eq_some_iff.mp H
    obtain ⟨t450, A340, H⟩ := H
    replace H : ((basculeref22_less.f t447 t450).bind fun t453 => (some (!t453))) = some r := H
    have A34 := Aside0.mk A340
    clear A340
    replace H := Option.bind_eq_some_iff.mp H
    obtain ⟨t453, A350, H⟩ := H
    replace H : (some (!t453)) = some r := H
    have A35 := Aside0.mk A350
    clear A350
    obtain rfl := Option.some.inj H
    have hcz36_0 : wc.cell? ⟨gb429, 0, none⟩ = some (.string a0_0) := (blk_cell BK429.out 0).trans rfl
    have hcz36_1 : wc.cell? ⟨gb429, 1, none⟩ = some (.int .i64 a0_1) := (blk_cell BK429.out 1).trans rfl
    have hcz36_2 : wc.cell? ⟨gb429, 2, none⟩ = some (.int .i64 a0_2) := (blk_cell BK429.out 2).trans rfl
    have hcz36_3 : wc.cell? ⟨gb429, 3, none⟩ = some (.int .i64 a0_3) := (blk_cell BK429.out 3).trans rfl
    have hcz36_4 : wc.cell? ⟨gb429, 4, none⟩ = some (.int .i64 a0_4) := (blk_cell BK429.out 4).trans rfl
    have hcz36_5 : wc.cell? ⟨gb429, 5, none⟩ = some (.int .i64 a0_5) := (blk_cell BK429.out 5).trans rfl
    have hcz36_6 : wc.cell? ⟨gb429, 6, none⟩ = some (.int .i64 a0_6) := (blk_cell BK429.out 6).trans rfl
    have hcz36_7 : wc.cell? ⟨gb429, 7, none⟩ = some (.bool a0_7) := (blk_cell BK429.out 7).trans rfl
    have hfz36_0 := blk_frozen BK429.out 0
    have hfz36_1 := blk_frozen BK429.out 1
    have hfz36_2 := blk_frozen BK429.out 2
    have hfz36_3 := blk_frozen BK429.out 3
    have hfz36_4 := blk_frozen BK429.out 4
    have hfz36_5 := blk_frozen BK429.out 5
    have hfz36_6 := blk_frozen BK429.out 6
    have hfz36_7 := blk_frozen BK429.out 7
    go_wp2_with (first | ((with_reducible refine gate_callee (f := 34) rfl ?_); refine goesL_ (some 32) rfl rfl Tryz.func34 (by kernel_rfl) rfl #[.agg #[.string a0_0, .int .i64 a0_1, .int .i64 a0_2, .int .i64 a0_3, .int .i64 a0_4, .int .i64 a0_5, .int .i64 a0_6, .bool a0_7], .slice A1 l1.length c1] rfl zQx28a1_ ?_; (with_reducible refine (basculeref22_Digits.calls a0_0 a0_1 a0_2 a0_3 a0_4 a0_5 a0_6 a0_7 _ _ l1 t431 t434 _ ?side1 ?side2 A13.out).mono ?_); (case side1 => repeat (first | exact (Kd.C_below HR1.out HB.out) | (with_reducible refine Kd.C_alloc ?_ _) | (with_reducible refine Kd.C_drewN ?_ _) | (with_reducible refine Kd.C_drew ?_))); (case side2 => exact HC1.out); rintro e w37 ⟨v432, rfl, ho0, hb⟩; refine ⟨_, rfl, ?_⟩; have n0_ := Aside0.mk (Kd.R_lower ho0 (below_size zQx28a0_)); have n1_ := Aside0.mk (blk_below (g := gb429) (o := .cells #[.string a0_0, .int .i64 a0_1, .int .i64 a0_2, .int .i64 a0_3, .int .i64 a0_4, .int .i64 a0_5, .int .i64 a0_6, .bool a0_7] 23 (0, 0)) zQx28a3_ hb); have n2_ := Aside0.mk (below_step zQx28a0_ hb); clear BK429; clear HB; have HO433 := n0_; have BK429 := n1_; have HB := n2_; clear n0_ n1_ n2_; (try clear hb); (try clear hb2); (try clear hk); (try clear hi); (try clear ho0); have hcz38_0 : w37.cell? ⟨gb429, 0, none⟩ = some (.string a0_0) := (blk_cell BK429.out 0).trans rfl; have hcz38_1 : w37.cell? ⟨gb429, 1, none⟩ = some (.int .i64 a0_1) := (blk_cell BK429.out 1).trans rfl; have hcz38_2 : w37.cell? ⟨gb429, 2, none⟩ = some (.int .i64 a0_2) := (blk_cell BK429.out 2).trans rfl; have hcz38_3 : w37.cell? ⟨gb429, 3, none⟩ = some (.int .i64 a0_3) := (blk_cell BK429.out 3).trans rfl; have hcz38_4 : w37.cell? ⟨gb429, 4, none⟩ = some (.int .i64 a0_4) := (blk_cell BK429.out 4).trans rfl; have hcz38_5 : w37.cell? ⟨gb429, 5, none⟩ = some (.int .i64 a0_5) := (blk_cell BK429.out 5).trans rfl; have hcz38_6 : w37.cell? ⟨gb429, 6, none⟩ = some (.int .i64 a0_6) := (blk_cell BK429.out 6).trans rfl; have hcz38_7 : w37.cell? ⟨gb429, 7, none⟩ = some (.bool a0_7) := (blk_cell BK429.out 7).trans rfl; have hfz38_0 := blk_frozen BK429.out 0; have hfz38_1 := blk_frozen BK429.out 1; have hfz38_2 := blk_frozen BK429.out 2; have hfz38_3 := blk_frozen BK429.out 3; have hfz38_4 := blk_frozen BK429.out 4; have hfz38_5 := blk_frozen BK429.out 5; have hfz38_6 := blk_frozen BK429.out 6; have hfz38_7 := blk_frozen BK429.out 7) | ((with_reducible refine gate_callee (f := 34) rfl ?_); refine goesL_ (some 38) rfl rfl Tryz.func34 (by kernel_rfl) rfl #[.agg #[.string a0_0, .int .i64 a0_1, .int .i64 a0_2, .int .i64 a0_3, .int .i64 a0_4, .int .i64 a0_5, .int .i64 a0_6, .bool a0_7], .slice A2 l2.length c2] rfl zQx28a1_ ?_; (with_reducible refine (basculeref22_Digits.calls a0_0 a0_1 a0_2 a0_3 a0_4 a0_5 a0_6 a0_7 _ _ l2 t435 t438 _ ?side1 ?side2 A14.out).mono ?_); (case side1 => repeat (first | exact (Kd.C_below HR2.out HB.out) | (with_reducible refine Kd.C_alloc ?_ _) | (with_reducible refine Kd.C_drewN ?_ _) | (with_reducible refine Kd.C_drew ?_))); (case side2 => exact HC2.out); rintro e w39 ⟨v436, rfl, ho0, hb⟩; refine ⟨_, rfl, ?_⟩; have n0_ := Aside0.mk (Kd.R_elder' zQx28a2_ (Kd.R_base ho0) hb); have n1_ := Aside0.mk (Kd.R_lower (Kd.R_new' ho0 (Kd.R_lt zQx28a2_)) (below_size zQx28a0_)); have n2_ := Aside0.mk (blk_below (g := gb429) (o := .cells #[.string a0_0, .int .i64 a0_1, .int .i64 a0_2, .int .i64 a0_3, .int .i64 a0_4, .int .i64 a0_5, .int .i64 a0_6, .bool a0_7] 23 (0, 0)) zQx28a3_ hb); have n3_ := Aside0.mk (below_step zQx28a0_ hb); clear HO433; clear BK429; clear HB; have HO433 := n0_; have HO437 := n1_; have BK429 := n2_; have HB := n3_; clear n0_ n1_ n2_ n3_; (try clear hb); (try clear hb2); (try clear hk); (try clear hi); (try clear ho0); obtain ⟨Ao40, co40, eo40⟩ := Kd.R_slice HO433.out; subst eo40; obtain ⟨Ao41, co41, eo41⟩ := Kd.R_slice HO437.out; subst eo41) | ((with_reducible refine gate_callee (f := 43) rfl ?_); refine goesL_ (some 49) rfl rfl Tryz.func43 (by kernel_rfl) rfl #[.slice Ao40 t431.length co40, .slice Ao41 t435.length co41] rfl zQx28a1_ ?_; (with_reducible refine (basculeref22_less.calls _ _ t431 _ _ t435 true _ ?side1 ?side2 ?side3 ?side4 A31.out).mono ?_); (case side1 => repeat (first | exact (Kd.R_reads' HO433.out).2.2 | (with_reducible refine Kd.C_alloc ?_ _) | (with_reducible refine Kd.C_drewN ?_ _) | (with_reducible refine Kd.C_drew ?_))); (case side2 => exact (Kd.R_reads' HO433.out).2.1); (case side3 => repeat (first | exact (Kd.R_reads' HO437.out).2.2 | (with_reducible refine Kd.C_alloc ?_ _) | (with_reducible refine Kd.C_drewN ?_ _) | (with_reducible refine Kd.C_drew ?_))); (case side4 => exact (Kd.R_reads' HO437.out).2.1); rintro e w42 ⟨rfl, hb⟩; refine ⟨_, rfl, ?_⟩; have n0_ := Aside0.mk (Kd.R_below zQx28a2_ hb); have n1_ := Aside0.mk (Kd.R_below zQx28a5_ hb); have n2_ := Aside0.mk (blk_below (g := gb429) (o := .cells #[.string a0_0, .int .i64 a0_1, .int .i64 a0_2, .int .i64 a0_3, .int .i64 a0_4, .int .i64 a0_5, .int .i64 a0_6, .bool a0_7] 23 (0, 0)) zQx28a3_ hb); have n3_ := Aside0.mk (below_step zQx28a0_ hb); clear HO433; clear HO437; clear BK429; clear HB; have HO433 := n0_; have HO437 := n1_; have BK429 := n2_; have HB := n3_; clear n0_ n1_ n2_ n3_; (try clear hb); (try clear hb2); (try clear hk); (try clear hi)) | ((with_reducible refine gate_callee (f := 44) rfl ?_); refine goesL_ (some 52) rfl rfl Tryz.func44 (by kernel_rfl) rfl #[.slice Ao41 t435.length co41, .slice Ao40 t431.length co40] rfl zQx28a1_ ?_; (with_reducible refine (basculeref22_minus.calls kj3 _ _ t435 _ _ t431 t447 _ ?side1 ?side2 ?side3 ?side4 A33.out).mono ?_); (case side1 => repeat (first | exact (Kd.R_reads' HO437.out).2.2 | (with_reducible refine Kd.C_alloc ?_ _) | (with_reducible refine Kd.C_drewN ?_ _) | (with_reducible refine Kd.C_drew ?_))); (case side2 => exact (Kd.R_reads' HO437.out).2.1); (case side3 => repeat (first | exact (Kd.R_reads' HO433.out).2.2 | (with_reducible refine Kd.C_alloc ?_ _) | (with_reducible refine Kd.C_drewN ?_ _) | (with_reducible refine Kd.C_drew ?_))); (case side4 => exact (Kd.R_reads' HO433.out).2.1); rintro e w43 ⟨v448, rfl, ho0, hb⟩; refine ⟨_, rfl, ?_⟩; have n0_ := Aside0.mk (Kd.R_elder' zQx28a2_ (Kd.R_base ho0) hb); have n1_ := Aside0.mk (Kd.R_elder' zQx28a5_ (Kd.R_base ho0) hb); have n2_ := Aside0.mk (Kd.R_lower (Kd.R_new' (Kd.R_new' ho0 (Kd.R_lt zQx28a2_)) (Kd.R_lt zQx28a5_)) (below_size zQx28a0_)); have n3_ := Aside0.mk (blk_below (g := gb429) (o := .cells #[.string a0_0, .int .i64 a0_1, .int .i64 a0_2, .int .i64 a0_3, .int .i64 a0_4, .int .i64 a0_5, .int .i64 a0_6, .bool a0_7] 23 (0, 0)) zQx28a3_ hb); have n4_ := Aside0.mk (below_step zQx28a0_ hb); clear HO433; clear HO437; clear BK429; clear HB; have HO433 := n0_; have HO437 := n1_; have HO449 := n2_; have BK429 := n3_; have HB := n4_; clear n0_ n1_ n2_ n3_ n4_; (try clear hb); (try clear hb2); (try clear hk); (try clear hi); (try clear ho0); have hcz44_0 : w43.cell? ⟨gb429, 0, none⟩ = some (.string a0_0) := (blk_cell BK429.out 0).trans rfl; have hcz44_1 : w43.cell? ⟨gb429, 1, none⟩ = some (.int .i64 a0_1) := (blk_cell BK429.out 1).trans rfl; have hcz44_2 : w43.cell? ⟨gb429, 2, none⟩ = some (.int .i64 a0_2) := (blk_cell BK429.out 2).trans rfl; have hcz44_3 : w43.cell? ⟨gb429, 3, none⟩ = some (.int .i64 a0_3) := (blk_cell BK429.out 3).trans rfl; have hcz44_4 : w43.cell? ⟨gb429, 4, none⟩ = some (.int .i64 a0_4) := (blk_cell BK429.out 4).trans rfl; have hcz44_5 : w43.cell? ⟨gb429, 5, none⟩ = some (.int .i64 a0_5) := (blk_cell BK429.out 5).trans rfl; have hcz44_6 : w43.cell? ⟨gb429, 6, none⟩ = some (.int .i64 a0_6) := (blk_cell BK429.out 6).trans rfl; have hcz44_7 : w43.cell? ⟨gb429, 7, none⟩ = some (.bool a0_7) := (blk_cell BK429.out 7).trans rfl; have hfz44_0 := blk_frozen BK429.out 0; have hfz44_1 := blk_frozen BK429.out 1; have hfz44_2 := blk_frozen BK429.out 2; have hfz44_3 := blk_frozen BK429.out 3; have hfz44_4 := blk_frozen BK429.out 4; have hfz44_5 := blk_frozen BK429.out 5; have hfz44_6 := blk_frozen BK429.out 6; have hfz44_7 := blk_frozen BK429.out 7) | ((with_reducible refine gate_callee (f := 45) rfl ?_); refine goesL_ (some 59) rfl rfl Tryz.func45 (by kernel_rfl) rfl #[.slice none 0 0, .int .i64 10, .int .i64 a0_6] rfl zQx28a1_ ?_; (refine (basculeref22_times.calls kj3 _ _ ([] : List Int) 10 a0_6 t450 _ ?side1 ?side2 A34.out).mono ?_); (case side1 => exact Kd.C_nil _ _); (case side2 => exact Nat.le_refl _); rintro e w45 ⟨v451, rfl, ho0, hb⟩; refine ⟨_, rfl, ?_⟩; have n0_ := Aside0.mk (Kd.R_elder' zQx28a2_ (Kd.R_base ho0) hb); have n1_ := Aside0.mk (Kd.R_elder' zQx28a5_ (Kd.R_base ho0) hb); have n2_ := Aside0.mk (Kd.R_elder' zQx28a11_ (Kd.R_base ho0) hb); have n3_ := Aside0.mk (Kd.R_lower (Kd.R_new' (Kd.R_new' (Kd.R_new' ho0 (Kd.R_lt zQx28a2_)) (Kd.R_lt zQx28a5_)) (Kd.R_lt zQx28a11_)) (below_size zQx28a0_)); have n4_ := Aside0.mk (blk_below (g := gb429) (o := .cells #[.string a0_0, .int .i64 a0_1, .int .i64 a0_2, .int .i64 a0_3, .int .i64 a0_4, .int .i64 a0_5, .int .i64 a0_6, .bool a0_7] 23 (0, 0)) zQx28a3_ hb); have n5_ := Aside0.mk (below_step zQx28a0_ hb); clear HO433; clear HO437; clear HO449; clear BK429; clear HB; have HO433 := n0_; have HO437 := n1_; have HO449 := n2_; have HO452 := n3_; have BK429 := n4_; have HB := n5_; clear n0_ n1_ n2_ n3_ n4_ n5_; (try clear hb); (try clear hb2); (try clear hk); (try clear hi); (try clear ho0); obtain ⟨Ao46, co46, eo46⟩ := Kd.R_slice HO449.out; subst eo46; obtain ⟨Ao47, co47, eo47⟩ := Kd.R_slice HO452.out; subst eo47) | ((with_reducible refine gate_callee (f := 43) rfl ?_); refine goesL_ (some 60) rfl rfl Tryz.func43 (by kernel_rfl) rfl #[.slice Ao46 t447.length co46, .slice Ao47 t450.length co47] rfl zQx28a1_ ?_; (with_reducible refine (basculeref22_less.calls _ _ t447 _ _ t450 t453 _ ?side1 ?side2 ?side3 ?side4 A35.out).mono ?_); (case side1 => repeat (first | exact (Kd.R_reads' HO449.out).2.2 | (with_reducible refine Kd.C_alloc ?_ _) | (with_reducible refine Kd.C_drewN ?_ _) | (with_reducible refine Kd.C_drew ?_))); (case side2 => exact (Kd.R_reads' HO449.out).2.1); (case side3 => repeat (first | exact (Kd.R_reads' HO452.out).2.2 | (with_reducible refine Kd.C_alloc ?_ _) | (with_reducible refine Kd.C_drewN ?_ _) | (with_reducible refine Kd.C_drew ?_))); (case side4 => exact (Kd.R_reads' HO452.out).2.1); rintro e w48 ⟨rfl, hb⟩; refine ⟨_, rfl, ?_⟩; have n0_ := Aside0.mk (Kd.R_below zQx28a2_ hb); have n1_ := Aside0.mk (Kd.R_below zQx28a5_ hb); have n2_ := Aside0.mk (Kd.R_below zQx28a11_ hb); have n3_ := Aside0.mk (Kd.R_below (by (with_reducible repeat (first | apply Kd.R_alloc | apply Kd.R_drewN | apply Kd.R_drew)); exact HO452.out) hb); have n4_ := Aside0.mk (blk_below (g := gb429) (o := .cells #[.string a0_0, .int .i64 a0_1, .int .i64 a0_2, .int .i64 a0_3, .int .i64 a0_4, .int .i64 a0_5, .int .i64 a0_6, .bool a0_7] 23 (0, 0)) zQx28a3_ hb); have n5_ := Aside0.mk (below_step zQx28a0_ hb); clear HO433; clear HO437; clear HO449; clear HO452; clear BK429; clear HB; have HO433 := n0_; have HO437 := n1_; have HO449 := n2_; have HO452 := n3_; have BK429 := n4_; have HB := n5_; clear n0_ n1_ n2_ n3_ n4_ n5_; (try clear hb); (try clear hb2); (try clear hk); (try clear hi)))
    go_ret
    exact ⟨zQx28a8_, zQx28a0_⟩
   replace c32 := Bool.eq_false_iff.mpr c32
   subst c32
   have H1 : ((basculeref22_minus.f kj3 t431 t435).bind fun t454 => ((basculeref22_times.f kj3 ([] : List Int) 10 a0_6).bind fun t457 => ((basculeref22_less.f t454 t457).bind fun t460 => (some (!t460))))) = some r := by rw [if_neg (show ¬ (false = true) by decide)] at H; exact H
   clear H
   have H := H1
   clear H1
   replace H := Option.bind_eq_some_iff.mp H
   obtain ⟨t454, A490, H⟩ := H
   replace H : ((basculeref22_times.f kj3 ([] : List Int) 10 a0_6).bind fun t457 => ((basculeref22_less.f t454 t457).bind fun t460 => (some (!t460)))) = some r := H
   have A49 := Aside0.mk A490
   clear A490
   replace H := Option.bind_eq_some_iff.mp H
   obtain ⟨t457, A500, H⟩ := H
   replace H : ((basculeref22_less.f t454 t457).bind fun t460 => (some (!t460))) = some r := H
   have A50 := Aside0.mk A500
   clear A500
   replace H := Option.bind_eq_some_iff.mp H
   obtain ⟨t460, A510, H⟩ := H
   replace H : (some (!t460)) = some r := H
   have A51 := Aside0.mk A510
   clear A510
   obtain rfl := Option.some.inj H
   have hcz52_0 : wc.cell? ⟨gb429, 0, none⟩ = some (.string a0_0) := (blk_cell BK429.out 0).trans rfl
   have hcz52_1 : wc.cell? ⟨gb429, 1, none⟩ = some (.int .i64 a0_1) := (blk_cell BK429.out 1).trans rfl
   have hcz52_2 : wc.cell? ⟨gb429, 2, none⟩ = some (.int .i64 a0_2) := (blk_cell BK429.out 2).trans rfl
   have hcz52_3 : wc.cell? ⟨gb429, 3, none⟩ = some (.int .i64 a0_3) := (blk_cell BK429.out 3).trans rfl
   have hcz52_4 : wc.cell? ⟨gb429, 4, none⟩ = some (.int .i64 a0_4) := (blk_cell BK429.out 4).trans rfl
   have hcz52_5 : wc.cell? ⟨gb429, 5, none⟩ = some (.int .i64 a0_5) := (blk_cell BK429.out 5).trans rfl
   have hcz52_6 : wc.cell? ⟨gb429, 6, none⟩ = some (.int .i64 a0_6) := (blk_cell BK429.out 6).trans rfl
   have hcz52_7 : wc.cell? ⟨gb429, 7, none⟩ = some (.bool a0_7) := (blk_cell BK429.out 7).trans rfl
   have hfz52_0 := blk_frozen BK429.out 0
   have hfz52_1 := blk_frozen BK429.out 1
   have hfz52_2 := blk_frozen BK429.out 2
   have hfz52_3 := blk_frozen BK429.out 3
   have hfz52_4 := blk_frozen BK429.out 4
   have hfz52_5 := blk_frozen BK429.out 5
   have hfz52_6 := blk_frozen BK429.out 6
   have hfz52_7 := blk_frozen BK429.out 7
   go_wp2_with (first | ((with_reducible refine gate_callee (f := 34) rfl ?_); refine goesL_ (some 32) rfl rfl Tryz.func34 (by kernel_rfl) rfl #[.agg #[.string a0_0, .int .i64 a0_1, .int .i64 a0_2, .int .i64 a0_3, .int .i64 a0_4, .int .i64 a0_5, .int .i64 a0_6, .bool a0_7], .slice A1 l1.length c1] rfl zQx28a1_ ?_; (with_reducible refine (basculeref22_Digits.calls a0_0 a0_1 a0_2 a0_3 a0_4 a0_5 a0_6 a0_7 _ _ l1 t431 t434 _ ?side1 ?side2 A13.out).mono ?_); (case side1 => repeat (first | exact (Kd.C_below HR1.out HB.out) | (with_reducible refine Kd.C_alloc ?_ _) | (with_reducible refine Kd.C_drewN ?_ _) | (with_reducible refine Kd.C_drew ?_))); (case side2 => exact HC1.out); rintro e w53 ⟨v432, rfl, ho0, hb⟩; refine ⟨_, rfl, ?_⟩; have n0_ := Aside0.mk (Kd.R_lower ho0 (below_size zQx28a0_)); have n1_ := Aside0.mk (blk_below (g := gb429) (o := .cells #[.string a0_0, .int .i64 a0_1, .int .i64 a0_2, .int .i64 a0_3, .int .i64 a0_4, .int .i64 a0_5, .int .i64 a0_6, .bool a0_7] 23 (0, 0)) zQx28a3_ hb); have n2_ := Aside0.mk (below_step zQx28a0_ hb); clear BK429; clear HB; have HO433 := n0_; have BK429 := n1_; have HB := n2_; clear n0_ n1_ n2_; (try clear hb); (try clear hb2); (try clear hk); (try clear hi); (try clear ho0); have hcz54_0 : w53.cell? ⟨gb429, 0, none⟩ = some (.string a0_0) := (blk_cell BK429.out 0).trans rfl; have hcz54_1 : w53.cell? ⟨gb429, 1, none⟩ = some (.int .i64 a0_1) := (blk_cell BK429.out 1).trans rfl; have hcz54_2 : w53.cell? ⟨gb429, 2, none⟩ = some (.int .i64 a0_2) := (blk_cell BK429.out 2).trans rfl; have hcz54_3 : w53.cell? ⟨gb429, 3, none⟩ = some (.int .i64 a0_3) := (blk_cell BK429.out 3).trans rfl; have hcz54_4 : w53.cell? ⟨gb429, 4, none⟩ = some (.int .i64 a0_4) := (blk_cell BK429.out 4).trans rfl; have hcz54_5 : w53.cell? ⟨gb429, 5, none⟩ = some (.int .i64 a0_5) := (blk_cell BK429.out 5).trans rfl; have hcz54_6 : w53.cell? ⟨gb429, 6, none⟩ = some (.int .i64 a0_6) := (blk_cell BK429.out 6).trans rfl; have hcz54_7 : w53.cell? ⟨gb429, 7, none⟩ = some (.bool a0_7) := (blk_cell BK429.out 7).trans rfl; have hfz54_0 := blk_frozen BK429.out 0; have hfz54_1 := blk_frozen BK429.out 1; have hfz54_2 := blk_frozen BK429.out 2; have hfz54_3 := blk_frozen BK429.out 3; have hfz54_4 := blk_frozen BK429.out 4; have hfz54_5 := blk_frozen BK429.out 5; have hfz54_6 := blk_frozen BK429.out 6; have hfz54_7 := blk_frozen BK429.out 7) | ((with_reducible refine gate_callee (f := 34) rfl ?_); refine goesL_ (some 38) rfl rfl Tryz.func34 (by kernel_rfl) rfl #[.agg #[.string a0_0, .int .i64 a0_1, .int .i64 a0_2, .int .i64 a0_3, .int .i64 a0_4, .int .i64 a0_5, .int .i64 a0_6, .bool a0_7], .slice A2 l2.length c2] rfl zQx28a1_ ?_; (with_reducible refine (basculeref22_Digits.calls a0_0 a0_1 a0_2 a0_3 a0_4 a0_5 a0_6 a0_7 _ _ l2 t435 t438 _ ?side1 ?side2 A14.out).mono ?_); (case side1 => repeat (first | exact (Kd.C_below HR2.out HB.out) | (with_reducible refine Kd.C_alloc ?_ _) | (with_reducible refine Kd.C_drewN ?_ _) | (with_reducible refine Kd.C_drew ?_))); (case side2 => exact HC2.out); rintro e w55 ⟨v436, rfl, ho0, hb⟩; refine ⟨_, rfl, ?_⟩; have n0_ := Aside0.mk (Kd.R_elder' zQx28a2_ (Kd.R_base ho0) hb); have n1_ := Aside0.mk (Kd.R_lower (Kd.R_new' ho0 (Kd.R_lt zQx28a2_)) (below_size zQx28a0_)); have n2_ := Aside0.mk (blk_below (g := gb429) (o := .cells #[.string a0_0, .int .i64 a0_1, .int .i64 a0_2, .int .i64 a0_3, .int .i64 a0_4, .int .i64 a0_5, .int .i64 a0_6, .bool a0_7] 23 (0, 0)) zQx28a3_ hb); have n3_ := Aside0.mk (below_step zQx28a0_ hb); clear HO433; clear BK429; clear HB; have HO433 := n0_; have HO437 := n1_; have BK429 := n2_; have HB := n3_; clear n0_ n1_ n2_ n3_; (try clear hb); (try clear hb2); (try clear hk); (try clear hi); (try clear ho0); obtain ⟨Ao56, co56, eo56⟩ := Kd.R_slice HO433.out; subst eo56; obtain ⟨Ao57, co57, eo57⟩ := Kd.R_slice HO437.out; subst eo57) | ((with_reducible refine gate_callee (f := 43) rfl ?_); refine goesL_ (some 49) rfl rfl Tryz.func43 (by kernel_rfl) rfl #[.slice Ao56 t431.length co56, .slice Ao57 t435.length co57] rfl zQx28a1_ ?_; (with_reducible refine (basculeref22_less.calls _ _ t431 _ _ t435 false _ ?side1 ?side2 ?side3 ?side4 A31.out).mono ?_); (case side1 => repeat (first | exact (Kd.R_reads' HO433.out).2.2 | (with_reducible refine Kd.C_alloc ?_ _) | (with_reducible refine Kd.C_drewN ?_ _) | (with_reducible refine Kd.C_drew ?_))); (case side2 => exact (Kd.R_reads' HO433.out).2.1); (case side3 => repeat (first | exact (Kd.R_reads' HO437.out).2.2 | (with_reducible refine Kd.C_alloc ?_ _) | (with_reducible refine Kd.C_drewN ?_ _) | (with_reducible refine Kd.C_drew ?_))); (case side4 => exact (Kd.R_reads' HO437.out).2.1); rintro e w58 ⟨rfl, hb⟩; refine ⟨_, rfl, ?_⟩; have n0_ := Aside0.mk (Kd.R_below zQx28a2_ hb); have n1_ := Aside0.mk (Kd.R_below zQx28a5_ hb); have n2_ := Aside0.mk (blk_below (g := gb429) (o := .cells #[.string a0_0, .int .i64 a0_1, .int .i64 a0_2, .int .i64 a0_3, .int .i64 a0_4, .int .i64 a0_5, .int .i64 a0_6, .bool a0_7] 23 (0, 0)) zQx28a3_ hb); have n3_ := Aside0.mk (below_step zQx28a0_ hb); clear HO433; clear HO437; clear BK429; clear HB; have HO433 := n0_; have HO437 := n1_; have BK429 := n2_; have HB := n3_; clear n0_ n1_ n2_ n3_; (try clear hb); (try clear hb2); (try clear hk); (try clear hi)) | ((with_reducible refine gate_callee (f := 44) rfl ?_); refine goesL_ (some 55) rfl rfl Tryz.func44 (by kernel_rfl) rfl #[.slice Ao56 t431.length co56, .slice Ao57 t435.length co57] rfl zQx28a1_ ?_; (with_reducible refine (basculeref22_minus.calls kj3 _ _ t431 _ _ t435 t454 _ ?side1 ?side2 ?side3 ?side4 A49.out).mono ?_); (case side1 => repeat (first | exact (Kd.R_reads' HO433.out).2.2 | (with_reducible refine Kd.C_alloc ?_ _) | (with_reducible refine Kd.C_drewN ?_ _) | (with_reducible refine Kd.C_drew ?_))); (case side2 => exact (Kd.R_reads' HO433.out).2.1); (case side3 => repeat (first | exact (Kd.R_reads' HO437.out).2.2 | (with_reducible refine Kd.C_alloc ?_ _) | (with_reducible refine Kd.C_drewN ?_ _) | (with_reducible refine Kd.C_drew ?_))); (case side4 => exact (Kd.R_reads' HO437.out).2.1); rintro e w59 ⟨v455, rfl, ho0, hb⟩; refine ⟨_, rfl, ?_⟩; have n0_ := Aside0.mk (Kd.R_elder' zQx28a2_ (Kd.R_base ho0) hb); have n1_ := Aside0.mk (Kd.R_elder' zQx28a5_ (Kd.R_base ho0) hb); have n2_ := Aside0.mk (Kd.R_lower (Kd.R_new' (Kd.R_new' ho0 (Kd.R_lt zQx28a2_)) (Kd.R_lt zQx28a5_)) (below_size zQx28a0_)); have n3_ := Aside0.mk (blk_below (g := gb429) (o := .cells #[.string a0_0, .int .i64 a0_1, .int .i64 a0_2, .int .i64 a0_3, .int .i64 a0_4, .int .i64 a0_5, .int .i64 a0_6, .bool a0_7] 23 (0, 0)) zQx28a3_ hb); have n4_ := Aside0.mk (below_step zQx28a0_ hb); clear HO433; clear HO437; clear BK429; clear HB; have HO433 := n0_; have HO437 := n1_; have HO456 := n2_; have BK429 := n3_; have HB := n4_; clear n0_ n1_ n2_ n3_ n4_; (try clear hb); (try clear hb2); (try clear hk); (try clear hi); (try clear ho0); have hcz60_0 : w59.cell? ⟨gb429, 0, none⟩ = some (.string a0_0) := (blk_cell BK429.out 0).trans rfl; have hcz60_1 : w59.cell? ⟨gb429, 1, none⟩ = some (.int .i64 a0_1) := (blk_cell BK429.out 1).trans rfl; have hcz60_2 : w59.cell? ⟨gb429, 2, none⟩ = some (.int .i64 a0_2) := (blk_cell BK429.out 2).trans rfl; have hcz60_3 : w59.cell? ⟨gb429, 3, none⟩ = some (.int .i64 a0_3) := (blk_cell BK429.out 3).trans rfl; have hcz60_4 : w59.cell? ⟨gb429, 4, none⟩ = some (.int .i64 a0_4) := (blk_cell BK429.out 4).trans rfl; have hcz60_5 : w59.cell? ⟨gb429, 5, none⟩ = some (.int .i64 a0_5) := (blk_cell BK429.out 5).trans rfl; have hcz60_6 : w59.cell? ⟨gb429, 6, none⟩ = some (.int .i64 a0_6) := (blk_cell BK429.out 6).trans rfl; have hcz60_7 : w59.cell? ⟨gb429, 7, none⟩ = some (.bool a0_7) := (blk_cell BK429.out 7).trans rfl; have hfz60_0 := blk_frozen BK429.out 0; have hfz60_1 := blk_frozen BK429.out 1; have hfz60_2 := blk_frozen BK429.out 2; have hfz60_3 := blk_frozen BK429.out 3; have hfz60_4 := blk_frozen BK429.out 4; have hfz60_5 := blk_frozen BK429.out 5; have hfz60_6 := blk_frozen BK429.out 6; have hfz60_7 := blk_frozen BK429.out 7) | ((with_reducible refine gate_callee (f := 45) rfl ?_); refine goesL_ (some 59) rfl rfl Tryz.func45 (by kernel_rfl) rfl #[.slice none 0 0, .int .i64 10, .int .i64 a0_6] rfl zQx28a1_ ?_; (refine (basculeref22_times.calls kj3 _ _ ([] : List Int) 10 a0_6 t457 _ ?side1 ?side2 A50.out).mono ?_); (case side1 => exact Kd.C_nil _ _); (case side2 => exact Nat.le_refl _); rintro e w61 ⟨v458, rfl, ho0, hb⟩; refine ⟨_, rfl, ?_⟩; have n0_ := Aside0.mk (Kd.R_elder' zQx28a2_ (Kd.R_base ho0) hb); have n1_ := Aside0.mk (Kd.R_elder' zQx28a5_ (Kd.R_base ho0) hb); have n2_ := Aside0.mk (Kd.R_elder' zQx28a12_ (Kd.R_base ho0) hb); have n3_ := Aside0.mk (Kd.R_lower (Kd.R_new' (Kd.R_new' (Kd.R_new' ho0 (Kd.R_lt zQx28a2_)) (Kd.R_lt zQx28a5_)) (Kd.R_lt zQx28a12_)) (below_size zQx28a0_)); have n4_ := Aside0.mk (blk_below (g := gb429) (o := .cells #[.string a0_0, .int .i64 a0_1, .int .i64 a0_2, .int .i64 a0_3, .int .i64 a0_4, .int .i64 a0_5, .int .i64 a0_6, .bool a0_7] 23 (0, 0)) zQx28a3_ hb); have n5_ := Aside0.mk (below_step zQx28a0_ hb); clear HO433; clear HO437; clear HO456; clear BK429; clear HB; have HO433 := n0_; have HO437 := n1_; have HO456 := n2_; have HO459 := n3_; have BK429 := n4_; have HB := n5_; clear n0_ n1_ n2_ n3_ n4_ n5_; (try clear hb); (try clear hb2); (try clear hk); (try clear hi); (try clear ho0); obtain ⟨Ao62, co62, eo62⟩ := Kd.R_slice HO456.out; subst eo62; obtain ⟨Ao63, co63, eo63⟩ := Kd.R_slice HO459.out; subst eo63) | ((with_reducible refine gate_callee (f := 43) rfl ?_); refine goesL_ (some 60) rfl rfl Tryz.func43 (by kernel_rfl) rfl #[.slice Ao62 t454.length co62, .slice Ao63 t457.length co63] rfl zQx28a1_ ?_; (with_reducible refine (basculeref22_less.calls _ _ t454 _ _ t457 t460 _ ?side1 ?side2 ?side3 ?side4 A51.out).mono ?_); (case side1 => repeat (first | exact (Kd.R_reads' HO456.out).2.2 | (with_reducible refine Kd.C_alloc ?_ _) | (with_reducible refine Kd.C_drewN ?_ _) | (with_reducible refine Kd.C_drew ?_))); (case side2 => exact (Kd.R_reads' HO456.out).2.1); (case side3 => repeat (first | exact (Kd.R_reads' HO459.out).2.2 | (with_reducible refine Kd.C_alloc ?_ _) | (with_reducible refine Kd.C_drewN ?_ _) | (with_reducible refine Kd.C_drew ?_))); (case side4 => exact (Kd.R_reads' HO459.out).2.1); rintro e w64 ⟨rfl, hb⟩; refine ⟨_, rfl, ?_⟩; have n0_ := Aside0.mk (Kd.R_below zQx28a2_ hb); have n1_ := Aside0.mk (Kd.R_below zQx28a5_ hb); have n2_ := Aside0.mk (Kd.R_below zQx28a12_ hb); have n3_ := Aside0.mk (Kd.R_below (by (with_reducible repeat (first | apply Kd.R_alloc | apply Kd.R_drewN | apply Kd.R_drew)); exact HO459.out) hb); have n4_ := Aside0.mk (blk_below (g := gb429) (o := .cells #[.string a0_0, .int .i64 a0_1, .int .i64 a0_2, .int .i64 a0_3, .int .i64 a0_4, .int .i64 a0_5, .int .i64 a0_6, .bool a0_7] 23 (0, 0)) zQx28a3_ hb); have n5_ := Aside0.mk (below_step zQx28a0_ hb); clear HO433; clear HO437; clear HO456; clear HO459; clear BK429; clear HB; have HO433 := n0_; have HO437 := n1_; have HO456 := n2_; have HO459 := n3_; have BK429 := n4_; have HB := n5_; clear n0_ n1_ n2_ n3_ n4_ n5_; (try clear hb); (try clear hb2); (try clear hk); (try clear hi)))
   go_ret
   exact ⟨zQx28a8_, zQx28a0_⟩
end Go.Proofs.YtmkekhjbbapngaaGreatDoor.Q
