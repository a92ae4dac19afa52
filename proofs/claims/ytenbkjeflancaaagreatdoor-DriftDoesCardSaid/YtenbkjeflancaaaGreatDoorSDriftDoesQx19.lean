/- What the proof of DriftDoes leans on: Qx19. -/
import Derived.Test.YtenbkjeflancaaaGreatDoorSDriftDoesValF
import Derived.Test.YtenbkjeflancaaaGreatDoorSDriftDoesQx14
import Derived.Test.YtenbkjeflancaaaGreatDoorSDriftDoesQx15
import Derived.Test.YtenbkjeflancaaaGreatDoorSDriftDoesPDig
import Derived.Test.YtenbkjeflancaaaGreatDoorSDriftDoesQx17
import Derived.Test.YtenbkjeflancaaaGreatDoorSDriftDoesValL
namespace Go.Proofs.YtenbkjeflancaaaGreatDoor.Q
open Go.RowKit Go.Proofs.YtenbkjeflancaaaGreatDoorW.PrintWords Go.Proofs.YtenbkjeflancaaaGreatDoorW.PrintLast Go.Proofs.YtenbkjeflancaaaGreatDoorW.PrintMore
attribute [local go_sem] max2_int min2_int max_two min_two
set_option linter.unusedVariables false
set_option linter.unusedSimpArgs false
theorem zQx19a0_ {P_ : Prop} (h_ : P_ := by repeat (first | (with_reducible first | exact HB.out | apply below_alloc | apply pw_below_drewN | apply below_drew1 | refine below_set ?_ GE243.out) | exact HB.out)) : P_ := h_
theorem zQx19a1_ {P_ : Prop} (h_ : P_ := by repeat (first | (with_reducible first | exact HB.out | apply below_alloc | apply pw_below_drewN | apply below_drew1) | exact HB.out)) : P_ := h_
theorem zQx19a2_ {P_ : Prop} (h_ : P_ := by (try simp only [List.map_toArray, List.map_cons, List.map_nil]); first | done | rfl | (simp only [List.length_drop, List.length_take]; rfl)) : P_ := h_
theorem zQx19a3_ {P_ : Prop} (h_ : P_ := by (with_reducible repeat (first | apply Kd.R_alloc | apply Kd.R_drewN | apply Kd.R_drew)); exact HO247.out) : P_ := h_
theorem zQx19a4_ {P_ : Prop} (h_ : P_ := by (with_reducible repeat (first | refine blk_drewN ?_ _ | refine blk_drew ?_ | refine blk_alloc ?_ _)); exact BK243.out) : P_ := h_
theorem zQx19a5_ {P_ : Prop} (h_ : P_ := by (with_reducible repeat (first | apply Kd.R_alloc | apply Kd.R_drewN | apply Kd.R_drew)); exact HO251.out) : P_ := h_
theorem zQx19a6_ {P_ : Prop} (h_ : P_ := by first | rfl | (simp; done) | (simp [*]; done)) : P_ := h_
theorem zQx19a7_ {P_ : Prop} (h_ : P_ := by first | (with_reducible assumption) | assumption) : P_ := h_
theorem zQx19a8_ {P_ : Prop} (h_ : P_ := by (with_reducible repeat (first | apply Kd.R_alloc | apply Kd.R_drewN | apply Kd.R_drew)); exact HO_7.out) : P_ := h_
theorem zQx19a9_ {P_ : Prop} (h_ : P_ := by first | rfl | (simp [errW_none, errW_some] <;> rfl) | (simp [*, errW_none, errW_some] <;> rfl)) : P_ := h_
theorem zQx19a10_ {P_ : Prop} (h_ : P_ := by (with_reducible repeat (first | apply Kd.R_alloc | apply Kd.R_drewN | apply Kd.R_drew)); exact HO_5.out) : P_ := h_
theorem zQx19a11_ {P_ : Prop} (h_ : P_ := by (with_reducible repeat (first | apply Kd.R_alloc | apply Kd.R_drewN | apply Kd.R_drew)); exact HO255.out) : P_ := h_
theorem zQx19a12_ {P_ : Prop} (h_ : P_ := by (with_reducible repeat (first | apply Kd.R_alloc | apply Kd.R_drewN | apply Kd.R_drew)); exact HO263.out) : P_ := h_
theorem zQx19a13_ {P_ : Prop} (h_ : P_ := by (with_reducible repeat (first | apply Kd.R_alloc | apply Kd.R_drewN | apply Kd.R_drew)); exact HO270.out) : P_ := h_
theorem zQx19a14_ {P_ : Prop} (h_ : P_ := by have := HK1.out; have := HK2.out; omega) : P_ := h_
theorem zQx19a15_ {P_ : Prop} (h_ : P_ := by have := HK1.out; omega) : P_ := h_
theorem znQx19_ {X_ : Prop} [Decidable X_] (h_ : ¬ X_ → False := by intro c_; rw [if_neg c_] at H; exact absurd H (by simp)) : X_ := Decidable.byContradiction h_
def basculeref22_minus.l0 : Nat → List Int → List Int → List Int → Int → Int → Option (List Int)
 | 0, _, _, _, _, _ => none
 | k + 1, x0, x1, x5, x6, x7 => if x7 < (x0.length : Int) then (if 0 ≤ x7 then (if x7 < (x1.length : Int) then (if (wrap64 ((wrap64 ((rd x0 x7) - x6)) - (rd x1 x7))) < 0 then (if x5.length < 17592186044416 then (basculeref22_minus.l0 k x0 x1 (x5 ++ [wrap64 ((wrap64 ((wrap64 ((rd x0 x7) - x6)) - (rd x1 x7))) + 10)]) 1 (wrap64 (x7 + 1))) else (none)) else (if x5.length < 17592186044416 then (basculeref22_minus.l0 k x0 x1 (x5 ++ [wrap64 ((wrap64 ((rd x0 x7) - x6)) - (rd x1 x7))]) 0 (wrap64 (x7 + 1))) else (none))) else (if (wrap64 ((rd x0 x7) - x6)) < 0 then (if x5.length < 17592186044416 then (basculeref22_minus.l0 k x0 x1 (x5 ++ [wrap64 ((wrap64 ((rd x0 x7) - x6)) + 10)]) 1 (wrap64 (x7 + 1))) else (none)) else (if x5.length < 17592186044416 then (basculeref22_minus.l0 k x0 x1 (x5 ++ [wrap64 ((rd x0 x7) - x6)]) 0 (wrap64 (x7 + 1))) else (none)))) else (none)) else ((basculeref22_trim.f k x5).bind fun t226 => (some t226))
def basculeref22_minus.f (k : Nat) (l0 : List Int) (l1 : List Int) : Option (List Int) := basculeref22_minus.l0 k l0 l1 ([] : List Int) 0 0
set_option maxHeartbeats 8000000 in
set_option maxRecDepth 100000 in
theorem basculeref22_minus.calls (k : Nat) (A0 : Option Addr) (c0 : Nat) (l0 : List Int) (A1 : Option Addr) (c1 : Nat) (l1 : List Int) (r : List Int) (w : World) (hr0 : Kd.C (Kd.int .i64) w A0 l0.length l0) (hc0 : l0.length ≤ c0) (hr1 : Kd.C (Kd.int .i64) w A1 l1.length l1) (hc1 : l1.length ≤ c1) (h : basculeref22_minus.f k l0 l1 = some r) :
  Calls Tryz.prog 40 #[.slice A0 l0.length c0, .slice A1 l1.length c1] w fun e w' => ∃ v0_ : Value, e = .returned (v0_) ∧ Kd.R (Kd.int .i64) 3 w' w.heap.size (fun _ => True) v0_ r ∧ Below w.heap.size w w' := by
 have HR0 := Aside0.mk hr0
 have HC0 := Aside0.mk hc0
 clear hr0 hc0
 have HR1 := Aside0.mk hr1
 have HC1 := Aside0.mk hc1
 clear hr1 hc1
 have HB := Aside0.mk (Below.refl w.heap.size w)
 have H : (basculeref22_minus.l0 k l0 l1 ([] : List Int) 0 0) = some r := h
 clear h
 have H' := Aside0.mk H
 clear H
 go_enter Tryz.func40, Tryz.ntmps40
 go_wp2
 go_loopg [5, 6, 7] k (fun kq v5 v6 v7 w' => ∃ (x5_1 : List Int) (x6_1 : Int) (x7_1 : Int), v6 = .int .i64 x6_1 ∧ v7 = .int .i64 x7_1 ∧ Aside0 (basculeref22_minus.l0 kq l0 l1 x5_1 x6_1 x7_1 = some r) ∧ Aside0 (kq ≤ k) ∧ Aside0 (Kd.R (Kd.int .i64) 3 w' w.heap.size (fun _ => True) v5 x5_1) ∧ Aside0 (Below w.heap.size w w'))
 case atStart => exact ⟨(([] : List Int)), (0), (0), zQx19a6_, zQx19a6_, H', ⟨Nat.le_refl _⟩, ⟨by first | exact Kd.R_nil _ _ _ _ _ | exact Kd.N_nil _ _ _ _ _ | exact Kd.V_nil _ _ _ _ _ | exact Kd.Q_nil _ _ _ _ _ | exact Kd.S_nil _ _ _ _ _⟩, ⟨zQx19a1_⟩⟩
 case round =>
  clear H'
  try clear c1
  try clear p2
  obtain ⟨x5_1, x6_1, x7_1, rfl, rfl, HA, HK1, HO_5, HB⟩ := hrel
  cases gk with
  | zero => exact absurd HA.out (by simp [basculeref22_minus.l0])
  | succ k1 =>
   have H := HA.out
   clear HA
   simp only [basculeref22_minus.l0] at H
   by_cases c3 : x7_1 < (l0.length : Int)
   rotate_left
   ·
    rw [if_neg c3] at H
    have c3b0 : decide (x7_1 < (l0.length : Int)) = false := decide_eq_false c3
    clear c3
    replace H := Option.bind_eq_some_iff.mp H
    obtain ⟨t226, A160, H⟩ := H
    replace H : (some t226) = some r := H
    have A16 := Aside0.mk A160
    clear A160
    obtain rfl := Option.some.inj H
    obtain ⟨Ao17, co17, eo17⟩ := Kd.R_slice HO_5.out
    subst eo17
    go_wp2_with (first | ((with_reducible refine gate_callee (f := 66) rfl ?_); refine goesL_ (some 40) rfl rfl Tryz.func66 (by kernel_rfl) rfl #[.slice Ao17 x5_1.length co17] rfl zQx19a2_ ?_; (with_reducible refine (basculeref22_trim.calls k1 (fun k_ => some k_ = (.slice Ao17 x5_1.length co17 : Value).ownBlock) (.slice Ao17 x5_1.length co17) x5_1 t226 w _ ?side1 ?side2 A16.out).mono ?_); (case side1 => repeat (first | (with_reducible first | exact HB.out | apply below_alloc | apply pw_below_drewN | apply below_drew1) | exact HB.out)); (case side2 => exact Kd.R_tight rfl HO_5.out); rintro e w18 ⟨v227, rfl, ho0, hb, hkp⟩; refine ⟨_, rfl, ?_⟩; have n0_ := Aside0.mk (Kd.R_mono (ok' := fun k_ => True) ho0 (fun k_ hk_ => trivial)); have n1_ := Aside0.mk (hb); clear HB; clear HO_5; have HO228 := n0_; have HB := n1_; clear n0_ n1_; (try clear hb); (try clear hkp); (try clear ho0)))
    go_ret
    exact ⟨_, zQx19a9_, by (with_reducible repeat (first | apply Kd.R_alloc | apply Kd.R_drewN | apply Kd.R_drew)); exact HO228.out, zQx19a1_⟩
   rw [if_pos c3] at H
   have c3b0 : decide (x7_1 < (l0.length : Int)) = true := decide_eq_true c3
   clear c3
   have c4 : 0 ≤ x7_1 := znQx19_
   rw [if_pos c4] at H
   have c4b0 : decide (0 ≤ x7_1) = true := decide_eq_true c4
   clear c4
   by_cases c5 : x7_1 < (l1.length : Int)
   rotate_left
   ·
    rw [if_neg c5] at H
    have c5b0 : decide (x7_1 < (l1.length : Int)) = false := decide_eq_false c5
    clear c5
    by_cases c11 : (wrap64 ((rd l0 x7_1) - x6_1)) < 0
    rotate_left
    ·
     rw [if_neg c11] at H
     have c11b0 : decide ((wrap64 ((rd l0 x7_1) - x6_1)) < 0) = false := decide_eq_false c11
     clear c11
     have c14 : x5_1.length < 17592186044416 := znQx19_
     rw [if_pos c14] at H
     have LMc14 := Aside0.mk c14
     clear c14
     obtain ⟨y240, hy240⟩ : ∃ y_ : List Int, y_ = (x5_1 ++ [wrap64 ((rd l0 x7_1) - x6_1)]) := ⟨_, rfl⟩
     replace H : (basculeref22_minus.l0 k1 l0 l1 y240 0 (wrap64 (x7_1 + 1))) = some r := by first | (rw [hy240]; with_reducible exact H) | (have H2_ := (Option.bind_some _ _).symm.trans H; rw [hy240]; with_reducible exact H2_) | (have H2_ := (Option.bind_some _ _).symm.trans H; with_reducible exact H2_) | with_reducible exact H | (rw [hy240]; exact H) | exact H
     have Ny240 := Aside0.mk hy240
     clear hy240
     have H' := Aside0.mk H
     clear H
     have p229 : 0 ≤ (x7_1 : Int) := of_decide_eq_true zQx19a7_
     have q229 : x7_1 < (l0.length : Int) := of_decide_eq_true zQx19a7_
     obtain ⟨ad229, e229, hx229_0⟩ := Kd.at_int HR0.out x7_1 p229 q229
     cases e229
     replace hx229_0 := (HB.out.cell (World.block_lt_of_cell? w _ hx229_0)).trans hx229_0
     replace p229 := eq_true p229
     replace q229 := eq_true q229
     go_wp2_with (first | ((with_reducible refine gate_builtin (b := .append) (xs := #[.tmp 35, .tmp 37]) rfl ?_); at_builtin; refine Kd.R_append (Kd.int .i64) (w0 := w) w.heap.size rfl (.tmp 35) (.tmp 37) 33 3 (.int .i64 0) 8 rfl Tryz.underlying33 info3 rfl (by decide) (by omega) u5 x5_1 (wrap64 ((rd l0 x7_1) - x6_1)) [.int .i64 (wrap64 ((rd l0 x7_1) - x6_1))] (fun _ => True) (fun _ => False) rfl rfl ?aP (fun _ hk => hk.elim) ?aF ?aO ?aB ?aS ?aL ?_; (case aP => exact rfl); (case aB => exact zQx19a1_); (case aF => exact (fun _ _ => trivial)); (case aO => exact zQx19a10_); (case aS => exact (below_size zQx19a1_)); (case aL => have := LMc14.out; omega); intro v241 w15 ho hb hg hat; rw [← Ny240.out] at ho; have n0_ := Aside0.mk (hb); have n1_ := Aside0.mk (ho); clear HB; clear HO_5; have HB := n0_; have HO242 := n1_; clear n0_ n1_; clear ho hb hg hat))
     go_roundg k1
     case measure => have := HK1.out; omega
     case rel => exact ⟨(y240), (0), (wrap64 (x7_1 + 1)), zQx19a6_, zQx19a6_, H', ⟨zQx19a15_⟩, ⟨by (with_reducible repeat (first | apply Kd.R_alloc | apply Kd.R_drewN | apply Kd.R_drew)); exact HO242.out⟩, ⟨zQx19a1_⟩⟩
    rw [if_pos c11] at H
    have c11b0 : decide ((wrap64 ((rd l0 x7_1) - x6_1)) < 0) = true := decide_eq_true c11
    clear c11
    have c12 : x5_1.length < 17592186044416 := znQx19_
    rw [if_pos c12] at H
    have LMc12 := Aside0.mk c12
    clear c12
    obtain ⟨y237, hy237⟩ : ∃ y_ : List Int, y_ = (x5_1 ++ [wrap64 ((wrap64 ((rd l0 x7_1) - x6_1)) + 10)]) := ⟨_, rfl⟩
    replace H : (basculeref22_minus.l0 k1 l0 l1 y237 1 (wrap64 (x7_1 + 1))) = some r := by first | (rw [hy237]; with_reducible exact H) | (have H2_ := (Option.bind_some _ _).symm.trans H; rw [hy237]; with_reducible exact H2_) | (have H2_ := (Option.bind_some _ _).symm.trans H; with_reducible exact H2_) | with_reducible exact H | (rw [hy237]; exact H) | exact H
    have Ny237 := Aside0.mk hy237
    clear hy237
    have H' := Aside0.mk H
    clear H
    have p229 : 0 ≤ (x7_1 : Int) := of_decide_eq_true zQx19a7_
    have q229 : x7_1 < (l0.length : Int) := of_decide_eq_true zQx19a7_
    obtain ⟨ad229, e229, hx229_0⟩ := Kd.at_int HR0.out x7_1 p229 q229
    cases e229
    replace hx229_0 := (HB.out.cell (World.block_lt_of_cell? w _ hx229_0)).trans hx229_0
    replace p229 := eq_true p229
    replace q229 := eq_true q229
    go_wp2_with (first | ((with_reducible refine gate_builtin (b := .append) (xs := #[.tmp 35, .tmp 37]) rfl ?_); at_builtin; refine Kd.R_append (Kd.int .i64) (w0 := w) w.heap.size rfl (.tmp 35) (.tmp 37) 33 3 (.int .i64 0) 8 rfl Tryz.underlying33 info3 rfl (by decide) (by omega) u5 x5_1 (wrap64 ((wrap64 ((rd l0 x7_1) - x6_1)) + 10)) [.int .i64 (wrap64 ((wrap64 ((rd l0 x7_1) - x6_1)) + 10))] (fun _ => True) (fun _ => False) rfl rfl ?aP (fun _ hk => hk.elim) ?aF ?aO ?aB ?aS ?aL ?_; (case aP => exact rfl); (case aB => exact zQx19a1_); (case aF => exact (fun _ _ => trivial)); (case aO => exact zQx19a10_); (case aS => exact (below_size zQx19a1_)); (case aL => have := LMc12.out; omega); intro v238 w13 ho hb hg hat; rw [← Ny237.out] at ho; have n0_ := Aside0.mk (hb); have n1_ := Aside0.mk (ho); clear HB; clear HO_5; have HB := n0_; have HO239 := n1_; clear n0_ n1_; clear ho hb hg hat))
    go_roundg k1
    case measure => have := HK1.out; omega
    case rel => exact ⟨(y237), (1), (wrap64 (x7_1 + 1)), zQx19a6_, zQx19a6_, H', ⟨zQx19a15_⟩, ⟨by (with_reducible repeat (first | apply Kd.R_alloc | apply Kd.R_drewN | apply Kd.R_drew)); exact HO239.out⟩, ⟨zQx19a1_⟩⟩
   rw [if_pos c5] at H
   have c5b0 : decide (x7_1 < (l1.length : Int)) = true := decide_eq_true c5
   clear c5
   by_cases c6 : (wrap64 ((wrap64 ((rd l0 x7_1) - x6_1)) - (rd l1 x7_1))) < 0
   rotate_left
   ·
    rw [if_neg c6] at H
    have c6b0 : decide ((wrap64 ((wrap64 ((rd l0 x7_1) - x6_1)) - (rd l1 x7_1))) < 0) = false := decide_eq_false c6
    clear c6
    have c9 : x5_1.length < 17592186044416 := znQx19_
    rw [if_pos c9] at H
    have LMc9 := Aside0.mk c9
    clear c9
    obtain ⟨y234, hy234⟩ : ∃ y_ : List Int, y_ = (x5_1 ++ [wrap64 ((wrap64 ((rd l0 x7_1) - x6_1)) - (rd l1 x7_1))]) := ⟨_, rfl⟩
    replace H : (basculeref22_minus.l0 k1 l0 l1 y234 0 (wrap64 (x7_1 + 1))) = some r := by first | (rw [hy234]; with_reducible exact H) | (have H2_ := (Option.bind_some _ _).symm.trans H; rw [hy234]; with_reducible exact H2_) | (have H2_ := (Option.bind_some _ _).symm.trans H; with_reducible exact H2_) | with_reducible exact H | (rw [hy234]; exact H) | exact H
    have Ny234 := Aside0.mk hy234
    clear hy234
    have H' := Aside0.mk H
    clear H
    have p229 : 0 ≤ (x7_1 : Int) := of_decide_eq_true zQx19a7_
    have q229 : x7_1 < (l0.length : Int) := of_decide_eq_true zQx19a7_
    obtain ⟨ad229, e229, hx229_0⟩ := Kd.at_int HR0.out x7_1 p229 q229
    cases e229
    replace hx229_0 := (HB.out.cell (World.block_lt_of_cell? w _ hx229_0)).trans hx229_0
    replace p229 := eq_true p229
    replace q229 := eq_true q229
    have p230 : 0 ≤ (x7_1 : Int) := of_decide_eq_true zQx19a7_
    have q230 : x7_1 < (l1.length : Int) := of_decide_eq_true zQx19a7_
    obtain ⟨ad230, e230, hx230_0⟩ := Kd.at_int HR1.out x7_1 p230 q230
    cases e230
    replace hx230_0 := (HB.out.cell (World.block_lt_of_cell? w _ hx230_0)).trans hx230_0
    replace p230 := eq_true p230
    replace q230 := eq_true q230
    go_wp2_with (first | ((with_reducible refine gate_builtin (b := .append) (xs := #[.tmp 35, .tmp 37]) rfl ?_); at_builtin; refine Kd.R_append (Kd.int .i64) (w0 := w) w.heap.size rfl (.tmp 35) (.tmp 37) 33 3 (.int .i64 0) 8 rfl Tryz.underlying33 info3 rfl (by decide) (by omega) u5 x5_1 (wrap64 ((wrap64 ((rd l0 x7_1) - x6_1)) - (rd l1 x7_1))) [.int .i64 (wrap64 ((wrap64 ((rd l0 x7_1) - x6_1)) - (rd l1 x7_1)))] (fun _ => True) (fun _ => False) rfl rfl ?aP (fun _ hk => hk.elim) ?aF ?aO ?aB ?aS ?aL ?_; (case aP => exact rfl); (case aB => exact zQx19a1_); (case aF => exact (fun _ _ => trivial)); (case aO => exact zQx19a10_); (case aS => exact (below_size zQx19a1_)); (case aL => have := LMc9.out; omega); intro v235 w10 ho hb hg hat; rw [← Ny234.out] at ho; have n0_ := Aside0.mk (hb); have n1_ := Aside0.mk (ho); clear HB; clear HO_5; have HB := n0_; have HO236 := n1_; clear n0_ n1_; clear ho hb hg hat))
    go_roundg k1
    case measure => have := HK1.out; omega
    case rel => exact ⟨(y234), (0), (wrap64 (x7_1 + 1)), zQx19a6_, zQx19a6_, H', ⟨zQx19a15_⟩, ⟨by (with_reducible repeat (first | apply Kd.R_alloc | apply Kd.R_drewN | apply Kd.R_drew)); exact HO236.out⟩, ⟨zQx19a1_⟩⟩
   rw [if_pos c6] at H
   have c6b0 : decide ((wrap64 ((wrap64 ((rd l0 x7_1) - x6_1)) - (rd l1 x7_1))) < 0) = true := decide_eq_true c6
   clear c6
   have c7 : x5_1.length < 17592186044416 := znQx19_
   rw [if_pos c7] at H
   have LMc7 := Aside0.mk c7
   clear c7
   obtain ⟨y231, hy231⟩ : ∃ y_ : List Int, y_ = (x5_1 ++ [wrap64 ((wrap64 ((wrap64 ((rd l0 x7_1) - x6_1)) - (rd l1 x7_1))) + 10)]) := ⟨_, rfl⟩
   replace H : (basculeref22_minus.l0 k1 l0 l1 y231 1 (wrap64 (x7_1 + 1))) = some r := by first | (rw [hy231]; with_reducible exact H) | (have H2_ := (Option.bind_some _ _).symm.trans H; rw [hy231]; with_reducible exact H2_) | (have H2_ := (Option.bind_some _ _).symm.trans H; with_reducible exact H2_) | with_reducible exact H | (rw [hy231]; exact H) | exact H
   have Ny231 := Aside0.mk hy231
   clear hy231
   have H' := Aside0.mk H
   clear H
   have p229 : 0 ≤ (x7_1 : Int) := of_decide_eq_true zQx19a7_
   have q229 : x7_1 < (l0.length : Int) := of_decide_eq_true zQx19a7_
   obtain ⟨ad229, e229, hx229_0⟩ := Kd.at_int HR0.out x7_1 p229 q229
   cases e229
   replace hx229_0 := (HB.out.cell (World.block_lt_of_cell? w _ hx229_0)).trans hx229_0
   replace p229 := eq_true p229
   replace q229 := eq_true q229
   have p230 : 0 ≤ (x7_1 : Int) := of_decide_eq_true zQx19a7_
   have q230 : x7_1 < (l1.length : Int) := of_decide_eq_true zQx19a7_
   obtain ⟨ad230, e230, hx230_0⟩ := Kd.at_int HR1.out x7_1 p230 q230
   cases e230
   replace hx230_0 := (HB.out.cell (World.block_lt_of_cell? w _ hx230_0)).trans hx230_0
   replace p230 := eq_true p230
   replace q230 := eq_true q230
   go_wp2_with (first | ((with_reducible refine gate_builtin (b := .append) (xs := #[.tmp 35, .tmp 37]) rfl ?_); at_builtin; refine Kd.R_append (Kd.int .i64) (w0 := w) w.heap.size rfl (.tmp 35) (.tmp 37) 33 3 (.int .i64 0) 8 rfl Tryz.underlying33 info3 rfl (by decide) (by omega) u5 x5_1 (wrap64 ((wrap64 ((wrap64 ((rd l0 x7_1) - x6_1)) - (rd l1 x7_1))) + 10)) [.int .i64 (wrap64 ((wrap64 ((wrap64 ((rd l0 x7_1) - x6_1)) - (rd l1 x7_1))) + 10))] (fun _ => True) (fun _ => False) rfl rfl ?aP (fun _ hk => hk.elim) ?aF ?aO ?aB ?aS ?aL ?_; (case aP => exact rfl); (case aB => exact zQx19a1_); (case aF => exact (fun _ _ => trivial)); (case aO => exact zQx19a10_); (case aS => exact (below_size zQx19a1_)); (case aL => have := LMc7.out; omega); intro v232 w8 ho hb hg hat; rw [← Ny231.out] at ho; have n0_ := Aside0.mk (hb); have n1_ := Aside0.mk (ho); clear HB; clear HO_5; have HB := n0_; have HO233 := n1_; clear n0_ n1_; clear ho hb hg hat))
   go_roundg k1
   case measure => have := HK1.out; omega
   case rel => exact ⟨(y231), (1), (wrap64 (x7_1 + 1)), zQx19a6_, zQx19a6_, H', ⟨zQx19a15_⟩, ⟨by (with_reducible repeat (first | apply Kd.R_alloc | apply Kd.R_drewN | apply Kd.R_drew)); exact HO233.out⟩, ⟨zQx19a1_⟩⟩
def basculeref22_Apart.j0 : Nat → List Int → List Int → Bool → ByteArray → Int → Int → Int → Int → Int → Int → Bool → Option (Bool)
 | 0, _, _, _, _, _, _, _, _, _, _, _ => none
 | k + 1, x1, x2, x24, x244000, x244001, x244002, x244003, x244004, x244005, x244006, x244007 => if x24 = true then ((basculeref01_Ints.f k x1 x2).bind fun t244 => (some (!t244))) else ((basculeref22_Digits.f x244000 x244001 x244002 x244003 x244004 x244005 x244006 x244007 x1).bind fun bt245 => ((basculeref22_Digits.f x244000 x244001 x244002 x244003 x244004 x244005 x244006 x244007 x2).bind fun bt249 => (if (bt245.2 != bt249.2) = true then ((basculeref22_plus.f k bt245.1 bt249.1).bind fun t253 => ((basculeref22_times.f k ([] : List Int) 10 x244006).bind fun t256 => ((basculeref22_less.f t253 t256).bind fun t259 => (some (!t259))))) else ((basculeref22_less.f bt245.1 bt249.1).bind fun t260 => (if t260 = true then ((basculeref22_minus.f k bt249.1 bt245.1).bind fun t261 => ((basculeref22_times.f k ([] : List Int) 10 x244006).bind fun t264 => ((basculeref22_less.f t261 t264).bind fun t267 => (some (!t267))))) else ((basculeref22_minus.f k bt245.1 bt249.1).bind fun t268 => ((basculeref22_times.f k ([] : List Int) 10 x244006).bind fun t271 => ((basculeref22_less.f t268 t271).bind fun t274 => (some (!t274))))))))))
def basculeref22_Apart.f (k : Nat) (a0_0 : ByteArray) (a0_1 : Int) (a0_2 : Int) (a0_3 : Int) (a0_4 : Int) (a0_5 : Int) (a0_6 : Int) (a0_7 : Bool) (l1 : List Int) (l2 : List Int) : Option (Bool) := if a0_4 = 1 then (basculeref22_Apart.j0 k l1 l2 true a0_0 a0_1 a0_2 a0_3 a0_4 a0_5 a0_6 a0_7) else (if a0_4 = 8 then (basculeref22_Apart.j0 k l1 l2 true a0_0 a0_1 a0_2 a0_3 a0_4 a0_5 a0_6 a0_7) else (basculeref22_Apart.j0 k l1 l2 (a0_6 == 0) a0_0 a0_1 a0_2 a0_3 a0_4 a0_5 a0_6 a0_7))
set_option maxHeartbeats 8000000 in
set_option maxRecDepth 100000 in
theorem basculeref22_Apart.calls (k : Nat) (a0_0 : ByteArray) (a0_1 : Int) (a0_2 : Int) (a0_3 : Int) (a0_4 : Int) (a0_5 : Int) (a0_6 : Int) (a0_7 : Bool) (A1 : Option Addr) (c1 : Nat) (l1 : List Int) (A2 : Option Addr) (c2 : Nat) (l2 : List Int) (r : Bool) (w : World) (hr1 : Kd.C (Kd.int .i64) w A1 l1.length l1) (hc1 : l1.length ≤ c1) (hr2 : Kd.C (Kd.int .i64) w A2 l2.length l2) (hc2 : l2.length ≤ c2) (h : basculeref22_Apart.f k a0_0 a0_1 a0_2 a0_3 a0_4 a0_5 a0_6 a0_7 l1 l2 = some r) :
  Calls Tryz.prog 20 #[.agg #[.string a0_0, .int .i64 a0_1, .int .i64 a0_2, .int .i64 a0_3, .int .i64 a0_4, .int .i64 a0_5, .int .i64 a0_6, .bool a0_7], .slice A1 l1.length c1, .slice A2 l2.length c2] w fun e w' => e = .returned (.bool r) ∧ Below w.heap.size w w' := by
 have hu23 := Tryz.underlying23
 have HR1 := Aside0.mk hr1
 have HC1 := Aside0.mk hc1
 clear hr1 hc1
 have HR2 := Aside0.mk hr2
 have HC2 := Aside0.mk hc2
 clear hr2 hc2
 have HB := Aside0.mk (Below.refl w.heap.size w)
 have H : (if a0_4 = 1 then (basculeref22_Apart.j0 k l1 l2 true a0_0 a0_1 a0_2 a0_3 a0_4 a0_5 a0_6 a0_7) else (if a0_4 = 8 then (basculeref22_Apart.j0 k l1 l2 true a0_0 a0_1 a0_2 a0_3 a0_4 a0_5 a0_6 a0_7) else (basculeref22_Apart.j0 k l1 l2 (a0_6 == 0) a0_0 a0_1 a0_2 a0_3 a0_4 a0_5 a0_6 a0_7))) = some r := h
 clear h
 have HC4 := Aside0.mk H
 clear H
 go_enter Tryz.func20, Tryz.ntmps20
 go_upto_region 1 with (first | ((with_reducible refine gate_dst (N := 3) rfl ?_); refine box_event ?hg (N := 3) ?hd (cs := #[.string a0_0, .int .i64 a0_1, .int .i64 a0_2, .int .i64 a0_3, .int .i64 a0_4, .int .i64 a0_5, .int .i64 a0_6, .bool a0_7]) (t := 23) ?hr ?_; (case hd => rfl); (case hg => rfl); (case hr => first | (go_simp; done) | (go_simp; rfl)); intro gb243 hg w5 hbox hb; have n0_ := Aside0.mk (below_step zQx19a1_ hb); have n1_ := Aside0.mk (hbox); have n2_ := Aside0.mk ((by rw [hg]; exact (below_size zQx19a1_) : w.heap.size ≤ gb243)); have n3_ := Aside0.mk ((by rw [hg]; exact (below_size zQx19a1_) : w.heap.size ≤ gb243)); clear HB; have HB := n0_; have BK243 := n1_; have GW243 := n2_; have GE243 := n3_; clear n0_ n1_ n2_ n3_; clear hb hbox hg))
 (try simp only [Act.put, List.setIfInBounds_toArray, List.set_cons_zero, List.set_cons_succ])
 go_cut [24] (fun v24 wc => ∃ (kq : Nat) (x24_3 : Bool), v24 = .bool x24_3 ∧ Aside0 (basculeref22_Apart.j0 kq l1 l2 x24_3 a0_0 a0_1 a0_2 a0_3 a0_4 a0_5 a0_6 a0_7 = some r) ∧ Aside0 (kq ≤ k) ∧ Aside0 (wc.heap[gb243]? = some (.cells #[.string a0_0, .int .i64 a0_1, .int .i64 a0_2, .int .i64 a0_3, .int .i64 a0_4, .int .i64 a0_5, .int .i64 a0_6, .bool a0_7] 23 (0, 0))) ∧ Aside0 (Below w.heap.size w wc))
 case first =>
  have H := HC4.out
  clear HC4
  by_cases c6 : a0_4 = 1
  ·
   rw [if_pos c6] at H
   have c6b0 : (a0_4 == 1) = true := beq_iff_eq.mpr c6
   have c6b1 : (a0_4 != 1) = false := bne_eq_false_iff_eq.mpr c6
   clear c6
   (first | rw [c6b0] | (simp only [i64_w, i32_w]; rw [c6b0]) | skip)
   have H' := Aside0.mk H
   clear H
   have hcz7_0 : w5.cell? ⟨gb243, 0, none⟩ = some (.string a0_0) := (blk_cell BK243.out 0).trans rfl
   have hcz7_1 : w5.cell? ⟨gb243, 1, none⟩ = some (.int .i64 a0_1) := (blk_cell BK243.out 1).trans rfl
   have hcz7_2 : w5.cell? ⟨gb243, 2, none⟩ = some (.int .i64 a0_2) := (blk_cell BK243.out 2).trans rfl
   have hcz7_3 : w5.cell? ⟨gb243, 3, none⟩ = some (.int .i64 a0_3) := (blk_cell BK243.out 3).trans rfl
   have hcz7_4 : w5.cell? ⟨gb243, 4, none⟩ = some (.int .i64 a0_4) := (blk_cell BK243.out 4).trans rfl
   have hcz7_5 : w5.cell? ⟨gb243, 5, none⟩ = some (.int .i64 a0_5) := (blk_cell BK243.out 5).trans rfl
   have hcz7_6 : w5.cell? ⟨gb243, 6, none⟩ = some (.int .i64 a0_6) := (blk_cell BK243.out 6).trans rfl
   have hcz7_7 : w5.cell? ⟨gb243, 7, none⟩ = some (.bool a0_7) := (blk_cell BK243.out 7).trans rfl
   have hfz7_0 := blk_frozen BK243.out 0
   have hfz7_1 := blk_frozen BK243.out 1
   have hfz7_2 := blk_frozen BK243.out 2
   have hfz7_3 := blk_frozen BK243.out 3
   have hfz7_4 := blk_frozen BK243.out 4
   have hfz7_5 := blk_frozen BK243.out 5
   have hfz7_6 := blk_frozen BK243.out 6
   have hfz7_7 := blk_frozen BK243.out 7
   go_wp2
   go_meet
   case rel => exact ⟨_, (true), zQx19a6_, H', ⟨by first | omega | exact Nat.le_refl _⟩, ⟨zQx19a4_⟩, ⟨zQx19a0_⟩⟩
  rw [if_neg c6] at H
  have c6b0 : (a0_4 == 1) = false := beq_eq_false_iff_ne.mpr c6
  have c6b1 : (a0_4 != 1) = true := bne_iff_ne.mpr c6
  (first | rw [c6b0] | (simp only [i64_w, i32_w]; rw [c6b0]) | skip)
  by_cases c8 : a0_4 = 8
  ·
   rw [if_pos c8] at H
   have c8b0 : (a0_4 == 8) = true := beq_iff_eq.mpr c8
   have c8b1 : (a0_4 != 8) = false := bne_eq_false_iff_eq.mpr c8
   clear c8
   have H' := Aside0.mk H
   clear H
   have hcz9_0 : w5.cell? ⟨gb243, 0, none⟩ = some (.string a0_0) := (blk_cell BK243.out 0).trans rfl
   have hcz9_1 : w5.cell? ⟨gb243, 1, none⟩ = some (.int .i64 a0_1) := (blk_cell BK243.out 1).trans rfl
   have hcz9_2 : w5.cell? ⟨gb243, 2, none⟩ = some (.int .i64 a0_2) := (blk_cell BK243.out 2).trans rfl
   have hcz9_3 : w5.cell? ⟨gb243, 3, none⟩ = some (.int .i64 a0_3) := (blk_cell BK243.out 3).trans rfl
   have hcz9_4 : w5.cell? ⟨gb243, 4, none⟩ = some (.int .i64 a0_4) := (blk_cell BK243.out 4).trans rfl
   have hcz9_5 : w5.cell? ⟨gb243, 5, none⟩ = some (.int .i64 a0_5) := (blk_cell BK243.out 5).trans rfl
   have hcz9_6 : w5.cell? ⟨gb243, 6, none⟩ = some (.int .i64 a0_6) := (blk_cell BK243.out 6).trans rfl
   have hcz9_7 : w5.cell? ⟨gb243, 7, none⟩ = some (.bool a0_7) := (blk_cell BK243.out 7).trans rfl
   have hfz9_0 := blk_frozen BK243.out 0
   have hfz9_1 := blk_frozen BK243.out 1
   have hfz9_2 := blk_frozen BK243.out 2
   have hfz9_3 := blk_frozen BK243.out 3
   have hfz9_4 := blk_frozen BK243.out 4
   have hfz9_5 := blk_frozen BK243.out 5
   have hfz9_6 := blk_frozen BK243.out 6
   have hfz9_7 := blk_frozen BK243.out 7
   go_wp2
   go_meet
   case rel => exact ⟨_, (true), zQx19a6_, H', ⟨by first | omega | exact Nat.le_refl _⟩, ⟨zQx19a4_⟩, ⟨zQx19a0_⟩⟩
  rw [if_neg c8] at H
  have c8b0 : (a0_4 == 8) = false := beq_eq_false_iff_ne.mpr c8
  have c8b1 : (a0_4 != 8) = true := bne_iff_ne.mpr c8
  have H' := Aside0.mk H
  clear H
  have hcz10_0 : w5.cell? ⟨gb243, 0, none⟩ = some (.string a0_0) := (blk_cell BK243.out 0).trans rfl
  have hcz10_1 : w5.cell? ⟨gb243, 1, none⟩ = some (.int .i64 a0_1) := (blk_cell BK243.out 1).trans rfl
  have hcz10_2 : w5.cell? ⟨gb243, 2, none⟩ = some (.int .i64 a0_2) := (blk_cell BK243.out 2).trans rfl
  have hcz10_3 : w5.cell? ⟨gb243, 3, none⟩ = some (.int .i64 a0_3) := (blk_cell BK243.out 3).trans rfl
  have hcz10_4 : w5.cell? ⟨gb243, 4, none⟩ = some (.int .i64 a0_4) := (blk_cell BK243.out 4).trans rfl
  have hcz10_5 : w5.cell? ⟨gb243, 5, none⟩ = some (.int .i64 a0_5) := (blk_cell BK243.out 5).trans rfl
  have hcz10_6 : w5.cell? ⟨gb243, 6, none⟩ = some (.int .i64 a0_6) := (blk_cell BK243.out 6).trans rfl
  have hcz10_7 : w5.cell? ⟨gb243, 7, none⟩ = some (.bool a0_7) := (blk_cell BK243.out 7).trans rfl
  have hfz10_0 := blk_frozen BK243.out 0
  have hfz10_1 := blk_frozen BK243.out 1
  have hfz10_2 := blk_frozen BK243.out 2
  have hfz10_3 := blk_frozen BK243.out 3
  have hfz10_4 := blk_frozen BK243.out 4
  have hfz10_5 := blk_frozen BK243.out 5
  have hfz10_6 := blk_frozen BK243.out 6
  have hfz10_7 := blk_frozen BK243.out 7
  go_wp2
  go_meet
  case rel => exact ⟨_, ((a0_6 == 0)), zQx19a6_, H', ⟨by first | omega | exact Nat.le_refl _⟩, ⟨zQx19a4_⟩, ⟨zQx19a0_⟩⟩
 case rest =>
  clear HC4
  try clear c1
  try clear c2
  try clear p2
  try clear c6
  try clear c6b0
  try clear c6b1
  try clear c8
  try clear c8b0
  try clear c8b1
  try clear hcz10_0
  try clear hcz10_1
  try clear hcz10_2
  try clear hcz10_3
  try clear hcz10_4
  try clear hcz10_5
  try clear hcz10_6
  try clear hcz10_7
  try clear hcz7_0
  try clear hcz7_1
  try clear hcz7_2
  try clear hcz7_3
  try clear hcz7_4
  try clear hcz7_5
  try clear hcz7_6
  try clear hcz7_7
  try clear hcz9_0
  try clear hcz9_1
  try clear hcz9_2
  try clear hcz9_3
  try clear hcz9_4
  try clear hcz9_5
  try clear hcz9_6
  try clear hcz9_7
  try clear hfz10_0
  try clear hfz10_1
  try clear hfz10_2
  try clear hfz10_3
  try clear hfz10_4
  try clear hfz10_5
  try clear hfz10_6
  try clear hfz10_7
  try clear hfz7_0
  try clear hfz7_1
  try clear hfz7_2
  try clear hfz7_3
  try clear hfz7_4
  try clear hfz7_5
  try clear hfz7_6
  try clear hfz7_7
  try clear hfz9_0
  try clear hfz9_1
  try clear hfz9_2
  try clear hfz9_3
  try clear hfz9_4
  try clear hfz9_5
  try clear hfz9_6
  try clear hfz9_7
  obtain ⟨kq, x24_3, rfl, HA, HJ3, BK243, HB⟩ := hcut
  cases kq with
  | zero => exact absurd HA.out (by simp [basculeref22_Apart.j0])
  | succ kj3 =>
   have H := HA.out
   clear HA
   simp only [basculeref22_Apart.j0] at H
   by_cases c11 : x24_3 = true
   ·
    subst c11
    have H1 : ((basculeref01_Ints.f kj3 l1 l2).bind fun t244 => (some (!t244))) = some r := by rw [if_pos rfl] at H; exact H
    clear H
    have H := H1
    clear H1
    replace H := Option.bind_eq_some_iff.mp H
    obtain ⟨t244, A120, H⟩ := H
    replace H : (some (!t244)) = some r := H
    have A12 := Aside0.mk A120
    clear A120
    obtain rfl := Option.some.inj H
    go_wp2_with (first | ((with_reducible refine gate_callee (f := 36) rfl ?_); refine goesL_ (some 27) rfl rfl Tryz.func36 (by kernel_rfl) rfl #[.slice A1 l1.length c1, .slice A2 l2.length c2] rfl zQx19a2_ ?_; (with_reducible refine (basculeref01_Ints.calls kj3 _ _ l1 _ _ l2 t244 _ ?side1 ?side2 ?side3 ?side4 A12.out).mono ?_); (case side1 => repeat (first | exact (Kd.C_below HR1.out HB.out) | (with_reducible refine Kd.C_alloc ?_ _) | (with_reducible refine Kd.C_drewN ?_ _) | (with_reducible refine Kd.C_drew ?_))); (case side2 => exact HC1.out); (case side3 => repeat (first | exact (Kd.C_below HR2.out HB.out) | (with_reducible refine Kd.C_alloc ?_ _) | (with_reducible refine Kd.C_drewN ?_ _) | (with_reducible refine Kd.C_drew ?_))); (case side4 => exact HC2.out); rintro e w' ⟨rfl, ⟨nd, rfl⟩⟩; refine ⟨_, rfl, ?_⟩))
    go_ret
    exact ⟨zQx19a9_, zQx19a0_⟩
   replace c11 := Bool.eq_false_iff.mpr c11
   subst c11
   have H1 : ((basculeref22_Digits.f a0_0 a0_1 a0_2 a0_3 a0_4 a0_5 a0_6 a0_7 l1).bind fun bt245 => ((basculeref22_Digits.f a0_0 a0_1 a0_2 a0_3 a0_4 a0_5 a0_6 a0_7 l2).bind fun bt249 => (if (bt245.2 != bt249.2) = true then ((basculeref22_plus.f kj3 bt245.1 bt249.1).bind fun t253 => ((basculeref22_times.f kj3 ([] : List Int) 10 a0_6).bind fun t256 => ((basculeref22_less.f t253 t256).bind fun t259 => (some (!t259))))) else ((basculeref22_less.f bt245.1 bt249.1).bind fun t260 => (if t260 = true then ((basculeref22_minus.f kj3 bt249.1 bt245.1).bind fun t261 => ((basculeref22_times.f kj3 ([] : List Int) 10 a0_6).bind fun t264 => ((basculeref22_less.f t261 t264).bind fun t267 => (some (!t267))))) else ((basculeref22_minus.f kj3 bt245.1 bt249.1).bind fun t268 => ((basculeref22_times.f kj3 ([] : List Int) 10 a0_6).bind fun t271 => ((basculeref22_less.f t268 t271).bind fun t274 => (some (!t274)))))))))) = some r := by rw [if_neg (show ¬ (false = true) by decide)] at H; exact H
   clear H
   have H := H1
   clear H1
   replace H := Option.bind_eq_some_iff.mp H
   obtain ⟨⟨t245, t248⟩, A130, H⟩ := H
   replace H : ((basculeref22_Digits.f a0_0 a0_1 a0_2 a0_3 a0_4 a0_5 a0_6 a0_7 l2).bind fun bt249 => (if (t248 != bt249.2) = true then ((basculeref22_plus.f kj3 t245 bt249.1).bind fun t253 => ((basculeref22_times.f kj3 ([] : List Int) 10 a0_6).bind fun t256 => ((basculeref22_less.f t253 t256).bind fun t259 => (some (!t259))))) else ((basculeref22_less.f t245 bt249.1).bind fun t260 => (if t260 = true then ((basculeref22_minus.f kj3 bt249.1 t245).bind fun t261 => ((basculeref22_times.f kj3 ([] : List Int) 10 a0_6).bind fun t264 => ((basculeref22_less.f t261 t264).bind fun t267 => (some (!t267))))) else ((basculeref22_minus.f kj3 t245 bt249.1).bind fun t268 => ((basculeref22_times.f kj3 ([] : List Int) 10 a0_6).bind fun t271 => ((basculeref22_less.f t268 t271).bind fun t274 => (some (!t274))))))))) = some r := H
   have A13 := Aside0.mk A130
   clear A130
   replace H := Option.bind_eq_some_iff.mp H
   obtain ⟨⟨t249, t252⟩, A140, H⟩ := H
   replace H : (if (t248 != t252) = true then ((basculeref22_plus.f kj3 t245 t249).bind fun t253 => ((basculeref22_times.f kj3 ([] : List Int) 10 a0_6).bind fun t256 => ((basculeref22_less.f t253 t256).bind fun t259 => (some (!t259))))) else ((basculeref22_less.f t245 t249).bind fun t260 => (if t260 = true then ((basculeref22_minus.f kj3 t249 t245).bind fun t261 => ((basculeref22_times.f kj3 ([] : List Int) 10 a0_6).bind fun t264 => ((basculeref22_less.f t261 t264).bind fun t267 => (some (!t267))))) else ((basculeref22_minus.f kj3 t245 t249).bind fun t268 => ((basculeref22_times.f kj3 ([] : List Int) 10 a0_6).bind fun t271 => ((basculeref22_less.f t268 t271).bind fun t274 => (some (!t274)))))))) = some r := H
   have A14 := Aside0.mk A140
   clear A140
   by_cases c15 : (t248 != t252) = true
   ·
    rw [if_pos c15] at H
    have c15b0 : (t248 != t252) = true := c15
    (try (have c15b1 : decide (t248 = t252) = false := by simpa using c15))
    (try (have c15b2 : (t248 == t252) = false := by simpa using c15))
    (try (have c15b3 : ¬ (t248 = t252) := by simpa using c15))
    clear c15
    replace H := Option.bind_eq_some_iff.mp H
    obtain ⟨t253, A160, H⟩ := H
    replace H : ((basculeref22_times.f kj3 ([] : List Int) 10 a0_6).bind fun t256 => ((basculeref22_less.f t253 t256).bind fun t259 => (some (!t259)))) = some r := H
    have A16 := Aside0.mk A160
    clear A160
    replace H := Option.bind_eq_some_iff.mp H
    obtain ⟨t256, A170, H⟩ := H
    replace H : ((basculeref22_less.f t253 t256).bind fun t259 => (some (!t259))) = some r := H
    have A17 := Aside0.mk A170
    clear A170
    replace H := Option.bind_eq_some_iff.mp H
    obtain ⟨t259, A180, H⟩ := H
    replace H : (some (!t259)) = some r := H
    have A18 := Aside0.mk A180
    clear A180
    obtain rfl := Option.some.inj H
    have hcz19_0 : wc.cell? ⟨gb243, 0, none⟩ = some (.string a0_0) := (blk_cell BK243.out 0).trans rfl
    have hcz19_1 : wc.cell? ⟨gb243, 1, none⟩ = some (.int .i64 a0_1) := (blk_cell BK243.out 1).trans rfl
    have hcz19_2 : wc.cell? ⟨gb243, 2, none⟩ = some (.int .i64 a0_2) := (blk_cell BK243.out 2).trans rfl
    have hcz19_3 : wc.cell? ⟨gb243, 3, none⟩ = some (.int .i64 a0_3) := (blk_cell BK243.out 3).trans rfl
    have hcz19_4 : wc.cell? ⟨gb243, 4, none⟩ = some (.int .i64 a0_4) := (blk_cell BK243.out 4).trans rfl
    have hcz19_5 : wc.cell? ⟨gb243, 5, none⟩ = some (.int .i64 a0_5) := (blk_cell BK243.out 5).trans rfl
    have hcz19_6 : wc.cell? ⟨gb243, 6, none⟩ = some (.int .i64 a0_6) := (blk_cell BK243.out 6).trans rfl
    have hcz19_7 : wc.cell? ⟨gb243, 7, none⟩ = some (.bool a0_7) := (blk_cell BK243.out 7).trans rfl
    have hfz19_0 := blk_frozen BK243.out 0
    have hfz19_1 := blk_frozen BK243.out 1
    have hfz19_2 := blk_frozen BK243.out 2
    have hfz19_3 := blk_frozen BK243.out 3
    have hfz19_4 := blk_frozen BK243.out 4
    have hfz19_5 := blk_frozen BK243.out 5
    have hfz19_6 := blk_frozen BK243.out 6
    have hfz19_7 := blk_frozen BK243.out 7
    go_wp2_with (first | ((with_reducible refine gate_callee (f := 37) rfl ?_); refine goesL_ (some 32) rfl rfl Tryz.func37 (by kernel_rfl) rfl #[.agg #[.string a0_0, .int .i64 a0_1, .int .i64 a0_2, .int .i64 a0_3, .int .i64 a0_4, .int .i64 a0_5, .int .i64 a0_6, .bool a0_7], .slice A1 l1.length c1] rfl zQx19a2_ ?_; (with_reducible refine (basculeref22_Digits.calls a0_0 a0_1 a0_2 a0_3 a0_4 a0_5 a0_6 a0_7 _ _ l1 t245 t248 _ ?side1 ?side2 A13.out).mono ?_); (case side1 => repeat (first | exact (Kd.C_below HR1.out HB.out) | (with_reducible refine Kd.C_alloc ?_ _) | (with_reducible refine Kd.C_drewN ?_ _) | (with_reducible refine Kd.C_drew ?_))); (case side2 => exact HC1.out); rintro e w20 ⟨v246, rfl, ho0, hb⟩; refine ⟨_, rfl, ?_⟩; have n0_ := Aside0.mk (Kd.R_lower ho0 (below_size zQx19a0_)); have n1_ := Aside0.mk (blk_below (g := gb243) (o := .cells #[.string a0_0, .int .i64 a0_1, .int .i64 a0_2, .int .i64 a0_3, .int .i64 a0_4, .int .i64 a0_5, .int .i64 a0_6, .bool a0_7] 23 (0, 0)) zQx19a4_ hb); have n2_ := Aside0.mk (below_step zQx19a0_ hb); clear BK243; clear HB; have HO247 := n0_; have BK243 := n1_; have HB := n2_; clear n0_ n1_ n2_; (try clear hb); (try clear hb2); (try clear hk); (try clear hi); (try clear ho0); have hcz21_0 : w20.cell? ⟨gb243, 0, none⟩ = some (.string a0_0) := (blk_cell BK243.out 0).trans rfl; have hcz21_1 : w20.cell? ⟨gb243, 1, none⟩ = some (.int .i64 a0_1) := (blk_cell BK243.out 1).trans rfl; have hcz21_2 : w20.cell? ⟨gb243, 2, none⟩ = some (.int .i64 a0_2) := (blk_cell BK243.out 2).trans rfl; have hcz21_3 : w20.cell? ⟨gb243, 3, none⟩ = some (.int .i64 a0_3) := (blk_cell BK243.out 3).trans rfl; have hcz21_4 : w20.cell? ⟨gb243, 4, none⟩ = some (.int .i64 a0_4) := (blk_cell BK243.out 4).trans rfl; have hcz21_5 : w20.cell? ⟨gb243, 5, none⟩ = some (.int .i64 a0_5) := (blk_cell BK243.out 5).trans rfl; have hcz21_6 : w20.cell? ⟨gb243, 6, none⟩ = some (.int .i64 a0_6) := (blk_cell BK243.out 6).trans rfl; have hcz21_7 : w20.cell? ⟨gb243, 7, none⟩ = some (.bool a0_7) := (blk_cell BK243.out 7).trans rfl; have hfz21_0 := blk_frozen BK243.out 0; have hfz21_1 := blk_frozen BK243.out 1; have hfz21_2 := blk_frozen BK243.out 2; have hfz21_3 := blk_frozen BK243.out 3; have hfz21_4 := blk_frozen BK243.out 4; have hfz21_5 := blk_frozen BK243.out 5; have hfz21_6 := blk_frozen BK243.out 6; have hfz21_7 := blk_frozen BK243.out 7) | ((with_reducible refine gate_callee (f := 37) rfl ?_); refine goesL_ (some 38) rfl rfl Tryz.func37 (by kernel_rfl) rfl #[.agg #[.string a0_0, .int .i64 a0_1, .int .i64 a0_2, .int .i64 a0_3, .int .i64 a0_4, .int .i64 a0_5, .int .i64 a0_6, .bool a0_7], .slice A2 l2.length c2] rfl zQx19a2_ ?_; (with_reducible refine (basculeref22_Digits.calls a0_0 a0_1 a0_2 a0_3 a0_4 a0_5 a0_6 a0_7 _ _ l2 t249 t252 _ ?side1 ?side2 A14.out).mono ?_); (case side1 => repeat (first | exact (Kd.C_below HR2.out HB.out) | (with_reducible refine Kd.C_alloc ?_ _) | (with_reducible refine Kd.C_drewN ?_ _) | (with_reducible refine Kd.C_drew ?_))); (case side2 => exact HC2.out); rintro e w22 ⟨v250, rfl, ho0, hb⟩; refine ⟨_, rfl, ?_⟩; have n0_ := Aside0.mk (Kd.R_elder' zQx19a3_ (Kd.R_base ho0) hb); have n1_ := Aside0.mk (Kd.R_lower (Kd.R_new' ho0 (Kd.R_lt zQx19a3_)) (below_size zQx19a0_)); have n2_ := Aside0.mk (blk_below (g := gb243) (o := .cells #[.string a0_0, .int .i64 a0_1, .int .i64 a0_2, .int .i64 a0_3, .int .i64 a0_4, .int .i64 a0_5, .int .i64 a0_6, .bool a0_7] 23 (0, 0)) zQx19a4_ hb); have n3_ := Aside0.mk (below_step zQx19a0_ hb); clear HO247; clear BK243; clear HB; have HO247 := n0_; have HO251 := n1_; have BK243 := n2_; have HB := n3_; clear n0_ n1_ n2_ n3_; (try clear hb); (try clear hb2); (try clear hk); (try clear hi); (try clear ho0); obtain ⟨Ao23, co23, eo23⟩ := Kd.R_slice HO247.out; subst eo23; obtain ⟨Ao24, co24, eo24⟩ := Kd.R_slice HO251.out; subst eo24) | ((with_reducible refine gate_callee (f := 38) rfl ?_); refine goesL_ (some 46) rfl rfl Tryz.func38 (by kernel_rfl) rfl #[.slice Ao23 t245.length co23, .slice Ao24 t249.length co24] rfl zQx19a2_ ?_; (with_reducible refine (basculeref22_plus.calls kj3 _ _ t245 _ _ t249 t253 _ ?side1 ?side2 ?side3 ?side4 A16.out).mono ?_); (case side1 => repeat (first | exact (Kd.R_reads' HO247.out).2.2 | (with_reducible refine Kd.C_alloc ?_ _) | (with_reducible refine Kd.C_drewN ?_ _) | (with_reducible refine Kd.C_drew ?_))); (case side2 => exact (Kd.R_reads' HO247.out).2.1); (case side3 => repeat (first | exact (Kd.R_reads' HO251.out).2.2 | (with_reducible refine Kd.C_alloc ?_ _) | (with_reducible refine Kd.C_drewN ?_ _) | (with_reducible refine Kd.C_drew ?_))); (case side4 => exact (Kd.R_reads' HO251.out).2.1); rintro e w25 ⟨v254, rfl, ho0, hb⟩; refine ⟨_, rfl, ?_⟩; have n0_ := Aside0.mk (Kd.R_elder' zQx19a3_ (Kd.R_base ho0) hb); have n1_ := Aside0.mk (Kd.R_elder' zQx19a5_ (Kd.R_base ho0) hb); have n2_ := Aside0.mk (Kd.R_lower (Kd.R_new' (Kd.R_new' ho0 (Kd.R_lt zQx19a3_)) (Kd.R_lt zQx19a5_)) (below_size zQx19a0_)); have n3_ := Aside0.mk (blk_below (g := gb243) (o := .cells #[.string a0_0, .int .i64 a0_1, .int .i64 a0_2, .int .i64 a0_3, .int .i64 a0_4, .int .i64 a0_5, .int .i64 a0_6, .bool a0_7] 23 (0, 0)) zQx19a4_ hb); have n4_ := Aside0.mk (below_step zQx19a0_ hb); clear HO247; clear HO251; clear BK243; clear HB; have HO247 := n0_; have HO251 := n1_; have HO255 := n2_; have BK243 := n3_; have HB := n4_; clear n0_ n1_ n2_ n3_ n4_; (try clear hb); (try clear hb2); (try clear hk); (try clear hi); (try clear ho0); have hcz26_0 : w25.cell? ⟨gb243, 0, none⟩ = some (.string a0_0) := (blk_cell BK243.out 0).trans rfl; have hcz26_1 : w25.cell? ⟨gb243, 1, none⟩ = some (.int .i64 a0_1) := (blk_cell BK243.out 1).trans rfl; have hcz26_2 : w25.cell? ⟨gb243, 2, none⟩ = some (.int .i64 a0_2) := (blk_cell BK243.out 2).trans rfl; have hcz26_3 : w25.cell? ⟨gb243, 3, none⟩ = some (.int .i64 a0_3) := (blk_cell BK243.out 3).trans rfl; have hcz26_4 : w25.cell? ⟨gb243, 4, none⟩ = some (.int .i64 a0_4) := (blk_cell BK243.out 4).trans rfl; have hcz26_5 : w25.cell? ⟨gb243, 5, none⟩ = some (.int .i64 a0_5) := (blk_cell BK243.out 5).trans rfl; have hcz26_6 : w25.cell? ⟨gb243, 6, none⟩ = some (.int .i64 a0_6) := (blk_cell BK243.out 6).trans rfl; have hcz26_7 : w25.cell? ⟨gb243, 7, none⟩ = some (.bool a0_7) := (blk_cell BK243.out 7).trans rfl; have hfz26_0 := blk_frozen BK243.out 0; have hfz26_1 := blk_frozen BK243.out 1; have hfz26_2 := blk_frozen BK243.out 2; have hfz26_3 := blk_frozen BK243.out 3; have hfz26_4 := blk_frozen BK243.out 4; have hfz26_5 := blk_frozen BK243.out 5; have hfz26_6 := blk_frozen BK243.out 6; have hfz26_7 := blk_frozen BK243.out 7) | ((with_reducible refine gate_callee (f := 41) rfl ?_); refine goesL_ (some 59) rfl rfl Tryz.func41 (by kernel_rfl) rfl #[.slice none 0 0, .int .i64 10, .int .i64 a0_6] rfl zQx19a2_ ?_; (refine (basculeref22_times.calls kj3 _ _ ([] : List Int) 10 a0_6 t256 _ ?side1 ?side2 A17.out).mono ?_); (case side1 => exact Kd.C_nil _ _); (case side2 => exact Nat.le_refl _); rintro e w27 ⟨v257, rfl, ho0, hb⟩; refine ⟨_, rfl, ?_⟩; have n0_ := Aside0.mk (Kd.R_elder' zQx19a3_ (Kd.R_base ho0) hb); have n1_ := Aside0.mk (Kd.R_elder' zQx19a5_ (Kd.R_base ho0) hb); have n2_ := Aside0.mk (Kd.R_elder' zQx19a11_ (Kd.R_base ho0) hb); have n3_ := Aside0.mk (Kd.R_lower (Kd.R_new' (Kd.R_new' (Kd.R_new' ho0 (Kd.R_lt zQx19a3_)) (Kd.R_lt zQx19a5_)) (Kd.R_lt zQx19a11_)) (below_size zQx19a0_)); have n4_ := Aside0.mk (blk_below (g := gb243) (o := .cells #[.string a0_0, .int .i64 a0_1, .int .i64 a0_2, .int .i64 a0_3, .int .i64 a0_4, .int .i64 a0_5, .int .i64 a0_6, .bool a0_7] 23 (0, 0)) zQx19a4_ hb); have n5_ := Aside0.mk (below_step zQx19a0_ hb); clear HO247; clear HO251; clear HO255; clear BK243; clear HB; have HO247 := n0_; have HO251 := n1_; have HO255 := n2_; have HO258 := n3_; have BK243 := n4_; have HB := n5_; clear n0_ n1_ n2_ n3_ n4_ n5_; (try clear hb); (try clear hb2); (try clear hk); (try clear hi); (try clear ho0); obtain ⟨Ao28, co28, eo28⟩ := Kd.R_slice HO255.out; subst eo28; obtain ⟨Ao29, co29, eo29⟩ := Kd.R_slice HO258.out; subst eo29) | ((with_reducible refine gate_callee (f := 39) rfl ?_); refine goesL_ (some 60) rfl rfl Tryz.func39 (by kernel_rfl) rfl #[.slice Ao28 t253.length co28, .slice Ao29 t256.length co29] rfl zQx19a2_ ?_; (with_reducible refine (basculeref22_less.calls _ _ t253 _ _ t256 t259 _ ?side1 ?side2 ?side3 ?side4 A18.out).mono ?_); (case side1 => repeat (first | exact (Kd.R_reads' HO255.out).2.2 | (with_reducible refine Kd.C_alloc ?_ _) | (with_reducible refine Kd.C_drewN ?_ _) | (with_reducible refine Kd.C_drew ?_))); (case side2 => exact (Kd.R_reads' HO255.out).2.1); (case side3 => repeat (first | exact (Kd.R_reads' HO258.out).2.2 | (with_reducible refine Kd.C_alloc ?_ _) | (with_reducible refine Kd.C_drewN ?_ _) | (with_reducible refine Kd.C_drew ?_))); (case side4 => exact (Kd.R_reads' HO258.out).2.1); rintro e w30 ⟨rfl, hb⟩; refine ⟨_, rfl, ?_⟩; have n0_ := Aside0.mk (Kd.R_below zQx19a3_ hb); have n1_ := Aside0.mk (Kd.R_below zQx19a5_ hb); have n2_ := Aside0.mk (Kd.R_below zQx19a11_ hb); have n3_ := Aside0.mk (Kd.R_below (by (with_reducible repeat (first | apply Kd.R_alloc | apply Kd.R_drewN | apply Kd.R_drew)); exact HO258.out) hb); have n4_ := Aside0.mk (blk_below (g := gb243) (o := .cells #[.string a0_0, .int .i64 a0_1, .int .i64 a0_2, .int .i64 a0_3, .int .i64 a0_4, .int .i64 a0_5, .int .i64 a0_6, .bool a0_7] 23 (0, 0)) zQx19a4_ hb); have n5_ := Aside0.mk (below_step zQx19a0_ hb); clear HO247; clear HO251; clear HO255; clear HO258; clear BK243; clear HB; have HO247 := n0_; have HO251 := n1_; have HO255 := n2_; have HO258 := n3_; have BK243 := n4_; have HB := n5_; clear n0_ n1_ n2_ n3_ n4_ n5_; (try clear hb); (try clear hb2); (try clear hk); (try clear hi)))
    go_ret
    exact ⟨zQx19a9_, zQx19a0_⟩
   rw [if_neg c15] at H
   have c15b0 : (t248 != t252) = false := by simpa using c15
   (try (have c15b1 : decide (t248 = t252) = true := by simpa using c15))
   (try (have c15b2 : (t248 == t252) = true := by simpa using c15))
   clear c15
   replace H := Option.bind_eq_some_iff.mp H
   obtain ⟨t260, A310, H⟩ := H
   replace H : (if t260 = true then ((basculeref22_minus.f kj3 t249 t245).bind fun t261 => ((basculeref22_times.f kj3 ([] : List Int) 10 a0_6).bind fun t264 => ((basculeref22_less.f t261 t264).bind fun t267 => (some (!t267))))) else ((basculeref22_minus.f kj3 t245 t249).bind fun t268 => ((basculeref22_times.f kj3 ([] : List Int) 10 a0_6).bind fun t271 => ((basculeref22_less.f t268 t271).bind fun t274 => (some (!t274)))))) = some r := H
   have A31 := Aside0.mk A310
   clear A310
   by_cases c32 : t260 = true
   ·
    subst c32
    have H1 : ((basculeref22_minus.f kj3 t249 t245).bind fun t261 => ((basculeref22_times.f kj3 ([] : List Int) 10 a0_6).bind fun t264 => ((basculeref22_less.f t261 t264).bind fun t267 => (some (!t267))))) = some r := by rw [if_pos rfl] at H; exact H
    clear H
    have H := H1
    clear H1
    replace H := Option.bind_eq_some_iff.mp H
    obtain ⟨t261, A330, H⟩ := H
    replace H : ((basculeref22_times.f kj3 ([] : List Int) 10 a0_6).bind fun t264 => ((basculeref22_less.f t261 t264).bind fun t267 => (some (!t267)))) = some r := H
    have A33 := Aside0.mk A330
    clear A330
    replace H := Option.bind_eq_some_iff.mp H
    obtain ⟨t264, A340, H⟩ := H
    replace H : ((basculeref22_less.f t261 t264).bind fun t267 => (some (!t267))) = some r := H
    have A34 := Aside0.mk A340
    clear A340
    replace H := Option.bind_eq_some_iff.mp H
    obtain ⟨t267, A350, H⟩ := H
    replace H : (some (!t267)) = some r := H
    have A35 := Aside0.mk A350
    clear A350
    obtain rfl := Option.some.inj H
    have hcz36_0 : wc.cell? ⟨gb243, 0, none⟩ = some (.string a0_0) := (blk_cell BK243.out 0).trans rfl
    have hcz36_1 : wc.cell? ⟨gb243, 1, none⟩ = some (.int .i64 a0_1) := (blk_cell BK243.out 1).trans rfl
    have hcz36_2 : wc.cell? ⟨gb243, 2, none⟩ = some (.int .i64 a0_2) := (blk_cell BK243.out 2).trans rfl
    have hcz36_3 : wc.cell? ⟨gb243, 3, none⟩ = some (.int .i64 a0_3) := (blk_cell BK243.out 3).trans rfl
    have hcz36_4 : wc.cell? ⟨gb243, 4, none⟩ = some (.int .i64 a0_4) := (blk_cell BK243.out 4).trans rfl
    have hcz36_5 : wc.cell? ⟨gb243, 5, none⟩ = some (.int .i64 a0_5) := (blk_cell BK243.out 5).trans rfl
    have hcz36_6 : wc.cell? ⟨gb243, 6, none⟩ = some (.int .i64 a0_6) := (blk_cell BK243.out 6).trans rfl
    have hcz36_7 : wc.cell? ⟨gb243, 7, none⟩ = some (.bool a0_7) := (blk_cell BK243.out 7).trans rfl
    have hfz36_0 := blk_frozen BK243.out 0
    have hfz36_1 := blk_frozen BK243.out 1
    have hfz36_2 := blk_frozen BK243.out 2
    have hfz36_3 := blk_frozen BK243.out 3
    have hfz36_4 := blk_frozen BK243.out 4
    have hfz36_5 := blk_frozen BK243.out 5
    have hfz36_6 := blk_frozen BK243.out 6
    have hfz36_7 := blk_frozen BK243.out 7
    go_wp2_with (first | ((with_reducible refine gate_callee (f := 37) rfl ?_); refine goesL_ (some 32) rfl rfl Tryz.func37 (by kernel_rfl) rfl #[.agg #[.string a0_0, .int .i64 a0_1, .int .i64 a0_2, .int .i64 a0_3, .int .i64 a0_4, .int .i64 a0_5, .int .i64 a0_6, .bool a0_7], .slice A1 l1.length c1] rfl zQx19a2_ ?_; (with_reducible refine (basculeref22_Digits.calls a0_0 a0_1 a0_2 a0_3 a0_4 a0_5 a0_6 a0_7 _ _ l1 t245 t248 _ ?side1 ?side2 A13.out).mono ?_); (case side1 => repeat (first | exact (Kd.C_below HR1.out HB.out) | (with_reducible refine Kd.C_alloc ?_ _) | (with_reducible refine Kd.C_drewN ?_ _) | (with_reducible refine Kd.C_drew ?_))); (case side2 => exact HC1.out); rintro e w37 ⟨v246, rfl, ho0, hb⟩; refine ⟨_, rfl, ?_⟩; have n0_ := Aside0.mk (Kd.R_lower ho0 (below_size zQx19a0_)); have n1_ := Aside0.mk (blk_below (g := gb243) (o := .cells #[.string a0_0, .int .i64 a0_1, .int .i64 a0_2, .int .i64 a0_3, .int .i64 a0_4, .int .i64 a0_5, .int .i64 a0_6, .bool a0_7] 23 (0, 0)) zQx19a4_ hb); have n2_ := Aside0.mk (below_step zQx19a0_ hb); clear BK243; clear HB; have HO247 := n0_; have BK243 := n1_; have HB := n2_; clear n0_ n1_ n2_; (try clear hb); (try clear hb2); (try clear hk); (try clear hi); (try clear ho0); have hcz38_0 : w37.cell? ⟨gb243, 0, none⟩ = some (.string a0_0) := (blk_cell BK243.out 0).trans rfl; have hcz38_1 : w37.cell? ⟨gb243, 1, none⟩ = some (.int .i64 a0_1) := (blk_cell BK243.out 1).trans rfl; have hcz38_2 : w37.cell? ⟨gb243, 2, none⟩ = some (.int .i64 a0_2) := (blk_cell BK243.out 2).trans rfl; have hcz38_3 : w37.cell? ⟨gb243, 3, none⟩ = some (.int .i64 a0_3) := (blk_cell BK243.out 3).trans rfl; have hcz38_4 : w37.cell? ⟨gb243, 4, none⟩ = some (.int .i64 a0_4) := (blk_cell BK243.out 4).trans rfl; have hcz38_5 : w37.cell? ⟨gb243, 5, none⟩ = some (.int .i64 a0_5) := (blk_cell BK243.out 5).trans rfl; have hcz38_6 : w37.cell? ⟨gb243, 6, none⟩ = some (.int .i64 a0_6) := (blk_cell BK243.out 6).trans rfl; have hcz38_7 : w37.cell? ⟨gb243, 7, none⟩ = some (.bool a0_7) := (blk_cell BK243.out 7).trans rfl; have hfz38_0 := blk_frozen BK243.out 0; have hfz38_1 := blk_frozen BK243.out 1; have hfz38_2 := blk_frozen BK243.out 2; have hfz38_3 := blk_frozen BK243.out 3; have hfz38_4 := blk_frozen BK243.out 4; have hfz38_5 := blk_frozen BK243.out 5; have hfz38_6 := blk_frozen BK243.out 6; have hfz38_7 := blk_frozen BK243.out 7) | ((with_reducible refine gate_callee (f := 37) rfl ?_); refine goesL_ (some 38) rfl rfl Tryz.func37 (by kernel_rfl) rfl #[.agg #[.string a0_0, .int .i64 a0_1, .int .i64 a0_2, .int .i64 a0_3, .int .i64 a0_4, .int .i64 a0_5, .int .i64 a0_6, .bool a0_7], .slice A2 l2.length c2] rfl zQx19a2_ ?_; (with_reducible refine (basculeref22_Digits.calls a0_0 a0_1 a0_2 a0_3 a0_4 a0_5 a0_6 a0_7 _ _ l2 t249 t252 _ ?side1 ?side2 A14.out).mono ?_); (case side1 => repeat (first | exact (Kd.C_below HR2.out HB.out) | (with_reducible refine Kd.C_alloc ?_ _) | (with_reducible refine Kd.C_drewN ?_ _) | (with_reducible refine Kd.C_drew ?_))); (case side2 => exact HC2.out); rintro e w39 ⟨v250, rfl, ho0, hb⟩; refine ⟨_, rfl, ?_⟩; have n0_ := Aside0.mk (Kd.R_elder' zQx19a3_ (Kd.R_base ho0) hb); have n1_ := Aside0.mk (Kd.R_lower (Kd.R_new' ho0 (Kd.R_lt zQx19a3_)) (below_size zQx19a0_)); have n2_ := Aside0.mk (blk_below (g := gb243) (o := .cells #[.string a0_0, .int .i64 a0_1, .int .i64 a0_2, .int .i64 a0_3, .int .i64 a0_4, .int .i64 a0_5, .int .i64 a0_6, .bool a0_7] 23 (0, 0)) zQx19a4_ hb); have n3_ := Aside0.mk (below_step zQx19a0_ hb); clear HO247; clear BK243; clear HB; have HO247 := n0_; have HO251 := n1_; have BK243 := n2_; have HB := n3_; clear n0_ n1_ n2_ n3_; (try clear hb); (try clear hb2); (try clear hk); (try clear hi); (try clear ho0); obtain ⟨Ao40, co40, eo40⟩ := Kd.R_slice HO247.out; subst eo40; obtain ⟨Ao41, co41, eo41⟩ := Kd.R_slice HO251.out; subst eo41) | ((with_reducible refine gate_callee (f := 39) rfl ?_); refine goesL_ (some 49) rfl rfl Tryz.func39 (by kernel_rfl) rfl #[.slice Ao40 t245.length co40, .slice Ao41 t249.length co41] rfl zQx19a2_ ?_; (with_reducible refine (basculeref22_less.calls _ _ t245 _ _ t249 true _ ?side1 ?side2 ?side3 ?side4 A31.out).mono ?_); (case side1 => repeat (first | exact (Kd.R_reads' HO247.out).2.2 | (with_reducible refine Kd.C_alloc ?_ _) | (with_reducible refine Kd.C_drewN ?_ _) | (with_reducible refine Kd.C_drew ?_))); (case side2 => exact (Kd.R_reads' HO247.out).2.1); (case side3 => repeat (first | exact (Kd.R_reads' HO251.out).2.2 | (with_reducible refine Kd.C_alloc ?_ _) | (with_reducible refine Kd.C_drewN ?_ _) | (with_reducible refine Kd.C_drew ?_))); (case side4 => exact (Kd.R_reads' HO251.out).2.1); rintro e w42 ⟨rfl, hb⟩; refine ⟨_, rfl, ?_⟩; have n0_ := Aside0.mk (Kd.R_below zQx19a3_ hb); have n1_ := Aside0.mk (Kd.R_below zQx19a5_ hb); have n2_ := Aside0.mk (blk_below (g := gb243) (o := .cells #[.string a0_0, .int .i64 a0_1, .int .i64 a0_2, .int .i64 a0_3, .int .i64 a0_4, .int .i64 a0_5, .int .i64 a0_6, .bool a0_7] 23 (0, 0)) zQx19a4_ hb); have n3_ := Aside0.mk (below_step zQx19a0_ hb); clear HO247; clear HO251; clear BK243; clear HB; have HO247 := n0_; have HO251 := n1_; have BK243 := n2_; have HB := n3_; clear n0_ n1_ n2_ n3_; (try clear hb); (try clear hb2); (try clear hk); (try clear hi)) | ((with_reducible refine gate_callee (f := 40) rfl ?_); refine goesL_ (some 52) rfl rfl Tryz.func40 (by kernel_rfl) rfl #[.slice Ao41 t249.length co41, .slice Ao40 t245.length co40] rfl zQx19a2_ ?_; (with_reducible refine (basculeref22_minus.calls kj3 _ _ t249 _ _ t245 t261 _ ?side1 ?side2 ?side3 ?side4 A33.out).mono ?_); (case side1 => repeat (first | exact (Kd.R_reads' HO251.out).2.2 | (with_reducible refine Kd.C_alloc ?_ _) | (with_reducible refine Kd.C_drewN ?_ _) | (with_reducible refine Kd.C_drew ?_))); (case side2 => exact (Kd.R_reads' HO251.out).2.1); (case side3 => repeat (first | exact (Kd.R_reads' HO247.out).2.2 | (with_reducible refine Kd.C_alloc ?_ _) | (with_reducible refine Kd.C_drewN ?_ _) | (with_reducible refine Kd.C_drew ?_))); (case side4 => exact (Kd.R_reads' HO247.out).2.1); rintro e w43 ⟨v262, rfl, ho0, hb⟩; refine ⟨_, rfl, ?_⟩; have n0_ := Aside0.mk (Kd.R_elder' zQx19a3_ (Kd.R_base ho0) hb); have n1_ := Aside0.mk (Kd.R_elder' zQx19a5_ (Kd.R_base ho0) hb); have n2_ := Aside0.mk (Kd.R_lower (Kd.R_new' (Kd.R_new' ho0 (Kd.R_lt zQx19a3_)) (Kd.R_lt zQx19a5_)) (below_size zQx19a0_)); have n3_ := Aside0.mk (blk_below (g := gb243) (o := .cells #[.string a0_0, .int .i64 a0_1, .int .i64 a0_2, .int .i64 a0_3, .int .i64 a0_4, .int .i64 a0_5, .int .i64 a0_6, .bool a0_7] 23 (0, 0)) zQx19a4_ hb); have n4_ := Aside0.mk (below_step zQx19a0_ hb); clear HO247; clear HO251; clear BK243; clear HB; have HO247 := n0_; have HO251 := n1_; have HO263 := n2_; have BK243 := n3_; have HB := n4_; clear n0_ n1_ n2_ n3_ n4_; (try clear hb); (try clear hb2); (try clear hk); (try clear hi); (try clear ho0); have hcz44_0 : w43.cell? ⟨gb243, 0, none⟩ = some (.string a0_0) := (blk_cell BK243.out 0).trans rfl; have hcz44_1 : w43.cell? ⟨gb243, 1, none⟩ = some (.int .i64 a0_1) := (blk_cell BK243.out 1).trans rfl; have hcz44_2 : w43.cell? ⟨gb243, 2, none⟩ = some (.int .i64 a0_2) := (blk_cell BK243.out 2).trans rfl; have hcz44_3 : w43.cell? ⟨gb243, 3, none⟩ = some (.int .i64 a0_3) := (blk_cell BK243.out 3).trans rfl; have hcz44_4 : w43.cell? ⟨gb243, 4, none⟩ = some (.int .i64 a0_4) := (blk_cell BK243.out 4).trans rfl; have hcz44_5 : w43.cell? ⟨gb243, 5, none⟩ = some (.int .i64 a0_5) := (blk_cell BK243.out 5).trans rfl; have hcz44_6 : w43.cell? ⟨gb243, 6, none⟩ = some (.int .i64 a0_6) := (blk_cell BK243.out 6).trans rfl; have hcz44_7 : w43.cell? ⟨gb243, 7, none⟩ = some (.bool a0_7) := (blk_cell BK243.out 7).trans rfl; have hfz44_0 := blk_frozen BK243.out 0; have hfz44_1 := blk_frozen BK243.out 1; have hfz44_2 := blk_frozen BK243.out 2; have hfz44_3 := blk_frozen BK243.out 3; have hfz44_4 := blk_frozen BK243.out 4; have hfz44_5 := blk_frozen BK243.out 5; have hfz44_6 := blk_frozen BK243.out 6; have hfz44_7 := blk_frozen BK243.out 7) | ((with_reducible refine gate_callee (f := 41) rfl ?_); refine goesL_ (some 59) rfl rfl Tryz.func41 (by kernel_rfl) rfl #[.slice none 0 0, .int .i64 10, .int .i64 a0_6] rfl zQx19a2_ ?_; (refine (basculeref22_times.calls kj3 _ _ ([] : List Int) 10 a0_6 t264 _ ?side1 ?side2 A34.out).mono ?_); (case side1 => exact Kd.C_nil _ _); (case side2 => exact Nat.le_refl _); rintro e w45 ⟨v265, rfl, ho0, hb⟩; refine ⟨_, rfl, ?_⟩; have n0_ := Aside0.mk (Kd.R_elder' zQx19a3_ (Kd.R_base ho0) hb); have n1_ := Aside0.mk (Kd.R_elder' zQx19a5_ (Kd.R_base ho0) hb); have n2_ := Aside0.mk (Kd.R_elder' zQx19a12_ (Kd.R_base ho0) hb); have n3_ := Aside0.mk (Kd.R_lower (Kd.R_new' (Kd.R_new' (Kd.R_new' ho0 (Kd.R_lt zQx19a3_)) (Kd.R_lt zQx19a5_)) (Kd.R_lt zQx19a12_)) (below_size zQx19a0_)); have n4_ := Aside0.mk (blk_below (g := gb243) (o := .cells #[.string a0_0, .int .i64 a0_1, .int .i64 a0_2, .int .i64 a0_3, .int .i64 a0_4, .int .i64 a0_5, .int .i64 a0_6, .bool a0_7] 23 (0, 0)) zQx19a4_ hb); have n5_ := Aside0.mk (below_step zQx19a0_ hb); clear HO247; clear HO251; clear HO263; clear BK243; clear HB; have HO247 := n0_; have HO251 := n1_; have HO263 := n2_; have HO266 := n3_; have BK243 := n4_; have HB := n5_; clear n0_ n1_ n2_ n3_ n4_ n5_; (try clear hb); (try clear hb2); (try clear hk); (try clear hi); (try clear ho0); obtain ⟨Ao46, co46, eo46⟩ := Kd.R_slice HO263.out; subst eo46; obtain ⟨Ao47, co47, eo47⟩ := Kd.R_slice HO266.out; subst eo47) | ((with_reducible refine gate_callee (f := 39) rfl ?_); refine goesL_ (some 60) rfl rfl Tryz.func39 (by kernel_rfl) rfl #[.slice Ao46 t261.length co46, .slice Ao47 t264.length co47] rfl zQx19a2_ ?_; (with_reducible refine (basculeref22_less.calls _ _ t261 _ _ t264 t267 _ ?side1 ?side2 ?side3 ?side4 A35.out).mono ?_); (case side1 => repeat (first | exact (Kd.R_reads' HO263.out).2.2 | (with_reducible refine Kd.C_alloc ?_ _) | (with_reducible refine Kd.C_drewN ?_ _) | (with_reducible refine Kd.C_drew ?_))); (case side2 => exact (Kd.R_reads' HO263.out).2.1); (case side3 => repeat (first | exact (Kd.R_reads' HO266.out).2.2 | (with_reducible refine Kd.C_alloc ?_ _) | (with_reducible refine Kd.C_drewN ?_ _) | (with_reducible refine Kd.C_drew ?_))); (case side4 => exact (Kd.R_reads' HO266.out).2.1); rintro e w48 ⟨rfl, hb⟩; refine ⟨_, rfl, ?_⟩; have n0_ := Aside0.mk (Kd.R_below zQx19a3_ hb); have n1_ := Aside0.mk (Kd.R_below zQx19a5_ hb); have n2_ := Aside0.mk (Kd.R_below zQx19a12_ hb); have n3_ := Aside0.mk (Kd.R_below (by (with_reducible repeat (first | apply Kd.R_alloc | apply Kd.R_drewN | apply Kd.R_drew)); exact HO266.out) hb); have n4_ := Aside0.mk (blk_below (g := gb243) (o := .cells #[.string a0_0, .int .i64 a0_1, .int .i64 a0_2, .int .i64 a0_3, .int .i64 a0_4, .int .i64 a0_5, .int .i64 a0_6, .bool a0_7] 23 (0, 0)) zQx19a4_ hb); have n5_ := Aside0.mk (below_step zQx19a0_ hb); clear HO247; clear HO251; clear HO263; clear HO266; clear BK243; clear HB; have HO247 := n0_; have HO251 := n1_; have HO263 := n2_; have HO266 := n3_; have BK243 := n4_; have HB := n5_; clear n0_ n1_ n2_ n3_ n4_ n5_; (try clear hb); (try clear hb2); (try clear hk); (try clear hi)))
    go_ret
    exact ⟨zQx19a9_, zQx19a0_⟩
   replace c32 := Bool.eq_false_iff.mpr c32
   subst c32
   have H1 : ((basculeref22_minus.f kj3 t245 t249).bind fun t268 => ((basculeref22_times.f kj3 ([] : List Int) 10 a0_6).bind fun t271 => ((basculeref22_less.f t268 t271).bind fun t274 => (some (!t274))))) = some r := by rw [if_neg (show ¬ (false = true) by decide)] at H; exact H
   clear H
   have H := H1
   clear H1
   replace H := Option.bind_eq_some_iff.mp H
   obtain ⟨t268, A490, H⟩ := H
   replace H : ((basculeref22_times.f kj3 ([] : List Int) 10 a0_6).bind fun t271 => ((basculeref22_less.f t268 t271).bind fun t274 => (some (!t274)))) = some r := H
   have A49 := Aside0.mk A490
   clear A490
   replace H := Option.bind_eq_some_iff.mp H
   obtain ⟨t271, A500, H⟩ := H
   replace H : ((basculeref22_less.f t268 t271).bind fun t274 => (some (!t274))) = some r := H
   have A50 := Aside0.mk A500
   clear A500
   replace H := Option.bind_eq_some_iff.mp H
   obtain ⟨t274, A510, H⟩ := H
   replace H : (some (!t274)) = some r := H
   have A51 := Aside0.mk A510
   clear A510
   obtain rfl := Option.some.inj H
   have hcz52_0 : wc.cell? ⟨gb243, 0, none⟩ = some (.string a0_0) := (blk_cell BK243.out 0).trans rfl
   have hcz52_1 : wc.cell? ⟨gb243, 1, none⟩ = some (.int .i64 a0_1) := (blk_cell BK243.out 1).trans rfl
   have hcz52_2 : wc.cell? ⟨gb243, 2, none⟩ = some (.int .i64 a0_2) := (blk_cell BK243.out 2).trans rfl
   have hcz52_3 : wc.cell? ⟨gb243, 3, none⟩ = some (.int .i64 a0_3) := (blk_cell BK243.out 3).trans rfl
   have hcz52_4 : wc.cell? ⟨gb243, 4, none⟩ = some (.int .i64 a0_4) := (blk_cell BK243.out 4).trans rfl
   have hcz52_5 : wc.cell? ⟨gb243, 5, none⟩ = some (.int .i64 a0_5) := (blk_cell BK243.out 5).trans rfl
   have hcz52_6 : wc.cell? ⟨gb243, 6, none⟩ = some (.int .i64 a0_6) := (blk_cell BK243.out 6).trans rfl
   have hcz52_7 : wc.cell? ⟨gb243, 7, none⟩ = some (.bool a0_7) := (blk_cell BK243.out 7).trans rfl
   have hfz52_0 := blk_frozen BK243.out 0
   have hfz52_1 := blk_frozen BK243.out 1
   have hfz52_2 := blk_frozen BK243.out 2
   have hfz52_3 := blk_frozen BK243.out 3
   have hfz52_4 := blk_frozen BK243.out 4
   have hfz52_5 := blk_frozen BK243.out 5
   have hfz52_6 := blk_frozen BK243.out 6
   have hfz52_7 := blk_frozen BK243.out 7
   go_wp2_with (first | ((with_reducible refine gate_callee (f := 37) rfl ?_); refine goesL_ (some 32) rfl rfl Tryz.func37 (by kernel_rfl) rfl #[.agg #[.string a0_0, .int .i64 a0_1, .int .i64 a0_2, .int .i64 a0_3, .int .i64 a0_4, .int .i64 a0_5, .int .i64 a0_6, .bool a0_7], .slice A1 l1.length c1] rfl zQx19a2_ ?_; (with_reducible refine (basculeref22_Digits.calls a0_0 a0_1 a0_2 a0_3 a0_4 a0_5 a0_6 a0_7 _ _ l1 t245 t248 _ ?side1 ?side2 A13.out).mono ?_); (case side1 => repeat (first | exact (Kd.C_below HR1.out HB.out) | (with_reducible refine Kd.C_alloc ?_ _) | (with_reducible refine Kd.C_drewN ?_ _) | (with_reducible refine Kd.C_drew ?_))); (case side2 => exact HC1.out); rintro e w53 ⟨v246, rfl, ho0, hb⟩; refine ⟨_, rfl, ?_⟩; have n0_ := Aside0.mk (Kd.R_lower ho0 (below_size zQx19a0_)); have n1_ := Aside0.mk (blk_below (g := gb243) (o := .cells #[.string a0_0, .int .i64 a0_1, .int .i64 a0_2, .int .i64 a0_3, .int .i64 a0_4, .int .i64 a0_5, .int .i64 a0_6, .bool a0_7] 23 (0, 0)) zQx19a4_ hb); have n2_ := Aside0.mk (below_step zQx19a0_ hb); clear BK243; clear HB; have HO247 := n0_; have BK243 := n1_; have HB := n2_; clear n0_ n1_ n2_; (try clear hb); (try clear hb2); (try clear hk); (try clear hi); (try clear ho0); have hcz54_0 : w53.cell? ⟨gb243, 0, none⟩ = some (.string a0_0) := (blk_cell BK243.out 0).trans rfl; have hcz54_1 : w53.cell? ⟨gb243, 1, none⟩ = some (.int .i64 a0_1) := (blk_cell BK243.out 1).trans rfl; have hcz54_2 : w53.cell? ⟨gb243, 2, none⟩ = some (.int .i64 a0_2) := (blk_cell BK243.out 2).trans rfl; have hcz54_3 : w53.cell? ⟨gb243, 3, none⟩ = some (.int .i64 a0_3) := (blk_cell BK243.out 3).trans rfl; have hcz54_4 : w53.cell? ⟨gb243, 4, none⟩ = some (.int .i64 a0_4) := (blk_cell BK243.out 4).trans rfl; have hcz54_5 : w53.cell? ⟨gb243, 5, none⟩ = some (.int .i64 a0_5) := (blk_cell BK243.out 5).trans rfl; have hcz54_6 : w53.cell? ⟨gb243, 6, none⟩ = some (.int .i64 a0_6) := (blk_cell BK243.out 6).trans rfl; have hcz54_7 : w53.cell? ⟨gb243, 7, none⟩ = some (.bool a0_7) := (blk_cell BK243.out 7).trans rfl; have hfz54_0 := blk_frozen BK243.out 0; have hfz54_1 := blk_frozen BK243.out 1; have hfz54_2 := blk_frozen BK243.out 2; have hfz54_3 := blk_frozen BK243.out 3; have hfz54_4 := blk_frozen BK243.out 4; have hfz54_5 := blk_frozen BK243.out 5; have hfz54_6 := blk_frozen BK243.out 6; have hfz54_7 := blk_frozen BK243.out 7) | ((with_reducible refine gate_callee (f := 37) rfl ?_); refine goesL_ (some 38) rfl rfl Tryz.func37 (by kernel_rfl) rfl #[.agg #[.string a0_0, .int .i64 a0_1, .int .i64 a0_2, .int .i64 a0_3, .int .i64 a0_4, .int .i64 a0_5, .int .i64 a0_6, .bool a0_7], .slice A2 l2.length c2] rfl zQx19a2_ ?_; (with_reducible refine (basculeref22_Digits.calls a0_0 a0_1 a0_2 a0_3 a0_4 a0_5 a0_6 a0_7 _ _ l2 t249 t252 _ ?side1 ?side2 A14.out).mono ?_); (case side1 => repeat (first | exact (Kd.C_below HR2.out HB.out) | (with_reducible refine Kd.C_alloc ?_ _) | (with_reducible refine Kd.C_drewN ?_ _) | (with_reducible refine Kd.C_drew ?_))); (case side2 => exact HC2.out); rintro e w55 ⟨v250, rfl, ho0, hb⟩; refine ⟨_, rfl, ?_⟩; have n0_ := Aside0.mk (Kd.R_elder' zQx19a3_ (Kd.R_base ho0) hb); have n1_ := Aside0.mk (Kd.R_lower (Kd.R_new' ho0 (Kd.R_lt zQx19a3_)) (below_size zQx19a0_)); have n2_ := Aside0.mk (blk_below (g := gb243) (o := .cells #[.string a0_0, .int .i64 a0_1, .int .i64 a0_2, .int .i64 a0_3, .int .i64 a0_4, .int .i64 a0_5, .int .i64 a0_6, .bool a0_7] 23 (0, 0)) zQx19a4_ hb); have n3_ := Aside0.mk (below_step zQx19a0_ hb); clear HO247; clear BK243; clear HB; have HO247 := n0_; have HO251 := n1_; have BK243 := n2_; have HB := n3_; clear n0_ n1_ n2_ n3_; (try clear hb); (try clear hb2); (try clear hk); (try clear hi); (try clear ho0); obtain ⟨Ao56, co56, eo56⟩ := Kd.R_slice HO247.out; subst eo56; obtain ⟨Ao57, co57, eo57⟩ := Kd.R_slice HO251.out; subst eo57) | ((with_reducible refine gate_callee (f := 39) rfl ?_); refine goesL_ (some 49) rfl rfl Tryz.func39 (by kernel_rfl) rfl #[.slice Ao56 t245.length co56, .slice Ao57 t249.length co57] rfl zQx19a2_ ?_; (with_reducible refine (basculeref22_less.calls _ _ t245 _ _ t249 false _ ?side1 ?side2 ?side3 ?side4 A31.out).mono ?_); (case side1 => repeat (first | exact (Kd.R_reads' HO247.out).2.2 | (with_reducible refine Kd.C_alloc ?_ _) | (with_reducible refine Kd.C_drewN ?_ _) | (with_reducible refine Kd.C_drew ?_))); (case side2 => exact (Kd.R_reads' HO247.out).2.1); (case side3 => repeat (first | exact (Kd.R_reads' HO251.out).2.2 | (with_reducible refine Kd.C_alloc ?_ _) | (with_reducible refine Kd.C_drewN ?_ _) | (with_reducible refine Kd.C_drew ?_))); (case side4 => exact (Kd.R_reads' HO251.out).2.1); rintro e w58 ⟨rfl, hb⟩; refine ⟨_, rfl, ?_⟩; have n0_ := Aside0.mk (Kd.R_below zQx19a3_ hb); have n1_ := Aside0.mk (Kd.R_below zQx19a5_ hb); have n2_ := Aside0.mk (blk_below (g := gb243) (o := .cells #[.string a0_0, .int .i64 a0_1, .int .i64 a0_2, .int .i64 a0_3, .int .i64 a0_4, .int .i64 a0_5, .int .i64 a0_6, .bool a0_7] 23 (0, 0)) zQx19a4_ hb); have n3_ := Aside0.mk (below_step zQx19a0_ hb); clear HO247; clear HO251; clear BK243; clear HB; have HO247 := n0_; have HO251 := n1_; have BK243 := n2_; have HB := n3_; clear n0_ n1_ n2_ n3_; (try clear hb); (try clear hb2); (try clear hk); (try clear hi)) | ((with_reducible refine gate_callee (f := 40) rfl ?_); refine goesL_ (some 55) rfl rfl Tryz.func40 (by kernel_rfl) rfl #[.slice Ao56 t245.length co56, .slice Ao57 t249.length co57] rfl zQx19a2_ ?_; (with_reducible refine (basculeref22_minus.calls kj3 _ _ t245 _ _ t249 t268 _ ?side1 ?side2 ?side3 ?side4 A49.out).mono ?_); (case side1 => repeat (first | exact (Kd.R_reads' HO247.out).2.2 | (with_reducible refine Kd.C_alloc ?_ _) | (with_reducible refine Kd.C_drewN ?_ _) | (with_reducible refine Kd.C_drew ?_))); (case side2 => exact (Kd.R_reads' HO247.out).2.1); (case side3 => repeat (first | exact (Kd.R_reads' HO251.out).2.2 | (with_reducible refine Kd.C_alloc ?_ _) | (with_reducible refine Kd.C_drewN ?_ _) | (with_reducible refine Kd.C_drew ?_))); (case side4 => exact (Kd.R_reads' HO251.out).2.1); rintro e w59 ⟨v269, rfl, ho0, hb⟩; refine ⟨_, rfl, ?_⟩; have n0_ := Aside0.mk (Kd.R_elder' zQx19a3_ (Kd.R_base ho0) hb); have n1_ := Aside0.mk (Kd.R_elder' zQx19a5_ (Kd.R_base ho0) hb); have n2_ := Aside0.mk (Kd.R_lower (Kd.R_new' (Kd.R_new' ho0 (Kd.R_lt zQx19a3_)) (Kd.R_lt zQx19a5_)) (below_size zQx19a0_)); have n3_ := Aside0.mk (blk_below (g := gb243) (o := .cells #[.string a0_0, .int .i64 a0_1, .int .i64 a0_2, .int .i64 a0_3, .int .i64 a0_4, .int .i64 a0_5, .int .i64 a0_6, .bool a0_7] 23 (0, 0)) zQx19a4_ hb); have n4_ := Aside0.mk (below_step zQx19a0_ hb); clear HO247; clear HO251; clear BK243; clear HB; have HO247 := n0_; have HO251 := n1_; have HO270 := n2_; have BK243 := n3_; have HB := n4_; clear n0_ n1_ n2_ n3_ n4_; (try clear hb); (try clear hb2); (try clear hk); (try clear hi); (try clear ho0); have hcz60_0 : w59.cell? ⟨gb243, 0, none⟩ = some (.string a0_0) := (blk_cell BK243.out 0).trans rfl; have hcz60_1 : w59.cell? ⟨gb243, 1, none⟩ = some (.int .i64 a0_1) := (blk_cell BK243.out 1).trans rfl; have hcz60_2 : w59.cell? ⟨gb243, 2, none⟩ = some (.int .i64 a0_2) := (blk_cell BK243.out 2).trans rfl; have hcz60_3 : w59.cell? ⟨gb243, 3, none⟩ = some (.int .i64 a0_3) := (blk_cell BK243.out 3).trans rfl; have hcz60_4 : w59.cell? ⟨gb243, 4, none⟩ = some (.int .i64 a0_4) := (blk_cell BK243.out 4).trans rfl; have hcz60_5 : w59.cell? ⟨gb243, 5, none⟩ = some (.int .i64 a0_5) := (blk_cell BK243.out 5).trans rfl; have hcz60_6 : w59.cell? ⟨gb243, 6, none⟩ = some (.int .i64 a0_6) := (blk_cell BK243.out 6).trans rfl; have hcz60_7 : w59.cell? ⟨gb243, 7, none⟩ = some (.bool a0_7) := (blk_cell BK243.out 7).trans rfl; have hfz60_0 := blk_frozen BK243.out 0; have hfz60_1 := blk_frozen BK243.out 1; have hfz60_2 := blk_frozen BK243.out 2; have hfz60_3 := blk_frozen BK243.out 3; have hfz60_4 := blk_frozen BK243.out 4; have hfz60_5 := blk_frozen BK243.out 5; have hfz60_6 := blk_frozen BK243.out 6; have hfz60_7 := blk_frozen BK243.out 7) | ((with_reducible refine gate_callee (f := 41) rfl ?_); refine goesL_ (some 59) rfl rfl Tryz.func41 (by kernel_rfl) rfl #[.slice none 0 0, .int .i64 10, .int .i64 a0_6] rfl zQx19a2_ ?_; (refine (basculeref22_times.calls kj3 _ _ ([] : List Int) 10 a0_6 t271 _ ?side1 ?side2 A50.out).mono ?_); (case side1 => exact Kd.C_nil _ _); (case side2 => exact Nat.le_refl _); rintro e w61 ⟨v272, rfl, ho0, hb⟩; refine ⟨_, rfl, ?_⟩; have n0_ := Aside0.mk (Kd.R_elder' zQx19a3_ (Kd.R_base ho0) hb); have n1_ := Aside0.mk (Kd.R_elder' zQx19a5_ (Kd.R_base ho0) hb); have n2_ := Aside0.mk (Kd.R_elder' zQx19a13_ (Kd.R_base ho0) hb); have n3_ := Aside0.mk (Kd.R_lower (Kd.R_new' (Kd.R_new' (Kd.R_new' ho0 (Kd.R_lt zQx19a3_)) (Kd.R_lt zQx19a5_)) (Kd.R_lt zQx19a13_)) (below_size zQx19a0_)); have n4_ := Aside0.mk (blk_below (g := gb243) (o := .cells #[.string a0_0, .int .i64 a0_1, .int .i64 a0_2, .int .i64 a0_3, .int .i64 a0_4, .int .i64 a0_5, .int .i64 a0_6, .bool a0_7] 23 (0, 0)) zQx19a4_ hb); have n5_ := Aside0.mk (below_step zQx19a0_ hb); clear HO247; clear HO251; clear HO270; clear BK243; clear HB; have HO247 := n0_; have HO251 := n1_; have HO270 := n2_; have HO273 := n3_; have BK243 := n4_; have HB := n5_; clear n0_ n1_ n2_ n3_ n4_ n5_; (try clear hb); (try clear hb2); (try clear hk); (try clear hi); (try clear ho0); obtain ⟨Ao62, co62, eo62⟩ := Kd.R_slice HO270.out; subst eo62; obtain ⟨Ao63, co63, eo63⟩ := Kd.R_slice HO273.out; subst eo63) | ((with_reducible refine gate_callee (f := 39) rfl ?_); refine goesL_ (some 60) rfl rfl Tryz.func39 (by kernel_rfl) rfl #[.slice Ao62 t268.length co62, .slice Ao63 t271.length co63] rfl zQx19a2_ ?_; (with_reducible refine (basculeref22_less.calls _ _ t268 _ _ t271 t274 _ ?side1 ?side2 ?side3 ?side4 A51.out).mono ?_); (case side1 => repeat (first | exact (Kd.R_reads' HO270.out).2.2 | (with_reducible refine Kd.C_alloc ?_ _) | (with_reducible refine Kd.C_drewN ?_ _) | (with_reducible refine Kd.C_drew ?_))); (case side2 => exact (Kd.R_reads' HO270.out).2.1); (case side3 => repeat (first | exact (Kd.R_reads' HO273.out).2.2 | (with_reducible refine Kd.C_alloc ?_ _) | (with_reducible refine Kd.C_drewN ?_ _) | (with_reducible refine Kd.C_drew ?_))); (case side4 => exact (Kd.R_reads' HO273.out).2.1); rintro e w64 ⟨rfl, hb⟩; refine ⟨_, rfl, ?_⟩; have n0_ := Aside0.mk (Kd.R_below zQx19a3_ hb); have n1_ := Aside0.mk (Kd.R_below zQx19a5_ hb); have n2_ := Aside0.mk (Kd.R_below zQx19a13_ hb); have n3_ := Aside0.mk (Kd.R_below (by (with_reducible repeat (first | apply Kd.R_alloc | apply Kd.R_drewN | apply Kd.R_drew)); exact HO273.out) hb); have n4_ := Aside0.mk (blk_below (g := gb243) (o := .cells #[.string a0_0, .int .i64 a0_1, .int .i64 a0_2, .int .i64 a0_3, .int .i64 a0_4, .int .i64 a0_5, .int .i64 a0_6, .bool a0_7] 23 (0, 0)) zQx19a4_ hb); have n5_ := Aside0.mk (below_step zQx19a0_ hb); clear HO247; clear HO251; clear HO270; clear HO273; clear BK243; clear HB; have HO247 := n0_; have HO251 := n1_; have HO270 := n2_; have HO273 := n3_; have BK243 := n4_; have HB := n5_; clear n0_ n1_ n2_ n3_ n4_ n5_; (try clear hb); (try clear hb2); (try clear hk); (try clear hi)))
   go_ret
   exact ⟨zQx19a9_, zQx19a0_⟩
mutual
def basculeref22_point.l0 : Nat → Bool → Int → List Int → Option (ByteArray)
 | 0, _, _, _ => none
 | k + 1, x1, x2, x7 => if (x7.length : Int) < (wrap64 (x2 + 1)) then (if x7.length < 17592186044416 then (basculeref22_point.l0 k x1 x2 (x7 ++ [0])) else (none)) else (basculeref22_point.l1 k x1 x2 x7 (⟨#[]⟩ : ByteArray) 0)
def basculeref22_point.l1 : Nat → Bool → Int → List Int → ByteArray → Int → Option (ByteArray)
 | 0, _, _, _, _, _ => none
 | k + 1, x1, x2, x7, x8, x9 => if x9 < (x7.length : Int) then (if x9 = x2 then (if x2 > 0 then (if 1 + x8.size ≤ 9223372036854775807 then (if 0 ≤ x9 then ((some (([(wrap64 (48 + (rd x7 x9))) % 256] : List Int) : List Int)).bind fun y282 => (if (strOfNums y282).size + ((⟨#[46]⟩ : ByteArray) ++ x8).size ≤ 9223372036854775807 then (basculeref22_point.l1 k x1 x2 x7 ((strOfNums y282) ++ ((⟨#[46]⟩ : ByteArray) ++ x8)) (wrap64 (x9 + 1))) else (none))) else (none)) else (none)) else (if 0 ≤ x9 then ((some (([(wrap64 (48 + (rd x7 x9))) % 256] : List Int) : List Int)).bind fun y286 => (if (strOfNums y286).size + x8.size ≤ 9223372036854775807 then (basculeref22_point.l1 k x1 x2 x7 ((strOfNums y286) ++ x8) (wrap64 (x9 + 1))) else (none))) else (none))) else (if 0 ≤ x9 then ((some (([(wrap64 (48 + (rd x7 x9))) % 256] : List Int) : List Int)).bind fun y290 => (if (strOfNums y290).size + x8.size ≤ 9223372036854775807 then (basculeref22_point.l1 k x1 x2 x7 ((strOfNums y290) ++ x8) (wrap64 (x9 + 1))) else (none))) else (none))) else (if x1 = true then (if 1 + x8.size ≤ 9223372036854775807 then (some ((⟨#[45]⟩ : ByteArray) ++ x8)) else (none)) else (some x8))
end
def basculeref22_point.f (k : Nat) (l0 : List Int) (a1 : Bool) (a2 : Int) : Option (ByteArray) := if ([] : List Int).length + l0.length < 17592186044416 then (basculeref22_point.l0 k a1 a2 (([] : List Int) ++ l0)) else (none)
set_option maxHeartbeats 8000000 in
set_option maxRecDepth 100000 in
theorem basculeref22_point.calls (k : Nat) (A0 : Option Addr) (c0 : Nat) (l0 : List Int) (a1 : Bool) (a2 : Int) (r : ByteArray) (w : World) (hr0 : Kd.C (Kd.int .i64) w A0 l0.length l0) (hc0 : l0.length ≤ c0) (h : basculeref22_point.f k l0 a1 a2 = some r) :
  Calls Tryz.prog 42 #[.slice A0 l0.length c0, .bool a1, .int .i64 a2] w fun e w' => e = .returned (.string r) ∧ Below w.heap.size w w' := by
 have HR0 := Aside0.mk hr0
 have HC0 := Aside0.mk hc0
 clear hr0 hc0
 have HB := Aside0.mk (Below.refl w.heap.size w)
 have H : (if ([] : List Int).length + l0.length < 17592186044416 then (basculeref22_point.l0 k a1 a2 (([] : List Int) ++ l0)) else (none)) = some r := h
 clear h
 have c4 : ([] : List Int).length + l0.length < 17592186044416 := znQx19_
 rw [if_pos c4] at H
 have LMc4 := Aside0.mk c4
 clear c4
 obtain ⟨y275, hy275⟩ : ∃ y_ : List Int, y_ = (([] : List Int) ++ l0) := ⟨_, rfl⟩
 replace H : (basculeref22_point.l0 k a1 a2 y275) = some r := by first | (rw [hy275]; with_reducible exact H) | (have H2_ := (Option.bind_some _ _).symm.trans H; rw [hy275]; with_reducible exact H2_) | (have H2_ := (Option.bind_some _ _).symm.trans H; with_reducible exact H2_) | with_reducible exact H | (rw [hy275]; exact H) | exact H
 have Ny275 := Aside0.mk hy275
 clear hy275
 have H' := Aside0.mk H
 clear H
 go_enter Tryz.func42, Tryz.ntmps42
 go_wp2_with (first | ((with_reducible refine gate_builtin (b := .append) (xs := #[.tmp 10, .tmp 11]) rfl ?_); at_builtin; refine Kd.R_append_rows (Kd.int .i64) (w0 := w) w.heap.size rfl (.tmp 10) (.tmp 11) 33 3 (.int .i64 0) 8 rfl Tryz.underlying33 info3 rfl (by decide) (by omega) (.slice none 0 0) ([] : List Int) l0 _ _ _ (fun _ => True) (fun _ => False) rfl rfl ?aO ?aR (fun _ _ h => h) (fun _ h => h.elim) ?aF ?aB ?aS ?aL ?_; (case aR => repeat (first | exact HR0.out | (with_reducible refine Kd.C_alloc ?_ _) | (with_reducible refine Kd.C_drewN ?_ _) | (with_reducible refine Kd.C_drew ?_))); (case aB => exact zQx19a1_); (case aF => exact (fun _ _ => trivial)); (case aO => exact ((Kd.R_nil _ _ _ _ (fun _ => True)))); (case aS => exact (below_size zQx19a1_)); (case aL => have := LMc4.out; omega); intro v276 w5 ho hb hg hat; rw [← Ny275.out] at ho; have n0_ := Aside0.mk (hb); have n1_ := Aside0.mk (ho); clear HB; have HB := n0_; have HO277 := n1_; clear n0_ n1_; clear ho hb hg hat))
 go_loopg [7] k (fun kq v7 w' => ∃ (x7_1 : List Int), Aside0 (basculeref22_point.l0 kq a1 a2 x7_1 = some r) ∧ Aside0 (kq ≤ k) ∧ Aside0 (Kd.R (Kd.int .i64) 3 w' w.heap.size (fun _ => True) v7 x7_1) ∧ Aside0 (Below w.heap.size w w'))
 case atStart => exact ⟨(y275), H', ⟨Nat.le_refl _⟩, ⟨by (with_reducible repeat (first | apply Kd.R_alloc | apply Kd.R_drewN | apply Kd.R_drew)); exact HO277.out⟩, ⟨zQx19a1_⟩⟩
 case round =>
  clear H'
  try clear p2
  try clear c4
  obtain ⟨x7_1, HA, HK1, HO_7, HB⟩ := hrel
  cases gk with
  | zero => exact absurd HA.out (by simp [basculeref22_point.l0])
  | succ k1 =>
   have H := HA.out
   clear HA
   simp only [basculeref22_point.l0] at H
   by_cases c6 : (x7_1.length : Int) < (wrap64 (a2 + 1))
   ·
    rw [if_pos c6] at H
    have c6b0 : decide ((x7_1.length : Int) < (wrap64 (a2 + 1))) = true := decide_eq_true c6
    clear c6
    have c7 : x7_1.length < 17592186044416 := znQx19_
    rw [if_pos c7] at H
    have LMc7 := Aside0.mk c7
    clear c7
    obtain ⟨y278, hy278⟩ : ∃ y_ : List Int, y_ = (x7_1 ++ [0]) := ⟨_, rfl⟩
    replace H : (basculeref22_point.l0 k1 a1 a2 y278) = some r := by first | (rw [hy278]; with_reducible exact H) | (have H2_ := (Option.bind_some _ _).symm.trans H; rw [hy278]; with_reducible exact H2_) | (have H2_ := (Option.bind_some _ _).symm.trans H; with_reducible exact H2_) | with_reducible exact H | (rw [hy278]; exact H) | exact H
    have Ny278 := Aside0.mk hy278
    clear hy278
    have H' := Aside0.mk H
    clear H
    obtain ⟨Ao8, co8, eo8⟩ := Kd.R_slice HO_7.out
    subst eo8
    go_wp2_with (first | ((with_reducible refine gate_builtin (b := .append) (xs := #[.tmp 18, .tmp 19]) rfl ?_); at_builtin; refine Kd.R_append (Kd.int .i64) (w0 := w) w.heap.size rfl (.tmp 18) (.tmp 19) 33 3 (.int .i64 0) 8 rfl Tryz.underlying33 info3 rfl (by decide) (by omega) (.slice Ao8 x7_1.length co8) x7_1 0 [.int .i64 0] (fun _ => True) (fun _ => False) rfl rfl ?aP (fun _ hk => hk.elim) ?aF ?aO ?aB ?aS ?aL ?_; (case aP => exact rfl); (case aB => exact zQx19a1_); (case aF => exact (fun _ _ => trivial)); (case aO => exact zQx19a8_); (case aS => exact (below_size zQx19a1_)); (case aL => have := LMc7.out; omega); intro v279 w9 ho hb hg hat; rw [← Ny278.out] at ho; have n0_ := Aside0.mk (hb); have n1_ := Aside0.mk (ho); clear HB; clear HO_7; have HB := n0_; have HO280 := n1_; clear n0_ n1_; clear ho hb hg hat))
    go_roundg k1
    case measure => have := HK1.out; omega
    case rel => exact ⟨(y278), H', ⟨zQx19a15_⟩, ⟨by (with_reducible repeat (first | apply Kd.R_alloc | apply Kd.R_drewN | apply Kd.R_drew)); exact HO280.out⟩, ⟨zQx19a1_⟩⟩
   rw [if_neg c6] at H
   have c6b0 : decide ((x7_1.length : Int) < (wrap64 (a2 + 1))) = false := decide_eq_false c6
   clear c6
   have H' := Aside0.mk H
   clear H
   obtain ⟨Ao10, co10, eo10⟩ := Kd.R_slice HO_7.out
   subst eo10
   go_wp2
   go_loopg [8, 9] k1 (fun kq v8 v9 w' => ∃ (x8_2 : ByteArray) (x9_2 : Int), v8 = .string x8_2 ∧ v9 = .int .i64 x9_2 ∧ Aside0 (basculeref22_point.l1 kq a1 a2 x7_1 x8_2 x9_2 = some r) ∧ Aside0 (kq ≤ k1) ∧ Aside0 (Kd.R (Kd.int .i64) 3 w' w.heap.size (fun _ => True) (.slice Ao10 x7_1.length co10) x7_1) ∧ Aside0 (Below w.heap.size w w'))
   case atStart => exact ⟨((⟨#[]⟩ : ByteArray)), (0), zQx19a6_, zQx19a6_, H', ⟨Nat.le_refl _⟩, ⟨zQx19a8_⟩, ⟨zQx19a1_⟩⟩
   case round =>
    clear H'
    try clear p2
    try clear c4
    try clear c6
    try clear c6b0
    try clear p6
    try clear c7
    try clear p2
    obtain ⟨x8_2, x9_2, rfl, rfl, HA, HK2, HO_7, HB⟩ := hrel
    cases gk with
    | zero => exact absurd HA.out (by simp [basculeref22_point.l1])
    | succ k2 =>
     have H := HA.out
     clear HA
     simp only [basculeref22_point.l1] at H
     by_cases c11 : x9_2 < (x7_1.length : Int)
     rotate_left
     ·
      rw [if_neg c11] at H
      have c11b0 : decide (x9_2 < (x7_1.length : Int)) = false := decide_eq_false c11
      clear c11
      by_cases c30 : a1 = true
      rotate_left
      ·
       replace c30 := Bool.eq_false_iff.mpr c30
       subst c30
       have H1 : (some x8_2) = some r := by rw [if_neg (show ¬ (false = true) by decide)] at H; exact H
       clear H
       have H := H1
       clear H1
       obtain rfl := Option.some.inj H
       go_wp2
       go_ret
       exact ⟨zQx19a9_, zQx19a1_⟩
      subst c30
      have H1 : (if 1 + x8_2.size ≤ 9223372036854775807 then (some ((⟨#[45]⟩ : ByteArray) ++ x8_2)) else (none)) = some r := by rw [if_pos rfl] at H; exact H
      clear H
      have H := H1
      clear H1
      have c31 : 1 + x8_2.size ≤ 9223372036854775807 := znQx19_
      rw [if_pos c31] at H
      have c31b0 := eq_true c31
      have c31b1 : decide (1 + x8_2.size ≤ 9223372036854775807) = true := decide_eq_true c31
      try have c31b2 : (9223372036854775807 < 1 + x8_2.size) = False := eq_false (Nat.not_lt.2 c31)
      obtain rfl := Option.some.inj H
      go_wp2
      go_ret
      exact ⟨zQx19a9_, zQx19a1_⟩
     rw [if_pos c11] at H
     have c11b0 : decide (x9_2 < (x7_1.length : Int)) = true := decide_eq_true c11
     clear c11
     by_cases c12 : x9_2 = a2
     rotate_left
     ·
      rw [if_neg c12] at H
      have c12b0 : (x9_2 == a2) = false := beq_eq_false_iff_ne.mpr c12
      have c12b1 : (x9_2 != a2) = true := bne_iff_ne.mpr c12
      have c25 : 0 ≤ x9_2 := znQx19_
      rw [if_pos c25] at H
      have c25b0 : decide (0 ≤ x9_2) = true := decide_eq_true c25
      clear c25
      obtain ⟨y290, hy290⟩ : ∃ y_ : List Int, y_ = (([(wrap64 (48 + (rd x7_1 x9_2))) % 256] : List Int)) := ⟨_, rfl⟩
      replace H : (if (strOfNums y290).size + x8_2.size ≤ 9223372036854775807 then (basculeref22_point.l1 k2 a1 a2 x7_1 ((strOfNums y290) ++ x8_2) (wrap64 (x9_2 + 1))) else (none)) = some r := by first | (rw [hy290]; with_reducible exact H) | (have H2_ := (Option.bind_some _ _).symm.trans H; rw [hy290]; with_reducible exact H2_) | (have H2_ := (Option.bind_some _ _).symm.trans H; with_reducible exact H2_) | with_reducible exact H | (rw [hy290]; exact H) | exact H
      have Ny290 := Aside0.mk hy290
      clear hy290
      have c26 : (strOfNums y290).size + x8_2.size ≤ 9223372036854775807 := znQx19_
      rw [if_pos c26] at H
      have c26b0 := eq_true c26
      have c26b1 : decide ((strOfNums y290).size + x8_2.size ≤ 9223372036854775807) = true := decide_eq_true c26
      try have c26b2 : (9223372036854775807 < (strOfNums y290).size + x8_2.size) = False := eq_false (Nat.not_lt.2 c26)
      have H' := Aside0.mk H
      clear H
      have p289 : 0 ≤ (x9_2 : Int) := of_decide_eq_true zQx19a7_
      have q289 : x9_2 < (x7_1.length : Int) := of_decide_eq_true zQx19a7_
      obtain ⟨ad289, e289, hx289_0⟩ := Kd.at_int (Kd.R_reads' HO_7.out).2.2 x9_2 p289 q289
      cases e289
      replace p289 := eq_true p289
      replace q289 := eq_true q289
      go_wp2_with (first | ((with_reducible refine gate_dst (N := 42) rfl ?_); refine Kd.R_lit (Kd.int .u8) _ 5 ?hg (N := 42) ?hd (xs := ([(wrap64 (48 + (rd x7_1 x9_2))) % 256] : List Int)) (inner := [.int .u8 ((wrap64 (48 + (rd x7_1 x9_2))) % 256)]) (ok := fun _ => True) (okp := fun _ => True) ?hr ?hp (fun _ hk => hk) trivial (Below.refl _ _) (Nat.le_refl _) (by simp) ?_; (case hd => rfl); (case hg => rfl); (case hr => first | (go_simp; done) | (go_simp; rfl)); (case hp => exact (Reps.one (show Kd.M (Kd.int .u8) _ _ _ ((wrap64 (48 + (rd x7_1 x9_2))) % 256) [.int .u8 ((wrap64 (48 + (rd x7_1 x9_2))) % 256)] from rfl) (Reps.none _ _))); intro v291 w27 ho28 hb hg_ hnew_; clear hg_ hnew_; (first | rw [← Ny290.out] at ho28 | (simp only [Int.reduceToNat] at ho28; rw [← Ny290.out] at ho28)); have n0_ := Aside0.mk (Kd.R_below zQx19a8_ hb); have n1_ := Aside0.mk (Kd.R_lower ho28 (below_size zQx19a1_)); have n2_ := Aside0.mk (below_step zQx19a1_ hb); clear HO_7; clear HB; have HO_7 := n0_; have HO292 := n1_; have HB := n2_; clear n0_ n1_ n2_; clear hb ho28; have hcv29 := own_string (P := Tryz.prog) Tryz.underlying77 Tryz.underlying5 Tryz.underlying9 (Kd.own_of_R HO292.out)))
      go_roundg k2
      case measure => have := HK1.out; have := HK2.out; omega
      case rel => exact ⟨((strOfNums y290) ++ x8_2), (wrap64 (x9_2 + 1)), zQx19a6_, zQx19a6_, H', ⟨zQx19a14_⟩, ⟨zQx19a8_⟩, ⟨zQx19a1_⟩⟩
     rw [if_pos c12] at H
     have c12b0 : (x9_2 == a2) = true := beq_iff_eq.mpr c12
     have c12b1 : (x9_2 != a2) = false := bne_eq_false_iff_eq.mpr c12
     clear c12
     by_cases c13 : a2 > 0
     rotate_left
     ·
      rw [if_neg c13] at H
      have c13b0 : decide (0 < a2) = false := decide_eq_false c13
      clear c13
      have c20 : 0 ≤ x9_2 := znQx19_
      rw [if_pos c20] at H
      have c20b0 : decide (0 ≤ x9_2) = true := decide_eq_true c20
      clear c20
      obtain ⟨y286, hy286⟩ : ∃ y_ : List Int, y_ = (([(wrap64 (48 + (rd x7_1 x9_2))) % 256] : List Int)) := ⟨_, rfl⟩
      replace H : (if (strOfNums y286).size + x8_2.size ≤ 9223372036854775807 then (basculeref22_point.l1 k2 a1 a2 x7_1 ((strOfNums y286) ++ x8_2) (wrap64 (x9_2 + 1))) else (none)) = some r := by first | (rw [hy286]; with_reducible exact H) | (have H2_ := (Option.bind_some _ _).symm.trans H; rw [hy286]; with_reducible exact H2_) | (have H2_ := (Option.bind_some _ _).symm.trans H; with_reducible exact H2_) | with_reducible exact H | (rw [hy286]; exact H) | exact H
      have Ny286 := Aside0.mk hy286
      clear hy286
      have c21 : (strOfNums y286).size + x8_2.size ≤ 9223372036854775807 := znQx19_
      rw [if_pos c21] at H
      have c21b0 := eq_true c21
      have c21b1 : decide ((strOfNums y286).size + x8_2.size ≤ 9223372036854775807) = true := decide_eq_true c21
      try have c21b2 : (9223372036854775807 < (strOfNums y286).size + x8_2.size) = False := eq_false (Nat.not_lt.2 c21)
      have H' := Aside0.mk H
      clear H
      have p285 : 0 ≤ (x9_2 : Int) := of_decide_eq_true zQx19a7_
      have q285 : x9_2 < (x7_1.length : Int) := of_decide_eq_true zQx19a7_
      obtain ⟨ad285, e285, hx285_0⟩ := Kd.at_int (Kd.R_reads' HO_7.out).2.2 x9_2 p285 q285
      cases e285
      replace p285 := eq_true p285
      replace q285 := eq_true q285
      go_wp2_with (first | ((with_reducible refine gate_dst (N := 42) rfl ?_); refine Kd.R_lit (Kd.int .u8) _ 5 ?hg (N := 42) ?hd (xs := ([(wrap64 (48 + (rd x7_1 x9_2))) % 256] : List Int)) (inner := [.int .u8 ((wrap64 (48 + (rd x7_1 x9_2))) % 256)]) (ok := fun _ => True) (okp := fun _ => True) ?hr ?hp (fun _ hk => hk) trivial (Below.refl _ _) (Nat.le_refl _) (by simp) ?_; (case hd => rfl); (case hg => rfl); (case hr => first | (go_simp; done) | (go_simp; rfl)); (case hp => exact (Reps.one (show Kd.M (Kd.int .u8) _ _ _ ((wrap64 (48 + (rd x7_1 x9_2))) % 256) [.int .u8 ((wrap64 (48 + (rd x7_1 x9_2))) % 256)] from rfl) (Reps.none _ _))); intro v287 w22 ho23 hb hg_ hnew_; clear hg_ hnew_; (first | rw [← Ny286.out] at ho23 | (simp only [Int.reduceToNat] at ho23; rw [← Ny286.out] at ho23)); have n0_ := Aside0.mk (Kd.R_below zQx19a8_ hb); have n1_ := Aside0.mk (Kd.R_lower ho23 (below_size zQx19a1_)); have n2_ := Aside0.mk (below_step zQx19a1_ hb); clear HO_7; clear HB; have HO_7 := n0_; have HO288 := n1_; have HB := n2_; clear n0_ n1_ n2_; clear hb ho23; have hcv24 := own_string (P := Tryz.prog) Tryz.underlying77 Tryz.underlying5 Tryz.underlying9 (Kd.own_of_R HO288.out)))
      go_roundg k2
      case measure => have := HK1.out; have := HK2.out; omega
      case rel => exact ⟨((strOfNums y286) ++ x8_2), (wrap64 (x9_2 + 1)), zQx19a6_, zQx19a6_, H', ⟨zQx19a14_⟩, ⟨zQx19a8_⟩, ⟨zQx19a1_⟩⟩
     rw [if_pos c13] at H
     have c13b0 : decide (0 < a2) = true := decide_eq_true c13
     clear c13
     have c14 : 1 + x8_2.size ≤ 9223372036854775807 := znQx19_
     rw [if_pos c14] at H
     have c14b0 := eq_true c14
     have c14b1 : decide (1 + x8_2.size ≤ 9223372036854775807) = true := decide_eq_true c14
     try have c14b2 : (9223372036854775807 < 1 + x8_2.size) = False := eq_false (Nat.not_lt.2 c14)
     have c15 : 0 ≤ x9_2 := znQx19_
     rw [if_pos c15] at H
     have c15b0 : decide (0 ≤ x9_2) = true := decide_eq_true c15
     clear c15
     obtain ⟨y282, hy282⟩ : ∃ y_ : List Int, y_ = (([(wrap64 (48 + (rd x7_1 x9_2))) % 256] : List Int)) := ⟨_, rfl⟩
     replace H : (if (strOfNums y282).size + ((⟨#[46]⟩ : ByteArray) ++ x8_2).size ≤ 9223372036854775807 then (basculeref22_point.l1 k2 a1 a2 x7_1 ((strOfNums y282) ++ ((⟨#[46]⟩ : ByteArray) ++ x8_2)) (wrap64 (x9_2 + 1))) else (none)) = some r := by first | (rw [hy282]; with_reducible exact H) | (have H2_ := (Option.bind_some _ _).symm.trans H; rw [hy282]; with_reducible exact H2_) | (have H2_ := (Option.bind_some _ _).symm.trans H; with_reducible exact H2_) | with_reducible exact H | (rw [hy282]; exact H) | exact H
     have Ny282 := Aside0.mk hy282
     clear hy282
     have c16 : (strOfNums y282).size + ((⟨#[46]⟩ : ByteArray) ++ x8_2).size ≤ 9223372036854775807 := znQx19_
     rw [if_pos c16] at H
     have c16b0 := eq_true c16
     have c16b1 : decide ((strOfNums y282).size + ((⟨#[46]⟩ : ByteArray) ++ x8_2).size ≤ 9223372036854775807) = true := decide_eq_true c16
     try have c16b2 : (9223372036854775807 < (strOfNums y282).size + ((⟨#[46]⟩ : ByteArray) ++ x8_2).size) = False := eq_false (Nat.not_lt.2 c16)
     try have c16b7 : (9223372036854775807 < (strOfNums y282).size + (1 + x8_2.size)) = False := eq_false (by have h9_ := c16; simp only [ByteArray.size_append] at h9_; simp only [ByteArray.size, List.size_toArray, List.length_cons, List.length_nil] at h9_ ⊢; omega)
     have H' := Aside0.mk H
     clear H
     have p281 : 0 ≤ (x9_2 : Int) := of_decide_eq_true zQx19a7_
     have q281 : x9_2 < (x7_1.length : Int) := of_decide_eq_true zQx19a7_
     obtain ⟨ad281, e281, hx281_0⟩ := Kd.at_int (Kd.R_reads' HO_7.out).2.2 x9_2 p281 q281
     cases e281
     replace p281 := eq_true p281
     replace q281 := eq_true q281
     go_wp2_with (first | ((with_reducible refine gate_dst (N := 42) rfl ?_); refine Kd.R_lit (Kd.int .u8) _ 5 ?hg (N := 42) ?hd (xs := ([(wrap64 (48 + (rd x7_1 x9_2))) % 256] : List Int)) (inner := [.int .u8 ((wrap64 (48 + (rd x7_1 x9_2))) % 256)]) (ok := fun _ => True) (okp := fun _ => True) ?hr ?hp (fun _ hk => hk) trivial (Below.refl _ _) (Nat.le_refl _) (by simp) ?_; (case hd => rfl); (case hg => rfl); (case hr => first | (go_simp; done) | (go_simp; rfl)); (case hp => exact (Reps.one (show Kd.M (Kd.int .u8) _ _ _ ((wrap64 (48 + (rd x7_1 x9_2))) % 256) [.int .u8 ((wrap64 (48 + (rd x7_1 x9_2))) % 256)] from rfl) (Reps.none _ _))); intro v283 w17 ho18 hb hg_ hnew_; clear hg_ hnew_; (first | rw [← Ny282.out] at ho18 | (simp only [Int.reduceToNat] at ho18; rw [← Ny282.out] at ho18)); have n0_ := Aside0.mk (Kd.R_below zQx19a8_ hb); have n1_ := Aside0.mk (Kd.R_lower ho18 (below_size zQx19a1_)); have n2_ := Aside0.mk (below_step zQx19a1_ hb); clear HO_7; clear HB; have HO_7 := n0_; have HO284 := n1_; have HB := n2_; clear n0_ n1_ n2_; clear hb ho18; have hcv19 := own_string (P := Tryz.prog) Tryz.underlying77 Tryz.underlying5 Tryz.underlying9 (Kd.own_of_R HO284.out)))
     go_roundg k2
     case measure => have := HK1.out; have := HK2.out; omega
     case rel => exact ⟨((strOfNums y282) ++ ((⟨#[46]⟩ : ByteArray) ++ x8_2)), (wrap64 (x9_2 + 1)), zQx19a6_, zQx19a6_, H', ⟨zQx19a14_⟩, ⟨zQx19a8_⟩, ⟨zQx19a1_⟩⟩
end Go.Proofs.YtenbkjeflancaaaGreatDoor.Q
