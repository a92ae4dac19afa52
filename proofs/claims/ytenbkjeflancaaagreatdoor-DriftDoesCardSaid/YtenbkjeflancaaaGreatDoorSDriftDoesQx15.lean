/- What the proof of DriftDoes leans on: Qx15. -/
import Derived.Test.YtenbkjeflancaaaGreatDoorSDriftDoesValF
namespace Go.Proofs.YtenbkjeflancaaaGreatDoor.Q
open Go.RowKit Go.Proofs.YtenbkjeflancaaaGreatDoorW.PrintWords Go.Proofs.YtenbkjeflancaaaGreatDoorW.PrintLast Go.Proofs.YtenbkjeflancaaaGreatDoorW.PrintMore
attribute [local go_sem] max2_int min2_int max_two min_two
set_option linter.unusedVariables false
set_option linter.unusedSimpArgs false
theorem zQx15a0_ {P_ : Prop} (h_ : P_ := by repeat (first | (with_reducible first | exact HB.out | apply below_alloc | apply pw_below_drewN | apply below_drew1) | exact HB.out)) : P_ := h_
theorem zQx15a1_ {P_ : Prop} (h_ : P_ := by repeat (first | (with_reducible first | exact HK.out | apply Kept.alloc | apply Kept.drewN | apply Kept.drew) | exact HK.out)) : P_ := h_
theorem zQx15a2_ {P_ : Prop} (h_ : P_ := by first | (with_reducible assumption) | assumption) : P_ := h_
theorem zQx15a3_ {P_ : Prop} (h_ : P_ := by first | rfl | (simp; done) | (simp [*]; done)) : P_ := h_
theorem zQx15a4_ {P_ : Prop} (h_ : P_ := by repeat (first | exact Drawn0.refl _ | apply Drawn0.step)) : P_ := h_
theorem znQx15_ {X_ : Prop} [Decidable X_] (h_ : ¬ X_ → False := by intro c_; rw [if_neg c_] at H; exact absurd H (by simp)) : X_ := Decidable.byContradiction h_
def basculeref22_Signed.f (a0 : Int) : Option (Bool) := if a0 = 3 then (some true) else (if a0 = 5 then (some true) else (if a0 = 7 then (some true) else (some (a0 == 10))))
set_option maxHeartbeats 8000000 in
set_option maxRecDepth 100000 in
theorem basculeref22_Signed.calls (a0 : Int) (r : Bool) (w : World) (h : basculeref22_Signed.f a0 = some r) :
  Calls Tryz.prog 65 #[.int .i64 a0] w fun e w' => e = .returned (.bool r) ∧ Drawn0 w w' := by
 have H : (if a0 = 3 then (some true) else (if a0 = 5 then (some true) else (if a0 = 7 then (some true) else (some (a0 == 10))))) = some r := h
 clear h
 by_cases c2 : a0 = 3
 ·
  rw [if_pos c2] at H
  have c2b0 : (a0 == 3) = true := beq_iff_eq.mpr c2
  have c2b1 : (a0 != 3) = false := bne_eq_false_iff_eq.mpr c2
  clear c2
  obtain rfl := Option.some.inj H
  go_enter Tryz.func65, Tryz.ntmps65
  go_wp2
  go_ret
  exact ⟨zQx15a3_, zQx15a4_⟩
 rw [if_neg c2] at H
 have c2b0 : (a0 == 3) = false := beq_eq_false_iff_ne.mpr c2
 have c2b1 : (a0 != 3) = true := bne_iff_ne.mpr c2
 by_cases c3 : a0 = 5
 ·
  rw [if_pos c3] at H
  have c3b0 : (a0 == 5) = true := beq_iff_eq.mpr c3
  have c3b1 : (a0 != 5) = false := bne_eq_false_iff_eq.mpr c3
  clear c3
  obtain rfl := Option.some.inj H
  go_enter Tryz.func65, Tryz.ntmps65
  go_wp2
  go_ret
  exact ⟨zQx15a3_, zQx15a4_⟩
 rw [if_neg c3] at H
 have c3b0 : (a0 == 5) = false := beq_eq_false_iff_ne.mpr c3
 have c3b1 : (a0 != 5) = true := bne_iff_ne.mpr c3
 by_cases c4 : a0 = 7
 rotate_left
 ·
  rw [if_neg c4] at H
  have c4b0 : (a0 == 7) = false := beq_eq_false_iff_ne.mpr c4
  have c4b1 : (a0 != 7) = true := bne_iff_ne.mpr c4
  obtain rfl := Option.some.inj H
  go_enter Tryz.func65, Tryz.ntmps65
  go_wp2
  go_ret
  exact ⟨zQx15a3_, zQx15a4_⟩
 rw [if_pos c4] at H
 have c4b0 : (a0 == 7) = true := beq_iff_eq.mpr c4
 have c4b1 : (a0 != 7) = false := bne_eq_false_iff_eq.mpr c4
 clear c4
 obtain rfl := Option.some.inj H
 go_enter Tryz.func65, Tryz.ntmps65
 go_wp2
 go_ret
 exact ⟨zQx15a3_, zQx15a4_⟩
def basculeref22_trim.l0 : Nat → List Int → Int → Option (List Int)
 | 0, _, _ => none
 | k + 1, x0, x3 => if x3 > 0 then (if 0 ≤ (wrap64 (x3 - 1)) then (if (wrap64 (x3 - 1)) < (x0.length : Int) then (if (rd x0 (wrap64 (x3 - 1))) = 0 then (basculeref22_trim.l0 k x0 (wrap64 (x3 - 1))) else (if 0 ≤ x3 then (if x3 ≤ (x0.length : Int) then (some (x0.take (x3 : Int).toNat)) else (none)) else (none))) else (none)) else (none)) else (if 0 ≤ x3 then (if x3 ≤ (x0.length : Int) then (some (x0.take (x3 : Int).toNat)) else (none)) else (none))
def basculeref22_trim.f (k : Nat) (l0 : List Int) : Option (List Int) := basculeref22_trim.l0 k l0 (l0.length : Int)
set_option maxHeartbeats 8000000 in
set_option maxRecDepth 100000 in
theorem basculeref22_trim.calls (k : Nat) (P0_ : Nat → Prop) (u9000_ : Value) (l0 : List Int) (r : List Int) (w0 w : World) (hB : Below w0.heap.size w0 w) (ho0 : Kd.R (Kd.int .i64) 3 w w0.heap.size P0_ u9000_ l0) (h : basculeref22_trim.f k l0 = some r) :
  Calls Tryz.prog 66 #[u9000_] w fun e w' => ∃ v0_ : Value, e = .returned (v0_) ∧ Kd.R (Kd.int .i64) 3 w' w0.heap.size (fun k_ => (P0_ k_ ∨ w.heap.size ≤ k_)) v0_ r ∧ Below w0.heap.size w0 w' ∧ Kept w w' (fun k_ => P0_ k_) := by
 have HO0 := Aside0.mk (show Kd.R (Kd.int .i64) 3 w w0.heap.size (fun k_ => (P0_ k_ ∨ w.heap.size ≤ k_)) u9000_ l0 from Kd.R_mono ho0 (fun k_ hk => (.inl hk)))
 have HK := Aside0.mk (Kept.refl w (fun k_ => P0_ k_))
 have HW0 := Aside0.mk hB.size
 have HB := Aside0.mk hB
 clear hB
 have H : (basculeref22_trim.l0 k l0 (l0.length : Int)) = some r := h
 clear h
 have H' := Aside0.mk H
 clear H
 obtain ⟨Ao2, co2, eo2⟩ := Kd.R_slice HO0.out
 subst eo2
 go_enter Tryz.func66, Tryz.ntmps66
 go_wp2
 go_loopg [3] k (fun kq v3 w' => ∃ (x3_1 : Int), v3 = .int .i64 x3_1 ∧ Aside0 (basculeref22_trim.l0 kq l0 x3_1 = some r) ∧ Aside0 (kq ≤ k) ∧ Aside0 (Kd.R (Kd.int .i64) 3 w' w0.heap.size (fun k_ => (P0_ k_ ∨ w.heap.size ≤ k_)) (.slice Ao2 l0.length co2) l0) ∧ Aside0 (Kept w w' (fun k_ => P0_ k_)) ∧ Aside0 (Below w0.heap.size w0 w'))
 case atStart => exact ⟨((l0.length : Int)), zQx15a3_, H', ⟨Nat.le_refl _⟩, ⟨by (with_reducible repeat (first | apply Kd.R_alloc | apply Kd.R_drewN | apply Kd.R_drew)); exact HO0.out⟩, ⟨zQx15a1_⟩, ⟨zQx15a0_⟩⟩
 case round =>
  clear H'
  try clear p2
  obtain ⟨x3_1, rfl, HA, HK1, HO_0, HK, HB⟩ := hrel
  cases gk with
  | zero => exact absurd HA.out (by simp [basculeref22_trim.l0])
  | succ k1 =>
   have H := HA.out
   clear HA
   simp only [basculeref22_trim.l0] at H
   by_cases c3 : x3_1 > 0
   rotate_left
   ·
    rw [if_neg c3] at H
    have c3b0 : decide (0 < x3_1) = false := decide_eq_false c3
    clear c3
    have c11 : 0 ≤ x3_1 := znQx15_
    rw [if_pos c11] at H
    have c11b0 := eq_true c11
    have c11b1 : decide (0 ≤ x3_1) = true := decide_eq_true c11
    clear c11
    have c12 : x3_1 ≤ (l0.length : Int) := znQx15_
    rw [if_pos c12] at H
    have c12b0 := eq_true c12
    have c12b1 : decide (x3_1 ≤ (l0.length : Int)) = true := decide_eq_true c12
    clear c12
    obtain ⟨y208, hy208⟩ : ∃ y_ : List Int, y_ = (l0.take (x3_1 : Int).toNat) := ⟨_, rfl⟩
    replace H : (some y208) = some r := by first | (rw [hy208]; with_reducible exact H) | (have H2_ := (Option.bind_some _ _).symm.trans H; rw [hy208]; with_reducible exact H2_) | (have H2_ := (Option.bind_some _ _).symm.trans H; with_reducible exact H2_) | with_reducible exact H | (rw [hy208]; exact H) | exact H
    have Ny208 := Aside0.mk hy208
    clear hy208
    obtain rfl := Option.some.inj H
    have q13 : (x3_1 : Int) ≤ ((l0.length : Int) : Int) := of_decide_eq_true zQx15a2_
    obtain ⟨i013, hi013, _, hsz13, _⟩ := info_parts info3
    have hcut13 := cut_to (P := Tryz.prog) 33 3 .i64 Tryz.underlying33 hi013 Ao2 l0.length co2 x3_1 (of_decide_eq_true zQx15a2_) q13 (Kd.R_reads' HO_0.out).2.1
    have hr13 := Kd.R_take (m := (x3_1 : Int).toNat) HO_0.out (by omega)
    have hy13 : y208.length = (x3_1 : Int).toNat := (by rw [Ny208.out, List.length_take]; omega)
    rw [← Ny208.out] at hr13
    rw [← hy13] at hr13 hcut13
    clear hy13 hi013 hsz13 HO_0
    have HO210 := Aside0.mk hr13
    clear hr13
    replace q13 := eq_true q13
    go_wp2
    go_ret
    exact ⟨_, by first | rfl | (simp [errW_none, errW_some] <;> rfl) | (simp [*, errW_none, errW_some] <;> rfl), by (with_reducible repeat (first | apply Kd.R_alloc | apply Kd.R_drewN | apply Kd.R_drew)); exact HO210.out, zQx15a0_, zQx15a1_⟩
   rw [if_pos c3] at H
   have c3b0 : decide (0 < x3_1) = true := decide_eq_true c3
   clear c3
   obtain ⟨ji4, hji4⟩ : ∃ j_ : Int, (wrap64 (x3_1 - 1)) = j_ := ⟨_, rfl⟩
   replace H : (if 0 ≤ (ji4) then (if (ji4) < (l0.length : Int) then (if (rd l0 (ji4)) = 0 then (basculeref22_trim.l0 k1 l0 ji4) else (if 0 ≤ x3_1 then (if x3_1 ≤ (l0.length : Int) then (some (l0.take (x3_1 : Int).toNat)) else (none)) else (none))) else (none)) else (none)) = some r := by first | (rw [hji4] at H; exact H) | (simp only [hji4] at H ⊢; exact H)
   have hji4w : (IntKind.i64.wrap (x3_1 - 1)) = ji4 := (i64_w _).trans hji4
   have c5 : 0 ≤ (ji4) := znQx15_
   rw [if_pos c5] at H
   have c5b0 : decide (0 ≤ (ji4)) = true := decide_eq_true c5
   clear c5
   have c6 : (ji4) < (l0.length : Int) := znQx15_
   rw [if_pos c6] at H
   have c6b0 : decide ((ji4) < (l0.length : Int)) = true := decide_eq_true c6
   clear c6
   by_cases c7 : (rd l0 (ji4)) = 0
   ·
    rw [if_pos c7] at H
    have c7b0 : ((rd l0 (ji4)) == 0) = true := beq_iff_eq.mpr c7
    have c7b1 : ((rd l0 (ji4)) != 0) = false := bne_eq_false_iff_eq.mpr c7
    clear c7
    have H' := Aside0.mk H
    clear H
    have p204 : 0 ≤ ((ji4) : Int) := of_decide_eq_true zQx15a2_
    have q204 : (ji4) < (l0.length : Int) := of_decide_eq_true zQx15a2_
    obtain ⟨ad204, e204, hx204_0⟩ := Kd.at_int (Kd.R_reads' HO_0.out).2.2 (ji4) p204 q204
    cases e204
    replace p204 := eq_true p204
    replace q204 := eq_true q204
    go_wp2
    go_roundg k1
    case measure => have := HK1.out; omega
    case rel => exact ⟨(ji4), (by first | rfl | (simp; done) | (simp only [← hji4] <;> (first | rfl | simp)) | (simp [*]; done)), H', ⟨by have := HK1.out; omega⟩, ⟨by (with_reducible repeat (first | apply Kd.R_alloc | apply Kd.R_drewN | apply Kd.R_drew)); exact HO_0.out⟩, ⟨zQx15a1_⟩, ⟨zQx15a0_⟩⟩
   rw [if_neg c7] at H
   have c7b0 : ((rd l0 (ji4)) == 0) = false := beq_eq_false_iff_ne.mpr c7
   have c7b1 : ((rd l0 (ji4)) != 0) = true := bne_iff_ne.mpr c7
   have c8 : 0 ≤ x3_1 := znQx15_
   rw [if_pos c8] at H
   have c8b0 := eq_true c8
   have c8b1 : decide (0 ≤ x3_1) = true := decide_eq_true c8
   clear c8
   have c9 : x3_1 ≤ (l0.length : Int) := znQx15_
   rw [if_pos c9] at H
   have c9b0 := eq_true c9
   have c9b1 : decide (x3_1 ≤ (l0.length : Int)) = true := decide_eq_true c9
   clear c9
   obtain ⟨y205, hy205⟩ : ∃ y_ : List Int, y_ = (l0.take (x3_1 : Int).toNat) := ⟨_, rfl⟩
   replace H : (some y205) = some r := by first | (rw [hy205]; with_reducible exact H) | (have H2_ := (Option.bind_some _ _).symm.trans H; rw [hy205]; with_reducible exact H2_) | (have H2_ := (Option.bind_some _ _).symm.trans H; with_reducible exact H2_) | with_reducible exact H | (rw [hy205]; exact H) | exact H
   have Ny205 := Aside0.mk hy205
   clear hy205
   obtain rfl := Option.some.inj H
   have p204 : 0 ≤ ((ji4) : Int) := of_decide_eq_true zQx15a2_
   have q204 : (ji4) < (l0.length : Int) := of_decide_eq_true zQx15a2_
   obtain ⟨ad204, e204, hx204_0⟩ := Kd.at_int (Kd.R_reads' HO_0.out).2.2 (ji4) p204 q204
   cases e204
   replace p204 := eq_true p204
   replace q204 := eq_true q204
   have q10 : (x3_1 : Int) ≤ ((l0.length : Int) : Int) := of_decide_eq_true zQx15a2_
   obtain ⟨i010, hi010, _, hsz10, _⟩ := info_parts info3
   have hcut10 := cut_to (P := Tryz.prog) 33 3 .i64 Tryz.underlying33 hi010 (some ad204) l0.length co2 x3_1 (of_decide_eq_true zQx15a2_) q10 (Kd.R_reads' HO_0.out).2.1
   have hr10 := Kd.R_take (m := (x3_1 : Int).toNat) HO_0.out (by omega)
   have hy10 : y205.length = (x3_1 : Int).toNat := (by rw [Ny205.out, List.length_take]; omega)
   rw [← Ny205.out] at hr10
   rw [← hy10] at hr10 hcut10
   clear hy10 hi010 hsz10 HO_0
   have HO207 := Aside0.mk hr10
   clear hr10
   replace q10 := eq_true q10
   go_wp2
   go_ret
   exact ⟨_, by first | rfl | (simp [errW_none, errW_some] <;> rfl) | (simp only [← hji4]; first | rfl | (simp [errW_none, errW_some] <;> rfl)) | (simp [*, errW_none, errW_some] <;> rfl), by (with_reducible repeat (first | apply Kd.R_alloc | apply Kd.R_drewN | apply Kd.R_drew)); exact HO207.out, zQx15a0_, zQx15a1_⟩
end Go.Proofs.YtenbkjeflancaaaGreatDoor.Q
