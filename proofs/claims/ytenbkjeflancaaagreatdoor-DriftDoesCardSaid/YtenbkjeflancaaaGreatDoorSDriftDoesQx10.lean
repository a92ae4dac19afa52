/- What the proof of DriftDoes leans on: Qx10. -/
import Derived.Test.YtenbkjeflancaaaGreatDoorSDriftDoesValF
namespace Go.Proofs.YtenbkjeflancaaaGreatDoor.Q
open Go.RowKit Go.Proofs.YtenbkjeflancaaaGreatDoorW.PrintWords Go.Proofs.YtenbkjeflancaaaGreatDoorW.PrintLast Go.Proofs.YtenbkjeflancaaaGreatDoorW.PrintMore
attribute [local go_sem] max2_int min2_int max_two min_two
set_option linter.unusedVariables false
set_option linter.unusedSimpArgs false
theorem zQx10a0_ {P_ : Prop} (h_ : P_ := by repeat (first | (with_reducible first | exact HB.out | apply below_alloc | apply pw_below_drewN | apply below_drew1 | refine below_set ?_ GE177.out | refine below_set ?_ GE178.out) | exact HB.out)) : P_ := h_
theorem zQx10a1_ {P_ : Prop} (h_ : P_ := by (with_reducible repeat (first | refine blk_drewN ?_ _ | refine blk_drew ?_ | refine blk_alloc ?_ _)); exact BK177.out) : P_ := h_
theorem zQx10a2_ {P_ : Prop} (h_ : P_ := by (with_reducible repeat (first | refine blk_drewN ?_ _ | refine blk_drew ?_ | refine blk_alloc ?_ _)); exact BK178.out) : P_ := h_
theorem zQx10a3_ {P_ : Prop} (h_ : P_ := by (with_reducible repeat (first | refine blk_drewN ?_ _ | refine blk_drew ?_ | refine blk_alloc ?_ _)); refine blk_put (cs := #[.bool false, .int .u64 0]) ?_ 1 _ rfl; (with_reducible repeat (first | refine blk_drewN ?_ _ | refine blk_drew ?_ | refine blk_alloc ?_ _)); refine blk_put (cs := #[.bool false, .int .u64 0]) ?_ 0 _ rfl; (with_reducible repeat (first | refine blk_drewN ?_ _ | refine blk_drew ?_ | refine blk_alloc ?_ _)); exact BK178.out) : P_ := h_
theorem zQx10a4_ {P_ : Prop} (h_ : P_ := by (try simp only [List.map_toArray, List.map_cons, List.map_nil]); first | done | rfl | (simp only [List.length_drop, List.length_take]; rfl)) : P_ := h_
theorem zQx10a5_ {P_ : Prop} (h_ : P_ := by repeat (first | (with_reducible first | exact HB.out | apply below_alloc | apply pw_below_drewN | apply below_drew1) | exact HB.out)) : P_ := h_
theorem zQx10a6_ {P_ : Prop} (h_ : P_ := by first | rfl | (simp; done) | (simp [*]; done)) : P_ := h_
theorem zQx10a7_ {P_ : Prop} (h_ : P_ := by rw [← hq_]; exact (by repeat (first | (with_reducible first | exact HB.out | apply below_alloc | apply pw_below_drewN | apply below_drew1 | refine below_set ?_ GE177.out | refine below_set ?_ GE178.out) | exact HB.out))) : P_ := h_
theorem zQx10a8_ {P_ : Prop} (h_ : P_ := by (with_reducible repeat (first | apply Kd.R_alloc | apply Kd.R_drewN | apply Kd.R_drew)); exact HO_5.out) : P_ := h_
theorem zQx10a9_ {P_ : Prop} (h_ : P_ := by first | (with_reducible assumption) | assumption) : P_ := h_
theorem zQx10a10_ {P_ : Prop} (h_ : P_ := by repeat (first | (with_reducible first | exact HB.out | apply below_alloc | apply pw_below_drewN | apply below_drew1 | refine below_set ?_ GE177.out) | exact HB.out)) : P_ := h_
theorem zQx10a11_ {P_ : Prop} (h_ : P_ := by rw [← hq_]; exact (by (with_reducible repeat (first | refine blk_drewN ?_ _ | refine blk_drew ?_ | refine blk_alloc ?_ _)); exact BK177.out)) : P_ := h_
theorem zQx10a12_ {P_ : Prop} (h_ : P_ := by rw [← hq_]; exact (by (with_reducible repeat (first | refine blk_drewN ?_ _ | refine blk_drew ?_ | refine blk_alloc ?_ _)); exact BK178.out)) : P_ := h_
theorem zQx10a13_ {P_ : Prop} (h_ : P_ := by (with_reducible repeat (first | apply Kd.R_alloc | apply Kd.R_drewN | apply Kd.R_drew)); exact HO_17.out) : P_ := h_
theorem zQx10a14_ {P_ : Prop} (h_ : P_ := by rw [← hq_]; exact (by (with_reducible repeat (first | apply Kd.R_alloc | apply Kd.R_drewN | apply Kd.R_drew)); exact HO_17.out)) : P_ := h_
theorem zQx10a15_ {P_ : Prop} (h_ : P_ := by rw [← hq_]; exact (by (with_reducible repeat (first | apply Kd.R_alloc | apply Kd.R_drewN | apply Kd.R_drew)); exact HO_5.out)) : P_ := h_
theorem zQx10a16_ {P_ : Prop} (h_ : P_ := by repeat (first | exact Drawn0.refl _ | apply Drawn0.step)) : P_ := h_
theorem zQx10a17_ {P_ : Prop} (h_ : P_ := by repeat (first | (with_reducible first | exact HK.out | apply Kept.alloc | apply Kept.drewN | apply Kept.drew) | exact HK.out)) : P_ := h_
theorem zQx10a18_ {P_ : Prop} (h_ : P_ := by (with_reducible repeat (first | apply Kd.R_alloc | apply Kd.R_drewN | apply Kd.R_drew)); exact HO181.out) : P_ := h_
theorem zQx10a19_ {P_ : Prop} (h_ : P_ := by (with_reducible repeat (first | apply Kd.R_alloc | apply Kd.R_drewN | apply Kd.R_drew)); exact HO_0.out) : P_ := h_
theorem zQx10a20_ {P_ : Prop} (h_ : P_ := by first | rfl | (simp [errW_none, errW_some] <;> rfl) | (simp [*, errW_none, errW_some] <;> rfl)) : P_ := h_
theorem znQx10_ {X_ : Prop} [Decidable X_] (h_ : ¬ X_ → False := by intro c_; rw [if_neg c_] at H; exact absurd H (by simp)) : X_ := Decidable.byContradiction h_
def slices_Clone_int_int.f (l0 : List Int) : Option (List Int) := if l0.length ≤ 1000000 then some l0 else none
theorem slices_Clone_int_int.calls (A0 : Option Addr) (c0 : Nat) (l0 : List Int) (r : List Int) (w : World) (hr0 : Kd.C (Kd.int .i64) w A0 l0.length l0) (hc0 : l0.length ≤ c0) (h : slices_Clone_int_int.f l0 = some r) :
  Calls Tryz.prog 18 #[.slice A0 l0.length c0] w fun e w' => ∃ v0_ : Value, e = .returned (v0_) ∧ Kd.R (Kd.int .i64) 3 w' w.heap.size (fun _ => True) v0_ r ∧ Below w.heap.size w w' := by
 unfold slices_Clone_int_int.f at h
 split at h
 ·
  rename_i hc
  obtain rfl := Option.some.inj h
  exact Val.clone_calls A0 c0 _ w hr0 hc0 hc
 ·
  cases h
def value_turned.f (a0 : Int) : Option (Bool) := if a0 = 6 then (some true) else (some (a0 == 7))
set_option maxHeartbeats 8000000 in
set_option maxRecDepth 100000 in
theorem value_turned.calls (a0 : Int) (r : Bool) (w : World) (h : value_turned.f a0 = some r) :
  Calls Tryz.prog 60 #[.int .i64 a0] w fun e w' => e = .returned (.bool r) ∧ Drawn0 w w' := by
 have H : (if a0 = 6 then (some true) else (some (a0 == 7))) = some r := h
 clear h
 by_cases c2 : a0 = 6
 rotate_left
 ·
  rw [if_neg c2] at H
  have c2b0 : (a0 == 6) = false := beq_eq_false_iff_ne.mpr c2
  have c2b1 : (a0 != 6) = true := bne_iff_ne.mpr c2
  obtain rfl := Option.some.inj H
  go_enter Tryz.func60, Tryz.ntmps60
  go_wp2
  go_ret
  exact ⟨zQx10a6_, zQx10a16_⟩
 rw [if_pos c2] at H
 have c2b0 : (a0 == 6) = true := beq_iff_eq.mpr c2
 have c2b1 : (a0 != 6) = false := bne_eq_false_iff_eq.mpr c2
 clear c2
 obtain rfl := Option.some.inj H
 go_enter Tryz.func60, Tryz.ntmps60
 go_wp2
 go_ret
 exact ⟨zQx10a6_, zQx10a16_⟩
def slices_Reverse_int_int.l0 : Nat → List Int → Int → Int → Option (List Int)
 | 0, _, _, _ => none
 | k + 1, x0, x2, x3 => if x2 < x3 then (if 0 ≤ x3 then (if x3 < (x0.length : Int) then (if 0 ≤ x2 then (if x2 < (x0.length : Int) then (slices_Reverse_int_int.l0 k ((x0.set (x2 : Int).toNat (rd x0 x3)).set (x3 : Int).toNat (rd x0 x2)) (wrap64 (x2 + 1)) (wrap64 (x3 - 1))) else (none)) else (none)) else (none)) else (none)) else (some x0)
def slices_Reverse_int_int.f (k : Nat) (l0 : List Int) : Option (List Int) := slices_Reverse_int_int.l0 k l0 0 (wrap64 ((l0.length : Int) - 1))
def slices_Reverse_int_int.T3 : Bool × List (List Nat × List Nat) := (true, [([], []), ([], []), ([], []), ([], []), ([], []), ([], []), ([4, 5], [4, 5]), ([6], [6]), ([], []), ([], []), ([8, 9], [8, 9]), ([10], [10]), ([0, 1, 0, 1, 4, 5, 6, 7, 11], [0, 1]), ([12, 7, 0, 1, 4, 5, 6, 7, 11], [7, 12]), ([2, 3, 0, 1, 2, 3, 4, 5, 6, 7, 8, 9, 10, 11, 12, 13], [2, 3]), ([14, 11, 13, 0, 1, 2, 3, 4, 5, 6, 7, 8, 9, 10, 11, 12, 13], [11, 14])])
def slices_Reverse_int_int.B3 : List Nat := [0, 0, 0, 0, 0, 0, 48, 112, 0, 0, 768, 1792, 4083, 8179, 16383, 32767]
theorem slices_Reverse_int_int.tab3 : rtab .any (opsOf Tryz.f61 3) = slices_Reverse_int_int.T3 := by kernel_rfl
theorem slices_Reverse_int_int.bits3 : waitsOk slices_Reverse_int_int.T3.2 slices_Reverse_int_int.B3 = true := by kernel_rfl
set_option maxHeartbeats 8000000 in
set_option maxRecDepth 100000 in
theorem slices_Reverse_int_int.calls (k : Nat) (P0_ : Nat → Prop) (u9000_ : Value) (l0 : List Int) (r : List Int) (w0 w : World) (hB : Below w0.heap.size w0 w) (ho0 : Kd.R (Kd.int .i64) 3 w w0.heap.size P0_ u9000_ l0) (h : slices_Reverse_int_int.f k l0 = some r) :
  Calls Tryz.prog 61 #[u9000_] w fun e w' => e = .returned (.tuple #[]) ∧ Kd.R (Kd.int .i64) 3 w' w0.heap.size (fun k_ => (P0_ k_ ∨ w.heap.size ≤ k_)) u9000_ r ∧ Below w0.heap.size w0 w' ∧ Kept w w' (fun k_ => P0_ k_) := by
 have HO0 := Aside0.mk (show Kd.R (Kd.int .i64) 3 w w0.heap.size (fun k_ => (P0_ k_ ∨ w.heap.size ≤ k_)) u9000_ l0 from Kd.R_mono ho0 (fun k_ hk => (.inl hk)))
 have HK := Aside0.mk (Kept.refl w (fun k_ => P0_ k_))
 have HW0 := Aside0.mk hB.size
 have HB := Aside0.mk hB
 clear hB
 have H : (slices_Reverse_int_int.l0 k l0 0 (wrap64 ((l0.length : Int) - 1))) = some r := h
 clear h
 have H' := Aside0.mk H
 clear H
 obtain ⟨Ao2, co2, eo2⟩ := Kd.R_slice HO0.out
 subst eo2
 go_enter Tryz.func61, Tryz.ntmps61
 go_wp2
 go_loopg [2, 3] k (fun kq v2 v3 w' => ∃ (x0_1 : List Int) (x2_1 : Int) (x3_1 : Int), v2 = .int .i64 x2_1 ∧ v3 = .int .i64 x3_1 ∧ Aside0 (slices_Reverse_int_int.l0 kq x0_1 x2_1 x3_1 = some r) ∧ Aside0 (kq ≤ k) ∧ Aside0 (Kd.R (Kd.int .i64) 3 w' w0.heap.size (fun k_ => (P0_ k_ ∨ w.heap.size ≤ k_)) (.slice Ao2 l0.length co2) x0_1) ∧ Aside0 (Kept w w' (fun k_ => P0_ k_)) ∧ Aside0 (Below w0.heap.size w0 w'))
 case atStart => exact ⟨(l0), (0), (wrap64 ((l0.length : Int) - 1)), zQx10a6_, zQx10a6_, H', ⟨Nat.le_refl _⟩, ⟨by (with_reducible repeat (first | apply Kd.R_alloc | apply Kd.R_drewN | apply Kd.R_drew)); exact HO0.out⟩, ⟨zQx10a17_⟩, ⟨zQx10a5_⟩⟩
 case round =>
  clear H'
  try clear p2
  obtain ⟨x0_1, x2_1, x3_1, rfl, rfl, HA, HK1, HO_0, HK, HB⟩ := hrel
  have hl0_1 := (Kd.R_reads' HO_0.out).1
  rw [hl0_1] at HO_0
  (try simp only [hl0_1])
  cases gk with
  | zero => exact absurd HA.out (by simp [slices_Reverse_int_int.l0])
  | succ k1 =>
   have H := HA.out
   clear HA
   simp only [slices_Reverse_int_int.l0] at H
   by_cases c3 : x2_1 < x3_1
   rotate_left
   ·
    rw [if_neg c3] at H
    have c3b0 : decide (x2_1 < x3_1) = false := decide_eq_false c3
    clear c3
    obtain rfl := Option.some.inj H
    go_wp2
    first | go_end0 | ((try simp only [Exit.inBlock, Exit.then]); refine bodyPost_ret (results_none rfl _ _ _) rfl ?_)
    exact ⟨zQx10a20_, (by first | exact zQx10a19_ | (simp only [hl0_1]; exact zQx10a19_)), zQx10a5_, zQx10a17_⟩
   rw [if_pos c3] at H
   have c3b0 : decide (x2_1 < x3_1) = true := decide_eq_true c3
   clear c3
   have c4 : 0 ≤ x3_1 := znQx10_
   rw [if_pos c4] at H
   have c4b0 : decide (0 ≤ x3_1) = true := decide_eq_true c4
   clear c4
   have c5 : x3_1 < (x0_1.length : Int) := znQx10_
   rw [if_pos c5] at H
   have c5b0 : decide (x3_1 < (x0_1.length : Int)) = true := decide_eq_true c5
   clear c5
   have c6 : 0 ≤ x2_1 := znQx10_
   rw [if_pos c6] at H
   have c6b0 : decide (0 ≤ x2_1) = true := decide_eq_true c6
   clear c6
   have c7 : x2_1 < (x0_1.length : Int) := znQx10_
   rw [if_pos c7] at H
   have c7b0 : decide (x2_1 < (x0_1.length : Int)) = true := decide_eq_true c7
   clear c7
   obtain ⟨y175, hy175⟩ : ∃ y_ : List Int, y_ = (x0_1.set (x2_1 : Int).toNat (rd x0_1 x3_1)) := ⟨_, rfl⟩
   replace H : (slices_Reverse_int_int.l0 k1 (y175.set (x3_1 : Int).toNat (rd x0_1 x2_1)) (wrap64 (x2_1 + 1)) (wrap64 (x3_1 - 1))) = some r := by first | (rw [hy175]; with_reducible exact H) | (have H2_ := (Option.bind_some _ _).symm.trans H; rw [hy175]; with_reducible exact H2_) | (have H2_ := (Option.bind_some _ _).symm.trans H; with_reducible exact H2_) | with_reducible exact H | (rw [hy175]; exact H) | exact H
   have Ny175 := Aside0.mk hy175
   clear hy175
   obtain ⟨y176, hy176⟩ : ∃ y_ : List Int, y_ = (y175.set (x3_1 : Int).toNat (rd x0_1 x2_1)) := ⟨_, rfl⟩
   replace H : (slices_Reverse_int_int.l0 k1 y176 (wrap64 (x2_1 + 1)) (wrap64 (x3_1 - 1))) = some r := by first | (rw [hy176]; with_reducible exact H) | (have H2_ := (Option.bind_some _ _).symm.trans H; rw [hy176]; with_reducible exact H2_) | (have H2_ := (Option.bind_some _ _).symm.trans H; with_reducible exact H2_) | with_reducible exact H | (rw [hy176]; exact H) | exact H
   have Ny176 := Aside0.mk hy176
   clear hy176
   have H' := Aside0.mk H
   clear H
   try go_wp2
   have n0_ := Aside0.mk (Kd.R_drew HO_0.out)
   have n1_ := Aside0.mk (Kept.drew HK.out)
   have n2_ := Aside0.mk (below_drew1 HB.out)
   clear HO_0
   clear HK
   clear HB
   have HO_0 := n0_
   have HK := n1_
   have HB := n2_
   clear n0_ n1_ n2_
   have p173 : 0 ≤ (x3_1 : Int) := of_decide_eq_true zQx10a9_
   have q173 : x3_1 < (x0_1.length : Int) := of_decide_eq_true zQx10a9_
   obtain ⟨ad173, e173, hx173_0⟩ := Kd.at_int (Kd.R_reads' HO_0.out).2.2 x3_1 p173 q173
   cases e173
   replace p173 := eq_true p173
   replace q173 := eq_true q173
   have p174 : 0 ≤ (x2_1 : Int) := of_decide_eq_true zQx10a9_
   have q174 : x2_1 < (x0_1.length : Int) := of_decide_eq_true zQx10a9_
   obtain ⟨ad174, e174, hx174_0⟩ := Kd.at_int (Kd.R_reads' HO_0.out).2.2 x2_1 p174 q174
   obtain rfl : ad173 = ad174 := (by injection e174)
   replace p174 := eq_true p174
   replace q174 := eq_true q174
   have p8 : 0 ≤ (x2_1 : Int) := of_decide_eq_true zQx10a9_
   have q8 : (x2_1 : Int) < ((x0_1.length : Int) : Int) := of_decide_eq_true zQx10a9_
   obtain ⟨go8, co8, eo8, gb8, gl8, cl8, HG8⟩ := Kd.R_form HO_0.out (by omega)
   (first | cases eo8 | (injection eo8 with ea_ en_ ec_; (first | subst ea_ | (injection ea_ with ea_; subst ea_)); subst ec_; clear en_))
   have GB8 := Aside0.mk gb8
   have GG8 := Aside0.mk HG8
   clear gb8 gl8 HG8
   have HMgo8 := Aside0.mk (show (P0_ go8 ∨ w.heap.size ≤ go8) from (HO_0.out.1 _ rfl))
   (first | simp only [add_plain] at hx173_0 | skip)
   (first | simp only [add_plain] at hx174_0 | skip)
   obtain ⟨hx8_0, hf8_0⟩ := Kd.R_celln 0 HO_0.out (x2_1 : Int) p8 q8
   replace p8 := eq_true p8
   replace q8 := eq_true q8
   have HP11 := Kd.R_putn HO_0.out (x2_1 : Int) (rd x0_1 x3_1)
   rw [← Ny175.out] at HP11
   have HQ11 := Aside0.mk HP11
   clear HP11
   have p9 : 0 ≤ (x3_1 : Int) := of_decide_eq_true zQx10a9_
   have q9 : (x3_1 : Int) < ((x0_1.length : Int) : Int) := of_decide_eq_true zQx10a9_
   obtain ⟨hx9_0, hf9_0⟩ := Kd.R_celln 0 HQ11.out (x3_1 : Int) p9 q9
   replace p9 := eq_true p9
   replace q9 := eq_true q9
   have HP12 := Kd.R_putn HQ11.out (x3_1 : Int) (rd x0_1 x2_1)
   rw [← Ny176.out] at HP12
   have HQ12 := Aside0.mk HP12
   clear HP12
   refine start_ (n := 16) (S := fun w' => w'.cell? ⟨go8, (x3_1).toNat, none⟩ = some (.int .i64 (rd x0_1 x3_1)) ∧ w'.cell? ⟨go8, (x2_1).toNat, none⟩ = some (.int .i64 (rd x0_1 x2_1))) (ds := [13, 15]) #[false, false, false, false, false, false, false, false, false, false, false, false, false, false, false, false] (by kernel_rfl) rfl rfl ⟨hx173_0, hx174_0⟩ (fun hHeld => ?_); refine with_tabW slices_Reverse_int_int.tab3 slices_Reverse_int_int.bits3 (fun HT_ HW_ => ?_)
   generalize wr.drew = w10 at HO_0 HK HB GG8 HQ11 HQ12 hf8_0 hf9_0 hx173_0 hx174_0 hx8_0 hx9_0 hHeld ⊢
   refine pure_ (i := 0) (N := some 14) (v := ?_) (a' := ?_) #[true, false, false, false, false, false, false, false, false, false, false, false, false, false, false, false] rfl rfl (any_of HT_.out (by kernel_rfl)) (fun _ _ _ h => h) (Or.inl ⟨by rfl, ?_⟩) ?_ ?_
   rotate_left
   ·
    intro w'
    go_simp
    with_reducible rfl
   rotate_left
   ·
    simp only [Act.put, List.setIfInBounds_toArray, List.set_cons_zero, List.set_cons_succ, i64_w, i32_w]
    rfl
   refine pure_ (i := 1) (N := some 15) (v := ?_) (a' := ?_) #[true, true, false, false, false, false, false, false, false, false, false, false, false, false, false, false] rfl rfl (any_of HT_.out (by kernel_rfl)) (fun _ _ _ h => h) (Or.inl ⟨by rfl, ?_⟩) ?_ ?_
   rotate_left
   ·
    intro w'
    go_simp
    with_reducible rfl
   rotate_left
   ·
    simp only [Act.put, List.setIfInBounds_toArray, List.set_cons_zero, List.set_cons_succ, i64_w, i32_w]
    rfl
   refine pure_ (i := 2) (N := some 16) (v := ?_) (a' := ?_) #[true, true, true, false, false, false, false, false, false, false, false, false, false, false, false, false] rfl rfl (any_of HT_.out (by kernel_rfl)) (fun _ _ _ h => h) (Or.inl ⟨by rfl, ?_⟩) ?_ ?_
   rotate_left
   ·
    intro w'
    go_simp
    with_reducible rfl
   rotate_left
   ·
    simp only [Act.put, List.setIfInBounds_toArray, List.set_cons_zero, List.set_cons_succ, i64_w, i32_w]
    rfl
   refine pure_ (i := 3) (N := some 17) (v := ?_) (a' := ?_) #[true, true, true, true, false, false, false, false, false, false, false, false, false, false, false, false] rfl rfl (any_of HT_.out (by kernel_rfl)) (fun _ _ _ h => h) (Or.inl ⟨by rfl, ?_⟩) ?_ ?_
   rotate_left
   ·
    intro w'
    go_simp
    with_reducible rfl
   rotate_left
   ·
    simp only [Act.put, List.setIfInBounds_toArray, List.set_cons_zero, List.set_cons_succ, i64_w, i32_w]
    rfl
   refine pure_ (i := 4) (N := some 18) (v := ?_) (a' := ?_) #[true, true, true, true, true, false, false, false, false, false, false, false, false, false, false, false] rfl rfl (any_of HT_.out (by kernel_rfl)) (fun _ _ _ h => h) (Or.inl ⟨by rfl, ?_⟩) ?_ ?_
   rotate_left
   ·
    intro w'
    go_simp
    with_reducible rfl
   rotate_left
   ·
    simp only [Act.put, List.setIfInBounds_toArray, List.set_cons_zero, List.set_cons_succ, i64_w, i32_w]
    rfl
   refine pure_ (i := 5) (N := some 19) (v := ?_) (a' := ?_) #[true, true, true, true, true, true, false, false, false, false, false, false, false, false, false, false] rfl rfl (any_of HT_.out (by kernel_rfl)) (fun _ _ _ h => h) (Or.inl ⟨by rfl, ?_⟩) ?_ ?_
   rotate_left
   ·
    intro w'
    go_simp
    with_reducible rfl
   rotate_left
   ·
    simp only [Act.put, List.setIfInBounds_toArray, List.set_cons_zero, List.set_cons_succ, i64_w, i32_w]
    rfl
   refine pure_ (i := 6) (N := some 20) (v := ?_) (a' := ?_) #[true, true, true, true, true, true, true, false, false, false, false, false, false, false, false, false] rfl rfl (any_of HT_.out (by kernel_rfl)) (fun _ _ _ h => h) (Or.inl ⟨by rfl, ?_⟩) ?_ ?_
   rotate_left
   ·
    intro w'
    go_simp
    with_reducible rfl
   rotate_left
   ·
    simp only [Act.put, List.setIfInBounds_toArray, List.set_cons_zero, List.set_cons_succ, i64_w, i32_w]
    rfl
   refine pure_ (i := 8) (N := some 22) (v := ?_) (a' := ?_) #[true, true, true, true, true, true, true, false, true, false, false, false, false, false, false, false] rfl rfl (any_of HT_.out (by kernel_rfl)) (fun _ _ _ h => h) (Or.inl ⟨by rfl, ?_⟩) ?_ ?_
   rotate_left
   ·
    intro w'
    go_simp
    with_reducible rfl
   rotate_left
   ·
    simp only [Act.put, List.setIfInBounds_toArray, List.set_cons_zero, List.set_cons_succ, i64_w, i32_w]
    rfl
   refine pure_ (i := 9) (N := some 23) (v := ?_) (a' := ?_) #[true, true, true, true, true, true, true, false, true, true, false, false, false, false, false, false] rfl rfl (any_of HT_.out (by kernel_rfl)) (fun _ _ _ h => h) (Or.inl ⟨by rfl, ?_⟩) ?_ ?_
   rotate_left
   ·
    intro w'
    go_simp
    with_reducible rfl
   rotate_left
   ·
    simp only [Act.put, List.setIfInBounds_toArray, List.set_cons_zero, List.set_cons_succ, i64_w, i32_w]
    rfl
   refine pure_ (i := 10) (N := some 24) (v := ?_) (a' := ?_) #[true, true, true, true, true, true, true, false, true, true, true, false, false, false, false, false] rfl rfl (any_of HT_.out (by kernel_rfl)) (fun _ _ _ h => h) (Or.inl ⟨by rfl, ?_⟩) ?_ ?_
   rotate_left
   ·
    intro w'
    go_simp
    with_reducible rfl
   rotate_left
   ·
    simp only [Act.put, List.setIfInBounds_toArray, List.set_cons_zero, List.set_cons_succ, i64_w, i32_w]
    rfl
   refine take_ (i := 7) (N := some 21) (v := ?_) (a' := ?_) #[true, true, true, true, true, true, true, true, true, true, true, false, false, false, false, false] rfl rfl (take_ofW HT_.out HW_.out (by kernel_rfl)) (fun _ _ _ h => h) (Or.inl ⟨by rfl, ?_⟩) hHeld ?_ ?_
   rotate_left
   ·
    rintro w' ⟨s0, s1⟩
    go_simp
    with_reducible rfl
   rotate_left
   ·
    simp only [Act.put, List.setIfInBounds_toArray, List.set_cons_zero, List.set_cons_succ, i64_w, i32_w]
    rfl
   refine take_ (i := 11) (N := some 25) (v := ?_) (a' := ?_) #[true, true, true, true, true, true, true, true, true, true, true, true, false, false, false, false] rfl rfl (take_ofW HT_.out HW_.out (by kernel_rfl)) (fun _ _ _ h => h) (Or.inl ⟨by rfl, ?_⟩) hHeld ?_ ?_
   rotate_left
   ·
    rintro w' ⟨s0, s1⟩
    go_simp
    with_reducible rfl
   rotate_left
   ·
    simp only [Act.put, List.setIfInBounds_toArray, List.set_cons_zero, List.set_cons_succ, i64_w, i32_w]
    rfl
   refine pure_ (i := 12) (N := some 26) (v := ?_) (a' := ?_) #[true, true, true, true, true, true, true, true, true, true, true, true, true, false, false, false] rfl rfl (any_of HT_.out (by kernel_rfl)) (fun _ _ _ h => h) (Or.inl ⟨by rfl, ?_⟩) ?_ ?_
   rotate_left
   ·
    intro w'
    go_simp
    with_reducible rfl
   rotate_left
   ·
    simp only [Act.put, List.setIfInBounds_toArray, List.set_cons_zero, List.set_cons_succ, i64_w, i32_w]
    rfl
   refine last_ (i := 13) (N := none) #[true, true, true, true, true, true, true, true, true, true, true, true, true, true, false, false] rfl rfl (one_of HT_.out (by kernel_rfl)) (by decide) (fun K hK => ?_)
   refine skip_ (w1 := ?_) (by rfl) rfl ?_ ?_
   rotate_left
   ·
    go_simp
    rfl
   refine hK.out _ _ ?_
   clear hK K
   refine pure_ (i := 14) (N := some 27) (v := ?_) (a' := ?_) #[true, true, true, true, true, true, true, true, true, true, true, true, true, true, true, false] rfl rfl (any_of HT_.out (by kernel_rfl)) (fun _ _ _ h => h) (Or.inl ⟨by rfl, ?_⟩) ?_ ?_
   rotate_left
   ·
    intro w'
    go_simp
    with_reducible rfl
   rotate_left
   ·
    simp only [Act.put, List.setIfInBounds_toArray, List.set_cons_zero, List.set_cons_succ, i64_w, i32_w]
    rfl
   refine last_ (i := 15) (N := none) #[true, true, true, true, true, true, true, true, true, true, true, true, true, true, true, true] rfl rfl (one_of HT_.out (by kernel_rfl)) (by decide) (fun K hK => ?_)
   refine skip_ (w1 := ?_) (by rfl) rfl ?_ ?_
   rotate_left
   ·
    go_simp
    rfl
   refine hK.out _ _ ?_
   clear hK K
   refine done_ (done_of HT_.out (by kernel_rfl)) ?_
   try go_wp2
   (try simp only [← hl0_1])
   go_roundg k1
   case measure => have := HK1.out; omega
   case rel => exact ⟨(y176), (wrap64 (x2_1 + 1)), (wrap64 (x3_1 - 1)), zQx10a6_, zQx10a6_, H', ⟨by have := HK1.out; omega⟩, ⟨by (try simp only [hl0_1]); (with_reducible repeat (first | apply Kd.R_alloc | apply Kd.R_drewN | apply Kd.R_drew)); exact HQ12.out⟩, ⟨by repeat (first | (with_reducible first | exact HK.out | apply Kept.alloc | apply Kept.drewN | apply Kept.drew | refine Kept.setCell ?_ HMgo8.out _ | refine Kept.setCell ?_ HMgo8.out _) | exact HK.out)⟩, ⟨by repeat (first | (with_reducible first | exact HB.out | apply below_alloc | apply pw_below_drewN | apply below_drew1 | refine below_set ?_ GB8.out | refine below_set ?_ GB8.out) | exact HB.out)⟩⟩
def value_sign.f (a0 : Int) : Option (Bool) := if a0 = 3 then (some true) else (if a0 = 5 then (some true) else (if a0 = 7 then (some true) else (some (a0 == 10))))
set_option maxHeartbeats 8000000 in
set_option maxRecDepth 100000 in
theorem value_sign.calls (a0 : Int) (r : Bool) (w : World) (h : value_sign.f a0 = some r) :
  Calls Tryz.prog 62 #[.int .i64 a0] w fun e w' => e = .returned (.bool r) ∧ Drawn0 w w' := by
 have H : (if a0 = 3 then (some true) else (if a0 = 5 then (some true) else (if a0 = 7 then (some true) else (some (a0 == 10))))) = some r := h
 clear h
 by_cases c2 : a0 = 3
 ·
  rw [if_pos c2] at H
  have c2b0 : (a0 == 3) = true := beq_iff_eq.mpr c2
  have c2b1 : (a0 != 3) = false := bne_eq_false_iff_eq.mpr c2
  clear c2
  obtain rfl := Option.some.inj H
  go_enter Tryz.func62, Tryz.ntmps62
  go_wp2
  go_ret
  exact ⟨zQx10a6_, zQx10a16_⟩
 rw [if_neg c2] at H
 have c2b0 : (a0 == 3) = false := beq_eq_false_iff_ne.mpr c2
 have c2b1 : (a0 != 3) = true := bne_iff_ne.mpr c2
 by_cases c3 : a0 = 5
 ·
  rw [if_pos c3] at H
  have c3b0 : (a0 == 5) = true := beq_iff_eq.mpr c3
  have c3b1 : (a0 != 5) = false := bne_eq_false_iff_eq.mpr c3
  clear c3
  obtain rfl := Option.some.inj H
  go_enter Tryz.func62, Tryz.ntmps62
  go_wp2
  go_ret
  exact ⟨zQx10a6_, zQx10a16_⟩
 rw [if_neg c3] at H
 have c3b0 : (a0 == 5) = false := beq_eq_false_iff_ne.mpr c3
 have c3b1 : (a0 != 5) = true := bne_iff_ne.mpr c3
 by_cases c4 : a0 = 7
 rotate_left
 ·
  rw [if_neg c4] at H
  have c4b0 : (a0 == 7) = false := beq_eq_false_iff_ne.mpr c4
  have c4b1 : (a0 != 7) = true := bne_iff_ne.mpr c4
  obtain rfl := Option.some.inj H
  go_enter Tryz.func62, Tryz.ntmps62
  go_wp2
  go_ret
  exact ⟨zQx10a6_, zQx10a16_⟩
 rw [if_pos c4] at H
 have c4b0 : (a0 == 7) = true := beq_iff_eq.mpr c4
 have c4b1 : (a0 != 7) = false := bne_eq_false_iff_eq.mpr c4
 clear c4
 obtain rfl := Option.some.inj H
 go_enter Tryz.func62, Tryz.ntmps62
 go_wp2
 go_ret
 exact ⟨zQx10a6_, zQx10a16_⟩
mutual
def value_of.j0 : Nat → List Int → ByteArray → Int → Int → Int → Int → Int → Int → Bool → Option (Bool × Int)
 | 0, _, _, _, _, _, _, _, _, _ => none
 | k + 1, x5, x178000, x178001, x178002, x178003, x178004, x178005, x178006, x178007 => value_of.l0 k x5 0 x5 (x5.length : Int) 0 x178000 x178001 x178002 x178003 x178004 x178005 x178006 x178007
def value_of.l0 : Nat → List Int → Int → List Int → Int → Int → ByteArray → Int → Int → Int → Int → Int → Int → Bool → Option (Bool × Int)
 | 0, _, _, _, _, _, _, _, _, _, _, _, _, _ => none
 | k + 1, x5, x6, x17, x18, x19, x178000, x178001, x178002, x178003, x178004, x178005, x178006, x178007 => if x19 < x18 then (if 0 ≤ x19 then (if x19 < (x17.length : Int) then (value_of.l0 k x5 (Go.bits .or .u64 (IntKind.u64.wrap (x6 * 65536)) (IntKind.u64.wrap (rd x17 x19))) x17 x18 (wrap64 (x19 + 1)) x178000 x178001 x178002 x178003 x178004 x178005 x178006 x178007) else (none)) else (none)) else ((value_sign.f x178004).bind fun t185 => (if t185 = true then (if 0 ≤ (wrap64 ((wrap64 (16 * (x5.length : Int))) - 1)) then (if (shr .u64 x6 (wrap64 ((wrap64 (16 * (x5.length : Int))) - 1))) = 1 then (if 0 ≤ (wrap64 (64 - (wrap64 (16 * (x5.length : Int))))) then (some (true, shr .u64 (shl .u64 (IntKind.u64.wrap (-x6)) (wrap64 (64 - (wrap64 (16 * (x5.length : Int)))))) (wrap64 (64 - (wrap64 (16 * (x5.length : Int))))))) else (none)) else (some (false, x6))) else (none)) else (some (false, x6))))
end
def value_of.f (k : Nat) (a0_0 : ByteArray) (a0_1 : Int) (a0_2 : Int) (a0_3 : Int) (a0_4 : Int) (a0_5 : Int) (a0_6 : Int) (a0_7 : Bool) (l1 : List Int) : Option (Bool × Int) := (slices_Clone_int_int.f l1).bind fun t179 => ((value_turned.f a0_4).bind fun t182 => (if t182 = true then ((slices_Reverse_int_int.f k t179).bind fun t183 => (value_of.j0 k t183 a0_0 a0_1 a0_2 a0_3 a0_4 a0_5 a0_6 a0_7)) else (value_of.j0 k t179 a0_0 a0_1 a0_2 a0_3 a0_4 a0_5 a0_6 a0_7)))
set_option maxHeartbeats 8000000 in
set_option maxRecDepth 100000 in
theorem value_of.calls (k : Nat) (a0_0 : ByteArray) (a0_1 : Int) (a0_2 : Int) (a0_3 : Int) (a0_4 : Int) (a0_5 : Int) (a0_6 : Int) (a0_7 : Bool) (A1 : Option Addr) (c1 : Nat) (l1 : List Int) (r1 : Bool) (r2 : Int) (w : World) (hr1 : Kd.C (Kd.int .i64) w A1 l1.length l1) (hc1 : l1.length ≤ c1) (h : value_of.f k a0_0 a0_1 a0_2 a0_3 a0_4 a0_5 a0_6 a0_7 l1 = some (r1, r2)) :
  Calls Tryz.prog 30 #[.agg #[.string a0_0, .int .i64 a0_1, .int .i64 a0_2, .int .i64 a0_3, .int .i64 a0_4, .int .i64 a0_5, .int .i64 a0_6, .bool a0_7], .slice A1 l1.length c1] w fun e w' => e = .returned (.agg #[.bool r1, .int .u64 r2]) ∧ Below w.heap.size w w' := by
 have hu23 := Tryz.underlying23
 have hu66 := Tryz.underlying66
 have HR1 := Aside0.mk hr1
 have HC1 := Aside0.mk hc1
 clear hr1 hc1
 have HB := Aside0.mk (Below.refl w.heap.size w)
 have H : ((slices_Clone_int_int.f l1).bind fun t179 => ((value_turned.f a0_4).bind fun t182 => (if t182 = true then ((slices_Reverse_int_int.f k t179).bind fun t183 => (value_of.j0 k t183 a0_0 a0_1 a0_2 a0_3 a0_4 a0_5 a0_6 a0_7)) else (value_of.j0 k t179 a0_0 a0_1 a0_2 a0_3 a0_4 a0_5 a0_6 a0_7)))) = some (r1, r2) := h
 clear h
 replace H := Option.bind_eq_some_iff.mp H
 obtain ⟨t179, A30, H⟩ := H
 replace H : ((value_turned.f a0_4).bind fun t182 => (if t182 = true then ((slices_Reverse_int_int.f k t179).bind fun t183 => (value_of.j0 k t183 a0_0 a0_1 a0_2 a0_3 a0_4 a0_5 a0_6 a0_7)) else (value_of.j0 k t179 a0_0 a0_1 a0_2 a0_3 a0_4 a0_5 a0_6 a0_7))) = some (r1, r2) := H
 have A3 := Aside0.mk A30
 clear A30
 replace H := Option.bind_eq_some_iff.mp H
 obtain ⟨t182, A40, H⟩ := H
 replace H : (if t182 = true then ((slices_Reverse_int_int.f k t179).bind fun t183 => (value_of.j0 k t183 a0_0 a0_1 a0_2 a0_3 a0_4 a0_5 a0_6 a0_7)) else (value_of.j0 k t179 a0_0 a0_1 a0_2 a0_3 a0_4 a0_5 a0_6 a0_7)) = some (r1, r2) := H
 have A4 := Aside0.mk A40
 clear A40
 have HC5 := Aside0.mk H
 clear H
 go_enter Tryz.func30, Tryz.ntmps30
 go_upto_if 14 with (first | ((with_reducible refine gate_dst (N := 2) rfl ?_); refine box_event ?hg (N := 2) ?hd (cs := #[.string a0_0, .int .i64 a0_1, .int .i64 a0_2, .int .i64 a0_3, .int .i64 a0_4, .int .i64 a0_5, .int .i64 a0_6, .bool a0_7]) (t := 23) ?hr ?_; (case hd => rfl); (case hg => rfl); (case hr => first | (go_simp; done) | (go_simp; rfl)); intro gb177 hg w6 hbox hb; have n0_ := Aside0.mk (below_step zQx10a5_ hb); have n1_ := Aside0.mk (hbox); have n2_ := Aside0.mk ((by rw [hg]; exact (below_size zQx10a5_) : w.heap.size ≤ gb177)); have n3_ := Aside0.mk ((by rw [hg]; exact (below_size zQx10a5_) : w.heap.size ≤ gb177)); clear HB; have HB := n0_; have BK177 := n1_; have GW177 := n2_; have GE177 := n3_; clear n0_ n1_ n2_ n3_; clear hb hbox hg) | ((with_reducible refine gate_dst (N := 4) rfl ?_); refine box_event ?hg (N := 4) ?hd (cs := #[.bool false, .int .u64 0]) (t := 66) ?hr ?_; (case hd => rfl); (case hg => rfl); (case hr => first | (go_simp; done) | (go_simp; rfl)); intro gb178 hg w7 hbox hb; have n0_ := Aside0.mk (blk_below (g := gb177) (o := .cells #[.string a0_0, .int .i64 a0_1, .int .i64 a0_2, .int .i64 a0_3, .int .i64 a0_4, .int .i64 a0_5, .int .i64 a0_6, .bool a0_7] 23 (0, 0)) zQx10a1_ hb); have n1_ := Aside0.mk (below_step zQx10a10_ hb); have n2_ := Aside0.mk (hbox); have n3_ := Aside0.mk ((by rw [hg]; exact (below_size zQx10a10_) : w.heap.size ≤ gb178)); have n4_ := Aside0.mk ((by rw [hg]; exact (below_size zQx10a10_) : w.heap.size ≤ gb178)); have n5_ := Aside0.mk ((by rw [hg]; exact Nat.ne_of_lt (blk_lt (g := gb177) (o := .cells #[.string a0_0, .int .i64 a0_1, .int .i64 a0_2, .int .i64 a0_3, .int .i64 a0_4, .int .i64 a0_5, .int .i64 a0_6, .bool a0_7] 23 (0, 0)) zQx10a1_) : gb177 ≠ gb178)); have n6_ := Aside0.mk ((by rw [hg]; exact Nat.ne_of_gt (blk_lt (g := gb177) (o := .cells #[.string a0_0, .int .i64 a0_1, .int .i64 a0_2, .int .i64 a0_3, .int .i64 a0_4, .int .i64 a0_5, .int .i64 a0_6, .bool a0_7] 23 (0, 0)) zQx10a1_) : gb178 ≠ gb177)); clear BK177; clear HB; have BK177 := n0_; have HB := n1_; have BK178 := n2_; have GW178 := n3_; have GE178 := n4_; have NB177_178 := n5_; have NB178_177 := n6_; clear n0_ n1_ n2_ n3_ n4_ n5_ n6_; clear hb hbox hg) | ((with_reducible refine gate_callee (f := 18) rfl ?_); refine goesL_ (some 11) rfl rfl Tryz.func18 (by kernel_rfl) rfl #[.slice A1 l1.length c1] rfl zQx10a4_ ?_; (with_reducible refine (slices_Clone_int_int.calls _ _ l1 t179 _ ?side1 ?side2 A3.out).mono ?_); (case side1 => repeat (first | exact (Kd.C_below HR1.out HB.out) | (with_reducible refine Kd.C_alloc ?_ _) | (with_reducible refine Kd.C_drewN ?_ _) | (with_reducible refine Kd.C_drew ?_))); (case side2 => exact HC1.out); rintro e w8 ⟨v180, rfl, ho0, hb⟩; refine ⟨_, rfl, ?_⟩; have n0_ := Aside0.mk (Kd.R_lower ho0 (below_size zQx10a0_)); have n1_ := Aside0.mk (blk_below (g := gb177) (o := .cells #[.string a0_0, .int .i64 a0_1, .int .i64 a0_2, .int .i64 a0_3, .int .i64 a0_4, .int .i64 a0_5, .int .i64 a0_6, .bool a0_7] 23 (0, 0)) zQx10a1_ hb); have n2_ := Aside0.mk (blk_below (g := gb178) (o := .cells #[.bool false, .int .u64 0] 66 (0, 0)) zQx10a2_ hb); have n3_ := Aside0.mk (below_step zQx10a0_ hb); clear BK177; clear BK178; clear HB; have HO181 := n0_; have BK177 := n1_; have BK178 := n2_; have HB := n3_; clear n0_ n1_ n2_ n3_; (try clear hb); (try clear hb2); (try clear hk); (try clear hi); (try clear ho0); have hnb9 := NB177_178.out; have hnc9 := NB178_177.out; have hcz10_0 : w8.cell? ⟨gb177, 0, none⟩ = some (.string a0_0) := (blk_cell BK177.out 0).trans rfl; have hcz10_1 : w8.cell? ⟨gb177, 1, none⟩ = some (.int .i64 a0_1) := (blk_cell BK177.out 1).trans rfl; have hcz10_2 : w8.cell? ⟨gb177, 2, none⟩ = some (.int .i64 a0_2) := (blk_cell BK177.out 2).trans rfl; have hcz10_3 : w8.cell? ⟨gb177, 3, none⟩ = some (.int .i64 a0_3) := (blk_cell BK177.out 3).trans rfl; have hcz10_4 : w8.cell? ⟨gb177, 4, none⟩ = some (.int .i64 a0_4) := (blk_cell BK177.out 4).trans rfl; have hcz10_5 : w8.cell? ⟨gb177, 5, none⟩ = some (.int .i64 a0_5) := (blk_cell BK177.out 5).trans rfl; have hcz10_6 : w8.cell? ⟨gb177, 6, none⟩ = some (.int .i64 a0_6) := (blk_cell BK177.out 6).trans rfl; have hcz10_7 : w8.cell? ⟨gb177, 7, none⟩ = some (.bool a0_7) := (blk_cell BK177.out 7).trans rfl; have hfz10_0 := blk_frozen BK177.out 0; have hfz10_1 := blk_frozen BK177.out 1; have hfz10_2 := blk_frozen BK177.out 2; have hfz10_3 := blk_frozen BK177.out 3; have hfz10_4 := blk_frozen BK177.out 4; have hfz10_5 := blk_frozen BK177.out 5; have hfz10_6 := blk_frozen BK177.out 6; have hfz10_7 := blk_frozen BK177.out 7) | ((with_reducible refine gate_callee (f := 60) rfl ?_); refine goesL_ (some 14) rfl rfl Tryz.func60 (by kernel_rfl) rfl #[.int .i64 a0_4] rfl zQx10a4_ ?_; (with_reducible refine (value_turned.calls a0_4 t182 _ A4.out).mono ?_); rintro e w' ⟨rfl, ⟨nd, rfl⟩⟩; refine ⟨_, rfl, ?_⟩))
 (try simp only [Act.put, List.setIfInBounds_toArray, List.set_cons_zero, List.set_cons_succ])
 go_cut [] (fun wc => ∃ (kq : Nat) (x5_4 : List Int), Aside0 (value_of.j0 kq x5_4 a0_0 a0_1 a0_2 a0_3 a0_4 a0_5 a0_6 a0_7 = some (r1, r2)) ∧ Aside0 (kq ≤ k) ∧ Aside0 (Kd.R (Kd.int .i64) 3 wc w.heap.size (fun _ => True) v180 x5_4) ∧ Aside0 (wc.heap[gb177]? = some (.cells #[.string a0_0, .int .i64 a0_1, .int .i64 a0_2, .int .i64 a0_3, .int .i64 a0_4, .int .i64 a0_5, .int .i64 a0_6, .bool a0_7] 23 (0, 0))) ∧ Aside0 (wc.heap[gb178]? = some (.cells #[.bool false, .int .u64 0] 66 (0, 0))) ∧ Aside0 (Below w.heap.size w wc))
 case first =>
  have H := HC5.out
  clear HC5
  by_cases c11 : t182 = true
  rotate_left
  ·
   replace c11 := Bool.eq_false_iff.mpr c11
   subst c11
   have H1 : (value_of.j0 k t179 a0_0 a0_1 a0_2 a0_3 a0_4 a0_5 a0_6 a0_7) = some (r1, r2) := by rw [if_neg (show ¬ (false = true) by decide)] at H; exact H
   clear H
   have H := H1
   clear H1
   have H' := Aside0.mk H
   clear H
   go_wp2
   go_meet
   case rel => exact ⟨_, (t179), H', ⟨by first | omega | exact Nat.le_refl _⟩, ⟨zQx10a18_⟩, ⟨zQx10a1_⟩, ⟨zQx10a2_⟩, ⟨zQx10a0_⟩⟩
  subst c11
  have H1 : ((slices_Reverse_int_int.f k t179).bind fun t183 => (value_of.j0 k t183 a0_0 a0_1 a0_2 a0_3 a0_4 a0_5 a0_6 a0_7)) = some (r1, r2) := by rw [if_pos rfl] at H; exact H
  clear H
  have H := H1
  clear H1
  replace H := Option.bind_eq_some_iff.mp H
  obtain ⟨t183, A120, H⟩ := H
  replace H : (value_of.j0 k t183 a0_0 a0_1 a0_2 a0_3 a0_4 a0_5 a0_6 a0_7) = some (r1, r2) := H
  have A12 := Aside0.mk A120
  clear A120
  have H' := Aside0.mk H
  clear H
  obtain ⟨Ao13, co13, eo13⟩ := Kd.R_slice HO181.out
  subst eo13
  go_wp2_with (first | ((with_reducible refine gate_callee (f := 61) rfl ?_); refine goesL_ (some 16) rfl rfl Tryz.func61 (by kernel_rfl) rfl #[.slice Ao13 t179.length co13] rfl zQx10a4_ ?_; (with_reducible refine (slices_Reverse_int_int.calls k (fun k_ => some k_ = (.slice Ao13 t179.length co13 : Value).ownBlock) (.slice Ao13 t179.length co13) t179 t183 w _ ?side1 ?side2 A12.out).mono ?_); (case side1 => repeat (first | (with_reducible first | exact HB.out | apply below_alloc | apply pw_below_drewN | apply below_drew1 | refine below_set ?_ GE177.out | refine below_set ?_ GE178.out) | exact HB.out)); (case side2 => exact Kd.R_tight rfl HO181.out); rintro e w14 ⟨rfl, hy0, hb, hkp⟩; refine ⟨_, rfl, ?_⟩; have n0_ := Aside0.mk (blk_kept zQx10a1_ hkp (fun hs_ => (fun e_ => (Kd.R_ne HO181.out BK177.out (by decide)) e_) hs_)); have n1_ := Aside0.mk (blk_kept zQx10a2_ hkp (fun hs_ => (fun e_ => (Kd.R_ne HO181.out BK178.out (by decide)) e_) hs_)); have n2_ := Aside0.mk (Kd.R_reok rfl hy0 (fun k_ e_ => HO181.out.1 k_ e_)); have n3_ := Aside0.mk (hb); clear BK177; clear BK178; clear HO181; clear HB; have BK177 := n0_; have BK178 := n1_; have HO181 := n2_; have HB := n3_; clear n0_ n1_ n2_ n3_; (try clear hb); (try clear hkp); (try clear hy0)))
  go_meet
  case rel => exact ⟨_, (t183), H', ⟨by first | omega | exact Nat.le_refl _⟩, ⟨zQx10a18_⟩, ⟨zQx10a1_⟩, ⟨zQx10a2_⟩, ⟨zQx10a0_⟩⟩
 case rest =>
  clear HC5
  try clear c1
  try clear p2
  try clear c3
  try clear c6
  try clear c9
  try clear c11
  try clear hcz10_0
  try clear hcz10_1
  try clear hcz10_2
  try clear hcz10_3
  try clear hcz10_4
  try clear hcz10_5
  try clear hcz10_6
  try clear hcz10_7
  try clear hfz10_0
  try clear hfz10_1
  try clear hfz10_2
  try clear hfz10_3
  try clear hfz10_4
  try clear hfz10_5
  try clear hfz10_6
  try clear hfz10_7
  obtain ⟨kq, x5_4, HA, HJ4, HO_5, BK177, BK178, HB⟩ := hcut
  cases kq with
  | zero => exact absurd HA.out (by simp [value_of.j0])
  | succ kj4 =>
   have H := HA.out
   clear HA
   simp only [value_of.j0] at H
   have H' := Aside0.mk H
   clear H
   obtain ⟨Ao15, co15, eo15⟩ := Kd.R_slice HO_5.out
   subst eo15
   go_wp2
   go_loopg [6, 19] kj4 (fun kq v6 v19 w' => ∃ (x6_2 : Int) (x19_2 : Int), v6 = .int .u64 x6_2 ∧ v19 = .int .i64 x19_2 ∧ Aside0 (value_of.l0 kq x5_4 x6_2 x5_4 (x5_4.length : Int) x19_2 a0_0 a0_1 a0_2 a0_3 a0_4 a0_5 a0_6 a0_7 = some (r1, r2)) ∧ Aside0 (kq ≤ kj4) ∧ Aside0 (Kd.R (Kd.int .i64) 3 w' w.heap.size (fun _ => True) (.slice Ao15 x5_4.length co15) x5_4) ∧ Aside0 (Kd.R (Kd.int .i64) 3 w' w.heap.size (fun _ => True) (.slice Ao15 x5_4.length co15) x5_4) ∧ Aside0 (w'.heap[gb177]? = some (.cells #[.string a0_0, .int .i64 a0_1, .int .i64 a0_2, .int .i64 a0_3, .int .i64 a0_4, .int .i64 a0_5, .int .i64 a0_6, .bool a0_7] 23 (0, 0))) ∧ Aside0 (w'.heap[gb178]? = some (.cells #[.bool false, .int .u64 0] 66 (0, 0))) ∧ Aside0 (Below w.heap.size w w'))
   case atStart => exact ⟨(0), (0), zQx10a6_, zQx10a6_, H', ⟨Nat.le_refl _⟩, ⟨zQx10a8_⟩, ⟨zQx10a8_⟩, ⟨zQx10a1_⟩, ⟨zQx10a2_⟩, ⟨zQx10a0_⟩⟩
   case round =>
    clear H'
    try clear c1
    try clear p2
    try clear c3
    try clear c6
    try clear c9
    try clear c11
    try clear hcz10_0
    try clear hcz10_1
    try clear hcz10_2
    try clear hcz10_3
    try clear hcz10_4
    try clear hcz10_5
    try clear hcz10_6
    try clear hcz10_7
    try clear hfz10_0
    try clear hfz10_1
    try clear hfz10_2
    try clear hfz10_3
    try clear hfz10_4
    try clear hfz10_5
    try clear hfz10_6
    try clear hfz10_7
    try clear p2
    obtain ⟨x6_2, x19_2, rfl, rfl, HA, HK2, HO_5, HO_17, BK177, BK178, HB⟩ := hrel
    cases gk with
    | zero => exact absurd HA.out (by simp [value_of.l0])
    | succ k2 =>
     have H := HA.out
     clear HA
     simp only [value_of.l0] at H
     by_cases c16 : x19_2 < (x5_4.length : Int)
     ·
      rw [if_pos c16] at H
      have c16b0 : decide (x19_2 < (x5_4.length : Int)) = true := decide_eq_true c16
      clear c16
      have c17 : 0 ≤ x19_2 := znQx10_
      rw [if_pos c17] at H
      have c17b0 : decide (0 ≤ x19_2) = true := decide_eq_true c17
      clear c17
      have c18 : x19_2 < (x5_4.length : Int) := znQx10_
      rw [if_pos c18] at H
      have c18b0 : decide (x19_2 < (x5_4.length : Int)) = true := decide_eq_true c18
      clear c18
      have H' := Aside0.mk H
      clear H
      have p184 : 0 ≤ (x19_2 : Int) := of_decide_eq_true zQx10a9_
      have q184 : x19_2 < (x5_4.length : Int) := of_decide_eq_true zQx10a9_
      obtain ⟨ad184, e184, hx184_0⟩ := Kd.at_int (Kd.R_reads' HO_17.out).2.2 x19_2 p184 q184
      cases e184
      replace p184 := eq_true p184
      replace q184 := eq_true q184
      go_wp2
      go_roundg k2
      case measure => have := HJ4.out; have := HK2.out; omega
      case rel => exact ⟨(Go.bits .or .u64 (IntKind.u64.wrap (x6_2 * 65536)) (IntKind.u64.wrap (rd x5_4 x19_2))), (wrap64 (x19_2 + 1)), zQx10a6_, zQx10a6_, H', ⟨by have := HJ4.out; have := HK2.out; omega⟩, ⟨zQx10a8_⟩, ⟨zQx10a13_⟩, ⟨zQx10a1_⟩, ⟨zQx10a2_⟩, ⟨zQx10a0_⟩⟩
     rw [if_neg c16] at H
     have c16b0 : decide (x19_2 < (x5_4.length : Int)) = false := decide_eq_false c16
     clear c16
     replace H := Option.bind_eq_some_iff.mp H
     obtain ⟨t185, A190, H⟩ := H
     replace H : (if t185 = true then (if 0 ≤ (wrap64 ((wrap64 (16 * (x5_4.length : Int))) - 1)) then (if (shr .u64 x6_2 (wrap64 ((wrap64 (16 * (x5_4.length : Int))) - 1))) = 1 then (if 0 ≤ (wrap64 (64 - (wrap64 (16 * (x5_4.length : Int))))) then (some (true, shr .u64 (shl .u64 (IntKind.u64.wrap (-x6_2)) (wrap64 (64 - (wrap64 (16 * (x5_4.length : Int)))))) (wrap64 (64 - (wrap64 (16 * (x5_4.length : Int))))))) else (none)) else (some (false, x6_2))) else (none)) else (some (false, x6_2))) = some (r1, r2) := H
     have A19 := Aside0.mk A190
     clear A190
     by_cases c20 : t185 = true
     rotate_left
     ·
      replace c20 := Bool.eq_false_iff.mpr c20
      subst c20
      have H1 : (some (false, x6_2)) = some (r1, r2) := by rw [if_neg (show ¬ (false = true) by decide)] at H; exact H
      clear H
      have H := H1
      clear H1
      simp only [Option.some.injEq, Prod.mk.injEq] at H
      obtain ⟨rfl, rfl⟩ := H
      have hnb36 := NB177_178.out
      have hnc36 := NB178_177.out
      have hcz37_0 : wr.cell? ⟨gb177, 0, none⟩ = some (.string a0_0) := (blk_cell BK177.out 0).trans rfl
      have hcz37_1 : wr.cell? ⟨gb177, 1, none⟩ = some (.int .i64 a0_1) := (blk_cell BK177.out 1).trans rfl
      have hcz37_2 : wr.cell? ⟨gb177, 2, none⟩ = some (.int .i64 a0_2) := (blk_cell BK177.out 2).trans rfl
      have hcz37_3 : wr.cell? ⟨gb177, 3, none⟩ = some (.int .i64 a0_3) := (blk_cell BK177.out 3).trans rfl
      have hcz37_4 : wr.cell? ⟨gb177, 4, none⟩ = some (.int .i64 a0_4) := (blk_cell BK177.out 4).trans rfl
      have hcz37_5 : wr.cell? ⟨gb177, 5, none⟩ = some (.int .i64 a0_5) := (blk_cell BK177.out 5).trans rfl
      have hcz37_6 : wr.cell? ⟨gb177, 6, none⟩ = some (.int .i64 a0_6) := (blk_cell BK177.out 6).trans rfl
      have hcz37_7 : wr.cell? ⟨gb177, 7, none⟩ = some (.bool a0_7) := (blk_cell BK177.out 7).trans rfl
      have hfz37_0 := blk_frozen BK177.out 0
      have hfz37_1 := blk_frozen BK177.out 1
      have hfz37_2 := blk_frozen BK177.out 2
      have hfz37_3 := blk_frozen BK177.out 3
      have hfz37_4 := blk_frozen BK177.out 4
      have hfz37_5 := blk_frozen BK177.out 5
      have hfz37_6 := blk_frozen BK177.out 6
      have hfz37_7 := blk_frozen BK177.out 7
      go_wp2_with (first | ((with_reducible refine gate_callee (f := 62) rfl ?_); refine goesL_ (some 34) rfl rfl Tryz.func62 (by kernel_rfl) rfl #[.int .i64 a0_4] rfl zQx10a4_ ?_; (with_reducible refine (value_sign.calls a0_4 false _ A19.out).mono ?_); rintro e w' ⟨rfl, ⟨nd, rfl⟩⟩; refine ⟨_, rfl, ?_⟩; (try (rw [drewN_self wr]; generalize hq_ : World.drewN wr _ = wr; have n0_ : Aside0 (Kd.R (Kd.int .i64) 3 wr w.heap.size (fun _ => True) (.slice Ao15 x5_4.length co15) x5_4) := ⟨zQx10a14_⟩; have n1_ : Aside0 (Kd.R (Kd.int .i64) 3 wr w.heap.size (fun _ => True) (.slice Ao15 x5_4.length co15) x5_4) := ⟨zQx10a15_⟩; have n2_ : Aside0 (wr.heap[gb177]? = some (.cells #[.string a0_0, .int .i64 a0_1, .int .i64 a0_2, .int .i64 a0_3, .int .i64 a0_4, .int .i64 a0_5, .int .i64 a0_6, .bool a0_7] 23 (0, 0))) := ⟨zQx10a11_⟩; have n3_ : Aside0 (wr.heap[gb178]? = some (.cells #[.bool false, .int .u64 0] 66 (0, 0))) := ⟨zQx10a12_⟩; have n4_ : Aside0 (Below w.heap.size w wr) := ⟨zQx10a7_⟩; clear HO_17 HO_5 BK177 BK178 HB hq_; have HO_17 := n0_; have HO_5 := n1_; have BK177 := n2_; have BK178 := n3_; have HB := n4_; clear n0_ n1_ n2_ n3_ n4_)); have hcz38_0 : wr.cell? ⟨gb178, 0, none⟩ = some (.bool false) := (blk_cell BK178.out 0).trans rfl; have hcz38_1 : wr.cell? ⟨gb178, 1, none⟩ = some (.int .u64 0) := (blk_cell BK178.out 1).trans rfl; have hfz38_0 := blk_frozen BK178.out 0; have hfz38_1 := blk_frozen BK178.out 1))
      refine bodyPost_ret (results_cell_row rfl _ _ gb178 66 #[.bool false, .int .u64 x6_2] (0, 0) _ rfl zQx10a3_ Tryz.underlying66 rfl (by kernel_rfl)) rfl ?_
      exact ⟨zQx10a20_, zQx10a0_⟩
     subst c20
     have H1 : (if 0 ≤ (wrap64 ((wrap64 (16 * (x5_4.length : Int))) - 1)) then (if (shr .u64 x6_2 (wrap64 ((wrap64 (16 * (x5_4.length : Int))) - 1))) = 1 then (if 0 ≤ (wrap64 (64 - (wrap64 (16 * (x5_4.length : Int))))) then (some (true, shr .u64 (shl .u64 (IntKind.u64.wrap (-x6_2)) (wrap64 (64 - (wrap64 (16 * (x5_4.length : Int)))))) (wrap64 (64 - (wrap64 (16 * (x5_4.length : Int))))))) else (none)) else (some (false, x6_2))) else (none)) = some (r1, r2) := by rw [if_pos rfl] at H; exact H
     clear H
     have H := H1
     clear H1
     obtain ⟨ji21, hji21⟩ : ∃ j_ : Int, (wrap64 ((wrap64 (16 * (x5_4.length : Int))) - 1)) = j_ := ⟨_, rfl⟩
     replace H : (if 0 ≤ (ji21) then (if (shr .u64 x6_2 (ji21)) = 1 then (if 0 ≤ (wrap64 (64 - (wrap64 (16 * (x5_4.length : Int))))) then (some (true, shr .u64 (shl .u64 (IntKind.u64.wrap (-x6_2)) (wrap64 (64 - (wrap64 (16 * (x5_4.length : Int)))))) (wrap64 (64 - (wrap64 (16 * (x5_4.length : Int))))))) else (none)) else (some (false, x6_2))) else (none)) = some (r1, r2) := by first | (rw [hji21] at H; exact H) | (simp only [hji21] at H ⊢; exact H)
     (try rw [hji21] at A19)
     have hji21w : (IntKind.i64.wrap ((wrap64 (16 * (x5_4.length : Int))) - 1)) = ji21 := (i64_w _).trans hji21
     have c22 : 0 ≤ (ji21) := znQx10_
     rw [if_pos c22] at H
     have c22b0 := eq_true c22
     have c22b1 : decide (0 ≤ (ji21)) = true := decide_eq_true c22
     clear c22
     obtain ⟨ji23, hji23⟩ : ∃ j_ : Int, (shr .u64 x6_2 (ji21)) = j_ := ⟨_, rfl⟩
     replace H : (if (ji23) = 1 then (if 0 ≤ (wrap64 (64 - (wrap64 (16 * (x5_4.length : Int))))) then (some (true, shr .u64 (shl .u64 (IntKind.u64.wrap (-x6_2)) (wrap64 (64 - (wrap64 (16 * (x5_4.length : Int)))))) (wrap64 (64 - (wrap64 (16 * (x5_4.length : Int))))))) else (none)) else (some (false, x6_2))) = some (r1, r2) := by first | (rw [hji23] at H; exact H) | (simp only [hji23] at H ⊢; exact H)
     (try rw [hji23] at A19)
     have hji23_ : (x6_2 / 2 ^ min (ji21).toNat 64) = ji23 := hji23
     have hji23z : (ji21) ≤ 64 → (x6_2 / 2 ^ (ji21).toNat) = ji23 := shr_small hji23
     by_cases c24 : (ji23) = 1
     rotate_left
     ·
      rw [if_neg c24] at H
      have c24b0 : ((ji23) == 1) = false := beq_eq_false_iff_ne.mpr c24
      have c24b1 : ((ji23) != 1) = true := bne_iff_ne.mpr c24
      simp only [Option.some.injEq, Prod.mk.injEq] at H
      obtain ⟨rfl, rfl⟩ := H
      have hnb33 := NB177_178.out
      have hnc33 := NB178_177.out
      have hcz34_0 : wr.cell? ⟨gb177, 0, none⟩ = some (.string a0_0) := (blk_cell BK177.out 0).trans rfl
      have hcz34_1 : wr.cell? ⟨gb177, 1, none⟩ = some (.int .i64 a0_1) := (blk_cell BK177.out 1).trans rfl
      have hcz34_2 : wr.cell? ⟨gb177, 2, none⟩ = some (.int .i64 a0_2) := (blk_cell BK177.out 2).trans rfl
      have hcz34_3 : wr.cell? ⟨gb177, 3, none⟩ = some (.int .i64 a0_3) := (blk_cell BK177.out 3).trans rfl
      have hcz34_4 : wr.cell? ⟨gb177, 4, none⟩ = some (.int .i64 a0_4) := (blk_cell BK177.out 4).trans rfl
      have hcz34_5 : wr.cell? ⟨gb177, 5, none⟩ = some (.int .i64 a0_5) := (blk_cell BK177.out 5).trans rfl
      have hcz34_6 : wr.cell? ⟨gb177, 6, none⟩ = some (.int .i64 a0_6) := (blk_cell BK177.out 6).trans rfl
      have hcz34_7 : wr.cell? ⟨gb177, 7, none⟩ = some (.bool a0_7) := (blk_cell BK177.out 7).trans rfl
      have hfz34_0 := blk_frozen BK177.out 0
      have hfz34_1 := blk_frozen BK177.out 1
      have hfz34_2 := blk_frozen BK177.out 2
      have hfz34_3 := blk_frozen BK177.out 3
      have hfz34_4 := blk_frozen BK177.out 4
      have hfz34_5 := blk_frozen BK177.out 5
      have hfz34_6 := blk_frozen BK177.out 6
      have hfz34_7 := blk_frozen BK177.out 7
      go_wp2_with (first | ((with_reducible refine gate_callee (f := 62) rfl ?_); refine goesL_ (some 34) rfl rfl Tryz.func62 (by kernel_rfl) rfl #[.int .i64 a0_4] rfl zQx10a4_ ?_; (with_reducible refine (value_sign.calls a0_4 true _ A19.out).mono ?_); rintro e w' ⟨rfl, ⟨nd, rfl⟩⟩; refine ⟨_, rfl, ?_⟩; (try (rw [drewN_self wr]; generalize hq_ : World.drewN wr _ = wr; have n0_ : Aside0 (Kd.R (Kd.int .i64) 3 wr w.heap.size (fun _ => True) (.slice Ao15 x5_4.length co15) x5_4) := ⟨zQx10a14_⟩; have n1_ : Aside0 (Kd.R (Kd.int .i64) 3 wr w.heap.size (fun _ => True) (.slice Ao15 x5_4.length co15) x5_4) := ⟨zQx10a15_⟩; have n2_ : Aside0 (wr.heap[gb177]? = some (.cells #[.string a0_0, .int .i64 a0_1, .int .i64 a0_2, .int .i64 a0_3, .int .i64 a0_4, .int .i64 a0_5, .int .i64 a0_6, .bool a0_7] 23 (0, 0))) := ⟨zQx10a11_⟩; have n3_ : Aside0 (wr.heap[gb178]? = some (.cells #[.bool false, .int .u64 0] 66 (0, 0))) := ⟨zQx10a12_⟩; have n4_ : Aside0 (Below w.heap.size w wr) := ⟨zQx10a7_⟩; clear HO_17 HO_5 BK177 BK178 HB hq_; have HO_17 := n0_; have HO_5 := n1_; have BK177 := n2_; have BK178 := n3_; have HB := n4_; clear n0_ n1_ n2_ n3_ n4_)); have hcz35_0 : wr.cell? ⟨gb178, 0, none⟩ = some (.bool false) := (blk_cell BK178.out 0).trans rfl; have hcz35_1 : wr.cell? ⟨gb178, 1, none⟩ = some (.int .u64 0) := (blk_cell BK178.out 1).trans rfl; have hfz35_0 := blk_frozen BK178.out 0; have hfz35_1 := blk_frozen BK178.out 1))
      refine bodyPost_ret (results_cell_row rfl _ _ gb178 66 #[.bool false, .int .u64 x6_2] (0, 0) _ rfl zQx10a3_ Tryz.underlying66 rfl (by kernel_rfl)) rfl ?_
      exact ⟨by first | rfl | (simp [errW_none, errW_some] <;> rfl) | (simp only [← hji21, ← hji23]; first | rfl | (simp [errW_none, errW_some] <;> rfl)) | (simp [*, errW_none, errW_some] <;> rfl), zQx10a0_⟩
     rw [if_pos c24] at H
     have c24b0 : ((ji23) == 1) = true := beq_iff_eq.mpr c24
     have c24b1 : ((ji23) != 1) = false := bne_eq_false_iff_eq.mpr c24
     clear c24
     obtain ⟨ji25, hji25⟩ : ∃ j_ : Int, (wrap64 (64 - (wrap64 (16 * (x5_4.length : Int))))) = j_ := ⟨_, rfl⟩
     replace H : (if 0 ≤ (ji25) then (some (true, shr .u64 (shl .u64 (IntKind.u64.wrap (-x6_2)) (ji25)) (ji25))) else (none)) = some (r1, r2) := by first | (rw [hji25] at H; exact H) | (simp only [hji25] at H ⊢; exact H)
     (try rw [hji25] at A19)
     have hji25w : (IntKind.i64.wrap (64 - (wrap64 (16 * (x5_4.length : Int))))) = ji25 := (i64_w _).trans hji25
     have c26 : 0 ≤ (ji25) := znQx10_
     rw [if_pos c26] at H
     have c26b0 := eq_true c26
     have c26b1 : decide (0 ≤ (ji25)) = true := decide_eq_true c26
     clear c26
     obtain ⟨ji27, hji27⟩ : ∃ j_ : Int, (shl .u64 (IntKind.u64.wrap (-x6_2)) (ji25)) = j_ := ⟨_, rfl⟩
     replace H : (some (true, shr .u64 (ji27) (ji25))) = some (r1, r2) := by first | (rw [hji27] at H; exact H) | (simp only [hji27] at H ⊢; exact H)
     (try rw [hji27] at A19)
     have hji27_ : (IntKind.u64.wrap ((IntKind.u64.wrap (-x6_2)) * 2 ^ min (ji25).toNat 64)) = ji27 := hji27
     have hji27z : (ji25) ≤ 64 → (IntKind.u64.wrap ((IntKind.u64.wrap (-x6_2)) * 2 ^ (ji25).toNat)) = ji27 := shl_small hji27
     have c28b0 := eq_true (of_decide_eq_true zQx10a9_ : 0 ≤ (ji25))
     obtain ⟨ji29, hji29⟩ : ∃ j_ : Int, (shr .u64 (ji27) (ji25)) = j_ := ⟨_, rfl⟩
     replace H : (some (true, ji29)) = some (r1, r2) := by first | (rw [hji29] at H; exact H) | (simp only [hji29] at H ⊢; exact H)
     (try rw [hji29] at A19)
     have hji29_ : ((ji27) / 2 ^ min (ji25).toNat 64) = ji29 := hji29
     have hji29z : (ji25) ≤ 64 → ((ji27) / 2 ^ (ji25).toNat) = ji29 := shr_small hji29
     simp only [Option.some.injEq, Prod.mk.injEq] at H
     obtain ⟨rfl, rfl⟩ := H
     have hnb30 := NB177_178.out
     have hnc30 := NB178_177.out
     have hcz31_0 : wr.cell? ⟨gb177, 0, none⟩ = some (.string a0_0) := (blk_cell BK177.out 0).trans rfl
     have hcz31_1 : wr.cell? ⟨gb177, 1, none⟩ = some (.int .i64 a0_1) := (blk_cell BK177.out 1).trans rfl
     have hcz31_2 : wr.cell? ⟨gb177, 2, none⟩ = some (.int .i64 a0_2) := (blk_cell BK177.out 2).trans rfl
     have hcz31_3 : wr.cell? ⟨gb177, 3, none⟩ = some (.int .i64 a0_3) := (blk_cell BK177.out 3).trans rfl
     have hcz31_4 : wr.cell? ⟨gb177, 4, none⟩ = some (.int .i64 a0_4) := (blk_cell BK177.out 4).trans rfl
     have hcz31_5 : wr.cell? ⟨gb177, 5, none⟩ = some (.int .i64 a0_5) := (blk_cell BK177.out 5).trans rfl
     have hcz31_6 : wr.cell? ⟨gb177, 6, none⟩ = some (.int .i64 a0_6) := (blk_cell BK177.out 6).trans rfl
     have hcz31_7 : wr.cell? ⟨gb177, 7, none⟩ = some (.bool a0_7) := (blk_cell BK177.out 7).trans rfl
     have hfz31_0 := blk_frozen BK177.out 0
     have hfz31_1 := blk_frozen BK177.out 1
     have hfz31_2 := blk_frozen BK177.out 2
     have hfz31_3 := blk_frozen BK177.out 3
     have hfz31_4 := blk_frozen BK177.out 4
     have hfz31_5 := blk_frozen BK177.out 5
     have hfz31_6 := blk_frozen BK177.out 6
     have hfz31_7 := blk_frozen BK177.out 7
     go_wp2_with (first | ((with_reducible refine gate_callee (f := 62) rfl ?_); refine goesL_ (some 34) rfl rfl Tryz.func62 (by kernel_rfl) rfl #[.int .i64 a0_4] rfl zQx10a4_ ?_; (with_reducible refine (value_sign.calls a0_4 true _ A19.out).mono ?_); rintro e w' ⟨rfl, ⟨nd, rfl⟩⟩; refine ⟨_, rfl, ?_⟩; (try (rw [drewN_self wr]; generalize hq_ : World.drewN wr _ = wr; have n0_ : Aside0 (Kd.R (Kd.int .i64) 3 wr w.heap.size (fun _ => True) (.slice Ao15 x5_4.length co15) x5_4) := ⟨zQx10a14_⟩; have n1_ : Aside0 (Kd.R (Kd.int .i64) 3 wr w.heap.size (fun _ => True) (.slice Ao15 x5_4.length co15) x5_4) := ⟨zQx10a15_⟩; have n2_ : Aside0 (wr.heap[gb177]? = some (.cells #[.string a0_0, .int .i64 a0_1, .int .i64 a0_2, .int .i64 a0_3, .int .i64 a0_4, .int .i64 a0_5, .int .i64 a0_6, .bool a0_7] 23 (0, 0))) := ⟨zQx10a11_⟩; have n3_ : Aside0 (wr.heap[gb178]? = some (.cells #[.bool false, .int .u64 0] 66 (0, 0))) := ⟨zQx10a12_⟩; have n4_ : Aside0 (Below w.heap.size w wr) := ⟨zQx10a7_⟩; clear HO_17 HO_5 BK177 BK178 HB hq_; have HO_17 := n0_; have HO_5 := n1_; have BK177 := n2_; have BK178 := n3_; have HB := n4_; clear n0_ n1_ n2_ n3_ n4_)); have hcz32_0 : wr.cell? ⟨gb178, 0, none⟩ = some (.bool false) := (blk_cell BK178.out 0).trans rfl; have hcz32_1 : wr.cell? ⟨gb178, 1, none⟩ = some (.int .u64 0) := (blk_cell BK178.out 1).trans rfl; have hfz32_0 := blk_frozen BK178.out 0; have hfz32_1 := blk_frozen BK178.out 1))
     refine bodyPost_ret (results_cell_row rfl _ _ gb178 66 #[.bool true, .int .u64 ji29] (0, 0) _ rfl (by (with_reducible repeat (first | refine blk_drewN ?_ _ | refine blk_drew ?_ | refine blk_alloc ?_ _)); refine blk_put (cs := #[.bool true, .int .u64 0]) ?_ 1 _ rfl; (with_reducible repeat (first | refine blk_drewN ?_ _ | refine blk_drew ?_ | refine blk_alloc ?_ _)); refine blk_put (cs := #[.bool false, .int .u64 0]) ?_ 0 _ rfl; (with_reducible repeat (first | refine blk_drewN ?_ _ | refine blk_drew ?_ | refine blk_alloc ?_ _)); exact BK178.out) Tryz.underlying66 rfl (by kernel_rfl)) rfl ?_
     exact ⟨by first | rfl | (simp [errW_none, errW_some] <;> rfl) | (simp only [← hji21, ← hji23, ← hji25, ← hji27, ← hji29]; first | rfl | (simp [errW_none, errW_some] <;> rfl)) | (simp [*, errW_none, errW_some] <;> rfl), zQx10a0_⟩
end Go.Proofs.YtenbkjeflancaaaGreatDoor.Q
