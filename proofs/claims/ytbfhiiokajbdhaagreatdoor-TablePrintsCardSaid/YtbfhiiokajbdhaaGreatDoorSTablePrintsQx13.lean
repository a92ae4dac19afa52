/- What the proof of TablePrints leans on: Qx13. -/
import Derived.Test.YtbfhiiokajbdhaaGreatDoorSTablePrintsQx0
import Derived.Test.YtbfhiiokajbdhaaGreatDoorSTablePrintsQx11
namespace Go.Proofs.YtbfhiiokajbdhaaGreatDoor.Q
open Go.RowKit Go.Proofs.YtbfhiiokajbdhaaGreatDoorW.PrintWords Go.Proofs.YtbfhiiokajbdhaaGreatDoorW.PrintLast Go.Proofs.YtbfhiiokajbdhaaGreatDoorW.PrintMore
attribute [local go_sem] max2_int max_two
set_option linter.unusedVariables false
set_option linter.unusedSimpArgs false
theorem zQx13a0_ {P_ : Prop} (h_ : P_ := by repeat (first | (with_reducible first | exact HB.out | apply below_alloc | apply pw_below_drewN | apply below_drew1) | exact HB.out)) : P_ := h_
theorem zQx13a1_ {P_ : Prop} (h_ : P_ := by first | (with_reducible assumption) | assumption) : P_ := h_
theorem zQx13a2_ {P_ : Prop} (h_ : P_ := by (try simp only [List.map_toArray, List.map_cons, List.map_nil]); first | done | rfl | (simp only [List.length_drop, List.length_take]; rfl)) : P_ := h_
theorem zQx13a3_ {P_ : Prop} (h_ : P_ := by first | rfl | (simp [errW_none, errW_some] <;> rfl) | (simp [*, errW_none, errW_some] <;> rfl)) : P_ := h_
theorem znQx13_ {X_ : Prop} [Decidable X_] (h_ : ¬ X_ → False := by intro c_; rw [if_neg c_] at H; exact absurd H (by simp)) : X_ := Decidable.byContradiction h_
def basculeref21_Check.l0 : Nat → List (S34) → Int → Option (Int × Int)
 | 0, _, _ => none
 | k + 1, x0, x4 => if x4 < (x0.length : Int) then (if 0 ≤ x4 then (if x4 ≤ (x0.length : Int) then ((basculeref21_Error.f k (x0.take (x4 : Int).toNat) ((rd_T34 x0 x4).f0) ((rd_T34 x0 x4).f1) ((rd_T34 x0 x4).f2) ((rd_T34 x0 x4).f3) ((rd_T34 x0 x4).f4) ((rd_T34 x0 x4).f5) ((rd_T34 x0 x4).f6) ((rd_T34 x0 x4).f7)).bind fun t222 => (if t222 = 0 then (basculeref21_Check.l0 k x0 (wrap64 (x4 + 1))) else (some (wrap64 (x4 + 1), t222)))) else (none)) else (none)) else (some (0, 0))
def basculeref21_Check.f (k : Nat) (l0 : List (S34)) : Option (Int × Int) := basculeref21_Check.l0 k l0 0
def basculeref21_Check.T4 : Bool × List (List Nat × List Nat) := (true, [([], []), ([], []), ([0, 1], [0, 1]), ([], []), ([], []), ([3, 4], [3, 4]), ([5], [5]), ([2, 6], [2, 6]), ([7, 7, 0, 1, 2, 3, 4, 5, 6, 7], [7])])
def basculeref21_Check.B4 : List Nat := [0, 0, 3, 0, 0, 24, 56, 127, 255]
theorem basculeref21_Check.tab4 : rtab .any (opsOf Tryz.f13 4) = basculeref21_Check.T4 := by kernel_rfl
theorem basculeref21_Check.bits4 : waitsOk basculeref21_Check.T4.2 basculeref21_Check.B4 = true := by kernel_rfl
set_option maxHeartbeats 8000000 in
set_option maxRecDepth 100000 in
theorem basculeref21_Check.calls (k : Nat) (A0 : Option Addr) (c0 : Nat) (l0 : List (S34)) (r1 : Int) (r2 : Int) (w : World) (hr0 : Kd.C k34 w A0 l0.length l0) (hc0 : l0.length ≤ c0) (h : basculeref21_Check.f k l0 = some (r1, r2)) :
  Calls Tryz.prog 13 #[.slice A0 l0.length c0] w fun e w' => e = .returned (.tuple #[.int .i64 r1, .int .i64 r2]) ∧ Below w.heap.size w w' := by
 have hu34 := Tryz.underlying34
 have HR0 := Aside0.mk hr0
 have HC0 := Aside0.mk hc0
 clear hr0 hc0
 have HB := Aside0.mk (Below.refl w.heap.size w)
 have H : (basculeref21_Check.l0 k l0 0) = some (r1, r2) := h
 clear h
 have H' := Aside0.mk H
 clear H
 go_enter Tryz.func13, Tryz.ntmps13
 go_wp2
 go_loopg [4] k (fun kq v4 w' => ∃ (x4_1 : Int), v4 = .int .i64 x4_1 ∧ Aside0 (basculeref21_Check.l0 kq l0 x4_1 = some (r1, r2)) ∧ Aside0 (kq ≤ k) ∧ Aside0 (Below w.heap.size w w'))
 case atStart => exact ⟨(0), (by first | rfl | (simp; done) | (simp [*]; done)), H', ⟨Nat.le_refl _⟩, ⟨zQx13a0_⟩⟩
 case round =>
  clear H'
  try clear c1
  obtain ⟨x4_1, rfl, HA, HK1, HB⟩ := hrel
  cases gk with
  | zero => exact absurd HA.out (by simp [basculeref21_Check.l0])
  | succ k1 =>
   have H := HA.out
   clear HA
   simp only [basculeref21_Check.l0] at H
   by_cases c2 : x4_1 < (l0.length : Int)
   rotate_left
   ·
    rw [if_neg c2] at H
    have c2b0 : decide (x4_1 < (l0.length : Int)) = false := decide_eq_false c2
    clear c2
    simp only [Option.some.injEq, Prod.mk.injEq] at H
    obtain ⟨rfl, rfl⟩ := H
    go_wp2
    go_ret2
    exact ⟨zQx13a3_, zQx13a0_⟩
   rw [if_pos c2] at H
   have c2b0 : decide (x4_1 < (l0.length : Int)) = true := decide_eq_true c2
   clear c2
   have c3 : 0 ≤ x4_1 := znQx13_
   rw [if_pos c3] at H
   have c3b0 := eq_true c3
   have c3b1 : decide (0 ≤ x4_1) = true := decide_eq_true c3
   clear c3
   have c4 : x4_1 ≤ (l0.length : Int) := znQx13_
   rw [if_pos c4] at H
   have c4b0 := eq_true c4
   have c4b1 : decide (x4_1 ≤ (l0.length : Int)) = true := decide_eq_true c4
   clear c4
   obtain ⟨y217, hy217⟩ : ∃ y_ : List (S34), y_ = (l0.take (x4_1 : Int).toNat) := ⟨_, rfl⟩
   replace H : ((basculeref21_Error.f k1 y217 ((rd_T34 l0 x4_1).f0) ((rd_T34 l0 x4_1).f1) ((rd_T34 l0 x4_1).f2) ((rd_T34 l0 x4_1).f3) ((rd_T34 l0 x4_1).f4) ((rd_T34 l0 x4_1).f5) ((rd_T34 l0 x4_1).f6) ((rd_T34 l0 x4_1).f7)).bind fun t222 => (if t222 = 0 then (basculeref21_Check.l0 k1 l0 (wrap64 (x4_1 + 1))) else (some (wrap64 (x4_1 + 1), t222)))) = some (r1, r2) := by first | (rw [hy217]; with_reducible exact H) | (have H2_ := (Option.bind_some _ _).symm.trans H; rw [hy217]; with_reducible exact H2_) | (have H2_ := (Option.bind_some _ _).symm.trans H; with_reducible exact H2_) | with_reducible exact H | (rw [hy217]; exact H) | exact H
   have Ny217 := Aside0.mk hy217
   clear hy217
   replace H := Option.bind_eq_some_iff.mp H
   obtain ⟨t222, A50, H⟩ := H
   replace H : (if t222 = 0 then (basculeref21_Check.l0 k1 l0 (wrap64 (x4_1 + 1))) else (some (wrap64 (x4_1 + 1), t222))) = some (r1, r2) := H
   have A5 := Aside0.mk A50
   clear A50
   by_cases c6 : t222 = 0
   rotate_left
   ·
    rw [if_neg c6] at H
    have c6b0 : (t222 == 0) = false := beq_eq_false_iff_ne.mpr c6
    have c6b1 : (t222 != 0) = true := bne_iff_ne.mpr c6
    simp only [Option.some.injEq, Prod.mk.injEq] at H
    obtain ⟨rfl, rfl⟩ := H
    try go_wp2
    have n0_ := Aside0.mk (below_drew1 HB.out)
    clear HB
    have HB := n0_
    clear n0_
    have q11 : (x4_1 : Int) ≤ ((l0.length : Int) : Int) := of_decide_eq_true zQx13a1_
    obtain ⟨i011, hi011, _, hsz11, _⟩ := info_parts info34
    have hroom11 : l0.length ≤ c0 := HC0.out
    have hC11 : Kd.C k34 _ A0 l0.length l0 := HR0.out
    have hcut11 := cut_to (P := Tryz.prog) 22 34 .i64 Tryz.underlying22 hi011 A0 l0.length c0 x4_1 (of_decide_eq_true zQx13a1_) q11 hroom11
    have hr11 := Kd.C_take (m := (x4_1 : Int).toNat) hC11 (by omega)
    have hy11 : y217.length = (x4_1 : Int).toNat := (by rw [Ny217.out, List.length_take]; omega)
    rw [← Ny217.out] at hr11
    rw [← hy11] at hcut11
    have HR220 := Aside0.mk hr11
    have HC220 := Aside0.mk (show y217.length ≤ c0 from by omega)
    clear hr11 hC11 hroom11 hi011 hsz11
    have KY11 := Aside0.mk hy11
    clear hy11
    replace q11 := eq_true q11
    have p221 : 0 ≤ (x4_1 : Int) := of_decide_eq_true zQx13a1_
    have q221 : x4_1 < (l0.length : Int) := of_decide_eq_true zQx13a1_
    obtain ⟨ad221, e221, hx221_0, hx221_1, hx221_2, hx221_3, hx221_4, hx221_5, hx221_6, hx221_7⟩ := at_T34 HR0.out x4_1 p221 q221
    have hw221_7 := hx221_7
    have hw221_6 := hx221_6
    have hw221_5 := hx221_5
    have hw221_4 := hx221_4
    have hw221_3 := hx221_3
    have hw221_2 := hx221_2
    have hw221_1 := hx221_1
    have hw221_0 := hx221_0
    cases e221
    replace hx221_0 := (HB.out.cell (World.block_lt_of_cell? w _ hx221_0)).trans hx221_0
    replace hx221_1 := (HB.out.cell (World.block_lt_of_cell? w _ hx221_1)).trans hx221_1
    replace hx221_2 := (HB.out.cell (World.block_lt_of_cell? w _ hx221_2)).trans hx221_2
    replace hx221_3 := (HB.out.cell (World.block_lt_of_cell? w _ hx221_3)).trans hx221_3
    replace hx221_4 := (HB.out.cell (World.block_lt_of_cell? w _ hx221_4)).trans hx221_4
    replace hx221_5 := (HB.out.cell (World.block_lt_of_cell? w _ hx221_5)).trans hx221_5
    replace hx221_6 := (HB.out.cell (World.block_lt_of_cell? w _ hx221_6)).trans hx221_6
    replace hx221_7 := (HB.out.cell (World.block_lt_of_cell? w _ hx221_7)).trans hx221_7
    replace p221 := eq_true p221
    replace q221 := eq_true q221
    refine start_ (n := 9) (S := fun w' => w'.cell? (ad221.add ((x4_1).toNat * 8)) = some (.string ((rd_T34 l0 x4_1).f0)) ∧ w'.cell? ⟨(ad221.add ((x4_1).toNat * 8)).block, (ad221.add ((x4_1).toNat * 8)).off + 1, none⟩ = some (.int .i64 ((rd_T34 l0 x4_1).f1)) ∧ w'.cell? ⟨(ad221.add ((x4_1).toNat * 8)).block, (ad221.add ((x4_1).toNat * 8)).off + 2, none⟩ = some (.int .i64 ((rd_T34 l0 x4_1).f2)) ∧ w'.cell? ⟨(ad221.add ((x4_1).toNat * 8)).block, (ad221.add ((x4_1).toNat * 8)).off + 3, none⟩ = some (.int .i64 ((rd_T34 l0 x4_1).f3)) ∧ w'.cell? ⟨(ad221.add ((x4_1).toNat * 8)).block, (ad221.add ((x4_1).toNat * 8)).off + 4, none⟩ = some (.int .i64 ((rd_T34 l0 x4_1).f4)) ∧ w'.cell? ⟨(ad221.add ((x4_1).toNat * 8)).block, (ad221.add ((x4_1).toNat * 8)).off + 5, none⟩ = some (.int .i64 ((rd_T34 l0 x4_1).f5)) ∧ w'.cell? ⟨(ad221.add ((x4_1).toNat * 8)).block, (ad221.add ((x4_1).toNat * 8)).off + 6, none⟩ = some (.int .i64 ((rd_T34 l0 x4_1).f6)) ∧ w'.cell? ⟨(ad221.add ((x4_1).toNat * 8)).block, (ad221.add ((x4_1).toNat * 8)).off + 7, none⟩ = some (.bool ((rd_T34 l0 x4_1).f7))) (ds := []) #[false, false, false, false, false, false, false, false, false] (by kernel_rfl) rfl rfl ⟨((HB.out.cell (World.block_lt_of_cell? w _ hw221_0)).trans hw221_0), ((HB.out.cell (World.block_lt_of_cell? w _ hw221_1)).trans hw221_1), ((HB.out.cell (World.block_lt_of_cell? w _ hw221_2)).trans hw221_2), ((HB.out.cell (World.block_lt_of_cell? w _ hw221_3)).trans hw221_3), ((HB.out.cell (World.block_lt_of_cell? w _ hw221_4)).trans hw221_4), ((HB.out.cell (World.block_lt_of_cell? w _ hw221_5)).trans hw221_5), ((HB.out.cell (World.block_lt_of_cell? w _ hw221_6)).trans hw221_6), ((HB.out.cell (World.block_lt_of_cell? w _ hw221_7)).trans hw221_7)⟩ (fun hHeld => ?_); refine with_tabW basculeref21_Check.tab4 basculeref21_Check.bits4 (fun HT_ HW_ => ?_)
    generalize wr.drew = w10 at HB HR220 hx221_0 hx221_1 hx221_2 hx221_3 hx221_4 hx221_5 hx221_6 hx221_7 hHeld ⊢
    refine pure_ (i := 0) (N := some 12) (v := ?_) (a' := ?_) #[true, false, false, false, false, false, false, false, false] rfl rfl (any_of HT_.out (by kernel_rfl)) (fun _ _ _ h => h) (Or.inl ⟨by rfl, ?_⟩) ?_ ?_
    rotate_left
    ·
     intro w'
     go_simp
     with_reducible rfl
    rotate_left
    ·
     simp only [Act.put, List.setIfInBounds_toArray, List.set_cons_zero, List.set_cons_succ, i64_w, i32_w]
     rfl
    refine pure_ (i := 1) (N := some 13) (v := ?_) (a' := ?_) #[true, true, false, false, false, false, false, false, false] rfl rfl (any_of HT_.out (by kernel_rfl)) (fun _ _ _ h => h) (Or.inl ⟨by rfl, ?_⟩) ?_ ?_
    rotate_left
    ·
     intro w'
     go_simp
     with_reducible rfl
    rotate_left
    ·
     simp only [Act.put, List.setIfInBounds_toArray, List.set_cons_zero, List.set_cons_succ, i64_w, i32_w]
     rfl
    refine pure_ (i := 2) (N := some 14) (v := ?_) (a' := ?_) #[true, true, true, false, false, false, false, false, false] rfl rfl (any_of HT_.out (by kernel_rfl)) (fun _ _ _ h => h) (Or.inl ⟨by rfl, ?_⟩) ?_ ?_
    rotate_left
    ·
     intro w'
     go_simp
     with_reducible rfl
    rotate_left
    ·
     simp only [Act.put, List.setIfInBounds_toArray, List.set_cons_zero, List.set_cons_succ, i64_w, i32_w]
     rfl
    refine pure_ (i := 3) (N := some 15) (v := ?_) (a' := ?_) #[true, true, true, true, false, false, false, false, false] rfl rfl (any_of HT_.out (by kernel_rfl)) (fun _ _ _ h => h) (Or.inl ⟨by rfl, ?_⟩) ?_ ?_
    rotate_left
    ·
     intro w'
     go_simp
     with_reducible rfl
    rotate_left
    ·
     simp only [Act.put, List.setIfInBounds_toArray, List.set_cons_zero, List.set_cons_succ, i64_w, i32_w]
     rfl
    refine pure_ (i := 4) (N := some 16) (v := ?_) (a' := ?_) #[true, true, true, true, true, false, false, false, false] rfl rfl (any_of HT_.out (by kernel_rfl)) (fun _ _ _ h => h) (Or.inl ⟨by rfl, ?_⟩) ?_ ?_
    rotate_left
    ·
     intro w'
     go_simp
     with_reducible rfl
    rotate_left
    ·
     simp only [Act.put, List.setIfInBounds_toArray, List.set_cons_zero, List.set_cons_succ, i64_w, i32_w]
     rfl
    refine pure_ (i := 5) (N := some 17) (v := ?_) (a' := ?_) #[true, true, true, true, true, true, false, false, false] rfl rfl (any_of HT_.out (by kernel_rfl)) (fun _ _ _ h => h) (Or.inl ⟨by rfl, ?_⟩) ?_ ?_
    rotate_left
    ·
     intro w'
     go_simp
     with_reducible rfl
    rotate_left
    ·
     simp only [Act.put, List.setIfInBounds_toArray, List.set_cons_zero, List.set_cons_succ, i64_w, i32_w]
     rfl
    refine take_ (i := 6) (N := some 18) (v := ?_) (a' := ?_) #[true, true, true, true, true, true, true, false, false] rfl rfl (take_ofW HT_.out HW_.out (by kernel_rfl)) (fun _ _ _ h => h) (Or.inl ⟨by rfl, ?_⟩) hHeld ?_ ?_
    rotate_left
    ·
     rintro w' ⟨s0, s1, s2, s3, s4, s5, s6, s7⟩
     go_simp
     with_reducible rfl
    rotate_left
    ·
     simp only [Act.put, List.setIfInBounds_toArray, List.set_cons_zero, List.set_cons_succ, i64_w, i32_w]
     rfl
    refine one_ (i := 7) (N := some 19) #[true, true, true, true, true, true, true, true, false] rfl rfl (one_of HT_.out (by kernel_rfl)) (by decide) (fun K hK => ?_)
    refine goes_ Tryz.func27 (by kernel_rfl) rfl #[.slice (some ad221) y217.length c0, .agg #[.string ((rd_T34 l0 x4_1).f0), .int .i64 ((rd_T34 l0 x4_1).f1), .int .i64 ((rd_T34 l0 x4_1).f2), .int .i64 ((rd_T34 l0 x4_1).f3), .int .i64 ((rd_T34 l0 x4_1).f4), .int .i64 ((rd_T34 l0 x4_1).f5), .int .i64 ((rd_T34 l0 x4_1).f6), .bool ((rd_T34 l0 x4_1).f7)]] (by rfl) rfl rfl zQx13a2_ ?_
    with_reducible refine (basculeref21_Error.calls k1 _ _ y217 ((rd_T34 l0 x4_1).f0) ((rd_T34 l0 x4_1).f1) ((rd_T34 l0 x4_1).f2) ((rd_T34 l0 x4_1).f3) ((rd_T34 l0 x4_1).f4) ((rd_T34 l0 x4_1).f5) ((rd_T34 l0 x4_1).f6) ((rd_T34 l0 x4_1).f7) t222 _ ?side1 ?side2 A5.out).mono ?_
    (case side1 => repeat (first | exact (Kd.C_below HR220.out HB.out) | (with_reducible refine Kd.C_alloc ?_ _) | (with_reducible refine Kd.C_drewN ?_ _) | (with_reducible refine Kd.C_drew ?_)))
    (case side2 => exact HC220.out)
    rintro e w12 ⟨rfl, hb⟩
    refine ⟨_, rfl, ?_⟩
    have n0_ := Aside0.mk (below_step zQx13a0_ hb)
    clear HB
    have HB := n0_
    clear n0_
    (try clear hb)
    (try clear hb2)
    (try clear hk)
    (try clear hi)
    refine hK.out _ _ ⟨((HB.out.cell (World.block_lt_of_cell? w _ hw221_0)).trans hw221_0), ((HB.out.cell (World.block_lt_of_cell? w _ hw221_1)).trans hw221_1), ((HB.out.cell (World.block_lt_of_cell? w _ hw221_2)).trans hw221_2), ((HB.out.cell (World.block_lt_of_cell? w _ hw221_3)).trans hw221_3), ((HB.out.cell (World.block_lt_of_cell? w _ hw221_4)).trans hw221_4), ((HB.out.cell (World.block_lt_of_cell? w _ hw221_5)).trans hw221_5), ((HB.out.cell (World.block_lt_of_cell? w _ hw221_6)).trans hw221_6), ((HB.out.cell (World.block_lt_of_cell? w _ hw221_7)).trans hw221_7)⟩ (fun hHeld => ?_)
    clear hK K
    refine norm_ (a' := ?_) ?_ ?_
    rotate_left
    ·
     show Act.put _ (some 19) _ = _
     simp only [Act.put, List.setIfInBounds_toArray, List.set_cons_zero, List.set_cons_succ, i64_w, i32_w]
     rfl
    refine pure_ (i := 8) (N := some 5) (v := ?_) (a' := ?_) #[true, true, true, true, true, true, true, true, true] rfl rfl (any_of HT_.out (by kernel_rfl)) (fun _ _ _ h => h) (Or.inl ⟨by rfl, ?_⟩) ?_ ?_
    rotate_left
    ·
     intro w'
     go_simp
     with_reducible rfl
    rotate_left
    ·
     simp only [Act.put, List.setIfInBounds_toArray, List.set_cons_zero, List.set_cons_succ, i64_w, i32_w]
     rfl
    refine done_ (done_of HT_.out (by kernel_rfl)) ?_
    try go_wp2
    go_ret2
    exact ⟨zQx13a3_, zQx13a0_⟩
   rw [if_pos c6] at H
   have c6b0 : (t222 == 0) = true := beq_iff_eq.mpr c6
   have c6b1 : (t222 != 0) = false := bne_eq_false_iff_eq.mpr c6
   clear c6
   have H' := Aside0.mk H
   clear H
   try go_wp2
   have n0_ := Aside0.mk (below_drew1 HB.out)
   clear HB
   have HB := n0_
   clear n0_
   have q8 : (x4_1 : Int) ≤ ((l0.length : Int) : Int) := of_decide_eq_true zQx13a1_
   obtain ⟨i08, hi08, _, hsz8, _⟩ := info_parts info34
   have hroom8 : l0.length ≤ c0 := HC0.out
   have hC8 : Kd.C k34 _ A0 l0.length l0 := HR0.out
   have hcut8 := cut_to (P := Tryz.prog) 22 34 .i64 Tryz.underlying22 hi08 A0 l0.length c0 x4_1 (of_decide_eq_true zQx13a1_) q8 hroom8
   have hr8 := Kd.C_take (m := (x4_1 : Int).toNat) hC8 (by omega)
   have hy8 : y217.length = (x4_1 : Int).toNat := (by rw [Ny217.out, List.length_take]; omega)
   rw [← Ny217.out] at hr8
   rw [← hy8] at hcut8
   have HR220 := Aside0.mk hr8
   have HC220 := Aside0.mk (show y217.length ≤ c0 from by omega)
   clear hr8 hC8 hroom8 hi08 hsz8
   have KY8 := Aside0.mk hy8
   clear hy8
   replace q8 := eq_true q8
   have p221 : 0 ≤ (x4_1 : Int) := of_decide_eq_true zQx13a1_
   have q221 : x4_1 < (l0.length : Int) := of_decide_eq_true zQx13a1_
   obtain ⟨ad221, e221, hx221_0, hx221_1, hx221_2, hx221_3, hx221_4, hx221_5, hx221_6, hx221_7⟩ := at_T34 HR0.out x4_1 p221 q221
   have hw221_7 := hx221_7
   have hw221_6 := hx221_6
   have hw221_5 := hx221_5
   have hw221_4 := hx221_4
   have hw221_3 := hx221_3
   have hw221_2 := hx221_2
   have hw221_1 := hx221_1
   have hw221_0 := hx221_0
   cases e221
   replace hx221_0 := (HB.out.cell (World.block_lt_of_cell? w _ hx221_0)).trans hx221_0
   replace hx221_1 := (HB.out.cell (World.block_lt_of_cell? w _ hx221_1)).trans hx221_1
   replace hx221_2 := (HB.out.cell (World.block_lt_of_cell? w _ hx221_2)).trans hx221_2
   replace hx221_3 := (HB.out.cell (World.block_lt_of_cell? w _ hx221_3)).trans hx221_3
   replace hx221_4 := (HB.out.cell (World.block_lt_of_cell? w _ hx221_4)).trans hx221_4
   replace hx221_5 := (HB.out.cell (World.block_lt_of_cell? w _ hx221_5)).trans hx221_5
   replace hx221_6 := (HB.out.cell (World.block_lt_of_cell? w _ hx221_6)).trans hx221_6
   replace hx221_7 := (HB.out.cell (World.block_lt_of_cell? w _ hx221_7)).trans hx221_7
   replace p221 := eq_true p221
   replace q221 := eq_true q221
   refine start_ (n := 9) (S := fun w' => w'.cell? (ad221.add ((x4_1).toNat * 8)) = some (.string ((rd_T34 l0 x4_1).f0)) ∧ w'.cell? ⟨(ad221.add ((x4_1).toNat * 8)).block, (ad221.add ((x4_1).toNat * 8)).off + 1, none⟩ = some (.int .i64 ((rd_T34 l0 x4_1).f1)) ∧ w'.cell? ⟨(ad221.add ((x4_1).toNat * 8)).block, (ad221.add ((x4_1).toNat * 8)).off + 2, none⟩ = some (.int .i64 ((rd_T34 l0 x4_1).f2)) ∧ w'.cell? ⟨(ad221.add ((x4_1).toNat * 8)).block, (ad221.add ((x4_1).toNat * 8)).off + 3, none⟩ = some (.int .i64 ((rd_T34 l0 x4_1).f3)) ∧ w'.cell? ⟨(ad221.add ((x4_1).toNat * 8)).block, (ad221.add ((x4_1).toNat * 8)).off + 4, none⟩ = some (.int .i64 ((rd_T34 l0 x4_1).f4)) ∧ w'.cell? ⟨(ad221.add ((x4_1).toNat * 8)).block, (ad221.add ((x4_1).toNat * 8)).off + 5, none⟩ = some (.int .i64 ((rd_T34 l0 x4_1).f5)) ∧ w'.cell? ⟨(ad221.add ((x4_1).toNat * 8)).block, (ad221.add ((x4_1).toNat * 8)).off + 6, none⟩ = some (.int .i64 ((rd_T34 l0 x4_1).f6)) ∧ w'.cell? ⟨(ad221.add ((x4_1).toNat * 8)).block, (ad221.add ((x4_1).toNat * 8)).off + 7, none⟩ = some (.bool ((rd_T34 l0 x4_1).f7))) (ds := []) #[false, false, false, false, false, false, false, false, false] (by kernel_rfl) rfl rfl ⟨((HB.out.cell (World.block_lt_of_cell? w _ hw221_0)).trans hw221_0), ((HB.out.cell (World.block_lt_of_cell? w _ hw221_1)).trans hw221_1), ((HB.out.cell (World.block_lt_of_cell? w _ hw221_2)).trans hw221_2), ((HB.out.cell (World.block_lt_of_cell? w _ hw221_3)).trans hw221_3), ((HB.out.cell (World.block_lt_of_cell? w _ hw221_4)).trans hw221_4), ((HB.out.cell (World.block_lt_of_cell? w _ hw221_5)).trans hw221_5), ((HB.out.cell (World.block_lt_of_cell? w _ hw221_6)).trans hw221_6), ((HB.out.cell (World.block_lt_of_cell? w _ hw221_7)).trans hw221_7)⟩ (fun hHeld => ?_); refine with_tabW basculeref21_Check.tab4 basculeref21_Check.bits4 (fun HT_ HW_ => ?_)
   generalize wr.drew = w7 at HB HR220 hx221_0 hx221_1 hx221_2 hx221_3 hx221_4 hx221_5 hx221_6 hx221_7 hHeld ⊢
   refine pure_ (i := 0) (N := some 12) (v := ?_) (a' := ?_) #[true, false, false, false, false, false, false, false, false] rfl rfl (any_of HT_.out (by kernel_rfl)) (fun _ _ _ h => h) (Or.inl ⟨by rfl, ?_⟩) ?_ ?_
   rotate_left
   ·
    intro w'
    go_simp
    with_reducible rfl
   rotate_left
   ·
    simp only [Act.put, List.setIfInBounds_toArray, List.set_cons_zero, List.set_cons_succ, i64_w, i32_w]
    rfl
   refine pure_ (i := 1) (N := some 13) (v := ?_) (a' := ?_) #[true, true, false, false, false, false, false, false, false] rfl rfl (any_of HT_.out (by kernel_rfl)) (fun _ _ _ h => h) (Or.inl ⟨by rfl, ?_⟩) ?_ ?_
   rotate_left
   ·
    intro w'
    go_simp
    with_reducible rfl
   rotate_left
   ·
    simp only [Act.put, List.setIfInBounds_toArray, List.set_cons_zero, List.set_cons_succ, i64_w, i32_w]
    rfl
   refine pure_ (i := 2) (N := some 14) (v := ?_) (a' := ?_) #[true, true, true, false, false, false, false, false, false] rfl rfl (any_of HT_.out (by kernel_rfl)) (fun _ _ _ h => h) (Or.inl ⟨by rfl, ?_⟩) ?_ ?_
   rotate_left
   ·
    intro w'
    go_simp
    with_reducible rfl
   rotate_left
   ·
    simp only [Act.put, List.setIfInBounds_toArray, List.set_cons_zero, List.set_cons_succ, i64_w, i32_w]
    rfl
   refine pure_ (i := 3) (N := some 15) (v := ?_) (a' := ?_) #[true, true, true, true, false, false, false, false, false] rfl rfl (any_of HT_.out (by kernel_rfl)) (fun _ _ _ h => h) (Or.inl ⟨by rfl, ?_⟩) ?_ ?_
   rotate_left
   ·
    intro w'
    go_simp
    with_reducible rfl
   rotate_left
   ·
    simp only [Act.put, List.setIfInBounds_toArray, List.set_cons_zero, List.set_cons_succ, i64_w, i32_w]
    rfl
   refine pure_ (i := 4) (N := some 16) (v := ?_) (a' := ?_) #[true, true, true, true, true, false, false, false, false] rfl rfl (any_of HT_.out (by kernel_rfl)) (fun _ _ _ h => h) (Or.inl ⟨by rfl, ?_⟩) ?_ ?_
   rotate_left
   ·
    intro w'
    go_simp
    with_reducible rfl
   rotate_left
   ·
    simp only [Act.put, List.setIfInBounds_toArray, List.set_cons_zero, List.set_cons_succ, i64_w, i32_w]
    rfl
   refine pure_ (i := 5) (N := some 17) (v := ?_) (a' := ?_) #[true, true, true, true, true, true, false, false, false] rfl rfl (any_of HT_.out (by kernel_rfl)) (fun _ _ _ h => h) (Or.inl ⟨by rfl, ?_⟩) ?_ ?_
   rotate_left
   ·
    intro w'
    go_simp
    with_reducible rfl
   rotate_left
   ·
    simp only [Act.put, List.setIfInBounds_toArray, List.set_cons_zero, List.set_cons_succ, i64_w, i32_w]
    rfl
   refine take_ (i := 6) (N := some 18) (v := ?_) (a' := ?_) #[true, true, true, true, true, true, true, false, false] rfl rfl (take_ofW HT_.out HW_.out (by kernel_rfl)) (fun _ _ _ h => h) (Or.inl ⟨by rfl, ?_⟩) hHeld ?_ ?_
   rotate_left
   ·
    rintro w' ⟨s0, s1, s2, s3, s4, s5, s6, s7⟩
    go_simp
    with_reducible rfl
   rotate_left
   ·
    simp only [Act.put, List.setIfInBounds_toArray, List.set_cons_zero, List.set_cons_succ, i64_w, i32_w]
    rfl
   refine one_ (i := 7) (N := some 19) #[true, true, true, true, true, true, true, true, false] rfl rfl (one_of HT_.out (by kernel_rfl)) (by decide) (fun K hK => ?_)
   refine goes_ Tryz.func27 (by kernel_rfl) rfl #[.slice (some ad221) y217.length c0, .agg #[.string ((rd_T34 l0 x4_1).f0), .int .i64 ((rd_T34 l0 x4_1).f1), .int .i64 ((rd_T34 l0 x4_1).f2), .int .i64 ((rd_T34 l0 x4_1).f3), .int .i64 ((rd_T34 l0 x4_1).f4), .int .i64 ((rd_T34 l0 x4_1).f5), .int .i64 ((rd_T34 l0 x4_1).f6), .bool ((rd_T34 l0 x4_1).f7)]] (by rfl) rfl rfl zQx13a2_ ?_
   with_reducible refine (basculeref21_Error.calls k1 _ _ y217 ((rd_T34 l0 x4_1).f0) ((rd_T34 l0 x4_1).f1) ((rd_T34 l0 x4_1).f2) ((rd_T34 l0 x4_1).f3) ((rd_T34 l0 x4_1).f4) ((rd_T34 l0 x4_1).f5) ((rd_T34 l0 x4_1).f6) ((rd_T34 l0 x4_1).f7) t222 _ ?side1 ?side2 A5.out).mono ?_
   (case side1 => repeat (first | exact (Kd.C_below HR220.out HB.out) | (with_reducible refine Kd.C_alloc ?_ _) | (with_reducible refine Kd.C_drewN ?_ _) | (with_reducible refine Kd.C_drew ?_)))
   (case side2 => exact HC220.out)
   rintro e w9 ⟨rfl, hb⟩
   refine ⟨_, rfl, ?_⟩
   have n0_ := Aside0.mk (below_step zQx13a0_ hb)
   clear HB
   have HB := n0_
   clear n0_
   (try clear hb)
   (try clear hb2)
   (try clear hk)
   (try clear hi)
   refine hK.out _ _ ⟨((HB.out.cell (World.block_lt_of_cell? w _ hw221_0)).trans hw221_0), ((HB.out.cell (World.block_lt_of_cell? w _ hw221_1)).trans hw221_1), ((HB.out.cell (World.block_lt_of_cell? w _ hw221_2)).trans hw221_2), ((HB.out.cell (World.block_lt_of_cell? w _ hw221_3)).trans hw221_3), ((HB.out.cell (World.block_lt_of_cell? w _ hw221_4)).trans hw221_4), ((HB.out.cell (World.block_lt_of_cell? w _ hw221_5)).trans hw221_5), ((HB.out.cell (World.block_lt_of_cell? w _ hw221_6)).trans hw221_6), ((HB.out.cell (World.block_lt_of_cell? w _ hw221_7)).trans hw221_7)⟩ (fun hHeld => ?_)
   clear hK K
   refine norm_ (a' := ?_) ?_ ?_
   rotate_left
   ·
    show Act.put _ (some 19) _ = _
    simp only [Act.put, List.setIfInBounds_toArray, List.set_cons_zero, List.set_cons_succ, i64_w, i32_w]
    rfl
   refine pure_ (i := 8) (N := some 5) (v := ?_) (a' := ?_) #[true, true, true, true, true, true, true, true, true] rfl rfl (any_of HT_.out (by kernel_rfl)) (fun _ _ _ h => h) (Or.inl ⟨by rfl, ?_⟩) ?_ ?_
   rotate_left
   ·
    intro w'
    go_simp
    with_reducible rfl
   rotate_left
   ·
    simp only [Act.put, List.setIfInBounds_toArray, List.set_cons_zero, List.set_cons_succ, i64_w, i32_w]
    rfl
   refine done_ (done_of HT_.out (by kernel_rfl)) ?_
   try go_wp2
   go_roundg k1
   case measure => have := HK1.out; omega
   case rel => exact ⟨(wrap64 (x4_1 + 1)), (by first | rfl | (simp; done) | (simp [*]; done)), H', ⟨by have := HK1.out; omega⟩, ⟨zQx13a0_⟩⟩
end Go.Proofs.YtbfhiiokajbdhaaGreatDoor.Q
