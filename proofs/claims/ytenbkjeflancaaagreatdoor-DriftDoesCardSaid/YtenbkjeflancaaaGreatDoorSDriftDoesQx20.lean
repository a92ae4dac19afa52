/- What the proof of DriftDoes leans on: Qx20. -/
import Derived.Test.YtenbkjeflancaaaGreatDoorSDriftDoesValF
import Derived.Test.YtenbkjeflancaaaGreatDoorSDriftDoesPDig
import Derived.Test.YtenbkjeflancaaaGreatDoorSDriftDoesQx19
namespace Go.Proofs.YtenbkjeflancaaaGreatDoor.Q
open Go.RowKit Go.Proofs.YtenbkjeflancaaaGreatDoorW.PrintWords Go.Proofs.YtenbkjeflancaaaGreatDoorW.PrintLast Go.Proofs.YtenbkjeflancaaaGreatDoorW.PrintMore
attribute [local go_sem] max2_int min2_int max_two min_two
set_option linter.unusedVariables false
set_option linter.unusedSimpArgs false
theorem zQx20a0_ {P_ : Prop} (h_ : P_ := by repeat (first | (with_reducible first | exact HB.out | apply below_alloc | apply pw_below_drewN | apply below_drew1 | refine below_set ?_ GE293.out) | exact HB.out)) : P_ := h_
theorem zQx20a1_ {P_ : Prop} (h_ : P_ := by repeat (first | (with_reducible first | exact HB.out | apply below_alloc | apply pw_below_drewN | apply below_drew1) | exact HB.out)) : P_ := h_
theorem zQx20a2_ {P_ : Prop} (h_ : P_ := by (with_reducible repeat (first | refine blk_drewN ?_ _ | refine blk_drew ?_ | refine blk_alloc ?_ _)); exact BK293.out) : P_ := h_
theorem zQx20a3_ {P_ : Prop} (h_ : P_ := by first | rfl | (simp; done) | (simp [*]; done)) : P_ := h_
theorem zQx20a4_ {P_ : Prop} (h_ : P_ := by first | rfl | (simp [errW_none, errW_some] <;> rfl) | (simp [*, errW_none, errW_some] <;> rfl)) : P_ := h_
theorem zQx20a5_ {P_ : Prop} (h_ : P_ := by (try simp only [List.map_toArray, List.map_cons, List.map_nil]); first | done | rfl | (simp only [List.length_drop, List.length_take]; rfl)) : P_ := h_
theorem zQx20a6_ {P_ : Prop} (h_ : P_ := by first | (with_reducible assumption) | assumption) : P_ := h_
theorem znQx20_ {X_ : Prop} [Decidable X_] (h_ : ¬ X_ → False := by intro c_; rw [if_neg c_] at H; exact absurd H (by simp)) : X_ := Decidable.byContradiction h_
mutual
def basculeref22_Text.l0 : Nat → List Int → ByteArray → ByteArray → Int → Option (ByteArray)
 | 0, _, _, _, _ => none
 | k + 1, x1, x5, x6, x7 => if x7 < 2 then (if 0 ≤ x7 then (if x7 < (x1.length : Int) then (basculeref22_Text.l1 k x1 x5 x6 x7 (rd x1 x7) (⟨#[]⟩ : ByteArray) 0) else (none)) else (none)) else (some x5)
def basculeref22_Text.l1 : Nat → List Int → ByteArray → ByteArray → Int → Int → ByteArray → Int → Option (ByteArray)
 | 0, _, _, _, _, _, _, _ => none
 | k + 1, x1, x5, x6, x7, x8, x9, x10 => if x10 < 4 then (if 0 ≤ (Int.tmod x8 16) then (if (Int.tmod x8 16) ≤ (wrap64 ((Int.tmod x8 16) + 1)) then (if (wrap64 ((Int.tmod x8 16) + 1)) ≤ (x6.size : Int) then (if (x6.extract ((Int.tmod x8 16) : Int).toNat ((wrap64 ((Int.tmod x8 16) + 1)) : Int).toNat).size + x9.size ≤ 9223372036854775807 then (basculeref22_Text.l1 k x1 x5 x6 x7 (wrap64 (Int.tdiv x8 16)) ((x6.extract ((Int.tmod x8 16) : Int).toNat ((wrap64 ((Int.tmod x8 16) + 1)) : Int).toNat) ++ x9) (wrap64 (x10 + 1))) else (none)) else (none)) else (none)) else (none)) else (if x5.size + x9.size ≤ 9223372036854775807 then (basculeref22_Text.l0 k x1 (x5 ++ x9) x6 (wrap64 (x7 + 1))) else (none))
end
def basculeref22_Text.f (k : Nat) (a0_0 : ByteArray) (a0_1 : Int) (a0_2 : Int) (a0_3 : Int) (a0_4 : Int) (a0_5 : Int) (a0_6 : Int) (a0_7 : Bool) (l1 : List Int) : Option (ByteArray) := if a0_4 = 1 then (if 0 < (l1.length : Int) then (some (strOfNums (([(wrap64 (48 + (rd l1 0))) % 256] : List Int)))) else (none)) else (if a0_4 = 8 then (basculeref22_Text.l0 k l1 (⟨#[]⟩ : ByteArray) (⟨#[48, 49, 50, 51, 52, 53, 54, 55, 56, 57, 97, 98, 99, 100, 101, 102]⟩ : ByteArray) 0) else ((basculeref22_Digits.f a0_0 a0_1 a0_2 a0_3 a0_4 a0_5 a0_6 a0_7 l1).bind fun bt299 => ((basculeref22_point.f k bt299.1 bt299.2 a0_5).bind fun t303 => (some t303))))
set_option maxHeartbeats 8000000 in
set_option maxRecDepth 100000 in
theorem basculeref22_Text.calls (k : Nat) (a0_0 : ByteArray) (a0_1 : Int) (a0_2 : Int) (a0_3 : Int) (a0_4 : Int) (a0_5 : Int) (a0_6 : Int) (a0_7 : Bool) (A1 : Option Addr) (c1 : Nat) (l1 : List Int) (r : ByteArray) (w : World) (hr1 : Kd.C (Kd.int .i64) w A1 l1.length l1) (hc1 : l1.length ≤ c1) (h : basculeref22_Text.f k a0_0 a0_1 a0_2 a0_3 a0_4 a0_5 a0_6 a0_7 l1 = some r) :
  Calls Tryz.prog 21 #[.agg #[.string a0_0, .int .i64 a0_1, .int .i64 a0_2, .int .i64 a0_3, .int .i64 a0_4, .int .i64 a0_5, .int .i64 a0_6, .bool a0_7], .slice A1 l1.length c1] w fun e w' => e = .returned (.string r) ∧ Below w.heap.size w w' := by
 have hu23 := Tryz.underlying23
 have HR1 := Aside0.mk hr1
 have HC1 := Aside0.mk hc1
 clear hr1 hc1
 have HB := Aside0.mk (Below.refl w.heap.size w)
 have H : (if a0_4 = 1 then (if 0 < (l1.length : Int) then (some (strOfNums (([(wrap64 (48 + (rd l1 0))) % 256] : List Int)))) else (none)) else (if a0_4 = 8 then (basculeref22_Text.l0 k l1 (⟨#[]⟩ : ByteArray) (⟨#[48, 49, 50, 51, 52, 53, 54, 55, 56, 57, 97, 98, 99, 100, 101, 102]⟩ : ByteArray) 0) else ((basculeref22_Digits.f a0_0 a0_1 a0_2 a0_3 a0_4 a0_5 a0_6 a0_7 l1).bind fun bt299 => ((basculeref22_point.f k bt299.1 bt299.2 a0_5).bind fun t303 => (some t303))))) = some r := h
 clear h
 by_cases c3 : a0_4 = 1
 ·
  rw [if_pos c3] at H
  have c3b0 : (a0_4 == 1) = true := beq_iff_eq.mpr c3
  have c3b1 : (a0_4 != 1) = false := bne_eq_false_iff_eq.mpr c3
  clear c3
  have c4 : 0 < (l1.length : Int) := znQx20_
  rw [if_pos c4] at H
  have c4b0 : decide (0 < (l1.length : Int)) = true := decide_eq_true c4
  have c4b1 : decide (0 < l1.length) = true := decide_eq_true (by omega)
  clear c4
  obtain ⟨y295, hy295⟩ : ∃ y_ : List Int, y_ = (([(wrap64 (48 + (rd l1 0))) % 256] : List Int)) := ⟨_, rfl⟩
  replace H : (some (strOfNums y295)) = some r := by first | (rw [hy295]; with_reducible exact H) | (have H2_ := (Option.bind_some _ _).symm.trans H; rw [hy295]; with_reducible exact H2_) | (have H2_ := (Option.bind_some _ _).symm.trans H; with_reducible exact H2_) | with_reducible exact H | (rw [hy295]; exact H) | exact H
  have Ny295 := Aside0.mk hy295
  clear hy295
  obtain rfl := Option.some.inj H
  go_enter Tryz.func21, Tryz.ntmps21
  go_wp2_with (first | ((with_reducible refine gate_dst (N := 2) rfl ?_); refine box_event ?hg (N := 2) ?hd (cs := #[.string a0_0, .int .i64 a0_1, .int .i64 a0_2, .int .i64 a0_3, .int .i64 a0_4, .int .i64 a0_5, .int .i64 a0_6, .bool a0_7]) (t := 23) ?hr ?_; (case hd => rfl); (case hg => rfl); (case hr => first | (go_simp; done) | (go_simp; rfl)); intro gb293 hg w5 hbox hb; have n0_ := Aside0.mk (below_step zQx20a1_ hb); have n1_ := Aside0.mk (hbox); have n2_ := Aside0.mk ((by rw [hg]; exact (below_size zQx20a1_) : w.heap.size ≤ gb293)); have n3_ := Aside0.mk ((by rw [hg]; exact (below_size zQx20a1_) : w.heap.size ≤ gb293)); clear HB; have HB := n0_; have BK293 := n1_; have GW293 := n2_; have GE293 := n3_; clear n0_ n1_ n2_ n3_; clear hb hbox hg; have hcz6_0 : w5.cell? ⟨gb293, 0, none⟩ = some (.string a0_0) := (blk_cell BK293.out 0).trans rfl; have hcz6_1 : w5.cell? ⟨gb293, 1, none⟩ = some (.int .i64 a0_1) := (blk_cell BK293.out 1).trans rfl; have hcz6_2 : w5.cell? ⟨gb293, 2, none⟩ = some (.int .i64 a0_2) := (blk_cell BK293.out 2).trans rfl; have hcz6_3 : w5.cell? ⟨gb293, 3, none⟩ = some (.int .i64 a0_3) := (blk_cell BK293.out 3).trans rfl; have hcz6_4 : w5.cell? ⟨gb293, 4, none⟩ = some (.int .i64 a0_4) := (blk_cell BK293.out 4).trans rfl; have hcz6_5 : w5.cell? ⟨gb293, 5, none⟩ = some (.int .i64 a0_5) := (blk_cell BK293.out 5).trans rfl; have hcz6_6 : w5.cell? ⟨gb293, 6, none⟩ = some (.int .i64 a0_6) := (blk_cell BK293.out 6).trans rfl; have hcz6_7 : w5.cell? ⟨gb293, 7, none⟩ = some (.bool a0_7) := (blk_cell BK293.out 7).trans rfl; have hfz6_0 := blk_frozen BK293.out 0; have hfz6_1 := blk_frozen BK293.out 1; have hfz6_2 := blk_frozen BK293.out 2; have hfz6_3 := blk_frozen BK293.out 3; have hfz6_4 := blk_frozen BK293.out 4; have hfz6_5 := blk_frozen BK293.out 5; have hfz6_6 := blk_frozen BK293.out 6; have hfz6_7 := blk_frozen BK293.out 7; have p294 : 0 ≤ (0 : Int) := (by omega); have q294 : 0 < (l1.length : Int) := of_decide_eq_true zQx20a6_; obtain ⟨ad294, e294, hx294_0⟩ := Kd.at_int HR1.out 0 p294 q294; cases e294; have qi294 : (0 < l1.length) = True := eq_true (by omega); (try rw [show ((0 : Int)).toNat = 0 from rfl] at hx294_0); (try rw [Addr.add_zero'] at hx294_0); replace hx294_0 := (HB.out.cell (World.block_lt_of_cell? w _ hx294_0)).trans hx294_0; replace p294 := eq_true p294; replace q294 := eq_true q294) | ((with_reducible refine gate_dst (N := 21) rfl ?_); refine Kd.R_lit (Kd.int .u8) _ 5 ?hg (N := 21) ?hd (xs := ([(wrap64 (48 + (rd l1 0))) % 256] : List Int)) (inner := [.int .u8 ((wrap64 (48 + (rd l1 0))) % 256)]) (ok := fun _ => True) (okp := fun _ => True) ?hr ?hp (fun _ hk => hk) trivial (Below.refl _ _) (Nat.le_refl _) (by simp) ?_; (case hd => rfl); (case hg => rfl); (case hr => first | (go_simp; done) | (go_simp; rfl)); (case hp => exact (Reps.one (show Kd.M (Kd.int .u8) _ _ _ ((wrap64 (48 + (rd l1 0))) % 256) [.int .u8 ((wrap64 (48 + (rd l1 0))) % 256)] from rfl) (Reps.none _ _))); intro v296 w7 ho8 hb hg_ hnew_; clear hg_ hnew_; (first | rw [← Ny295.out] at ho8 | (simp only [Int.reduceToNat] at ho8; rw [← Ny295.out] at ho8)); have n0_ := Aside0.mk (Kd.R_lower ho8 (below_size zQx20a0_)); have n1_ := Aside0.mk (blk_below (g := gb293) (o := .cells #[.string a0_0, .int .i64 a0_1, .int .i64 a0_2, .int .i64 a0_3, .int .i64 a0_4, .int .i64 a0_5, .int .i64 a0_6, .bool a0_7] 23 (0, 0)) zQx20a2_ hb); have n2_ := Aside0.mk (below_step zQx20a0_ hb); clear BK293; clear HB; have HO297 := n0_; have BK293 := n1_; have HB := n2_; clear n0_ n1_ n2_; clear hb ho8; have hcv9 := own_string (P := Tryz.prog) Tryz.underlying77 Tryz.underlying5 Tryz.underlying9 (Kd.own_of_R HO297.out)))
  go_ret
  exact ⟨zQx20a4_, zQx20a0_⟩
 rw [if_neg c3] at H
 have c3b0 : (a0_4 == 1) = false := beq_eq_false_iff_ne.mpr c3
 have c3b1 : (a0_4 != 1) = true := bne_iff_ne.mpr c3
 by_cases c10 : a0_4 = 8
 rotate_left
 ·
  rw [if_neg c10] at H
  have c10b0 : (a0_4 == 8) = false := beq_eq_false_iff_ne.mpr c10
  have c10b1 : (a0_4 != 8) = true := bne_iff_ne.mpr c10
  replace H := Option.bind_eq_some_iff.mp H
  obtain ⟨⟨t299, t302⟩, A230, H⟩ := H
  replace H : ((basculeref22_point.f k t299 t302 a0_5).bind fun t303 => (some t303)) = some r := H
  have A23 := Aside0.mk A230
  clear A230
  replace H := Option.bind_eq_some_iff.mp H
  obtain ⟨t303, A240, H⟩ := H
  replace H : (some t303) = some r := H
  have A24 := Aside0.mk A240
  clear A240
  obtain rfl := Option.some.inj H
  go_enter Tryz.func21, Tryz.ntmps21
  go_wp2_with (first | ((with_reducible refine gate_dst (N := 2) rfl ?_); refine box_event ?hg (N := 2) ?hd (cs := #[.string a0_0, .int .i64 a0_1, .int .i64 a0_2, .int .i64 a0_3, .int .i64 a0_4, .int .i64 a0_5, .int .i64 a0_6, .bool a0_7]) (t := 23) ?hr ?_; (case hd => rfl); (case hg => rfl); (case hr => first | (go_simp; done) | (go_simp; rfl)); intro gb293 hg w25 hbox hb; have n0_ := Aside0.mk (below_step zQx20a1_ hb); have n1_ := Aside0.mk (hbox); have n2_ := Aside0.mk ((by rw [hg]; exact (below_size zQx20a1_) : w.heap.size ≤ gb293)); have n3_ := Aside0.mk ((by rw [hg]; exact (below_size zQx20a1_) : w.heap.size ≤ gb293)); clear HB; have HB := n0_; have BK293 := n1_; have GW293 := n2_; have GE293 := n3_; clear n0_ n1_ n2_ n3_; clear hb hbox hg; have hcz26_0 : w25.cell? ⟨gb293, 0, none⟩ = some (.string a0_0) := (blk_cell BK293.out 0).trans rfl; have hcz26_1 : w25.cell? ⟨gb293, 1, none⟩ = some (.int .i64 a0_1) := (blk_cell BK293.out 1).trans rfl; have hcz26_2 : w25.cell? ⟨gb293, 2, none⟩ = some (.int .i64 a0_2) := (blk_cell BK293.out 2).trans rfl; have hcz26_3 : w25.cell? ⟨gb293, 3, none⟩ = some (.int .i64 a0_3) := (blk_cell BK293.out 3).trans rfl; have hcz26_4 : w25.cell? ⟨gb293, 4, none⟩ = some (.int .i64 a0_4) := (blk_cell BK293.out 4).trans rfl; have hcz26_5 : w25.cell? ⟨gb293, 5, none⟩ = some (.int .i64 a0_5) := (blk_cell BK293.out 5).trans rfl; have hcz26_6 : w25.cell? ⟨gb293, 6, none⟩ = some (.int .i64 a0_6) := (blk_cell BK293.out 6).trans rfl; have hcz26_7 : w25.cell? ⟨gb293, 7, none⟩ = some (.bool a0_7) := (blk_cell BK293.out 7).trans rfl; have hfz26_0 := blk_frozen BK293.out 0; have hfz26_1 := blk_frozen BK293.out 1; have hfz26_2 := blk_frozen BK293.out 2; have hfz26_3 := blk_frozen BK293.out 3; have hfz26_4 := blk_frozen BK293.out 4; have hfz26_5 := blk_frozen BK293.out 5; have hfz26_6 := blk_frozen BK293.out 6; have hfz26_7 := blk_frozen BK293.out 7) | ((with_reducible refine gate_callee (f := 37) rfl ?_); refine goesL_ (some 56) rfl rfl Tryz.func37 (by kernel_rfl) rfl #[.agg #[.string a0_0, .int .i64 a0_1, .int .i64 a0_2, .int .i64 a0_3, .int .i64 a0_4, .int .i64 a0_5, .int .i64 a0_6, .bool a0_7], .slice A1 l1.length c1] rfl zQx20a5_ ?_; (with_reducible refine (basculeref22_Digits.calls a0_0 a0_1 a0_2 a0_3 a0_4 a0_5 a0_6 a0_7 _ _ l1 t299 t302 _ ?side1 ?side2 A23.out).mono ?_); (case side1 => repeat (first | exact (Kd.C_below HR1.out HB.out) | (with_reducible refine Kd.C_alloc ?_ _) | (with_reducible refine Kd.C_drewN ?_ _) | (with_reducible refine Kd.C_drew ?_))); (case side2 => exact HC1.out); rintro e w27 ⟨v300, rfl, ho0, hb⟩; refine ⟨_, rfl, ?_⟩; have n0_ := Aside0.mk (Kd.R_lower ho0 (below_size zQx20a0_)); have n1_ := Aside0.mk (blk_below (g := gb293) (o := .cells #[.string a0_0, .int .i64 a0_1, .int .i64 a0_2, .int .i64 a0_3, .int .i64 a0_4, .int .i64 a0_5, .int .i64 a0_6, .bool a0_7] 23 (0, 0)) zQx20a2_ hb); have n2_ := Aside0.mk (below_step zQx20a0_ hb); clear BK293; clear HB; have HO301 := n0_; have BK293 := n1_; have HB := n2_; clear n0_ n1_ n2_; (try clear hb); (try clear hb2); (try clear hk); (try clear hi); (try clear ho0); have hcz28_0 : w27.cell? ⟨gb293, 0, none⟩ = some (.string a0_0) := (blk_cell BK293.out 0).trans rfl; have hcz28_1 : w27.cell? ⟨gb293, 1, none⟩ = some (.int .i64 a0_1) := (blk_cell BK293.out 1).trans rfl; have hcz28_2 : w27.cell? ⟨gb293, 2, none⟩ = some (.int .i64 a0_2) := (blk_cell BK293.out 2).trans rfl; have hcz28_3 : w27.cell? ⟨gb293, 3, none⟩ = some (.int .i64 a0_3) := (blk_cell BK293.out 3).trans rfl; have hcz28_4 : w27.cell? ⟨gb293, 4, none⟩ = some (.int .i64 a0_4) := (blk_cell BK293.out 4).trans rfl; have hcz28_5 : w27.cell? ⟨gb293, 5, none⟩ = some (.int .i64 a0_5) := (blk_cell BK293.out 5).trans rfl; have hcz28_6 : w27.cell? ⟨gb293, 6, none⟩ = some (.int .i64 a0_6) := (blk_cell BK293.out 6).trans rfl; have hcz28_7 : w27.cell? ⟨gb293, 7, none⟩ = some (.bool a0_7) := (blk_cell BK293.out 7).trans rfl; have hfz28_0 := blk_frozen BK293.out 0; have hfz28_1 := blk_frozen BK293.out 1; have hfz28_2 := blk_frozen BK293.out 2; have hfz28_3 := blk_frozen BK293.out 3; have hfz28_4 := blk_frozen BK293.out 4; have hfz28_5 := blk_frozen BK293.out 5; have hfz28_6 := blk_frozen BK293.out 6; have hfz28_7 := blk_frozen BK293.out 7; obtain ⟨Ao29, co29, eo29⟩ := Kd.R_slice HO301.out; subst eo29) | ((with_reducible refine gate_callee (f := 42) rfl ?_); refine goesL_ (some 63) rfl rfl Tryz.func42 (by kernel_rfl) rfl #[.slice Ao29 t299.length co29, .bool t302, .int .i64 a0_5] rfl zQx20a5_ ?_; (with_reducible refine (basculeref22_point.calls k _ _ t299 t302 a0_5 t303 _ ?side1 ?side2 A24.out).mono ?_); (case side1 => repeat (first | exact (Kd.R_reads' HO301.out).2.2 | (with_reducible refine Kd.C_alloc ?_ _) | (with_reducible refine Kd.C_drewN ?_ _) | (with_reducible refine Kd.C_drew ?_))); (case side2 => exact (Kd.R_reads' HO301.out).2.1); rintro e w30 ⟨rfl, hb⟩; refine ⟨_, rfl, ?_⟩; have n0_ := Aside0.mk (Kd.R_below (by (with_reducible repeat (first | apply Kd.R_alloc | apply Kd.R_drewN | apply Kd.R_drew)); exact HO301.out) hb); have n1_ := Aside0.mk (blk_below (g := gb293) (o := .cells #[.string a0_0, .int .i64 a0_1, .int .i64 a0_2, .int .i64 a0_3, .int .i64 a0_4, .int .i64 a0_5, .int .i64 a0_6, .bool a0_7] 23 (0, 0)) zQx20a2_ hb); have n2_ := Aside0.mk (below_step zQx20a0_ hb); clear HO301; clear BK293; clear HB; have HO301 := n0_; have BK293 := n1_; have HB := n2_; clear n0_ n1_ n2_; (try clear hb); (try clear hb2); (try clear hk); (try clear hi)))
  go_ret
  exact ⟨zQx20a4_, zQx20a0_⟩
 rw [if_pos c10] at H
 have c10b0 : (a0_4 == 8) = true := beq_iff_eq.mpr c10
 have c10b1 : (a0_4 != 8) = false := bne_eq_false_iff_eq.mpr c10
 clear c10
 have H' := Aside0.mk H
 clear H
 go_enter Tryz.func21, Tryz.ntmps21
 go_wp2_with (first | ((with_reducible refine gate_dst (N := 2) rfl ?_); refine box_event ?hg (N := 2) ?hd (cs := #[.string a0_0, .int .i64 a0_1, .int .i64 a0_2, .int .i64 a0_3, .int .i64 a0_4, .int .i64 a0_5, .int .i64 a0_6, .bool a0_7]) (t := 23) ?hr ?_; (case hd => rfl); (case hg => rfl); (case hr => first | (go_simp; done) | (go_simp; rfl)); intro gb293 hg w11 hbox hb; have n0_ := Aside0.mk (below_step zQx20a1_ hb); have n1_ := Aside0.mk (hbox); have n2_ := Aside0.mk ((by rw [hg]; exact (below_size zQx20a1_) : w.heap.size ≤ gb293)); have n3_ := Aside0.mk ((by rw [hg]; exact (below_size zQx20a1_) : w.heap.size ≤ gb293)); clear HB; have HB := n0_; have BK293 := n1_; have GW293 := n2_; have GE293 := n3_; clear n0_ n1_ n2_ n3_; clear hb hbox hg; have hcz12_0 : w11.cell? ⟨gb293, 0, none⟩ = some (.string a0_0) := (blk_cell BK293.out 0).trans rfl; have hcz12_1 : w11.cell? ⟨gb293, 1, none⟩ = some (.int .i64 a0_1) := (blk_cell BK293.out 1).trans rfl; have hcz12_2 : w11.cell? ⟨gb293, 2, none⟩ = some (.int .i64 a0_2) := (blk_cell BK293.out 2).trans rfl; have hcz12_3 : w11.cell? ⟨gb293, 3, none⟩ = some (.int .i64 a0_3) := (blk_cell BK293.out 3).trans rfl; have hcz12_4 : w11.cell? ⟨gb293, 4, none⟩ = some (.int .i64 a0_4) := (blk_cell BK293.out 4).trans rfl; have hcz12_5 : w11.cell? ⟨gb293, 5, none⟩ = some (.int .i64 a0_5) := (blk_cell BK293.out 5).trans rfl; have hcz12_6 : w11.cell? ⟨gb293, 6, none⟩ = some (.int .i64 a0_6) := (blk_cell BK293.out 6).trans rfl; have hcz12_7 : w11.cell? ⟨gb293, 7, none⟩ = some (.bool a0_7) := (blk_cell BK293.out 7).trans rfl; have hfz12_0 := blk_frozen BK293.out 0; have hfz12_1 := blk_frozen BK293.out 1; have hfz12_2 := blk_frozen BK293.out 2; have hfz12_3 := blk_frozen BK293.out 3; have hfz12_4 := blk_frozen BK293.out 4; have hfz12_5 := blk_frozen BK293.out 5; have hfz12_6 := blk_frozen BK293.out 6; have hfz12_7 := blk_frozen BK293.out 7))
 go_loopg [5, 7] k (fun kq v5 v7 w' => ∃ (x5_1 : ByteArray) (x7_1 : Int), v5 = .string x5_1 ∧ v7 = .int .i64 x7_1 ∧ Aside0 (basculeref22_Text.l0 kq l1 x5_1 (⟨#[48, 49, 50, 51, 52, 53, 54, 55, 56, 57, 97, 98, 99, 100, 101, 102]⟩ : ByteArray) x7_1 = some r) ∧ Aside0 (kq ≤ k) ∧ Aside0 (w'.heap[gb293]? = some (.cells #[.string a0_0, .int .i64 a0_1, .int .i64 a0_2, .int .i64 a0_3, .int .i64 a0_4, .int .i64 a0_5, .int .i64 a0_6, .bool a0_7] 23 (0, 0))) ∧ Aside0 (Below w.heap.size w w'))
 case atStart => exact ⟨((⟨#[]⟩ : ByteArray)), (0), zQx20a3_, zQx20a3_, H', ⟨Nat.le_refl _⟩, ⟨zQx20a2_⟩, ⟨zQx20a0_⟩⟩
 case round =>
  clear H'
  try clear c1
  try clear c2
  try clear p2
  try clear q2
  try clear hx2
  try clear qi2
  try clear c3
  try clear c3b0
  try clear c3b1
  try clear c4
  try clear c4b0
  try clear c4b1
  try clear p6
  try clear hcv9
  try clear c10
  try clear c10b0
  try clear c10b1
  try clear hcz12_0
  try clear hcz12_1
  try clear hcz12_2
  try clear hcz12_3
  try clear hcz12_4
  try clear hcz12_5
  try clear hcz12_6
  try clear hcz12_7
  try clear hcz6_0
  try clear hcz6_1
  try clear hcz6_2
  try clear hcz6_3
  try clear hcz6_4
  try clear hcz6_5
  try clear hcz6_6
  try clear hcz6_7
  try clear hfz12_0
  try clear hfz12_1
  try clear hfz12_2
  try clear hfz12_3
  try clear hfz12_4
  try clear hfz12_5
  try clear hfz12_6
  try clear hfz12_7
  try clear hfz6_0
  try clear hfz6_1
  try clear hfz6_2
  try clear hfz6_3
  try clear hfz6_4
  try clear hfz6_5
  try clear hfz6_6
  try clear hfz6_7
  try clear hx294_0
  try clear p294
  try clear q294
  obtain ⟨x5_1, x7_1, rfl, rfl, HA, HK1, BK293, HB⟩ := hrel
  cases gk with
  | zero => exact absurd HA.out (by simp [basculeref22_Text.l0])
  | succ k1 =>
   have H := HA.out
   clear HA
   simp only [basculeref22_Text.l0] at H
   by_cases c13 : x7_1 < 2
   rotate_left
   ·
    rw [if_neg c13] at H
    have c13b0 : decide (x7_1 < 2) = false := decide_eq_false c13
    clear c13
    obtain rfl := Option.some.inj H
    go_wp2
    go_ret
    exact ⟨zQx20a4_, zQx20a0_⟩
   rw [if_pos c13] at H
   have c13b0 : decide (x7_1 < 2) = true := decide_eq_true c13
   clear c13
   have c14 : 0 ≤ x7_1 := znQx20_
   rw [if_pos c14] at H
   have c14b0 : decide (0 ≤ x7_1) = true := decide_eq_true c14
   clear c14
   have c15 : x7_1 < (l1.length : Int) := znQx20_
   rw [if_pos c15] at H
   have c15b0 : decide (x7_1 < (l1.length : Int)) = true := decide_eq_true c15
   clear c15
   have H' := Aside0.mk H
   clear H
   have p298 : 0 ≤ (x7_1 : Int) := of_decide_eq_true zQx20a6_
   have q298 : x7_1 < (l1.length : Int) := of_decide_eq_true zQx20a6_
   obtain ⟨ad298, e298, hx298_0⟩ := Kd.at_int HR1.out x7_1 p298 q298
   cases e298
   replace hx298_0 := (HB.out.cell (World.block_lt_of_cell? w _ hx298_0)).trans hx298_0
   replace p298 := eq_true p298
   replace q298 := eq_true q298
   go_wp2
   go_loopg [8, 9, 10] k1 (fun kq v8 v9 v10 w' => ∃ (x8_2 : Int) (x9_2 : ByteArray) (x10_2 : Int), v8 = .int .i64 x8_2 ∧ v9 = .string x9_2 ∧ v10 = .int .i64 x10_2 ∧ Aside0 (basculeref22_Text.l1 kq l1 x5_1 (⟨#[48, 49, 50, 51, 52, 53, 54, 55, 56, 57, 97, 98, 99, 100, 101, 102]⟩ : ByteArray) x7_1 x8_2 x9_2 x10_2 = some r) ∧ Aside0 (kq ≤ k1) ∧ Aside0 (w'.heap[gb293]? = some (.cells #[.string a0_0, .int .i64 a0_1, .int .i64 a0_2, .int .i64 a0_3, .int .i64 a0_4, .int .i64 a0_5, .int .i64 a0_6, .bool a0_7] 23 (0, 0))) ∧ Aside0 (Below w.heap.size w w'))
   case atStart => exact ⟨(rd l1 x7_1), ((⟨#[]⟩ : ByteArray)), (0), zQx20a3_, zQx20a3_, zQx20a3_, H', ⟨Nat.le_refl _⟩, ⟨zQx20a2_⟩, ⟨zQx20a0_⟩⟩
   case round =>
    clear H'
    try clear c1
    try clear c2
    try clear p2
    try clear q2
    try clear hx2
    try clear qi2
    try clear c3
    try clear c3b0
    try clear c3b1
    try clear c4
    try clear c4b0
    try clear c4b1
    try clear p6
    try clear hcv9
    try clear c10
    try clear c10b0
    try clear c10b1
    try clear c13
    try clear c13b0
    try clear c14
    try clear c14b0
    try clear c15
    try clear c15b0
    try clear hcz12_0
    try clear hcz12_1
    try clear hcz12_2
    try clear hcz12_3
    try clear hcz12_4
    try clear hcz12_5
    try clear hcz12_6
    try clear hcz12_7
    try clear hcz6_0
    try clear hcz6_1
    try clear hcz6_2
    try clear hcz6_3
    try clear hcz6_4
    try clear hcz6_5
    try clear hcz6_6
    try clear hcz6_7
    try clear hfz12_0
    try clear hfz12_1
    try clear hfz12_2
    try clear hfz12_3
    try clear hfz12_4
    try clear hfz12_5
    try clear hfz12_6
    try clear hfz12_7
    try clear hfz6_0
    try clear hfz6_1
    try clear hfz6_2
    try clear hfz6_3
    try clear hfz6_4
    try clear hfz6_5
    try clear hfz6_6
    try clear hfz6_7
    try clear hx294_0
    try clear hx298_0
    try clear p2
    try clear p294
    try clear p298
    try clear p6
    try clear q2
    try clear q294
    try clear q298
    obtain ⟨x8_2, x9_2, x10_2, rfl, rfl, rfl, HA, HK2, BK293, HB⟩ := hrel
    cases gk with
    | zero => exact absurd HA.out (by simp [basculeref22_Text.l1])
    | succ k2 =>
     have H := HA.out
     clear HA
     simp only [basculeref22_Text.l1] at H
     by_cases c16 : x10_2 < 4
     rotate_left
     ·
      rw [if_neg c16] at H
      have c16b0 : decide (x10_2 < 4) = false := decide_eq_false c16
      clear c16
      have c22 : x5_1.size + x9_2.size ≤ 9223372036854775807 := znQx20_
      rw [if_pos c22] at H
      have c22b0 := eq_true c22
      have c22b1 : decide (x5_1.size + x9_2.size ≤ 9223372036854775807) = true := decide_eq_true c22
      try have c22b2 : (9223372036854775807 < x5_1.size + x9_2.size) = False := eq_false (Nat.not_lt.2 c22)
      have H' := Aside0.mk H
      clear H
      go_wp2
      go_roundg k2
      case measure => have := HK1.out; have := HK2.out; omega
      case rel => exact ⟨(x5_1 ++ x9_2), (wrap64 (x7_1 + 1)), zQx20a3_, zQx20a3_, H', ⟨by have := HK1.out; have := HK2.out; omega⟩, ⟨zQx20a2_⟩, ⟨zQx20a0_⟩⟩
     rw [if_pos c16] at H
     have c16b0 : decide (x10_2 < 4) = true := decide_eq_true c16
     clear c16
     obtain ⟨ji17, hji17⟩ : ∃ j_ : Int, (Int.tmod x8_2 16) = j_ := ⟨_, rfl⟩
     replace H : (if 0 ≤ (ji17) then (if (ji17) ≤ (wrap64 ((ji17) + 1)) then (if (wrap64 ((ji17) + 1)) ≤ ((⟨#[48, 49, 50, 51, 52, 53, 54, 55, 56, 57, 97, 98, 99, 100, 101, 102]⟩ : ByteArray).size : Int) then (if ((⟨#[48, 49, 50, 51, 52, 53, 54, 55, 56, 57, 97, 98, 99, 100, 101, 102]⟩ : ByteArray).extract ((ji17) : Int).toNat ((wrap64 ((ji17) + 1)) : Int).toNat).size + x9_2.size ≤ 9223372036854775807 then (basculeref22_Text.l1 k2 l1 x5_1 (⟨#[48, 49, 50, 51, 52, 53, 54, 55, 56, 57, 97, 98, 99, 100, 101, 102]⟩ : ByteArray) x7_1 (wrap64 (Int.tdiv x8_2 16)) (((⟨#[48, 49, 50, 51, 52, 53, 54, 55, 56, 57, 97, 98, 99, 100, 101, 102]⟩ : ByteArray).extract ((ji17) : Int).toNat ((wrap64 ((ji17) + 1)) : Int).toNat) ++ x9_2) (wrap64 (x10_2 + 1))) else (none)) else (none)) else (none)) else (none)) = some r := by first | (rw [hji17] at H; exact H) | (simp only [hji17] at H ⊢; exact H)
     have c18 : 0 ≤ (ji17) := znQx20_
     rw [if_pos c18] at H
     have c18b0 := eq_true c18
     have c18b1 : decide (0 ≤ (ji17)) = true := decide_eq_true c18
     clear c18
     have c19 : (ji17) ≤ (wrap64 ((ji17) + 1)) := znQx20_
     rw [if_pos c19] at H
     have c19b0 := eq_true c19
     have c19b1 : decide ((ji17) ≤ (wrap64 ((ji17) + 1))) = true := decide_eq_true c19
     have c20 : (wrap64 ((ji17) + 1)) ≤ ((⟨#[48, 49, 50, 51, 52, 53, 54, 55, 56, 57, 97, 98, 99, 100, 101, 102]⟩ : ByteArray).size : Int) := znQx20_
     rw [if_pos c20] at H
     have c20b0 := eq_true c20
     have c20b8 : (((wrap64 ((ji17) + 1))) ≤ (16 : Int)) = True := c20b0
     have c20b1 : decide ((wrap64 ((ji17) + 1)) ≤ ((⟨#[48, 49, 50, 51, 52, 53, 54, 55, 56, 57, 97, 98, 99, 100, 101, 102]⟩ : ByteArray).size : Int)) = true := decide_eq_true c20
     have c21 : ((⟨#[48, 49, 50, 51, 52, 53, 54, 55, 56, 57, 97, 98, 99, 100, 101, 102]⟩ : ByteArray).extract ((ji17) : Int).toNat ((wrap64 ((ji17) + 1)) : Int).toNat).size + x9_2.size ≤ 9223372036854775807 := znQx20_
     rw [if_pos c21] at H
     have c21b0 := eq_true c21
     have c21b1 : decide (((⟨#[48, 49, 50, 51, 52, 53, 54, 55, 56, 57, 97, 98, 99, 100, 101, 102]⟩ : ByteArray).extract ((ji17) : Int).toNat ((wrap64 ((ji17) + 1)) : Int).toNat).size + x9_2.size ≤ 9223372036854775807) = true := decide_eq_true c21
     try have c21b2 : (9223372036854775807 < ((⟨#[48, 49, 50, 51, 52, 53, 54, 55, 56, 57, 97, 98, 99, 100, 101, 102]⟩ : ByteArray).extract ((ji17) : Int).toNat ((wrap64 ((ji17) + 1)) : Int).toNat).size + x9_2.size) = False := eq_false (Nat.not_lt.2 c21)
     have H' := Aside0.mk H
     clear H
     go_wp2
     go_roundg k2
     case measure => have := HK1.out; have := HK2.out; omega
     case rel => exact ⟨(wrap64 (Int.tdiv x8_2 16)), (((⟨#[48, 49, 50, 51, 52, 53, 54, 55, 56, 57, 97, 98, 99, 100, 101, 102]⟩ : ByteArray).extract ((ji17) : Int).toNat ((wrap64 ((ji17) + 1)) : Int).toNat) ++ x9_2), (wrap64 (x10_2 + 1)), zQx20a3_, (by first | rfl | (simp; done) | (simp only [← hji17] <;> (first | rfl | simp)) | (simp [*]; done)), zQx20a3_, H', ⟨by have := HK1.out; have := HK2.out; omega⟩, ⟨zQx20a2_⟩, ⟨zQx20a0_⟩⟩
end Go.Proofs.YtenbkjeflancaaaGreatDoor.Q
