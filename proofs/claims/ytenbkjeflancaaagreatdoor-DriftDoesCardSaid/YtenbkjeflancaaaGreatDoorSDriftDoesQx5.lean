/- What the proof of DriftDoes leans on: Qx5. -/
import Derived.Test.YtenbkjeflancaaaGreatDoorSDriftDoesValF
import Derived.Test.YtenbkjeflancaaaGreatDoorSDriftDoesTabF
import Derived.Test.YtenbkjeflancaaaGreatDoorSDriftDoesQx3
import Derived.Test.YtenbkjeflancaaaGreatDoorSDriftDoesQx4
namespace Go.Proofs.YtenbkjeflancaaaGreatDoor.Q
open Go.RowKit Go.Proofs.YtenbkjeflancaaaGreatDoorW.PrintWords Go.Proofs.YtenbkjeflancaaaGreatDoorW.PrintLast Go.Proofs.YtenbkjeflancaaaGreatDoorW.PrintMore
attribute [local go_sem] max2_int min2_int max_two min_two
set_option linter.unusedVariables false
set_option linter.unusedSimpArgs false
theorem zQx5a0_ {P_ : Prop} (h_ : P_ := by (with_reducible repeat (first | refine blk_drewN ?_ _ | refine blk_drew ?_ | refine blk_alloc ?_ _)); refine blk_put (cs := #[.string ((rd_T23 l0 x9_1).f0), .int .i64 ((rd_T23 l0 x9_1).f1), .int .i64 ((rd_T23 l0 x9_1).f2), .int .i64 ((rd_T23 l0 x9_1).f3), .int .i64 ((rd_T23 l0 x9_1).f4), .int .i64 ((rd_T23 l0 x9_1).f5), .int .i64 ((rd_T23 l0 x9_1).f6), .bool false]) ?_ 7 _ rfl; (with_reducible repeat (first | refine blk_drewN ?_ _ | refine blk_drew ?_ | refine blk_alloc ?_ _)); refine blk_put (cs := #[.string ((rd_T23 l0 x9_1).f0), .int .i64 ((rd_T23 l0 x9_1).f1), .int .i64 ((rd_T23 l0 x9_1).f2), .int .i64 ((rd_T23 l0 x9_1).f3), .int .i64 ((rd_T23 l0 x9_1).f4), .int .i64 ((rd_T23 l0 x9_1).f5), .int .i64 0, .bool false]) ?_ 6 _ rfl; (with_reducible repeat (first | refine blk_drewN ?_ _ | refine blk_drew ?_ | refine blk_alloc ?_ _)); refine blk_put (cs := #[.string ((rd_T23 l0 x9_1).f0), .int .i64 ((rd_T23 l0 x9_1).f1), .int .i64 ((rd_T23 l0 x9_1).f2), .int .i64 ((rd_T23 l0 x9_1).f3), .int .i64 ((rd_T23 l0 x9_1).f4), .int .i64 0, .int .i64 0, .bool false]) ?_ 5 _ rfl; (with_reducible repeat (first | refine blk_drewN ?_ _ | refine blk_drew ?_ | refine blk_alloc ?_ _)); refine blk_put (cs := #[.string ((rd_T23 l0 x9_1).f0), .int .i64 ((rd_T23 l0 x9_1).f1), .int .i64 ((rd_T23 l0 x9_1).f2), .int .i64 ((rd_T23 l0 x9_1).f3), .int .i64 0, .int .i64 0, .int .i64 0, .bool false]) ?_ 4 _ rfl; (with_reducible repeat (first | refine blk_drewN ?_ _ | refine blk_drew ?_ | refine blk_alloc ?_ _)); refine blk_put (cs := #[.string ((rd_T23 l0 x9_1).f0), .int .i64 ((rd_T23 l0 x9_1).f1), .int .i64 ((rd_T23 l0 x9_1).f2), .int .i64 0, .int .i64 0, .int .i64 0, .int .i64 0, .bool false]) ?_ 3 _ rfl; (with_reducible repeat (first | refine blk_drewN ?_ _ | refine blk_drew ?_ | refine blk_alloc ?_ _)); refine blk_put (cs := #[.string ((rd_T23 l0 x9_1).f0), .int .i64 ((rd_T23 l0 x9_1).f1), .int .i64 0, .int .i64 0, .int .i64 0, .int .i64 0, .int .i64 0, .bool false]) ?_ 2 _ rfl; (with_reducible repeat (first | refine blk_drewN ?_ _ | refine blk_drew ?_ | refine blk_alloc ?_ _)); refine blk_put (cs := #[.string ((rd_T23 l0 x9_1).f0), .int .i64 0, .int .i64 0, .int .i64 0, .int .i64 0, .int .i64 0, .int .i64 0, .bool false]) ?_ 1 _ rfl; (with_reducible repeat (first | refine blk_drewN ?_ _ | refine blk_drew ?_ | refine blk_alloc ?_ _)); refine blk_put (cs := #[.string (⟨#[]⟩ : ByteArray), .int .i64 0, .int .i64 0, .int .i64 0, .int .i64 0, .int .i64 0, .int .i64 0, .bool false]) ?_ 0 _ rfl; (with_reducible repeat (first | refine blk_drewN ?_ _ | refine blk_drew ?_ | refine blk_alloc ?_ _)); exact BK128.out) : P_ := h_
theorem zQx5a1_ {P_ : Prop} (h_ : P_ := by (with_reducible repeat (first | refine blk_drewN ?_ _ | refine blk_drew ?_ | refine blk_alloc ?_ _)); refine blk_put (cs := #[.string t115, .int .i64 t116, .int .i64 t117, .int .i64 t118, .int .i64 t119, .int .i64 t120, .int .i64 t121, .bool false]) ?_ 7 _ rfl; (with_reducible repeat (first | refine blk_drewN ?_ _ | refine blk_drew ?_ | refine blk_alloc ?_ _)); refine blk_put (cs := #[.string t115, .int .i64 t116, .int .i64 t117, .int .i64 t118, .int .i64 t119, .int .i64 t120, .int .i64 0, .bool false]) ?_ 6 _ rfl; (with_reducible repeat (first | refine blk_drewN ?_ _ | refine blk_drew ?_ | refine blk_alloc ?_ _)); refine blk_put (cs := #[.string t115, .int .i64 t116, .int .i64 t117, .int .i64 t118, .int .i64 t119, .int .i64 0, .int .i64 0, .bool false]) ?_ 5 _ rfl; (with_reducible repeat (first | refine blk_drewN ?_ _ | refine blk_drew ?_ | refine blk_alloc ?_ _)); refine blk_put (cs := #[.string t115, .int .i64 t116, .int .i64 t117, .int .i64 t118, .int .i64 0, .int .i64 0, .int .i64 0, .bool false]) ?_ 4 _ rfl; (with_reducible repeat (first | refine blk_drewN ?_ _ | refine blk_drew ?_ | refine blk_alloc ?_ _)); refine blk_put (cs := #[.string t115, .int .i64 t116, .int .i64 t117, .int .i64 0, .int .i64 0, .int .i64 0, .int .i64 0, .bool false]) ?_ 3 _ rfl; (with_reducible repeat (first | refine blk_drewN ?_ _ | refine blk_drew ?_ | refine blk_alloc ?_ _)); refine blk_put (cs := #[.string t115, .int .i64 t116, .int .i64 0, .int .i64 0, .int .i64 0, .int .i64 0, .int .i64 0, .bool false]) ?_ 2 _ rfl; (with_reducible repeat (first | refine blk_drewN ?_ _ | refine blk_drew ?_ | refine blk_alloc ?_ _)); refine blk_put (cs := #[.string t115, .int .i64 0, .int .i64 0, .int .i64 0, .int .i64 0, .int .i64 0, .int .i64 0, .bool false]) ?_ 1 _ rfl; (with_reducible repeat (first | refine blk_drewN ?_ _ | refine blk_drew ?_ | refine blk_alloc ?_ _)); refine blk_put (cs := #[.string (⟨#[]⟩ : ByteArray), .int .i64 0, .int .i64 0, .int .i64 0, .int .i64 0, .int .i64 0, .int .i64 0, .bool false]) ?_ 0 _ rfl; (with_reducible repeat (first | refine blk_drewN ?_ _ | refine blk_drew ?_ | refine blk_alloc ?_ _)); exact BK124.out) : P_ := h_
theorem zQx5a2_ {P_ : Prop} (h_ : P_ := by repeat (first | (with_reducible first | exact HB.out | apply below_alloc | apply pw_below_drewN | apply below_drew1) | exact HB.out)) : P_ := h_
theorem zQx5a3_ {P_ : Prop} (h_ : P_ := by (with_reducible repeat (first | refine blk_drewN ?_ _ | refine blk_drew ?_ | refine blk_alloc ?_ _)); refine blk_far ?_ NB114_124.out _; (with_reducible repeat (first | refine blk_drewN ?_ _ | refine blk_drew ?_ | refine blk_alloc ?_ _)); refine blk_far ?_ NB114_124.out _; (with_reducible repeat (first | refine blk_drewN ?_ _ | refine blk_drew ?_ | refine blk_alloc ?_ _)); refine blk_far ?_ NB114_124.out _; (with_reducible repeat (first | refine blk_drewN ?_ _ | refine blk_drew ?_ | refine blk_alloc ?_ _)); refine blk_far ?_ NB114_124.out _; (with_reducible repeat (first | refine blk_drewN ?_ _ | refine blk_drew ?_ | refine blk_alloc ?_ _)); refine blk_far ?_ NB114_124.out _; (with_reducible repeat (first | refine blk_drewN ?_ _ | refine blk_drew ?_ | refine blk_alloc ?_ _)); refine blk_far ?_ NB114_124.out _; (with_reducible repeat (first | refine blk_drewN ?_ _ | refine blk_drew ?_ | refine blk_alloc ?_ _)); refine blk_far ?_ NB114_124.out _; (with_reducible repeat (first | refine blk_drewN ?_ _ | refine blk_drew ?_ | refine blk_alloc ?_ _)); refine blk_far ?_ NB114_124.out _; (with_reducible repeat (first | refine blk_drewN ?_ _ | refine blk_drew ?_ | refine blk_alloc ?_ _)); exact BK114.out) : P_ := h_
theorem zQx5a4_ {P_ : Prop} (h_ : P_ := by repeat (first | (with_reducible first | exact HB.out | apply below_alloc | apply pw_below_drewN | apply below_drew1 | refine below_set ?_ GE114.out | refine below_set ?_ GE124.out) | exact HB.out)) : P_ := h_
theorem zQx5a5_ {P_ : Prop} (h_ : P_ := by repeat (first | (with_reducible first | exact HB.out | apply below_alloc | apply pw_below_drewN | apply below_drew1 | refine below_set ?_ GE128.out) | exact HB.out)) : P_ := h_
theorem zQx5a6_ {P_ : Prop} (h_ : P_ := by first | rfl | (simp [errW_none, errW_some] <;> rfl) | (simp [*, errW_none, errW_some] <;> rfl)) : P_ := h_
theorem zQx5a7_ {P_ : Prop} (h_ : P_ := by (with_reducible repeat (first | refine blk_drewN ?_ _ | refine blk_drew ?_ | refine blk_alloc ?_ _)); exact BK114.out) : P_ := h_
theorem zQx5a8_ {P_ : Prop} (h_ : P_ := by (try simp only [List.map_toArray, List.map_cons, List.map_nil]); first | done | rfl | (simp only [List.length_drop, List.length_take]; rfl)) : P_ := h_
theorem zQx5a9_ {P_ : Prop} (h_ : P_ := by repeat (first | (with_reducible first | exact HB.out | apply below_alloc | apply pw_below_drewN | apply below_drew1 | refine below_set ?_ GE114.out) | exact HB.out)) : P_ := h_
theorem zQx5a10_ {P_ : Prop} (h_ : P_ := by (with_reducible repeat (first | refine blk_drewN ?_ _ | refine blk_drew ?_ | refine blk_alloc ?_ _)); exact BK124.out) : P_ := h_
theorem zQx5a11_ {P_ : Prop} (h_ : P_ := by first | (with_reducible assumption) | assumption) : P_ := h_
theorem zQx5a12_ {P_ : Prop} (h_ : P_ := by first | rfl | (simp; done) | (simp [*]; done)) : P_ := h_
theorem zQx5a13_ {P_ : Prop} (h_ : P_ := by (with_reducible repeat (first | refine blk_drewN ?_ _ | refine blk_drew ?_ | refine blk_alloc ?_ _)); exact BK128.out) : P_ := h_
theorem zQx5a14_ {P_ : Prop} (h_ : P_ := by repeat (first | exact Drawn0.refl _ | apply Drawn0.step)) : P_ := h_
theorem znQx5_ {X_ : Prop} [Decidable X_] (h_ : ¬ X_ → False := by intro c_; rw [if_neg c_] at H; exact absurd H (by simp)) : X_ := Decidable.byContradiction h_
def table_next.j0 : Nat → List (S23) → Bool → ByteArray → Int → Int → Int → Int → Int → Int → Bool → Option (Int)
 | 0, _, _, _, _, _, _, _, _, _, _ => none
 | k + 1, x0, x14, x115000, x115001, x115002, x115003, x115004, x115005, x115006, x115007 => if x14 = true then (some 210) else ((table_ranged.f k x115000 x115001 x115002 x115003 x115004 x115005 x115006 x115007).bind fun t126 => (if t126 = true then (if (x0.length : Int) ≥ 64 then (some 6) else (some 0)) else (some 220)))
def table_next.f (k : Nat) (l0 : List (S23)) (a1_0 : ByteArray) (a1_1 : Int) (a1_2 : Int) (a1_3 : Int) (a1_4 : Int) (a1_5 : Int) (a1_6 : Int) (a1_7 : Bool) : Option (Int) := (table_Find.f l0 a1_0).bind fun bt115 => (if bt115.2.2.2.2.2.2.2.2 = true then (table_next.j0 k l0 true a1_0 a1_1 a1_2 a1_3 a1_4 a1_5 a1_6 a1_7) else ((table_named.f a1_0).bind fun t125 => (table_next.j0 k l0 (!t125) a1_0 a1_1 a1_2 a1_3 a1_4 a1_5 a1_6 a1_7)))
set_option maxHeartbeats 8000000 in
set_option maxRecDepth 100000 in
theorem table_next.calls (k : Nat) (A0 : Option Addr) (c0 : Nat) (l0 : List (S23)) (a1_0 : ByteArray) (a1_1 : Int) (a1_2 : Int) (a1_3 : Int) (a1_4 : Int) (a1_5 : Int) (a1_6 : Int) (a1_7 : Bool) (r : Int) (w : World) (hr0 : Kd.C k23 w A0 l0.length l0) (hc0 : l0.length ≤ c0) (hLd_ : Val.Laid w) (h : table_next.f k l0 a1_0 a1_1 a1_2 a1_3 a1_4 a1_5 a1_6 a1_7 = some r) :
  Calls Tryz.prog 22 #[.slice A0 l0.length c0, .agg #[.string a1_0, .int .i64 a1_1, .int .i64 a1_2, .int .i64 a1_3, .int .i64 a1_4, .int .i64 a1_5, .int .i64 a1_6, .bool a1_7]] w fun e w' => e = .returned (.int .i64 r) ∧ Below w.heap.size w w' := by
 have hu23 := Tryz.underlying23
 have HR0 := Aside0.mk hr0
 have HC0 := Aside0.mk hc0
 clear hr0 hc0
 have HB := Aside0.mk (Below.refl w.heap.size w)
 have H : ((table_Find.f l0 a1_0).bind fun bt115 => (if bt115.2.2.2.2.2.2.2.2 = true then (table_next.j0 k l0 true a1_0 a1_1 a1_2 a1_3 a1_4 a1_5 a1_6 a1_7) else ((table_named.f a1_0).bind fun t125 => (table_next.j0 k l0 (!t125) a1_0 a1_1 a1_2 a1_3 a1_4 a1_5 a1_6 a1_7)))) = some r := h
 clear h
 replace H := Option.bind_eq_some_iff.mp H
 obtain ⟨⟨t115, t116, t117, t118, t119, t120, t121, t122, t123⟩, A30, H⟩ := H
 replace H : (if t123 = true then (table_next.j0 k l0 true a1_0 a1_1 a1_2 a1_3 a1_4 a1_5 a1_6 a1_7) else ((table_named.f a1_0).bind fun t125 => (table_next.j0 k l0 (!t125) a1_0 a1_1 a1_2 a1_3 a1_4 a1_5 a1_6 a1_7))) = some r := H
 have A3 := Aside0.mk A30
 clear A30
 have HC4 := Aside0.mk H
 clear H
 go_enter Tryz.func22, Tryz.ntmps22
 go_upto_region 2 with (first | ((with_reducible refine gate_dst (N := 3) rfl ?_); refine box_event ?hg (N := 3) ?hd (cs := #[.string a1_0, .int .i64 a1_1, .int .i64 a1_2, .int .i64 a1_3, .int .i64 a1_4, .int .i64 a1_5, .int .i64 a1_6, .bool a1_7]) (t := 23) ?hr ?_; (case hd => rfl); (case hg => rfl); (case hr => first | (go_simp; done) | (go_simp; rfl)); intro gb114 hg w5 hbox hb; have n0_ := Aside0.mk (below_step zQx5a2_ hb); have n1_ := Aside0.mk (hbox); have n2_ := Aside0.mk ((by rw [hg]; exact (below_size zQx5a2_) : w.heap.size ≤ gb114)); have n3_ := Aside0.mk ((by rw [hg]; exact (below_size zQx5a2_) : w.heap.size ≤ gb114)); clear HB; have HB := n0_; have BK114 := n1_; have GW114 := n2_; have GE114 := n3_; clear n0_ n1_ n2_ n3_; clear hb hbox hg; have hcz6_0 : w5.cell? ⟨gb114, 0, none⟩ = some (.string a1_0) := (blk_cell BK114.out 0).trans rfl; have hcz6_1 : w5.cell? ⟨gb114, 1, none⟩ = some (.int .i64 a1_1) := (blk_cell BK114.out 1).trans rfl; have hcz6_2 : w5.cell? ⟨gb114, 2, none⟩ = some (.int .i64 a1_2) := (blk_cell BK114.out 2).trans rfl; have hcz6_3 : w5.cell? ⟨gb114, 3, none⟩ = some (.int .i64 a1_3) := (blk_cell BK114.out 3).trans rfl; have hcz6_4 : w5.cell? ⟨gb114, 4, none⟩ = some (.int .i64 a1_4) := (blk_cell BK114.out 4).trans rfl; have hcz6_5 : w5.cell? ⟨gb114, 5, none⟩ = some (.int .i64 a1_5) := (blk_cell BK114.out 5).trans rfl; have hcz6_6 : w5.cell? ⟨gb114, 6, none⟩ = some (.int .i64 a1_6) := (blk_cell BK114.out 6).trans rfl; have hcz6_7 : w5.cell? ⟨gb114, 7, none⟩ = some (.bool a1_7) := (blk_cell BK114.out 7).trans rfl; have hfz6_0 := blk_frozen BK114.out 0; have hfz6_1 := blk_frozen BK114.out 1; have hfz6_2 := blk_frozen BK114.out 2; have hfz6_3 := blk_frozen BK114.out 3; have hfz6_4 := blk_frozen BK114.out 4; have hfz6_5 := blk_frozen BK114.out 5; have hfz6_6 := blk_frozen BK114.out 6; have hfz6_7 := blk_frozen BK114.out 7) | ((with_reducible refine gate_callee (f := 43) rfl ?_); refine goesL_ (some 11) rfl rfl Tryz.func43 (by kernel_rfl) rfl #[.slice A0 l0.length c0, .string a1_0] rfl zQx5a8_ ?_; (with_reducible refine (table_Find.calls _ _ l0 a1_0 t115 t116 t117 t118 t119 t120 t121 t122 t123 _ ?side1 ?side2 A3.out).mono ?_); (case side1 => repeat (first | exact (Kd.C_below HR0.out HB.out) | (with_reducible refine Kd.C_alloc ?_ _) | (with_reducible refine Kd.C_drewN ?_ _) | (with_reducible refine Kd.C_drew ?_))); (case side2 => exact HC0.out); rintro e w7 ⟨rfl, hb⟩; refine ⟨_, rfl, ?_⟩; have n0_ := Aside0.mk (blk_below (g := gb114) (o := .cells #[.string a1_0, .int .i64 a1_1, .int .i64 a1_2, .int .i64 a1_3, .int .i64 a1_4, .int .i64 a1_5, .int .i64 a1_6, .bool a1_7] 23 (0, 0)) zQx5a7_ hb); have n1_ := Aside0.mk (below_step zQx5a9_ hb); clear BK114; clear HB; have BK114 := n0_; have HB := n1_; clear n0_ n1_; (try clear hb); (try clear hb2); (try clear hk); (try clear hi)) | ((with_reducible refine gate_dst (N := 5) rfl ?_); refine box_event ?hg (N := 5) ?hd (cs := #[.string (⟨#[]⟩ : ByteArray), .int .i64 0, .int .i64 0, .int .i64 0, .int .i64 0, .int .i64 0, .int .i64 0, .bool false]) (t := 23) ?hr ?_; (case hd => rfl); (case hg => rfl); (case hr => first | (go_simp; done) | (go_simp; rfl)); intro gb124 hg w8 hbox hb; have n0_ := Aside0.mk (blk_below (g := gb114) (o := .cells #[.string a1_0, .int .i64 a1_1, .int .i64 a1_2, .int .i64 a1_3, .int .i64 a1_4, .int .i64 a1_5, .int .i64 a1_6, .bool a1_7] 23 (0, 0)) zQx5a7_ hb); have n1_ := Aside0.mk (below_step zQx5a9_ hb); have n2_ := Aside0.mk (hbox); have n3_ := Aside0.mk ((by rw [hg]; exact (below_size zQx5a9_) : w.heap.size ≤ gb124)); have n4_ := Aside0.mk ((by rw [hg]; exact (below_size zQx5a9_) : w.heap.size ≤ gb124)); have n5_ := Aside0.mk ((by rw [hg]; exact Nat.ne_of_lt (blk_lt (g := gb114) (o := .cells #[.string a1_0, .int .i64 a1_1, .int .i64 a1_2, .int .i64 a1_3, .int .i64 a1_4, .int .i64 a1_5, .int .i64 a1_6, .bool a1_7] 23 (0, 0)) zQx5a7_) : gb114 ≠ gb124)); have n6_ := Aside0.mk ((by rw [hg]; exact Nat.ne_of_gt (blk_lt (g := gb114) (o := .cells #[.string a1_0, .int .i64 a1_1, .int .i64 a1_2, .int .i64 a1_3, .int .i64 a1_4, .int .i64 a1_5, .int .i64 a1_6, .bool a1_7] 23 (0, 0)) zQx5a7_) : gb124 ≠ gb114)); clear BK114; clear HB; have BK114 := n0_; have HB := n1_; have BK124 := n2_; have GW124 := n3_; have GE124 := n4_; have NB114_124 := n5_; have NB124_114 := n6_; clear n0_ n1_ n2_ n3_ n4_ n5_ n6_; clear hb hbox hg; have hnb9 := NB124_114.out; have hnc9 := NB114_124.out; have hcz10_0 : w8.cell? ⟨gb124, 0, none⟩ = some (.string (⟨#[]⟩ : ByteArray)) := (blk_cell BK124.out 0).trans rfl; have hcz10_1 : w8.cell? ⟨gb124, 1, none⟩ = some (.int .i64 0) := (blk_cell BK124.out 1).trans rfl; have hcz10_2 : w8.cell? ⟨gb124, 2, none⟩ = some (.int .i64 0) := (blk_cell BK124.out 2).trans rfl; have hcz10_3 : w8.cell? ⟨gb124, 3, none⟩ = some (.int .i64 0) := (blk_cell BK124.out 3).trans rfl; have hcz10_4 : w8.cell? ⟨gb124, 4, none⟩ = some (.int .i64 0) := (blk_cell BK124.out 4).trans rfl; have hcz10_5 : w8.cell? ⟨gb124, 5, none⟩ = some (.int .i64 0) := (blk_cell BK124.out 5).trans rfl; have hcz10_6 : w8.cell? ⟨gb124, 6, none⟩ = some (.int .i64 0) := (blk_cell BK124.out 6).trans rfl; have hcz10_7 : w8.cell? ⟨gb124, 7, none⟩ = some (.bool false) := (blk_cell BK124.out 7).trans rfl; have hfz10_0 := blk_frozen BK124.out 0; have hfz10_1 := blk_frozen BK124.out 1; have hfz10_2 := blk_frozen BK124.out 2; have hfz10_3 := blk_frozen BK124.out 3; have hfz10_4 := blk_frozen BK124.out 4; have hfz10_5 := blk_frozen BK124.out 5; have hfz10_6 := blk_frozen BK124.out 6; have hfz10_7 := blk_frozen BK124.out 7))
 (try simp only [Act.put, List.setIfInBounds_toArray, List.set_cons_zero, List.set_cons_succ])
 go_cut [14] (fun v14 wc => ∃ (kq : Nat) (x14_3 : Bool), v14 = .bool x14_3 ∧ Aside0 (table_next.j0 kq l0 x14_3 a1_0 a1_1 a1_2 a1_3 a1_4 a1_5 a1_6 a1_7 = some r) ∧ Aside0 (kq ≤ k) ∧ Aside0 (wc.heap[gb114]? = some (.cells #[.string a1_0, .int .i64 a1_1, .int .i64 a1_2, .int .i64 a1_3, .int .i64 a1_4, .int .i64 a1_5, .int .i64 a1_6, .bool a1_7] 23 (0, 0))) ∧ Aside0 (wc.heap[gb124]? = some (.cells #[.string t115, .int .i64 t116, .int .i64 t117, .int .i64 t118, .int .i64 t119, .int .i64 t120, .int .i64 t121, .bool t122] 23 (0, 0))) ∧ Aside0 (Below w.heap.size w wc))
 case first =>
  have H := HC4.out
  clear HC4
  by_cases c11 : t123 = true
  ·
   subst c11
   have H1 : (table_next.j0 k l0 true a1_0 a1_1 a1_2 a1_3 a1_4 a1_5 a1_6 a1_7) = some r := by rw [if_pos rfl] at H; exact H
   clear H
   have H := H1
   clear H1
   have H' := Aside0.mk H
   clear H
   go_wp2
   go_meet
   case rel => exact ⟨_, (true), zQx5a12_, H', ⟨by first | omega | exact Nat.le_refl _⟩, ⟨zQx5a3_⟩, ⟨zQx5a1_⟩, ⟨zQx5a4_⟩⟩
  replace c11 := Bool.eq_false_iff.mpr c11
  subst c11
  have H1 : ((table_named.f a1_0).bind fun t125 => (table_next.j0 k l0 (!t125) a1_0 a1_1 a1_2 a1_3 a1_4 a1_5 a1_6 a1_7)) = some r := by rw [if_neg (show ¬ (false = true) by decide)] at H; exact H
  clear H
  have H := H1
  clear H1
  replace H := Option.bind_eq_some_iff.mp H
  obtain ⟨t125, A120, H⟩ := H
  replace H : (table_next.j0 k l0 (!t125) a1_0 a1_1 a1_2 a1_3 a1_4 a1_5 a1_6 a1_7) = some r := H
  have A12 := Aside0.mk A120
  clear A120
  have H' := Aside0.mk H
  clear H
  have hnb13 := NB114_124.out
  have hnc13 := NB124_114.out
  have hcz14_0 : w8.cell? ⟨gb114, 0, none⟩ = some (.string a1_0) := (blk_cell BK114.out 0).trans rfl
  have hcz14_1 : w8.cell? ⟨gb114, 1, none⟩ = some (.int .i64 a1_1) := (blk_cell BK114.out 1).trans rfl
  have hcz14_2 : w8.cell? ⟨gb114, 2, none⟩ = some (.int .i64 a1_2) := (blk_cell BK114.out 2).trans rfl
  have hcz14_3 : w8.cell? ⟨gb114, 3, none⟩ = some (.int .i64 a1_3) := (blk_cell BK114.out 3).trans rfl
  have hcz14_4 : w8.cell? ⟨gb114, 4, none⟩ = some (.int .i64 a1_4) := (blk_cell BK114.out 4).trans rfl
  have hcz14_5 : w8.cell? ⟨gb114, 5, none⟩ = some (.int .i64 a1_5) := (blk_cell BK114.out 5).trans rfl
  have hcz14_6 : w8.cell? ⟨gb114, 6, none⟩ = some (.int .i64 a1_6) := (blk_cell BK114.out 6).trans rfl
  have hcz14_7 : w8.cell? ⟨gb114, 7, none⟩ = some (.bool a1_7) := (blk_cell BK114.out 7).trans rfl
  have hfz14_0 := blk_frozen BK114.out 0
  have hfz14_1 := blk_frozen BK114.out 1
  have hfz14_2 := blk_frozen BK114.out 2
  have hfz14_3 := blk_frozen BK114.out 3
  have hfz14_4 := blk_frozen BK114.out 4
  have hfz14_5 := blk_frozen BK114.out 5
  have hfz14_6 := blk_frozen BK114.out 6
  have hfz14_7 := blk_frozen BK114.out 7
  go_wp2_with (first | (go_at_call 44; (with_reducible refine (table_named.calls a1_0 t125 _ (Val.Laid.below hLd_ zQx5a4_) A12.out).mono ?_); rintro e w15 ⟨rfl, hb⟩; have n0_ := Aside0.mk (blk_below (g := gb114) (o := .cells #[.string a1_0, .int .i64 a1_1, .int .i64 a1_2, .int .i64 a1_3, .int .i64 a1_4, .int .i64 a1_5, .int .i64 a1_6, .bool a1_7] 23 (0, 0)) zQx5a3_ hb); have n1_ := Aside0.mk (blk_below (g := gb124) (o := .cells #[.string t115, .int .i64 t116, .int .i64 t117, .int .i64 t118, .int .i64 t119, .int .i64 t120, .int .i64 t121, .bool t122] 23 (0, 0)) zQx5a1_ hb); have n2_ := Aside0.mk (below_step zQx5a4_ hb); clear BK114; clear BK124; clear HB; have BK114 := n0_; have BK124 := n1_; have HB := n2_; clear n0_ n1_ n2_; (try clear hb); (try clear hb2); (try clear hk); (try clear hi)))
  go_meet
  case rel => exact ⟨_, (!t125), zQx5a12_, H', ⟨by first | omega | exact Nat.le_refl _⟩, ⟨zQx5a7_⟩, ⟨zQx5a10_⟩, ⟨zQx5a4_⟩⟩
 case rest =>
  clear HC4
  try clear c1
  try clear c2
  try clear p2
  try clear c4
  try clear c9
  try clear c11
  try clear c13
  try clear hcz10_0
  try clear hcz10_1
  try clear hcz10_2
  try clear hcz10_3
  try clear hcz10_4
  try clear hcz10_5
  try clear hcz10_6
  try clear hcz10_7
  try clear hcz14_0
  try clear hcz14_1
  try clear hcz14_2
  try clear hcz14_3
  try clear hcz14_4
  try clear hcz14_5
  try clear hcz14_6
  try clear hcz14_7
  try clear hcz6_0
  try clear hcz6_1
  try clear hcz6_2
  try clear hcz6_3
  try clear hcz6_4
  try clear hcz6_5
  try clear hcz6_6
  try clear hcz6_7
  try clear hfz10_0
  try clear hfz10_1
  try clear hfz10_2
  try clear hfz10_3
  try clear hfz10_4
  try clear hfz10_5
  try clear hfz10_6
  try clear hfz10_7
  try clear hfz14_0
  try clear hfz14_1
  try clear hfz14_2
  try clear hfz14_3
  try clear hfz14_4
  try clear hfz14_5
  try clear hfz14_6
  try clear hfz14_7
  try clear hfz6_0
  try clear hfz6_1
  try clear hfz6_2
  try clear hfz6_3
  try clear hfz6_4
  try clear hfz6_5
  try clear hfz6_6
  try clear hfz6_7
  obtain ⟨kq, x14_3, rfl, HA, HJ3, BK114, BK124, HB⟩ := hcut
  cases kq with
  | zero => exact absurd HA.out (by simp [table_next.j0])
  | succ kj3 =>
   have H := HA.out
   clear HA
   simp only [table_next.j0] at H
   by_cases c16 : x14_3 = true
   ·
    subst c16
    have H1 : (some 210) = some r := by rw [if_pos rfl] at H; exact H
    clear H
    have H := H1
    clear H1
    obtain rfl := Option.some.inj H
    go_wp2
    go_ret
    exact ⟨zQx5a6_, zQx5a4_⟩
   replace c16 := Bool.eq_false_iff.mpr c16
   subst c16
   have H1 : ((table_ranged.f kj3 a1_0 a1_1 a1_2 a1_3 a1_4 a1_5 a1_6 a1_7).bind fun t126 => (if t126 = true then (if (l0.length : Int) ≥ 64 then (some 6) else (some 0)) else (some 220))) = some r := by rw [if_neg (show ¬ (false = true) by decide)] at H; exact H
   clear H
   have H := H1
   clear H1
   replace H := Option.bind_eq_some_iff.mp H
   obtain ⟨t126, A170, H⟩ := H
   replace H : (if t126 = true then (if (l0.length : Int) ≥ 64 then (some 6) else (some 0)) else (some 220)) = some r := H
   have A17 := Aside0.mk A170
   clear A170
   by_cases c18 : t126 = true
   rotate_left
   ·
    replace c18 := Bool.eq_false_iff.mpr c18
    subst c18
    have H1 : (some 220) = some r := by rw [if_neg (show ¬ (false = true) by decide)] at H; exact H
    clear H
    have H := H1
    clear H1
    obtain rfl := Option.some.inj H
    have hnb26 := NB114_124.out
    have hnc26 := NB124_114.out
    have hcz27_0 : wc.cell? ⟨gb114, 0, none⟩ = some (.string a1_0) := (blk_cell BK114.out 0).trans rfl
    have hcz27_1 : wc.cell? ⟨gb114, 1, none⟩ = some (.int .i64 a1_1) := (blk_cell BK114.out 1).trans rfl
    have hcz27_2 : wc.cell? ⟨gb114, 2, none⟩ = some (.int .i64 a1_2) := (blk_cell BK114.out 2).trans rfl
    have hcz27_3 : wc.cell? ⟨gb114, 3, none⟩ = some (.int .i64 a1_3) := (blk_cell BK114.out 3).trans rfl
    have hcz27_4 : wc.cell? ⟨gb114, 4, none⟩ = some (.int .i64 a1_4) := (blk_cell BK114.out 4).trans rfl
    have hcz27_5 : wc.cell? ⟨gb114, 5, none⟩ = some (.int .i64 a1_5) := (blk_cell BK114.out 5).trans rfl
    have hcz27_6 : wc.cell? ⟨gb114, 6, none⟩ = some (.int .i64 a1_6) := (blk_cell BK114.out 6).trans rfl
    have hcz27_7 : wc.cell? ⟨gb114, 7, none⟩ = some (.bool a1_7) := (blk_cell BK114.out 7).trans rfl
    have hfz27_0 := blk_frozen BK114.out 0
    have hfz27_1 := blk_frozen BK114.out 1
    have hfz27_2 := blk_frozen BK114.out 2
    have hfz27_3 := blk_frozen BK114.out 3
    have hfz27_4 := blk_frozen BK114.out 4
    have hfz27_5 := blk_frozen BK114.out 5
    have hfz27_6 := blk_frozen BK114.out 6
    have hfz27_7 := blk_frozen BK114.out 7
    go_wp2_with (first | ((with_reducible refine gate_callee (f := 45) rfl ?_); refine goesL_ (some 24) rfl rfl Tryz.func45 (by kernel_rfl) rfl #[.agg #[.string a1_0, .int .i64 a1_1, .int .i64 a1_2, .int .i64 a1_3, .int .i64 a1_4, .int .i64 a1_5, .int .i64 a1_6, .bool a1_7]] rfl zQx5a8_ ?_; (with_reducible refine (table_ranged.calls kj3 a1_0 a1_1 a1_2 a1_3 a1_4 a1_5 a1_6 a1_7 false _ A17.out).mono ?_); rintro e w28 ⟨rfl, hb⟩; refine ⟨_, rfl, ?_⟩; have n0_ := Aside0.mk (blk_below (g := gb114) (o := .cells #[.string a1_0, .int .i64 a1_1, .int .i64 a1_2, .int .i64 a1_3, .int .i64 a1_4, .int .i64 a1_5, .int .i64 a1_6, .bool a1_7] 23 (0, 0)) zQx5a7_ hb); have n1_ := Aside0.mk (blk_below (g := gb124) (o := .cells #[.string t115, .int .i64 t116, .int .i64 t117, .int .i64 t118, .int .i64 t119, .int .i64 t120, .int .i64 t121, .bool t122] 23 (0, 0)) zQx5a10_ hb); have n2_ := Aside0.mk (below_step zQx5a4_ hb); clear BK114; clear BK124; clear HB; have BK114 := n0_; have BK124 := n1_; have HB := n2_; clear n0_ n1_ n2_; (try clear hb); (try clear hb2); (try clear hk); (try clear hi)))
    go_ret
    exact ⟨zQx5a6_, zQx5a4_⟩
   subst c18
   have H1 : (if (l0.length : Int) ≥ 64 then (some 6) else (some 0)) = some r := by rw [if_pos rfl] at H; exact H
   clear H
   have H := H1
   clear H1
   by_cases c19 : (l0.length : Int) ≥ 64
   ·
    rw [if_pos c19] at H
    have c19b0 : decide (64 ≤ (l0.length : Int)) = true := decide_eq_true c19
    have c19b1 : decide (64 ≤ l0.length) = true := decide_eq_true (by omega)
    clear c19
    obtain rfl := Option.some.inj H
    have hnb20 := NB114_124.out
    have hnc20 := NB124_114.out
    have hcz21_0 : wc.cell? ⟨gb114, 0, none⟩ = some (.string a1_0) := (blk_cell BK114.out 0).trans rfl
    have hcz21_1 : wc.cell? ⟨gb114, 1, none⟩ = some (.int .i64 a1_1) := (blk_cell BK114.out 1).trans rfl
    have hcz21_2 : wc.cell? ⟨gb114, 2, none⟩ = some (.int .i64 a1_2) := (blk_cell BK114.out 2).trans rfl
    have hcz21_3 : wc.cell? ⟨gb114, 3, none⟩ = some (.int .i64 a1_3) := (blk_cell BK114.out 3).trans rfl
    have hcz21_4 : wc.cell? ⟨gb114, 4, none⟩ = some (.int .i64 a1_4) := (blk_cell BK114.out 4).trans rfl
    have hcz21_5 : wc.cell? ⟨gb114, 5, none⟩ = some (.int .i64 a1_5) := (blk_cell BK114.out 5).trans rfl
    have hcz21_6 : wc.cell? ⟨gb114, 6, none⟩ = some (.int .i64 a1_6) := (blk_cell BK114.out 6).trans rfl
    have hcz21_7 : wc.cell? ⟨gb114, 7, none⟩ = some (.bool a1_7) := (blk_cell BK114.out 7).trans rfl
    have hfz21_0 := blk_frozen BK114.out 0
    have hfz21_1 := blk_frozen BK114.out 1
    have hfz21_2 := blk_frozen BK114.out 2
    have hfz21_3 := blk_frozen BK114.out 3
    have hfz21_4 := blk_frozen BK114.out 4
    have hfz21_5 := blk_frozen BK114.out 5
    have hfz21_6 := blk_frozen BK114.out 6
    have hfz21_7 := blk_frozen BK114.out 7
    go_wp2_with (first | ((with_reducible refine gate_callee (f := 45) rfl ?_); refine goesL_ (some 24) rfl rfl Tryz.func45 (by kernel_rfl) rfl #[.agg #[.string a1_0, .int .i64 a1_1, .int .i64 a1_2, .int .i64 a1_3, .int .i64 a1_4, .int .i64 a1_5, .int .i64 a1_6, .bool a1_7]] rfl zQx5a8_ ?_; (with_reducible refine (table_ranged.calls kj3 a1_0 a1_1 a1_2 a1_3 a1_4 a1_5 a1_6 a1_7 true _ A17.out).mono ?_); rintro e w22 ⟨rfl, hb⟩; refine ⟨_, rfl, ?_⟩; have n0_ := Aside0.mk (blk_below (g := gb114) (o := .cells #[.string a1_0, .int .i64 a1_1, .int .i64 a1_2, .int .i64 a1_3, .int .i64 a1_4, .int .i64 a1_5, .int .i64 a1_6, .bool a1_7] 23 (0, 0)) zQx5a7_ hb); have n1_ := Aside0.mk (blk_below (g := gb124) (o := .cells #[.string t115, .int .i64 t116, .int .i64 t117, .int .i64 t118, .int .i64 t119, .int .i64 t120, .int .i64 t121, .bool t122] 23 (0, 0)) zQx5a10_ hb); have n2_ := Aside0.mk (below_step zQx5a4_ hb); clear BK114; clear BK124; clear HB; have BK114 := n0_; have BK124 := n1_; have HB := n2_; clear n0_ n1_ n2_; (try clear hb); (try clear hb2); (try clear hk); (try clear hi)))
    go_ret
    exact ⟨zQx5a6_, zQx5a4_⟩
   rw [if_neg c19] at H
   have c19b0 : decide (64 ≤ (l0.length : Int)) = false := decide_eq_false c19
   have c19b1 : decide (64 ≤ l0.length) = false := decide_eq_false (by omega)
   clear c19
   obtain rfl := Option.some.inj H
   have hnb23 := NB114_124.out
   have hnc23 := NB124_114.out
   have hcz24_0 : wc.cell? ⟨gb114, 0, none⟩ = some (.string a1_0) := (blk_cell BK114.out 0).trans rfl
   have hcz24_1 : wc.cell? ⟨gb114, 1, none⟩ = some (.int .i64 a1_1) := (blk_cell BK114.out 1).trans rfl
   have hcz24_2 : wc.cell? ⟨gb114, 2, none⟩ = some (.int .i64 a1_2) := (blk_cell BK114.out 2).trans rfl
   have hcz24_3 : wc.cell? ⟨gb114, 3, none⟩ = some (.int .i64 a1_3) := (blk_cell BK114.out 3).trans rfl
   have hcz24_4 : wc.cell? ⟨gb114, 4, none⟩ = some (.int .i64 a1_4) := (blk_cell BK114.out 4).trans rfl
   have hcz24_5 : wc.cell? ⟨gb114, 5, none⟩ = some (.int .i64 a1_5) := (blk_cell BK114.out 5).trans rfl
   have hcz24_6 : wc.cell? ⟨gb114, 6, none⟩ = some (.int .i64 a1_6) := (blk_cell BK114.out 6).trans rfl
   have hcz24_7 : wc.cell? ⟨gb114, 7, none⟩ = some (.bool a1_7) := (blk_cell BK114.out 7).trans rfl
   have hfz24_0 := blk_frozen BK114.out 0
   have hfz24_1 := blk_frozen BK114.out 1
   have hfz24_2 := blk_frozen BK114.out 2
   have hfz24_3 := blk_frozen BK114.out 3
   have hfz24_4 := blk_frozen BK114.out 4
   have hfz24_5 := blk_frozen BK114.out 5
   have hfz24_6 := blk_frozen BK114.out 6
   have hfz24_7 := blk_frozen BK114.out 7
   go_wp2_with (first | ((with_reducible refine gate_callee (f := 45) rfl ?_); refine goesL_ (some 24) rfl rfl Tryz.func45 (by kernel_rfl) rfl #[.agg #[.string a1_0, .int .i64 a1_1, .int .i64 a1_2, .int .i64 a1_3, .int .i64 a1_4, .int .i64 a1_5, .int .i64 a1_6, .bool a1_7]] rfl zQx5a8_ ?_; (with_reducible refine (table_ranged.calls kj3 a1_0 a1_1 a1_2 a1_3 a1_4 a1_5 a1_6 a1_7 true _ A17.out).mono ?_); rintro e w25 ⟨rfl, hb⟩; refine ⟨_, rfl, ?_⟩; have n0_ := Aside0.mk (blk_below (g := gb114) (o := .cells #[.string a1_0, .int .i64 a1_1, .int .i64 a1_2, .int .i64 a1_3, .int .i64 a1_4, .int .i64 a1_5, .int .i64 a1_6, .bool a1_7] 23 (0, 0)) zQx5a7_ hb); have n1_ := Aside0.mk (blk_below (g := gb124) (o := .cells #[.string t115, .int .i64 t116, .int .i64 t117, .int .i64 t118, .int .i64 t119, .int .i64 t120, .int .i64 t121, .bool t122] 23 (0, 0)) zQx5a10_ hb); have n2_ := Aside0.mk (below_step zQx5a4_ hb); clear BK114; clear BK124; clear HB; have BK114 := n0_; have BK124 := n1_; have HB := n2_; clear n0_ n1_ n2_; (try clear hb); (try clear hb2); (try clear hk); (try clear hi)))
   go_ret
   exact ⟨zQx5a6_, zQx5a4_⟩
def table_Check.l0 : Nat → List (S23) → List (S23) → Int → Int → Option (Int × Int)
 | 0, _, _, _, _ => none
 | k + 1, x0, x7, x8, x9 => if x9 < x8 then (if 0 ≤ x9 then (if x9 < (x7.length : Int) then (if x9 ≤ (x0.length : Int) then ((table_next.f k (x0.take (x9 : Int).toNat) ((rd_T23 x7 x9).f0) ((rd_T23 x7 x9).f1) ((rd_T23 x7 x9).f2) ((rd_T23 x7 x9).f3) ((rd_T23 x7 x9).f4) ((rd_T23 x7 x9).f5) ((rd_T23 x7 x9).f6) ((rd_T23 x7 x9).f7)).bind fun t133 => (if t133 = 0 then (table_Check.l0 k x0 x7 x8 (wrap64 (x9 + 1))) else (some (wrap64 (x9 + 1), t133)))) else (none)) else (none)) else (none)) else (some (0, 0))
def table_Check.f (k : Nat) (l0 : List (S23)) : Option (Int × Int) := table_Check.l0 k l0 l0 (l0.length : Int) 0
set_option maxHeartbeats 8000000 in
set_option maxRecDepth 100000 in
theorem table_Check.calls (k : Nat) (A0 : Option Addr) (c0 : Nat) (l0 : List (S23)) (r1 : Int) (r2 : Int) (w : World) (hr0 : Kd.C k23 w A0 l0.length l0) (hc0 : l0.length ≤ c0) (hLd_ : Val.Laid w) (h : table_Check.f k l0 = some (r1, r2)) :
  Calls Tryz.prog 14 #[.slice A0 l0.length c0] w fun e w' => e = .returned (.tuple #[.int .i64 r1, .int .i64 r2]) ∧ Below w.heap.size w w' := by
 have hu23 := Tryz.underlying23
 have HR0 := Aside0.mk hr0
 have HC0 := Aside0.mk hc0
 clear hr0 hc0
 have HB := Aside0.mk (Below.refl w.heap.size w)
 have H : (table_Check.l0 k l0 l0 (l0.length : Int) 0) = some (r1, r2) := h
 clear h
 have H' := Aside0.mk H
 clear H
 go_enter Tryz.func14, Tryz.ntmps14
 go_wp2
 go_loopg [9] k (fun kq v9 w' => ∃ (x9_1 : Int), v9 = .int .i64 x9_1 ∧ Aside0 (table_Check.l0 kq l0 l0 (l0.length : Int) x9_1 = some (r1, r2)) ∧ Aside0 (kq ≤ k) ∧ Aside0 (Below w.heap.size w w'))
 case atStart => exact ⟨(0), zQx5a12_, H', ⟨Nat.le_refl _⟩, ⟨zQx5a2_⟩⟩
 case round =>
  clear H'
  try clear c1
  obtain ⟨x9_1, rfl, HA, HK1, HB⟩ := hrel
  cases gk with
  | zero => exact absurd HA.out (by simp [table_Check.l0])
  | succ k1 =>
   have H := HA.out
   clear HA
   simp only [table_Check.l0] at H
   by_cases c2 : x9_1 < (l0.length : Int)
   rotate_left
   ·
    rw [if_neg c2] at H
    have c2b0 : decide (x9_1 < (l0.length : Int)) = false := decide_eq_false c2
    clear c2
    simp only [Option.some.injEq, Prod.mk.injEq] at H
    obtain ⟨rfl, rfl⟩ := H
    go_wp2
    go_ret2
    exact ⟨zQx5a6_, zQx5a2_⟩
   rw [if_pos c2] at H
   have c2b0 : decide (x9_1 < (l0.length : Int)) = true := decide_eq_true c2
   clear c2
   have c3 : 0 ≤ x9_1 := znQx5_
   rw [if_pos c3] at H
   have c3b0 : decide (0 ≤ x9_1) = true := decide_eq_true c3
   clear c3
   have c4 : x9_1 < (l0.length : Int) := znQx5_
   rw [if_pos c4] at H
   have c4b0 : decide (x9_1 < (l0.length : Int)) = true := decide_eq_true c4
   clear c4
   have c5b0 := eq_true (of_decide_eq_true zQx5a11_ : 0 ≤ x9_1)
   have c6 : x9_1 ≤ (l0.length : Int) := znQx5_
   rw [if_pos c6] at H
   have c6b0 := eq_true c6
   have c6b1 : decide (x9_1 ≤ (l0.length : Int)) = true := decide_eq_true c6
   clear c6
   obtain ⟨y129, hy129⟩ : ∃ y_ : List (S23), y_ = (l0.take (x9_1 : Int).toNat) := ⟨_, rfl⟩
   replace H : ((table_next.f k1 y129 ((rd_T23 l0 x9_1).f0) ((rd_T23 l0 x9_1).f1) ((rd_T23 l0 x9_1).f2) ((rd_T23 l0 x9_1).f3) ((rd_T23 l0 x9_1).f4) ((rd_T23 l0 x9_1).f5) ((rd_T23 l0 x9_1).f6) ((rd_T23 l0 x9_1).f7)).bind fun t133 => (if t133 = 0 then (table_Check.l0 k1 l0 l0 (l0.length : Int) (wrap64 (x9_1 + 1))) else (some (wrap64 (x9_1 + 1), t133)))) = some (r1, r2) := by first | (rw [hy129]; with_reducible exact H) | (have H2_ := (Option.bind_some _ _).symm.trans H; rw [hy129]; with_reducible exact H2_) | (have H2_ := (Option.bind_some _ _).symm.trans H; with_reducible exact H2_) | with_reducible exact H | (rw [hy129]; exact H) | exact H
   have Ny129 := Aside0.mk hy129
   clear hy129
   replace H := Option.bind_eq_some_iff.mp H
   obtain ⟨t133, A70, H⟩ := H
   replace H : (if t133 = 0 then (table_Check.l0 k1 l0 l0 (l0.length : Int) (wrap64 (x9_1 + 1))) else (some (wrap64 (x9_1 + 1), t133))) = some (r1, r2) := H
   have A7 := Aside0.mk A70
   clear A70
   by_cases c8 : t133 = 0
   rotate_left
   ·
    rw [if_neg c8] at H
    have c8b0 : (t133 == 0) = false := beq_eq_false_iff_ne.mpr c8
    have c8b1 : (t133 != 0) = true := bne_iff_ne.mpr c8
    simp only [Option.some.injEq, Prod.mk.injEq] at H
    obtain ⟨rfl, rfl⟩ := H
    have p127 : 0 ≤ (x9_1 : Int) := of_decide_eq_true zQx5a11_
    have q127 : x9_1 < (l0.length : Int) := of_decide_eq_true zQx5a11_
    obtain ⟨ad127, e127, hx127_0, hx127_1, hx127_2, hx127_3, hx127_4, hx127_5, hx127_6, hx127_7⟩ := at_T23 HR0.out x9_1 p127 q127
    cases e127
    replace hx127_0 := (HB.out.cell (World.block_lt_of_cell? w _ hx127_0)).trans hx127_0
    replace hx127_1 := (HB.out.cell (World.block_lt_of_cell? w _ hx127_1)).trans hx127_1
    replace hx127_2 := (HB.out.cell (World.block_lt_of_cell? w _ hx127_2)).trans hx127_2
    replace hx127_3 := (HB.out.cell (World.block_lt_of_cell? w _ hx127_3)).trans hx127_3
    replace hx127_4 := (HB.out.cell (World.block_lt_of_cell? w _ hx127_4)).trans hx127_4
    replace hx127_5 := (HB.out.cell (World.block_lt_of_cell? w _ hx127_5)).trans hx127_5
    replace hx127_6 := (HB.out.cell (World.block_lt_of_cell? w _ hx127_6)).trans hx127_6
    replace hx127_7 := (HB.out.cell (World.block_lt_of_cell? w _ hx127_7)).trans hx127_7
    replace p127 := eq_true p127
    replace q127 := eq_true q127
    try go_wp2_with (first | ((with_reducible refine gate_dst (N := 5) rfl ?_); refine box_event ?hg (N := 5) ?hd (cs := #[.string (⟨#[]⟩ : ByteArray), .int .i64 0, .int .i64 0, .int .i64 0, .int .i64 0, .int .i64 0, .int .i64 0, .bool false]) (t := 23) ?hr ?_; (case hd => rfl); (case hg => rfl); (case hr => first | (go_simp; done) | (go_simp; rfl)); intro gb128 hg w15 hbox hb; have n0_ := Aside0.mk (below_step zQx5a2_ hb); have n1_ := Aside0.mk (hbox); have n2_ := Aside0.mk ((by rw [hg]; exact (below_size zQx5a2_) : w.heap.size ≤ gb128)); have n3_ := Aside0.mk ((by rw [hg]; exact (below_size zQx5a2_) : w.heap.size ≤ gb128)); clear HB; have HB := n0_; have BK128 := n1_; have GW128 := n2_; have GE128 := n3_; clear n0_ n1_ n2_ n3_; clear hb hbox hg; have hcz16_0 : w15.cell? ⟨gb128, 0, none⟩ = some (.string (⟨#[]⟩ : ByteArray)) := (blk_cell BK128.out 0).trans rfl; have hcz16_1 : w15.cell? ⟨gb128, 1, none⟩ = some (.int .i64 0) := (blk_cell BK128.out 1).trans rfl; have hcz16_2 : w15.cell? ⟨gb128, 2, none⟩ = some (.int .i64 0) := (blk_cell BK128.out 2).trans rfl; have hcz16_3 : w15.cell? ⟨gb128, 3, none⟩ = some (.int .i64 0) := (blk_cell BK128.out 3).trans rfl; have hcz16_4 : w15.cell? ⟨gb128, 4, none⟩ = some (.int .i64 0) := (blk_cell BK128.out 4).trans rfl; have hcz16_5 : w15.cell? ⟨gb128, 5, none⟩ = some (.int .i64 0) := (blk_cell BK128.out 5).trans rfl; have hcz16_6 : w15.cell? ⟨gb128, 6, none⟩ = some (.int .i64 0) := (blk_cell BK128.out 6).trans rfl; have hcz16_7 : w15.cell? ⟨gb128, 7, none⟩ = some (.bool false) := (blk_cell BK128.out 7).trans rfl; have hfz16_0 := blk_frozen BK128.out 0; have hfz16_1 := blk_frozen BK128.out 1; have hfz16_2 := blk_frozen BK128.out 2; have hfz16_3 := blk_frozen BK128.out 3; have hfz16_4 := blk_frozen BK128.out 4; have hfz16_5 := blk_frozen BK128.out 5; have hfz16_6 := blk_frozen BK128.out 6; have hfz16_7 := blk_frozen BK128.out 7))
    have n0_ : Aside0 (((((((((w15.setCell ⟨gb128, 0, none⟩ (.string ((rd_T23 l0 x9_1).f0))).setCell ⟨gb128, 1, none⟩ (.int .i64 ((rd_T23 l0 x9_1).f1))).setCell ⟨gb128, 2, none⟩ (.int .i64 ((rd_T23 l0 x9_1).f2))).setCell ⟨gb128, 3, none⟩ (.int .i64 ((rd_T23 l0 x9_1).f3))).setCell ⟨gb128, 4, none⟩ (.int .i64 ((rd_T23 l0 x9_1).f4))).setCell ⟨gb128, 5, none⟩ (.int .i64 ((rd_T23 l0 x9_1).f5))).setCell ⟨gb128, 6, none⟩ (.int .i64 ((rd_T23 l0 x9_1).f6))).setCell ⟨gb128, 7, none⟩ (.bool ((rd_T23 l0 x9_1).f7))).heap[gb128]? = some (.cells #[.string ((rd_T23 l0 x9_1).f0), .int .i64 ((rd_T23 l0 x9_1).f1), .int .i64 ((rd_T23 l0 x9_1).f2), .int .i64 ((rd_T23 l0 x9_1).f3), .int .i64 ((rd_T23 l0 x9_1).f4), .int .i64 ((rd_T23 l0 x9_1).f5), .int .i64 ((rd_T23 l0 x9_1).f6), .bool ((rd_T23 l0 x9_1).f7)] 23 (0, 0))) := ⟨zQx5a0_⟩
    have n1_ : Aside0 (Below w.heap.size w ((((((((w15.setCell ⟨gb128, 0, none⟩ (.string ((rd_T23 l0 x9_1).f0))).setCell ⟨gb128, 1, none⟩ (.int .i64 ((rd_T23 l0 x9_1).f1))).setCell ⟨gb128, 2, none⟩ (.int .i64 ((rd_T23 l0 x9_1).f2))).setCell ⟨gb128, 3, none⟩ (.int .i64 ((rd_T23 l0 x9_1).f3))).setCell ⟨gb128, 4, none⟩ (.int .i64 ((rd_T23 l0 x9_1).f4))).setCell ⟨gb128, 5, none⟩ (.int .i64 ((rd_T23 l0 x9_1).f5))).setCell ⟨gb128, 6, none⟩ (.int .i64 ((rd_T23 l0 x9_1).f6))).setCell ⟨gb128, 7, none⟩ (.bool ((rd_T23 l0 x9_1).f7)))) := ⟨zQx5a5_⟩
    (try clear BK128)
    (try clear HB)
    generalize ((((((((w15.setCell ⟨gb128, 0, none⟩ (.string ((rd_T23 l0 x9_1).f0))).setCell ⟨gb128, 1, none⟩ (.int .i64 ((rd_T23 l0 x9_1).f1))).setCell ⟨gb128, 2, none⟩ (.int .i64 ((rd_T23 l0 x9_1).f2))).setCell ⟨gb128, 3, none⟩ (.int .i64 ((rd_T23 l0 x9_1).f3))).setCell ⟨gb128, 4, none⟩ (.int .i64 ((rd_T23 l0 x9_1).f4))).setCell ⟨gb128, 5, none⟩ (.int .i64 ((rd_T23 l0 x9_1).f5))).setCell ⟨gb128, 6, none⟩ (.int .i64 ((rd_T23 l0 x9_1).f6))).setCell ⟨gb128, 7, none⟩ (.bool ((rd_T23 l0 x9_1).f7))) = w17 at n0_ n1_ ⊢
    have BK128 := n0_
    have HB := n1_
    clear n0_ n1_
    have n0_ := Aside0.mk (blk_drew BK128.out)
    have n1_ := Aside0.mk (below_drew1 HB.out)
    clear BK128
    clear HB
    have BK128 := n0_
    have HB := n1_
    clear n0_ n1_
    have q19 : (x9_1 : Int) ≤ ((l0.length : Int) : Int) := of_decide_eq_true zQx5a11_
    obtain ⟨i019, hi019, _, hsz19, _⟩ := info_parts info23
    have hroom19 : l0.length ≤ c0 := HC0.out
    have hC19 : Kd.C k23 _ (some ad127) l0.length l0 := HR0.out
    have hcut19 := cut_to (P := Tryz.prog) 45 23 .i64 Tryz.underlying45 hi019 (some ad127) l0.length c0 x9_1 (of_decide_eq_true zQx5a11_) q19 hroom19
    have hr19 := Kd.C_take (m := (x9_1 : Int).toNat) hC19 (by omega)
    have hy19 : y129.length = (x9_1 : Int).toNat := (by rw [Ny129.out, List.length_take]; omega)
    rw [← Ny129.out] at hr19
    rw [← hy19] at hcut19
    have HR132 := Aside0.mk hr19
    have HC132 := Aside0.mk (show y129.length ≤ c0 from by omega)
    clear hr19 hC19 hroom19 hi019 hsz19
    have KY19 := Aside0.mk hy19
    clear hy19
    replace q19 := eq_true q19
    refine start_ (n := 6) (S := fun w' => w'.cell? ⟨gb128, 0, none⟩ = some (.string ((rd_T23 l0 x9_1).f0)) ∧ w'.cell? ⟨gb128, 1, none⟩ = some (.int .i64 ((rd_T23 l0 x9_1).f1)) ∧ w'.cell? ⟨gb128, 2, none⟩ = some (.int .i64 ((rd_T23 l0 x9_1).f2)) ∧ w'.cell? ⟨gb128, 3, none⟩ = some (.int .i64 ((rd_T23 l0 x9_1).f3)) ∧ w'.cell? ⟨gb128, 4, none⟩ = some (.int .i64 ((rd_T23 l0 x9_1).f4)) ∧ w'.cell? ⟨gb128, 5, none⟩ = some (.int .i64 ((rd_T23 l0 x9_1).f5)) ∧ w'.cell? ⟨gb128, 6, none⟩ = some (.int .i64 ((rd_T23 l0 x9_1).f6)) ∧ w'.cell? ⟨gb128, 7, none⟩ = some (.bool ((rd_T23 l0 x9_1).f7))) (ds := []) #[false, false, false, false, false, false] (by kernel_rfl) rfl rfl ⟨(blk_cell BK128.out 0).trans rfl, (blk_cell BK128.out 1).trans rfl, (blk_cell BK128.out 2).trans rfl, (blk_cell BK128.out 3).trans rfl, (blk_cell BK128.out 4).trans rfl, (blk_cell BK128.out 5).trans rfl, (blk_cell BK128.out 6).trans rfl, (blk_cell BK128.out 7).trans rfl⟩ (fun hHeld => ?_)
    generalize w17.drew = w18 at BK128 HB HR132 hHeld ⊢
    refine pure_ (i := 0) (N := some 14) (v := ?_) (a' := ?_) #[true, false, false, false, false, false] rfl rfl (by kernel_rfl) (fun _ _ _ h => h) (Or.inl ⟨by rfl, ?_⟩) ?_ ?_
    rotate_left
    ·
     intro w'
     go_simp
     with_reducible rfl
    rotate_left
    ·
     simp only [Act.put, List.setIfInBounds_toArray, List.set_cons_zero, List.set_cons_succ, i64_w, i32_w]
     rfl
    refine pure_ (i := 1) (N := some 15) (v := ?_) (a' := ?_) #[true, true, false, false, false, false] rfl rfl (by kernel_rfl) (fun _ _ _ h => h) (Or.inl ⟨by rfl, ?_⟩) ?_ ?_
    rotate_left
    ·
     intro w'
     go_simp
     with_reducible rfl
    rotate_left
    ·
     simp only [Act.put, List.setIfInBounds_toArray, List.set_cons_zero, List.set_cons_succ, i64_w, i32_w]
     rfl
    refine pure_ (i := 2) (N := some 16) (v := ?_) (a' := ?_) #[true, true, true, false, false, false] rfl rfl (by kernel_rfl) (fun _ _ _ h => h) (Or.inl ⟨by rfl, ?_⟩) ?_ ?_
    rotate_left
    ·
     intro w'
     go_simp
     with_reducible rfl
    rotate_left
    ·
     simp only [Act.put, List.setIfInBounds_toArray, List.set_cons_zero, List.set_cons_succ, i64_w, i32_w]
     rfl
    refine take_ (i := 3) (N := some 17) (v := ?_) (a' := ?_) #[true, true, true, true, false, false] rfl rfl (by kernel_rfl) (fun _ _ _ h => h) (Or.inl ⟨by rfl, ?_⟩) hHeld ?_ ?_
    rotate_left
    ·
     rintro w' ⟨s0, s1, s2, s3, s4, s5, s6, s7⟩
     go_simp
     with_reducible rfl
    rotate_left
    ·
     simp only [Act.put, List.setIfInBounds_toArray, List.set_cons_zero, List.set_cons_succ, i64_w, i32_w]
     rfl
    refine one_ (i := 4) (N := some 18) #[true, true, true, true, true, false] rfl rfl (by kernel_rfl) (by decide) (fun K hK => ?_)
    refine goes_ Tryz.func22 (by kernel_rfl) rfl #[.slice (some ad127) y129.length c0, .agg #[.string ((rd_T23 l0 x9_1).f0), .int .i64 ((rd_T23 l0 x9_1).f1), .int .i64 ((rd_T23 l0 x9_1).f2), .int .i64 ((rd_T23 l0 x9_1).f3), .int .i64 ((rd_T23 l0 x9_1).f4), .int .i64 ((rd_T23 l0 x9_1).f5), .int .i64 ((rd_T23 l0 x9_1).f6), .bool ((rd_T23 l0 x9_1).f7)]] (by rfl) rfl rfl zQx5a8_ ?_
    with_reducible refine (table_next.calls k1 _ _ y129 ((rd_T23 l0 x9_1).f0) ((rd_T23 l0 x9_1).f1) ((rd_T23 l0 x9_1).f2) ((rd_T23 l0 x9_1).f3) ((rd_T23 l0 x9_1).f4) ((rd_T23 l0 x9_1).f5) ((rd_T23 l0 x9_1).f6) ((rd_T23 l0 x9_1).f7) t133 _ ?side1 ?side2 (Val.Laid.below hLd_ zQx5a5_) A7.out).mono ?_
    (case side1 => repeat (first | exact (Kd.C_below HR132.out HB.out) | (with_reducible refine Kd.C_alloc ?_ _) | (with_reducible refine Kd.C_drewN ?_ _) | (with_reducible refine Kd.C_drew ?_)))
    (case side2 => exact HC132.out)
    rintro e w20 ⟨rfl, hb⟩
    refine ⟨_, rfl, ?_⟩
    have n0_ := Aside0.mk (blk_below (g := gb128) (o := .cells #[.string ((rd_T23 l0 x9_1).f0), .int .i64 ((rd_T23 l0 x9_1).f1), .int .i64 ((rd_T23 l0 x9_1).f2), .int .i64 ((rd_T23 l0 x9_1).f3), .int .i64 ((rd_T23 l0 x9_1).f4), .int .i64 ((rd_T23 l0 x9_1).f5), .int .i64 ((rd_T23 l0 x9_1).f6), .bool ((rd_T23 l0 x9_1).f7)] 23 (0, 0)) zQx5a13_ hb)
    have n1_ := Aside0.mk (below_step zQx5a5_ hb)
    clear BK128
    clear HB
    have BK128 := n0_
    have HB := n1_
    clear n0_ n1_
    (try clear hb)
    (try clear hb2)
    (try clear hk)
    (try clear hi)
    refine hK.out _ _ ⟨(blk_cell BK128.out 0).trans rfl, (blk_cell BK128.out 1).trans rfl, (blk_cell BK128.out 2).trans rfl, (blk_cell BK128.out 3).trans rfl, (blk_cell BK128.out 4).trans rfl, (blk_cell BK128.out 5).trans rfl, (blk_cell BK128.out 6).trans rfl, (blk_cell BK128.out 7).trans rfl⟩ (fun hHeld => ?_)
    clear hK K
    refine norm_ (a' := ?_) ?_ ?_
    rotate_left
    ·
     show Act.put _ (some 18) _ = _
     simp only [Act.put, List.setIfInBounds_toArray, List.set_cons_zero, List.set_cons_succ, i64_w, i32_w]
     rfl
    refine pure_ (i := 5) (N := some 6) (v := ?_) (a' := ?_) #[true, true, true, true, true, true] rfl rfl (by kernel_rfl) (fun _ _ _ h => h) (Or.inl ⟨by rfl, ?_⟩) ?_ ?_
    rotate_left
    ·
     intro w'
     go_simp
     with_reducible rfl
    rotate_left
    ·
     simp only [Act.put, List.setIfInBounds_toArray, List.set_cons_zero, List.set_cons_succ, i64_w, i32_w]
     rfl
    refine done_ (by kernel_rfl) ?_
    try go_wp2
    go_ret2
    exact ⟨zQx5a6_, zQx5a5_⟩
   rw [if_pos c8] at H
   have c8b0 : (t133 == 0) = true := beq_iff_eq.mpr c8
   have c8b1 : (t133 != 0) = false := bne_eq_false_iff_eq.mpr c8
   clear c8
   have H' := Aside0.mk H
   clear H
   have p127 : 0 ≤ (x9_1 : Int) := of_decide_eq_true zQx5a11_
   have q127 : x9_1 < (l0.length : Int) := of_decide_eq_true zQx5a11_
   obtain ⟨ad127, e127, hx127_0, hx127_1, hx127_2, hx127_3, hx127_4, hx127_5, hx127_6, hx127_7⟩ := at_T23 HR0.out x9_1 p127 q127
   cases e127
   replace hx127_0 := (HB.out.cell (World.block_lt_of_cell? w _ hx127_0)).trans hx127_0
   replace hx127_1 := (HB.out.cell (World.block_lt_of_cell? w _ hx127_1)).trans hx127_1
   replace hx127_2 := (HB.out.cell (World.block_lt_of_cell? w _ hx127_2)).trans hx127_2
   replace hx127_3 := (HB.out.cell (World.block_lt_of_cell? w _ hx127_3)).trans hx127_3
   replace hx127_4 := (HB.out.cell (World.block_lt_of_cell? w _ hx127_4)).trans hx127_4
   replace hx127_5 := (HB.out.cell (World.block_lt_of_cell? w _ hx127_5)).trans hx127_5
   replace hx127_6 := (HB.out.cell (World.block_lt_of_cell? w _ hx127_6)).trans hx127_6
   replace hx127_7 := (HB.out.cell (World.block_lt_of_cell? w _ hx127_7)).trans hx127_7
   replace p127 := eq_true p127
   replace q127 := eq_true q127
   try go_wp2_with (first | ((with_reducible refine gate_dst (N := 5) rfl ?_); refine box_event ?hg (N := 5) ?hd (cs := #[.string (⟨#[]⟩ : ByteArray), .int .i64 0, .int .i64 0, .int .i64 0, .int .i64 0, .int .i64 0, .int .i64 0, .bool false]) (t := 23) ?hr ?_; (case hd => rfl); (case hg => rfl); (case hr => first | (go_simp; done) | (go_simp; rfl)); intro gb128 hg w9 hbox hb; have n0_ := Aside0.mk (below_step zQx5a2_ hb); have n1_ := Aside0.mk (hbox); have n2_ := Aside0.mk ((by rw [hg]; exact (below_size zQx5a2_) : w.heap.size ≤ gb128)); have n3_ := Aside0.mk ((by rw [hg]; exact (below_size zQx5a2_) : w.heap.size ≤ gb128)); clear HB; have HB := n0_; have BK128 := n1_; have GW128 := n2_; have GE128 := n3_; clear n0_ n1_ n2_ n3_; clear hb hbox hg; have hcz10_0 : w9.cell? ⟨gb128, 0, none⟩ = some (.string (⟨#[]⟩ : ByteArray)) := (blk_cell BK128.out 0).trans rfl; have hcz10_1 : w9.cell? ⟨gb128, 1, none⟩ = some (.int .i64 0) := (blk_cell BK128.out 1).trans rfl; have hcz10_2 : w9.cell? ⟨gb128, 2, none⟩ = some (.int .i64 0) := (blk_cell BK128.out 2).trans rfl; have hcz10_3 : w9.cell? ⟨gb128, 3, none⟩ = some (.int .i64 0) := (blk_cell BK128.out 3).trans rfl; have hcz10_4 : w9.cell? ⟨gb128, 4, none⟩ = some (.int .i64 0) := (blk_cell BK128.out 4).trans rfl; have hcz10_5 : w9.cell? ⟨gb128, 5, none⟩ = some (.int .i64 0) := (blk_cell BK128.out 5).trans rfl; have hcz10_6 : w9.cell? ⟨gb128, 6, none⟩ = some (.int .i64 0) := (blk_cell BK128.out 6).trans rfl; have hcz10_7 : w9.cell? ⟨gb128, 7, none⟩ = some (.bool false) := (blk_cell BK128.out 7).trans rfl; have hfz10_0 := blk_frozen BK128.out 0; have hfz10_1 := blk_frozen BK128.out 1; have hfz10_2 := blk_frozen BK128.out 2; have hfz10_3 := blk_frozen BK128.out 3; have hfz10_4 := blk_frozen BK128.out 4; have hfz10_5 := blk_frozen BK128.out 5; have hfz10_6 := blk_frozen BK128.out 6; have hfz10_7 := blk_frozen BK128.out 7))
   have n0_ : Aside0 (((((((((w9.setCell ⟨gb128, 0, none⟩ (.string ((rd_T23 l0 x9_1).f0))).setCell ⟨gb128, 1, none⟩ (.int .i64 ((rd_T23 l0 x9_1).f1))).setCell ⟨gb128, 2, none⟩ (.int .i64 ((rd_T23 l0 x9_1).f2))).setCell ⟨gb128, 3, none⟩ (.int .i64 ((rd_T23 l0 x9_1).f3))).setCell ⟨gb128, 4, none⟩ (.int .i64 ((rd_T23 l0 x9_1).f4))).setCell ⟨gb128, 5, none⟩ (.int .i64 ((rd_T23 l0 x9_1).f5))).setCell ⟨gb128, 6, none⟩ (.int .i64 ((rd_T23 l0 x9_1).f6))).setCell ⟨gb128, 7, none⟩ (.bool ((rd_T23 l0 x9_1).f7))).heap[gb128]? = some (.cells #[.string ((rd_T23 l0 x9_1).f0), .int .i64 ((rd_T23 l0 x9_1).f1), .int .i64 ((rd_T23 l0 x9_1).f2), .int .i64 ((rd_T23 l0 x9_1).f3), .int .i64 ((rd_T23 l0 x9_1).f4), .int .i64 ((rd_T23 l0 x9_1).f5), .int .i64 ((rd_T23 l0 x9_1).f6), .bool ((rd_T23 l0 x9_1).f7)] 23 (0, 0))) := ⟨zQx5a0_⟩
   have n1_ : Aside0 (Below w.heap.size w ((((((((w9.setCell ⟨gb128, 0, none⟩ (.string ((rd_T23 l0 x9_1).f0))).setCell ⟨gb128, 1, none⟩ (.int .i64 ((rd_T23 l0 x9_1).f1))).setCell ⟨gb128, 2, none⟩ (.int .i64 ((rd_T23 l0 x9_1).f2))).setCell ⟨gb128, 3, none⟩ (.int .i64 ((rd_T23 l0 x9_1).f3))).setCell ⟨gb128, 4, none⟩ (.int .i64 ((rd_T23 l0 x9_1).f4))).setCell ⟨gb128, 5, none⟩ (.int .i64 ((rd_T23 l0 x9_1).f5))).setCell ⟨gb128, 6, none⟩ (.int .i64 ((rd_T23 l0 x9_1).f6))).setCell ⟨gb128, 7, none⟩ (.bool ((rd_T23 l0 x9_1).f7)))) := ⟨zQx5a5_⟩
   (try clear BK128)
   (try clear HB)
   generalize ((((((((w9.setCell ⟨gb128, 0, none⟩ (.string ((rd_T23 l0 x9_1).f0))).setCell ⟨gb128, 1, none⟩ (.int .i64 ((rd_T23 l0 x9_1).f1))).setCell ⟨gb128, 2, none⟩ (.int .i64 ((rd_T23 l0 x9_1).f2))).setCell ⟨gb128, 3, none⟩ (.int .i64 ((rd_T23 l0 x9_1).f3))).setCell ⟨gb128, 4, none⟩ (.int .i64 ((rd_T23 l0 x9_1).f4))).setCell ⟨gb128, 5, none⟩ (.int .i64 ((rd_T23 l0 x9_1).f5))).setCell ⟨gb128, 6, none⟩ (.int .i64 ((rd_T23 l0 x9_1).f6))).setCell ⟨gb128, 7, none⟩ (.bool ((rd_T23 l0 x9_1).f7))) = w11 at n0_ n1_ ⊢
   have BK128 := n0_
   have HB := n1_
   clear n0_ n1_
   have n0_ := Aside0.mk (blk_drew BK128.out)
   have n1_ := Aside0.mk (below_drew1 HB.out)
   clear BK128
   clear HB
   have BK128 := n0_
   have HB := n1_
   clear n0_ n1_
   have q13 : (x9_1 : Int) ≤ ((l0.length : Int) : Int) := of_decide_eq_true zQx5a11_
   obtain ⟨i013, hi013, _, hsz13, _⟩ := info_parts info23
   have hroom13 : l0.length ≤ c0 := HC0.out
   have hC13 : Kd.C k23 _ (some ad127) l0.length l0 := HR0.out
   have hcut13 := cut_to (P := Tryz.prog) 45 23 .i64 Tryz.underlying45 hi013 (some ad127) l0.length c0 x9_1 (of_decide_eq_true zQx5a11_) q13 hroom13
   have hr13 := Kd.C_take (m := (x9_1 : Int).toNat) hC13 (by omega)
   have hy13 : y129.length = (x9_1 : Int).toNat := (by rw [Ny129.out, List.length_take]; omega)
   rw [← Ny129.out] at hr13
   rw [← hy13] at hcut13
   have HR132 := Aside0.mk hr13
   have HC132 := Aside0.mk (show y129.length ≤ c0 from by omega)
   clear hr13 hC13 hroom13 hi013 hsz13
   have KY13 := Aside0.mk hy13
   clear hy13
   replace q13 := eq_true q13
   refine start_ (n := 6) (S := fun w' => w'.cell? ⟨gb128, 0, none⟩ = some (.string ((rd_T23 l0 x9_1).f0)) ∧ w'.cell? ⟨gb128, 1, none⟩ = some (.int .i64 ((rd_T23 l0 x9_1).f1)) ∧ w'.cell? ⟨gb128, 2, none⟩ = some (.int .i64 ((rd_T23 l0 x9_1).f2)) ∧ w'.cell? ⟨gb128, 3, none⟩ = some (.int .i64 ((rd_T23 l0 x9_1).f3)) ∧ w'.cell? ⟨gb128, 4, none⟩ = some (.int .i64 ((rd_T23 l0 x9_1).f4)) ∧ w'.cell? ⟨gb128, 5, none⟩ = some (.int .i64 ((rd_T23 l0 x9_1).f5)) ∧ w'.cell? ⟨gb128, 6, none⟩ = some (.int .i64 ((rd_T23 l0 x9_1).f6)) ∧ w'.cell? ⟨gb128, 7, none⟩ = some (.bool ((rd_T23 l0 x9_1).f7))) (ds := []) #[false, false, false, false, false, false] (by kernel_rfl) rfl rfl ⟨(blk_cell BK128.out 0).trans rfl, (blk_cell BK128.out 1).trans rfl, (blk_cell BK128.out 2).trans rfl, (blk_cell BK128.out 3).trans rfl, (blk_cell BK128.out 4).trans rfl, (blk_cell BK128.out 5).trans rfl, (blk_cell BK128.out 6).trans rfl, (blk_cell BK128.out 7).trans rfl⟩ (fun hHeld => ?_)
   generalize w11.drew = w12 at BK128 HB HR132 hHeld ⊢
   refine pure_ (i := 0) (N := some 14) (v := ?_) (a' := ?_) #[true, false, false, false, false, false] rfl rfl (by kernel_rfl) (fun _ _ _ h => h) (Or.inl ⟨by rfl, ?_⟩) ?_ ?_
   rotate_left
   ·
    intro w'
    go_simp
    with_reducible rfl
   rotate_left
   ·
    simp only [Act.put, List.setIfInBounds_toArray, List.set_cons_zero, List.set_cons_succ, i64_w, i32_w]
    rfl
   refine pure_ (i := 1) (N := some 15) (v := ?_) (a' := ?_) #[true, true, false, false, false, false] rfl rfl (by kernel_rfl) (fun _ _ _ h => h) (Or.inl ⟨by rfl, ?_⟩) ?_ ?_
   rotate_left
   ·
    intro w'
    go_simp
    with_reducible rfl
   rotate_left
   ·
    simp only [Act.put, List.setIfInBounds_toArray, List.set_cons_zero, List.set_cons_succ, i64_w, i32_w]
    rfl
   refine pure_ (i := 2) (N := some 16) (v := ?_) (a' := ?_) #[true, true, true, false, false, false] rfl rfl (by kernel_rfl) (fun _ _ _ h => h) (Or.inl ⟨by rfl, ?_⟩) ?_ ?_
   rotate_left
   ·
    intro w'
    go_simp
    with_reducible rfl
   rotate_left
   ·
    simp only [Act.put, List.setIfInBounds_toArray, List.set_cons_zero, List.set_cons_succ, i64_w, i32_w]
    rfl
   refine take_ (i := 3) (N := some 17) (v := ?_) (a' := ?_) #[true, true, true, true, false, false] rfl rfl (by kernel_rfl) (fun _ _ _ h => h) (Or.inl ⟨by rfl, ?_⟩) hHeld ?_ ?_
   rotate_left
   ·
    rintro w' ⟨s0, s1, s2, s3, s4, s5, s6, s7⟩
    go_simp
    with_reducible rfl
   rotate_left
   ·
    simp only [Act.put, List.setIfInBounds_toArray, List.set_cons_zero, List.set_cons_succ, i64_w, i32_w]
    rfl
   refine one_ (i := 4) (N := some 18) #[true, true, true, true, true, false] rfl rfl (by kernel_rfl) (by decide) (fun K hK => ?_)
   refine goes_ Tryz.func22 (by kernel_rfl) rfl #[.slice (some ad127) y129.length c0, .agg #[.string ((rd_T23 l0 x9_1).f0), .int .i64 ((rd_T23 l0 x9_1).f1), .int .i64 ((rd_T23 l0 x9_1).f2), .int .i64 ((rd_T23 l0 x9_1).f3), .int .i64 ((rd_T23 l0 x9_1).f4), .int .i64 ((rd_T23 l0 x9_1).f5), .int .i64 ((rd_T23 l0 x9_1).f6), .bool ((rd_T23 l0 x9_1).f7)]] (by rfl) rfl rfl zQx5a8_ ?_
   with_reducible refine (table_next.calls k1 _ _ y129 ((rd_T23 l0 x9_1).f0) ((rd_T23 l0 x9_1).f1) ((rd_T23 l0 x9_1).f2) ((rd_T23 l0 x9_1).f3) ((rd_T23 l0 x9_1).f4) ((rd_T23 l0 x9_1).f5) ((rd_T23 l0 x9_1).f6) ((rd_T23 l0 x9_1).f7) t133 _ ?side1 ?side2 (Val.Laid.below hLd_ zQx5a5_) A7.out).mono ?_
   (case side1 => repeat (first | exact (Kd.C_below HR132.out HB.out) | (with_reducible refine Kd.C_alloc ?_ _) | (with_reducible refine Kd.C_drewN ?_ _) | (with_reducible refine Kd.C_drew ?_)))
   (case side2 => exact HC132.out)
   rintro e w14 ⟨rfl, hb⟩
   refine ⟨_, rfl, ?_⟩
   have n0_ := Aside0.mk (blk_below (g := gb128) (o := .cells #[.string ((rd_T23 l0 x9_1).f0), .int .i64 ((rd_T23 l0 x9_1).f1), .int .i64 ((rd_T23 l0 x9_1).f2), .int .i64 ((rd_T23 l0 x9_1).f3), .int .i64 ((rd_T23 l0 x9_1).f4), .int .i64 ((rd_T23 l0 x9_1).f5), .int .i64 ((rd_T23 l0 x9_1).f6), .bool ((rd_T23 l0 x9_1).f7)] 23 (0, 0)) zQx5a13_ hb)
   have n1_ := Aside0.mk (below_step zQx5a5_ hb)
   clear BK128
   clear HB
   have BK128 := n0_
   have HB := n1_
   clear n0_ n1_
   (try clear hb)
   (try clear hb2)
   (try clear hk)
   (try clear hi)
   refine hK.out _ _ ⟨(blk_cell BK128.out 0).trans rfl, (blk_cell BK128.out 1).trans rfl, (blk_cell BK128.out 2).trans rfl, (blk_cell BK128.out 3).trans rfl, (blk_cell BK128.out 4).trans rfl, (blk_cell BK128.out 5).trans rfl, (blk_cell BK128.out 6).trans rfl, (blk_cell BK128.out 7).trans rfl⟩ (fun hHeld => ?_)
   clear hK K
   refine norm_ (a' := ?_) ?_ ?_
   rotate_left
   ·
    show Act.put _ (some 18) _ = _
    simp only [Act.put, List.setIfInBounds_toArray, List.set_cons_zero, List.set_cons_succ, i64_w, i32_w]
    rfl
   refine pure_ (i := 5) (N := some 6) (v := ?_) (a' := ?_) #[true, true, true, true, true, true] rfl rfl (by kernel_rfl) (fun _ _ _ h => h) (Or.inl ⟨by rfl, ?_⟩) ?_ ?_
   rotate_left
   ·
    intro w'
    go_simp
    with_reducible rfl
   rotate_left
   ·
    simp only [Act.put, List.setIfInBounds_toArray, List.set_cons_zero, List.set_cons_succ, i64_w, i32_w]
    rfl
   refine done_ (by kernel_rfl) ?_
   try go_wp2
   go_roundg k1
   case measure => have := HK1.out; omega
   case rel => exact ⟨(wrap64 (x9_1 + 1)), zQx5a12_, H', ⟨by have := HK1.out; omega⟩, ⟨zQx5a5_⟩⟩
-- NOT PRINTED: function 5 (drift_New)
def basculeref09_Bytes.f (a0 : Int) : Option (ByteArray) := if a0 < 128 then (some (strOfNums (([(a0) % 256] : List Int)))) else (if a0 < 2048 then (some (strOfNums (([(wrap64 (192 + (wrap64 (Int.tdiv a0 64)))) % 256, (wrap64 (128 + (Int.tmod a0 64))) % 256] : List Int)))) else (if a0 < 65536 then (some (strOfNums (([(wrap64 (224 + (wrap64 (Int.tdiv a0 4096)))) % 256, (wrap64 (128 + (Int.tmod (wrap64 (Int.tdiv a0 64)) 64))) % 256, (wrap64 (128 + (Int.tmod a0 64))) % 256] : List Int)))) else (some (strOfNums (([(wrap64 (240 + (wrap64 (Int.tdiv a0 262144)))) % 256, (wrap64 (128 + (Int.tmod (wrap64 (Int.tdiv a0 4096)) 64))) % 256, (wrap64 (128 + (Int.tmod (wrap64 (Int.tdiv a0 64)) 64))) % 256, (wrap64 (128 + (Int.tmod a0 64))) % 256] : List Int))))))
set_option maxHeartbeats 8000000 in
set_option maxRecDepth 100000 in
theorem basculeref09_Bytes.calls (a0 : Int) (r : ByteArray) (w : World) (h : basculeref09_Bytes.f a0 = some r) :
  Calls Tryz.prog 100 #[.int .i64 a0] w fun e w' => e = .returned (.string r) ∧ Below w.heap.size w w' := by
 have HB := Aside0.mk (Below.refl w.heap.size w)
 have H : (if a0 < 128 then (some (strOfNums (([(a0) % 256] : List Int)))) else (if a0 < 2048 then (some (strOfNums (([(wrap64 (192 + (wrap64 (Int.tdiv a0 64)))) % 256, (wrap64 (128 + (Int.tmod a0 64))) % 256] : List Int)))) else (if a0 < 65536 then (some (strOfNums (([(wrap64 (224 + (wrap64 (Int.tdiv a0 4096)))) % 256, (wrap64 (128 + (Int.tmod (wrap64 (Int.tdiv a0 64)) 64))) % 256, (wrap64 (128 + (Int.tmod a0 64))) % 256] : List Int)))) else (some (strOfNums (([(wrap64 (240 + (wrap64 (Int.tdiv a0 262144)))) % 256, (wrap64 (128 + (Int.tmod (wrap64 (Int.tdiv a0 4096)) 64))) % 256, (wrap64 (128 + (Int.tmod (wrap64 (Int.tdiv a0 64)) 64))) % 256, (wrap64 (128 + (Int.tmod a0 64))) % 256] : List Int))))))) = some r := h
 clear h
 by_cases c2 : a0 < 128
 ·
  rw [if_pos c2] at H
  have c2b0 : decide (a0 < 128) = true := decide_eq_true c2
  clear c2
  obtain ⟨y134, hy134⟩ : ∃ y_ : List Int, y_ = (([(a0) % 256] : List Int)) := ⟨_, rfl⟩
  replace H : (some (strOfNums y134)) = some r := by first | (rw [hy134]; with_reducible exact H) | (have H2_ := (Option.bind_some _ _).symm.trans H; rw [hy134]; with_reducible exact H2_) | (have H2_ := (Option.bind_some _ _).symm.trans H; with_reducible exact H2_) | with_reducible exact H | (rw [hy134]; exact H) | exact H
  have Ny134 := Aside0.mk hy134
  clear hy134
  obtain rfl := Option.some.inj H
  go_enter Tryz.func100, Tryz.ntmps100
  go_wp2_with (first | ((with_reducible refine gate_dst (N := 7) rfl ?_); refine Kd.R_lit (Kd.int .u8) _ 5 ?hg (N := 7) ?hd (xs := ([(a0) % 256] : List Int)) (inner := [.int .u8 ((a0) % 256)]) (ok := fun _ => True) (okp := fun _ => True) ?hr ?hp (fun _ hk => hk) trivial (Below.refl _ _) (Nat.le_refl _) (by simp) ?_; (case hd => rfl); (case hg => rfl); (case hr => first | (go_simp; done) | (go_simp; rfl)); (case hp => exact (Reps.one (show Kd.M (Kd.int .u8) _ _ _ ((a0) % 256) [.int .u8 ((a0) % 256)] from rfl) (Reps.none _ _))); intro v135 w3 ho4 hb hg_ hnew_; clear hg_ hnew_; (first | rw [← Ny134.out] at ho4 | (simp only [Int.reduceToNat] at ho4; rw [← Ny134.out] at ho4)); have n0_ := Aside0.mk (Kd.R_lower ho4 (below_size zQx5a2_)); have n1_ := Aside0.mk (below_step zQx5a2_ hb); clear HB; have HO136 := n0_; have HB := n1_; clear n0_ n1_; clear hb ho4; have hcv5 := own_string (P := Tryz.prog) Tryz.underlying77 Tryz.underlying5 Tryz.underlying9 (Kd.own_of_R HO136.out)))
  go_ret
  exact ⟨zQx5a6_, zQx5a2_⟩
 rw [if_neg c2] at H
 have c2b0 : decide (a0 < 128) = false := decide_eq_false c2
 clear c2
 by_cases c6 : a0 < 2048
 ·
  rw [if_pos c6] at H
  have c6b0 : decide (a0 < 2048) = true := decide_eq_true c6
  clear c6
  obtain ⟨y137, hy137⟩ : ∃ y_ : List Int, y_ = (([(wrap64 (192 + (wrap64 (Int.tdiv a0 64)))) % 256, (wrap64 (128 + (Int.tmod a0 64))) % 256] : List Int)) := ⟨_, rfl⟩
  replace H : (some (strOfNums y137)) = some r := by first | (rw [hy137]; with_reducible exact H) | (have H2_ := (Option.bind_some _ _).symm.trans H; rw [hy137]; with_reducible exact H2_) | (have H2_ := (Option.bind_some _ _).symm.trans H; with_reducible exact H2_) | with_reducible exact H | (rw [hy137]; exact H) | exact H
  have Ny137 := Aside0.mk hy137
  clear hy137
  obtain rfl := Option.some.inj H
  go_enter Tryz.func100, Tryz.ntmps100
  go_wp2_with (first | ((with_reducible refine gate_dst (N := 19) rfl ?_); refine Kd.R_lit (Kd.int .u8) _ 5 ?hg (N := 19) ?hd (xs := ([(wrap64 (192 + (wrap64 (Int.tdiv a0 64)))) % 256, (wrap64 (128 + (Int.tmod a0 64))) % 256] : List Int)) (inner := [.int .u8 ((wrap64 (192 + (wrap64 (Int.tdiv a0 64)))) % 256), .int .u8 ((wrap64 (128 + (Int.tmod a0 64))) % 256)]) (ok := fun _ => True) (okp := fun _ => True) ?hr ?hp (fun _ hk => hk) trivial (Below.refl _ _) (Nat.le_refl _) (by simp) ?_; (case hd => rfl); (case hg => rfl); (case hr => first | (go_simp; done) | (go_simp; rfl)); (case hp => exact (Reps.one (show Kd.M (Kd.int .u8) _ _ _ ((wrap64 (192 + (wrap64 (Int.tdiv a0 64)))) % 256) [.int .u8 ((wrap64 (192 + (wrap64 (Int.tdiv a0 64)))) % 256)] from rfl) (Reps.one (show Kd.M (Kd.int .u8) _ _ _ ((wrap64 (128 + (Int.tmod a0 64))) % 256) [.int .u8 ((wrap64 (128 + (Int.tmod a0 64))) % 256)] from rfl) (Reps.none _ _)))); intro v138 w7 ho8 hb hg_ hnew_; clear hg_ hnew_; (first | rw [← Ny137.out] at ho8 | (simp only [Int.reduceToNat] at ho8; rw [← Ny137.out] at ho8)); have n0_ := Aside0.mk (Kd.R_lower ho8 (below_size zQx5a2_)); have n1_ := Aside0.mk (below_step zQx5a2_ hb); clear HB; have HO139 := n0_; have HB := n1_; clear n0_ n1_; clear hb ho8; have hcv9 := own_string (P := Tryz.prog) Tryz.underlying77 Tryz.underlying5 Tryz.underlying9 (Kd.own_of_R HO139.out)))
  go_ret
  exact ⟨zQx5a6_, zQx5a2_⟩
 rw [if_neg c6] at H
 have c6b0 : decide (a0 < 2048) = false := decide_eq_false c6
 clear c6
 by_cases c10 : a0 < 65536
 ·
  rw [if_pos c10] at H
  have c10b0 : decide (a0 < 65536) = true := decide_eq_true c10
  clear c10
  obtain ⟨y140, hy140⟩ : ∃ y_ : List Int, y_ = (([(wrap64 (224 + (wrap64 (Int.tdiv a0 4096)))) % 256, (wrap64 (128 + (Int.tmod (wrap64 (Int.tdiv a0 64)) 64))) % 256, (wrap64 (128 + (Int.tmod a0 64))) % 256] : List Int)) := ⟨_, rfl⟩
  replace H : (some (strOfNums y140)) = some r := by first | (rw [hy140]; with_reducible exact H) | (have H2_ := (Option.bind_some _ _).symm.trans H; rw [hy140]; with_reducible exact H2_) | (have H2_ := (Option.bind_some _ _).symm.trans H; with_reducible exact H2_) | with_reducible exact H | (rw [hy140]; exact H) | exact H
  have Ny140 := Aside0.mk hy140
  clear hy140
  obtain rfl := Option.some.inj H
  go_enter Tryz.func100, Tryz.ntmps100
  go_wp2_with (first | ((with_reducible refine gate_dst (N := 36) rfl ?_); refine Kd.R_lit (Kd.int .u8) _ 5 ?hg (N := 36) ?hd (xs := ([(wrap64 (224 + (wrap64 (Int.tdiv a0 4096)))) % 256, (wrap64 (128 + (Int.tmod (wrap64 (Int.tdiv a0 64)) 64))) % 256, (wrap64 (128 + (Int.tmod a0 64))) % 256] : List Int)) (inner := [.int .u8 ((wrap64 (224 + (wrap64 (Int.tdiv a0 4096)))) % 256), .int .u8 ((wrap64 (128 + (Int.tmod (wrap64 (Int.tdiv a0 64)) 64))) % 256), .int .u8 ((wrap64 (128 + (Int.tmod a0 64))) % 256)]) (ok := fun _ => True) (okp := fun _ => True) ?hr ?hp (fun _ hk => hk) trivial (Below.refl _ _) (Nat.le_refl _) (by simp) ?_; (case hd => rfl); (case hg => rfl); (case hr => first | (go_simp; done) | (go_simp; rfl)); (case hp => exact (Reps.one (show Kd.M (Kd.int .u8) _ _ _ ((wrap64 (224 + (wrap64 (Int.tdiv a0 4096)))) % 256) [.int .u8 ((wrap64 (224 + (wrap64 (Int.tdiv a0 4096)))) % 256)] from rfl) (Reps.one (show Kd.M (Kd.int .u8) _ _ _ ((wrap64 (128 + (Int.tmod (wrap64 (Int.tdiv a0 64)) 64))) % 256) [.int .u8 ((wrap64 (128 + (Int.tmod (wrap64 (Int.tdiv a0 64)) 64))) % 256)] from rfl) (Reps.one (show Kd.M (Kd.int .u8) _ _ _ ((wrap64 (128 + (Int.tmod a0 64))) % 256) [.int .u8 ((wrap64 (128 + (Int.tmod a0 64))) % 256)] from rfl) (Reps.none _ _))))); intro v141 w11 ho12 hb hg_ hnew_; clear hg_ hnew_; (first | rw [← Ny140.out] at ho12 | (simp only [Int.reduceToNat] at ho12; rw [← Ny140.out] at ho12)); have n0_ := Aside0.mk (Kd.R_lower ho12 (below_size zQx5a2_)); have n1_ := Aside0.mk (below_step zQx5a2_ hb); clear HB; have HO142 := n0_; have HB := n1_; clear n0_ n1_; clear hb ho12; have hcv13 := own_string (P := Tryz.prog) Tryz.underlying77 Tryz.underlying5 Tryz.underlying9 (Kd.own_of_R HO142.out)))
  go_ret
  exact ⟨zQx5a6_, zQx5a2_⟩
 rw [if_neg c10] at H
 have c10b0 : decide (a0 < 65536) = false := decide_eq_false c10
 clear c10
 obtain ⟨y143, hy143⟩ : ∃ y_ : List Int, y_ = (([(wrap64 (240 + (wrap64 (Int.tdiv a0 262144)))) % 256, (wrap64 (128 + (Int.tmod (wrap64 (Int.tdiv a0 4096)) 64))) % 256, (wrap64 (128 + (Int.tmod (wrap64 (Int.tdiv a0 64)) 64))) % 256, (wrap64 (128 + (Int.tmod a0 64))) % 256] : List Int)) := ⟨_, rfl⟩
 replace H : (some (strOfNums y143)) = some r := by first | (rw [hy143]; with_reducible exact H) | (have H2_ := (Option.bind_some _ _).symm.trans H; rw [hy143]; with_reducible exact H2_) | (have H2_ := (Option.bind_some _ _).symm.trans H; with_reducible exact H2_) | with_reducible exact H | (rw [hy143]; exact H) | exact H
 have Ny143 := Aside0.mk hy143
 clear hy143
 obtain rfl := Option.some.inj H
 go_enter Tryz.func100, Tryz.ntmps100
 go_wp2_with (first | ((with_reducible refine gate_dst (N := 56) rfl ?_); refine Kd.R_lit (Kd.int .u8) _ 5 ?hg (N := 56) ?hd (xs := ([(wrap64 (240 + (wrap64 (Int.tdiv a0 262144)))) % 256, (wrap64 (128 + (Int.tmod (wrap64 (Int.tdiv a0 4096)) 64))) % 256, (wrap64 (128 + (Int.tmod (wrap64 (Int.tdiv a0 64)) 64))) % 256, (wrap64 (128 + (Int.tmod a0 64))) % 256] : List Int)) (inner := [.int .u8 ((wrap64 (240 + (wrap64 (Int.tdiv a0 262144)))) % 256), .int .u8 ((wrap64 (128 + (Int.tmod (wrap64 (Int.tdiv a0 4096)) 64))) % 256), .int .u8 ((wrap64 (128 + (Int.tmod (wrap64 (Int.tdiv a0 64)) 64))) % 256), .int .u8 ((wrap64 (128 + (Int.tmod a0 64))) % 256)]) (ok := fun _ => True) (okp := fun _ => True) ?hr ?hp (fun _ hk => hk) trivial (Below.refl _ _) (Nat.le_refl _) (by simp) ?_; (case hd => rfl); (case hg => rfl); (case hr => first | (go_simp; done) | (go_simp; rfl)); (case hp => exact (Reps.one (show Kd.M (Kd.int .u8) _ _ _ ((wrap64 (240 + (wrap64 (Int.tdiv a0 262144)))) % 256) [.int .u8 ((wrap64 (240 + (wrap64 (Int.tdiv a0 262144)))) % 256)] from rfl) (Reps.one (show Kd.M (Kd.int .u8) _ _ _ ((wrap64 (128 + (Int.tmod (wrap64 (Int.tdiv a0 4096)) 64))) % 256) [.int .u8 ((wrap64 (128 + (Int.tmod (wrap64 (Int.tdiv a0 4096)) 64))) % 256)] from rfl) (Reps.one (show Kd.M (Kd.int .u8) _ _ _ ((wrap64 (128 + (Int.tmod (wrap64 (Int.tdiv a0 64)) 64))) % 256) [.int .u8 ((wrap64 (128 + (Int.tmod (wrap64 (Int.tdiv a0 64)) 64))) % 256)] from rfl) (Reps.one (show Kd.M (Kd.int .u8) _ _ _ ((wrap64 (128 + (Int.tmod a0 64))) % 256) [.int .u8 ((wrap64 (128 + (Int.tmod a0 64))) % 256)] from rfl) (Reps.none _ _)))))); intro v144 w14 ho15 hb hg_ hnew_; clear hg_ hnew_; (first | rw [← Ny143.out] at ho15 | (simp only [Int.reduceToNat] at ho15; rw [← Ny143.out] at ho15)); have n0_ := Aside0.mk (Kd.R_lower ho15 (below_size zQx5a2_)); have n1_ := Aside0.mk (below_step zQx5a2_ hb); clear HB; have HO145 := n0_; have HB := n1_; clear n0_ n1_; clear hb ho15; have hcv16 := own_string (P := Tryz.prog) Tryz.underlying77 Tryz.underlying5 Tryz.underlying9 (Kd.own_of_R HO145.out)))
 go_ret
 exact ⟨zQx5a6_, zQx5a2_⟩
def basculeref09_Point.f (a0 : Int) : Option (Bool) := if a0 ≥ 1 then (if a0 ≤ 1114111 then (if a0 < 55296 then (some true) else (some (decide (a0 > 57343)))) else (some false)) else (some false)
set_option maxHeartbeats 8000000 in
set_option maxRecDepth 100000 in
theorem basculeref09_Point.calls (a0 : Int) (r : Bool) (w : World) (h : basculeref09_Point.f a0 = some r) :
  Calls Tryz.prog 108 #[.int .i64 a0] w fun e w' => e = .returned (.bool r) ∧ Drawn0 w w' := by
 have H : (if a0 ≥ 1 then (if a0 ≤ 1114111 then (if a0 < 55296 then (some true) else (some (decide (a0 > 57343)))) else (some false)) else (some false)) = some r := h
 clear h
 by_cases c2 : a0 ≥ 1
 rotate_left
 ·
  rw [if_neg c2] at H
  have c2b0 : decide (1 ≤ a0) = false := decide_eq_false c2
  clear c2
  obtain rfl := Option.some.inj H
  go_enter Tryz.func108, Tryz.ntmps108
  go_wp2
  go_ret
  exact ⟨zQx5a12_, zQx5a14_⟩
 rw [if_pos c2] at H
 have c2b0 : decide (1 ≤ a0) = true := decide_eq_true c2
 clear c2
 by_cases c3 : a0 ≤ 1114111
 rotate_left
 ·
  rw [if_neg c3] at H
  have c3b0 : decide (a0 ≤ 1114111) = false := decide_eq_false c3
  clear c3
  obtain rfl := Option.some.inj H
  go_enter Tryz.func108, Tryz.ntmps108
  go_wp2
  go_ret
  exact ⟨zQx5a12_, zQx5a14_⟩
 rw [if_pos c3] at H
 have c3b0 : decide (a0 ≤ 1114111) = true := decide_eq_true c3
 clear c3
 by_cases c4 : a0 < 55296
 ·
  rw [if_pos c4] at H
  have c4b0 : decide (a0 < 55296) = true := decide_eq_true c4
  clear c4
  obtain rfl := Option.some.inj H
  go_enter Tryz.func108, Tryz.ntmps108
  go_wp2
  go_ret
  exact ⟨zQx5a12_, zQx5a14_⟩
 rw [if_neg c4] at H
 have c4b0 : decide (a0 < 55296) = false := decide_eq_false c4
 clear c4
 obtain rfl := Option.some.inj H
 go_enter Tryz.func108, Tryz.ntmps108
 go_wp2
 go_ret
 exact ⟨zQx5a12_, zQx5a14_⟩
end Go.Proofs.YtenbkjeflancaaaGreatDoor.Q
