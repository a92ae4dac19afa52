/- What the proof of DriftWide leans on: Qx5. -/
import Derived.Test.YtenbkjeflancaaaDoorSDriftWideQx0
import Derived.Test.YtenbkjeflancaaaDoorSDriftWideTabF
import Derived.Test.YtenbkjeflancaaaDoorSDriftWideQx3
import Derived.Test.YtenbkjeflancaaaDoorSDriftWideQx4
namespace Go.Proofs.YtenbkjeflancaaaDoor.Q
open Go.RowKit Go.Proofs.YtenbkjeflancaaaDoorW.PrintWords Go.Proofs.YtenbkjeflancaaaDoorW.PrintLast Go.Proofs.YtenbkjeflancaaaDoorW.PrintMore
attribute [local go_sem] max2_int min2_int max_two min_two
set_option linter.unusedVariables false
set_option linter.unusedSimpArgs false
theorem zQx5a0_ {P_ : Prop} (h_ : P_ := by (with_reducible repeat (first | refine blk_drewN ?_ _ | refine blk_drew ?_ | refine blk_alloc ?_ _)); refine blk_put (cs := #[.string ((rd_T23 l0 x9_1).f0), .int .i64 ((rd_T23 l0 x9_1).f1), .int .i64 ((rd_T23 l0 x9_1).f2), .int .i64 ((rd_T23 l0 x9_1).f3), .int .i64 ((rd_T23 l0 x9_1).f4), .int .i64 ((rd_T23 l0 x9_1).f5), .int .i64 ((rd_T23 l0 x9_1).f6), .bool false]) ?_ 7 _ rfl; (with_reducible repeat (first | refine blk_drewN ?_ _ | refine blk_drew ?_ | refine blk_alloc ?_ _)); refine blk_put (cs := #[.string ((rd_T23 l0 x9_1).f0), .int .i64 ((rd_T23 l0 x9_1).f1), .int .i64 ((rd_T23 l0 x9_1).f2), .int .i64 ((rd_T23 l0 x9_1).f3), .int .i64 ((rd_T23 l0 x9_1).f4), .int .i64 ((rd_T23 l0 x9_1).f5), .int .i64 0, .bool false]) ?_ 6 _ rfl; (with_reducible repeat (first | refine blk_drewN ?_ _ | refine blk_drew ?_ | refine blk_alloc ?_ _)); refine blk_put (cs := #[.string ((rd_T23 l0 x9_1).f0), .int .i64 ((rd_T23 l0 x9_1).f1), .int .i64 ((rd_T23 l0 x9_1).f2), .int .i64 ((rd_T23 l0 x9_1).f3), .int .i64 ((rd_T23 l0 x9_1).f4), .int .i64 0, .int .i64 0, .bool false]) ?_ 5 _ rfl; (with_reducible repeat (first | refine blk_drewN ?_ _ | refine blk_drew ?_ | refine blk_alloc ?_ _)); refine blk_put (cs := #[.string ((rd_T23 l0 x9_1).f0), .int .i64 ((rd_T23 l0 x9_1).f1), .int .i64 ((rd_T23 l0 x9_1).f2), .int .i64 ((rd_T23 l0 x9_1).f3), .int .i64 0, .int .i64 0, .int .i64 0, .bool false]) ?_ 4 _ rfl; (with_reducible repeat (first | refine blk_drewN ?_ _ | refine blk_drew ?_ | refine blk_alloc ?_ _)); refine blk_put (cs := #[.string ((rd_T23 l0 x9_1).f0), .int .i64 ((rd_T23 l0 x9_1).f1), .int .i64 ((rd_T23 l0 x9_1).f2), .int .i64 0, .int .i64 0, .int .i64 0, .int .i64 0, .bool false]) ?_ 3 _ rfl; (with_reducible repeat (first | refine blk_drewN ?_ _ | refine blk_drew ?_ | refine blk_alloc ?_ _)); refine blk_put (cs := #[.string ((rd_T23 l0 x9_1).f0), .int .i64 ((rd_T23 l0 x9_1).f1), .int .i64 0, .int .i64 0, .int .i64 0, .int .i64 0, .int .i64 0, .bool false]) ?_ 2 _ rfl; (with_reducible repeat (first | refine blk_drewN ?_ _ | refine blk_drew ?_ | refine blk_alloc ?_ _)); refine blk_put (cs := #[.string ((rd_T23 l0 x9_1).f0), .int .i64 0, .int .i64 0, .int .i64 0, .int .i64 0, .int .i64 0, .int .i64 0, .bool false]) ?_ 1 _ rfl; (with_reducible repeat (first | refine blk_drewN ?_ _ | refine blk_drew ?_ | refine blk_alloc ?_ _)); refine blk_put (cs := #[.string (⟨#[]⟩ : ByteArray), .int .i64 0, .int .i64 0, .int .i64 0, .int .i64 0, .int .i64 0, .int .i64 0, .bool false]) ?_ 0 _ rfl; (with_reducible repeat (first | refine blk_drewN ?_ _ | refine blk_drew ?_ | refine blk_alloc ?_ _)); exact BK127.out) : P_ := h_
theorem zQx5a1_ {P_ : Prop} (h_ : P_ := by (with_reducible repeat (first | refine blk_drewN ?_ _ | refine blk_drew ?_ | refine blk_alloc ?_ _)); refine blk_put (cs := #[.string t114, .int .i64 t115, .int .i64 t116, .int .i64 t117, .int .i64 t118, .int .i64 t119, .int .i64 t120, .bool false]) ?_ 7 _ rfl; (with_reducible repeat (first | refine blk_drewN ?_ _ | refine blk_drew ?_ | refine blk_alloc ?_ _)); refine blk_put (cs := #[.string t114, .int .i64 t115, .int .i64 t116, .int .i64 t117, .int .i64 t118, .int .i64 t119, .int .i64 0, .bool false]) ?_ 6 _ rfl; (with_reducible repeat (first | refine blk_drewN ?_ _ | refine blk_drew ?_ | refine blk_alloc ?_ _)); refine blk_put (cs := #[.string t114, .int .i64 t115, .int .i64 t116, .int .i64 t117, .int .i64 t118, .int .i64 0, .int .i64 0, .bool false]) ?_ 5 _ rfl; (with_reducible repeat (first | refine blk_drewN ?_ _ | refine blk_drew ?_ | refine blk_alloc ?_ _)); refine blk_put (cs := #[.string t114, .int .i64 t115, .int .i64 t116, .int .i64 t117, .int .i64 0, .int .i64 0, .int .i64 0, .bool false]) ?_ 4 _ rfl; (with_reducible repeat (first | refine blk_drewN ?_ _ | refine blk_drew ?_ | refine blk_alloc ?_ _)); refine blk_put (cs := #[.string t114, .int .i64 t115, .int .i64 t116, .int .i64 0, .int .i64 0, .int .i64 0, .int .i64 0, .bool false]) ?_ 3 _ rfl; (with_reducible repeat (first | refine blk_drewN ?_ _ | refine blk_drew ?_ | refine blk_alloc ?_ _)); refine blk_put (cs := #[.string t114, .int .i64 t115, .int .i64 0, .int .i64 0, .int .i64 0, .int .i64 0, .int .i64 0, .bool false]) ?_ 2 _ rfl; (with_reducible repeat (first | refine blk_drewN ?_ _ | refine blk_drew ?_ | refine blk_alloc ?_ _)); refine blk_put (cs := #[.string t114, .int .i64 0, .int .i64 0, .int .i64 0, .int .i64 0, .int .i64 0, .int .i64 0, .bool false]) ?_ 1 _ rfl; (with_reducible repeat (first | refine blk_drewN ?_ _ | refine blk_drew ?_ | refine blk_alloc ?_ _)); refine blk_put (cs := #[.string (⟨#[]⟩ : ByteArray), .int .i64 0, .int .i64 0, .int .i64 0, .int .i64 0, .int .i64 0, .int .i64 0, .bool false]) ?_ 0 _ rfl; (with_reducible repeat (first | refine blk_drewN ?_ _ | refine blk_drew ?_ | refine blk_alloc ?_ _)); exact BK123.out) : P_ := h_
theorem zQx5a2_ {P_ : Prop} (h_ : P_ := by (with_reducible repeat (first | refine blk_drewN ?_ _ | refine blk_drew ?_ | refine blk_alloc ?_ _)); refine blk_far ?_ NB113_123.out _; (with_reducible repeat (first | refine blk_drewN ?_ _ | refine blk_drew ?_ | refine blk_alloc ?_ _)); refine blk_far ?_ NB113_123.out _; (with_reducible repeat (first | refine blk_drewN ?_ _ | refine blk_drew ?_ | refine blk_alloc ?_ _)); refine blk_far ?_ NB113_123.out _; (with_reducible repeat (first | refine blk_drewN ?_ _ | refine blk_drew ?_ | refine blk_alloc ?_ _)); refine blk_far ?_ NB113_123.out _; (with_reducible repeat (first | refine blk_drewN ?_ _ | refine blk_drew ?_ | refine blk_alloc ?_ _)); refine blk_far ?_ NB113_123.out _; (with_reducible repeat (first | refine blk_drewN ?_ _ | refine blk_drew ?_ | refine blk_alloc ?_ _)); refine blk_far ?_ NB113_123.out _; (with_reducible repeat (first | refine blk_drewN ?_ _ | refine blk_drew ?_ | refine blk_alloc ?_ _)); refine blk_far ?_ NB113_123.out _; (with_reducible repeat (first | refine blk_drewN ?_ _ | refine blk_drew ?_ | refine blk_alloc ?_ _)); refine blk_far ?_ NB113_123.out _; (with_reducible repeat (first | refine blk_drewN ?_ _ | refine blk_drew ?_ | refine blk_alloc ?_ _)); exact BK113.out) : P_ := h_
theorem zQx5a3_ {P_ : Prop} (h_ : P_ := by repeat (first | (with_reducible first | exact HB.out | apply below_alloc | apply pw_below_drewN | apply below_drew1) | exact HB.out)) : P_ := h_
theorem zQx5a4_ {P_ : Prop} (h_ : P_ := by repeat (first | (with_reducible first | exact HB.out | apply below_alloc | apply pw_below_drewN | apply below_drew1 | refine below_set ?_ GE113.out | refine below_set ?_ GE123.out) | exact HB.out)) : P_ := h_
theorem zQx5a5_ {P_ : Prop} (h_ : P_ := by repeat (first | (with_reducible first | exact HB.out | apply below_alloc | apply pw_below_drewN | apply below_drew1 | refine below_set ?_ GE133.out) | exact HB.out)) : P_ := h_
theorem zQx5a6_ {P_ : Prop} (h_ : P_ := by repeat (first | (with_reducible first | exact HB.out | apply below_alloc | apply pw_below_drewN | apply below_drew1 | refine below_set ?_ GE127.out) | exact HB.out)) : P_ := h_
theorem zQx5a7_ {P_ : Prop} (h_ : P_ := by (try simp only [List.map_toArray, List.map_cons, List.map_nil]); first | done | rfl | (simp only [List.length_drop, List.length_take]; rfl)) : P_ := h_
theorem zQx5a8_ {P_ : Prop} (h_ : P_ := by (with_reducible repeat (first | refine blk_drewN ?_ _ | refine blk_drew ?_ | refine blk_alloc ?_ _)); exact BK113.out) : P_ := h_
theorem zQx5a9_ {P_ : Prop} (h_ : P_ := by first | rfl | (simp [errW_none, errW_some] <;> rfl) | (simp [*, errW_none, errW_some] <;> rfl)) : P_ := h_
theorem zQx5a10_ {P_ : Prop} (h_ : P_ := by (with_reducible repeat (first | refine blk_drewN ?_ _ | refine blk_drew ?_ | refine blk_alloc ?_ _)); exact BK133.out) : P_ := h_
theorem zQx5a11_ {P_ : Prop} (h_ : P_ := by repeat (first | (with_reducible first | exact HB.out | apply below_alloc | apply pw_below_drewN | apply below_drew1 | refine below_set ?_ GE113.out) | exact HB.out)) : P_ := h_
theorem zQx5a12_ {P_ : Prop} (h_ : P_ := by (with_reducible repeat (first | refine blk_drewN ?_ _ | refine blk_drew ?_ | refine blk_alloc ?_ _)); exact BK123.out) : P_ := h_
theorem zQx5a13_ {P_ : Prop} (h_ : P_ := by first | (with_reducible assumption) | assumption) : P_ := h_
theorem zQx5a14_ {P_ : Prop} (h_ : P_ := by (with_reducible repeat (first | refine blk_drewN ?_ _ | refine blk_drew ?_ | refine blk_alloc ?_ _)); exact BK127.out) : P_ := h_
theorem zQx5a15_ {P_ : Prop} (h_ : P_ := by (with_reducible repeat (first | apply Kd.R_alloc | apply Kd.R_drewN | apply Kd.R_drew)); exact HO136.out) : P_ := h_
theorem zQx5a16_ {P_ : Prop} (h_ : P_ := by first | rfl | (simp; done) | (simp [*]; done)) : P_ := h_
theorem znQx5_ {X_ : Prop} [Decidable X_] (h_ : ¬ X_ → False := by intro c_; rw [if_neg c_] at H; exact absurd H (by simp)) : X_ := Decidable.byContradiction h_
def table_next.j0 : Nat → List (S23) → Bool → ByteArray → Int → Int → Int → Int → Int → Int → Bool → Option (Int)
 | 0, _, _, _, _, _, _, _, _, _, _ => none
 | k + 1, x0, x14, x114000, x114001, x114002, x114003, x114004, x114005, x114006, x114007 => if x14 = true then (some 210) else ((table_ranged.f k x114000 x114001 x114002 x114003 x114004 x114005 x114006 x114007).bind fun t125 => (if t125 = true then (if (x0.length : Int) ≥ 64 then (some 6) else (some 0)) else (some 220)))
def table_next.f (k : Nat) (l0 : List (S23)) (a1_0 : ByteArray) (a1_1 : Int) (a1_2 : Int) (a1_3 : Int) (a1_4 : Int) (a1_5 : Int) (a1_6 : Int) (a1_7 : Bool) : Option (Int) := (table_Find.f l0 a1_0).bind fun bt114 => (if bt114.2.2.2.2.2.2.2.2 = true then (table_next.j0 k l0 true a1_0 a1_1 a1_2 a1_3 a1_4 a1_5 a1_6 a1_7) else ((table_named.f a1_0).bind fun t124 => (table_next.j0 k l0 (!t124) a1_0 a1_1 a1_2 a1_3 a1_4 a1_5 a1_6 a1_7)))
set_option maxHeartbeats 8000000 in
set_option maxRecDepth 100000 in
theorem table_next.calls (k : Nat) (A0 : Option Addr) (c0 : Nat) (l0 : List (S23)) (a1_0 : ByteArray) (a1_1 : Int) (a1_2 : Int) (a1_3 : Int) (a1_4 : Int) (a1_5 : Int) (a1_6 : Int) (a1_7 : Bool) (r : Int) (w : World) (hr0 : Kd.C k23 w A0 l0.length l0) (hc0 : l0.length ≤ c0) (hLd_ : Val.Laid w) (h : table_next.f k l0 a1_0 a1_1 a1_2 a1_3 a1_4 a1_5 a1_6 a1_7 = some r) :
  Calls Tryd.prog 26 #[.slice A0 l0.length c0, .agg #[.string a1_0, .int .i64 a1_1, .int .i64 a1_2, .int .i64 a1_3, .int .i64 a1_4, .int .i64 a1_5, .int .i64 a1_6, .bool a1_7]] w fun e w' => e = .returned (.int .i64 r) ∧ Below w.heap.size w w' := by
 have hu23 := Tryd.underlying23
 have HR0 := Aside0.mk hr0
 have HC0 := Aside0.mk hc0
 clear hr0 hc0
 have HB := Aside0.mk (Below.refl w.heap.size w)
 have H : ((table_Find.f l0 a1_0).bind fun bt114 => (if bt114.2.2.2.2.2.2.2.2 = true then (table_next.j0 k l0 true a1_0 a1_1 a1_2 a1_3 a1_4 a1_5 a1_6 a1_7) else ((table_named.f a1_0).bind fun t124 => (table_next.j0 k l0 (!t124) a1_0 a1_1 a1_2 a1_3 a1_4 a1_5 a1_6 a1_7)))) = some r := h
 clear h
 replace H := Option.bind_eq_some_iff.mp H
 obtain ⟨⟨t114, t115, t116, t117, t118, t119, t120, t121, t122⟩, A30, H⟩ := H
 replace H : (if t122 = true then (table_next.j0 k l0 true a1_0 a1_1 a1_2 a1_3 a1_4 a1_5 a1_6 a1_7) else ((table_named.f a1_0).bind fun t124 => (table_next.j0 k l0 (!t124) a1_0 a1_1 a1_2 a1_3 a1_4 a1_5 a1_6 a1_7))) = some r := H
 have A3 := Aside0.mk A30
 clear A30
 have HC4 := Aside0.mk H
 clear H
 go_enter Tryd.func26, Tryd.ntmps26
 go_upto_region 2 with (first | ((with_reducible refine gate_dst (N := 3) rfl ?_); refine box_event ?hg (N := 3) ?hd (cs := #[.string a1_0, .int .i64 a1_1, .int .i64 a1_2, .int .i64 a1_3, .int .i64 a1_4, .int .i64 a1_5, .int .i64 a1_6, .bool a1_7]) (t := 23) ?hr ?_; (case hd => rfl); (case hg => rfl); (case hr => first | (go_simp; done) | (go_simp; rfl)); intro gb113 hg w5 hbox hb; have n0_ := Aside0.mk (below_step zQx5a3_ hb); have n1_ := Aside0.mk (hbox); have n2_ := Aside0.mk ((by rw [hg]; exact (below_size zQx5a3_) : w.heap.size ≤ gb113)); have n3_ := Aside0.mk ((by rw [hg]; exact (below_size zQx5a3_) : w.heap.size ≤ gb113)); clear HB; have HB := n0_; have BK113 := n1_; have GW113 := n2_; have GE113 := n3_; clear n0_ n1_ n2_ n3_; clear hb hbox hg; have hcz6_0 : w5.cell? ⟨gb113, 0, none⟩ = some (.string a1_0) := (blk_cell BK113.out 0).trans rfl; have hcz6_1 : w5.cell? ⟨gb113, 1, none⟩ = some (.int .i64 a1_1) := (blk_cell BK113.out 1).trans rfl; have hcz6_2 : w5.cell? ⟨gb113, 2, none⟩ = some (.int .i64 a1_2) := (blk_cell BK113.out 2).trans rfl; have hcz6_3 : w5.cell? ⟨gb113, 3, none⟩ = some (.int .i64 a1_3) := (blk_cell BK113.out 3).trans rfl; have hcz6_4 : w5.cell? ⟨gb113, 4, none⟩ = some (.int .i64 a1_4) := (blk_cell BK113.out 4).trans rfl; have hcz6_5 : w5.cell? ⟨gb113, 5, none⟩ = some (.int .i64 a1_5) := (blk_cell BK113.out 5).trans rfl; have hcz6_6 : w5.cell? ⟨gb113, 6, none⟩ = some (.int .i64 a1_6) := (blk_cell BK113.out 6).trans rfl; have hcz6_7 : w5.cell? ⟨gb113, 7, none⟩ = some (.bool a1_7) := (blk_cell BK113.out 7).trans rfl; have hfz6_0 := blk_frozen BK113.out 0; have hfz6_1 := blk_frozen BK113.out 1; have hfz6_2 := blk_frozen BK113.out 2; have hfz6_3 := blk_frozen BK113.out 3; have hfz6_4 := blk_frozen BK113.out 4; have hfz6_5 := blk_frozen BK113.out 5; have hfz6_6 := blk_frozen BK113.out 6; have hfz6_7 := blk_frozen BK113.out 7) | ((with_reducible refine gate_callee (f := 43) rfl ?_); refine goesL_ (some 11) rfl rfl Tryd.func43 (by kernel_rfl) rfl #[.slice A0 l0.length c0, .string a1_0] rfl zQx5a7_ ?_; (with_reducible refine (table_Find.calls _ _ l0 a1_0 t114 t115 t116 t117 t118 t119 t120 t121 t122 _ ?side1 ?side2 A3.out).mono ?_); (case side1 => repeat (first | exact (Kd.C_below HR0.out HB.out) | (with_reducible refine Kd.C_alloc ?_ _) | (with_reducible refine Kd.C_drewN ?_ _) | (with_reducible refine Kd.C_drew ?_))); (case side2 => exact HC0.out); rintro e w7 ⟨rfl, hb⟩; refine ⟨_, rfl, ?_⟩; have n0_ := Aside0.mk (blk_below (g := gb113) (o := .cells #[.string a1_0, .int .i64 a1_1, .int .i64 a1_2, .int .i64 a1_3, .int .i64 a1_4, .int .i64 a1_5, .int .i64 a1_6, .bool a1_7] 23 (0, 0)) zQx5a8_ hb); have n1_ := Aside0.mk (below_step zQx5a11_ hb); clear BK113; clear HB; have BK113 := n0_; have HB := n1_; clear n0_ n1_; (try clear hb); (try clear hb2); (try clear hk); (try clear hi)) | ((with_reducible refine gate_dst (N := 5) rfl ?_); refine box_event ?hg (N := 5) ?hd (cs := #[.string (⟨#[]⟩ : ByteArray), .int .i64 0, .int .i64 0, .int .i64 0, .int .i64 0, .int .i64 0, .int .i64 0, .bool false]) (t := 23) ?hr ?_; (case hd => rfl); (case hg => rfl); (case hr => first | (go_simp; done) | (go_simp; rfl)); intro gb123 hg w8 hbox hb; have n0_ := Aside0.mk (blk_below (g := gb113) (o := .cells #[.string a1_0, .int .i64 a1_1, .int .i64 a1_2, .int .i64 a1_3, .int .i64 a1_4, .int .i64 a1_5, .int .i64 a1_6, .bool a1_7] 23 (0, 0)) zQx5a8_ hb); have n1_ := Aside0.mk (below_step zQx5a11_ hb); have n2_ := Aside0.mk (hbox); have n3_ := Aside0.mk ((by rw [hg]; exact (below_size zQx5a11_) : w.heap.size ≤ gb123)); have n4_ := Aside0.mk ((by rw [hg]; exact (below_size zQx5a11_) : w.heap.size ≤ gb123)); have n5_ := Aside0.mk ((by rw [hg]; exact Nat.ne_of_lt (blk_lt (g := gb113) (o := .cells #[.string a1_0, .int .i64 a1_1, .int .i64 a1_2, .int .i64 a1_3, .int .i64 a1_4, .int .i64 a1_5, .int .i64 a1_6, .bool a1_7] 23 (0, 0)) zQx5a8_) : gb113 ≠ gb123)); have n6_ := Aside0.mk ((by rw [hg]; exact Nat.ne_of_gt (blk_lt (g := gb113) (o := .cells #[.string a1_0, .int .i64 a1_1, .int .i64 a1_2, .int .i64 a1_3, .int .i64 a1_4, .int .i64 a1_5, .int .i64 a1_6, .bool a1_7] 23 (0, 0)) zQx5a8_) : gb123 ≠ gb113)); clear BK113; clear HB; have BK113 := n0_; have HB := n1_; have BK123 := n2_; have GW123 := n3_; have GE123 := n4_; have NB113_123 := n5_; have NB123_113 := n6_; clear n0_ n1_ n2_ n3_ n4_ n5_ n6_; clear hb hbox hg; have hnb9 := NB123_113.out; have hnc9 := NB113_123.out; have hcz10_0 : w8.cell? ⟨gb123, 0, none⟩ = some (.string (⟨#[]⟩ : ByteArray)) := (blk_cell BK123.out 0).trans rfl; have hcz10_1 : w8.cell? ⟨gb123, 1, none⟩ = some (.int .i64 0) := (blk_cell BK123.out 1).trans rfl; have hcz10_2 : w8.cell? ⟨gb123, 2, none⟩ = some (.int .i64 0) := (blk_cell BK123.out 2).trans rfl; have hcz10_3 : w8.cell? ⟨gb123, 3, none⟩ = some (.int .i64 0) := (blk_cell BK123.out 3).trans rfl; have hcz10_4 : w8.cell? ⟨gb123, 4, none⟩ = some (.int .i64 0) := (blk_cell BK123.out 4).trans rfl; have hcz10_5 : w8.cell? ⟨gb123, 5, none⟩ = some (.int .i64 0) := (blk_cell BK123.out 5).trans rfl; have hcz10_6 : w8.cell? ⟨gb123, 6, none⟩ = some (.int .i64 0) := (blk_cell BK123.out 6).trans rfl; have hcz10_7 : w8.cell? ⟨gb123, 7, none⟩ = some (.bool false) := (blk_cell BK123.out 7).trans rfl; have hfz10_0 := blk_frozen BK123.out 0; have hfz10_1 := blk_frozen BK123.out 1; have hfz10_2 := blk_frozen BK123.out 2; have hfz10_3 := blk_frozen BK123.out 3; have hfz10_4 := blk_frozen BK123.out 4; have hfz10_5 := blk_frozen BK123.out 5; have hfz10_6 := blk_frozen BK123.out 6; have hfz10_7 := blk_frozen BK123.out 7))
 (try simp only [Act.put, List.setIfInBounds_toArray, List.set_cons_zero, List.set_cons_succ])
 go_cut [14] (fun v14 wc => ∃ (kq : Nat) (x14_3 : Bool), v14 = .bool x14_3 ∧ Aside0 (table_next.j0 kq l0 x14_3 a1_0 a1_1 a1_2 a1_3 a1_4 a1_5 a1_6 a1_7 = some r) ∧ Aside0 (kq ≤ k) ∧ Aside0 (wc.heap[gb113]? = some (.cells #[.string a1_0, .int .i64 a1_1, .int .i64 a1_2, .int .i64 a1_3, .int .i64 a1_4, .int .i64 a1_5, .int .i64 a1_6, .bool a1_7] 23 (0, 0))) ∧ Aside0 (wc.heap[gb123]? = some (.cells #[.string t114, .int .i64 t115, .int .i64 t116, .int .i64 t117, .int .i64 t118, .int .i64 t119, .int .i64 t120, .bool t121] 23 (0, 0))) ∧ Aside0 (Below w.heap.size w wc))
 case first =>
  have H := HC4.out
  clear HC4
  by_cases c11 : t122 = true
  ·
   subst c11
   have H1 : (table_next.j0 k l0 true a1_0 a1_1 a1_2 a1_3 a1_4 a1_5 a1_6 a1_7) = some r := by rw [if_pos rfl] at H; exact H
   clear H
   have H := H1
   clear H1
   have H' := Aside0.mk H
   clear H
   go_wp2
   go_meet
   case rel => exact ⟨_, (true), zQx5a16_, H', ⟨by first | omega | exact Nat.le_refl _⟩, ⟨zQx5a2_⟩, ⟨zQx5a1_⟩, ⟨zQx5a4_⟩⟩
  replace c11 := Bool.eq_false_iff.mpr c11
  subst c11
  have H1 : ((table_named.f a1_0).bind fun t124 => (table_next.j0 k l0 (!t124) a1_0 a1_1 a1_2 a1_3 a1_4 a1_5 a1_6 a1_7)) = some r := by rw [if_neg (show ¬ (false = true) by decide)] at H; exact H
  clear H
  have H := H1
  clear H1
  replace H := Option.bind_eq_some_iff.mp H
  obtain ⟨t124, A120, H⟩ := H
  replace H : (table_next.j0 k l0 (!t124) a1_0 a1_1 a1_2 a1_3 a1_4 a1_5 a1_6 a1_7) = some r := H
  have A12 := Aside0.mk A120
  clear A120
  have H' := Aside0.mk H
  clear H
  have hnb13 := NB113_123.out
  have hnc13 := NB123_113.out
  have hcz14_0 : w8.cell? ⟨gb113, 0, none⟩ = some (.string a1_0) := (blk_cell BK113.out 0).trans rfl
  have hcz14_1 : w8.cell? ⟨gb113, 1, none⟩ = some (.int .i64 a1_1) := (blk_cell BK113.out 1).trans rfl
  have hcz14_2 : w8.cell? ⟨gb113, 2, none⟩ = some (.int .i64 a1_2) := (blk_cell BK113.out 2).trans rfl
  have hcz14_3 : w8.cell? ⟨gb113, 3, none⟩ = some (.int .i64 a1_3) := (blk_cell BK113.out 3).trans rfl
  have hcz14_4 : w8.cell? ⟨gb113, 4, none⟩ = some (.int .i64 a1_4) := (blk_cell BK113.out 4).trans rfl
  have hcz14_5 : w8.cell? ⟨gb113, 5, none⟩ = some (.int .i64 a1_5) := (blk_cell BK113.out 5).trans rfl
  have hcz14_6 : w8.cell? ⟨gb113, 6, none⟩ = some (.int .i64 a1_6) := (blk_cell BK113.out 6).trans rfl
  have hcz14_7 : w8.cell? ⟨gb113, 7, none⟩ = some (.bool a1_7) := (blk_cell BK113.out 7).trans rfl
  have hfz14_0 := blk_frozen BK113.out 0
  have hfz14_1 := blk_frozen BK113.out 1
  have hfz14_2 := blk_frozen BK113.out 2
  have hfz14_3 := blk_frozen BK113.out 3
  have hfz14_4 := blk_frozen BK113.out 4
  have hfz14_5 := blk_frozen BK113.out 5
  have hfz14_6 := blk_frozen BK113.out 6
  have hfz14_7 := blk_frozen BK113.out 7
  go_wp2_with (first | (go_at_call 44; (with_reducible refine (table_named.calls a1_0 t124 _ (Val.Laid.below hLd_ zQx5a4_) A12.out).mono ?_); rintro e w15 ⟨rfl, hb⟩; have n0_ := Aside0.mk (blk_below (g := gb113) (o := .cells #[.string a1_0, .int .i64 a1_1, .int .i64 a1_2, .int .i64 a1_3, .int .i64 a1_4, .int .i64 a1_5, .int .i64 a1_6, .bool a1_7] 23 (0, 0)) zQx5a2_ hb); have n1_ := Aside0.mk (blk_below (g := gb123) (o := .cells #[.string t114, .int .i64 t115, .int .i64 t116, .int .i64 t117, .int .i64 t118, .int .i64 t119, .int .i64 t120, .bool t121] 23 (0, 0)) zQx5a1_ hb); have n2_ := Aside0.mk (below_step zQx5a4_ hb); clear BK113; clear BK123; clear HB; have BK113 := n0_; have BK123 := n1_; have HB := n2_; clear n0_ n1_ n2_; (try clear hb); (try clear hb2); (try clear hk); (try clear hi)))
  go_meet
  case rel => exact ⟨_, (!t124), zQx5a16_, H', ⟨by first | omega | exact Nat.le_refl _⟩, ⟨zQx5a8_⟩, ⟨zQx5a12_⟩, ⟨zQx5a4_⟩⟩
 case rest =>
  clear HC4
  try clear c1
  try clear c2
  try clear p2
  try clear c4
  try clear c9
  try clear c11
  try clear c13
  try clear hcz10_0
  try clear hcz10_1
  try clear hcz10_2
  try clear hcz10_3
  try clear hcz10_4
  try clear hcz10_5
  try clear hcz10_6
  try clear hcz10_7
  try clear hcz14_0
  try clear hcz14_1
  try clear hcz14_2
  try clear hcz14_3
  try clear hcz14_4
  try clear hcz14_5
  try clear hcz14_6
  try clear hcz14_7
  try clear hcz6_0
  try clear hcz6_1
  try clear hcz6_2
  try clear hcz6_3
  try clear hcz6_4
  try clear hcz6_5
  try clear hcz6_6
  try clear hcz6_7
  try clear hfz10_0
  try clear hfz10_1
  try clear hfz10_2
  try clear hfz10_3
  try clear hfz10_4
  try clear hfz10_5
  try clear hfz10_6
  try clear hfz10_7
  try clear hfz14_0
  try clear hfz14_1
  try clear hfz14_2
  try clear hfz14_3
  try clear hfz14_4
  try clear hfz14_5
  try clear hfz14_6
  try clear hfz14_7
  try clear hfz6_0
  try clear hfz6_1
  try clear hfz6_2
  try clear hfz6_3
  try clear hfz6_4
  try clear hfz6_5
  try clear hfz6_6
  try clear hfz6_7
  obtain ⟨kq, x14_3, rfl, HA, HJ3, BK113, BK123, HB⟩ := hcut
  cases kq with
  | zero => exact absurd HA.out (by simp [table_next.j0])
  | succ kj3 =>
   have H := HA.out
   clear HA
   simp only [table_next.j0] at H
   by_cases c16 : x14_3 = true
   ·
    subst c16
    have H1 : (some 210) = some r := by rw [if_pos rfl] at H; exact H
    clear H
    have H := H1
    clear H1
    obtain rfl := Option.some.inj H
    go_wp2
    go_ret
    exact ⟨zQx5a9_, zQx5a4_⟩
   replace c16 := Bool.eq_false_iff.mpr c16
   subst c16
   have H1 : ((table_ranged.f kj3 a1_0 a1_1 a1_2 a1_3 a1_4 a1_5 a1_6 a1_7).bind fun t125 => (if t125 = true then (if (l0.length : Int) ≥ 64 then (some 6) else (some 0)) else (some 220))) = some r := by rw [if_neg (show ¬ (false = true) by decide)] at H; exact H
   clear H
   have H := H1
   clear H1
   replace H := Option.bind_eq_some_iff.mp H
   obtain ⟨t125, A170, H⟩ := H
   replace H : (if t125 = true then (if (l0.length : Int) ≥ 64 then (some 6) else (some 0)) else (some 220)) = some r := H
   have A17 := Aside0.mk A170
   clear A170
   by_cases c18 : t125 = true
   rotate_left
   ·
    replace c18 := Bool.eq_false_iff.mpr c18
    subst c18
    have H1 : (some 220) = some r := by rw [if_neg (show ¬ (false = true) by decide)] at H; exact H
    clear H
    have H := H1
    clear H1
    obtain rfl := Option.some.inj H
    have hnb26 := NB113_123.out
    have hnc26 := NB123_113.out
    have hcz27_0 : wc.cell? ⟨gb113, 0, none⟩ = some (.string a1_0) := (blk_cell BK113.out 0).trans rfl
    have hcz27_1 : wc.cell? ⟨gb113, 1, none⟩ = some (.int .i64 a1_1) := (blk_cell BK113.out 1).trans rfl
    have hcz27_2 : wc.cell? ⟨gb113, 2, none⟩ = some (.int .i64 a1_2) := (blk_cell BK113.out 2).trans rfl
    have hcz27_3 : wc.cell? ⟨gb113, 3, none⟩ = some (.int .i64 a1_3) := (blk_cell BK113.out 3).trans rfl
    have hcz27_4 : wc.cell? ⟨gb113, 4, none⟩ = some (.int .i64 a1_4) := (blk_cell BK113.out 4).trans rfl
    have hcz27_5 : wc.cell? ⟨gb113, 5, none⟩ = some (.int .i64 a1_5) := (blk_cell BK113.out 5).trans rfl
    have hcz27_6 : wc.cell? ⟨gb113, 6, none⟩ = some (.int .i64 a1_6) := (blk_cell BK113.out 6).trans rfl
    have hcz27_7 : wc.cell? ⟨gb113, 7, none⟩ = some (.bool a1_7) := (blk_cell BK113.out 7).trans rfl
    have hfz27_0 := blk_frozen BK113.out 0
    have hfz27_1 := blk_frozen BK113.out 1
    have hfz27_2 := blk_frozen BK113.out 2
    have hfz27_3 := blk_frozen BK113.out 3
    have hfz27_4 := blk_frozen BK113.out 4
    have hfz27_5 := blk_frozen BK113.out 5
    have hfz27_6 := blk_frozen BK113.out 6
    have hfz27_7 := blk_frozen BK113.out 7
    go_wp2_with (first | ((with_reducible refine gate_callee (f := 45) rfl ?_); refine goesL_ (some 24) rfl rfl Tryd.func45 (by kernel_rfl) rfl #[.agg #[.string a1_0, .int .i64 a1_1, .int .i64 a1_2, .int .i64 a1_3, .int .i64 a1_4, .int .i64 a1_5, .int .i64 a1_6, .bool a1_7]] rfl zQx5a7_ ?_; (with_reducible refine (table_ranged.calls kj3 a1_0 a1_1 a1_2 a1_3 a1_4 a1_5 a1_6 a1_7 false _ A17.out).mono ?_); rintro e w28 ⟨rfl, hb⟩; refine ⟨_, rfl, ?_⟩; have n0_ := Aside0.mk (blk_below (g := gb113) (o := .cells #[.string a1_0, .int .i64 a1_1, .int .i64 a1_2, .int .i64 a1_3, .int .i64 a1_4, .int .i64 a1_5, .int .i64 a1_6, .bool a1_7] 23 (0, 0)) zQx5a8_ hb); have n1_ := Aside0.mk (blk_below (g := gb123) (o := .cells #[.string t114, .int .i64 t115, .int .i64 t116, .int .i64 t117, .int .i64 t118, .int .i64 t119, .int .i64 t120, .bool t121] 23 (0, 0)) zQx5a12_ hb); have n2_ := Aside0.mk (below_step zQx5a4_ hb); clear BK113; clear BK123; clear HB; have BK113 := n0_; have BK123 := n1_; have HB := n2_; clear n0_ n1_ n2_; (try clear hb); (try clear hb2); (try clear hk); (try clear hi)))
    go_ret
    exact ⟨zQx5a9_, zQx5a4_⟩
   subst c18
   have H1 : (if (l0.length : Int) ≥ 64 then (some 6) else (some 0)) = some r := by rw [if_pos rfl] at H; exact H
   clear H
   have H := H1
   clear H1
   by_cases c19 : (l0.length : Int) ≥ 64
   ·
    rw [if_pos c19] at H
    have c19b0 : decide (64 ≤ (l0.length : Int)) = true := decide_eq_true c19
    have c19b1 : decide (64 ≤ l0.length) = true := decide_eq_true (by omega)
    clear c19
    obtain rfl := Option.some.inj H
    have hnb20 := NB113_123.out
    have hnc20 := NB123_113.out
    have hcz21_0 : wc.cell? ⟨gb113, 0, none⟩ = some (.string a1_0) := (blk_cell BK113.out 0).trans rfl
    have hcz21_1 : wc.cell? ⟨gb113, 1, none⟩ = some (.int .i64 a1_1) := (blk_cell BK113.out 1).trans rfl
    have hcz21_2 : wc.cell? ⟨gb113, 2, none⟩ = some (.int .i64 a1_2) := (blk_cell BK113.out 2).trans rfl
    have hcz21_3 : wc.cell? ⟨gb113, 3, none⟩ = some (.int .i64 a1_3) := (blk_cell BK113.out 3).trans rfl
    have hcz21_4 : wc.cell? ⟨gb113, 4, none⟩ = some (.int .i64 a1_4) := (blk_cell BK113.out 4).trans rfl
    have hcz21_5 : wc.cell? ⟨gb113, 5, none⟩ = some (.int .i64 a1_5) := (blk_cell BK113.out 5).trans rfl
    have hcz21_6 : wc.cell? ⟨gb113, 6, none⟩ = some (.int .i64 a1_6) := (blk_cell BK113.out 6).trans rfl
    have hcz21_7 : wc.cell? ⟨gb113, 7, none⟩ = some (.bool a1_7) := (blk_cell BK113.out 7).trans rfl
    have hfz21_0 := blk_frozen BK113.out 0
    have hfz21_1 := blk_frozen BK113.out 1
    have hfz21_2 := blk_frozen BK113.out 2
    have hfz21_3 := blk_frozen BK113.out 3
    have hfz21_4 := blk_frozen BK113.out 4
    have hfz21_5 := blk_frozen BK113.out 5
    have hfz21_6 := blk_frozen BK113.out 6
    have hfz21_7 := blk_frozen BK113.out 7
    go_wp2_with (first | ((with_reducible refine gate_callee (f := 45) rfl ?_); refine goesL_ (some 24) rfl rfl Tryd.func45 (by kernel_rfl) rfl #[.agg #[.string a1_0, .int .i64 a1_1, .int .i64 a1_2, .int .i64 a1_3, .int .i64 a1_4, .int .i64 a1_5, .int .i64 a1_6, .bool a1_7]] rfl zQx5a7_ ?_; (with_reducible refine (table_ranged.calls kj3 a1_0 a1_1 a1_2 a1_3 a1_4 a1_5 a1_6 a1_7 true _ A17.out).mono ?_); rintro e w22 ⟨rfl, hb⟩; refine ⟨_, rfl, ?_⟩; have n0_ := Aside0.mk (blk_below (g := gb113) (o := .cells #[.string a1_0, .int .i64 a1_1, .int .i64 a1_2, .int .i64 a1_3, .int .i64 a1_4, .int .i64 a1_5, .int .i64 a1_6, .bool a1_7] 23 (0, 0)) zQx5a8_ hb); have n1_ := Aside0.mk (blk_below (g := gb123) (o := .cells #[.string t114, .int .i64 t115, .int .i64 t116, .int .i64 t117, .int .i64 t118, .int .i64 t119, .int .i64 t120, .bool t121] 23 (0, 0)) zQx5a12_ hb); have n2_ := Aside0.mk (below_step zQx5a4_ hb); clear BK113; clear BK123; clear HB; have BK113 := n0_; have BK123 := n1_; have HB := n2_; clear n0_ n1_ n2_; (try clear hb); (try clear hb2); (try clear hk); (try clear hi)))
    go_ret
    exact ⟨zQx5a9_, zQx5a4_⟩
   rw [if_neg c19] at H
   have c19b0 : decide (64 ≤ (l0.length : Int)) = false := decide_eq_false c19
   have c19b1 : decide (64 ≤ l0.length) = false := decide_eq_false (by omega)
   clear c19
   obtain rfl := Option.some.inj H
   have hnb23 := NB113_123.out
   have hnc23 := NB123_113.out
   have hcz24_0 : wc.cell? ⟨gb113, 0, none⟩ = some (.string a1_0) := (blk_cell BK113.out 0).trans rfl
   have hcz24_1 : wc.cell? ⟨gb113, 1, none⟩ = some (.int .i64 a1_1) := (blk_cell BK113.out 1).trans rfl
   have hcz24_2 : wc.cell? ⟨gb113, 2, none⟩ = some (.int .i64 a1_2) := (blk_cell BK113.out 2).trans rfl
   have hcz24_3 : wc.cell? ⟨gb113, 3, none⟩ = some (.int .i64 a1_3) := (blk_cell BK113.out 3).trans rfl
   have hcz24_4 : wc.cell? ⟨gb113, 4, none⟩ = some (.int .i64 a1_4) := (blk_cell BK113.out 4).trans rfl
   have hcz24_5 : wc.cell? ⟨gb113, 5, none⟩ = some (.int .i64 a1_5) := (blk_cell BK113.out 5).trans rfl
   have hcz24_6 : wc.cell? ⟨gb113, 6, none⟩ = some (.int .i64 a1_6) := (blk_cell BK113.out 6).trans rfl
   have hcz24_7 : wc.cell? ⟨gb113, 7, none⟩ = some (.bool a1_7) := (blk_cell BK113.out 7).trans rfl
   have hfz24_0 := blk_frozen BK113.out 0
   have hfz24_1 := blk_frozen BK113.out 1
   have hfz24_2 := blk_frozen BK113.out 2
   have hfz24_3 := blk_frozen BK113.out 3
   have hfz24_4 := blk_frozen BK113.out 4
   have hfz24_5 := blk_frozen BK113.out 5
   have hfz24_6 := blk_frozen BK113.out 6
   have hfz24_7 := blk_frozen BK113.out 7
   go_wp2_with (first | ((with_reducible refine gate_callee (f := 45) rfl ?_); refine goesL_ (some 24) rfl rfl Tryd.func45 (by kernel_rfl) rfl #[.agg #[.string a1_0, .int .i64 a1_1, .int .i64 a1_2, .int .i64 a1_3, .int .i64 a1_4, .int .i64 a1_5, .int .i64 a1_6, .bool a1_7]] rfl zQx5a7_ ?_; (with_reducible refine (table_ranged.calls kj3 a1_0 a1_1 a1_2 a1_3 a1_4 a1_5 a1_6 a1_7 true _ A17.out).mono ?_); rintro e w25 ⟨rfl, hb⟩; refine ⟨_, rfl, ?_⟩; have n0_ := Aside0.mk (blk_below (g := gb113) (o := .cells #[.string a1_0, .int .i64 a1_1, .int .i64 a1_2, .int .i64 a1_3, .int .i64 a1_4, .int .i64 a1_5, .int .i64 a1_6, .bool a1_7] 23 (0, 0)) zQx5a8_ hb); have n1_ := Aside0.mk (blk_below (g := gb123) (o := .cells #[.string t114, .int .i64 t115, .int .i64 t116, .int .i64 t117, .int .i64 t118, .int .i64 t119, .int .i64 t120, .bool t121] 23 (0, 0)) zQx5a12_ hb); have n2_ := Aside0.mk (below_step zQx5a4_ hb); clear BK113; clear BK123; clear HB; have BK113 := n0_; have BK123 := n1_; have HB := n2_; clear n0_ n1_ n2_; (try clear hb); (try clear hb2); (try clear hk); (try clear hi)))
   go_ret
   exact ⟨zQx5a9_, zQx5a4_⟩
def table_Check.l0 : Nat → List (S23) → List (S23) → Int → Int → Option (Int × Int)
 | 0, _, _, _, _ => none
 | k + 1, x0, x7, x8, x9 => if x9 < x8 then (if 0 ≤ x9 then (if x9 < (x7.length : Int) then (if x9 ≤ (x0.length : Int) then ((table_next.f k (x0.take (x9 : Int).toNat) ((rd_T23 x7 x9).f0) ((rd_T23 x7 x9).f1) ((rd_T23 x7 x9).f2) ((rd_T23 x7 x9).f3) ((rd_T23 x7 x9).f4) ((rd_T23 x7 x9).f5) ((rd_T23 x7 x9).f6) ((rd_T23 x7 x9).f7)).bind fun t132 => (if t132 = 0 then (table_Check.l0 k x0 x7 x8 (wrap64 (x9 + 1))) else (some (wrap64 (x9 + 1), t132)))) else (none)) else (none)) else (none)) else (some (0, 0))
def table_Check.f (k : Nat) (l0 : List (S23)) : Option (Int × Int) := table_Check.l0 k l0 l0 (l0.length : Int) 0
set_option maxHeartbeats 8000000 in
set_option maxRecDepth 100000 in
theorem table_Check.calls (k : Nat) (A0 : Option Addr) (c0 : Nat) (l0 : List (S23)) (r1 : Int) (r2 : Int) (w : World) (hr0 : Kd.C k23 w A0 l0.length l0) (hc0 : l0.length ≤ c0) (hLd_ : Val.Laid w) (h : table_Check.f k l0 = some (r1, r2)) :
  Calls Tryd.prog 16 #[.slice A0 l0.length c0] w fun e w' => e = .returned (.tuple #[.int .i64 r1, .int .i64 r2]) ∧ Below w.heap.size w w' := by
 have hu23 := Tryd.underlying23
 have HR0 := Aside0.mk hr0
 have HC0 := Aside0.mk hc0
 clear hr0 hc0
 have HB := Aside0.mk (Below.refl w.heap.size w)
 have H : (table_Check.l0 k l0 l0 (l0.length : Int) 0) = some (r1, r2) := h
 clear h
 have H' := Aside0.mk H
 clear H
 go_enter Tryd.func16, Tryd.ntmps16
 go_wp2
 go_loopg [9] k (fun kq v9 w' => ∃ (x9_1 : Int), v9 = .int .i64 x9_1 ∧ Aside0 (table_Check.l0 kq l0 l0 (l0.length : Int) x9_1 = some (r1, r2)) ∧ Aside0 (kq ≤ k) ∧ Aside0 (Below w.heap.size w w'))
 case atStart => exact ⟨(0), zQx5a16_, H', ⟨Nat.le_refl _⟩, ⟨zQx5a3_⟩⟩
 case round =>
  clear H'
  try clear c1
  obtain ⟨x9_1, rfl, HA, HK1, HB⟩ := hrel
  cases gk with
  | zero => exact absurd HA.out (by simp [table_Check.l0])
  | succ k1 =>
   have H := HA.out
   clear HA
   simp only [table_Check.l0] at H
   by_cases c2 : x9_1 < (l0.length : Int)
   rotate_left
   ·
    rw [if_neg c2] at H
    have c2b0 : decide (x9_1 < (l0.length : Int)) = false := decide_eq_false c2
    clear c2
    simp only [Option.some.injEq, Prod.mk.injEq] at H
    obtain ⟨rfl, rfl⟩ := H
    go_wp2
    go_ret2
    exact ⟨zQx5a9_, zQx5a3_⟩
   rw [if_pos c2] at H
   have c2b0 : decide (x9_1 < (l0.length : Int)) = true := decide_eq_true c2
   clear c2
   have c3 : 0 ≤ x9_1 := znQx5_
   rw [if_pos c3] at H
   have c3b0 : decide (0 ≤ x9_1) = true := decide_eq_true c3
   clear c3
   have c4 : x9_1 < (l0.length : Int) := znQx5_
   rw [if_pos c4] at H
   have c4b0 : decide (x9_1 < (l0.length : Int)) = true := decide_eq_true c4
   clear c4
   have c5b0 := eq_true (of_decide_eq_true zQx5a13_ : 0 ≤ x9_1)
   have c6 : x9_1 ≤ (l0.length : Int) := znQx5_
   rw [if_pos c6] at H
   have c6b0 := eq_true c6
   have c6b1 : decide (x9_1 ≤ (l0.length : Int)) = true := decide_eq_true c6
   clear c6
   obtain ⟨y128, hy128⟩ : ∃ y_ : List (S23), y_ = (l0.take (x9_1 : Int).toNat) := ⟨_, rfl⟩
   replace H : ((table_next.f k1 y128 ((rd_T23 l0 x9_1).f0) ((rd_T23 l0 x9_1).f1) ((rd_T23 l0 x9_1).f2) ((rd_T23 l0 x9_1).f3) ((rd_T23 l0 x9_1).f4) ((rd_T23 l0 x9_1).f5) ((rd_T23 l0 x9_1).f6) ((rd_T23 l0 x9_1).f7)).bind fun t132 => (if t132 = 0 then (table_Check.l0 k1 l0 l0 (l0.length : Int) (wrap64 (x9_1 + 1))) else (some (wrap64 (x9_1 + 1), t132)))) = some (r1, r2) := by first | (rw [hy128]; with_reducible exact H) | (have H2_ := (Option.bind_some _ _).symm.trans H; rw [hy128]; with_reducible exact H2_) | (have H2_ := (Option.bind_some _ _).symm.trans H; with_reducible exact H2_) | with_reducible exact H | (rw [hy128]; exact H) | exact H
   have Ny128 := Aside0.mk hy128
   clear hy128
   replace H := Option.bind_eq_some_iff.mp H
   obtain ⟨t132, A70, H⟩ := H
   replace H : (if t132 = 0 then (table_Check.l0 k1 l0 l0 (l0.length : Int) (wrap64 (x9_1 + 1))) else (some (wrap64 (x9_1 + 1), t132))) = some (r1, r2) := H
   have A7 := Aside0.mk A70
   clear A70
   by_cases c8 : t132 = 0
   rotate_left
   ·
    rw [if_neg c8] at H
    have c8b0 : (t132 == 0) = false := beq_eq_false_iff_ne.mpr c8
    have c8b1 : (t132 != 0) = true := bne_iff_ne.mpr c8
    simp only [Option.some.injEq, Prod.mk.injEq] at H
    obtain ⟨rfl, rfl⟩ := H
    have p126 : 0 ≤ (x9_1 : Int) := of_decide_eq_true zQx5a13_
    have q126 : x9_1 < (l0.length : Int) := of_decide_eq_true zQx5a13_
    obtain ⟨ad126, e126, hx126_0, hx126_1, hx126_2, hx126_3, hx126_4, hx126_5, hx126_6, hx126_7⟩ := at_T23 HR0.out x9_1 p126 q126
    cases e126
    replace hx126_0 := (HB.out.cell (World.block_lt_of_cell? w _ hx126_0)).trans hx126_0
    replace hx126_1 := (HB.out.cell (World.block_lt_of_cell? w _ hx126_1)).trans hx126_1
    replace hx126_2 := (HB.out.cell (World.block_lt_of_cell? w _ hx126_2)).trans hx126_2
    replace hx126_3 := (HB.out.cell (World.block_lt_of_cell? w _ hx126_3)).trans hx126_3
    replace hx126_4 := (HB.out.cell (World.block_lt_of_cell? w _ hx126_4)).trans hx126_4
    replace hx126_5 := (HB.out.cell (World.block_lt_of_cell? w _ hx126_5)).trans hx126_5
    replace hx126_6 := (HB.out.cell (World.block_lt_of_cell? w _ hx126_6)).trans hx126_6
    replace hx126_7 := (HB.out.cell (World.block_lt_of_cell? w _ hx126_7)).trans hx126_7
    replace p126 := eq_true p126
    replace q126 := eq_true q126
    try go_wp2_with (first | ((with_reducible refine gate_dst (N := 5) rfl ?_); refine box_event ?hg (N := 5) ?hd (cs := #[.string (⟨#[]⟩ : ByteArray), .int .i64 0, .int .i64 0, .int .i64 0, .int .i64 0, .int .i64 0, .int .i64 0, .bool false]) (t := 23) ?hr ?_; (case hd => rfl); (case hg => rfl); (case hr => first | (go_simp; done) | (go_simp; rfl)); intro gb127 hg w15 hbox hb; have n0_ := Aside0.mk (below_step zQx5a3_ hb); have n1_ := Aside0.mk (hbox); have n2_ := Aside0.mk ((by rw [hg]; exact (below_size zQx5a3_) : w.heap.size ≤ gb127)); have n3_ := Aside0.mk ((by rw [hg]; exact (below_size zQx5a3_) : w.heap.size ≤ gb127)); clear HB; have HB := n0_; have BK127 := n1_; have GW127 := n2_; have GE127 := n3_; clear n0_ n1_ n2_ n3_; clear hb hbox hg; have hcz16_0 : w15.cell? ⟨gb127, 0, none⟩ = some (.string (⟨#[]⟩ : ByteArray)) := (blk_cell BK127.out 0).trans rfl; have hcz16_1 : w15.cell? ⟨gb127, 1, none⟩ = some (.int .i64 0) := (blk_cell BK127.out 1).trans rfl; have hcz16_2 : w15.cell? ⟨gb127, 2, none⟩ = some (.int .i64 0) := (blk_cell BK127.out 2).trans rfl; have hcz16_3 : w15.cell? ⟨gb127, 3, none⟩ = some (.int .i64 0) := (blk_cell BK127.out 3).trans rfl; have hcz16_4 : w15.cell? ⟨gb127, 4, none⟩ = some (.int .i64 0) := (blk_cell BK127.out 4).trans rfl; have hcz16_5 : w15.cell? ⟨gb127, 5, none⟩ = some (.int .i64 0) := (blk_cell BK127.out 5).trans rfl; have hcz16_6 : w15.cell? ⟨gb127, 6, none⟩ = some (.int .i64 0) := (blk_cell BK127.out 6).trans rfl; have hcz16_7 : w15.cell? ⟨gb127, 7, none⟩ = some (.bool false) := (blk_cell BK127.out 7).trans rfl; have hfz16_0 := blk_frozen BK127.out 0; have hfz16_1 := blk_frozen BK127.out 1; have hfz16_2 := blk_frozen BK127.out 2; have hfz16_3 := blk_frozen BK127.out 3; have hfz16_4 := blk_frozen BK127.out 4; have hfz16_5 := blk_frozen BK127.out 5; have hfz16_6 := blk_frozen BK127.out 6; have hfz16_7 := blk_frozen BK127.out 7))
    have n0_ : Aside0 (((((((((w15.setCell ⟨gb127, 0, none⟩ (.string ((rd_T23 l0 x9_1).f0))).setCell ⟨gb127, 1, none⟩ (.int .i64 ((rd_T23 l0 x9_1).f1))).setCell ⟨gb127, 2, none⟩ (.int .i64 ((rd_T23 l0 x9_1).f2))).setCell ⟨gb127, 3, none⟩ (.int .i64 ((rd_T23 l0 x9_1).f3))).setCell ⟨gb127, 4, none⟩ (.int .i64 ((rd_T23 l0 x9_1).f4))).setCell ⟨gb127, 5, none⟩ (.int .i64 ((rd_T23 l0 x9_1).f5))).setCell ⟨gb127, 6, none⟩ (.int .i64 ((rd_T23 l0 x9_1).f6))).setCell ⟨gb127, 7, none⟩ (.bool ((rd_T23 l0 x9_1).f7))).heap[gb127]? = some (.cells #[.string ((rd_T23 l0 x9_1).f0), .int .i64 ((rd_T23 l0 x9_1).f1), .int .i64 ((rd_T23 l0 x9_1).f2), .int .i64 ((rd_T23 l0 x9_1).f3), .int .i64 ((rd_T23 l0 x9_1).f4), .int .i64 ((rd_T23 l0 x9_1).f5), .int .i64 ((rd_T23 l0 x9_1).f6), .bool ((rd_T23 l0 x9_1).f7)] 23 (0, 0))) := ⟨zQx5a0_⟩
    have n1_ : Aside0 (Below w.heap.size w ((((((((w15.setCell ⟨gb127, 0, none⟩ (.string ((rd_T23 l0 x9_1).f0))).setCell ⟨gb127, 1, none⟩ (.int .i64 ((rd_T23 l0 x9_1).f1))).setCell ⟨gb127, 2, none⟩ (.int .i64 ((rd_T23 l0 x9_1).f2))).setCell ⟨gb127, 3, none⟩ (.int .i64 ((rd_T23 l0 x9_1).f3))).setCell ⟨gb127, 4, none⟩ (.int .i64 ((rd_T23 l0 x9_1).f4))).setCell ⟨gb127, 5, none⟩ (.int .i64 ((rd_T23 l0 x9_1).f5))).setCell ⟨gb127, 6, none⟩ (.int .i64 ((rd_T23 l0 x9_1).f6))).setCell ⟨gb127, 7, none⟩ (.bool ((rd_T23 l0 x9_1).f7)))) := ⟨zQx5a6_⟩
    (try clear BK127)
    (try clear HB)
    generalize ((((((((w15.setCell ⟨gb127, 0, none⟩ (.string ((rd_T23 l0 x9_1).f0))).setCell ⟨gb127, 1, none⟩ (.int .i64 ((rd_T23 l0 x9_1).f1))).setCell ⟨gb127, 2, none⟩ (.int .i64 ((rd_T23 l0 x9_1).f2))).setCell ⟨gb127, 3, none⟩ (.int .i64 ((rd_T23 l0 x9_1).f3))).setCell ⟨gb127, 4, none⟩ (.int .i64 ((rd_T23 l0 x9_1).f4))).setCell ⟨gb127, 5, none⟩ (.int .i64 ((rd_T23 l0 x9_1).f5))).setCell ⟨gb127, 6, none⟩ (.int .i64 ((rd_T23 l0 x9_1).f6))).setCell ⟨gb127, 7, none⟩ (.bool ((rd_T23 l0 x9_1).f7))) = w17 at n0_ n1_ ⊢
    have BK127 := n0_
    have HB := n1_
    clear n0_ n1_
    have n0_ := Aside0.mk (blk_drew BK127.out)
    have n1_ := Aside0.mk (below_drew1 HB.out)
    clear BK127
    clear HB
    have BK127 := n0_
    have HB := n1_
    clear n0_ n1_
    have q19 : (x9_1 : Int) ≤ ((l0.length : Int) : Int) := of_decide_eq_true zQx5a13_
    obtain ⟨i019, hi019, _, hsz19, _⟩ := info_parts info23
    have hroom19 : l0.length ≤ c0 := HC0.out
    have hC19 : Kd.C k23 _ (some ad126) l0.length l0 := HR0.out
    have hcut19 := cut_to (P := Tryd.prog) 47 23 .i64 Tryd.underlying47 hi019 (some ad126) l0.length c0 x9_1 (of_decide_eq_true zQx5a13_) q19 hroom19
    have hr19 := Kd.C_take (m := (x9_1 : Int).toNat) hC19 (by omega)
    have hy19 : y128.length = (x9_1 : Int).toNat := (by rw [Ny128.out, List.length_take]; omega)
    rw [← Ny128.out] at hr19
    rw [← hy19] at hcut19
    have HR131 := Aside0.mk hr19
    have HC131 := Aside0.mk (show y128.length ≤ c0 from by omega)
    clear hr19 hC19 hroom19 hi019 hsz19
    have KY19 := Aside0.mk hy19
    clear hy19
    replace q19 := eq_true q19
    refine start_ (n := 6) (S := fun w' => w'.cell? ⟨gb127, 0, none⟩ = some (.string ((rd_T23 l0 x9_1).f0)) ∧ w'.cell? ⟨gb127, 1, none⟩ = some (.int .i64 ((rd_T23 l0 x9_1).f1)) ∧ w'.cell? ⟨gb127, 2, none⟩ = some (.int .i64 ((rd_T23 l0 x9_1).f2)) ∧ w'.cell? ⟨gb127, 3, none⟩ = some (.int .i64 ((rd_T23 l0 x9_1).f3)) ∧ w'.cell? ⟨gb127, 4, none⟩ = some (.int .i64 ((rd_T23 l0 x9_1).f4)) ∧ w'.cell? ⟨gb127, 5, none⟩ = some (.int .i64 ((rd_T23 l0 x9_1).f5)) ∧ w'.cell? ⟨gb127, 6, none⟩ = some (.int .i64 ((rd_T23 l0 x9_1).f6)) ∧ w'.cell? ⟨gb127, 7, none⟩ = some (.bool ((rd_T23 l0 x9_1).f7))) (ds := []) #[false, false, false, false, false, false] (by kernel_rfl) rfl rfl ⟨(blk_cell BK127.out 0).trans rfl, (blk_cell BK127.out 1).trans rfl, (blk_cell BK127.out 2).trans rfl, (blk_cell BK127.out 3).trans rfl, (blk_cell BK127.out 4).trans rfl, (blk_cell BK127.out 5).trans rfl, (blk_cell BK127.out 6).trans rfl, (blk_cell BK127.out 7).trans rfl⟩ (fun hHeld => ?_)
    generalize w17.drew = w18 at BK127 HB HR131 hHeld ⊢
    refine pure_ (i := 0) (N := some 14) (v := ?_) (a' := ?_) #[true, false, false, false, false, false] rfl rfl (by kernel_rfl) (fun _ _ _ h => h) (Or.inl ⟨by rfl, ?_⟩) ?_ ?_
    rotate_left
    ·
     intro w'
     go_simp
     with_reducible rfl
    rotate_left
    ·
     simp only [Act.put, List.setIfInBounds_toArray, List.set_cons_zero, List.set_cons_succ, i64_w, i32_w]
     rfl
    refine pure_ (i := 1) (N := some 15) (v := ?_) (a' := ?_) #[true, true, false, false, false, false] rfl rfl (by kernel_rfl) (fun _ _ _ h => h) (Or.inl ⟨by rfl, ?_⟩) ?_ ?_
    rotate_left
    ·
     intro w'
     go_simp
     with_reducible rfl
    rotate_left
    ·
     simp only [Act.put, List.setIfInBounds_toArray, List.set_cons_zero, List.set_cons_succ, i64_w, i32_w]
     rfl
    refine pure_ (i := 2) (N := some 16) (v := ?_) (a' := ?_) #[true, true, true, false, false, false] rfl rfl (by kernel_rfl) (fun _ _ _ h => h) (Or.inl ⟨by rfl, ?_⟩) ?_ ?_
    rotate_left
    ·
     intro w'
     go_simp
     with_reducible rfl
    rotate_left
    ·
     simp only [Act.put, List.setIfInBounds_toArray, List.set_cons_zero, List.set_cons_succ, i64_w, i32_w]
     rfl
    refine take_ (i := 3) (N := some 17) (v := ?_) (a' := ?_) #[true, true, true, true, false, false] rfl rfl (by kernel_rfl) (fun _ _ _ h => h) (Or.inl ⟨by rfl, ?_⟩) hHeld ?_ ?_
    rotate_left
    ·
     rintro w' ⟨s0, s1, s2, s3, s4, s5, s6, s7⟩
     go_simp
     with_reducible rfl
    rotate_left
    ·
     simp only [Act.put, List.setIfInBounds_toArray, List.set_cons_zero, List.set_cons_succ, i64_w, i32_w]
     rfl
    refine one_ (i := 4) (N := some 18) #[true, true, true, true, true, false] rfl rfl (by kernel_rfl) (by decide) (fun K hK => ?_)
    refine goes_ Tryd.func26 (by kernel_rfl) rfl #[.slice (some ad126) y128.length c0, .agg #[.string ((rd_T23 l0 x9_1).f0), .int .i64 ((rd_T23 l0 x9_1).f1), .int .i64 ((rd_T23 l0 x9_1).f2), .int .i64 ((rd_T23 l0 x9_1).f3), .int .i64 ((rd_T23 l0 x9_1).f4), .int .i64 ((rd_T23 l0 x9_1).f5), .int .i64 ((rd_T23 l0 x9_1).f6), .bool ((rd_T23 l0 x9_1).f7)]] (by rfl) rfl rfl zQx5a7_ ?_
    with_reducible refine (table_next.calls k1 _ _ y128 ((rd_T23 l0 x9_1).f0) ((rd_T23 l0 x9_1).f1) ((rd_T23 l0 x9_1).f2) ((rd_T23 l0 x9_1).f3) ((rd_T23 l0 x9_1).f4) ((rd_T23 l0 x9_1).f5) ((rd_T23 l0 x9_1).f6) ((rd_T23 l0 x9_1).f7) t132 _ ?side1 ?side2 (Val.Laid.below hLd_ zQx5a6_) A7.out).mono ?_
    (case side1 => repeat (first | exact (Kd.C_below HR131.out HB.out) | (with_reducible refine Kd.C_alloc ?_ _) | (with_reducible refine Kd.C_drewN ?_ _) | (with_reducible refine Kd.C_drew ?_)))
    (case side2 => exact HC131.out)
    rintro e w20 ⟨rfl, hb⟩
    refine ⟨_, rfl, ?_⟩
    have n0_ := Aside0.mk (blk_below (g := gb127) (o := .cells #[.string ((rd_T23 l0 x9_1).f0), .int .i64 ((rd_T23 l0 x9_1).f1), .int .i64 ((rd_T23 l0 x9_1).f2), .int .i64 ((rd_T23 l0 x9_1).f3), .int .i64 ((rd_T23 l0 x9_1).f4), .int .i64 ((rd_T23 l0 x9_1).f5), .int .i64 ((rd_T23 l0 x9_1).f6), .bool ((rd_T23 l0 x9_1).f7)] 23 (0, 0)) zQx5a14_ hb)
    have n1_ := Aside0.mk (below_step zQx5a6_ hb)
    clear BK127
    clear HB
    have BK127 := n0_
    have HB := n1_
    clear n0_ n1_
    (try clear hb)
    (try clear hb2)
    (try clear hk)
    (try clear hi)
    refine hK.out _ _ ⟨(blk_cell BK127.out 0).trans rfl, (blk_cell BK127.out 1).trans rfl, (blk_cell BK127.out 2).trans rfl, (blk_cell BK127.out 3).trans rfl, (blk_cell BK127.out 4).trans rfl, (blk_cell BK127.out 5).trans rfl, (blk_cell BK127.out 6).trans rfl, (blk_cell BK127.out 7).trans rfl⟩ (fun hHeld => ?_)
    clear hK K
    refine norm_ (a' := ?_) ?_ ?_
    rotate_left
    ·
     show Act.put _ (some 18) _ = _
     simp only [Act.put, List.setIfInBounds_toArray, List.set_cons_zero, List.set_cons_succ, i64_w, i32_w]
     rfl
    refine pure_ (i := 5) (N := some 6) (v := ?_) (a' := ?_) #[true, true, true, true, true, true] rfl rfl (by kernel_rfl) (fun _ _ _ h => h) (Or.inl ⟨by rfl, ?_⟩) ?_ ?_
    rotate_left
    ·
     intro w'
     go_simp
     with_reducible rfl
    rotate_left
    ·
     simp only [Act.put, List.setIfInBounds_toArray, List.set_cons_zero, List.set_cons_succ, i64_w, i32_w]
     rfl
    refine done_ (by kernel_rfl) ?_
    try go_wp2
    go_ret2
    exact ⟨zQx5a9_, zQx5a6_⟩
   rw [if_pos c8] at H
   have c8b0 : (t132 == 0) = true := beq_iff_eq.mpr c8
   have c8b1 : (t132 != 0) = false := bne_eq_false_iff_eq.mpr c8
   clear c8
   have H' := Aside0.mk H
   clear H
   have p126 : 0 ≤ (x9_1 : Int) := of_decide_eq_true zQx5a13_
   have q126 : x9_1 < (l0.length : Int) := of_decide_eq_true zQx5a13_
   obtain ⟨ad126, e126, hx126_0, hx126_1, hx126_2, hx126_3, hx126_4, hx126_5, hx126_6, hx126_7⟩ := at_T23 HR0.out x9_1 p126 q126
   cases e126
   replace hx126_0 := (HB.out.cell (World.block_lt_of_cell? w _ hx126_0)).trans hx126_0
   replace hx126_1 := (HB.out.cell (World.block_lt_of_cell? w _ hx126_1)).trans hx126_1
   replace hx126_2 := (HB.out.cell (World.block_lt_of_cell? w _ hx126_2)).trans hx126_2
   replace hx126_3 := (HB.out.cell (World.block_lt_of_cell? w _ hx126_3)).trans hx126_3
   replace hx126_4 := (HB.out.cell (World.block_lt_of_cell? w _ hx126_4)).trans hx126_4
   replace hx126_5 := (HB.out.cell (World.block_lt_of_cell? w _ hx126_5)).trans hx126_5
   replace hx126_6 := (HB.out.cell (World.block_lt_of_cell? w _ hx126_6)).trans hx126_6
   replace hx126_7 := (HB.out.cell (World.block_lt_of_cell? w _ hx126_7)).trans hx126_7
   replace p126 := eq_true p126
   replace q126 := eq_true q126
   try go_wp2_with (first | ((with_reducible refine gate_dst (N := 5) rfl ?_); refine box_event ?hg (N := 5) ?hd (cs := #[.string (⟨#[]⟩ : ByteArray), .int .i64 0, .int .i64 0, .int .i64 0, .int .i64 0, .int .i64 0, .int .i64 0, .bool false]) (t := 23) ?hr ?_; (case hd => rfl); (case hg => rfl); (case hr => first | (go_simp; done) | (go_simp; rfl)); intro gb127 hg w9 hbox hb; have n0_ := Aside0.mk (below_step zQx5a3_ hb); have n1_ := Aside0.mk (hbox); have n2_ := Aside0.mk ((by rw [hg]; exact (below_size zQx5a3_) : w.heap.size ≤ gb127)); have n3_ := Aside0.mk ((by rw [hg]; exact (below_size zQx5a3_) : w.heap.size ≤ gb127)); clear HB; have HB := n0_; have BK127 := n1_; have GW127 := n2_; have GE127 := n3_; clear n0_ n1_ n2_ n3_; clear hb hbox hg; have hcz10_0 : w9.cell? ⟨gb127, 0, none⟩ = some (.string (⟨#[]⟩ : ByteArray)) := (blk_cell BK127.out 0).trans rfl; have hcz10_1 : w9.cell? ⟨gb127, 1, none⟩ = some (.int .i64 0) := (blk_cell BK127.out 1).trans rfl; have hcz10_2 : w9.cell? ⟨gb127, 2, none⟩ = some (.int .i64 0) := (blk_cell BK127.out 2).trans rfl; have hcz10_3 : w9.cell? ⟨gb127, 3, none⟩ = some (.int .i64 0) := (blk_cell BK127.out 3).trans rfl; have hcz10_4 : w9.cell? ⟨gb127, 4, none⟩ = some (.int .i64 0) := (blk_cell BK127.out 4).trans rfl; have hcz10_5 : w9.cell? ⟨gb127, 5, none⟩ = some (.int .i64 0) := (blk_cell BK127.out 5).trans rfl; have hcz10_6 : w9.cell? ⟨gb127, 6, none⟩ = some (.int .i64 0) := (blk_cell BK127.out 6).trans rfl; have hcz10_7 : w9.cell? ⟨gb127, 7, none⟩ = some (.bool false) := (blk_cell BK127.out 7).trans rfl; have hfz10_0 := blk_frozen BK127.out 0; have hfz10_1 := blk_frozen BK127.out 1; have hfz10_2 := blk_frozen BK127.out 2; have hfz10_3 := blk_frozen BK127.out 3; have hfz10_4 := blk_frozen BK127.out 4; have hfz10_5 := blk_frozen BK127.out 5; have hfz10_6 := blk_frozen BK127.out 6; have hfz10_7 := blk_frozen BK127.out 7))
   have n0_ : Aside0 (((((((((w9.setCell ⟨gb127, 0, none⟩ (.string ((rd_T23 l0 x9_1).f0))).setCell ⟨gb127, 1, none⟩ (.int .i64 ((rd_T23 l0 x9_1).f1))).setCell ⟨gb127, 2, none⟩ (.int .i64 ((rd_T23 l0 x9_1).f2))).setCell ⟨gb127, 3, none⟩ (.int .i64 ((rd_T23 l0 x9_1).f3))).setCell ⟨gb127, 4, none⟩ (.int .i64 ((rd_T23 l0 x9_1).f4))).setCell ⟨gb127, 5, none⟩ (.int .i64 ((rd_T23 l0 x9_1).f5))).setCell ⟨gb127, 6, none⟩ (.int .i64 ((rd_T23 l0 x9_1).f6))).setCell ⟨gb127, 7, none⟩ (.bool ((rd_T23 l0 x9_1).f7))).heap[gb127]? = some (.cells #[.string ((rd_T23 l0 x9_1).f0), .int .i64 ((rd_T23 l0 x9_1).f1), .int .i64 ((rd_T23 l0 x9_1).f2), .int .i64 ((rd_T23 l0 x9_1).f3), .int .i64 ((rd_T23 l0 x9_1).f4), .int .i64 ((rd_T23 l0 x9_1).f5), .int .i64 ((rd_T23 l0 x9_1).f6), .bool ((rd_T23 l0 x9_1).f7)] 23 (0, 0))) := ⟨zQx5a0_⟩
   have n1_ : Aside0 (Below w.heap.size w ((((((((w9.setCell ⟨gb127, 0, none⟩ (.string ((rd_T23 l0 x9_1).f0))).setCell ⟨gb127, 1, none⟩ (.int .i64 ((rd_T23 l0 x9_1).f1))).setCell ⟨gb127, 2, none⟩ (.int .i64 ((rd_T23 l0 x9_1).f2))).setCell ⟨gb127, 3, none⟩ (.int .i64 ((rd_T23 l0 x9_1).f3))).setCell ⟨gb127, 4, none⟩ (.int .i64 ((rd_T23 l0 x9_1).f4))).setCell ⟨gb127, 5, none⟩ (.int .i64 ((rd_T23 l0 x9_1).f5))).setCell ⟨gb127, 6, none⟩ (.int .i64 ((rd_T23 l0 x9_1).f6))).setCell ⟨gb127, 7, none⟩ (.bool ((rd_T23 l0 x9_1).f7)))) := ⟨zQx5a6_⟩
   (try clear BK127)
   (try clear HB)
   generalize ((((((((w9.setCell ⟨gb127, 0, none⟩ (.string ((rd_T23 l0 x9_1).f0))).setCell ⟨gb127, 1, none⟩ (.int .i64 ((rd_T23 l0 x9_1).f1))).setCell ⟨gb127, 2, none⟩ (.int .i64 ((rd_T23 l0 x9_1).f2))).setCell ⟨gb127, 3, none⟩ (.int .i64 ((rd_T23 l0 x9_1).f3))).setCell ⟨gb127, 4, none⟩ (.int .i64 ((rd_T23 l0 x9_1).f4))).setCell ⟨gb127, 5, none⟩ (.int .i64 ((rd_T23 l0 x9_1).f5))).setCell ⟨gb127, 6, none⟩ (.int .i64 ((rd_T23 l0 x9_1).f6))).setCell ⟨gb127, 7, none⟩ (.bool ((rd_T23 l0 x9_1).f7))) = w11 at n0_ n1_ ⊢
   have BK127 := n0_
   have HB := n1_
   clear n0_ n1_
   have n0_ := Aside0.mk (blk_drew BK127.out)
   have n1_ := Aside0.mk (below_drew1 HB.out)
   clear BK127
   clear HB
   have BK127 := n0_
   have HB := n1_
   clear n0_ n1_
   have q13 : (x9_1 : Int) ≤ ((l0.length : Int) : Int) := of_decide_eq_true zQx5a13_
   obtain ⟨i013, hi013, _, hsz13, _⟩ := info_parts info23
   have hroom13 : l0.length ≤ c0 := HC0.out
   have hC13 : Kd.C k23 _ (some ad126) l0.length l0 := HR0.out
   have hcut13 := cut_to (P := Tryd.prog) 47 23 .i64 Tryd.underlying47 hi013 (some ad126) l0.length c0 x9_1 (of_decide_eq_true zQx5a13_) q13 hroom13
   have hr13 := Kd.C_take (m := (x9_1 : Int).toNat) hC13 (by omega)
   have hy13 : y128.length = (x9_1 : Int).toNat := (by rw [Ny128.out, List.length_take]; omega)
   rw [← Ny128.out] at hr13
   rw [← hy13] at hcut13
   have HR131 := Aside0.mk hr13
   have HC131 := Aside0.mk (show y128.length ≤ c0 from by omega)
   clear hr13 hC13 hroom13 hi013 hsz13
   have KY13 := Aside0.mk hy13
   clear hy13
   replace q13 := eq_true q13
   refine start_ (n := 6) (S := fun w' => w'.cell? ⟨gb127, 0, none⟩ = some (.string ((rd_T23 l0 x9_1).f0)) ∧ w'.cell? ⟨gb127, 1, none⟩ = some (.int .i64 ((rd_T23 l0 x9_1).f1)) ∧ w'.cell? ⟨gb127, 2, none⟩ = some (.int .i64 ((rd_T23 l0 x9_1).f2)) ∧ w'.cell? ⟨gb127, 3, none⟩ = some (.int .i64 ((rd_T23 l0 x9_1).f3)) ∧ w'.cell? ⟨gb127, 4, none⟩ = some (.int .i64 ((rd_T23 l0 x9_1).f4)) ∧ w'.cell? ⟨gb127, 5, none⟩ = some (.int .i64 ((rd_T23 l0 x9_1).f5)) ∧ w'.cell? ⟨gb127, 6, none⟩ = some (.int .i64 ((rd_T23 l0 x9_1).f6)) ∧ w'.cell? ⟨gb127, 7, none⟩ = some (.bool ((rd_T23 l0 x9_1).f7))) (ds := []) #[false, false, false, false, false, false] (by kernel_rfl) rfl rfl ⟨(blk_cell BK127.out 0).trans rfl, (blk_cell BK127.out 1).trans rfl, (blk_cell BK127.out 2).trans rfl, (blk_cell BK127.out 3).trans rfl, (blk_cell BK127.out 4).trans rfl, (blk_cell BK127.out 5).trans rfl, (blk_cell BK127.out 6).trans rfl, (blk_cell BK127.out 7).trans rfl⟩ (fun hHeld => ?_)
   generalize w11.drew = w12 at BK127 HB HR131 hHeld ⊢
   refine pure_ (i := 0) (N := some 14) (v := ?_) (a' := ?_) #[true, false, false, false, false, false] rfl rfl (by kernel_rfl) (fun _ _ _ h => h) (Or.inl ⟨by rfl, ?_⟩) ?_ ?_
   rotate_left
   ·
    intro w'
    go_simp
    with_reducible rfl
   rotate_left
   ·
    simp only [Act.put, List.setIfInBounds_toArray, List.set_cons_zero, List.set_cons_succ, i64_w, i32_w]
    rfl
   refine pure_ (i := 1) (N := some 15) (v := ?_) (a' := ?_) #[true, true, false, false, false, false] rfl rfl (by kernel_rfl) (fun _ _ _ h => h) (Or.inl ⟨by rfl, ?_⟩) ?_ ?_
   rotate_left
   ·
    intro w'
    go_simp
    with_reducible rfl
   rotate_left
   ·
    simp only [Act.put, List.setIfInBounds_toArray, List.set_cons_zero, List.set_cons_succ, i64_w, i32_w]
    rfl
   refine pure_ (i := 2) (N := some 16) (v := ?_) (a' := ?_) #[true, true, true, false, false, false] rfl rfl (by kernel_rfl) (fun _ _ _ h => h) (Or.inl ⟨by rfl, ?_⟩) ?_ ?_
   rotate_left
   ·
    intro w'
    go_simp
    with_reducible rfl
   rotate_left
   ·
    simp only [Act.put, List.setIfInBounds_toArray, List.set_cons_zero, List.set_cons_succ, i64_w, i32_w]
    rfl
   refine take_ (i := 3) (N := some 17) (v := ?_) (a' := ?_) #[true, true, true, true, false, false] rfl rfl (by kernel_rfl) (fun _ _ _ h => h) (Or.inl ⟨by rfl, ?_⟩) hHeld ?_ ?_
   rotate_left
   ·
    rintro w' ⟨s0, s1, s2, s3, s4, s5, s6, s7⟩
    go_simp
    with_reducible rfl
   rotate_left
   ·
    simp only [Act.put, List.setIfInBounds_toArray, List.set_cons_zero, List.set_cons_succ, i64_w, i32_w]
    rfl
   refine one_ (i := 4) (N := some 18) #[true, true, true, true, true, false] rfl rfl (by kernel_rfl) (by decide) (fun K hK => ?_)
   refine goes_ Tryd.func26 (by kernel_rfl) rfl #[.slice (some ad126) y128.length c0, .agg #[.string ((rd_T23 l0 x9_1).f0), .int .i64 ((rd_T23 l0 x9_1).f1), .int .i64 ((rd_T23 l0 x9_1).f2), .int .i64 ((rd_T23 l0 x9_1).f3), .int .i64 ((rd_T23 l0 x9_1).f4), .int .i64 ((rd_T23 l0 x9_1).f5), .int .i64 ((rd_T23 l0 x9_1).f6), .bool ((rd_T23 l0 x9_1).f7)]] (by rfl) rfl rfl zQx5a7_ ?_
   with_reducible refine (table_next.calls k1 _ _ y128 ((rd_T23 l0 x9_1).f0) ((rd_T23 l0 x9_1).f1) ((rd_T23 l0 x9_1).f2) ((rd_T23 l0 x9_1).f3) ((rd_T23 l0 x9_1).f4) ((rd_T23 l0 x9_1).f5) ((rd_T23 l0 x9_1).f6) ((rd_T23 l0 x9_1).f7) t132 _ ?side1 ?side2 (Val.Laid.below hLd_ zQx5a6_) A7.out).mono ?_
   (case side1 => repeat (first | exact (Kd.C_below HR131.out HB.out) | (with_reducible refine Kd.C_alloc ?_ _) | (with_reducible refine Kd.C_drewN ?_ _) | (with_reducible refine Kd.C_drew ?_)))
   (case side2 => exact HC131.out)
   rintro e w14 ⟨rfl, hb⟩
   refine ⟨_, rfl, ?_⟩
   have n0_ := Aside0.mk (blk_below (g := gb127) (o := .cells #[.string ((rd_T23 l0 x9_1).f0), .int .i64 ((rd_T23 l0 x9_1).f1), .int .i64 ((rd_T23 l0 x9_1).f2), .int .i64 ((rd_T23 l0 x9_1).f3), .int .i64 ((rd_T23 l0 x9_1).f4), .int .i64 ((rd_T23 l0 x9_1).f5), .int .i64 ((rd_T23 l0 x9_1).f6), .bool ((rd_T23 l0 x9_1).f7)] 23 (0, 0)) zQx5a14_ hb)
   have n1_ := Aside0.mk (below_step zQx5a6_ hb)
   clear BK127
   clear HB
   have BK127 := n0_
   have HB := n1_
   clear n0_ n1_
   (try clear hb)
   (try clear hb2)
   (try clear hk)
   (try clear hi)
   refine hK.out _ _ ⟨(blk_cell BK127.out 0).trans rfl, (blk_cell BK127.out 1).trans rfl, (blk_cell BK127.out 2).trans rfl, (blk_cell BK127.out 3).trans rfl, (blk_cell BK127.out 4).trans rfl, (blk_cell BK127.out 5).trans rfl, (blk_cell BK127.out 6).trans rfl, (blk_cell BK127.out 7).trans rfl⟩ (fun hHeld => ?_)
   clear hK K
   refine norm_ (a' := ?_) ?_ ?_
   rotate_left
   ·
    show Act.put _ (some 18) _ = _
    simp only [Act.put, List.setIfInBounds_toArray, List.set_cons_zero, List.set_cons_succ, i64_w, i32_w]
    rfl
   refine pure_ (i := 5) (N := some 6) (v := ?_) (a' := ?_) #[true, true, true, true, true, true] rfl rfl (by kernel_rfl) (fun _ _ _ h => h) (Or.inl ⟨by rfl, ?_⟩) ?_ ?_
   rotate_left
   ·
    intro w'
    go_simp
    with_reducible rfl
   rotate_left
   ·
    simp only [Act.put, List.setIfInBounds_toArray, List.set_cons_zero, List.set_cons_succ, i64_w, i32_w]
    rfl
   refine done_ (by kernel_rfl) ?_
   try go_wp2
   go_roundg k1
   case measure => have := HK1.out; omega
   case rel => exact ⟨(wrap64 (x9_1 + 1)), zQx5a16_, H', ⟨by have := HK1.out; omega⟩, ⟨zQx5a6_⟩⟩
def value_row.f (k : Nat) (a0_0 : ByteArray) (a0_1 : Int) (a0_2 : Int) (a0_3 : Int) (a0_4 : Int) (a0_5 : Int) (a0_6 : Int) (a0_7 : Bool) : Option (Int) := (table_Check.f k (([(⟨a0_0, a0_1, a0_2, a0_3, a0_4, a0_5, a0_6, a0_7⟩ : S23)] : List (S23)))).bind fun bt137 => (if bt137.2 = 0 then (some 0) else (some 1))
set_option maxHeartbeats 8000000 in
set_option maxRecDepth 100000 in
theorem value_row.calls (k : Nat) (a0_0 : ByteArray) (a0_1 : Int) (a0_2 : Int) (a0_3 : Int) (a0_4 : Int) (a0_5 : Int) (a0_6 : Int) (a0_7 : Bool) (r : Int) (w : World) (hLd_ : Val.Laid w) (h : value_row.f k a0_0 a0_1 a0_2 a0_3 a0_4 a0_5 a0_6 a0_7 = some r) :
  Calls Tryd.prog 27 #[.agg #[.string a0_0, .int .i64 a0_1, .int .i64 a0_2, .int .i64 a0_3, .int .i64 a0_4, .int .i64 a0_5, .int .i64 a0_6, .bool a0_7]] w fun e w' => e = .returned (.int .i64 r) ∧ Below w.heap.size w w' := by
 have hu23 := Tryd.underlying23
 have HB := Aside0.mk (Below.refl w.heap.size w)
 have H : ((table_Check.f k (([(⟨a0_0, a0_1, a0_2, a0_3, a0_4, a0_5, a0_6, a0_7⟩ : S23)] : List (S23)))).bind fun bt137 => (if bt137.2 = 0 then (some 0) else (some 1))) = some r := h
 clear h
 obtain ⟨y134, hy134⟩ : ∃ y_ : List (S23), y_ = (([(⟨a0_0, a0_1, a0_2, a0_3, a0_4, a0_5, a0_6, a0_7⟩ : S23)] : List (S23))) := ⟨_, rfl⟩
 replace H : ((table_Check.f k y134).bind fun bt137 => (if bt137.2 = 0 then (some 0) else (some 1))) = some r := by first | (rw [hy134]; with_reducible exact H) | (have H2_ := (Option.bind_some _ _).symm.trans H; rw [hy134]; with_reducible exact H2_) | (have H2_ := (Option.bind_some _ _).symm.trans H; with_reducible exact H2_) | with_reducible exact H | (rw [hy134]; exact H) | exact H
 have Ny134 := Aside0.mk hy134
 clear hy134
 replace H := Option.bind_eq_some_iff.mp H
 obtain ⟨⟨t137, t138⟩, A20, H⟩ := H
 replace H : (if t138 = 0 then (some 0) else (some 1)) = some r := H
 have A2 := Aside0.mk A20
 clear A20
 by_cases c3 : t138 = 0
 ·
  rw [if_pos c3] at H
  have c3b0 : (t138 == 0) = true := beq_iff_eq.mpr c3
  have c3b1 : (t138 != 0) = false := bne_eq_false_iff_eq.mpr c3
  clear c3
  obtain rfl := Option.some.inj H
  go_enter Tryd.func27, Tryd.ntmps27
  go_wp2_with (first | ((with_reducible refine gate_dst (N := 1) rfl ?_); refine box_event ?hg (N := 1) ?hd (cs := #[.string a0_0, .int .i64 a0_1, .int .i64 a0_2, .int .i64 a0_3, .int .i64 a0_4, .int .i64 a0_5, .int .i64 a0_6, .bool a0_7]) (t := 23) ?hr ?_; (case hd => rfl); (case hg => rfl); (case hr => first | (go_simp; done) | (go_simp; rfl)); intro gb133 hg w4 hbox hb; have n0_ := Aside0.mk (below_step zQx5a3_ hb); have n1_ := Aside0.mk (hbox); have n2_ := Aside0.mk ((by rw [hg]; exact (below_size zQx5a3_) : w.heap.size ≤ gb133)); have n3_ := Aside0.mk ((by rw [hg]; exact (below_size zQx5a3_) : w.heap.size ≤ gb133)); clear HB; have HB := n0_; have BK133 := n1_; have GW133 := n2_; have GE133 := n3_; clear n0_ n1_ n2_ n3_; clear hb hbox hg; have hcz5_0 : w4.cell? ⟨gb133, 0, none⟩ = some (.string a0_0) := (blk_cell BK133.out 0).trans rfl; have hcz5_1 : w4.cell? ⟨gb133, 1, none⟩ = some (.int .i64 a0_1) := (blk_cell BK133.out 1).trans rfl; have hcz5_2 : w4.cell? ⟨gb133, 2, none⟩ = some (.int .i64 a0_2) := (blk_cell BK133.out 2).trans rfl; have hcz5_3 : w4.cell? ⟨gb133, 3, none⟩ = some (.int .i64 a0_3) := (blk_cell BK133.out 3).trans rfl; have hcz5_4 : w4.cell? ⟨gb133, 4, none⟩ = some (.int .i64 a0_4) := (blk_cell BK133.out 4).trans rfl; have hcz5_5 : w4.cell? ⟨gb133, 5, none⟩ = some (.int .i64 a0_5) := (blk_cell BK133.out 5).trans rfl; have hcz5_6 : w4.cell? ⟨gb133, 6, none⟩ = some (.int .i64 a0_6) := (blk_cell BK133.out 6).trans rfl; have hcz5_7 : w4.cell? ⟨gb133, 7, none⟩ = some (.bool a0_7) := (blk_cell BK133.out 7).trans rfl; have hfz5_0 := blk_frozen BK133.out 0; have hfz5_1 := blk_frozen BK133.out 1; have hfz5_2 := blk_frozen BK133.out 2; have hfz5_3 := blk_frozen BK133.out 3; have hfz5_4 := blk_frozen BK133.out 4; have hfz5_5 := blk_frozen BK133.out 5; have hfz5_6 := blk_frozen BK133.out 6; have hfz5_7 := blk_frozen BK133.out 7) | ((with_reducible refine gate_dst (N := 7) rfl ?_); refine Kd.R_lit k23 _ 23 ?hg (N := 7) ?hd (xs := ([(⟨a0_0, a0_1, a0_2, a0_3, a0_4, a0_5, a0_6, a0_7⟩ : S23)] : List (S23))) (inner := [.string a0_0, .int .i64 a0_1, .int .i64 a0_2, .int .i64 a0_3, .int .i64 a0_4, .int .i64 a0_5, .int .i64 a0_6, .bool a0_7]) (ok := fun _ => True) (okp := fun _ => True) ?hr ?hp (fun _ hk => hk) trivial (Below.refl _ _) (Nat.le_refl _) (by simp) ?_; (case hd => rfl); (case hg => rfl); (case hr => first | (go_simp; done) | (go_simp; rfl)); (case hp => exact (Reps.c8 (show Kd.M k23 _ _ _ (⟨a0_0, a0_1, a0_2, a0_3, a0_4, a0_5, a0_6, a0_7⟩ : S23) [.string a0_0, .int .i64 a0_1, .int .i64 a0_2, .int .i64 a0_3, .int .i64 a0_4, .int .i64 a0_5, .int .i64 a0_6, .bool a0_7] from (k23_mkM _ _ _ (⟨a0_0, a0_1, a0_2, a0_3, a0_4, a0_5, a0_6, a0_7⟩ : S23) )) (Reps.none _ _))); intro v135 w6 ho7 hb hg_ hnew_; clear hg_ hnew_; (first | rw [← Ny134.out] at ho7 | (simp only [Int.reduceToNat] at ho7; rw [← Ny134.out] at ho7)); have n0_ := Aside0.mk (Kd.R_lower (Kd.R_newB ho7 (g := gb133) (o := .cells #[.string a0_0, .int .i64 a0_1, .int .i64 a0_2, .int .i64 a0_3, .int .i64 a0_4, .int .i64 a0_5, .int .i64 a0_6, .bool a0_7] 23 (0, 0)) zQx5a10_) (below_size zQx5a5_)); have n1_ := Aside0.mk (blk_below (g := gb133) (o := .cells #[.string a0_0, .int .i64 a0_1, .int .i64 a0_2, .int .i64 a0_3, .int .i64 a0_4, .int .i64 a0_5, .int .i64 a0_6, .bool a0_7] 23 (0, 0)) zQx5a10_ hb); have n2_ := Aside0.mk (below_step zQx5a5_ hb); clear BK133; clear HB; have HO136 := n0_; have BK133 := n1_; have HB := n2_; clear n0_ n1_ n2_; clear hb ho7; obtain ⟨Ao8, co8, eo8⟩ := Kd.R_slice HO136.out; subst eo8) | ((with_reducible refine gate_callee (f := 16) rfl ?_); refine goesL_ (some 8) rfl rfl Tryd.func16 (by kernel_rfl) rfl #[.slice Ao8 y134.length co8] rfl zQx5a7_ ?_; (with_reducible refine (table_Check.calls k _ _ y134 t137 t138 _ ?side1 ?side2 (Val.Laid.below hLd_ zQx5a5_) A2.out).mono ?_); (case side1 => repeat (first | exact (Kd.R_reads' HO136.out).2.2 | (with_reducible refine Kd.C_alloc ?_ _) | (with_reducible refine Kd.C_drewN ?_ _) | (with_reducible refine Kd.C_drew ?_))); (case side2 => exact (Kd.R_reads' HO136.out).2.1); rintro e w9 ⟨rfl, hb⟩; refine ⟨_, rfl, ?_⟩; have n0_ := Aside0.mk (Kd.R_below zQx5a15_ hb); have n1_ := Aside0.mk (blk_below (g := gb133) (o := .cells #[.string a0_0, .int .i64 a0_1, .int .i64 a0_2, .int .i64 a0_3, .int .i64 a0_4, .int .i64 a0_5, .int .i64 a0_6, .bool a0_7] 23 (0, 0)) zQx5a10_ hb); have n2_ := Aside0.mk (below_step zQx5a5_ hb); clear HO136; clear BK133; clear HB; have HO136 := n0_; have BK133 := n1_; have HB := n2_; clear n0_ n1_ n2_; (try clear hb); (try clear hb2); (try clear hk); (try clear hi)))
  go_ret
  exact ⟨zQx5a9_, zQx5a5_⟩
 rw [if_neg c3] at H
 have c3b0 : (t138 == 0) = false := beq_eq_false_iff_ne.mpr c3
 have c3b1 : (t138 != 0) = true := bne_iff_ne.mpr c3
 obtain rfl := Option.some.inj H
 go_enter Tryd.func27, Tryd.ntmps27
 go_wp2_with (first | ((with_reducible refine gate_dst (N := 1) rfl ?_); refine box_event ?hg (N := 1) ?hd (cs := #[.string a0_0, .int .i64 a0_1, .int .i64 a0_2, .int .i64 a0_3, .int .i64 a0_4, .int .i64 a0_5, .int .i64 a0_6, .bool a0_7]) (t := 23) ?hr ?_; (case hd => rfl); (case hg => rfl); (case hr => first | (go_simp; done) | (go_simp; rfl)); intro gb133 hg w10 hbox hb; have n0_ := Aside0.mk (below_step zQx5a3_ hb); have n1_ := Aside0.mk (hbox); have n2_ := Aside0.mk ((by rw [hg]; exact (below_size zQx5a3_) : w.heap.size ≤ gb133)); have n3_ := Aside0.mk ((by rw [hg]; exact (below_size zQx5a3_) : w.heap.size ≤ gb133)); clear HB; have HB := n0_; have BK133 := n1_; have GW133 := n2_; have GE133 := n3_; clear n0_ n1_ n2_ n3_; clear hb hbox hg; have hcz11_0 : w10.cell? ⟨gb133, 0, none⟩ = some (.string a0_0) := (blk_cell BK133.out 0).trans rfl; have hcz11_1 : w10.cell? ⟨gb133, 1, none⟩ = some (.int .i64 a0_1) := (blk_cell BK133.out 1).trans rfl; have hcz11_2 : w10.cell? ⟨gb133, 2, none⟩ = some (.int .i64 a0_2) := (blk_cell BK133.out 2).trans rfl; have hcz11_3 : w10.cell? ⟨gb133, 3, none⟩ = some (.int .i64 a0_3) := (blk_cell BK133.out 3).trans rfl; have hcz11_4 : w10.cell? ⟨gb133, 4, none⟩ = some (.int .i64 a0_4) := (blk_cell BK133.out 4).trans rfl; have hcz11_5 : w10.cell? ⟨gb133, 5, none⟩ = some (.int .i64 a0_5) := (blk_cell BK133.out 5).trans rfl; have hcz11_6 : w10.cell? ⟨gb133, 6, none⟩ = some (.int .i64 a0_6) := (blk_cell BK133.out 6).trans rfl; have hcz11_7 : w10.cell? ⟨gb133, 7, none⟩ = some (.bool a0_7) := (blk_cell BK133.out 7).trans rfl; have hfz11_0 := blk_frozen BK133.out 0; have hfz11_1 := blk_frozen BK133.out 1; have hfz11_2 := blk_frozen BK133.out 2; have hfz11_3 := blk_frozen BK133.out 3; have hfz11_4 := blk_frozen BK133.out 4; have hfz11_5 := blk_frozen BK133.out 5; have hfz11_6 := blk_frozen BK133.out 6; have hfz11_7 := blk_frozen BK133.out 7) | ((with_reducible refine gate_dst (N := 7) rfl ?_); refine Kd.R_lit k23 _ 23 ?hg (N := 7) ?hd (xs := ([(⟨a0_0, a0_1, a0_2, a0_3, a0_4, a0_5, a0_6, a0_7⟩ : S23)] : List (S23))) (inner := [.string a0_0, .int .i64 a0_1, .int .i64 a0_2, .int .i64 a0_3, .int .i64 a0_4, .int .i64 a0_5, .int .i64 a0_6, .bool a0_7]) (ok := fun _ => True) (okp := fun _ => True) ?hr ?hp (fun _ hk => hk) trivial (Below.refl _ _) (Nat.le_refl _) (by simp) ?_; (case hd => rfl); (case hg => rfl); (case hr => first | (go_simp; done) | (go_simp; rfl)); (case hp => exact (Reps.c8 (show Kd.M k23 _ _ _ (⟨a0_0, a0_1, a0_2, a0_3, a0_4, a0_5, a0_6, a0_7⟩ : S23) [.string a0_0, .int .i64 a0_1, .int .i64 a0_2, .int .i64 a0_3, .int .i64 a0_4, .int .i64 a0_5, .int .i64 a0_6, .bool a0_7] from (k23_mkM _ _ _ (⟨a0_0, a0_1, a0_2, a0_3, a0_4, a0_5, a0_6, a0_7⟩ : S23) )) (Reps.none _ _))); intro v135 w12 ho13 hb hg_ hnew_; clear hg_ hnew_; (first | rw [← Ny134.out] at ho13 | (simp only [Int.reduceToNat] at ho13; rw [← Ny134.out] at ho13)); have n0_ := Aside0.mk (Kd.R_lower (Kd.R_newB ho13 (g := gb133) (o := .cells #[.string a0_0, .int .i64 a0_1, .int .i64 a0_2, .int .i64 a0_3, .int .i64 a0_4, .int .i64 a0_5, .int .i64 a0_6, .bool a0_7] 23 (0, 0)) zQx5a10_) (below_size zQx5a5_)); have n1_ := Aside0.mk (blk_below (g := gb133) (o := .cells #[.string a0_0, .int .i64 a0_1, .int .i64 a0_2, .int .i64 a0_3, .int .i64 a0_4, .int .i64 a0_5, .int .i64 a0_6, .bool a0_7] 23 (0, 0)) zQx5a10_ hb); have n2_ := Aside0.mk (below_step zQx5a5_ hb); clear BK133; clear HB; have HO136 := n0_; have BK133 := n1_; have HB := n2_; clear n0_ n1_ n2_; clear hb ho13; obtain ⟨Ao14, co14, eo14⟩ := Kd.R_slice HO136.out; subst eo14) | ((with_reducible refine gate_callee (f := 16) rfl ?_); refine goesL_ (some 8) rfl rfl Tryd.func16 (by kernel_rfl) rfl #[.slice Ao14 y134.length co14] rfl zQx5a7_ ?_; (with_reducible refine (table_Check.calls k _ _ y134 t137 t138 _ ?side1 ?side2 (Val.Laid.below hLd_ zQx5a5_) A2.out).mono ?_); (case side1 => repeat (first | exact (Kd.R_reads' HO136.out).2.2 | (with_reducible refine Kd.C_alloc ?_ _) | (with_reducible refine Kd.C_drewN ?_ _) | (with_reducible refine Kd.C_drew ?_))); (case side2 => exact (Kd.R_reads' HO136.out).2.1); rintro e w15 ⟨rfl, hb⟩; refine ⟨_, rfl, ?_⟩; have n0_ := Aside0.mk (Kd.R_below zQx5a15_ hb); have n1_ := Aside0.mk (blk_below (g := gb133) (o := .cells #[.string a0_0, .int .i64 a0_1, .int .i64 a0_2, .int .i64 a0_3, .int .i64 a0_4, .int .i64 a0_5, .int .i64 a0_6, .bool a0_7] 23 (0, 0)) zQx5a10_ hb); have n2_ := Aside0.mk (below_step zQx5a5_ hb); clear HO136; clear BK133; clear HB; have HO136 := n0_; have BK133 := n1_; have HB := n2_; clear n0_ n1_ n2_; (try clear hb); (try clear hb2); (try clear hk); (try clear hi)))
 go_ret
 exact ⟨zQx5a9_, zQx5a5_⟩
end Go.Proofs.YtenbkjeflancaaaDoor.Q
