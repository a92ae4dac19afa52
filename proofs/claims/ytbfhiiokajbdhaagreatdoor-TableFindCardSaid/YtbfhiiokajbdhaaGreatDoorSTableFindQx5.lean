/- What the proof of TableFind leans on: Qx5. -/
import Derived.Test.YtbfhiiokajbdhaaGreatDoorSTableFindQx0
import Derived.Test.YtbfhiiokajbdhaaGreatDoorSTableFindTabF
import Derived.Test.YtbfhiiokajbdhaaGreatDoorSTableFindQx3
import Derived.Test.YtbfhiiokajbdhaaGreatDoorSTableFindQx4
namespace Go.Proofs.YtbfhiiokajbdhaaGreatDoor.Q
open Go.RowKit Go.Proofs.YtbfhiiokajbdhaaGreatDoorW.PrintWords Go.Proofs.YtbfhiiokajbdhaaGreatDoorW.PrintLast Go.Proofs.YtbfhiiokajbdhaaGreatDoorW.PrintMore
attribute [local go_sem] max2_int max_two
set_option linter.unusedVariables false
set_option linter.unusedSimpArgs false
theorem zQx5a0_ {P_ : Prop} (h_ : P_ := by (with_reducible repeat (first | refine blk_drewN ?_ _ | refine blk_drew ?_ | refine blk_alloc ?_ _)); refine blk_put (cs := #[.string t114, .int .i64 t115, .int .i64 t116, .int .i64 t117, .int .i64 t118, .int .i64 t119, .int .i64 t120, .bool false]) ?_ 7 _ rfl; (with_reducible repeat (first | refine blk_drewN ?_ _ | refine blk_drew ?_ | refine blk_alloc ?_ _)); refine blk_put (cs := #[.string t114, .int .i64 t115, .int .i64 t116, .int .i64 t117, .int .i64 t118, .int .i64 t119, .int .i64 0, .bool false]) ?_ 6 _ rfl; (with_reducible repeat (first | refine blk_drewN ?_ _ | refine blk_drew ?_ | refine blk_alloc ?_ _)); refine blk_put (cs := #[.string t114, .int .i64 t115, .int .i64 t116, .int .i64 t117, .int .i64 t118, .int .i64 0, .int .i64 0, .bool false]) ?_ 5 _ rfl; (with_reducible repeat (first | refine blk_drewN ?_ _ | refine blk_drew ?_ | refine blk_alloc ?_ _)); refine blk_put (cs := #[.string t114, .int .i64 t115, .int .i64 t116, .int .i64 t117, .int .i64 0, .int .i64 0, .int .i64 0, .bool false]) ?_ 4 _ rfl; (with_reducible repeat (first | refine blk_drewN ?_ _ | refine blk_drew ?_ | refine blk_alloc ?_ _)); refine blk_put (cs := #[.string t114, .int .i64 t115, .int .i64 t116, .int .i64 0, .int .i64 0, .int .i64 0, .int .i64 0, .bool false]) ?_ 3 _ rfl; (with_reducible repeat (first | refine blk_drewN ?_ _ | refine blk_drew ?_ | refine blk_alloc ?_ _)); refine blk_put (cs := #[.string t114, .int .i64 t115, .int .i64 0, .int .i64 0, .int .i64 0, .int .i64 0, .int .i64 0, .bool false]) ?_ 2 _ rfl; (with_reducible repeat (first | refine blk_drewN ?_ _ | refine blk_drew ?_ | refine blk_alloc ?_ _)); refine blk_put (cs := #[.string t114, .int .i64 0, .int .i64 0, .int .i64 0, .int .i64 0, .int .i64 0, .int .i64 0, .bool false]) ?_ 1 _ rfl; (with_reducible repeat (first | refine blk_drewN ?_ _ | refine blk_drew ?_ | refine blk_alloc ?_ _)); refine blk_put (cs := #[.string (⟨#[]⟩ : ByteArray), .int .i64 0, .int .i64 0, .int .i64 0, .int .i64 0, .int .i64 0, .int .i64 0, .bool false]) ?_ 0 _ rfl; (with_reducible repeat (first | refine blk_drewN ?_ _ | refine blk_drew ?_ | refine blk_alloc ?_ _)); exact BK123.out) : P_ := h_
theorem zQx5a1_ {P_ : Prop} (h_ : P_ := by (with_reducible repeat (first | refine blk_drewN ?_ _ | refine blk_drew ?_ | refine blk_alloc ?_ _)); refine blk_far ?_ NB113_123.out _; (with_reducible repeat (first | refine blk_drewN ?_ _ | refine blk_drew ?_ | refine blk_alloc ?_ _)); refine blk_far ?_ NB113_123.out _; (with_reducible repeat (first | refine blk_drewN ?_ _ | refine blk_drew ?_ | refine blk_alloc ?_ _)); refine blk_far ?_ NB113_123.out _; (with_reducible repeat (first | refine blk_drewN ?_ _ | refine blk_drew ?_ | refine blk_alloc ?_ _)); refine blk_far ?_ NB113_123.out _; (with_reducible repeat (first | refine blk_drewN ?_ _ | refine blk_drew ?_ | refine blk_alloc ?_ _)); refine blk_far ?_ NB113_123.out _; (with_reducible repeat (first | refine blk_drewN ?_ _ | refine blk_drew ?_ | refine blk_alloc ?_ _)); refine blk_far ?_ NB113_123.out _; (with_reducible repeat (first | refine blk_drewN ?_ _ | refine blk_drew ?_ | refine blk_alloc ?_ _)); refine blk_far ?_ NB113_123.out _; (with_reducible repeat (first | refine blk_drewN ?_ _ | refine blk_drew ?_ | refine blk_alloc ?_ _)); refine blk_far ?_ NB113_123.out _; (with_reducible repeat (first | refine blk_drewN ?_ _ | refine blk_drew ?_ | refine blk_alloc ?_ _)); exact BK113.out) : P_ := h_
theorem zQx5a2_ {P_ : Prop} (h_ : P_ := by repeat (first | (with_reducible first | exact HB.out | apply below_alloc | apply pw_below_drewN | apply below_drew1 | refine below_set ?_ GE113.out | refine below_set ?_ GE123.out) | exact HB.out)) : P_ := h_
theorem zQx5a3_ {P_ : Prop} (h_ : P_ := by (with_reducible repeat (first | refine blk_drewN ?_ _ | refine blk_drew ?_ | refine blk_alloc ?_ _)); exact BK113.out) : P_ := h_
theorem zQx5a4_ {P_ : Prop} (h_ : P_ := by repeat (first | (with_reducible first | exact HB.out | apply below_alloc | apply pw_below_drewN | apply below_drew1 | refine below_set ?_ GE113.out) | exact HB.out)) : P_ := h_
theorem zQx5a5_ {P_ : Prop} (h_ : P_ := by (try simp only [List.map_toArray, List.map_cons, List.map_nil]); first | done | rfl | (simp only [List.length_drop, List.length_take]; rfl)) : P_ := h_
theorem zQx5a6_ {P_ : Prop} (h_ : P_ := by (with_reducible repeat (first | refine blk_drewN ?_ _ | refine blk_drew ?_ | refine blk_alloc ?_ _)); exact BK123.out) : P_ := h_
theorem zQx5a7_ {P_ : Prop} (h_ : P_ := by repeat (first | (with_reducible first | exact HB.out | apply below_alloc | apply pw_below_drewN | apply below_drew1) | exact HB.out)) : P_ := h_
theorem zQx5a8_ {P_ : Prop} (h_ : P_ := by first | rfl | (simp [errW_none, errW_some] <;> rfl) | (simp [*, errW_none, errW_some] <;> rfl)) : P_ := h_
def table_next.j0 : Nat → List (S34) → Bool → ByteArray → Int → Int → Int → Int → Int → Int → Bool → Option (Int)
 | 0, _, _, _, _, _, _, _, _, _, _ => none
 | k + 1, x0, x14, x114000, x114001, x114002, x114003, x114004, x114005, x114006, x114007 => if x14 = true then (some 210) else ((table_ranged.f k x114000 x114001 x114002 x114003 x114004 x114005 x114006 x114007).bind fun t125 => (if t125 = true then (if (x0.length : Int) ≥ 64 then (some 6) else (some 0)) else (some 220)))
def table_next.f (k : Nat) (l0 : List (S34)) (a1_0 : ByteArray) (a1_1 : Int) (a1_2 : Int) (a1_3 : Int) (a1_4 : Int) (a1_5 : Int) (a1_6 : Int) (a1_7 : Bool) : Option (Int) := (table_Find.f l0 a1_0).bind fun bt114 => (if bt114.2.2.2.2.2.2.2.2 = true then (table_next.j0 k l0 true a1_0 a1_1 a1_2 a1_3 a1_4 a1_5 a1_6 a1_7) else ((table_named.f a1_0).bind fun t124 => (table_next.j0 k l0 (!t124) a1_0 a1_1 a1_2 a1_3 a1_4 a1_5 a1_6 a1_7)))
set_option maxHeartbeats 8000000 in
set_option maxRecDepth 100000 in
theorem table_next.calls (k : Nat) (A0 : Option Addr) (c0 : Nat) (l0 : List (S34)) (a1_0 : ByteArray) (a1_1 : Int) (a1_2 : Int) (a1_3 : Int) (a1_4 : Int) (a1_5 : Int) (a1_6 : Int) (a1_7 : Bool) (r : Int) (w : World) (hr0 : Kd.C k34 w A0 l0.length l0) (hc0 : l0.length ≤ c0) (hLd_ : Val.Laid w) (h : table_next.f k l0 a1_0 a1_1 a1_2 a1_3 a1_4 a1_5 a1_6 a1_7 = some r) :
  Calls Tryz.prog 24 #[.slice A0 l0.length c0, .agg #[.string a1_0, .int .i64 a1_1, .int .i64 a1_2, .int .i64 a1_3, .int .i64 a1_4, .int .i64 a1_5, .int .i64 a1_6, .bool a1_7]] w fun e w' => e = .returned (.int .i64 r) ∧ Below w.heap.size w w' := by
 have hu34 := Tryz.underlying34
 have HR0 := Aside0.mk hr0
 have HC0 := Aside0.mk hc0
 clear hr0 hc0
 have HB := Aside0.mk (Below.refl w.heap.size w)
 have H : ((table_Find.f l0 a1_0).bind fun bt114 => (if bt114.2.2.2.2.2.2.2.2 = true then (table_next.j0 k l0 true a1_0 a1_1 a1_2 a1_3 a1_4 a1_5 a1_6 a1_7) else ((table_named.f a1_0).bind fun t124 => (table_next.j0 k l0 (!t124) a1_0 a1_1 a1_2 a1_3 a1_4 a1_5 a1_6 a1_7)))) = some r := h
 clear h
 replace H := Option.bind_eq_some_iff.mp H
 obtain ⟨⟨t114, t115, t116, t117, t118, t119, t120, t121, t122⟩, A30, H⟩ := H
 replace H : (if t122 = true then (table_next.j0 k l0 true a1_0 a1_1 a1_2 a1_3 a1_4 a1_5 a1_6 a1_7) else ((table_named.f a1_0).bind fun t124 => (table_next.j0 k l0 (!t124) a1_0 a1_1 a1_2 a1_3 a1_4 a1_5 a1_6 a1_7))) = some r := H
 have A3 := Aside0.mk A30
 clear A30
 have HC4 := Aside0.mk H
 clear H
 go_enter Tryz.func24, Tryz.ntmps24
 go_upto_region 2 with (first | ((with_reducible refine gate_dst (N := 3) rfl ?_); refine box_event ?hg (N := 3) ?hd (cs := #[.string a1_0, .int .i64 a1_1, .int .i64 a1_2, .int .i64 a1_3, .int .i64 a1_4, .int .i64 a1_5, .int .i64 a1_6, .bool a1_7]) (t := 34) ?hr ?_; (case hd => rfl); (case hg => rfl); (case hr => first | (go_simp; done) | (go_simp; rfl)); intro gb113 hg w5 hbox hb; have n0_ := Aside0.mk (below_step zQx5a7_ hb); have n1_ := Aside0.mk (hbox); have n2_ := Aside0.mk ((by rw [hg]; exact (below_size zQx5a7_) : w.heap.size ≤ gb113)); have n3_ := Aside0.mk ((by rw [hg]; exact (below_size zQx5a7_) : w.heap.size ≤ gb113)); clear HB; have HB := n0_; have BK113 := n1_; have GW113 := n2_; have GE113 := n3_; clear n0_ n1_ n2_ n3_; clear hb hbox hg; have hcz6_0 : w5.cell? ⟨gb113, 0, none⟩ = some (.string a1_0) := (blk_cell BK113.out 0).trans rfl; have hcz6_1 : w5.cell? ⟨gb113, 1, none⟩ = some (.int .i64 a1_1) := (blk_cell BK113.out 1).trans rfl; have hcz6_2 : w5.cell? ⟨gb113, 2, none⟩ = some (.int .i64 a1_2) := (blk_cell BK113.out 2).trans rfl; have hcz6_3 : w5.cell? ⟨gb113, 3, none⟩ = some (.int .i64 a1_3) := (blk_cell BK113.out 3).trans rfl; have hcz6_4 : w5.cell? ⟨gb113, 4, none⟩ = some (.int .i64 a1_4) := (blk_cell BK113.out 4).trans rfl; have hcz6_5 : w5.cell? ⟨gb113, 5, none⟩ = some (.int .i64 a1_5) := (blk_cell BK113.out 5).trans rfl; have hcz6_6 : w5.cell? ⟨gb113, 6, none⟩ = some (.int .i64 a1_6) := (blk_cell BK113.out 6).trans rfl; have hcz6_7 : w5.cell? ⟨gb113, 7, none⟩ = some (.bool a1_7) := (blk_cell BK113.out 7).trans rfl; have hfz6_0 := blk_frozen BK113.out 0; have hfz6_1 := blk_frozen BK113.out 1; have hfz6_2 := blk_frozen BK113.out 2; have hfz6_3 := blk_frozen BK113.out 3; have hfz6_4 := blk_frozen BK113.out 4; have hfz6_5 := blk_frozen BK113.out 5; have hfz6_6 := blk_frozen BK113.out 6; have hfz6_7 := blk_frozen BK113.out 7) | ((with_reducible refine gate_callee (f := 15) rfl ?_); refine goesL_ (some 11) rfl rfl Tryz.func15 (by kernel_rfl) rfl #[.slice A0 l0.length c0, .string a1_0] rfl zQx5a5_ ?_; (with_reducible refine (table_Find.calls _ _ l0 a1_0 t114 t115 t116 t117 t118 t119 t120 t121 t122 _ ?side1 ?side2 A3.out).mono ?_); (case side1 => repeat (first | exact (Kd.C_below HR0.out HB.out) | (with_reducible refine Kd.C_alloc ?_ _) | (with_reducible refine Kd.C_drewN ?_ _) | (with_reducible refine Kd.C_drew ?_))); (case side2 => exact HC0.out); rintro e w7 ⟨rfl, hb⟩; refine ⟨_, rfl, ?_⟩; have n0_ := Aside0.mk (blk_below (g := gb113) (o := .cells #[.string a1_0, .int .i64 a1_1, .int .i64 a1_2, .int .i64 a1_3, .int .i64 a1_4, .int .i64 a1_5, .int .i64 a1_6, .bool a1_7] 34 (0, 0)) zQx5a3_ hb); have n1_ := Aside0.mk (below_step zQx5a4_ hb); clear BK113; clear HB; have BK113 := n0_; have HB := n1_; clear n0_ n1_; (try clear hb); (try clear hb2); (try clear hk); (try clear hi)) | ((with_reducible refine gate_dst (N := 5) rfl ?_); refine box_event ?hg (N := 5) ?hd (cs := #[.string (⟨#[]⟩ : ByteArray), .int .i64 0, .int .i64 0, .int .i64 0, .int .i64 0, .int .i64 0, .int .i64 0, .bool false]) (t := 34) ?hr ?_; (case hd => rfl); (case hg => rfl); (case hr => first | (go_simp; done) | (go_simp; rfl)); intro gb123 hg w8 hbox hb; have n0_ := Aside0.mk (blk_below (g := gb113) (o := .cells #[.string a1_0, .int .i64 a1_1, .int .i64 a1_2, .int .i64 a1_3, .int .i64 a1_4, .int .i64 a1_5, .int .i64 a1_6, .bool a1_7] 34 (0, 0)) zQx5a3_ hb); have n1_ := Aside0.mk (below_step zQx5a4_ hb); have n2_ := Aside0.mk (hbox); have n3_ := Aside0.mk ((by rw [hg]; exact (below_size zQx5a4_) : w.heap.size ≤ gb123)); have n4_ := Aside0.mk ((by rw [hg]; exact (below_size zQx5a4_) : w.heap.size ≤ gb123)); have n5_ := Aside0.mk ((by rw [hg]; exact Nat.ne_of_lt (blk_lt (g := gb113) (o := .cells #[.string a1_0, .int .i64 a1_1, .int .i64 a1_2, .int .i64 a1_3, .int .i64 a1_4, .int .i64 a1_5, .int .i64 a1_6, .bool a1_7] 34 (0, 0)) zQx5a3_) : gb113 ≠ gb123)); have n6_ := Aside0.mk ((by rw [hg]; exact Nat.ne_of_gt (blk_lt (g := gb113) (o := .cells #[.string a1_0, .int .i64 a1_1, .int .i64 a1_2, .int .i64 a1_3, .int .i64 a1_4, .int .i64 a1_5, .int .i64 a1_6, .bool a1_7] 34 (0, 0)) zQx5a3_) : gb123 ≠ gb113)); clear BK113; clear HB; have BK113 := n0_; have HB := n1_; have BK123 := n2_; have GW123 := n3_; have GE123 := n4_; have NB113_123 := n5_; have NB123_113 := n6_; clear n0_ n1_ n2_ n3_ n4_ n5_ n6_; clear hb hbox hg; have hnb9 := NB123_113.out; have hnc9 := NB113_123.out; have hcz10_0 : w8.cell? ⟨gb123, 0, none⟩ = some (.string (⟨#[]⟩ : ByteArray)) := (blk_cell BK123.out 0).trans rfl; have hcz10_1 : w8.cell? ⟨gb123, 1, none⟩ = some (.int .i64 0) := (blk_cell BK123.out 1).trans rfl; have hcz10_2 : w8.cell? ⟨gb123, 2, none⟩ = some (.int .i64 0) := (blk_cell BK123.out 2).trans rfl; have hcz10_3 : w8.cell? ⟨gb123, 3, none⟩ = some (.int .i64 0) := (blk_cell BK123.out 3).trans rfl; have hcz10_4 : w8.cell? ⟨gb123, 4, none⟩ = some (.int .i64 0) := (blk_cell BK123.out 4).trans rfl; have hcz10_5 : w8.cell? ⟨gb123, 5, none⟩ = some (.int .i64 0) := (blk_cell BK123.out 5).trans rfl; have hcz10_6 : w8.cell? ⟨gb123, 6, none⟩ = some (.int .i64 0) := (blk_cell BK123.out 6).trans rfl; have hcz10_7 : w8.cell? ⟨gb123, 7, none⟩ = some (.bool false) := (blk_cell BK123.out 7).trans rfl; have hfz10_0 := blk_frozen BK123.out 0; have hfz10_1 := blk_frozen BK123.out 1; have hfz10_2 := blk_frozen BK123.out 2; have hfz10_3 := blk_frozen BK123.out 3; have hfz10_4 := blk_frozen BK123.out 4; have hfz10_5 := blk_frozen BK123.out 5; have hfz10_6 := blk_frozen BK123.out 6; have hfz10_7 := blk_frozen BK123.out 7))
 (try simp only [Act.put, List.setIfInBounds_toArray, List.set_cons_zero, List.set_cons_succ])
 go_cut [14] (fun v14 wc => ∃ (kq : Nat) (x14_3 : Bool), v14 = .bool x14_3 ∧ Aside0 (table_next.j0 kq l0 x14_3 a1_0 a1_1 a1_2 a1_3 a1_4 a1_5 a1_6 a1_7 = some r) ∧ Aside0 (kq ≤ k) ∧ Aside0 (wc.heap[gb113]? = some (.cells #[.string a1_0, .int .i64 a1_1, .int .i64 a1_2, .int .i64 a1_3, .int .i64 a1_4, .int .i64 a1_5, .int .i64 a1_6, .bool a1_7] 34 (0, 0))) ∧ Aside0 (wc.heap[gb123]? = some (.cells #[.string t114, .int .i64 t115, .int .i64 t116, .int .i64 t117, .int .i64 t118, .int .i64 t119, .int .i64 t120, .bool t121] 34 (0, 0))) ∧ Aside0 (Below w.heap.size w wc))
 case first =>
  have H := HC4.out
  clear HC4
  by_cases c11 : t122 = true
  ·
   subst c11
   have H1 : (table_next.j0 k l0 true a1_0 a1_1 a1_2 a1_3 a1_4 a1_5 a1_6 a1_7) = some r := by rw [if_pos rfl] at H; exact H
   clear H
   have H := H1
   clear H1
   have H' := Aside0.mk H
   clear H
   go_wp2
   go_meet
   case rel => exact ⟨_, (true), (by first | rfl | (simp; done) | (simp [*]; done)), H', ⟨by first | omega | exact Nat.le_refl _⟩, ⟨zQx5a1_⟩, ⟨zQx5a0_⟩, ⟨zQx5a2_⟩⟩
  replace c11 := Bool.eq_false_iff.mpr c11
  subst c11
  have H1 : ((table_named.f a1_0).bind fun t124 => (table_next.j0 k l0 (!t124) a1_0 a1_1 a1_2 a1_3 a1_4 a1_5 a1_6 a1_7)) = some r := by rw [if_neg (show ¬ (false = true) by decide)] at H; exact H
  clear H
  have H := H1
  clear H1
  replace H := Option.bind_eq_some_iff.mp H
  obtain ⟨t124, A120, H⟩ := H
  replace H : (table_next.j0 k l0 (!t124) a1_0 a1_1 a1_2 a1_3 a1_4 a1_5 a1_6 a1_7) = some r := H
  have A12 := Aside0.mk A120
  clear A120
  have H' := Aside0.mk H
  clear H
  have hnb13 := NB113_123.out
  have hnc13 := NB123_113.out
  have hcz14_0 : w8.cell? ⟨gb113, 0, none⟩ = some (.string a1_0) := (blk_cell BK113.out 0).trans rfl
  have hcz14_1 : w8.cell? ⟨gb113, 1, none⟩ = some (.int .i64 a1_1) := (blk_cell BK113.out 1).trans rfl
  have hcz14_2 : w8.cell? ⟨gb113, 2, none⟩ = some (.int .i64 a1_2) := (blk_cell BK113.out 2).trans rfl
  have hcz14_3 : w8.cell? ⟨gb113, 3, none⟩ = some (.int .i64 a1_3) := (blk_cell BK113.out 3).trans rfl
  have hcz14_4 : w8.cell? ⟨gb113, 4, none⟩ = some (.int .i64 a1_4) := (blk_cell BK113.out 4).trans rfl
  have hcz14_5 : w8.cell? ⟨gb113, 5, none⟩ = some (.int .i64 a1_5) := (blk_cell BK113.out 5).trans rfl
  have hcz14_6 : w8.cell? ⟨gb113, 6, none⟩ = some (.int .i64 a1_6) := (blk_cell BK113.out 6).trans rfl
  have hcz14_7 : w8.cell? ⟨gb113, 7, none⟩ = some (.bool a1_7) := (blk_cell BK113.out 7).trans rfl
  have hfz14_0 := blk_frozen BK113.out 0
  have hfz14_1 := blk_frozen BK113.out 1
  have hfz14_2 := blk_frozen BK113.out 2
  have hfz14_3 := blk_frozen BK113.out 3
  have hfz14_4 := blk_frozen BK113.out 4
  have hfz14_5 := blk_frozen BK113.out 5
  have hfz14_6 := blk_frozen BK113.out 6
  have hfz14_7 := blk_frozen BK113.out 7
  go_wp2_with (first | (go_at_call 46; (with_reducible refine (table_named.calls a1_0 t124 _ (Val.Laid.below hLd_ zQx5a2_) A12.out).mono ?_); rintro e w15 ⟨rfl, hb⟩; have n0_ := Aside0.mk (blk_below (g := gb113) (o := .cells #[.string a1_0, .int .i64 a1_1, .int .i64 a1_2, .int .i64 a1_3, .int .i64 a1_4, .int .i64 a1_5, .int .i64 a1_6, .bool a1_7] 34 (0, 0)) zQx5a1_ hb); have n1_ := Aside0.mk (blk_below (g := gb123) (o := .cells #[.string t114, .int .i64 t115, .int .i64 t116, .int .i64 t117, .int .i64 t118, .int .i64 t119, .int .i64 t120, .bool t121] 34 (0, 0)) zQx5a0_ hb); have n2_ := Aside0.mk (below_step zQx5a2_ hb); clear BK113; clear BK123; clear HB; have BK113 := n0_; have BK123 := n1_; have HB := n2_; clear n0_ n1_ n2_; (try clear hb); (try clear hb2); (try clear hk); (try clear hi)))
  go_meet
  case rel => exact ⟨_, (!t124), (by first | rfl | (simp; done) | (simp [*]; done)), H', ⟨by first | omega | exact Nat.le_refl _⟩, ⟨zQx5a3_⟩, ⟨zQx5a6_⟩, ⟨zQx5a2_⟩⟩
 case rest =>
  clear HC4
  try clear c1
  try clear c2
  try clear p2
  try clear c9
  try clear c11
  try clear c13
  try clear c15
  try clear hcz10_0
  try clear hcz10_1
  try clear hcz10_2
  try clear hcz10_3
  try clear hcz10_4
  try clear hcz10_5
  try clear hcz10_6
  try clear hcz10_7
  try clear hcz14_0
  try clear hcz14_1
  try clear hcz14_2
  try clear hcz14_3
  try clear hcz14_4
  try clear hcz14_5
  try clear hcz14_6
  try clear hcz14_7
  try clear hcz6_0
  try clear hcz6_1
  try clear hcz6_2
  try clear hcz6_3
  try clear hcz6_4
  try clear hcz6_5
  try clear hcz6_6
  try clear hcz6_7
  try clear hfz10_0
  try clear hfz10_1
  try clear hfz10_2
  try clear hfz10_3
  try clear hfz10_4
  try clear hfz10_5
  try clear hfz10_6
  try clear hfz10_7
  try clear hfz14_0
  try clear hfz14_1
  try clear hfz14_2
  try clear hfz14_3
  try clear hfz14_4
  try clear hfz14_5
  try clear hfz14_6
  try clear hfz14_7
  try clear hfz6_0
  try clear hfz6_1
  try clear hfz6_2
  try clear hfz6_3
  try clear hfz6_4
  try clear hfz6_5
  try clear hfz6_6
  try clear hfz6_7
  obtain ⟨kq, x14_3, rfl, HA, HJ3, BK113, BK123, HB⟩ := hcut
  cases kq with
  | zero => exact absurd HA.out (by simp [table_next.j0])
  | succ kj3 =>
   have H := HA.out
   clear HA
   simp only [table_next.j0] at H
   by_cases c16 : x14_3 = true
   ·
    subst c16
    have H1 : (some 210) = some r := by rw [if_pos rfl] at H; exact H
    clear H
    have H := H1
    clear H1
    obtain rfl := Option.some.inj H
    go_wp2
    go_ret
    exact ⟨zQx5a8_, zQx5a2_⟩
   replace c16 := Bool.eq_false_iff.mpr c16
   subst c16
   have H1 : ((table_ranged.f kj3 a1_0 a1_1 a1_2 a1_3 a1_4 a1_5 a1_6 a1_7).bind fun t125 => (if t125 = true then (if (l0.length : Int) ≥ 64 then (some 6) else (some 0)) else (some 220))) = some r := by rw [if_neg (show ¬ (false = true) by decide)] at H; exact H
   clear H
   have H := H1
   clear H1
   replace H := Option.bind_eq_some_iff.mp H
   obtain ⟨t125, A170, H⟩ := H
   replace H : (if t125 = true then (if (l0.length : Int) ≥ 64 then (some 6) else (some 0)) else (some 220)) = some r := H
   have A17 := Aside0.mk A170
   clear A170
   by_cases c18 : t125 = true
   rotate_left
   ·
    replace c18 := Bool.eq_false_iff.mpr c18
    subst c18
    have H1 : (some 220) = some r := by rw [if_neg (show ¬ (false = true) by decide)] at H; exact H
    clear H
    have H := H1
    clear H1
    obtain rfl := Option.some.inj H
    have hnb26 := NB113_123.out
    have hnc26 := NB123_113.out
    have hcz27_0 : wc.cell? ⟨gb113, 0, none⟩ = some (.string a1_0) := (blk_cell BK113.out 0).trans rfl
    have hcz27_1 : wc.cell? ⟨gb113, 1, none⟩ = some (.int .i64 a1_1) := (blk_cell BK113.out 1).trans rfl
    have hcz27_2 : wc.cell? ⟨gb113, 2, none⟩ = some (.int .i64 a1_2) := (blk_cell BK113.out 2).trans rfl
    have hcz27_3 : wc.cell? ⟨gb113, 3, none⟩ = some (.int .i64 a1_3) := (blk_cell BK113.out 3).trans rfl
    have hcz27_4 : wc.cell? ⟨gb113, 4, none⟩ = some (.int .i64 a1_4) := (blk_cell BK113.out 4).trans rfl
    have hcz27_5 : wc.cell? ⟨gb113, 5, none⟩ = some (.int .i64 a1_5) := (blk_cell BK113.out 5).trans rfl
    have hcz27_6 : wc.cell? ⟨gb113, 6, none⟩ = some (.int .i64 a1_6) := (blk_cell BK113.out 6).trans rfl
    have hcz27_7 : wc.cell? ⟨gb113, 7, none⟩ = some (.bool a1_7) := (blk_cell BK113.out 7).trans rfl
    have hfz27_0 := blk_frozen BK113.out 0
    have hfz27_1 := blk_frozen BK113.out 1
    have hfz27_2 := blk_frozen BK113.out 2
    have hfz27_3 := blk_frozen BK113.out 3
    have hfz27_4 := blk_frozen BK113.out 4
    have hfz27_5 := blk_frozen BK113.out 5
    have hfz27_6 := blk_frozen BK113.out 6
    have hfz27_7 := blk_frozen BK113.out 7
    go_wp2_with (first | ((with_reducible refine gate_callee (f := 47) rfl ?_); refine goesL_ (some 24) rfl rfl Tryz.func47 (by kernel_rfl) rfl #[.agg #[.string a1_0, .int .i64 a1_1, .int .i64 a1_2, .int .i64 a1_3, .int .i64 a1_4, .int .i64 a1_5, .int .i64 a1_6, .bool a1_7]] rfl zQx5a5_ ?_; (with_reducible refine (table_ranged.calls kj3 a1_0 a1_1 a1_2 a1_3 a1_4 a1_5 a1_6 a1_7 false _ A17.out).mono ?_); rintro e w28 ⟨rfl, hb⟩; refine ⟨_, rfl, ?_⟩; have n0_ := Aside0.mk (blk_below (g := gb113) (o := .cells #[.string a1_0, .int .i64 a1_1, .int .i64 a1_2, .int .i64 a1_3, .int .i64 a1_4, .int .i64 a1_5, .int .i64 a1_6, .bool a1_7] 34 (0, 0)) zQx5a3_ hb); have n1_ := Aside0.mk (blk_below (g := gb123) (o := .cells #[.string t114, .int .i64 t115, .int .i64 t116, .int .i64 t117, .int .i64 t118, .int .i64 t119, .int .i64 t120, .bool t121] 34 (0, 0)) zQx5a6_ hb); have n2_ := Aside0.mk (below_step zQx5a2_ hb); clear BK113; clear BK123; clear HB; have BK113 := n0_; have BK123 := n1_; have HB := n2_; clear n0_ n1_ n2_; (try clear hb); (try clear hb2); (try clear hk); (try clear hi)))
    go_ret
    exact ⟨zQx5a8_, zQx5a2_⟩
   subst c18
   have H1 : (if (l0.length : Int) ≥ 64 then (some 6) else (some 0)) = some r := by rw [if_pos rfl] at H; exact H
   clear H
   have H := H1
   clear H1
   by_cases c19 : (l0.length : Int) ≥ 64
   ·
    rw [if_pos c19] at H
    have c19b0 : decide (64 ≤ (l0.length : Int)) = true := decide_eq_true c19
    have c19b1 : decide (64 ≤ l0.length) = true := decide_eq_true (by omega)
    clear c19
    obtain rfl := Option.some.inj H
    have hnb20 := NB113_123.out
    have hnc20 := NB123_113.out
    have hcz21_0 : wc.cell? ⟨gb113, 0, none⟩ = some (.string a1_0) := (blk_cell BK113.out 0).trans rfl
    have hcz21_1 : wc.cell? ⟨gb113, 1, none⟩ = some (.int .i64 a1_1) := (blk_cell BK113.out 1).trans rfl
    have hcz21_2 : wc.cell? ⟨gb113, 2, none⟩ = some (.int .i64 a1_2) := (blk_cell BK113.out 2).trans rfl
    have hcz21_3 : wc.cell? ⟨gb113, 3, none⟩ = some (.int .i64 a1_3) := (blk_cell BK113.out 3).trans rfl
    have hcz21_4 : wc.cell? ⟨gb113, 4, none⟩ = some (.int .i64 a1_4) := (blk_cell BK113.out 4).trans rfl
    have hcz21_5 : wc.cell? ⟨gb113, 5, none⟩ = some (.int .i64 a1_5) := (blk_cell BK113.out 5).trans rfl
    have hcz21_6 : wc.cell? ⟨gb113, 6, none⟩ = some (.int .i64 a1_6) := (blk_cell BK113.out 6).trans rfl
    have hcz21_7 : wc.cell? ⟨gb113, 7, none⟩ = some (.bool a1_7) := (blk_cell BK113.out 7).trans rfl
    have hfz21_0 := blk_frozen BK113.out 0
    have hfz21_1 := blk_frozen BK113.out 1
    have hfz21_2 := blk_frozen BK113.out 2
    have hfz21_3 := blk_frozen BK113.out 3
    have hfz21_4 := blk_frozen BK113.out 4
    have hfz21_5 := blk_frozen BK113.out 5
    have hfz21_6 := blk_frozen BK113.out 6
    have hfz21_7 := blk_frozen BK113.out 7
    go_wp2_with (first | ((with_reducible refine gate_callee (f := 47) rfl ?_); refine goesL_ (some 24) rfl rfl Tryz.func47 (by kernel_rfl) rfl #[.agg #[.string a1_0, .int .i64 a1_1, .int .i64 a1_2, .int .i64 a1_3, .int .i64 a1_4, .int .i64 a1_5, .int .i64 a1_6, .bool a1_7]] rfl zQx5a5_ ?_; (with_reducible refine (table_ranged.calls kj3 a1_0 a1_1 a1_2 a1_3 a1_4 a1_5 a1_6 a1_7 true _ A17.out).mono ?_); rintro e w22 ⟨rfl, hb⟩; refine ⟨_, rfl, ?_⟩; have n0_ := Aside0.mk (blk_below (g := gb113) (o := .cells #[.string a1_0, .int .i64 a1_1, .int .i64 a1_2, .int .i64 a1_3, .int .i64 a1_4, .int .i64 a1_5, .int .i64 a1_6, .bool a1_7] 34 (0, 0)) zQx5a3_ hb); have n1_ := Aside0.mk (blk_below (g := gb123) (o := .cells #[.string t114, .int .i64 t115, .int .i64 t116, .int .i64 t117, .int .i64 t118, .int .i64 t119, .int .i64 t120, .bool t121] 34 (0, 0)) zQx5a6_ hb); have n2_ := Aside0.mk (below_step zQx5a2_ hb); clear BK113; clear BK123; clear HB; have BK113 := n0_; have BK123 := n1_; have HB := n2_; clear n0_ n1_ n2_; (try clear hb); (try clear hb2); (try clear hk); (try clear hi)))
    go_ret
    exact ⟨zQx5a8_, zQx5a2_⟩
   rw [if_neg c19] at H
   have c19b0 : decide (64 ≤ (l0.length : Int)) = false := decide_eq_false c19
   have c19b1 : decide (64 ≤ l0.length) = false := decide_eq_false (by omega)
   clear c19
   obtain rfl := Option.some.inj H
   have hnb23 := NB113_123.out
   have hnc23 := NB123_113.out
   have hcz24_0 : wc.cell? ⟨gb113, 0, none⟩ = some (.string a1_0) := (blk_cell BK113.out 0).trans rfl
   have hcz24_1 : wc.cell? ⟨gb113, 1, none⟩ = some (.int .i64 a1_1) := (blk_cell BK113.out 1).trans rfl
   have hcz24_2 : wc.cell? ⟨gb113, 2, none⟩ = some (.int .i64 a1_2) := (blk_cell BK113.out 2).trans rfl
   have hcz24_3 : wc.cell? ⟨gb113, 3, none⟩ = some (.int .i64 a1_3) := (blk_cell BK113.out 3).trans rfl
   have hcz24_4 : wc.cell? ⟨gb113, 4, none⟩ = some (.int .i64 a1_4) := (blk_cell BK113.out 4).trans rfl
   have hcz24_5 : wc.cell? ⟨gb113, 5, none⟩ = some (.int .i64 a1_5) := (blk_cell BK113.out 5).trans rfl
   have hcz24_6 : wc.cell? ⟨gb113, 6, none⟩ = some (.int .i64 a1_6) := (blk_cell BK113.out 6).trans rfl
   have hcz24_7 : wc.cell? ⟨gb113, 7, none⟩ = some (.bool a1_7) := (blk_cell BK113.out 7).trans rfl
   have hfz24_0 := blk_frozen BK113.out 0
   have hfz24_1 := blk_frozen BK113.out 1
   have hfz24_2 := blk_frozen BK113.out 2
   have hfz24_3 := blk_frozen BK113.out 3
   have hfz24_4 := blk_frozen BK113.out 4
   have hfz24_5 := blk_frozen BK113.out 5
   have hfz24_6 := blk_frozen BK113.out 6
   have hfz24_7 := blk_frozen BK113.out 7
   go_wp2_with (first | ((with_reducible refine gate_callee (f := 47) rfl ?_); refine goesL_ (some 24) rfl rfl Tryz.func47 (by kernel_rfl) rfl #[.agg #[.string a1_0, .int .i64 a1_1, .int .i64 a1_2, .int .i64 a1_3, .int .i64 a1_4, .int .i64 a1_5, .int .i64 a1_6, .bool a1_7]] rfl zQx5a5_ ?_; (with_reducible refine (table_ranged.calls kj3 a1_0 a1_1 a1_2 a1_3 a1_4 a1_5 a1_6 a1_7 true _ A17.out).mono ?_); rintro e w25 ⟨rfl, hb⟩; refine ⟨_, rfl, ?_⟩; have n0_ := Aside0.mk (blk_below (g := gb113) (o := .cells #[.string a1_0, .int .i64 a1_1, .int .i64 a1_2, .int .i64 a1_3, .int .i64 a1_4, .int .i64 a1_5, .int .i64 a1_6, .bool a1_7] 34 (0, 0)) zQx5a3_ hb); have n1_ := Aside0.mk (blk_below (g := gb123) (o := .cells #[.string t114, .int .i64 t115, .int .i64 t116, .int .i64 t117, .int .i64 t118, .int .i64 t119, .int .i64 t120, .bool t121] 34 (0, 0)) zQx5a6_ hb); have n2_ := Aside0.mk (below_step zQx5a2_ hb); clear BK113; clear BK123; clear HB; have BK113 := n0_; have BK123 := n1_; have HB := n2_; clear n0_ n1_ n2_; (try clear hb); (try clear hb2); (try clear hk); (try clear hi)))
   go_ret
   exact ⟨zQx5a8_, zQx5a2_⟩
end Go.Proofs.YtbfhiiokajbdhaaGreatDoor.Q
