/- What the proof of TablePrints leans on: Qx11. -/
import Derived.Test.YtbfhiiokajbdhaaGreatDoorSTablePrintsQx0
import Derived.Test.YtbfhiiokajbdhaaGreatDoorSTablePrintsParse
import Derived.Test.YtbfhiiokajbdhaaGreatDoorSTablePrintsPMk
import Derived.Test.YtbfhiiokajbdhaaGreatDoorSTablePrintsPEv
import Derived.StillTailTactics
import Derived.BigRegion
import Derived.Test.YtbfhiiokajbdhaaGreatDoorSTablePrintsQx10
namespace Go.Proofs.YtbfhiiokajbdhaaGreatDoor.Q
open Go.RowKit Go.Proofs.YtbfhiiokajbdhaaGreatDoorW.PrintWords Go.Proofs.YtbfhiiokajbdhaaGreatDoorW.PrintLast Go.Proofs.YtbfhiiokajbdhaaGreatDoorW.PrintMore
attribute [local go_sem] max2_int max_two
set_option linter.unusedVariables false
set_option linter.unusedSimpArgs false
theorem zQx11a0_ {P_ : Prop} (h_ : P_ := by repeat (first | (with_reducible first | exact HB.out | apply below_alloc | apply pw_below_drewN | apply below_drew1) | exact HB.out)) : P_ := h_
theorem zQx11a1_ {P_ : Prop} (h_ : P_ := by (with_reducible repeat (first | apply Kd.R_alloc | apply Kd.R_drewN | apply Kd.R_drew)); exact HO182.out) : P_ := h_
theorem zQx11a2_ {P_ : Prop} (h_ : P_ := by (try simp only [List.map_toArray, List.map_cons, List.map_nil]); first | done | rfl | (simp only [List.length_drop, List.length_take]; rfl)) : P_ := h_
theorem zQx11a3_ {P_ : Prop} (h_ : P_ := by repeat (first | (with_reducible first | exact HB.out | apply below_alloc | apply pw_below_drewN | apply below_drew1 | refine below_set ?_ GE156.out) | exact HB.out)) : P_ := h_
theorem zQx11a4_ {P_ : Prop} (h_ : P_ := by (with_reducible repeat (first | refine blk_drewN ?_ _ | refine blk_drew ?_ | refine blk_alloc ?_ _)); exact BK156.out) : P_ := h_
theorem zQx11a5_ {P_ : Prop} (h_ : P_ := by (with_reducible repeat (first | apply Kd.R_alloc | apply Kd.R_drewN | apply Kd.R_drew)); exact HO187.out) : P_ := h_
theorem zQx11a6_ {P_ : Prop} (h_ : P_ := by first | rfl | (simp [errW_none, errW_some] <;> rfl) | (simp [*, errW_none, errW_some] <;> rfl)) : P_ := h_
theorem zQx11a7_ {P_ : Prop} (h_ : P_ := by first | (with_reducible assumption) | assumption) : P_ := h_
theorem znQx11_ {X_ : Prop} [Decidable X_] (h_ : ¬ X_ → False := by intro c_; rw [if_neg c_] at H; exact absurd H (by simp)) : X_ := Decidable.byContradiction h_
def basculeref21_Error.l0 : Nat → List (S34) → Int → ByteArray → Int → Int → Int → Int → Int → Int → Bool → Option (Int)
 | 0, _, _, _, _, _, _, _, _, _, _ => none
 | k + 1, x0, x5, x157000, x157001, x157002, x157003, x157004, x157005, x157006, x157007 => if x5 < (x0.length : Int) then (if 0 ≤ x5 then (if ((rd_T34 x0 x5).f0).toList = x157000.toList then (some 210) else (basculeref21_Error.l0 k x0 (wrap64 (x5 + 1)) x157000 x157001 x157002 x157003 x157004 x157005 x157006 x157007)) else (none)) else ((basculeref21_Range.f x157000 x157001 x157002 x157003 x157004 x157005 x157006 x157007).bind fun t159 => (if t159 = true then (if (x0.length : Int) ≥ 64 then (some 6) else (some 0)) else (some 220)))
def basculeref21_Error.f (k : Nat) (l0 : List (S34)) (a1_0 : ByteArray) (a1_1 : Int) (a1_2 : Int) (a1_3 : Int) (a1_4 : Int) (a1_5 : Int) (a1_6 : Int) (a1_7 : Bool) : Option (Int) := (basculeref21_name.f k a1_0).bind fun t157 => (if t157 = true then (basculeref21_Error.l0 k l0 0 a1_0 a1_1 a1_2 a1_3 a1_4 a1_5 a1_6 a1_7) else (some 210))
set_option maxHeartbeats 8000000 in
set_option maxRecDepth 100000 in
theorem basculeref21_Error.calls (k : Nat) (A0 : Option Addr) (c0 : Nat) (l0 : List (S34)) (a1_0 : ByteArray) (a1_1 : Int) (a1_2 : Int) (a1_3 : Int) (a1_4 : Int) (a1_5 : Int) (a1_6 : Int) (a1_7 : Bool) (r : Int) (w : World) (hr0 : Kd.C k34 w A0 l0.length l0) (hc0 : l0.length ≤ c0) (h : basculeref21_Error.f k l0 a1_0 a1_1 a1_2 a1_3 a1_4 a1_5 a1_6 a1_7 = some r) :
  Calls Tryz.prog 27 #[.slice A0 l0.length c0, .agg #[.string a1_0, .int .i64 a1_1, .int .i64 a1_2, .int .i64 a1_3, .int .i64 a1_4, .int .i64 a1_5, .int .i64 a1_6, .bool a1_7]] w fun e w' => e = .returned (.int .i64 r) ∧ Below w.heap.size w w' := by
 have hu34 := Tryz.underlying34
 have HR0 := Aside0.mk hr0
 have HC0 := Aside0.mk hc0
 clear hr0 hc0
 have HB := Aside0.mk (Below.refl w.heap.size w)
 have H : ((basculeref21_name.f k a1_0).bind fun t157 => (if t157 = true then (basculeref21_Error.l0 k l0 0 a1_0 a1_1 a1_2 a1_3 a1_4 a1_5 a1_6 a1_7) else (some 210))) = some r := h
 clear h
 replace H := Option.bind_eq_some_iff.mp H
 obtain ⟨t157, A30, H⟩ := H
 replace H : (if t157 = true then (basculeref21_Error.l0 k l0 0 a1_0 a1_1 a1_2 a1_3 a1_4 a1_5 a1_6 a1_7) else (some 210)) = some r := H
 have A3 := Aside0.mk A30
 clear A30
 by_cases c4 : t157 = true
 rotate_left
 ·
  replace c4 := Bool.eq_false_iff.mpr c4
  subst c4
  have H1 : (some 210) = some r := by rw [if_neg (show ¬ (false = true) by decide)] at H; exact H
  clear H
  have H := H1
  clear H1
  obtain rfl := Option.some.inj H
  go_enter Tryz.func27, Tryz.ntmps27
  go_wp2_with (first | ((with_reducible refine gate_dst (N := 3) rfl ?_); refine box_event ?hg (N := 3) ?hd (cs := #[.string a1_0, .int .i64 a1_1, .int .i64 a1_2, .int .i64 a1_3, .int .i64 a1_4, .int .i64 a1_5, .int .i64 a1_6, .bool a1_7]) (t := 34) ?hr ?_; (case hd => rfl); (case hg => rfl); (case hr => first | (go_simp; done) | (go_simp; rfl)); intro gb156 hg w22 hbox hb; have n0_ := Aside0.mk (below_step zQx11a0_ hb); have n1_ := Aside0.mk (hbox); have n2_ := Aside0.mk ((by rw [hg]; exact (below_size zQx11a0_) : w.heap.size ≤ gb156)); have n3_ := Aside0.mk ((by rw [hg]; exact (below_size zQx11a0_) : w.heap.size ≤ gb156)); clear HB; have HB := n0_; have BK156 := n1_; have GW156 := n2_; have GE156 := n3_; clear n0_ n1_ n2_ n3_; clear hb hbox hg; have hcz23_0 : w22.cell? ⟨gb156, 0, none⟩ = some (.string a1_0) := (blk_cell BK156.out 0).trans rfl; have hcz23_1 : w22.cell? ⟨gb156, 1, none⟩ = some (.int .i64 a1_1) := (blk_cell BK156.out 1).trans rfl; have hcz23_2 : w22.cell? ⟨gb156, 2, none⟩ = some (.int .i64 a1_2) := (blk_cell BK156.out 2).trans rfl; have hcz23_3 : w22.cell? ⟨gb156, 3, none⟩ = some (.int .i64 a1_3) := (blk_cell BK156.out 3).trans rfl; have hcz23_4 : w22.cell? ⟨gb156, 4, none⟩ = some (.int .i64 a1_4) := (blk_cell BK156.out 4).trans rfl; have hcz23_5 : w22.cell? ⟨gb156, 5, none⟩ = some (.int .i64 a1_5) := (blk_cell BK156.out 5).trans rfl; have hcz23_6 : w22.cell? ⟨gb156, 6, none⟩ = some (.int .i64 a1_6) := (blk_cell BK156.out 6).trans rfl; have hcz23_7 : w22.cell? ⟨gb156, 7, none⟩ = some (.bool a1_7) := (blk_cell BK156.out 7).trans rfl; have hfz23_0 := blk_frozen BK156.out 0; have hfz23_1 := blk_frozen BK156.out 1; have hfz23_2 := blk_frozen BK156.out 2; have hfz23_3 := blk_frozen BK156.out 3; have hfz23_4 := blk_frozen BK156.out 4; have hfz23_5 := blk_frozen BK156.out 5; have hfz23_6 := blk_frozen BK156.out 6; have hfz23_7 := blk_frozen BK156.out 7) | (go_at_call 49; (with_reducible refine (basculeref21_name.calls k a1_0 false _ A3.out).mono ?_); rintro e w24 ⟨rfl, hb⟩; have n0_ := Aside0.mk (blk_below (g := gb156) (o := .cells #[.string a1_0, .int .i64 a1_1, .int .i64 a1_2, .int .i64 a1_3, .int .i64 a1_4, .int .i64 a1_5, .int .i64 a1_6, .bool a1_7] 34 (0, 0)) zQx11a4_ hb); have n1_ := Aside0.mk (below_step zQx11a3_ hb); clear BK156; clear HB; have BK156 := n0_; have HB := n1_; clear n0_ n1_; (try clear hb); (try clear hb2); (try clear hk); (try clear hi)))
  repeat (go_quiet (first | ((with_reducible refine gate_dst (N := 3) rfl ?_); refine box_event ?hg (N := 3) ?hd (cs := #[.string a1_0, .int .i64 a1_1, .int .i64 a1_2, .int .i64 a1_3, .int .i64 a1_4, .int .i64 a1_5, .int .i64 a1_6, .bool a1_7]) (t := 34) ?hr ?_; (case hd => rfl); (case hg => rfl); (case hr => first | (go_simp; done) | (go_simp; rfl)); intro gb156 hg w22 hbox hb; have n0_ := Aside0.mk (below_step zQx11a0_ hb); have n1_ := Aside0.mk (hbox); have n2_ := Aside0.mk ((by rw [hg]; exact (below_size zQx11a0_) : w.heap.size ≤ gb156)); have n3_ := Aside0.mk ((by rw [hg]; exact (below_size zQx11a0_) : w.heap.size ≤ gb156)); clear HB; have HB := n0_; have BK156 := n1_; have GW156 := n2_; have GE156 := n3_; clear n0_ n1_ n2_ n3_; clear hb hbox hg; have hcz23_0 : w22.cell? ⟨gb156, 0, none⟩ = some (.string a1_0) := (blk_cell BK156.out 0).trans rfl; have hcz23_1 : w22.cell? ⟨gb156, 1, none⟩ = some (.int .i64 a1_1) := (blk_cell BK156.out 1).trans rfl; have hcz23_2 : w22.cell? ⟨gb156, 2, none⟩ = some (.int .i64 a1_2) := (blk_cell BK156.out 2).trans rfl; have hcz23_3 : w22.cell? ⟨gb156, 3, none⟩ = some (.int .i64 a1_3) := (blk_cell BK156.out 3).trans rfl; have hcz23_4 : w22.cell? ⟨gb156, 4, none⟩ = some (.int .i64 a1_4) := (blk_cell BK156.out 4).trans rfl; have hcz23_5 : w22.cell? ⟨gb156, 5, none⟩ = some (.int .i64 a1_5) := (blk_cell BK156.out 5).trans rfl; have hcz23_6 : w22.cell? ⟨gb156, 6, none⟩ = some (.int .i64 a1_6) := (blk_cell BK156.out 6).trans rfl; have hcz23_7 : w22.cell? ⟨gb156, 7, none⟩ = some (.bool a1_7) := (blk_cell BK156.out 7).trans rfl; have hfz23_0 := blk_frozen BK156.out 0; have hfz23_1 := blk_frozen BK156.out 1; have hfz23_2 := blk_frozen BK156.out 2; have hfz23_3 := blk_frozen BK156.out 3; have hfz23_4 := blk_frozen BK156.out 4; have hfz23_5 := blk_frozen BK156.out 5; have hfz23_6 := blk_frozen BK156.out 6; have hfz23_7 := blk_frozen BK156.out 7) | (go_at_call 49; (with_reducible refine (basculeref21_name.calls k a1_0 false _ A3.out).mono ?_); rintro e w24 ⟨rfl, hb⟩; have n0_ := Aside0.mk (blk_below (g := gb156) (o := .cells #[.string a1_0, .int .i64 a1_1, .int .i64 a1_2, .int .i64 a1_3, .int .i64 a1_4, .int .i64 a1_5, .int .i64 a1_6, .bool a1_7] 34 (0, 0)) zQx11a4_ hb); have n1_ := Aside0.mk (below_step zQx11a3_ hb); clear BK156; clear HB; have BK156 := n0_; have HB := n1_; clear n0_ n1_; (try clear hb); (try clear hb2); (try clear hk); (try clear hi))); try go_wp2_with (first | ((with_reducible refine gate_dst (N := 3) rfl ?_); refine box_event ?hg (N := 3) ?hd (cs := #[.string a1_0, .int .i64 a1_1, .int .i64 a1_2, .int .i64 a1_3, .int .i64 a1_4, .int .i64 a1_5, .int .i64 a1_6, .bool a1_7]) (t := 34) ?hr ?_; (case hd => rfl); (case hg => rfl); (case hr => first | (go_simp; done) | (go_simp; rfl)); intro gb156 hg w22 hbox hb; have n0_ := Aside0.mk (below_step zQx11a0_ hb); have n1_ := Aside0.mk (hbox); have n2_ := Aside0.mk ((by rw [hg]; exact (below_size zQx11a0_) : w.heap.size ≤ gb156)); have n3_ := Aside0.mk ((by rw [hg]; exact (below_size zQx11a0_) : w.heap.size ≤ gb156)); clear HB; have HB := n0_; have BK156 := n1_; have GW156 := n2_; have GE156 := n3_; clear n0_ n1_ n2_ n3_; clear hb hbox hg; have hcz23_0 : w22.cell? ⟨gb156, 0, none⟩ = some (.string a1_0) := (blk_cell BK156.out 0).trans rfl; have hcz23_1 : w22.cell? ⟨gb156, 1, none⟩ = some (.int .i64 a1_1) := (blk_cell BK156.out 1).trans rfl; have hcz23_2 : w22.cell? ⟨gb156, 2, none⟩ = some (.int .i64 a1_2) := (blk_cell BK156.out 2).trans rfl; have hcz23_3 : w22.cell? ⟨gb156, 3, none⟩ = some (.int .i64 a1_3) := (blk_cell BK156.out 3).trans rfl; have hcz23_4 : w22.cell? ⟨gb156, 4, none⟩ = some (.int .i64 a1_4) := (blk_cell BK156.out 4).trans rfl; have hcz23_5 : w22.cell? ⟨gb156, 5, none⟩ = some (.int .i64 a1_5) := (blk_cell BK156.out 5).trans rfl; have hcz23_6 : w22.cell? ⟨gb156, 6, none⟩ = some (.int .i64 a1_6) := (blk_cell BK156.out 6).trans rfl; have hcz23_7 : w22.cell? ⟨gb156, 7, none⟩ = some (.bool a1_7) := (blk_cell BK156.out 7).trans rfl; have hfz23_0 := blk_frozen BK156.out 0; have hfz23_1 := blk_frozen BK156.out 1; have hfz23_2 := blk_frozen BK156.out 2; have hfz23_3 := blk_frozen BK156.out 3; have hfz23_4 := blk_frozen BK156.out 4; have hfz23_5 := blk_frozen BK156.out 5; have hfz23_6 := blk_frozen BK156.out 6; have hfz23_7 := blk_frozen BK156.out 7) | (go_at_call 49; (with_reducible refine (basculeref21_name.calls k a1_0 false _ A3.out).mono ?_); rintro e w24 ⟨rfl, hb⟩; have n0_ := Aside0.mk (blk_below (g := gb156) (o := .cells #[.string a1_0, .int .i64 a1_1, .int .i64 a1_2, .int .i64 a1_3, .int .i64 a1_4, .int .i64 a1_5, .int .i64 a1_6, .bool a1_7] 34 (0, 0)) zQx11a4_ hb); have n1_ := Aside0.mk (below_step zQx11a3_ hb); clear BK156; clear HB; have BK156 := n0_; have HB := n1_; clear n0_ n1_; (try clear hb); (try clear hb2); (try clear hk); (try clear hi))))
  go_ret
  exact ⟨zQx11a6_, zQx11a3_⟩
 subst c4
 have H1 : (basculeref21_Error.l0 k l0 0 a1_0 a1_1 a1_2 a1_3 a1_4 a1_5 a1_6 a1_7) = some r := by rw [if_pos rfl] at H; exact H
 clear H
 have H := H1
 clear H1
 have H' := Aside0.mk H
 clear H
 go_enter Tryz.func27, Tryz.ntmps27
 go_wp2_with (first | ((with_reducible refine gate_dst (N := 3) rfl ?_); refine box_event ?hg (N := 3) ?hd (cs := #[.string a1_0, .int .i64 a1_1, .int .i64 a1_2, .int .i64 a1_3, .int .i64 a1_4, .int .i64 a1_5, .int .i64 a1_6, .bool a1_7]) (t := 34) ?hr ?_; (case hd => rfl); (case hg => rfl); (case hr => first | (go_simp; done) | (go_simp; rfl)); intro gb156 hg w5 hbox hb; have n0_ := Aside0.mk (below_step zQx11a0_ hb); have n1_ := Aside0.mk (hbox); have n2_ := Aside0.mk ((by rw [hg]; exact (below_size zQx11a0_) : w.heap.size ≤ gb156)); have n3_ := Aside0.mk ((by rw [hg]; exact (below_size zQx11a0_) : w.heap.size ≤ gb156)); clear HB; have HB := n0_; have BK156 := n1_; have GW156 := n2_; have GE156 := n3_; clear n0_ n1_ n2_ n3_; clear hb hbox hg; have hcz6_0 : w5.cell? ⟨gb156, 0, none⟩ = some (.string a1_0) := (blk_cell BK156.out 0).trans rfl; have hcz6_1 : w5.cell? ⟨gb156, 1, none⟩ = some (.int .i64 a1_1) := (blk_cell BK156.out 1).trans rfl; have hcz6_2 : w5.cell? ⟨gb156, 2, none⟩ = some (.int .i64 a1_2) := (blk_cell BK156.out 2).trans rfl; have hcz6_3 : w5.cell? ⟨gb156, 3, none⟩ = some (.int .i64 a1_3) := (blk_cell BK156.out 3).trans rfl; have hcz6_4 : w5.cell? ⟨gb156, 4, none⟩ = some (.int .i64 a1_4) := (blk_cell BK156.out 4).trans rfl; have hcz6_5 : w5.cell? ⟨gb156, 5, none⟩ = some (.int .i64 a1_5) := (blk_cell BK156.out 5).trans rfl; have hcz6_6 : w5.cell? ⟨gb156, 6, none⟩ = some (.int .i64 a1_6) := (blk_cell BK156.out 6).trans rfl; have hcz6_7 : w5.cell? ⟨gb156, 7, none⟩ = some (.bool a1_7) := (blk_cell BK156.out 7).trans rfl; have hfz6_0 := blk_frozen BK156.out 0; have hfz6_1 := blk_frozen BK156.out 1; have hfz6_2 := blk_frozen BK156.out 2; have hfz6_3 := blk_frozen BK156.out 3; have hfz6_4 := blk_frozen BK156.out 4; have hfz6_5 := blk_frozen BK156.out 5; have hfz6_6 := blk_frozen BK156.out 6; have hfz6_7 := blk_frozen BK156.out 7) | (go_at_call 49; (with_reducible refine (basculeref21_name.calls k a1_0 true _ A3.out).mono ?_); rintro e w7 ⟨rfl, hb⟩; have n0_ := Aside0.mk (blk_below (g := gb156) (o := .cells #[.string a1_0, .int .i64 a1_1, .int .i64 a1_2, .int .i64 a1_3, .int .i64 a1_4, .int .i64 a1_5, .int .i64 a1_6, .bool a1_7] 34 (0, 0)) zQx11a4_ hb); have n1_ := Aside0.mk (below_step zQx11a3_ hb); clear BK156; clear HB; have BK156 := n0_; have HB := n1_; clear n0_ n1_; (try clear hb); (try clear hb2); (try clear hk); (try clear hi)))
 repeat (go_quiet (first | ((with_reducible refine gate_dst (N := 3) rfl ?_); refine box_event ?hg (N := 3) ?hd (cs := #[.string a1_0, .int .i64 a1_1, .int .i64 a1_2, .int .i64 a1_3, .int .i64 a1_4, .int .i64 a1_5, .int .i64 a1_6, .bool a1_7]) (t := 34) ?hr ?_; (case hd => rfl); (case hg => rfl); (case hr => first | (go_simp; done) | (go_simp; rfl)); intro gb156 hg w5 hbox hb; have n0_ := Aside0.mk (below_step zQx11a0_ hb); have n1_ := Aside0.mk (hbox); have n2_ := Aside0.mk ((by rw [hg]; exact (below_size zQx11a0_) : w.heap.size ≤ gb156)); have n3_ := Aside0.mk ((by rw [hg]; exact (below_size zQx11a0_) : w.heap.size ≤ gb156)); clear HB; have HB := n0_; have BK156 := n1_; have GW156 := n2_; have GE156 := n3_; clear n0_ n1_ n2_ n3_; clear hb hbox hg; have hcz6_0 : w5.cell? ⟨gb156, 0, none⟩ = some (.string a1_0) := (blk_cell BK156.out 0).trans rfl; have hcz6_1 : w5.cell? ⟨gb156, 1, none⟩ = some (.int .i64 a1_1) := (blk_cell BK156.out 1).trans rfl; have hcz6_2 : w5.cell? ⟨gb156, 2, none⟩ = some (.int .i64 a1_2) := (blk_cell BK156.out 2).trans rfl; have hcz6_3 : w5.cell? ⟨gb156, 3, none⟩ = some (.int .i64 a1_3) := (blk_cell BK156.out 3).trans rfl; have hcz6_4 : w5.cell? ⟨gb156, 4, none⟩ = some (.int .i64 a1_4) := (blk_cell BK156.out 4).trans rfl; have hcz6_5 : w5.cell? ⟨gb156, 5, none⟩ = some (.int .i64 a1_5) := (blk_cell BK156.out 5).trans rfl; have hcz6_6 : w5.cell? ⟨gb156, 6, none⟩ = some (.int .i64 a1_6) := (blk_cell BK156.out 6).trans rfl; have hcz6_7 : w5.cell? ⟨gb156, 7, none⟩ = some (.bool a1_7) := (blk_cell BK156.out 7).trans rfl; have hfz6_0 := blk_frozen BK156.out 0; have hfz6_1 := blk_frozen BK156.out 1; have hfz6_2 := blk_frozen BK156.out 2; have hfz6_3 := blk_frozen BK156.out 3; have hfz6_4 := blk_frozen BK156.out 4; have hfz6_5 := blk_frozen BK156.out 5; have hfz6_6 := blk_frozen BK156.out 6; have hfz6_7 := blk_frozen BK156.out 7) | (go_at_call 49; (with_reducible refine (basculeref21_name.calls k a1_0 true _ A3.out).mono ?_); rintro e w7 ⟨rfl, hb⟩; have n0_ := Aside0.mk (blk_below (g := gb156) (o := .cells #[.string a1_0, .int .i64 a1_1, .int .i64 a1_2, .int .i64 a1_3, .int .i64 a1_4, .int .i64 a1_5, .int .i64 a1_6, .bool a1_7] 34 (0, 0)) zQx11a4_ hb); have n1_ := Aside0.mk (below_step zQx11a3_ hb); clear BK156; clear HB; have BK156 := n0_; have HB := n1_; clear n0_ n1_; (try clear hb); (try clear hb2); (try clear hk); (try clear hi))); try go_wp2_with (first | ((with_reducible refine gate_dst (N := 3) rfl ?_); refine box_event ?hg (N := 3) ?hd (cs := #[.string a1_0, .int .i64 a1_1, .int .i64 a1_2, .int .i64 a1_3, .int .i64 a1_4, .int .i64 a1_5, .int .i64 a1_6, .bool a1_7]) (t := 34) ?hr ?_; (case hd => rfl); (case hg => rfl); (case hr => first | (go_simp; done) | (go_simp; rfl)); intro gb156 hg w5 hbox hb; have n0_ := Aside0.mk (below_step zQx11a0_ hb); have n1_ := Aside0.mk (hbox); have n2_ := Aside0.mk ((by rw [hg]; exact (below_size zQx11a0_) : w.heap.size ≤ gb156)); have n3_ := Aside0.mk ((by rw [hg]; exact (below_size zQx11a0_) : w.heap.size ≤ gb156)); clear HB; have HB := n0_; have BK156 := n1_; have GW156 := n2_; have GE156 := n3_; clear n0_ n1_ n2_ n3_; clear hb hbox hg; have hcz6_0 : w5.cell? ⟨gb156, 0, none⟩ = some (.string a1_0) := (blk_cell BK156.out 0).trans rfl; have hcz6_1 : w5.cell? ⟨gb156, 1, none⟩ = some (.int .i64 a1_1) := (blk_cell BK156.out 1).trans rfl; have hcz6_2 : w5.cell? ⟨gb156, 2, none⟩ = some (.int .i64 a1_2) := (blk_cell BK156.out 2).trans rfl; have hcz6_3 : w5.cell? ⟨gb156, 3, none⟩ = some (.int .i64 a1_3) := (blk_cell BK156.out 3).trans rfl; have hcz6_4 : w5.cell? ⟨gb156, 4, none⟩ = some (.int .i64 a1_4) := (blk_cell BK156.out 4).trans rfl; have hcz6_5 : w5.cell? ⟨gb156, 5, none⟩ = some (.int .i64 a1_5) := (blk_cell BK156.out 5).trans rfl; have hcz6_6 : w5.cell? ⟨gb156, 6, none⟩ = some (.int .i64 a1_6) := (blk_cell BK156.out 6).trans rfl; have hcz6_7 : w5.cell? ⟨gb156, 7, none⟩ = some (.bool a1_7) := (blk_cell BK156.out 7).trans rfl; have hfz6_0 := blk_frozen BK156.out 0; have hfz6_1 := blk_frozen BK156.out 1; have hfz6_2 := blk_frozen BK156.out 2; have hfz6_3 := blk_frozen BK156.out 3; have hfz6_4 := blk_frozen BK156.out 4; have hfz6_5 := blk_frozen BK156.out 5; have hfz6_6 := blk_frozen BK156.out 6; have hfz6_7 := blk_frozen BK156.out 7) | (go_at_call 49; (with_reducible refine (basculeref21_name.calls k a1_0 true _ A3.out).mono ?_); rintro e w7 ⟨rfl, hb⟩; have n0_ := Aside0.mk (blk_below (g := gb156) (o := .cells #[.string a1_0, .int .i64 a1_1, .int .i64 a1_2, .int .i64 a1_3, .int .i64 a1_4, .int .i64 a1_5, .int .i64 a1_6, .bool a1_7] 34 (0, 0)) zQx11a4_ hb); have n1_ := Aside0.mk (below_step zQx11a3_ hb); clear BK156; clear HB; have BK156 := n0_; have HB := n1_; clear n0_ n1_; (try clear hb); (try clear hb2); (try clear hk); (try clear hi))))
 go_loopg [5] k (fun kq v5 w' => ∃ (x5_1 : Int), v5 = .int .i64 x5_1 ∧ Aside0 (basculeref21_Error.l0 kq l0 x5_1 a1_0 a1_1 a1_2 a1_3 a1_4 a1_5 a1_6 a1_7 = some r) ∧ Aside0 (kq ≤ k) ∧ Aside0 (w'.heap[gb156]? = some (.cells #[.string a1_0, .int .i64 a1_1, .int .i64 a1_2, .int .i64 a1_3, .int .i64 a1_4, .int .i64 a1_5, .int .i64 a1_6, .bool a1_7] 34 (0, 0))) ∧ Aside0 (Below w.heap.size w w'))
 case atStart => exact ⟨(0), (by first | rfl | (simp; done) | (simp [*]; done)), H', ⟨Nat.le_refl _⟩, ⟨zQx11a4_⟩, ⟨zQx11a3_⟩⟩
 case round =>
  clear H'
  try clear c2
  try clear p2
  try clear c4
  try clear hcz6_0
  try clear hcz6_1
  try clear hcz6_2
  try clear hcz6_3
  try clear hcz6_4
  try clear hcz6_5
  try clear hcz6_6
  try clear hcz6_7
  try clear hfz6_0
  try clear hfz6_1
  try clear hfz6_2
  try clear hfz6_3
  try clear hfz6_4
  try clear hfz6_5
  try clear hfz6_6
  try clear hfz6_7
  obtain ⟨x5_1, rfl, HA, HK1, BK156, HB⟩ := hrel
  cases gk with
  | zero => exact absurd HA.out (by simp [basculeref21_Error.l0])
  | succ k1 =>
   have H := HA.out
   clear HA
   simp only [basculeref21_Error.l0] at H
   by_cases c8 : x5_1 < (l0.length : Int)
   ·
    rw [if_pos c8] at H
    have c8b0 : decide (x5_1 < (l0.length : Int)) = true := decide_eq_true c8
    clear c8
    have c9 : 0 ≤ x5_1 := znQx11_
    rw [if_pos c9] at H
    have c9b0 : decide (0 ≤ x5_1) = true := decide_eq_true c9
    clear c9
    by_cases c10 : ((rd_T34 l0 x5_1).f0).toList = a1_0.toList
    ·
     rw [if_pos c10] at H
     have c10b0 : (((rd_T34 l0 x5_1).f0).toList == a1_0.toList) = true := beq_iff_eq.mpr c10
     have c10b1 : (((rd_T34 l0 x5_1).f0).toList != a1_0.toList) = false := bne_eq_false_iff_eq.mpr c10
     clear c10
     obtain rfl := Option.some.inj H
     have p158 : 0 ≤ (x5_1 : Int) := of_decide_eq_true zQx11a7_
     have q158 : x5_1 < (l0.length : Int) := of_decide_eq_true zQx11a7_
     obtain ⟨ad158, e158, hx158_0, hx158_1, hx158_2, hx158_3, hx158_4, hx158_5, hx158_6, hx158_7⟩ := at_T34 HR0.out x5_1 p158 q158
     cases e158
     replace hx158_0 := (HB.out.cell (World.block_lt_of_cell? w _ hx158_0)).trans hx158_0
     replace hx158_1 := (HB.out.cell (World.block_lt_of_cell? w _ hx158_1)).trans hx158_1
     replace hx158_2 := (HB.out.cell (World.block_lt_of_cell? w _ hx158_2)).trans hx158_2
     replace hx158_3 := (HB.out.cell (World.block_lt_of_cell? w _ hx158_3)).trans hx158_3
     replace hx158_4 := (HB.out.cell (World.block_lt_of_cell? w _ hx158_4)).trans hx158_4
     replace hx158_5 := (HB.out.cell (World.block_lt_of_cell? w _ hx158_5)).trans hx158_5
     replace hx158_6 := (HB.out.cell (World.block_lt_of_cell? w _ hx158_6)).trans hx158_6
     replace hx158_7 := (HB.out.cell (World.block_lt_of_cell? w _ hx158_7)).trans hx158_7
     replace p158 := eq_true p158
     replace q158 := eq_true q158
     have hcz11_0 : wr.cell? ⟨gb156, 0, none⟩ = some (.string a1_0) := (blk_cell BK156.out 0).trans rfl
     have hcz11_1 : wr.cell? ⟨gb156, 1, none⟩ = some (.int .i64 a1_1) := (blk_cell BK156.out 1).trans rfl
     have hcz11_2 : wr.cell? ⟨gb156, 2, none⟩ = some (.int .i64 a1_2) := (blk_cell BK156.out 2).trans rfl
     have hcz11_3 : wr.cell? ⟨gb156, 3, none⟩ = some (.int .i64 a1_3) := (blk_cell BK156.out 3).trans rfl
     have hcz11_4 : wr.cell? ⟨gb156, 4, none⟩ = some (.int .i64 a1_4) := (blk_cell BK156.out 4).trans rfl
     have hcz11_5 : wr.cell? ⟨gb156, 5, none⟩ = some (.int .i64 a1_5) := (blk_cell BK156.out 5).trans rfl
     have hcz11_6 : wr.cell? ⟨gb156, 6, none⟩ = some (.int .i64 a1_6) := (blk_cell BK156.out 6).trans rfl
     have hcz11_7 : wr.cell? ⟨gb156, 7, none⟩ = some (.bool a1_7) := (blk_cell BK156.out 7).trans rfl
     have hfz11_0 := blk_frozen BK156.out 0
     have hfz11_1 := blk_frozen BK156.out 1
     have hfz11_2 := blk_frozen BK156.out 2
     have hfz11_3 := blk_frozen BK156.out 3
     have hfz11_4 := blk_frozen BK156.out 4
     have hfz11_5 := blk_frozen BK156.out 5
     have hfz11_6 := blk_frozen BK156.out 6
     have hfz11_7 := blk_frozen BK156.out 7
     go_wp2
     repeat (go_quiet (fail); try go_wp2)
     go_ret
     exact ⟨zQx11a6_, zQx11a3_⟩
    rw [if_neg c10] at H
    have c10b0 : (((rd_T34 l0 x5_1).f0).toList == a1_0.toList) = false := beq_eq_false_iff_ne.mpr c10
    have c10b1 : (((rd_T34 l0 x5_1).f0).toList != a1_0.toList) = true := bne_iff_ne.mpr c10
    have H' := Aside0.mk H
    clear H
    have p158 : 0 ≤ (x5_1 : Int) := of_decide_eq_true zQx11a7_
    have q158 : x5_1 < (l0.length : Int) := of_decide_eq_true zQx11a7_
    obtain ⟨ad158, e158, hx158_0, hx158_1, hx158_2, hx158_3, hx158_4, hx158_5, hx158_6, hx158_7⟩ := at_T34 HR0.out x5_1 p158 q158
    cases e158
    replace hx158_0 := (HB.out.cell (World.block_lt_of_cell? w _ hx158_0)).trans hx158_0
    replace hx158_1 := (HB.out.cell (World.block_lt_of_cell? w _ hx158_1)).trans hx158_1
    replace hx158_2 := (HB.out.cell (World.block_lt_of_cell? w _ hx158_2)).trans hx158_2
    replace hx158_3 := (HB.out.cell (World.block_lt_of_cell? w _ hx158_3)).trans hx158_3
    replace hx158_4 := (HB.out.cell (World.block_lt_of_cell? w _ hx158_4)).trans hx158_4
    replace hx158_5 := (HB.out.cell (World.block_lt_of_cell? w _ hx158_5)).trans hx158_5
    replace hx158_6 := (HB.out.cell (World.block_lt_of_cell? w _ hx158_6)).trans hx158_6
    replace hx158_7 := (HB.out.cell (World.block_lt_of_cell? w _ hx158_7)).trans hx158_7
    replace p158 := eq_true p158
    replace q158 := eq_true q158
    have hcz12_0 : wr.cell? ⟨gb156, 0, none⟩ = some (.string a1_0) := (blk_cell BK156.out 0).trans rfl
    have hcz12_1 : wr.cell? ⟨gb156, 1, none⟩ = some (.int .i64 a1_1) := (blk_cell BK156.out 1).trans rfl
    have hcz12_2 : wr.cell? ⟨gb156, 2, none⟩ = some (.int .i64 a1_2) := (blk_cell BK156.out 2).trans rfl
    have hcz12_3 : wr.cell? ⟨gb156, 3, none⟩ = some (.int .i64 a1_3) := (blk_cell BK156.out 3).trans rfl
    have hcz12_4 : wr.cell? ⟨gb156, 4, none⟩ = some (.int .i64 a1_4) := (blk_cell BK156.out 4).trans rfl
    have hcz12_5 : wr.cell? ⟨gb156, 5, none⟩ = some (.int .i64 a1_5) := (blk_cell BK156.out 5).trans rfl
    have hcz12_6 : wr.cell? ⟨gb156, 6, none⟩ = some (.int .i64 a1_6) := (blk_cell BK156.out 6).trans rfl
    have hcz12_7 : wr.cell? ⟨gb156, 7, none⟩ = some (.bool a1_7) := (blk_cell BK156.out 7).trans rfl
    have hfz12_0 := blk_frozen BK156.out 0
    have hfz12_1 := blk_frozen BK156.out 1
    have hfz12_2 := blk_frozen BK156.out 2
    have hfz12_3 := blk_frozen BK156.out 3
    have hfz12_4 := blk_frozen BK156.out 4
    have hfz12_5 := blk_frozen BK156.out 5
    have hfz12_6 := blk_frozen BK156.out 6
    have hfz12_7 := blk_frozen BK156.out 7
    go_wp2
    repeat (go_quiet (fail); try go_wp2)
    go_roundg k1
    case measure => have := HK1.out; omega
    case rel => exact ⟨(wrap64 (x5_1 + 1)), (by first | rfl | (simp; done) | (simp [*]; done)), H', ⟨by have := HK1.out; omega⟩, ⟨zQx11a4_⟩, ⟨zQx11a3_⟩⟩
   rw [if_neg c8] at H
   have c8b0 : decide (x5_1 < (l0.length : Int)) = false := decide_eq_false c8
   clear c8
   replace H := Option.bind_eq_some_iff.mp H
   obtain ⟨t159, A130, H⟩ := H
   replace H : (if t159 = true then (if (l0.length : Int) ≥ 64 then (some 6) else (some 0)) else (some 220)) = some r := H
   have A13 := Aside0.mk A130
   clear A130
   by_cases c14 : t159 = true
   rotate_left
   ·
    replace c14 := Bool.eq_false_iff.mpr c14
    subst c14
    have H1 : (some 220) = some r := by rw [if_neg (show ¬ (false = true) by decide)] at H; exact H
    clear H
    have H := H1
    clear H1
    obtain rfl := Option.some.inj H
    have hcz20_0 : wr.cell? ⟨gb156, 0, none⟩ = some (.string a1_0) := (blk_cell BK156.out 0).trans rfl
    have hcz20_1 : wr.cell? ⟨gb156, 1, none⟩ = some (.int .i64 a1_1) := (blk_cell BK156.out 1).trans rfl
    have hcz20_2 : wr.cell? ⟨gb156, 2, none⟩ = some (.int .i64 a1_2) := (blk_cell BK156.out 2).trans rfl
    have hcz20_3 : wr.cell? ⟨gb156, 3, none⟩ = some (.int .i64 a1_3) := (blk_cell BK156.out 3).trans rfl
    have hcz20_4 : wr.cell? ⟨gb156, 4, none⟩ = some (.int .i64 a1_4) := (blk_cell BK156.out 4).trans rfl
    have hcz20_5 : wr.cell? ⟨gb156, 5, none⟩ = some (.int .i64 a1_5) := (blk_cell BK156.out 5).trans rfl
    have hcz20_6 : wr.cell? ⟨gb156, 6, none⟩ = some (.int .i64 a1_6) := (blk_cell BK156.out 6).trans rfl
    have hcz20_7 : wr.cell? ⟨gb156, 7, none⟩ = some (.bool a1_7) := (blk_cell BK156.out 7).trans rfl
    have hfz20_0 := blk_frozen BK156.out 0
    have hfz20_1 := blk_frozen BK156.out 1
    have hfz20_2 := blk_frozen BK156.out 2
    have hfz20_3 := blk_frozen BK156.out 3
    have hfz20_4 := blk_frozen BK156.out 4
    have hfz20_5 := blk_frozen BK156.out 5
    have hfz20_6 := blk_frozen BK156.out 6
    have hfz20_7 := blk_frozen BK156.out 7
    go_wp2_with (first | (go_at_call 50; (with_reducible refine (basculeref21_Range.calls a1_0 a1_1 a1_2 a1_3 a1_4 a1_5 a1_6 a1_7 false _ A13.out).mono ?_); rintro e w21 ⟨rfl, hb⟩; have n0_ := Aside0.mk (blk_below (g := gb156) (o := .cells #[.string a1_0, .int .i64 a1_1, .int .i64 a1_2, .int .i64 a1_3, .int .i64 a1_4, .int .i64 a1_5, .int .i64 a1_6, .bool a1_7] 34 (0, 0)) zQx11a4_ hb); have n1_ := Aside0.mk (below_step zQx11a3_ hb); clear BK156; clear HB; have BK156 := n0_; have HB := n1_; clear n0_ n1_; (try clear hb); (try clear hb2); (try clear hk); (try clear hi)))
    repeat (go_quiet (first | (go_at_call 50; (with_reducible refine (basculeref21_Range.calls a1_0 a1_1 a1_2 a1_3 a1_4 a1_5 a1_6 a1_7 false _ A13.out).mono ?_); rintro e w21 ⟨rfl, hb⟩; have n0_ := Aside0.mk (blk_below (g := gb156) (o := .cells #[.string a1_0, .int .i64 a1_1, .int .i64 a1_2, .int .i64 a1_3, .int .i64 a1_4, .int .i64 a1_5, .int .i64 a1_6, .bool a1_7] 34 (0, 0)) zQx11a4_ hb); have n1_ := Aside0.mk (below_step zQx11a3_ hb); clear BK156; clear HB; have BK156 := n0_; have HB := n1_; clear n0_ n1_; (try clear hb); (try clear hb2); (try clear hk); (try clear hi))); try go_wp2_with (first | (go_at_call 50; (with_reducible refine (basculeref21_Range.calls a1_0 a1_1 a1_2 a1_3 a1_4 a1_5 a1_6 a1_7 false _ A13.out).mono ?_); rintro e w21 ⟨rfl, hb⟩; have n0_ := Aside0.mk (blk_below (g := gb156) (o := .cells #[.string a1_0, .int .i64 a1_1, .int .i64 a1_2, .int .i64 a1_3, .int .i64 a1_4, .int .i64 a1_5, .int .i64 a1_6, .bool a1_7] 34 (0, 0)) zQx11a4_ hb); have n1_ := Aside0.mk (below_step zQx11a3_ hb); clear BK156; clear HB; have BK156 := n0_; have HB := n1_; clear n0_ n1_; (try clear hb); (try clear hb2); (try clear hk); (try clear hi))))
    go_ret
    exact ⟨zQx11a6_, zQx11a3_⟩
   subst c14
   have H1 : (if (l0.length : Int) ≥ 64 then (some 6) else (some 0)) = some r := by rw [if_pos rfl] at H; exact H
   clear H
   have H := H1
   clear H1
   by_cases c15 : (l0.length : Int) ≥ 64
   ·
    rw [if_pos c15] at H
    have c15b0 : decide (64 ≤ (l0.length : Int)) = true := decide_eq_true c15
    have c15b1 : decide (64 ≤ l0.length) = true := decide_eq_true (by omega)
    clear c15
    obtain rfl := Option.some.inj H
    have hcz16_0 : wr.cell? ⟨gb156, 0, none⟩ = some (.string a1_0) := (blk_cell BK156.out 0).trans rfl
    have hcz16_1 : wr.cell? ⟨gb156, 1, none⟩ = some (.int .i64 a1_1) := (blk_cell BK156.out 1).trans rfl
    have hcz16_2 : wr.cell? ⟨gb156, 2, none⟩ = some (.int .i64 a1_2) := (blk_cell BK156.out 2).trans rfl
    have hcz16_3 : wr.cell? ⟨gb156, 3, none⟩ = some (.int .i64 a1_3) := (blk_cell BK156.out 3).trans rfl
    have hcz16_4 : wr.cell? ⟨gb156, 4, none⟩ = some (.int .i64 a1_4) := (blk_cell BK156.out 4).trans rfl
    have hcz16_5 : wr.cell? ⟨gb156, 5, none⟩ = some (.int .i64 a1_5) := (blk_cell BK156.out 5).trans rfl
    have hcz16_6 : wr.cell? ⟨gb156, 6, none⟩ = some (.int .i64 a1_6) := (blk_cell BK156.out 6).trans rfl
    have hcz16_7 : wr.cell? ⟨gb156, 7, none⟩ = some (.bool a1_7) := (blk_cell BK156.out 7).trans rfl
    have hfz16_0 := blk_frozen BK156.out 0
    have hfz16_1 := blk_frozen BK156.out 1
    have hfz16_2 := blk_frozen BK156.out 2
    have hfz16_3 := blk_frozen BK156.out 3
    have hfz16_4 := blk_frozen BK156.out 4
    have hfz16_5 := blk_frozen BK156.out 5
    have hfz16_6 := blk_frozen BK156.out 6
    have hfz16_7 := blk_frozen BK156.out 7
    go_wp2_with (first | (go_at_call 50; (with_reducible refine (basculeref21_Range.calls a1_0 a1_1 a1_2 a1_3 a1_4 a1_5 a1_6 a1_7 true _ A13.out).mono ?_); rintro e w17 ⟨rfl, hb⟩; have n0_ := Aside0.mk (blk_below (g := gb156) (o := .cells #[.string a1_0, .int .i64 a1_1, .int .i64 a1_2, .int .i64 a1_3, .int .i64 a1_4, .int .i64 a1_5, .int .i64 a1_6, .bool a1_7] 34 (0, 0)) zQx11a4_ hb); have n1_ := Aside0.mk (below_step zQx11a3_ hb); clear BK156; clear HB; have BK156 := n0_; have HB := n1_; clear n0_ n1_; (try clear hb); (try clear hb2); (try clear hk); (try clear hi)))
    repeat (go_quiet (first | (go_at_call 50; (with_reducible refine (basculeref21_Range.calls a1_0 a1_1 a1_2 a1_3 a1_4 a1_5 a1_6 a1_7 true _ A13.out).mono ?_); rintro e w17 ⟨rfl, hb⟩; have n0_ := Aside0.mk (blk_below (g := gb156) (o := .cells #[.string a1_0, .int .i64 a1_1, .int .i64 a1_2, .int .i64 a1_3, .int .i64 a1_4, .int .i64 a1_5, .int .i64 a1_6, .bool a1_7] 34 (0, 0)) zQx11a4_ hb); have n1_ := Aside0.mk (below_step zQx11a3_ hb); clear BK156; clear HB; have BK156 := n0_; have HB := n1_; clear n0_ n1_; (try clear hb); (try clear hb2); (try clear hk); (try clear hi))); try go_wp2_with (first | (go_at_call 50; (with_reducible refine (basculeref21_Range.calls a1_0 a1_1 a1_2 a1_3 a1_4 a1_5 a1_6 a1_7 true _ A13.out).mono ?_); rintro e w17 ⟨rfl, hb⟩; have n0_ := Aside0.mk (blk_below (g := gb156) (o := .cells #[.string a1_0, .int .i64 a1_1, .int .i64 a1_2, .int .i64 a1_3, .int .i64 a1_4, .int .i64 a1_5, .int .i64 a1_6, .bool a1_7] 34 (0, 0)) zQx11a4_ hb); have n1_ := Aside0.mk (below_step zQx11a3_ hb); clear BK156; clear HB; have BK156 := n0_; have HB := n1_; clear n0_ n1_; (try clear hb); (try clear hb2); (try clear hk); (try clear hi))))
    go_ret
    exact ⟨zQx11a6_, zQx11a3_⟩
   rw [if_neg c15] at H
   have c15b0 : decide (64 ≤ (l0.length : Int)) = false := decide_eq_false c15
   have c15b1 : decide (64 ≤ l0.length) = false := decide_eq_false (by omega)
   clear c15
   obtain rfl := Option.some.inj H
   have hcz18_0 : wr.cell? ⟨gb156, 0, none⟩ = some (.string a1_0) := (blk_cell BK156.out 0).trans rfl
   have hcz18_1 : wr.cell? ⟨gb156, 1, none⟩ = some (.int .i64 a1_1) := (blk_cell BK156.out 1).trans rfl
   have hcz18_2 : wr.cell? ⟨gb156, 2, none⟩ = some (.int .i64 a1_2) := (blk_cell BK156.out 2).trans rfl
   have hcz18_3 : wr.cell? ⟨gb156, 3, none⟩ = some (.int .i64 a1_3) := (blk_cell BK156.out 3).trans rfl
   have hcz18_4 : wr.cell? ⟨gb156, 4, none⟩ = some (.int .i64 a1_4) := (blk_cell BK156.out 4).trans rfl
   have hcz18_5 : wr.cell? ⟨gb156, 5, none⟩ = some (.int .i64 a1_5) := (blk_cell BK156.out 5).trans rfl
   have hcz18_6 : wr.cell? ⟨gb156, 6, none⟩ = some (.int .i64 a1_6) := (blk_cell BK156.out 6).trans rfl
   have hcz18_7 : wr.cell? ⟨gb156, 7, none⟩ = some (.bool a1_7) := (blk_cell BK156.out 7).trans rfl
   have hfz18_0 := blk_frozen BK156.out 0
   have hfz18_1 := blk_frozen BK156.out 1
   have hfz18_2 := blk_frozen BK156.out 2
   have hfz18_3 := blk_frozen BK156.out 3
   have hfz18_4 := blk_frozen BK156.out 4
   have hfz18_5 := blk_frozen BK156.out 5
   have hfz18_6 := blk_frozen BK156.out 6
   have hfz18_7 := blk_frozen BK156.out 7
   go_wp2_with (first | (go_at_call 50; (with_reducible refine (basculeref21_Range.calls a1_0 a1_1 a1_2 a1_3 a1_4 a1_5 a1_6 a1_7 true _ A13.out).mono ?_); rintro e w19 ⟨rfl, hb⟩; have n0_ := Aside0.mk (blk_below (g := gb156) (o := .cells #[.string a1_0, .int .i64 a1_1, .int .i64 a1_2, .int .i64 a1_3, .int .i64 a1_4, .int .i64 a1_5, .int .i64 a1_6, .bool a1_7] 34 (0, 0)) zQx11a4_ hb); have n1_ := Aside0.mk (below_step zQx11a3_ hb); clear BK156; clear HB; have BK156 := n0_; have HB := n1_; clear n0_ n1_; (try clear hb); (try clear hb2); (try clear hk); (try clear hi)))
   repeat (go_quiet (first | (go_at_call 50; (with_reducible refine (basculeref21_Range.calls a1_0 a1_1 a1_2 a1_3 a1_4 a1_5 a1_6 a1_7 true _ A13.out).mono ?_); rintro e w19 ⟨rfl, hb⟩; have n0_ := Aside0.mk (blk_below (g := gb156) (o := .cells #[.string a1_0, .int .i64 a1_1, .int .i64 a1_2, .int .i64 a1_3, .int .i64 a1_4, .int .i64 a1_5, .int .i64 a1_6, .bool a1_7] 34 (0, 0)) zQx11a4_ hb); have n1_ := Aside0.mk (below_step zQx11a3_ hb); clear BK156; clear HB; have BK156 := n0_; have HB := n1_; clear n0_ n1_; (try clear hb); (try clear hb2); (try clear hk); (try clear hi))); try go_wp2_with (first | (go_at_call 50; (with_reducible refine (basculeref21_Range.calls a1_0 a1_1 a1_2 a1_3 a1_4 a1_5 a1_6 a1_7 true _ A13.out).mono ?_); rintro e w19 ⟨rfl, hb⟩; have n0_ := Aside0.mk (blk_below (g := gb156) (o := .cells #[.string a1_0, .int .i64 a1_1, .int .i64 a1_2, .int .i64 a1_3, .int .i64 a1_4, .int .i64 a1_5, .int .i64 a1_6, .bool a1_7] 34 (0, 0)) zQx11a4_ hb); have n1_ := Aside0.mk (below_step zQx11a3_ hb); clear BK156; clear HB; have BK156 := n0_; have HB := n1_; clear n0_ n1_; (try clear hb); (try clear hb2); (try clear hk); (try clear hi))))
   go_ret
   exact ⟨zQx11a6_, zQx11a3_⟩
def basculelaw21_awake.f  : Option (Bool) := (table_Parse.f (⟨#[116, 97, 110, 107, 47, 108, 101, 118, 101, 108, 32, 51, 32, 51, 32, 49, 54, 32, 51, 32, 49, 32, 53, 32, 114]⟩ : ByteArray)).bind fun bt178 => ((table_Parse.f (⟨#[97, 32, 49, 32, 49, 32, 48, 32, 49, 32, 48, 32, 48, 32, 114, 10, 97, 32, 49, 32, 49, 32, 48, 32, 49, 32, 48, 32, 48, 32, 114, 10]⟩ : ByteArray)).bind fun bt183 => ((table_Parse.f (⟨#[97, 32, 49]⟩ : ByteArray)).bind fun bt188 => (if (bt178.1.length : Int) = 1 then (if bt178.2.1 = 0 then (if bt178.2.2 = 0 then (if 0 < (bt178.1.length : Int) then (if ((rd_T34 bt178.1 0).f3) = 16 then (if ((rd_T34 bt178.1 0).f6) = 5 then (if bt183.2.1 = 2 then (if bt183.2.2 = 210 then (if bt188.2.1 = 1 then (some (bt188.2.2 == 4)) else (some false)) else (some false)) else (some false)) else (some false)) else (some false)) else (none)) else (some false)) else (some false)) else (some false))))
set_option maxHeartbeats 8000000 in
set_option maxRecDepth 100000 in
theorem basculelaw21_awake.calls  (r : Bool) (w : World) (hLd_ : Val.Laid w) (h : basculelaw21_awake.f  = some r) :
  Calls Tryz.prog 9 #[] w fun e w' => e = .returned (.bool r) ∧ Below w.heap.size w w' := by
 have HB := Aside0.mk (Below.refl w.heap.size w)
 have H : ((table_Parse.f (⟨#[116, 97, 110, 107, 47, 108, 101, 118, 101, 108, 32, 51, 32, 51, 32, 49, 54, 32, 51, 32, 49, 32, 53, 32, 114]⟩ : ByteArray)).bind fun bt178 => ((table_Parse.f (⟨#[97, 32, 49, 32, 49, 32, 48, 32, 49, 32, 48, 32, 48, 32, 114, 10, 97, 32, 49, 32, 49, 32, 48, 32, 49, 32, 48, 32, 48, 32, 114, 10]⟩ : ByteArray)).bind fun bt183 => ((table_Parse.f (⟨#[97, 32, 49]⟩ : ByteArray)).bind fun bt188 => (if (bt178.1.length : Int) = 1 then (if bt178.2.1 = 0 then (if bt178.2.2 = 0 then (if 0 < (bt178.1.length : Int) then (if ((rd_T34 bt178.1 0).f3) = 16 then (if ((rd_T34 bt178.1 0).f6) = 5 then (if bt183.2.1 = 2 then (if bt183.2.2 = 210 then (if bt188.2.1 = 1 then (some (bt188.2.2 == 4)) else (some false)) else (some false)) else (some false)) else (some false)) else (some false)) else (none)) else (some false)) else (some false)) else (some false))))) = some r := h
 clear h
 replace H := Option.bind_eq_some_iff.mp H
 obtain ⟨⟨t178, t179, t180⟩, A10, H⟩ := H
 replace H : ((table_Parse.f (⟨#[97, 32, 49, 32, 49, 32, 48, 32, 49, 32, 48, 32, 48, 32, 114, 10, 97, 32, 49, 32, 49, 32, 48, 32, 49, 32, 48, 32, 48, 32, 114, 10]⟩ : ByteArray)).bind fun bt183 => ((table_Parse.f (⟨#[97, 32, 49]⟩ : ByteArray)).bind fun bt188 => (if (t178.length : Int) = 1 then (if t179 = 0 then (if t180 = 0 then (if 0 < (t178.length : Int) then (if ((rd_T34 t178 0).f3) = 16 then (if ((rd_T34 t178 0).f6) = 5 then (if bt183.2.1 = 2 then (if bt183.2.2 = 210 then (if bt188.2.1 = 1 then (some (bt188.2.2 == 4)) else (some false)) else (some false)) else (some false)) else (some false)) else (some false)) else (none)) else (some false)) else (some false)) else (some false)))) = some r := H
 have A1 := Aside0.mk A10
 clear A10
 replace H := Option.bind_eq_some_iff.mp H
 obtain ⟨⟨t183, t184, t185⟩, A20, H⟩ := H
 replace H : ((table_Parse.f (⟨#[97, 32, 49]⟩ : ByteArray)).bind fun bt188 => (if (t178.length : Int) = 1 then (if t179 = 0 then (if t180 = 0 then (if 0 < (t178.length : Int) then (if ((rd_T34 t178 0).f3) = 16 then (if ((rd_T34 t178 0).f6) = 5 then (if t184 = 2 then (if t185 = 210 then (if bt188.2.1 = 1 then (some (bt188.2.2 == 4)) else (some false)) else (some false)) else (some false)) else (some false)) else (some false)) else (none)) else (some false)) else (some false)) else (some false))) = some r := H
 have A2 := Aside0.mk A20
 clear A20
 replace H := Option.bind_eq_some_iff.mp H
 obtain ⟨⟨t188, t189, t190⟩, A30, H⟩ := H
 replace H : (if (t178.length : Int) = 1 then (if t179 = 0 then (if t180 = 0 then (if 0 < (t178.length : Int) then (if ((rd_T34 t178 0).f3) = 16 then (if ((rd_T34 t178 0).f6) = 5 then (if t184 = 2 then (if t185 = 210 then (if t189 = 1 then (some (t190 == 4)) else (some false)) else (some false)) else (some false)) else (some false)) else (some false)) else (none)) else (some false)) else (some false)) else (some false)) = some r := H
 have A3 := Aside0.mk A30
 clear A30
 by_cases c4 : (t178.length : Int) = 1
 rotate_left
 ·
  rw [if_neg c4] at H
  have c4b0 : ((t178.length : Int) == 1) = false := beq_eq_false_iff_ne.mpr c4
  have c4b1 : ((t178.length : Int) != 1) = true := bne_iff_ne.mpr c4
  obtain rfl := Option.some.inj H
  go_enter Tryz.func9, Tryz.ntmps9
  go_wp2_with (first | ((with_reducible refine gate_callee (f := 7) rfl ?_); refine goesL_ (some 11) rfl rfl Tryz.func7 (by kernel_rfl) rfl #[.string (⟨#[116, 97, 110, 107, 47, 108, 101, 118, 101, 108, 32, 51, 32, 51, 32, 49, 54, 32, 51, 32, 49, 32, 53, 32, 114]⟩ : ByteArray)] rfl zQx11a2_ ?_; (with_reducible refine (table_Parse.calls (⟨#[116, 97, 110, 107, 47, 108, 101, 118, 101, 108, 32, 51, 32, 51, 32, 49, 54, 32, 51, 32, 49, 32, 53, 32, 114]⟩ : ByteArray) t178 t179 t180 _ (Val.Laid.below hLd_ zQx11a0_) A1.out).mono ?_); rintro e w45 ⟨v181, rfl, ho0, hb⟩; refine ⟨_, rfl, ?_⟩; have n0_ := Aside0.mk (Kd.R_lower ho0 (below_size zQx11a0_)); have n1_ := Aside0.mk (below_step zQx11a0_ hb); clear HB; have HO182 := n0_; have HB := n1_; clear n0_ n1_; (try clear hb); (try clear hb2); (try clear hk); (try clear hi); (try clear ho0)) | ((with_reducible refine gate_callee (f := 7) rfl ?_); refine goesL_ (some 16) rfl rfl Tryz.func7 (by kernel_rfl) rfl #[.string (⟨#[97, 32, 49, 32, 49, 32, 48, 32, 49, 32, 48, 32, 48, 32, 114, 10, 97, 32, 49, 32, 49, 32, 48, 32, 49, 32, 48, 32, 48, 32, 114, 10]⟩ : ByteArray)] rfl zQx11a2_ ?_; (with_reducible refine (table_Parse.calls (⟨#[97, 32, 49, 32, 49, 32, 48, 32, 49, 32, 48, 32, 48, 32, 114, 10, 97, 32, 49, 32, 49, 32, 48, 32, 49, 32, 48, 32, 48, 32, 114, 10]⟩ : ByteArray) t183 t184 t185 _ (Val.Laid.below hLd_ zQx11a0_) A2.out).mono ?_); rintro e w46 ⟨v186, rfl, ho0, hb⟩; refine ⟨_, rfl, ?_⟩; have n0_ := Aside0.mk (Kd.R_elder' zQx11a1_ (Kd.R_base ho0) hb); have n1_ := Aside0.mk (Kd.R_lower (Kd.R_new' ho0 (Kd.R_lt zQx11a1_)) (below_size zQx11a0_)); have n2_ := Aside0.mk (below_step zQx11a0_ hb); clear HO182; clear HB; have HO182 := n0_; have HO187 := n1_; have HB := n2_; clear n0_ n1_ n2_; (try clear hb); (try clear hb2); (try clear hk); (try clear hi); (try clear ho0)) | ((with_reducible refine gate_callee (f := 7) rfl ?_); refine goesL_ (some 21) rfl rfl Tryz.func7 (by kernel_rfl) rfl #[.string (⟨#[97, 32, 49]⟩ : ByteArray)] rfl zQx11a2_ ?_; (with_reducible refine (table_Parse.calls (⟨#[97, 32, 49]⟩ : ByteArray) t188 t189 t190 _ (Val.Laid.below hLd_ zQx11a0_) A3.out).mono ?_); rintro e w47 ⟨v191, rfl, ho0, hb⟩; refine ⟨_, rfl, ?_⟩; have n0_ := Aside0.mk (Kd.R_elder' zQx11a1_ (Kd.R_base ho0) hb); have n1_ := Aside0.mk (Kd.R_elder' zQx11a5_ (Kd.R_base ho0) hb); have n2_ := Aside0.mk (Kd.R_lower (Kd.R_new' (Kd.R_new' ho0 (Kd.R_lt zQx11a1_)) (Kd.R_lt zQx11a5_)) (below_size zQx11a0_)); have n3_ := Aside0.mk (below_step zQx11a0_ hb); clear HO182; clear HO187; clear HB; have HO182 := n0_; have HO187 := n1_; have HO192 := n2_; have HB := n3_; clear n0_ n1_ n2_ n3_; (try clear hb); (try clear hb2); (try clear hk); (try clear hi); (try clear ho0); obtain ⟨Ao48, co48, eo48⟩ := Kd.R_slice HO182.out; subst eo48))
  go_ret
  exact ⟨zQx11a6_, zQx11a0_⟩
 rw [if_pos c4] at H
 have c4b0 : ((t178.length : Int) == 1) = true := beq_iff_eq.mpr c4
 have c4b1 : ((t178.length : Int) != 1) = false := bne_eq_false_iff_eq.mpr c4
 clear c4
 by_cases c5 : t179 = 0
 rotate_left
 ·
  rw [if_neg c5] at H
  have c5b0 : (t179 == 0) = false := beq_eq_false_iff_ne.mpr c5
  have c5b1 : (t179 != 0) = true := bne_iff_ne.mpr c5
  obtain rfl := Option.some.inj H
  go_enter Tryz.func9, Tryz.ntmps9
  go_wp2_with (first | ((with_reducible refine gate_callee (f := 7) rfl ?_); refine goesL_ (some 11) rfl rfl Tryz.func7 (by kernel_rfl) rfl #[.string (⟨#[116, 97, 110, 107, 47, 108, 101, 118, 101, 108, 32, 51, 32, 51, 32, 49, 54, 32, 51, 32, 49, 32, 53, 32, 114]⟩ : ByteArray)] rfl zQx11a2_ ?_; (with_reducible refine (table_Parse.calls (⟨#[116, 97, 110, 107, 47, 108, 101, 118, 101, 108, 32, 51, 32, 51, 32, 49, 54, 32, 51, 32, 49, 32, 53, 32, 114]⟩ : ByteArray) t178 t179 t180 _ (Val.Laid.below hLd_ zQx11a0_) A1.out).mono ?_); rintro e w41 ⟨v181, rfl, ho0, hb⟩; refine ⟨_, rfl, ?_⟩; have n0_ := Aside0.mk (Kd.R_lower ho0 (below_size zQx11a0_)); have n1_ := Aside0.mk (below_step zQx11a0_ hb); clear HB; have HO182 := n0_; have HB := n1_; clear n0_ n1_; (try clear hb); (try clear hb2); (try clear hk); (try clear hi); (try clear ho0)) | ((with_reducible refine gate_callee (f := 7) rfl ?_); refine goesL_ (some 16) rfl rfl Tryz.func7 (by kernel_rfl) rfl #[.string (⟨#[97, 32, 49, 32, 49, 32, 48, 32, 49, 32, 48, 32, 48, 32, 114, 10, 97, 32, 49, 32, 49, 32, 48, 32, 49, 32, 48, 32, 48, 32, 114, 10]⟩ : ByteArray)] rfl zQx11a2_ ?_; (with_reducible refine (table_Parse.calls (⟨#[97, 32, 49, 32, 49, 32, 48, 32, 49, 32, 48, 32, 48, 32, 114, 10, 97, 32, 49, 32, 49, 32, 48, 32, 49, 32, 48, 32, 48, 32, 114, 10]⟩ : ByteArray) t183 t184 t185 _ (Val.Laid.below hLd_ zQx11a0_) A2.out).mono ?_); rintro e w42 ⟨v186, rfl, ho0, hb⟩; refine ⟨_, rfl, ?_⟩; have n0_ := Aside0.mk (Kd.R_elder' zQx11a1_ (Kd.R_base ho0) hb); have n1_ := Aside0.mk (Kd.R_lower (Kd.R_new' ho0 (Kd.R_lt zQx11a1_)) (below_size zQx11a0_)); have n2_ := Aside0.mk (below_step zQx11a0_ hb); clear HO182; clear HB; have HO182 := n0_; have HO187 := n1_; have HB := n2_; clear n0_ n1_ n2_; (try clear hb); (try clear hb2); (try clear hk); (try clear hi); (try clear ho0)) | ((with_reducible refine gate_callee (f := 7) rfl ?_); refine goesL_ (some 21) rfl rfl Tryz.func7 (by kernel_rfl) rfl #[.string (⟨#[97, 32, 49]⟩ : ByteArray)] rfl zQx11a2_ ?_; (with_reducible refine (table_Parse.calls (⟨#[97, 32, 49]⟩ : ByteArray) t188 t189 t190 _ (Val.Laid.below hLd_ zQx11a0_) A3.out).mono ?_); rintro e w43 ⟨v191, rfl, ho0, hb⟩; refine ⟨_, rfl, ?_⟩; have n0_ := Aside0.mk (Kd.R_elder' zQx11a1_ (Kd.R_base ho0) hb); have n1_ := Aside0.mk (Kd.R_elder' zQx11a5_ (Kd.R_base ho0) hb); have n2_ := Aside0.mk (Kd.R_lower (Kd.R_new' (Kd.R_new' ho0 (Kd.R_lt zQx11a1_)) (Kd.R_lt zQx11a5_)) (below_size zQx11a0_)); have n3_ := Aside0.mk (below_step zQx11a0_ hb); clear HO182; clear HO187; clear HB; have HO182 := n0_; have HO187 := n1_; have HO192 := n2_; have HB := n3_; clear n0_ n1_ n2_ n3_; (try clear hb); (try clear hb2); (try clear hk); (try clear hi); (try clear ho0); obtain ⟨Ao44, co44, eo44⟩ := Kd.R_slice HO182.out; subst eo44))
  go_ret
  exact ⟨zQx11a6_, zQx11a0_⟩
 rw [if_pos c5] at H
 have c5b0 : (t179 == 0) = true := beq_iff_eq.mpr c5
 have c5b1 : (t179 != 0) = false := bne_eq_false_iff_eq.mpr c5
 clear c5
 by_cases c6 : t180 = 0
 rotate_left
 ·
  rw [if_neg c6] at H
  have c6b0 : (t180 == 0) = false := beq_eq_false_iff_ne.mpr c6
  have c6b1 : (t180 != 0) = true := bne_iff_ne.mpr c6
  obtain rfl := Option.some.inj H
  go_enter Tryz.func9, Tryz.ntmps9
  go_wp2_with (first | ((with_reducible refine gate_callee (f := 7) rfl ?_); refine goesL_ (some 11) rfl rfl Tryz.func7 (by kernel_rfl) rfl #[.string (⟨#[116, 97, 110, 107, 47, 108, 101, 118, 101, 108, 32, 51, 32, 51, 32, 49, 54, 32, 51, 32, 49, 32, 53, 32, 114]⟩ : ByteArray)] rfl zQx11a2_ ?_; (with_reducible refine (table_Parse.calls (⟨#[116, 97, 110, 107, 47, 108, 101, 118, 101, 108, 32, 51, 32, 51, 32, 49, 54, 32, 51, 32, 49, 32, 53, 32, 114]⟩ : ByteArray) t178 t179 t180 _ (Val.Laid.below hLd_ zQx11a0_) A1.out).mono ?_); rintro e w37 ⟨v181, rfl, ho0, hb⟩; refine ⟨_, rfl, ?_⟩; have n0_ := Aside0.mk (Kd.R_lower ho0 (below_size zQx11a0_)); have n1_ := Aside0.mk (below_step zQx11a0_ hb); clear HB; have HO182 := n0_; have HB := n1_; clear n0_ n1_; (try clear hb); (try clear hb2); (try clear hk); (try clear hi); (try clear ho0)) | ((with_reducible refine gate_callee (f := 7) rfl ?_); refine goesL_ (some 16) rfl rfl Tryz.func7 (by kernel_rfl) rfl #[.string (⟨#[97, 32, 49, 32, 49, 32, 48, 32, 49, 32, 48, 32, 48, 32, 114, 10, 97, 32, 49, 32, 49, 32, 48, 32, 49, 32, 48, 32, 48, 32, 114, 10]⟩ : ByteArray)] rfl zQx11a2_ ?_; (with_reducible refine (table_Parse.calls (⟨#[97, 32, 49, 32, 49, 32, 48, 32, 49, 32, 48, 32, 48, 32, 114, 10, 97, 32, 49, 32, 49, 32, 48, 32, 49, 32, 48, 32, 48, 32, 114, 10]⟩ : ByteArray) t183 t184 t185 _ (Val.Laid.below hLd_ zQx11a0_) A2.out).mono ?_); rintro e w38 ⟨v186, rfl, ho0, hb⟩; refine ⟨_, rfl, ?_⟩; have n0_ := Aside0.mk (Kd.R_elder' zQx11a1_ (Kd.R_base ho0) hb); have n1_ := Aside0.mk (Kd.R_lower (Kd.R_new' ho0 (Kd.R_lt zQx11a1_)) (below_size zQx11a0_)); have n2_ := Aside0.mk (below_step zQx11a0_ hb); clear HO182; clear HB; have HO182 := n0_; have HO187 := n1_; have HB := n2_; clear n0_ n1_ n2_; (try clear hb); (try clear hb2); (try clear hk); (try clear hi); (try clear ho0)) | ((with_reducible refine gate_callee (f := 7) rfl ?_); refine goesL_ (some 21) rfl rfl Tryz.func7 (by kernel_rfl) rfl #[.string (⟨#[97, 32, 49]⟩ : ByteArray)] rfl zQx11a2_ ?_; (with_reducible refine (table_Parse.calls (⟨#[97, 32, 49]⟩ : ByteArray) t188 t189 t190 _ (Val.Laid.below hLd_ zQx11a0_) A3.out).mono ?_); rintro e w39 ⟨v191, rfl, ho0, hb⟩; refine ⟨_, rfl, ?_⟩; have n0_ := Aside0.mk (Kd.R_elder' zQx11a1_ (Kd.R_base ho0) hb); have n1_ := Aside0.mk (Kd.R_elder' zQx11a5_ (Kd.R_base ho0) hb); have n2_ := Aside0.mk (Kd.R_lower (Kd.R_new' (Kd.R_new' ho0 (Kd.R_lt zQx11a1_)) (Kd.R_lt zQx11a5_)) (below_size zQx11a0_)); have n3_ := Aside0.mk (below_step zQx11a0_ hb); clear HO182; clear HO187; clear HB; have HO182 := n0_; have HO187 := n1_; have HO192 := n2_; have HB := n3_; clear n0_ n1_ n2_ n3_; (try clear hb); (try clear hb2); (try clear hk); (try clear hi); (try clear ho0); obtain ⟨Ao40, co40, eo40⟩ := Kd.R_slice HO182.out; subst eo40))
  go_ret
  exact ⟨zQx11a6_, zQx11a0_⟩
 rw [if_pos c6] at H
 have c6b0 : (t180 == 0) = true := beq_iff_eq.mpr c6
 have c6b1 : (t180 != 0) = false := bne_eq_false_iff_eq.mpr c6
 clear c6
 have c7 : 0 < (t178.length : Int) := znQx11_
 rw [if_pos c7] at H
 have c7b0 : decide (0 < (t178.length : Int)) = true := decide_eq_true c7
 have c7b1 : decide (0 < t178.length) = true := decide_eq_true (by omega)
 clear c7
 by_cases c8 : ((rd_T34 t178 0).f3) = 16
 rotate_left
 ·
  rw [if_neg c8] at H
  have c8b0 : (((rd_T34 t178 0).f3) == 16) = false := beq_eq_false_iff_ne.mpr c8
  have c8b1 : (((rd_T34 t178 0).f3) != 16) = true := bne_iff_ne.mpr c8
  obtain rfl := Option.some.inj H
  go_enter Tryz.func9, Tryz.ntmps9
  go_wp2_with (first | ((with_reducible refine gate_callee (f := 7) rfl ?_); refine goesL_ (some 11) rfl rfl Tryz.func7 (by kernel_rfl) rfl #[.string (⟨#[116, 97, 110, 107, 47, 108, 101, 118, 101, 108, 32, 51, 32, 51, 32, 49, 54, 32, 51, 32, 49, 32, 53, 32, 114]⟩ : ByteArray)] rfl zQx11a2_ ?_; (with_reducible refine (table_Parse.calls (⟨#[116, 97, 110, 107, 47, 108, 101, 118, 101, 108, 32, 51, 32, 51, 32, 49, 54, 32, 51, 32, 49, 32, 53, 32, 114]⟩ : ByteArray) t178 t179 t180 _ (Val.Laid.below hLd_ zQx11a0_) A1.out).mono ?_); rintro e w33 ⟨v181, rfl, ho0, hb⟩; refine ⟨_, rfl, ?_⟩; have n0_ := Aside0.mk (Kd.R_lower ho0 (below_size zQx11a0_)); have n1_ := Aside0.mk (below_step zQx11a0_ hb); clear HB; have HO182 := n0_; have HB := n1_; clear n0_ n1_; (try clear hb); (try clear hb2); (try clear hk); (try clear hi); (try clear ho0)) | ((with_reducible refine gate_callee (f := 7) rfl ?_); refine goesL_ (some 16) rfl rfl Tryz.func7 (by kernel_rfl) rfl #[.string (⟨#[97, 32, 49, 32, 49, 32, 48, 32, 49, 32, 48, 32, 48, 32, 114, 10, 97, 32, 49, 32, 49, 32, 48, 32, 49, 32, 48, 32, 48, 32, 114, 10]⟩ : ByteArray)] rfl zQx11a2_ ?_; (with_reducible refine (table_Parse.calls (⟨#[97, 32, 49, 32, 49, 32, 48, 32, 49, 32, 48, 32, 48, 32, 114, 10, 97, 32, 49, 32, 49, 32, 48, 32, 49, 32, 48, 32, 48, 32, 114, 10]⟩ : ByteArray) t183 t184 t185 _ (Val.Laid.below hLd_ zQx11a0_) A2.out).mono ?_); rintro e w34 ⟨v186, rfl, ho0, hb⟩; refine ⟨_, rfl, ?_⟩; have n0_ := Aside0.mk (Kd.R_elder' zQx11a1_ (Kd.R_base ho0) hb); have n1_ := Aside0.mk (Kd.R_lower (Kd.R_new' ho0 (Kd.R_lt zQx11a1_)) (below_size zQx11a0_)); have n2_ := Aside0.mk (below_step zQx11a0_ hb); clear HO182; clear HB; have HO182 := n0_; have HO187 := n1_; have HB := n2_; clear n0_ n1_ n2_; (try clear hb); (try clear hb2); (try clear hk); (try clear hi); (try clear ho0)) | ((with_reducible refine gate_callee (f := 7) rfl ?_); refine goesL_ (some 21) rfl rfl Tryz.func7 (by kernel_rfl) rfl #[.string (⟨#[97, 32, 49]⟩ : ByteArray)] rfl zQx11a2_ ?_; (with_reducible refine (table_Parse.calls (⟨#[97, 32, 49]⟩ : ByteArray) t188 t189 t190 _ (Val.Laid.below hLd_ zQx11a0_) A3.out).mono ?_); rintro e w35 ⟨v191, rfl, ho0, hb⟩; refine ⟨_, rfl, ?_⟩; have n0_ := Aside0.mk (Kd.R_elder' zQx11a1_ (Kd.R_base ho0) hb); have n1_ := Aside0.mk (Kd.R_elder' zQx11a5_ (Kd.R_base ho0) hb); have n2_ := Aside0.mk (Kd.R_lower (Kd.R_new' (Kd.R_new' ho0 (Kd.R_lt zQx11a1_)) (Kd.R_lt zQx11a5_)) (below_size zQx11a0_)); have n3_ := Aside0.mk (below_step zQx11a0_ hb); clear HO182; clear HO187; clear HB; have HO182 := n0_; have HO187 := n1_; have HO192 := n2_; have HB := n3_; clear n0_ n1_ n2_ n3_; (try clear hb); (try clear hb2); (try clear hk); (try clear hi); (try clear ho0); obtain ⟨Ao36, co36, eo36⟩ := Kd.R_slice HO182.out; subst eo36; have p193 : 0 ≤ (0 : Int) := (by omega); have q193 : 0 < (t178.length : Int) := of_decide_eq_true zQx11a7_; obtain ⟨ad193, e193, hx193_0, hx193_1, hx193_2, hx193_3, hx193_4, hx193_5, hx193_6, hx193_7⟩ := at_T34 (Kd.R_reads' HO182.out).2.2 0 p193 q193; cases e193; have qi193 : (0 < t178.length) = True := eq_true (by omega); (try rw [show ((0 : Int)).toNat = 0 from rfl] at hx193_0); (try rw [show 0 * 8 = 0 from rfl] at hx193_0); (try rw [Addr.add_zero'] at hx193_0); (try rw [show ((0 : Int)).toNat = 0 from rfl] at hx193_1); (try rw [show 0 * 8 = 0 from rfl] at hx193_1); (try rw [Addr.add_zero'] at hx193_1); (try rw [show ((0 : Int)).toNat = 0 from rfl] at hx193_2); (try rw [show 0 * 8 = 0 from rfl] at hx193_2); (try rw [Addr.add_zero'] at hx193_2); (try rw [show ((0 : Int)).toNat = 0 from rfl] at hx193_3); (try rw [show 0 * 8 = 0 from rfl] at hx193_3); (try rw [Addr.add_zero'] at hx193_3); (try rw [show ((0 : Int)).toNat = 0 from rfl] at hx193_4); (try rw [show 0 * 8 = 0 from rfl] at hx193_4); (try rw [Addr.add_zero'] at hx193_4); (try rw [show ((0 : Int)).toNat = 0 from rfl] at hx193_5); (try rw [show 0 * 8 = 0 from rfl] at hx193_5); (try rw [Addr.add_zero'] at hx193_5); (try rw [show ((0 : Int)).toNat = 0 from rfl] at hx193_6); (try rw [show 0 * 8 = 0 from rfl] at hx193_6); (try rw [Addr.add_zero'] at hx193_6); (try rw [show ((0 : Int)).toNat = 0 from rfl] at hx193_7); (try rw [show 0 * 8 = 0 from rfl] at hx193_7); (try rw [Addr.add_zero'] at hx193_7); replace p193 := eq_true p193; replace q193 := eq_true q193))
  go_ret
  exact ⟨zQx11a6_, zQx11a0_⟩
 rw [if_pos c8] at H
 have c8b0 : (((rd_T34 t178 0).f3) == 16) = true := beq_iff_eq.mpr c8
 have c8b1 : (((rd_T34 t178 0).f3) != 16) = false := bne_eq_false_iff_eq.mpr c8
 clear c8
 by_cases c9 : ((rd_T34 t178 0).f6) = 5
 rotate_left
 ·
  rw [if_neg c9] at H
  have c9b0 : (((rd_T34 t178 0).f6) == 5) = false := beq_eq_false_iff_ne.mpr c9
  have c9b1 : (((rd_T34 t178 0).f6) != 5) = true := bne_iff_ne.mpr c9
  obtain rfl := Option.some.inj H
  go_enter Tryz.func9, Tryz.ntmps9
  go_wp2_with (first | ((with_reducible refine gate_callee (f := 7) rfl ?_); refine goesL_ (some 11) rfl rfl Tryz.func7 (by kernel_rfl) rfl #[.string (⟨#[116, 97, 110, 107, 47, 108, 101, 118, 101, 108, 32, 51, 32, 51, 32, 49, 54, 32, 51, 32, 49, 32, 53, 32, 114]⟩ : ByteArray)] rfl zQx11a2_ ?_; (with_reducible refine (table_Parse.calls (⟨#[116, 97, 110, 107, 47, 108, 101, 118, 101, 108, 32, 51, 32, 51, 32, 49, 54, 32, 51, 32, 49, 32, 53, 32, 114]⟩ : ByteArray) t178 t179 t180 _ (Val.Laid.below hLd_ zQx11a0_) A1.out).mono ?_); rintro e w29 ⟨v181, rfl, ho0, hb⟩; refine ⟨_, rfl, ?_⟩; have n0_ := Aside0.mk (Kd.R_lower ho0 (below_size zQx11a0_)); have n1_ := Aside0.mk (below_step zQx11a0_ hb); clear HB; have HO182 := n0_; have HB := n1_; clear n0_ n1_; (try clear hb); (try clear hb2); (try clear hk); (try clear hi); (try clear ho0)) | ((with_reducible refine gate_callee (f := 7) rfl ?_); refine goesL_ (some 16) rfl rfl Tryz.func7 (by kernel_rfl) rfl #[.string (⟨#[97, 32, 49, 32, 49, 32, 48, 32, 49, 32, 48, 32, 48, 32, 114, 10, 97, 32, 49, 32, 49, 32, 48, 32, 49, 32, 48, 32, 48, 32, 114, 10]⟩ : ByteArray)] rfl zQx11a2_ ?_; (with_reducible refine (table_Parse.calls (⟨#[97, 32, 49, 32, 49, 32, 48, 32, 49, 32, 48, 32, 48, 32, 114, 10, 97, 32, 49, 32, 49, 32, 48, 32, 49, 32, 48, 32, 48, 32, 114, 10]⟩ : ByteArray) t183 t184 t185 _ (Val.Laid.below hLd_ zQx11a0_) A2.out).mono ?_); rintro e w30 ⟨v186, rfl, ho0, hb⟩; refine ⟨_, rfl, ?_⟩; have n0_ := Aside0.mk (Kd.R_elder' zQx11a1_ (Kd.R_base ho0) hb); have n1_ := Aside0.mk (Kd.R_lower (Kd.R_new' ho0 (Kd.R_lt zQx11a1_)) (below_size zQx11a0_)); have n2_ := Aside0.mk (below_step zQx11a0_ hb); clear HO182; clear HB; have HO182 := n0_; have HO187 := n1_; have HB := n2_; clear n0_ n1_ n2_; (try clear hb); (try clear hb2); (try clear hk); (try clear hi); (try clear ho0)) | ((with_reducible refine gate_callee (f := 7) rfl ?_); refine goesL_ (some 21) rfl rfl Tryz.func7 (by kernel_rfl) rfl #[.string (⟨#[97, 32, 49]⟩ : ByteArray)] rfl zQx11a2_ ?_; (with_reducible refine (table_Parse.calls (⟨#[97, 32, 49]⟩ : ByteArray) t188 t189 t190 _ (Val.Laid.below hLd_ zQx11a0_) A3.out).mono ?_); rintro e w31 ⟨v191, rfl, ho0, hb⟩; refine ⟨_, rfl, ?_⟩; have n0_ := Aside0.mk (Kd.R_elder' zQx11a1_ (Kd.R_base ho0) hb); have n1_ := Aside0.mk (Kd.R_elder' zQx11a5_ (Kd.R_base ho0) hb); have n2_ := Aside0.mk (Kd.R_lower (Kd.R_new' (Kd.R_new' ho0 (Kd.R_lt zQx11a1_)) (Kd.R_lt zQx11a5_)) (below_size zQx11a0_)); have n3_ := Aside0.mk (below_step zQx11a0_ hb); clear HO182; clear HO187; clear HB; have HO182 := n0_; have HO187 := n1_; have HO192 := n2_; have HB := n3_; clear n0_ n1_ n2_ n3_; (try clear hb); (try clear hb2); (try clear hk); (try clear hi); (try clear ho0); obtain ⟨Ao32, co32, eo32⟩ := Kd.R_slice HO182.out; subst eo32; have p193 : 0 ≤ (0 : Int) := (by omega); have q193 : 0 < (t178.length : Int) := of_decide_eq_true zQx11a7_; obtain ⟨ad193, e193, hx193_0, hx193_1, hx193_2, hx193_3, hx193_4, hx193_5, hx193_6, hx193_7⟩ := at_T34 (Kd.R_reads' HO182.out).2.2 0 p193 q193; cases e193; have qi193 : (0 < t178.length) = True := eq_true (by omega); (try rw [show ((0 : Int)).toNat = 0 from rfl] at hx193_0); (try rw [show 0 * 8 = 0 from rfl] at hx193_0); (try rw [Addr.add_zero'] at hx193_0); (try rw [show ((0 : Int)).toNat = 0 from rfl] at hx193_1); (try rw [show 0 * 8 = 0 from rfl] at hx193_1); (try rw [Addr.add_zero'] at hx193_1); (try rw [show ((0 : Int)).toNat = 0 from rfl] at hx193_2); (try rw [show 0 * 8 = 0 from rfl] at hx193_2); (try rw [Addr.add_zero'] at hx193_2); (try rw [show ((0 : Int)).toNat = 0 from rfl] at hx193_3); (try rw [show 0 * 8 = 0 from rfl] at hx193_3); (try rw [Addr.add_zero'] at hx193_3); (try rw [show ((0 : Int)).toNat = 0 from rfl] at hx193_4); (try rw [show 0 * 8 = 0 from rfl] at hx193_4); (try rw [Addr.add_zero'] at hx193_4); (try rw [show ((0 : Int)).toNat = 0 from rfl] at hx193_5); (try rw [show 0 * 8 = 0 from rfl] at hx193_5); (try rw [Addr.add_zero'] at hx193_5); (try rw [show ((0 : Int)).toNat = 0 from rfl] at hx193_6); (try rw [show 0 * 8 = 0 from rfl] at hx193_6); (try rw [Addr.add_zero'] at hx193_6); (try rw [show ((0 : Int)).toNat = 0 from rfl] at hx193_7); (try rw [show 0 * 8 = 0 from rfl] at hx193_7); (try rw [Addr.add_zero'] at hx193_7); replace p193 := eq_true p193; replace q193 := eq_true q193; have p194 : 0 ≤ (0 : Int) := (by omega); have q194 : 0 < (t178.length : Int) := of_decide_eq_true zQx11a7_; obtain ⟨ad194, e194, hx194_0, hx194_1, hx194_2, hx194_3, hx194_4, hx194_5, hx194_6, hx194_7⟩ := at_T34 (Kd.R_reads' HO182.out).2.2 0 p194 q194; obtain rfl : ad193 = ad194 := (by injection e194); have qi194 : (0 < t178.length) = True := eq_true (by omega); (try rw [show ((0 : Int)).toNat = 0 from rfl] at hx194_0); (try rw [show 0 * 8 = 0 from rfl] at hx194_0); (try rw [Addr.add_zero'] at hx194_0); (try rw [show ((0 : Int)).toNat = 0 from rfl] at hx194_1); (try rw [show 0 * 8 = 0 from rfl] at hx194_1); (try rw [Addr.add_zero'] at hx194_1); (try rw [show ((0 : Int)).toNat = 0 from rfl] at hx194_2); (try rw [show 0 * 8 = 0 from rfl] at hx194_2); (try rw [Addr.add_zero'] at hx194_2); (try rw [show ((0 : Int)).toNat = 0 from rfl] at hx194_3); (try rw [show 0 * 8 = 0 from rfl] at hx194_3); (try rw [Addr.add_zero'] at hx194_3); (try rw [show ((0 : Int)).toNat = 0 from rfl] at hx194_4); (try rw [show 0 * 8 = 0 from rfl] at hx194_4); (try rw [Addr.add_zero'] at hx194_4); (try rw [show ((0 : Int)).toNat = 0 from rfl] at hx194_5); (try rw [show 0 * 8 = 0 from rfl] at hx194_5); (try rw [Addr.add_zero'] at hx194_5); (try rw [show ((0 : Int)).toNat = 0 from rfl] at hx194_6); (try rw [show 0 * 8 = 0 from rfl] at hx194_6); (try rw [Addr.add_zero'] at hx194_6); (try rw [show ((0 : Int)).toNat = 0 from rfl] at hx194_7); (try rw [show 0 * 8 = 0 from rfl] at hx194_7); (try rw [Addr.add_zero'] at hx194_7); replace p194 := eq_true p194; replace q194 := eq_true q194))
  go_ret
  exact ⟨zQx11a6_, zQx11a0_⟩
 rw [if_pos c9] at H
 have c9b0 : (((rd_T34 t178 0).f6) == 5) = true := beq_iff_eq.mpr c9
 have c9b1 : (((rd_T34 t178 0).f6) != 5) = false := bne_eq_false_iff_eq.mpr c9
 clear c9
 by_cases c10 : t184 = 2
 rotate_left
 ·
  rw [if_neg c10] at H
  have c10b0 : (t184 == 2) = false := beq_eq_false_iff_ne.mpr c10
  have c10b1 : (t184 != 2) = true := bne_iff_ne.mpr c10
  obtain rfl := Option.some.inj H
  go_enter Tryz.func9, Tryz.ntmps9
  go_wp2_with (first | ((with_reducible refine gate_callee (f := 7) rfl ?_); refine goesL_ (some 11) rfl rfl Tryz.func7 (by kernel_rfl) rfl #[.string (⟨#[116, 97, 110, 107, 47, 108, 101, 118, 101, 108, 32, 51, 32, 51, 32, 49, 54, 32, 51, 32, 49, 32, 53, 32, 114]⟩ : ByteArray)] rfl zQx11a2_ ?_; (with_reducible refine (table_Parse.calls (⟨#[116, 97, 110, 107, 47, 108, 101, 118, 101, 108, 32, 51, 32, 51, 32, 49, 54, 32, 51, 32, 49, 32, 53, 32, 114]⟩ : ByteArray) t178 t179 t180 _ (Val.Laid.below hLd_ zQx11a0_) A1.out).mono ?_); rintro e w25 ⟨v181, rfl, ho0, hb⟩; refine ⟨_, rfl, ?_⟩; have n0_ := Aside0.mk (Kd.R_lower ho0 (below_size zQx11a0_)); have n1_ := Aside0.mk (below_step zQx11a0_ hb); clear HB; have HO182 := n0_; have HB := n1_; clear n0_ n1_; (try clear hb); (try clear hb2); (try clear hk); (try clear hi); (try clear ho0)) | ((with_reducible refine gate_callee (f := 7) rfl ?_); refine goesL_ (some 16) rfl rfl Tryz.func7 (by kernel_rfl) rfl #[.string (⟨#[97, 32, 49, 32, 49, 32, 48, 32, 49, 32, 48, 32, 48, 32, 114, 10, 97, 32, 49, 32, 49, 32, 48, 32, 49, 32, 48, 32, 48, 32, 114, 10]⟩ : ByteArray)] rfl zQx11a2_ ?_; (with_reducible refine (table_Parse.calls (⟨#[97, 32, 49, 32, 49, 32, 48, 32, 49, 32, 48, 32, 48, 32, 114, 10, 97, 32, 49, 32, 49, 32, 48, 32, 49, 32, 48, 32, 48, 32, 114, 10]⟩ : ByteArray) t183 t184 t185 _ (Val.Laid.below hLd_ zQx11a0_) A2.out).mono ?_); rintro e w26 ⟨v186, rfl, ho0, hb⟩; refine ⟨_, rfl, ?_⟩; have n0_ := Aside0.mk (Kd.R_elder' zQx11a1_ (Kd.R_base ho0) hb); have n1_ := Aside0.mk (Kd.R_lower (Kd.R_new' ho0 (Kd.R_lt zQx11a1_)) (below_size zQx11a0_)); have n2_ := Aside0.mk (below_step zQx11a0_ hb); clear HO182; clear HB; have HO182 := n0_; have HO187 := n1_; have HB := n2_; clear n0_ n1_ n2_; (try clear hb); (try clear hb2); (try clear hk); (try clear hi); (try clear ho0)) | ((with_reducible refine gate_callee (f := 7) rfl ?_); refine goesL_ (some 21) rfl rfl Tryz.func7 (by kernel_rfl) rfl #[.string (⟨#[97, 32, 49]⟩ : ByteArray)] rfl zQx11a2_ ?_; (with_reducible refine (table_Parse.calls (⟨#[97, 32, 49]⟩ : ByteArray) t188 t189 t190 _ (Val.Laid.below hLd_ zQx11a0_) A3.out).mono ?_); rintro e w27 ⟨v191, rfl, ho0, hb⟩; refine ⟨_, rfl, ?_⟩; have n0_ := Aside0.mk (Kd.R_elder' zQx11a1_ (Kd.R_base ho0) hb); have n1_ := Aside0.mk (Kd.R_elder' zQx11a5_ (Kd.R_base ho0) hb); have n2_ := Aside0.mk (Kd.R_lower (Kd.R_new' (Kd.R_new' ho0 (Kd.R_lt zQx11a1_)) (Kd.R_lt zQx11a5_)) (below_size zQx11a0_)); have n3_ := Aside0.mk (below_step zQx11a0_ hb); clear HO182; clear HO187; clear HB; have HO182 := n0_; have HO187 := n1_; have HO192 := n2_; have HB := n3_; clear n0_ n1_ n2_ n3_; (try clear hb); (try clear hb2); (try clear hk); (try clear hi); (try clear ho0); obtain ⟨Ao28, co28, eo28⟩ := Kd.R_slice HO182.out; subst eo28; have p193 : 0 ≤ (0 : Int) := (by omega); have q193 : 0 < (t178.length : Int) := of_decide_eq_true zQx11a7_; obtain ⟨ad193, e193, hx193_0, hx193_1, hx193_2, hx193_3, hx193_4, hx193_5, hx193_6, hx193_7⟩ := at_T34 (Kd.R_reads' HO182.out).2.2 0 p193 q193; cases e193; have qi193 : (0 < t178.length) = True := eq_true (by omega); (try rw [show ((0 : Int)).toNat = 0 from rfl] at hx193_0); (try rw [show 0 * 8 = 0 from rfl] at hx193_0); (try rw [Addr.add_zero'] at hx193_0); (try rw [show ((0 : Int)).toNat = 0 from rfl] at hx193_1); (try rw [show 0 * 8 = 0 from rfl] at hx193_1); (try rw [Addr.add_zero'] at hx193_1); (try rw [show ((0 : Int)).toNat = 0 from rfl] at hx193_2); (try rw [show 0 * 8 = 0 from rfl] at hx193_2); (try rw [Addr.add_zero'] at hx193_2); (try rw [show ((0 : Int)).toNat = 0 from rfl] at hx193_3); (try rw [show 0 * 8 = 0 from rfl] at hx193_3); (try rw [Addr.add_zero'] at hx193_3); (try rw [show ((0 : Int)).toNat = 0 from rfl] at hx193_4); (try rw [show 0 * 8 = 0 from rfl] at hx193_4); (try rw [Addr.add_zero'] at hx193_4); (try rw [show ((0 : Int)).toNat = 0 from rfl] at hx193_5); (try rw [show 0 * 8 = 0 from rfl] at hx193_5); (try rw [Addr.add_zero'] at hx193_5); (try rw [show ((0 : Int)).toNat = 0 from rfl] at hx193_6); (try rw [show 0 * 8 = 0 from rfl] at hx193_6); (try rw [Addr.add_zero'] at hx193_6); (try rw [show ((0 : Int)).toNat = 0 from rfl] at hx193_7); (try rw [show 0 * 8 = 0 from rfl] at hx193_7); (try rw [Addr.add_zero'] at hx193_7); replace p193 := eq_true p193; replace q193 := eq_true q193; have p194 : 0 ≤ (0 : Int) := (by omega); have q194 : 0 < (t178.length : Int) := of_decide_eq_true zQx11a7_; obtain ⟨ad194, e194, hx194_0, hx194_1, hx194_2, hx194_3, hx194_4, hx194_5, hx194_6, hx194_7⟩ := at_T34 (Kd.R_reads' HO182.out).2.2 0 p194 q194; obtain rfl : ad193 = ad194 := (by injection e194); have qi194 : (0 < t178.length) = True := eq_true (by omega); (try rw [show ((0 : Int)).toNat = 0 from rfl] at hx194_0); (try rw [show 0 * 8 = 0 from rfl] at hx194_0); (try rw [Addr.add_zero'] at hx194_0); (try rw [show ((0 : Int)).toNat = 0 from rfl] at hx194_1); (try rw [show 0 * 8 = 0 from rfl] at hx194_1); (try rw [Addr.add_zero'] at hx194_1); (try rw [show ((0 : Int)).toNat = 0 from rfl] at hx194_2); (try rw [show 0 * 8 = 0 from rfl] at hx194_2); (try rw [Addr.add_zero'] at hx194_2); (try rw [show ((0 : Int)).toNat = 0 from rfl] at hx194_3); (try rw [show 0 * 8 = 0 from rfl] at hx194_3); (try rw [Addr.add_zero'] at hx194_3); (try rw [show ((0 : Int)).toNat = 0 from rfl] at hx194_4); (try rw [show 0 * 8 = 0 from rfl] at hx194_4); (try rw [Addr.add_zero'] at hx194_4); (try rw [show ((0 : Int)).toNat = 0 from rfl] at hx194_5); (try rw [show 0 * 8 = 0 from rfl] at hx194_5); (try rw [Addr.add_zero'] at hx194_5); (try rw [show ((0 : Int)).toNat = 0 from rfl] at hx194_6); (try rw [show 0 * 8 = 0 from rfl] at hx194_6); (try rw [Addr.add_zero'] at hx194_6); (try rw [show ((0 : Int)).toNat = 0 from rfl] at hx194_7); (try rw [show 0 * 8 = 0 from rfl] at hx194_7); (try rw [Addr.add_zero'] at hx194_7); replace p194 := eq_true p194; replace q194 := eq_true q194))
  go_ret
  exact ⟨zQx11a6_, zQx11a0_⟩
 rw [if_pos c10] at H
 have c10b0 : (t184 == 2) = true := beq_iff_eq.mpr c10
 have c10b1 : (t184 != 2) = false := bne_eq_false_iff_eq.mpr c10
 clear c10
 by_cases c11 : t185 = 210
 rotate_left
 ·
  rw [if_neg c11] at H
  have c11b0 : (t185 == 210) = false := beq_eq_false_iff_ne.mpr c11
  have c11b1 : (t185 != 210) = true := bne_iff_ne.mpr c11
  obtain rfl := Option.some.inj H
  go_enter Tryz.func9, Tryz.ntmps9
  go_wp2_with (first | ((with_reducible refine gate_callee (f := 7) rfl ?_); refine goesL_ (some 11) rfl rfl Tryz.func7 (by kernel_rfl) rfl #[.string (⟨#[116, 97, 110, 107, 47, 108, 101, 118, 101, 108, 32, 51, 32, 51, 32, 49, 54, 32, 51, 32, 49, 32, 53, 32, 114]⟩ : ByteArray)] rfl zQx11a2_ ?_; (with_reducible refine (table_Parse.calls (⟨#[116, 97, 110, 107, 47, 108, 101, 118, 101, 108, 32, 51, 32, 51, 32, 49, 54, 32, 51, 32, 49, 32, 53, 32, 114]⟩ : ByteArray) t178 t179 t180 _ (Val.Laid.below hLd_ zQx11a0_) A1.out).mono ?_); rintro e w21 ⟨v181, rfl, ho0, hb⟩; refine ⟨_, rfl, ?_⟩; have n0_ := Aside0.mk (Kd.R_lower ho0 (below_size zQx11a0_)); have n1_ := Aside0.mk (below_step zQx11a0_ hb); clear HB; have HO182 := n0_; have HB := n1_; clear n0_ n1_; (try clear hb); (try clear hb2); (try clear hk); (try clear hi); (try clear ho0)) | ((with_reducible refine gate_callee (f := 7) rfl ?_); refine goesL_ (some 16) rfl rfl Tryz.func7 (by kernel_rfl) rfl #[.string (⟨#[97, 32, 49, 32, 49, 32, 48, 32, 49, 32, 48, 32, 48, 32, 114, 10, 97, 32, 49, 32, 49, 32, 48, 32, 49, 32, 48, 32, 48, 32, 114, 10]⟩ : ByteArray)] rfl zQx11a2_ ?_; (with_reducible refine (table_Parse.calls (⟨#[97, 32, 49, 32, 49, 32, 48, 32, 49, 32, 48, 32, 48, 32, 114, 10, 97, 32, 49, 32, 49, 32, 48, 32, 49, 32, 48, 32, 48, 32, 114, 10]⟩ : ByteArray) t183 t184 t185 _ (Val.Laid.below hLd_ zQx11a0_) A2.out).mono ?_); rintro e w22 ⟨v186, rfl, ho0, hb⟩; refine ⟨_, rfl, ?_⟩; have n0_ := Aside0.mk (Kd.R_elder' zQx11a1_ (Kd.R_base ho0) hb); have n1_ := Aside0.mk (Kd.R_lower (Kd.R_new' ho0 (Kd.R_lt zQx11a1_)) (below_size zQx11a0_)); have n2_ := Aside0.mk (below_step zQx11a0_ hb); clear HO182; clear HB; have HO182 := n0_; have HO187 := n1_; have HB := n2_; clear n0_ n1_ n2_; (try clear hb); (try clear hb2); (try clear hk); (try clear hi); (try clear ho0)) | ((with_reducible refine gate_callee (f := 7) rfl ?_); refine goesL_ (some 21) rfl rfl Tryz.func7 (by kernel_rfl) rfl #[.string (⟨#[97, 32, 49]⟩ : ByteArray)] rfl zQx11a2_ ?_; (with_reducible refine (table_Parse.calls (⟨#[97, 32, 49]⟩ : ByteArray) t188 t189 t190 _ (Val.Laid.below hLd_ zQx11a0_) A3.out).mono ?_); rintro e w23 ⟨v191, rfl, ho0, hb⟩; refine ⟨_, rfl, ?_⟩; have n0_ := Aside0.mk (Kd.R_elder' zQx11a1_ (Kd.R_base ho0) hb); have n1_ := Aside0.mk (Kd.R_elder' zQx11a5_ (Kd.R_base ho0) hb); have n2_ := Aside0.mk (Kd.R_lower (Kd.R_new' (Kd.R_new' ho0 (Kd.R_lt zQx11a1_)) (Kd.R_lt zQx11a5_)) (below_size zQx11a0_)); have n3_ := Aside0.mk (below_step zQx11a0_ hb); clear HO182; clear HO187; clear HB; have HO182 := n0_; have HO187 := n1_; have HO192 := n2_; have HB := n3_; clear n0_ n1_ n2_ n3_; (try clear hb); (try clear hb2); (try clear hk); (try clear hi); (try clear ho0); obtain ⟨Ao24, co24, eo24⟩ := Kd.R_slice HO182.out; subst eo24; have p193 : 0 ≤ (0 : Int) := (by omega); have q193 : 0 < (t178.length : Int) := of_decide_eq_true zQx11a7_; obtain ⟨ad193, e193, hx193_0, hx193_1, hx193_2, hx193_3, hx193_4, hx193_5, hx193_6, hx193_7⟩ := at_T34 (Kd.R_reads' HO182.out).2.2 0 p193 q193; cases e193; have qi193 : (0 < t178.length) = True := eq_true (by omega); (try rw [show ((0 : Int)).toNat = 0 from rfl] at hx193_0); (try rw [show 0 * 8 = 0 from rfl] at hx193_0); (try rw [Addr.add_zero'] at hx193_0); (try rw [show ((0 : Int)).toNat = 0 from rfl] at hx193_1); (try rw [show 0 * 8 = 0 from rfl] at hx193_1); (try rw [Addr.add_zero'] at hx193_1); (try rw [show ((0 : Int)).toNat = 0 from rfl] at hx193_2); (try rw [show 0 * 8 = 0 from rfl] at hx193_2); (try rw [Addr.add_zero'] at hx193_2); (try rw [show ((0 : Int)).toNat = 0 from rfl] at hx193_3); (try rw [show 0 * 8 = 0 from rfl] at hx193_3); (try rw [Addr.add_zero'] at hx193_3); (try rw [show ((0 : Int)).toNat = 0 from rfl] at hx193_4); (try rw [show 0 * 8 = 0 from rfl] at hx193_4); (try rw [Addr.add_zero'] at hx193_4); (try rw [show ((0 : Int)).toNat = 0 from rfl] at hx193_5); (try rw [show 0 * 8 = 0 from rfl] at hx193_5); (try rw [Addr.add_zero'] at hx193_5); (try rw [show ((0 : Int)).toNat = 0 from rfl] at hx193_6); (try rw [show 0 * 8 = 0 from rfl] at hx193_6); (try rw [Addr.add_zero'] at hx193_6); (try rw [show ((0 : Int)).toNat = 0 from rfl] at hx193_7); (try rw [show 0 * 8 = 0 from rfl] at hx193_7); (try rw [Addr.add_zero'] at hx193_7); replace p193 := eq_true p193; replace q193 := eq_true q193; have p194 : 0 ≤ (0 : Int) := (by omega); have q194 : 0 < (t178.length : Int) := of_decide_eq_true zQx11a7_; obtain ⟨ad194, e194, hx194_0, hx194_1, hx194_2, hx194_3, hx194_4, hx194_5, hx194_6, hx194_7⟩ := at_T34 (Kd.R_reads' HO182.out).2.2 0 p194 q194; obtain rfl : ad193 = ad194 := (by injection e194); have qi194 : (0 < t178.length) = True := eq_true (by omega); (try rw [show ((0 : Int)).toNat = 0 from rfl] at hx194_0); (try rw [show 0 * 8 = 0 from rfl] at hx194_0); (try rw [Addr.add_zero'] at hx194_0); (try rw [show ((0 : Int)).toNat = 0 from rfl] at hx194_1); (try rw [show 0 * 8 = 0 from rfl] at hx194_1); (try rw [Addr.add_zero'] at hx194_1); (try rw [show ((0 : Int)).toNat = 0 from rfl] at hx194_2); (try rw [show 0 * 8 = 0 from rfl] at hx194_2); (try rw [Addr.add_zero'] at hx194_2); (try rw [show ((0 : Int)).toNat = 0 from rfl] at hx194_3); (try rw [show 0 * 8 = 0 from rfl] at hx194_3); (try rw [Addr.add_zero'] at hx194_3); (try rw [show ((0 : Int)).toNat = 0 from rfl] at hx194_4); (try rw [show 0 * 8 = 0 from rfl] at hx194_4); (try rw [Addr.add_zero'] at hx194_4); (try rw [show ((0 : Int)).toNat = 0 from rfl] at hx194_5); (try rw [show 0 * 8 = 0 from rfl] at hx194_5); (try rw [Addr.add_zero'] at hx194_5); (try rw [show ((0 : Int)).toNat = 0 from rfl] at hx194_6); (try rw [show 0 * 8 = 0 from rfl] at hx194_6); (try rw [Addr.add_zero'] at hx194_6); (try rw [show ((0 : Int)).toNat = 0 from rfl] at hx194_7); (try rw [show 0 * 8 = 0 from rfl] at hx194_7); (try rw [Addr.add_zero'] at hx194_7); replace p194 := eq_true p194; replace q194 := eq_true q194))
  go_ret
  exact ⟨zQx11a6_, zQx11a0_⟩
 rw [if_pos c11] at H
 have c11b0 : (t185 == 210) = true := beq_iff_eq.mpr c11
 have c11b1 : (t185 != 210) = false := bne_eq_false_iff_eq.mpr c11
 clear c11
 by_cases c12 : t189 = 1
 rotate_left
 ·
  rw [if_neg c12] at H
  have c12b0 : (t189 == 1) = false := beq_eq_false_iff_ne.mpr c12
  have c12b1 : (t189 != 1) = true := bne_iff_ne.mpr c12
  obtain rfl := Option.some.inj H
  go_enter Tryz.func9, Tryz.ntmps9
  go_wp2_with (first | ((with_reducible refine gate_callee (f := 7) rfl ?_); refine goesL_ (some 11) rfl rfl Tryz.func7 (by kernel_rfl) rfl #[.string (⟨#[116, 97, 110, 107, 47, 108, 101, 118, 101, 108, 32, 51, 32, 51, 32, 49, 54, 32, 51, 32, 49, 32, 53, 32, 114]⟩ : ByteArray)] rfl zQx11a2_ ?_; (with_reducible refine (table_Parse.calls (⟨#[116, 97, 110, 107, 47, 108, 101, 118, 101, 108, 32, 51, 32, 51, 32, 49, 54, 32, 51, 32, 49, 32, 53, 32, 114]⟩ : ByteArray) t178 t179 t180 _ (Val.Laid.below hLd_ zQx11a0_) A1.out).mono ?_); rintro e w17 ⟨v181, rfl, ho0, hb⟩; refine ⟨_, rfl, ?_⟩; have n0_ := Aside0.mk (Kd.R_lower ho0 (below_size zQx11a0_)); have n1_ := Aside0.mk (below_step zQx11a0_ hb); clear HB; have HO182 := n0_; have HB := n1_; clear n0_ n1_; (try clear hb); (try clear hb2); (try clear hk); (try clear hi); (try clear ho0)) | ((with_reducible refine gate_callee (f := 7) rfl ?_); refine goesL_ (some 16) rfl rfl Tryz.func7 (by kernel_rfl) rfl #[.string (⟨#[97, 32, 49, 32, 49, 32, 48, 32, 49, 32, 48, 32, 48, 32, 114, 10, 97, 32, 49, 32, 49, 32, 48, 32, 49, 32, 48, 32, 48, 32, 114, 10]⟩ : ByteArray)] rfl zQx11a2_ ?_; (with_reducible refine (table_Parse.calls (⟨#[97, 32, 49, 32, 49, 32, 48, 32, 49, 32, 48, 32, 48, 32, 114, 10, 97, 32, 49, 32, 49, 32, 48, 32, 49, 32, 48, 32, 48, 32, 114, 10]⟩ : ByteArray) t183 t184 t185 _ (Val.Laid.below hLd_ zQx11a0_) A2.out).mono ?_); rintro e w18 ⟨v186, rfl, ho0, hb⟩; refine ⟨_, rfl, ?_⟩; have n0_ := Aside0.mk (Kd.R_elder' zQx11a1_ (Kd.R_base ho0) hb); have n1_ := Aside0.mk (Kd.R_lower (Kd.R_new' ho0 (Kd.R_lt zQx11a1_)) (below_size zQx11a0_)); have n2_ := Aside0.mk (below_step zQx11a0_ hb); clear HO182; clear HB; have HO182 := n0_; have HO187 := n1_; have HB := n2_; clear n0_ n1_ n2_; (try clear hb); (try clear hb2); (try clear hk); (try clear hi); (try clear ho0)) | ((with_reducible refine gate_callee (f := 7) rfl ?_); refine goesL_ (some 21) rfl rfl Tryz.func7 (by kernel_rfl) rfl #[.string (⟨#[97, 32, 49]⟩ : ByteArray)] rfl zQx11a2_ ?_; (with_reducible refine (table_Parse.calls (⟨#[97, 32, 49]⟩ : ByteArray) t188 t189 t190 _ (Val.Laid.below hLd_ zQx11a0_) A3.out).mono ?_); rintro e w19 ⟨v191, rfl, ho0, hb⟩; refine ⟨_, rfl, ?_⟩; have n0_ := Aside0.mk (Kd.R_elder' zQx11a1_ (Kd.R_base ho0) hb); have n1_ := Aside0.mk (Kd.R_elder' zQx11a5_ (Kd.R_base ho0) hb); have n2_ := Aside0.mk (Kd.R_lower (Kd.R_new' (Kd.R_new' ho0 (Kd.R_lt zQx11a1_)) (Kd.R_lt zQx11a5_)) (below_size zQx11a0_)); have n3_ := Aside0.mk (below_step zQx11a0_ hb); clear HO182; clear HO187; clear HB; have HO182 := n0_; have HO187 := n1_; have HO192 := n2_; have HB := n3_; clear n0_ n1_ n2_ n3_; (try clear hb); (try clear hb2); (try clear hk); (try clear hi); (try clear ho0); obtain ⟨Ao20, co20, eo20⟩ := Kd.R_slice HO182.out; subst eo20; have p193 : 0 ≤ (0 : Int) := (by omega); have q193 : 0 < (t178.length : Int) := of_decide_eq_true zQx11a7_; obtain ⟨ad193, e193, hx193_0, hx193_1, hx193_2, hx193_3, hx193_4, hx193_5, hx193_6, hx193_7⟩ := at_T34 (Kd.R_reads' HO182.out).2.2 0 p193 q193; cases e193; have qi193 : (0 < t178.length) = True := eq_true (by omega); (try rw [show ((0 : Int)).toNat = 0 from rfl] at hx193_0); (try rw [show 0 * 8 = 0 from rfl] at hx193_0); (try rw [Addr.add_zero'] at hx193_0); (try rw [show ((0 : Int)).toNat = 0 from rfl] at hx193_1); (try rw [show 0 * 8 = 0 from rfl] at hx193_1); (try rw [Addr.add_zero'] at hx193_1); (try rw [show ((0 : Int)).toNat = 0 from rfl] at hx193_2); (try rw [show 0 * 8 = 0 from rfl] at hx193_2); (try rw [Addr.add_zero'] at hx193_2); (try rw [show ((0 : Int)).toNat = 0 from rfl] at hx193_3); (try rw [show 0 * 8 = 0 from rfl] at hx193_3); (try rw [Addr.add_zero'] at hx193_3); (try rw [show ((0 : Int)).toNat = 0 from rfl] at hx193_4); (try rw [show 0 * 8 = 0 from rfl] at hx193_4); (try rw [Addr.add_zero'] at hx193_4); (try rw [show ((0 : Int)).toNat = 0 from rfl] at hx193_5); (try rw [show 0 * 8 = 0 from rfl] at hx193_5); (try rw [Addr.add_zero'] at hx193_5); (try rw [show ((0 : Int)).toNat = 0 from rfl] at hx193_6); (try rw [show 0 * 8 = 0 from rfl] at hx193_6); (try rw [Addr.add_zero'] at hx193_6); (try rw [show ((0 : Int)).toNat = 0 from rfl] at hx193_7); (try rw [show 0 * 8 = 0 from rfl] at hx193_7); (try rw [Addr.add_zero'] at hx193_7); replace p193 := eq_true p193; replace q193 := eq_true q193; have p194 : 0 ≤ (0 : Int) := (by omega); have q194 : 0 < (t178.length : Int) := of_decide_eq_true zQx11a7_; obtain ⟨ad194, e194, hx194_0, hx194_1, hx194_2, hx194_3, hx194_4, hx194_5, hx194_6, hx194_7⟩ := at_T34 (Kd.R_reads' HO182.out).2.2 0 p194 q194; obtain rfl : ad193 = ad194 := (by injection e194); have qi194 : (0 < t178.length) = True := eq_true (by omega); (try rw [show ((0 : Int)).toNat = 0 from rfl] at hx194_0); (try rw [show 0 * 8 = 0 from rfl] at hx194_0); (try rw [Addr.add_zero'] at hx194_0); (try rw [show ((0 : Int)).toNat = 0 from rfl] at hx194_1); (try rw [show 0 * 8 = 0 from rfl] at hx194_1); (try rw [Addr.add_zero'] at hx194_1); (try rw [show ((0 : Int)).toNat = 0 from rfl] at hx194_2); (try rw [show 0 * 8 = 0 from rfl] at hx194_2); (try rw [Addr.add_zero'] at hx194_2); (try rw [show ((0 : Int)).toNat = 0 from rfl] at hx194_3); (try rw [show 0 * 8 = 0 from rfl] at hx194_3); (try rw [Addr.add_zero'] at hx194_3); (try rw [show ((0 : Int)).toNat = 0 from rfl] at hx194_4); (try rw [show 0 * 8 = 0 from rfl] at hx194_4); (try rw [Addr.add_zero'] at hx194_4); (try rw [show ((0 : Int)).toNat = 0 from rfl] at hx194_5); (try rw [show 0 * 8 = 0 from rfl] at hx194_5); (try rw [Addr.add_zero'] at hx194_5); (try rw [show ((0 : Int)).toNat = 0 from rfl] at hx194_6); (try rw [show 0 * 8 = 0 from rfl] at hx194_6); (try rw [Addr.add_zero'] at hx194_6); (try rw [show ((0 : Int)).toNat = 0 from rfl] at hx194_7); (try rw [show 0 * 8 = 0 from rfl] at hx194_7); (try rw [Addr.add_zero'] at hx194_7); replace p194 := eq_true p194; replace q194 := eq_true q194))
  go_ret
  exact ⟨zQx11a6_, zQx11a0_⟩
 rw [if_pos c12] at H
 have c12b0 : (t189 == 1) = true := beq_iff_eq.mpr c12
 have c12b1 : (t189 != 1) = false := bne_eq_false_iff_eq.mpr c12
 clear c12
 obtain rfl := Option.some.inj H
 go_enter Tryz.func9, Tryz.ntmps9
 go_wp2_with (first | ((with_reducible refine gate_callee (f := 7) rfl ?_); refine goesL_ (some 11) rfl rfl Tryz.func7 (by kernel_rfl) rfl #[.string (⟨#[116, 97, 110, 107, 47, 108, 101, 118, 101, 108, 32, 51, 32, 51, 32, 49, 54, 32, 51, 32, 49, 32, 53, 32, 114]⟩ : ByteArray)] rfl zQx11a2_ ?_; (with_reducible refine (table_Parse.calls (⟨#[116, 97, 110, 107, 47, 108, 101, 118, 101, 108, 32, 51, 32, 51, 32, 49, 54, 32, 51, 32, 49, 32, 53, 32, 114]⟩ : ByteArray) t178 t179 t180 _ (Val.Laid.below hLd_ zQx11a0_) A1.out).mono ?_); rintro e w13 ⟨v181, rfl, ho0, hb⟩; refine ⟨_, rfl, ?_⟩; have n0_ := Aside0.mk (Kd.R_lower ho0 (below_size zQx11a0_)); have n1_ := Aside0.mk (below_step zQx11a0_ hb); clear HB; have HO182 := n0_; have HB := n1_; clear n0_ n1_; (try clear hb); (try clear hb2); (try clear hk); (try clear hi); (try clear ho0)) | ((with_reducible refine gate_callee (f := 7) rfl ?_); refine goesL_ (some 16) rfl rfl Tryz.func7 (by kernel_rfl) rfl #[.string (⟨#[97, 32, 49, 32, 49, 32, 48, 32, 49, 32, 48, 32, 48, 32, 114, 10, 97, 32, 49, 32, 49, 32, 48, 32, 49, 32, 48, 32, 48, 32, 114, 10]⟩ : ByteArray)] rfl zQx11a2_ ?_; (with_reducible refine (table_Parse.calls (⟨#[97, 32, 49, 32, 49, 32, 48, 32, 49, 32, 48, 32, 48, 32, 114, 10, 97, 32, 49, 32, 49, 32, 48, 32, 49, 32, 48, 32, 48, 32, 114, 10]⟩ : ByteArray) t183 t184 t185 _ (Val.Laid.below hLd_ zQx11a0_) A2.out).mono ?_); rintro e w14 ⟨v186, rfl, ho0, hb⟩; refine ⟨_, rfl, ?_⟩; have n0_ := Aside0.mk (Kd.R_elder' zQx11a1_ (Kd.R_base ho0) hb); have n1_ := Aside0.mk (Kd.R_lower (Kd.R_new' ho0 (Kd.R_lt zQx11a1_)) (below_size zQx11a0_)); have n2_ := Aside0.mk (below_step zQx11a0_ hb); clear HO182; clear HB; have HO182 := n0_; have HO187 := n1_; have HB := n2_; clear n0_ n1_ n2_; (try clear hb); (try clear hb2); (try clear hk); (try clear hi); (try clear ho0)) | ((with_reducible refine gate_callee (f := 7) rfl ?_); refine goesL_ (some 21) rfl rfl Tryz.func7 (by kernel_rfl) rfl #[.string (⟨#[97, 32, 49]⟩ : ByteArray)] rfl zQx11a2_ ?_; (with_reducible refine (table_Parse.calls (⟨#[97, 32, 49]⟩ : ByteArray) t188 t189 t190 _ (Val.Laid.below hLd_ zQx11a0_) A3.out).mono ?_); rintro e w15 ⟨v191, rfl, ho0, hb⟩; refine ⟨_, rfl, ?_⟩; have n0_ := Aside0.mk (Kd.R_elder' zQx11a1_ (Kd.R_base ho0) hb); have n1_ := Aside0.mk (Kd.R_elder' zQx11a5_ (Kd.R_base ho0) hb); have n2_ := Aside0.mk (Kd.R_lower (Kd.R_new' (Kd.R_new' ho0 (Kd.R_lt zQx11a1_)) (Kd.R_lt zQx11a5_)) (below_size zQx11a0_)); have n3_ := Aside0.mk (below_step zQx11a0_ hb); clear HO182; clear HO187; clear HB; have HO182 := n0_; have HO187 := n1_; have HO192 := n2_; have HB := n3_; clear n0_ n1_ n2_ n3_; (try clear hb); (try clear hb2); (try clear hk); (try clear hi); (try clear ho0); obtain ⟨Ao16, co16, eo16⟩ := Kd.R_slice HO182.out; subst eo16; have p193 : 0 ≤ (0 : Int) := (by omega); have q193 : 0 < (t178.length : Int) := of_decide_eq_true zQx11a7_; obtain ⟨ad193, e193, hx193_0, hx193_1, hx193_2, hx193_3, hx193_4, hx193_5, hx193_6, hx193_7⟩ := at_T34 (Kd.R_reads' HO182.out).2.2 0 p193 q193; cases e193; have qi193 : (0 < t178.length) = True := eq_true (by omega); (try rw [show ((0 : Int)).toNat = 0 from rfl] at hx193_0); (try rw [show 0 * 8 = 0 from rfl] at hx193_0); (try rw [Addr.add_zero'] at hx193_0); (try rw [show ((0 : Int)).toNat = 0 from rfl] at hx193_1); (try rw [show 0 * 8 = 0 from rfl] at hx193_1); (try rw [Addr.add_zero'] at hx193_1); (try rw [show ((0 : Int)).toNat = 0 from rfl] at hx193_2); (try rw [show 0 * 8 = 0 from rfl] at hx193_2); (try rw [Addr.add_zero'] at hx193_2); (try rw [show ((0 : Int)).toNat = 0 from rfl] at hx193_3); (try rw [show 0 * 8 = 0 from rfl] at hx193_3); (try rw [Addr.add_zero'] at hx193_3); (try rw [show ((0 : Int)).toNat = 0 from rfl] at hx193_4); (try rw [show 0 * 8 = 0 from rfl] at hx193_4); (try rw [Addr.add_zero'] at hx193_4); (try rw [show ((0 : Int)).toNat = 0 from rfl] at hx193_5); (try rw [show 0 * 8 = 0 from rfl] at hx193_5); (try rw [Addr.add_zero'] at hx193_5); (try rw [show ((0 : Int)).toNat = 0 from rfl] at hx193_6); (try rw [show 0 * 8 = 0 from rfl] at hx193_6); (try rw [Addr.add_zero'] at hx193_6); (try rw [show ((0 : Int)).toNat = 0 from rfl] at hx193_7); (try rw [show 0 * 8 = 0 from rfl] at hx193_7); (try rw [Addr.add_zero'] at hx193_7); replace p193 := eq_true p193; replace q193 := eq_true q193; have p194 : 0 ≤ (0 : Int) := (by omega); have q194 : 0 < (t178.length : Int) := of_decide_eq_true zQx11a7_; obtain ⟨ad194, e194, hx194_0, hx194_1, hx194_2, hx194_3, hx194_4, hx194_5, hx194_6, hx194_7⟩ := at_T34 (Kd.R_reads' HO182.out).2.2 0 p194 q194; obtain rfl : ad193 = ad194 := (by injection e194); have qi194 : (0 < t178.length) = True := eq_true (by omega); (try rw [show ((0 : Int)).toNat = 0 from rfl] at hx194_0); (try rw [show 0 * 8 = 0 from rfl] at hx194_0); (try rw [Addr.add_zero'] at hx194_0); (try rw [show ((0 : Int)).toNat = 0 from rfl] at hx194_1); (try rw [show 0 * 8 = 0 from rfl] at hx194_1); (try rw [Addr.add_zero'] at hx194_1); (try rw [show ((0 : Int)).toNat = 0 from rfl] at hx194_2); (try rw [show 0 * 8 = 0 from rfl] at hx194_2); (try rw [Addr.add_zero'] at hx194_2); (try rw [show ((0 : Int)).toNat = 0 from rfl] at hx194_3); (try rw [show 0 * 8 = 0 from rfl] at hx194_3); (try rw [Addr.add_zero'] at hx194_3); (try rw [show ((0 : Int)).toNat = 0 from rfl] at hx194_4); (try rw [show 0 * 8 = 0 from rfl] at hx194_4); (try rw [Addr.add_zero'] at hx194_4); (try rw [show ((0 : Int)).toNat = 0 from rfl] at hx194_5); (try rw [show 0 * 8 = 0 from rfl] at hx194_5); (try rw [Addr.add_zero'] at hx194_5); (try rw [show ((0 : Int)).toNat = 0 from rfl] at hx194_6); (try rw [show 0 * 8 = 0 from rfl] at hx194_6); (try rw [Addr.add_zero'] at hx194_6); (try rw [show ((0 : Int)).toNat = 0 from rfl] at hx194_7); (try rw [show 0 * 8 = 0 from rfl] at hx194_7); (try rw [Addr.add_zero'] at hx194_7); replace p194 := eq_true p194; replace q194 := eq_true q194))
 go_ret
 exact ⟨zQx11a6_, zQx11a0_⟩
end Go.Proofs.YtbfhiiokajbdhaaGreatDoor.Q
