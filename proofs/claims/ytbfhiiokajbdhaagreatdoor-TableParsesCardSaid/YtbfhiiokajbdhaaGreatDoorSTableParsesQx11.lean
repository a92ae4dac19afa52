/- What the proof of TableParses leans on: Qx11. -/
import Derived.Test.YtbfhiiokajbdhaaGreatDoorSTableParsesQx0
import Derived.Test.YtbfhiiokajbdhaaGreatDoorSTableParsesParse
import Derived.Test.YtbfhiiokajbdhaaGreatDoorSTableParsesQx7
import Derived.Test.YtbfhiiokajbdhaaGreatDoorSTableParsesRowH
import Derived.Test.YtbfhiiokajbdhaaGreatDoorSTableParsesQx10
namespace Go.Proofs.YtbfhiiokajbdhaaGreatDoor.Q
open Go.RowKit Go.Proofs.YtbfhiiokajbdhaaGreatDoorW.PrintWords Go.Proofs.YtbfhiiokajbdhaaGreatDoorW.PrintLast Go.Proofs.YtbfhiiokajbdhaaGreatDoorW.PrintMore
attribute [local go_sem] max2_int max_two
set_option linter.unusedVariables false
set_option linter.unusedSimpArgs false
theorem zQx11a0_ {P_ : Prop} (h_ : P_ := by repeat (first | (with_reducible first | exact HB.out | apply below_alloc | apply pw_below_drewN | apply below_drew1) | exact HB.out)) : P_ := h_
theorem zQx11a1_ {P_ : Prop} (h_ : P_ := by (try simp only [List.map_toArray, List.map_cons, List.map_nil]); first | done | rfl | (simp only [List.length_drop, List.length_take]; rfl)) : P_ := h_
theorem zQx11a2_ {P_ : Prop} (h_ : P_ := by (with_reducible repeat (first | refine blk_drewN ?_ _ | refine blk_drew ?_ | refine blk_alloc ?_ _)); refine blk_put (cs := #[.string t164, .int .i64 t165, .int .i64 t166, .int .i64 t167, .int .i64 t168, .int .i64 t169, .int .i64 t170, .bool false]) ?_ 7 _ rfl; (with_reducible repeat (first | refine blk_drewN ?_ _ | refine blk_drew ?_ | refine blk_alloc ?_ _)); refine blk_put (cs := #[.string t164, .int .i64 t165, .int .i64 t166, .int .i64 t167, .int .i64 t168, .int .i64 t169, .int .i64 0, .bool false]) ?_ 6 _ rfl; (with_reducible repeat (first | refine blk_drewN ?_ _ | refine blk_drew ?_ | refine blk_alloc ?_ _)); refine blk_put (cs := #[.string t164, .int .i64 t165, .int .i64 t166, .int .i64 t167, .int .i64 t168, .int .i64 0, .int .i64 0, .bool false]) ?_ 5 _ rfl; (with_reducible repeat (first | refine blk_drewN ?_ _ | refine blk_drew ?_ | refine blk_alloc ?_ _)); refine blk_put (cs := #[.string t164, .int .i64 t165, .int .i64 t166, .int .i64 t167, .int .i64 0, .int .i64 0, .int .i64 0, .bool false]) ?_ 4 _ rfl; (with_reducible repeat (first | refine blk_drewN ?_ _ | refine blk_drew ?_ | refine blk_alloc ?_ _)); refine blk_put (cs := #[.string t164, .int .i64 t165, .int .i64 t166, .int .i64 0, .int .i64 0, .int .i64 0, .int .i64 0, .bool false]) ?_ 3 _ rfl; (with_reducible repeat (first | refine blk_drewN ?_ _ | refine blk_drew ?_ | refine blk_alloc ?_ _)); refine blk_put (cs := #[.string t164, .int .i64 t165, .int .i64 0, .int .i64 0, .int .i64 0, .int .i64 0, .int .i64 0, .bool false]) ?_ 2 _ rfl; (with_reducible repeat (first | refine blk_drewN ?_ _ | refine blk_drew ?_ | refine blk_alloc ?_ _)); refine blk_put (cs := #[.string t164, .int .i64 0, .int .i64 0, .int .i64 0, .int .i64 0, .int .i64 0, .int .i64 0, .bool false]) ?_ 1 _ rfl; (with_reducible repeat (first | refine blk_drewN ?_ _ | refine blk_drew ?_ | refine blk_alloc ?_ _)); refine blk_put (cs := #[.string (⟨#[]⟩ : ByteArray), .int .i64 0, .int .i64 0, .int .i64 0, .int .i64 0, .int .i64 0, .int .i64 0, .bool false]) ?_ 0 _ rfl; (with_reducible repeat (first | refine blk_drewN ?_ _ | refine blk_drew ?_ | refine blk_alloc ?_ _)); exact BK173.out) : P_ := h_
theorem zQx11a3_ {P_ : Prop} (h_ : P_ := by (with_reducible repeat (first | apply Kd.R_alloc | apply Kd.R_drewN | apply Kd.R_drew)); exact HO182.out) : P_ := h_
theorem zQx11a4_ {P_ : Prop} (h_ : P_ := by repeat (first | (with_reducible first | exact HB.out | apply below_alloc | apply pw_below_drewN | apply below_drew1 | refine below_set ?_ GE156.out) | exact HB.out)) : P_ := h_
theorem zQx11a5_ {P_ : Prop} (h_ : P_ := by (with_reducible repeat (first | apply Kd.R_alloc | apply Kd.R_drewN | apply Kd.R_drew)); exact (Kd.R_mono (Kd.R_far (p := ⟨gb173, 7, none⟩) (Kd.R_far (p := ⟨gb173, 6, none⟩) (Kd.R_far (p := ⟨gb173, 5, none⟩) (Kd.R_far (p := ⟨gb173, 4, none⟩) (Kd.R_far (p := ⟨gb173, 3, none⟩) (Kd.R_far (p := ⟨gb173, 2, none⟩) (Kd.R_far (p := ⟨gb173, 1, none⟩) (Kd.R_far (p := ⟨gb173, 0, none⟩) (Kd.R_mono HO_5.out (fun k_ hk => (⟨hk, hk.2⟩ : _ ∧ k_ ≠ gb173))) (fun _ hk => hk.2) (.string t164)) (fun _ hk => hk.2) (.int .i64 t165)) (fun _ hk => hk.2) (.int .i64 t166)) (fun _ hk => hk.2) (.int .i64 t167)) (fun _ hk => hk.2) (.int .i64 t168)) (fun _ hk => hk.2) (.int .i64 t169)) (fun _ hk => hk.2) (.int .i64 t170)) (fun _ hk => hk.2) (.bool t171)) (fun _ h_ => h_.1))) : P_ := h_
theorem zQx11a6_ {P_ : Prop} (h_ : P_ := by (with_reducible repeat (first | refine blk_drewN ?_ _ | refine blk_drew ?_ | refine blk_alloc ?_ _)); exact BK156.out) : P_ := h_
theorem zQx11a7_ {P_ : Prop} (h_ : P_ := by (with_reducible repeat (first | apply Kd.R_alloc | apply Kd.R_drewN | apply Kd.R_drew)); exact HO187.out) : P_ := h_
theorem zQx11a8_ {P_ : Prop} (h_ : P_ := by first | rfl | (simp [errW_none, errW_some] <;> rfl) | (simp [*, errW_none, errW_some] <;> rfl)) : P_ := h_
theorem zQx11a9_ {P_ : Prop} (h_ : P_ := by (with_reducible repeat (first | apply Kd.R_alloc | apply Kd.R_drewN | apply Kd.R_drew)); exact HO_5.out) : P_ := h_
theorem zQx11a10_ {P_ : Prop} (h_ : P_ := by (with_reducible repeat (first | apply Kd.R_alloc | apply Kd.R_drewN | apply Kd.R_drew)); exact (Kd.R_mono (Kd.R_far (p := ⟨gb173, 7, none⟩) (Kd.R_far (p := ⟨gb173, 6, none⟩) (Kd.R_far (p := ⟨gb173, 5, none⟩) (Kd.R_far (p := ⟨gb173, 4, none⟩) (Kd.R_far (p := ⟨gb173, 3, none⟩) (Kd.R_far (p := ⟨gb173, 2, none⟩) (Kd.R_far (p := ⟨gb173, 1, none⟩) (Kd.R_far (p := ⟨gb173, 0, none⟩) (Kd.R_types HO_9.out BK173.out (by decide)) (fun _ hk => hk.2) (.string t164)) (fun _ hk => hk.2) (.int .i64 t165)) (fun _ hk => hk.2) (.int .i64 t166)) (fun _ hk => hk.2) (.int .i64 t167)) (fun _ hk => hk.2) (.int .i64 t168)) (fun _ hk => hk.2) (.int .i64 t169)) (fun _ hk => hk.2) (.int .i64 t170)) (fun _ hk => hk.2) (.bool t171)) (fun _ h_ => h_.1))) : P_ := h_
theorem zQx11a11_ {P_ : Prop} (h_ : P_ := by repeat (first | (with_reducible first | exact HB.out | apply below_alloc | apply pw_below_drewN | apply below_drew1 | refine below_set ?_ GE173.out) | exact HB.out)) : P_ := h_
theorem zQx11a12_ {P_ : Prop} (h_ : P_ := by first | (with_reducible assumption) | assumption) : P_ := h_
theorem zQx11a13_ {P_ : Prop} (h_ : P_ := by first | rfl | (simp; done) | (simp [*]; done)) : P_ := h_
theorem zQx11a14_ {P_ : Prop} (h_ : P_ := by (with_reducible repeat (first | apply Kd.R_alloc | apply Kd.R_drewN | apply Kd.R_drew)); exact HO_9.out) : P_ := h_
theorem zQx11a15_ {P_ : Prop} (h_ : P_ := by first | exact Kd.R_nil _ _ _ _ _ | exact Kd.N_nil _ _ _ _ _ | exact Kd.V_nil _ _ _ _ _ | exact Kd.Q_nil _ _ _ _ _ | exact Kd.S_nil _ _ _ _ _) : P_ := h_
theorem zQx11a16_ {P_ : Prop} (h_ : P_ := by (with_reducible repeat (first | refine blk_drewN ?_ _ | refine blk_drew ?_ | refine blk_alloc ?_ _)); exact BK173.out) : P_ := h_
theorem zQx11a17_ {P_ : Prop} (h_ : P_ := by (with_reducible repeat (first | apply Kd.R_alloc | apply Kd.R_drewN | apply Kd.R_drew)); exact HO162.out) : P_ := h_
theorem znQx11_ {X_ : Prop} [Decidable X_] (h_ : ¬ X_ → False := by intro c_; rw [if_neg c_] at H; exact absurd H (by simp)) : X_ := Decidable.byContradiction h_
def basculeref21_Error.l0 : Nat → List (S34) → Int → ByteArray → Int → Int → Int → Int → Int → Int → Bool → Option (Int)
 | 0, _, _, _, _, _, _, _, _, _, _ => none
 | k + 1, x0, x5, x157000, x157001, x157002, x157003, x157004, x157005, x157006, x157007 => if x5 < (x0.length : Int) then (if 0 ≤ x5 then (if ((rd_T34 x0 x5).f0).toList = x157000.toList then (some 210) else (basculeref21_Error.l0 k x0 (wrap64 (x5 + 1)) x157000 x157001 x157002 x157003 x157004 x157005 x157006 x157007)) else (none)) else ((basculeref21_Range.f x157000 x157001 x157002 x157003 x157004 x157005 x157006 x157007).bind fun t159 => (if t159 = true then (if (x0.length : Int) ≥ 64 then (some 6) else (some 0)) else (some 220)))
def basculeref21_Error.f (k : Nat) (l0 : List (S34)) (a1_0 : ByteArray) (a1_1 : Int) (a1_2 : Int) (a1_3 : Int) (a1_4 : Int) (a1_5 : Int) (a1_6 : Int) (a1_7 : Bool) : Option (Int) := (basculeref21_name.f k a1_0).bind fun t157 => (if t157 = true then (basculeref21_Error.l0 k l0 0 a1_0 a1_1 a1_2 a1_3 a1_4 a1_5 a1_6 a1_7) else (some 210))
set_option maxHeartbeats 8000000 in
set_option maxRecDepth 100000 in
theorem basculeref21_Error.calls (k : Nat) (A0 : Option Addr) (c0 : Nat) (l0 : List (S34)) (a1_0 : ByteArray) (a1_1 : Int) (a1_2 : Int) (a1_3 : Int) (a1_4 : Int) (a1_5 : Int) (a1_6 : Int) (a1_7 : Bool) (r : Int) (w : World) (hr0 : Kd.C k34 w A0 l0.length l0) (hc0 : l0.length ≤ c0) (h : basculeref21_Error.f k l0 a1_0 a1_1 a1_2 a1_3 a1_4 a1_5 a1_6 a1_7 = some r) :
  Calls Tryz.prog 27 #[.slice A0 l0.length c0, .agg #[.string a1_0, .int .i64 a1_1, .int .i64 a1_2, .int .i64 a1_3, .int .i64 a1_4, .int .i64 a1_5, .int .i64 a1_6, .bool a1_7]] w fun e w' => e = .returned (.int .i64 r) ∧ Below w.heap.size w w' := by
 have hu34 := Tryz.underlying34
 have HR0 := Aside0.mk hr0
 have HC0 := Aside0.mk hc0
 clear hr0 hc0
 have HB := Aside0.mk (Below.refl w.heap.size w)
 have H : ((basculeref21_name.f k a1_0).bind fun t157 => (if t157 = true then (basculeref21_Error.l0 k l0 0 a1_0 a1_1 a1_2 a1_3 a1_4 a1_5 a1_6 a1_7) else (some 210))) = some r := h
 clear h
 replace H := Option.bind_eq_some_iff.mp H
 obtain ⟨t157, A30, H⟩ := H
 replace H : (if t157 = true then (basculeref21_Error.l0 k l0 0 a1_0 a1_1 a1_2 a1_3 a1_4 a1_5 a1_6 a1_7) else (some 210)) = some r := H
 have A3 := Aside0.mk A30
 clear A30
 by_cases c4 : t157 = true
 rotate_left
 ·
  replace c4 := Bool.eq_false_iff.mpr c4
  subst c4
  have H1 : (some 210) = some r := by rw [if_neg (show ¬ (false = true) by decide)] at H; exact H
  clear H
  have H := H1
  clear H1
  obtain rfl := Option.some.inj H
  go_enter Tryz.func27, Tryz.ntmps27
  go_wp2_with (first | ((with_reducible refine gate_dst (N := 3) rfl ?_); refine box_event ?hg (N := 3) ?hd (cs := #[.string a1_0, .int .i64 a1_1, .int .i64 a1_2, .int .i64 a1_3, .int .i64 a1_4, .int .i64 a1_5, .int .i64 a1_6, .bool a1_7]) (t := 34) ?hr ?_; (case hd => rfl); (case hg => rfl); (case hr => first | (go_simp; done) | (go_simp; rfl)); intro gb156 hg w22 hbox hb; have n0_ := Aside0.mk (below_step zQx11a0_ hb); have n1_ := Aside0.mk (hbox); have n2_ := Aside0.mk ((by rw [hg]; exact (below_size zQx11a0_) : w.heap.size ≤ gb156)); have n3_ := Aside0.mk ((by rw [hg]; exact (below_size zQx11a0_) : w.heap.size ≤ gb156)); clear HB; have HB := n0_; have BK156 := n1_; have GW156 := n2_; have GE156 := n3_; clear n0_ n1_ n2_ n3_; clear hb hbox hg; have hcz23_0 : w22.cell? ⟨gb156, 0, none⟩ = some (.string a1_0) := (blk_cell BK156.out 0).trans rfl; have hcz23_1 : w22.cell? ⟨gb156, 1, none⟩ = some (.int .i64 a1_1) := (blk_cell BK156.out 1).trans rfl; have hcz23_2 : w22.cell? ⟨gb156, 2, none⟩ = some (.int .i64 a1_2) := (blk_cell BK156.out 2).trans rfl; have hcz23_3 : w22.cell? ⟨gb156, 3, none⟩ = some (.int .i64 a1_3) := (blk_cell BK156.out 3).trans rfl; have hcz23_4 : w22.cell? ⟨gb156, 4, none⟩ = some (.int .i64 a1_4) := (blk_cell BK156.out 4).trans rfl; have hcz23_5 : w22.cell? ⟨gb156, 5, none⟩ = some (.int .i64 a1_5) := (blk_cell BK156.out 5).trans rfl; have hcz23_6 : w22.cell? ⟨gb156, 6, none⟩ = some (.int .i64 a1_6) := (blk_cell BK156.out 6).trans rfl; have hcz23_7 : w22.cell? ⟨gb156, 7, none⟩ = some (.bool a1_7) := (blk_cell BK156.out 7).trans rfl; have hfz23_0 := blk_frozen BK156.out 0; have hfz23_1 := blk_frozen BK156.out 1; have hfz23_2 := blk_frozen BK156.out 2; have hfz23_3 := blk_frozen BK156.out 3; have hfz23_4 := blk_frozen BK156.out 4; have hfz23_5 := blk_frozen BK156.out 5; have hfz23_6 := blk_frozen BK156.out 6; have hfz23_7 := blk_frozen BK156.out 7) | (go_at_call 49; (with_reducible refine (basculeref21_name.calls k a1_0 false _ A3.out).mono ?_); rintro e w24 ⟨rfl, hb⟩; have n0_ := Aside0.mk (blk_below (g := gb156) (o := .cells #[.string a1_0, .int .i64 a1_1, .int .i64 a1_2, .int .i64 a1_3, .int .i64 a1_4, .int .i64 a1_5, .int .i64 a1_6, .bool a1_7] 34 (0, 0)) zQx11a6_ hb); have n1_ := Aside0.mk (below_step zQx11a4_ hb); clear BK156; clear HB; have BK156 := n0_; have HB := n1_; clear n0_ n1_; (try clear hb); (try clear hb2); (try clear hk); (try clear hi)))
  repeat (go_quiet (first | ((with_reducible refine gate_dst (N := 3) rfl ?_); refine box_event ?hg (N := 3) ?hd (cs := #[.string a1_0, .int .i64 a1_1, .int .i64 a1_2, .int .i64 a1_3, .int .i64 a1_4, .int .i64 a1_5, .int .i64 a1_6, .bool a1_7]) (t := 34) ?hr ?_; (case hd => rfl); (case hg => rfl); (case hr => first | (go_simp; done) | (go_simp; rfl)); intro gb156 hg w22 hbox hb; have n0_ := Aside0.mk (below_step zQx11a0_ hb); have n1_ := Aside0.mk (hbox); have n2_ := Aside0.mk ((by rw [hg]; exact (below_size zQx11a0_) : w.heap.size ≤ gb156)); have n3_ := Aside0.mk ((by rw [hg]; exact (below_size zQx11a0_) : w.heap.size ≤ gb156)); clear HB; have HB := n0_; have BK156 := n1_; have GW156 := n2_; have GE156 := n3_; clear n0_ n1_ n2_ n3_; clear hb hbox hg; have hcz23_0 : w22.cell? ⟨gb156, 0, none⟩ = some (.string a1_0) := (blk_cell BK156.out 0).trans rfl; have hcz23_1 : w22.cell? ⟨gb156, 1, none⟩ = some (.int .i64 a1_1) := (blk_cell BK156.out 1).trans rfl; have hcz23_2 : w22.cell? ⟨gb156, 2, none⟩ = some (.int .i64 a1_2) := (blk_cell BK156.out 2).trans rfl; have hcz23_3 : w22.cell? ⟨gb156, 3, none⟩ = some (.int .i64 a1_3) := (blk_cell BK156.out 3).trans rfl; have hcz23_4 : w22.cell? ⟨gb156, 4, none⟩ = some (.int .i64 a1_4) := (blk_cell BK156.out 4).trans rfl; have hcz23_5 : w22.cell? ⟨gb156, 5, none⟩ = some (.int .i64 a1_5) := (blk_cell BK156.out 5).trans rfl; have hcz23_6 : w22.cell? ⟨gb156, 6, none⟩ = some (.int .i64 a1_6) := (blk_cell BK156.out 6).trans rfl; have hcz23_7 : w22.cell? ⟨gb156, 7, none⟩ = some (.bool a1_7) := (blk_cell BK156.out 7).trans rfl; have hfz23_0 := blk_frozen BK156.out 0; have hfz23_1 := blk_frozen BK156.out 1; have hfz23_2 := blk_frozen BK156.out 2; have hfz23_3 := blk_frozen BK156.out 3; have hfz23_4 := blk_frozen BK156.out 4; have hfz23_5 := blk_frozen BK156.out 5; have hfz23_6 := blk_frozen BK156.out 6; have hfz23_7 := blk_frozen BK156.out 7) | (go_at_call 49; (with_reducible refine (basculeref21_name.calls k a1_0 false _ A3.out).mono ?_); rintro e w24 ⟨rfl, hb⟩; have n0_ := Aside0.mk (blk_below (g := gb156) (o := .cells #[.string a1_0, .int .i64 a1_1, .int .i64 a1_2, .int .i64 a1_3, .int .i64 a1_4, .int .i64 a1_5, .int .i64 a1_6, .bool a1_7] 34 (0, 0)) zQx11a6_ hb); have n1_ := Aside0.mk (below_step zQx11a4_ hb); clear BK156; clear HB; have BK156 := n0_; have HB := n1_; clear n0_ n1_; (try clear hb); (try clear hb2); (try clear hk); (try clear hi))); try go_wp2_with (first | ((with_reducible refine gate_dst (N := 3) rfl ?_); refine box_event ?hg (N := 3) ?hd (cs := #[.string a1_0, .int .i64 a1_1, .int .i64 a1_2, .int .i64 a1_3, .int .i64 a1_4, .int .i64 a1_5, .int .i64 a1_6, .bool a1_7]) (t := 34) ?hr ?_; (case hd => rfl); (case hg => rfl); (case hr => first | (go_simp; done) | (go_simp; rfl)); intro gb156 hg w22 hbox hb; have n0_ := Aside0.mk (below_step zQx11a0_ hb); have n1_ := Aside0.mk (hbox); have n2_ := Aside0.mk ((by rw [hg]; exact (below_size zQx11a0_) : w.heap.size ≤ gb156)); have n3_ := Aside0.mk ((by rw [hg]; exact (below_size zQx11a0_) : w.heap.size ≤ gb156)); clear HB; have HB := n0_; have BK156 := n1_; have GW156 := n2_; have GE156 := n3_; clear n0_ n1_ n2_ n3_; clear hb hbox hg; have hcz23_0 : w22.cell? ⟨gb156, 0, none⟩ = some (.string a1_0) := (blk_cell BK156.out 0).trans rfl; have hcz23_1 : w22.cell? ⟨gb156, 1, none⟩ = some (.int .i64 a1_1) := (blk_cell BK156.out 1).trans rfl; have hcz23_2 : w22.cell? ⟨gb156, 2, none⟩ = some (.int .i64 a1_2) := (blk_cell BK156.out 2).trans rfl; have hcz23_3 : w22.cell? ⟨gb156, 3, none⟩ = some (.int .i64 a1_3) := (blk_cell BK156.out 3).trans rfl; have hcz23_4 : w22.cell? ⟨gb156, 4, none⟩ = some (.int .i64 a1_4) := (blk_cell BK156.out 4).trans rfl; have hcz23_5 : w22.cell? ⟨gb156, 5, none⟩ = some (.int .i64 a1_5) := (blk_cell BK156.out 5).trans rfl; have hcz23_6 : w22.cell? ⟨gb156, 6, none⟩ = some (.int .i64 a1_6) := (blk_cell BK156.out 6).trans rfl; have hcz23_7 : w22.cell? ⟨gb156, 7, none⟩ = some (.bool a1_7) := (blk_cell BK156.out 7).trans rfl; have hfz23_0 := blk_frozen BK156.out 0; have hfz23_1 := blk_frozen BK156.out 1; have hfz23_2 := blk_frozen BK156.out 2; have hfz23_3 := blk_frozen BK156.out 3; have hfz23_4 := blk_frozen BK156.out 4; have hfz23_5 := blk_frozen BK156.out 5; have hfz23_6 := blk_frozen BK156.out 6; have hfz23_7 := blk_frozen BK156.out 7) | (go_at_call 49; (with_reducible refine (basculeref21_name.calls k a1_0 false _ A3.out).mono ?_); rintro e w24 ⟨rfl, hb⟩; have n0_ := Aside0.mk (blk_below (g := gb156) (o := .cells #[.string a1_0, .int .i64 a1_1, .int .i64 a1_2, .int .i64 a1_3, .int .i64 a1_4, .int .i64 a1_5, .int .i64 a1_6, .bool a1_7] 34 (0, 0)) zQx11a6_ hb); have n1_ := Aside0.mk (below_step zQx11a4_ hb); clear BK156; clear HB; have BK156 := n0_; have HB := n1_; clear n0_ n1_; (try clear hb); (try clear hb2); (try clear hk); (try clear hi))))
  go_ret
  exact ⟨zQx11a8_, zQx11a4_⟩
 subst c4
 have H1 : (basculeref21_Error.l0 k l0 0 a1_0 a1_1 a1_2 a1_3 a1_4 a1_5 a1_6 a1_7) = some r := by rw [if_pos rfl] at H; exact H
 clear H
 have H := H1
 clear H1
 have H' := Aside0.mk H
 clear H
 go_enter Tryz.func27, Tryz.ntmps27
 go_wp2_with (first | ((with_reducible refine gate_dst (N := 3) rfl ?_); refine box_event ?hg (N := 3) ?hd (cs := #[.string a1_0, .int .i64 a1_1, .int .i64 a1_2, .int .i64 a1_3, .int .i64 a1_4, .int .i64 a1_5, .int .i64 a1_6, .bool a1_7]) (t := 34) ?hr ?_; (case hd => rfl); (case hg => rfl); (case hr => first | (go_simp; done) | (go_simp; rfl)); intro gb156 hg w5 hbox hb; have n0_ := Aside0.mk (below_step zQx11a0_ hb); have n1_ := Aside0.mk (hbox); have n2_ := Aside0.mk ((by rw [hg]; exact (below_size zQx11a0_) : w.heap.size ≤ gb156)); have n3_ := Aside0.mk ((by rw [hg]; exact (below_size zQx11a0_) : w.heap.size ≤ gb156)); clear HB; have HB := n0_; have BK156 := n1_; have GW156 := n2_; have GE156 := n3_; clear n0_ n1_ n2_ n3_; clear hb hbox hg; have hcz6_0 : w5.cell? ⟨gb156, 0, none⟩ = some (.string a1_0) := (blk_cell BK156.out 0).trans rfl; have hcz6_1 : w5.cell? ⟨gb156, 1, none⟩ = some (.int .i64 a1_1) := (blk_cell BK156.out 1).trans rfl; have hcz6_2 : w5.cell? ⟨gb156, 2, none⟩ = some (.int .i64 a1_2) := (blk_cell BK156.out 2).trans rfl; have hcz6_3 : w5.cell? ⟨gb156, 3, none⟩ = some (.int .i64 a1_3) := (blk_cell BK156.out 3).trans rfl; have hcz6_4 : w5.cell? ⟨gb156, 4, none⟩ = some (.int .i64 a1_4) := (blk_cell BK156.out 4).trans rfl; have hcz6_5 : w5.cell? ⟨gb156, 5, none⟩ = some (.int .i64 a1_5) := (blk_cell BK156.out 5).trans rfl; have hcz6_6 : w5.cell? ⟨gb156, 6, none⟩ = some (.int .i64 a1_6) := (blk_cell BK156.out 6).trans rfl; have hcz6_7 : w5.cell? ⟨gb156, 7, none⟩ = some (.bool a1_7) := (blk_cell BK156.out 7).trans rfl; have hfz6_0 := blk_frozen BK156.out 0; have hfz6_1 := blk_frozen BK156.out 1; have hfz6_2 := blk_frozen BK156.out 2; have hfz6_3 := blk_frozen BK156.out 3; have hfz6_4 := blk_frozen BK156.out 4; have hfz6_5 := blk_frozen BK156.out 5; have hfz6_6 := blk_frozen BK156.out 6; have hfz6_7 := blk_frozen BK156.out 7) | (go_at_call 49; (with_reducible refine (basculeref21_name.calls k a1_0 true _ A3.out).mono ?_); rintro e w7 ⟨rfl, hb⟩; have n0_ := Aside0.mk (blk_below (g := gb156) (o := .cells #[.string a1_0, .int .i64 a1_1, .int .i64 a1_2, .int .i64 a1_3, .int .i64 a1_4, .int .i64 a1_5, .int .i64 a1_6, .bool a1_7] 34 (0, 0)) zQx11a6_ hb); have n1_ := Aside0.mk (below_step zQx11a4_ hb); clear BK156; clear HB; have BK156 := n0_; have HB := n1_; clear n0_ n1_; (try clear hb); (try clear hb2); (try clear hk); (try clear hi)))
 repeat (go_quiet (first | ((with_reducible refine gate_dst (N := 3) rfl ?_); refine box_event ?hg (N := 3) ?hd (cs := #[.string a1_0, .int .i64 a1_1, .int .i64 a1_2, .int .i64 a1_3, .int .i64 a1_4, .int .i64 a1_5, .int .i64 a1_6, .bool a1_7]) (t := 34) ?hr ?_; (case hd => rfl); (case hg => rfl); (case hr => first | (go_simp; done) | (go_simp; rfl)); intro gb156 hg w5 hbox hb; have n0_ := Aside0.mk (below_step zQx11a0_ hb); have n1_ := Aside0.mk (hbox); have n2_ := Aside0.mk ((by rw [hg]; exact (below_size zQx11a0_) : w.heap.size ≤ gb156)); have n3_ := Aside0.mk ((by rw [hg]; exact (below_size zQx11a0_) : w.heap.size ≤ gb156)); clear HB; have HB := n0_; have BK156 := n1_; have GW156 := n2_; have GE156 := n3_; clear n0_ n1_ n2_ n3_; clear hb hbox hg; have hcz6_0 : w5.cell? ⟨gb156, 0, none⟩ = some (.string a1_0) := (blk_cell BK156.out 0).trans rfl; have hcz6_1 : w5.cell? ⟨gb156, 1, none⟩ = some (.int .i64 a1_1) := (blk_cell BK156.out 1).trans rfl; have hcz6_2 : w5.cell? ⟨gb156, 2, none⟩ = some (.int .i64 a1_2) := (blk_cell BK156.out 2).trans rfl; have hcz6_3 : w5.cell? ⟨gb156, 3, none⟩ = some (.int .i64 a1_3) := (blk_cell BK156.out 3).trans rfl; have hcz6_4 : w5.cell? ⟨gb156, 4, none⟩ = some (.int .i64 a1_4) := (blk_cell BK156.out 4).trans rfl; have hcz6_5 : w5.cell? ⟨gb156, 5, none⟩ = some (.int .i64 a1_5) := (blk_cell BK156.out 5).trans rfl; have hcz6_6 : w5.cell? ⟨gb156, 6, none⟩ = some (.int .i64 a1_6) := (blk_cell BK156.out 6).trans rfl; have hcz6_7 : w5.cell? ⟨gb156, 7, none⟩ = some (.bool a1_7) := (blk_cell BK156.out 7).trans rfl; have hfz6_0 := blk_frozen BK156.out 0; have hfz6_1 := blk_frozen BK156.out 1; have hfz6_2 := blk_frozen BK156.out 2; have hfz6_3 := blk_frozen BK156.out 3; have hfz6_4 := blk_frozen BK156.out 4; have hfz6_5 := blk_frozen BK156.out 5; have hfz6_6 := blk_frozen BK156.out 6; have hfz6_7 := blk_frozen BK156.out 7) | (go_at_call 49; (with_reducible refine (basculeref21_name.calls k a1_0 true _ A3.out).mono ?_); rintro e w7 ⟨rfl, hb⟩; have n0_ := Aside0.mk (blk_below (g := gb156) (o := .cells #[.string a1_0, .int .i64 a1_1, .int .i64 a1_2, .int .i64 a1_3, .int .i64 a1_4, .int .i64 a1_5, .int .i64 a1_6, .bool a1_7] 34 (0, 0)) zQx11a6_ hb); have n1_ := Aside0.mk (below_step zQx11a4_ hb); clear BK156; clear HB; have BK156 := n0_; have HB := n1_; clear n0_ n1_; (try clear hb); (try clear hb2); (try clear hk); (try clear hi))); try go_wp2_with (first | ((with_reducible refine gate_dst (N := 3) rfl ?_); refine box_event ?hg (N := 3) ?hd (cs := #[.string a1_0, .int .i64 a1_1, .int .i64 a1_2, .int .i64 a1_3, .int .i64 a1_4, .int .i64 a1_5, .int .i64 a1_6, .bool a1_7]) (t := 34) ?hr ?_; (case hd => rfl); (case hg => rfl); (case hr => first | (go_simp; done) | (go_simp; rfl)); intro gb156 hg w5 hbox hb; have n0_ := Aside0.mk (below_step zQx11a0_ hb); have n1_ := Aside0.mk (hbox); have n2_ := Aside0.mk ((by rw [hg]; exact (below_size zQx11a0_) : w.heap.size ≤ gb156)); have n3_ := Aside0.mk ((by rw [hg]; exact (below_size zQx11a0_) : w.heap.size ≤ gb156)); clear HB; have HB := n0_; have BK156 := n1_; have GW156 := n2_; have GE156 := n3_; clear n0_ n1_ n2_ n3_; clear hb hbox hg; have hcz6_0 : w5.cell? ⟨gb156, 0, none⟩ = some (.string a1_0) := (blk_cell BK156.out 0).trans rfl; have hcz6_1 : w5.cell? ⟨gb156, 1, none⟩ = some (.int .i64 a1_1) := (blk_cell BK156.out 1).trans rfl; have hcz6_2 : w5.cell? ⟨gb156, 2, none⟩ = some (.int .i64 a1_2) := (blk_cell BK156.out 2).trans rfl; have hcz6_3 : w5.cell? ⟨gb156, 3, none⟩ = some (.int .i64 a1_3) := (blk_cell BK156.out 3).trans rfl; have hcz6_4 : w5.cell? ⟨gb156, 4, none⟩ = some (.int .i64 a1_4) := (blk_cell BK156.out 4).trans rfl; have hcz6_5 : w5.cell? ⟨gb156, 5, none⟩ = some (.int .i64 a1_5) := (blk_cell BK156.out 5).trans rfl; have hcz6_6 : w5.cell? ⟨gb156, 6, none⟩ = some (.int .i64 a1_6) := (blk_cell BK156.out 6).trans rfl; have hcz6_7 : w5.cell? ⟨gb156, 7, none⟩ = some (.bool a1_7) := (blk_cell BK156.out 7).trans rfl; have hfz6_0 := blk_frozen BK156.out 0; have hfz6_1 := blk_frozen BK156.out 1; have hfz6_2 := blk_frozen BK156.out 2; have hfz6_3 := blk_frozen BK156.out 3; have hfz6_4 := blk_frozen BK156.out 4; have hfz6_5 := blk_frozen BK156.out 5; have hfz6_6 := blk_frozen BK156.out 6; have hfz6_7 := blk_frozen BK156.out 7) | (go_at_call 49; (with_reducible refine (basculeref21_name.calls k a1_0 true _ A3.out).mono ?_); rintro e w7 ⟨rfl, hb⟩; have n0_ := Aside0.mk (blk_below (g := gb156) (o := .cells #[.string a1_0, .int .i64 a1_1, .int .i64 a1_2, .int .i64 a1_3, .int .i64 a1_4, .int .i64 a1_5, .int .i64 a1_6, .bool a1_7] 34 (0, 0)) zQx11a6_ hb); have n1_ := Aside0.mk (below_step zQx11a4_ hb); clear BK156; clear HB; have BK156 := n0_; have HB := n1_; clear n0_ n1_; (try clear hb); (try clear hb2); (try clear hk); (try clear hi))))
 go_loopg [5] k (fun kq v5 w' => ∃ (x5_1 : Int), v5 = .int .i64 x5_1 ∧ Aside0 (basculeref21_Error.l0 kq l0 x5_1 a1_0 a1_1 a1_2 a1_3 a1_4 a1_5 a1_6 a1_7 = some r) ∧ Aside0 (kq ≤ k) ∧ Aside0 (w'.heap[gb156]? = some (.cells #[.string a1_0, .int .i64 a1_1, .int .i64 a1_2, .int .i64 a1_3, .int .i64 a1_4, .int .i64 a1_5, .int .i64 a1_6, .bool a1_7] 34 (0, 0))) ∧ Aside0 (Below w.heap.size w w'))
 case atStart => exact ⟨(0), zQx11a13_, H', ⟨Nat.le_refl _⟩, ⟨zQx11a6_⟩, ⟨zQx11a4_⟩⟩
 case round =>
  clear H'
  try clear c2
  try clear p2
  try clear c4
  try clear hcz6_0
  try clear hcz6_1
  try clear hcz6_2
  try clear hcz6_3
  try clear hcz6_4
  try clear hcz6_5
  try clear hcz6_6
  try clear hcz6_7
  try clear hfz6_0
  try clear hfz6_1
  try clear hfz6_2
  try clear hfz6_3
  try clear hfz6_4
  try clear hfz6_5
  try clear hfz6_6
  try clear hfz6_7
  obtain ⟨x5_1, rfl, HA, HK1, BK156, HB⟩ := hrel
  cases gk with
  | zero => exact absurd HA.out (by simp [basculeref21_Error.l0])
  | succ k1 =>
   have H := HA.out
   clear HA
   simp only [basculeref21_Error.l0] at H
   by_cases c8 : x5_1 < (l0.length : Int)
   ·
    rw [if_pos c8] at H
    have c8b0 : decide (x5_1 < (l0.length : Int)) = true := decide_eq_true c8
    clear c8
    have c9 : 0 ≤ x5_1 := znQx11_
    rw [if_pos c9] at H
    have c9b0 : decide (0 ≤ x5_1) = true := decide_eq_true c9
    clear c9
    by_cases c10 : ((rd_T34 l0 x5_1).f0).toList = a1_0.toList
    ·
     rw [if_pos c10] at H
     have c10b0 : (((rd_T34 l0 x5_1).f0).toList == a1_0.toList) = true := beq_iff_eq.mpr c10
     have c10b1 : (((rd_T34 l0 x5_1).f0).toList != a1_0.toList) = false := bne_eq_false_iff_eq.mpr c10
     clear c10
     obtain rfl := Option.some.inj H
     have p158 : 0 ≤ (x5_1 : Int) := of_decide_eq_true zQx11a12_
     have q158 : x5_1 < (l0.length : Int) := of_decide_eq_true zQx11a12_
     obtain ⟨ad158, e158, hx158_0, hx158_1, hx158_2, hx158_3, hx158_4, hx158_5, hx158_6, hx158_7⟩ := at_T34 HR0.out x5_1 p158 q158
     cases e158
     replace hx158_0 := (HB.out.cell (World.block_lt_of_cell? w _ hx158_0)).trans hx158_0
     replace hx158_1 := (HB.out.cell (World.block_lt_of_cell? w _ hx158_1)).trans hx158_1
     replace hx158_2 := (HB.out.cell (World.block_lt_of_cell? w _ hx158_2)).trans hx158_2
     replace hx158_3 := (HB.out.cell (World.block_lt_of_cell? w _ hx158_3)).trans hx158_3
     replace hx158_4 := (HB.out.cell (World.block_lt_of_cell? w _ hx158_4)).trans hx158_4
     replace hx158_5 := (HB.out.cell (World.block_lt_of_cell? w _ hx158_5)).trans hx158_5
     replace hx158_6 := (HB.out.cell (World.block_lt_of_cell? w _ hx158_6)).trans hx158_6
     replace hx158_7 := (HB.out.cell (World.block_lt_of_cell? w _ hx158_7)).trans hx158_7
     replace p158 := eq_true p158
     replace q158 := eq_true q158
     have hcz11_0 : wr.cell? ⟨gb156, 0, none⟩ = some (.string a1_0) := (blk_cell BK156.out 0).trans rfl
     have hcz11_1 : wr.cell? ⟨gb156, 1, none⟩ = some (.int .i64 a1_1) := (blk_cell BK156.out 1).trans rfl
     have hcz11_2 : wr.cell? ⟨gb156, 2, none⟩ = some (.int .i64 a1_2) := (blk_cell BK156.out 2).trans rfl
     have hcz11_3 : wr.cell? ⟨gb156, 3, none⟩ = some (.int .i64 a1_3) := (blk_cell BK156.out 3).trans rfl
     have hcz11_4 : wr.cell? ⟨gb156, 4, none⟩ = some (.int .i64 a1_4) := (blk_cell BK156.out 4).trans rfl
     have hcz11_5 : wr.cell? ⟨gb156, 5, none⟩ = some (.int .i64 a1_5) := (blk_cell BK156.out 5).trans rfl
     have hcz11_6 : wr.cell? ⟨gb156, 6, none⟩ = some (.int .i64 a1_6) := (blk_cell BK156.out 6).trans rfl
     have hcz11_7 : wr.cell? ⟨gb156, 7, none⟩ = some (.bool a1_7) := (blk_cell BK156.out 7).trans rfl
     have hfz11_0 := blk_frozen BK156.out 0
     have hfz11_1 := blk_frozen BK156.out 1
     have hfz11_2 := blk_frozen BK156.out 2
     have hfz11_3 := blk_frozen BK156.out 3
     have hfz11_4 := blk_frozen BK156.out 4
     have hfz11_5 := blk_frozen BK156.out 5
     have hfz11_6 := blk_frozen BK156.out 6
     have hfz11_7 := blk_frozen BK156.out 7
     go_wp2
     repeat (go_quiet (fail); try go_wp2)
     go_ret
     exact ⟨zQx11a8_, zQx11a4_⟩
    rw [if_neg c10] at H
    have c10b0 : (((rd_T34 l0 x5_1).f0).toList == a1_0.toList) = false := beq_eq_false_iff_ne.mpr c10
    have c10b1 : (((rd_T34 l0 x5_1).f0).toList != a1_0.toList) = true := bne_iff_ne.mpr c10
    have H' := Aside0.mk H
    clear H
    have p158 : 0 ≤ (x5_1 : Int) := of_decide_eq_true zQx11a12_
    have q158 : x5_1 < (l0.length : Int) := of_decide_eq_true zQx11a12_
    obtain ⟨ad158, e158, hx158_0, hx158_1, hx158_2, hx158_3, hx158_4, hx158_5, hx158_6, hx158_7⟩ := at_T34 HR0.out x5_1 p158 q158
    cases e158
    replace hx158_0 := (HB.out.cell (World.block_lt_of_cell? w _ hx158_0)).trans hx158_0
    replace hx158_1 := (HB.out.cell (World.block_lt_of_cell? w _ hx158_1)).trans hx158_1
    replace hx158_2 := (HB.out.cell (World.block_lt_of_cell? w _ hx158_2)).trans hx158_2
    replace hx158_3 := (HB.out.cell (World.block_lt_of_cell? w _ hx158_3)).trans hx158_3
    replace hx158_4 := (HB.out.cell (World.block_lt_of_cell? w _ hx158_4)).trans hx158_4
    replace hx158_5 := (HB.out.cell (World.block_lt_of_cell? w _ hx158_5)).trans hx158_5
    replace hx158_6 := (HB.out.cell (World.block_lt_of_cell? w _ hx158_6)).trans hx158_6
    replace hx158_7 := (HB.out.cell (World.block_lt_of_cell? w _ hx158_7)).trans hx158_7
    replace p158 := eq_true p158
    replace q158 := eq_true q158
    have hcz12_0 : wr.cell? ⟨gb156, 0, none⟩ = some (.string a1_0) := (blk_cell BK156.out 0).trans rfl
    have hcz12_1 : wr.cell? ⟨gb156, 1, none⟩ = some (.int .i64 a1_1) := (blk_cell BK156.out 1).trans rfl
    have hcz12_2 : wr.cell? ⟨gb156, 2, none⟩ = some (.int .i64 a1_2) := (blk_cell BK156.out 2).trans rfl
    have hcz12_3 : wr.cell? ⟨gb156, 3, none⟩ = some (.int .i64 a1_3) := (blk_cell BK156.out 3).trans rfl
    have hcz12_4 : wr.cell? ⟨gb156, 4, none⟩ = some (.int .i64 a1_4) := (blk_cell BK156.out 4).trans rfl
    have hcz12_5 : wr.cell? ⟨gb156, 5, none⟩ = some (.int .i64 a1_5) := (blk_cell BK156.out 5).trans rfl
    have hcz12_6 : wr.cell? ⟨gb156, 6, none⟩ = some (.int .i64 a1_6) := (blk_cell BK156.out 6).trans rfl
    have hcz12_7 : wr.cell? ⟨gb156, 7, none⟩ = some (.bool a1_7) := (blk_cell BK156.out 7).trans rfl
    have hfz12_0 := blk_frozen BK156.out 0
    have hfz12_1 := blk_frozen BK156.out 1
    have hfz12_2 := blk_frozen BK156.out 2
    have hfz12_3 := blk_frozen BK156.out 3
    have hfz12_4 := blk_frozen BK156.out 4
    have hfz12_5 := blk_frozen BK156.out 5
    have hfz12_6 := blk_frozen BK156.out 6
    have hfz12_7 := blk_frozen BK156.out 7
    go_wp2
    repeat (go_quiet (fail); try go_wp2)
    go_roundg k1
    case measure => have := HK1.out; omega
    case rel => exact ⟨(wrap64 (x5_1 + 1)), zQx11a13_, H', ⟨by have := HK1.out; omega⟩, ⟨zQx11a6_⟩, ⟨zQx11a4_⟩⟩
   rw [if_neg c8] at H
   have c8b0 : decide (x5_1 < (l0.length : Int)) = false := decide_eq_false c8
   clear c8
   replace H := Option.bind_eq_some_iff.mp H
   obtain ⟨t159, A130, H⟩ := H
   replace H : (if t159 = true then (if (l0.length : Int) ≥ 64 then (some 6) else (some 0)) else (some 220)) = some r := H
   have A13 := Aside0.mk A130
   clear A130
   by_cases c14 : t159 = true
   rotate_left
   ·
    replace c14 := Bool.eq_false_iff.mpr c14
    subst c14
    have H1 : (some 220) = some r := by rw [if_neg (show ¬ (false = true) by decide)] at H; exact H
    clear H
    have H := H1
    clear H1
    obtain rfl := Option.some.inj H
    have hcz20_0 : wr.cell? ⟨gb156, 0, none⟩ = some (.string a1_0) := (blk_cell BK156.out 0).trans rfl
    have hcz20_1 : wr.cell? ⟨gb156, 1, none⟩ = some (.int .i64 a1_1) := (blk_cell BK156.out 1).trans rfl
    have hcz20_2 : wr.cell? ⟨gb156, 2, none⟩ = some (.int .i64 a1_2) := (blk_cell BK156.out 2).trans rfl
    have hcz20_3 : wr.cell? ⟨gb156, 3, none⟩ = some (.int .i64 a1_3) := (blk_cell BK156.out 3).trans rfl
    have hcz20_4 : wr.cell? ⟨gb156, 4, none⟩ = some (.int .i64 a1_4) := (blk_cell BK156.out 4).trans rfl
    have hcz20_5 : wr.cell? ⟨gb156, 5, none⟩ = some (.int .i64 a1_5) := (blk_cell BK156.out 5).trans rfl
    have hcz20_6 : wr.cell? ⟨gb156, 6, none⟩ = some (.int .i64 a1_6) := (blk_cell BK156.out 6).trans rfl
    have hcz20_7 : wr.cell? ⟨gb156, 7, none⟩ = some (.bool a1_7) := (blk_cell BK156.out 7).trans rfl
    have hfz20_0 := blk_frozen BK156.out 0
    have hfz20_1 := blk_frozen BK156.out 1
    have hfz20_2 := blk_frozen BK156.out 2
    have hfz20_3 := blk_frozen BK156.out 3
    have hfz20_4 := blk_frozen BK156.out 4
    have hfz20_5 := blk_frozen BK156.out 5
    have hfz20_6 := blk_frozen BK156.out 6
    have hfz20_7 := blk_frozen BK156.out 7
    go_wp2_with (first | (go_at_call 50; (with_reducible refine (basculeref21_Range.calls a1_0 a1_1 a1_2 a1_3 a1_4 a1_5 a1_6 a1_7 false _ A13.out).mono ?_); rintro e w21 ⟨rfl, hb⟩; have n0_ := Aside0.mk (blk_below (g := gb156) (o := .cells #[.string a1_0, .int .i64 a1_1, .int .i64 a1_2, .int .i64 a1_3, .int .i64 a1_4, .int .i64 a1_5, .int .i64 a1_6, .bool a1_7] 34 (0, 0)) zQx11a6_ hb); have n1_ := Aside0.mk (below_step zQx11a4_ hb); clear BK156; clear HB; have BK156 := n0_; have HB := n1_; clear n0_ n1_; (try clear hb); (try clear hb2); (try clear hk); (try clear hi)))
    repeat (go_quiet (first | (go_at_call 50; (with_reducible refine (basculeref21_Range.calls a1_0 a1_1 a1_2 a1_3 a1_4 a1_5 a1_6 a1_7 false _ A13.out).mono ?_); rintro e w21 ⟨rfl, hb⟩; have n0_ := Aside0.mk (blk_below (g := gb156) (o := .cells #[.string a1_0, .int .i64 a1_1, .int .i64 a1_2, .int .i64 a1_3, .int .i64 a1_4, .int .i64 a1_5, .int .i64 a1_6, .bool a1_7] 34 (0, 0)) zQx11a6_ hb); have n1_ := Aside0.mk (below_step zQx11a4_ hb); clear BK156; clear HB; have BK156 := n0_; have HB := n1_; clear n0_ n1_; (try clear hb); (try clear hb2); (try clear hk); (try clear hi))); try go_wp2_with (first | (go_at_call 50; (with_reducible refine (basculeref21_Range.calls a1_0 a1_1 a1_2 a1_3 a1_4 a1_5 a1_6 a1_7 false _ A13.out).mono ?_); rintro e w21 ⟨rfl, hb⟩; have n0_ := Aside0.mk (blk_below (g := gb156) (o := .cells #[.string a1_0, .int .i64 a1_1, .int .i64 a1_2, .int .i64 a1_3, .int .i64 a1_4, .int .i64 a1_5, .int .i64 a1_6, .bool a1_7] 34 (0, 0)) zQx11a6_ hb); have n1_ := Aside0.mk (below_step zQx11a4_ hb); clear BK156; clear HB; have BK156 := n0_; have HB := n1_; clear n0_ n1_; (try clear hb); (try clear hb2); (try clear hk); (try clear hi))))
    go_ret
    exact ⟨zQx11a8_, zQx11a4_⟩
   subst c14
   have H1 : (if (l0.length : Int) ≥ 64 then (some 6) else (some 0)) = some r := by rw [if_pos rfl] at H; exact H
   clear H
   have H := H1
   clear H1
   by_cases c15 : (l0.length : Int) ≥ 64
   ·
    rw [if_pos c15] at H
    have c15b0 : decide (64 ≤ (l0.length : Int)) = true := decide_eq_true c15
    have c15b1 : decide (64 ≤ l0.length) = true := decide_eq_true (by omega)
    clear c15
    obtain rfl := Option.some.inj H
    have hcz16_0 : wr.cell? ⟨gb156, 0, none⟩ = some (.string a1_0) := (blk_cell BK156.out 0).trans rfl
    have hcz16_1 : wr.cell? ⟨gb156, 1, none⟩ = some (.int .i64 a1_1) := (blk_cell BK156.out 1).trans rfl
    have hcz16_2 : wr.cell? ⟨gb156, 2, none⟩ = some (.int .i64 a1_2) := (blk_cell BK156.out 2).trans rfl
    have hcz16_3 : wr.cell? ⟨gb156, 3, none⟩ = some (.int .i64 a1_3) := (blk_cell BK156.out 3).trans rfl
    have hcz16_4 : wr.cell? ⟨gb156, 4, none⟩ = some (.int .i64 a1_4) := (blk_cell BK156.out 4).trans rfl
    have hcz16_5 : wr.cell? ⟨gb156, 5, none⟩ = some (.int .i64 a1_5) := (blk_cell BK156.out 5).trans rfl
    have hcz16_6 : wr.cell? ⟨gb156, 6, none⟩ = some (.int .i64 a1_6) := (blk_cell BK156.out 6).trans rfl
    have hcz16_7 : wr.cell? ⟨gb156, 7, none⟩ = some (.bool a1_7) := (blk_cell BK156.out 7).trans rfl
    have hfz16_0 := blk_frozen BK156.out 0
    have hfz16_1 := blk_frozen BK156.out 1
    have hfz16_2 := blk_frozen BK156.out 2
    have hfz16_3 := blk_frozen BK156.out 3
    have hfz16_4 := blk_frozen BK156.out 4
    have hfz16_5 := blk_frozen BK156.out 5
    have hfz16_6 := blk_frozen BK156.out 6
    have hfz16_7 := blk_frozen BK156.out 7
    go_wp2_with (first | (go_at_call 50; (with_reducible refine (basculeref21_Range.calls a1_0 a1_1 a1_2 a1_3 a1_4 a1_5 a1_6 a1_7 true _ A13.out).mono ?_); rintro e w17 ⟨rfl, hb⟩; have n0_ := Aside0.mk (blk_below (g := gb156) (o := .cells #[.string a1_0, .int .i64 a1_1, .int .i64 a1_2, .int .i64 a1_3, .int .i64 a1_4, .int .i64 a1_5, .int .i64 a1_6, .bool a1_7] 34 (0, 0)) zQx11a6_ hb); have n1_ := Aside0.mk (below_step zQx11a4_ hb); clear BK156; clear HB; have BK156 := n0_; have HB := n1_; clear n0_ n1_; (try clear hb); (try clear hb2); (try clear hk); (try clear hi)))
    repeat (go_quiet (first | (go_at_call 50; (with_reducible refine (basculeref21_Range.calls a1_0 a1_1 a1_2 a1_3 a1_4 a1_5 a1_6 a1_7 true _ A13.out).mono ?_); rintro e w17 ⟨rfl, hb⟩; have n0_ := Aside0.mk (blk_below (g := gb156) (o := .cells #[.string a1_0, .int .i64 a1_1, .int .i64 a1_2, .int .i64 a1_3, .int .i64 a1_4, .int .i64 a1_5, .int .i64 a1_6, .bool a1_7] 34 (0, 0)) zQx11a6_ hb); have n1_ := Aside0.mk (below_step zQx11a4_ hb); clear BK156; clear HB; have BK156 := n0_; have HB := n1_; clear n0_ n1_; (try clear hb); (try clear hb2); (try clear hk); (try clear hi))); try go_wp2_with (first | (go_at_call 50; (with_reducible refine (basculeref21_Range.calls a1_0 a1_1 a1_2 a1_3 a1_4 a1_5 a1_6 a1_7 true _ A13.out).mono ?_); rintro e w17 ⟨rfl, hb⟩; have n0_ := Aside0.mk (blk_below (g := gb156) (o := .cells #[.string a1_0, .int .i64 a1_1, .int .i64 a1_2, .int .i64 a1_3, .int .i64 a1_4, .int .i64 a1_5, .int .i64 a1_6, .bool a1_7] 34 (0, 0)) zQx11a6_ hb); have n1_ := Aside0.mk (below_step zQx11a4_ hb); clear BK156; clear HB; have BK156 := n0_; have HB := n1_; clear n0_ n1_; (try clear hb); (try clear hb2); (try clear hk); (try clear hi))))
    go_ret
    exact ⟨zQx11a8_, zQx11a4_⟩
   rw [if_neg c15] at H
   have c15b0 : decide (64 ≤ (l0.length : Int)) = false := decide_eq_false c15
   have c15b1 : decide (64 ≤ l0.length) = false := decide_eq_false (by omega)
   clear c15
   obtain rfl := Option.some.inj H
   have hcz18_0 : wr.cell? ⟨gb156, 0, none⟩ = some (.string a1_0) := (blk_cell BK156.out 0).trans rfl
   have hcz18_1 : wr.cell? ⟨gb156, 1, none⟩ = some (.int .i64 a1_1) := (blk_cell BK156.out 1).trans rfl
   have hcz18_2 : wr.cell? ⟨gb156, 2, none⟩ = some (.int .i64 a1_2) := (blk_cell BK156.out 2).trans rfl
   have hcz18_3 : wr.cell? ⟨gb156, 3, none⟩ = some (.int .i64 a1_3) := (blk_cell BK156.out 3).trans rfl
   have hcz18_4 : wr.cell? ⟨gb156, 4, none⟩ = some (.int .i64 a1_4) := (blk_cell BK156.out 4).trans rfl
   have hcz18_5 : wr.cell? ⟨gb156, 5, none⟩ = some (.int .i64 a1_5) := (blk_cell BK156.out 5).trans rfl
   have hcz18_6 : wr.cell? ⟨gb156, 6, none⟩ = some (.int .i64 a1_6) := (blk_cell BK156.out 6).trans rfl
   have hcz18_7 : wr.cell? ⟨gb156, 7, none⟩ = some (.bool a1_7) := (blk_cell BK156.out 7).trans rfl
   have hfz18_0 := blk_frozen BK156.out 0
   have hfz18_1 := blk_frozen BK156.out 1
   have hfz18_2 := blk_frozen BK156.out 2
   have hfz18_3 := blk_frozen BK156.out 3
   have hfz18_4 := blk_frozen BK156.out 4
   have hfz18_5 := blk_frozen BK156.out 5
   have hfz18_6 := blk_frozen BK156.out 6
   have hfz18_7 := blk_frozen BK156.out 7
   go_wp2_with (first | (go_at_call 50; (with_reducible refine (basculeref21_Range.calls a1_0 a1_1 a1_2 a1_3 a1_4 a1_5 a1_6 a1_7 true _ A13.out).mono ?_); rintro e w19 ⟨rfl, hb⟩; have n0_ := Aside0.mk (blk_below (g := gb156) (o := .cells #[.string a1_0, .int .i64 a1_1, .int .i64 a1_2, .int .i64 a1_3, .int .i64 a1_4, .int .i64 a1_5, .int .i64 a1_6, .bool a1_7] 34 (0, 0)) zQx11a6_ hb); have n1_ := Aside0.mk (below_step zQx11a4_ hb); clear BK156; clear HB; have BK156 := n0_; have HB := n1_; clear n0_ n1_; (try clear hb); (try clear hb2); (try clear hk); (try clear hi)))
   repeat (go_quiet (first | (go_at_call 50; (with_reducible refine (basculeref21_Range.calls a1_0 a1_1 a1_2 a1_3 a1_4 a1_5 a1_6 a1_7 true _ A13.out).mono ?_); rintro e w19 ⟨rfl, hb⟩; have n0_ := Aside0.mk (blk_below (g := gb156) (o := .cells #[.string a1_0, .int .i64 a1_1, .int .i64 a1_2, .int .i64 a1_3, .int .i64 a1_4, .int .i64 a1_5, .int .i64 a1_6, .bool a1_7] 34 (0, 0)) zQx11a6_ hb); have n1_ := Aside0.mk (below_step zQx11a4_ hb); clear BK156; clear HB; have BK156 := n0_; have HB := n1_; clear n0_ n1_; (try clear hb); (try clear hb2); (try clear hk); (try clear hi))); try go_wp2_with (first | (go_at_call 50; (with_reducible refine (basculeref21_Range.calls a1_0 a1_1 a1_2 a1_3 a1_4 a1_5 a1_6 a1_7 true _ A13.out).mono ?_); rintro e w19 ⟨rfl, hb⟩; have n0_ := Aside0.mk (blk_below (g := gb156) (o := .cells #[.string a1_0, .int .i64 a1_1, .int .i64 a1_2, .int .i64 a1_3, .int .i64 a1_4, .int .i64 a1_5, .int .i64 a1_6, .bool a1_7] 34 (0, 0)) zQx11a6_ hb); have n1_ := Aside0.mk (below_step zQx11a4_ hb); clear BK156; clear HB; have BK156 := n0_; have HB := n1_; clear n0_ n1_; (try clear hb); (try clear hb2); (try clear hk); (try clear hi))))
   go_ret
   exact ⟨zQx11a8_, zQx11a4_⟩
mutual
def basculeref21_Parse.l0 : Nat → ByteArray → List (S34) → Int → Int → Int → Option ((List (S34)) × Int × Int)
 | 0, _, _, _, _, _ => none
 | k + 1, x0, x5, x6, x7, x8 => if x8 ≤ (x0.size : Int) then (if x8 < (x0.size : Int) then (if 0 ≤ x8 then (basculeref21_Parse.j1 k x0 x5 x6 x7 x8 ((bt x0 x8) != 10)) else (none)) else (basculeref21_Parse.j1 k x0 x5 x6 x7 x8 false)) else (some (x5, 0, 0))
def basculeref21_Parse.j1 : Nat → ByteArray → List (S34) → Int → Int → Int → Bool → Option ((List (S34)) × Int × Int)
 | 0, _, _, _, _, _, _ => none
 | k + 1, x0, x5, x6, x7, x8, x28 => if x28 = true then (basculeref21_Parse.l0 k x0 x5 x6 x7 (wrap64 (x8 + 1))) else (if 0 ≤ x6 then (if x6 ≤ x8 then (if x8 ≤ (x0.size : Int) then ((basculeref21_split.f k (x0.extract (x6 : Int).toNat (x8 : Int).toNat)).bind fun t160 => (if (t160.length : Int) > 0 then (if 0 < (t160.length : Int) then (if 0 < ((rdOf ByteArray.empty t160 0).size : Int) then (basculeref21_Parse.j2 k x0 x5 x7 x8 t160 ((bt (rdOf ByteArray.empty t160 0) 0) != 35)) else (none)) else (none)) else (basculeref21_Parse.j2 k x0 x5 x7 x8 t160 false))) else (none)) else (none)) else (none))
def basculeref21_Parse.j2 : Nat → ByteArray → List (S34) → Int → Int → List ByteArray → Bool → Option ((List (S34)) × Int × Int)
 | 0, _, _, _, _, _, _ => none
 | k + 1, x0, x5, x7, x8, x9, x43 => if x43 = true then ((basculeref21_row.f x9).bind fun bt164 => (if bt164.2.2.2.2.2.2.2.2 = true then ((basculeref21_Error.f k x5 bt164.1 bt164.2.1 bt164.2.2.1 bt164.2.2.2.1 bt164.2.2.2.2.1 bt164.2.2.2.2.2.1 bt164.2.2.2.2.2.2.1 bt164.2.2.2.2.2.2.2.1).bind fun t174 => (if t174 = 0 then (if x5.length < 1954687338268 then (basculeref21_Parse.l0 k x0 (x5 ++ [(⟨bt164.1, bt164.2.1, bt164.2.2.1, bt164.2.2.2.1, bt164.2.2.2.2.1, bt164.2.2.2.2.2.1, bt164.2.2.2.2.2.2.1, bt164.2.2.2.2.2.2.2.1⟩ : S34)]) (wrap64 (x8 + 1)) (wrap64 (x7 + 1)) (wrap64 (x8 + 1))) else (none)) else (some (([] : List (S34)), x7, t174)))) else (some (([] : List (S34)), x7, 4)))) else (basculeref21_Parse.l0 k x0 x5 (wrap64 (x8 + 1)) (wrap64 (x7 + 1)) (wrap64 (x8 + 1)))
end
def basculeref21_Parse.f (k : Nat) (a0 : ByteArray) : Option ((List (S34)) × Int × Int) := basculeref21_Parse.l0 k a0 ([] : List (S34)) 0 1 0
set_option maxHeartbeats 8000000 in
set_option maxRecDepth 100000 in
theorem basculeref21_Parse.calls (k : Nat) (a0 : ByteArray) (r1 : List (S34)) (r2 : Int) (r3 : Int) (w : World) (h : basculeref21_Parse.f k a0 = some (r1, r2, r3)) :
  Calls Tryz.prog 8 #[.string a0] w fun e w' => ∃ v0_ : Value, e = .returned (.tuple #[v0_, .int .i64 r2, .int .i64 r3]) ∧ Kd.R k34 34 w' w.heap.size (fun _ => True) v0_ r1 ∧ Below w.heap.size w w' := by
 have hu34 := Tryz.underlying34
 have HB := Aside0.mk (Below.refl w.heap.size w)
 have H : (basculeref21_Parse.l0 k a0 ([] : List (S34)) 0 1 0) = some (r1, r2, r3) := h
 clear h
 have H' := Aside0.mk H
 clear H
 go_enter Tryz.func8, Tryz.ntmps8
 go_wp2
 go_loopg [5, 6, 7, 8] k (fun kq v5 v6 v7 v8 w' => ∃ (x5_1 : List (S34)) (x6_1 : Int) (x7_1 : Int) (x8_1 : Int), v6 = .int .i64 x6_1 ∧ v7 = .int .i64 x7_1 ∧ v8 = .int .i64 x8_1 ∧ Aside0 (basculeref21_Parse.l0 kq a0 x5_1 x6_1 x7_1 x8_1 = some (r1, r2, r3)) ∧ Aside0 (kq ≤ k) ∧ Aside0 (Kd.R k34 34 w' w.heap.size (fun _ => True) v5 x5_1) ∧ Aside0 (Below w.heap.size w w'))
 case atStart => exact ⟨(([] : List (S34))), (0), (1), (0), zQx11a13_, zQx11a13_, zQx11a13_, H', ⟨Nat.le_refl _⟩, ⟨zQx11a15_⟩, ⟨zQx11a0_⟩⟩
 case round =>
  clear H'
  obtain ⟨x5_1, x6_1, x7_1, x8_1, rfl, rfl, rfl, HA, HK1, HO_5, HB⟩ := hrel
  cases gk with
  | zero => exact absurd HA.out (by simp [basculeref21_Parse.l0])
  | succ k1 =>
   have H := HA.out
   clear HA
   simp only [basculeref21_Parse.l0] at H
   by_cases c2 : x8_1 ≤ (a0.size : Int)
   rotate_left
   ·
    rw [if_neg c2] at H
    have c2b0 : decide (x8_1 ≤ (a0.size : Int)) = false := decide_eq_false c2
    clear c2
    simp only [Option.some.injEq, Prod.mk.injEq] at H
    obtain ⟨rfl, rfl, rfl⟩ := H
    go_wp2
    go_ret3
    exact ⟨_, zQx11a8_, zQx11a9_, zQx11a0_⟩
   rw [if_pos c2] at H
   have c2b0 : decide (x8_1 ≤ (a0.size : Int)) = true := decide_eq_true c2
   clear c2
   have HC3 := Aside0.mk H
   clear H
   go_upto_region 7 with (fail)
   go_cut [28] (fun v28 wc => ∃ (kq : Nat) (x28_2 : Bool), v28 = .bool x28_2 ∧ Aside0 (basculeref21_Parse.j1 kq a0 x5_1 x6_1 x7_1 x8_1 x28_2 = some (r1, r2, r3)) ∧ Aside0 (kq ≤ k1) ∧ Aside0 (Kd.R k34 34 wc w.heap.size (fun _ => True) u5 x5_1) ∧ Aside0 (Below w.heap.size w wc))
   case first =>
    have H := HC3.out
    clear HC3
    by_cases c4 : x8_1 < (a0.size : Int)
    rotate_left
    ·
     rw [if_neg c4] at H
     have c4b0 : decide (x8_1 < (a0.size : Int)) = false := decide_eq_false c4
     clear c4
     (first | rw [c4b0] | (simp only [i64_w, i32_w]; rw [c4b0]) | skip)
     have H' := Aside0.mk H
     clear H
     go_wp2
     go_meet
     case rel => exact ⟨_, (false), zQx11a13_, H', ⟨by have := HK1.out; first | omega | exact Nat.le_refl _⟩, ⟨zQx11a9_⟩, ⟨zQx11a0_⟩⟩
    rw [if_pos c4] at H
    have c4b0 : decide (x8_1 < (a0.size : Int)) = true := decide_eq_true c4
    clear c4
    (first | rw [c4b0] | (simp only [i64_w, i32_w]; rw [c4b0]) | skip)
    have c5 : 0 ≤ x8_1 := znQx11_
    rw [if_pos c5] at H
    have c5b0 : decide (0 ≤ x8_1) = true := decide_eq_true c5
    clear c5
    have H' := Aside0.mk H
    clear H
    have p6 : 0 ≤ (x8_1 : Int) := of_decide_eq_true zQx11a12_
    have q6 : x8_1 < (a0.size : Int) := of_decide_eq_true zQx11a12_
    have hx6 := bt_at a0 x8_1
    replace p6 := eq_true p6
    replace q6 := eq_true q6
    go_wp2
    go_meet
    case rel => exact ⟨_, (((bt a0 x8_1) != 10)), zQx11a13_, H', ⟨by have := HK1.out; first | omega | exact Nat.le_refl _⟩, ⟨zQx11a9_⟩, ⟨zQx11a0_⟩⟩
   case rest =>
    clear HC3
    try clear c2
    try clear c2b0
    try clear p2
    try clear c4
    try clear c4b0
    try clear c5
    try clear c5b0
    try clear p6
    try clear q6
    try clear hx6
    try clear p6
    try clear q6
    obtain ⟨kq, x28_2, rfl, HA, HJ2, HO_5, HB⟩ := hcut
    cases kq with
    | zero => exact absurd HA.out (by simp [basculeref21_Parse.j1])
    | succ kj2 =>
     have H := HA.out
     clear HA
     simp only [basculeref21_Parse.j1] at H
     by_cases c7 : x28_2 = true
     ·
      subst c7
      have H1 : (basculeref21_Parse.l0 kj2 a0 x5_1 x6_1 x7_1 (wrap64 (x8_1 + 1))) = some (r1, r2, r3) := by rw [if_pos rfl] at H; exact H
      clear H
      have H := H1
      clear H1
      have H' := Aside0.mk H
      clear H
      go_wp2
      go_roundg kj2
      case measure => have := HK1.out; have := HJ2.out; omega
      case rel => exact ⟨(x5_1), (x6_1), (x7_1), (wrap64 (x8_1 + 1)), zQx11a13_, zQx11a13_, zQx11a13_, H', ⟨by have := HK1.out; have := HJ2.out; omega⟩, ⟨zQx11a9_⟩, ⟨zQx11a0_⟩⟩
     replace c7 := Bool.eq_false_iff.mpr c7
     subst c7
     have H1 : (if 0 ≤ x6_1 then (if x6_1 ≤ x8_1 then (if x8_1 ≤ (a0.size : Int) then ((basculeref21_split.f kj2 (a0.extract (x6_1 : Int).toNat (x8_1 : Int).toNat)).bind fun t160 => (if (t160.length : Int) > 0 then (if 0 < (t160.length : Int) then (if 0 < ((rdOf ByteArray.empty t160 0).size : Int) then (basculeref21_Parse.j2 kj2 a0 x5_1 x7_1 x8_1 t160 ((bt (rdOf ByteArray.empty t160 0) 0) != 35)) else (none)) else (none)) else (basculeref21_Parse.j2 kj2 a0 x5_1 x7_1 x8_1 t160 false))) else (none)) else (none)) else (none)) = some (r1, r2, r3) := by rw [if_neg (show ¬ (false = true) by decide)] at H; exact H
     clear H
     have H := H1
     clear H1
     have c8 : 0 ≤ x6_1 := znQx11_
     rw [if_pos c8] at H
     have c8b0 := eq_true c8
     have c8b1 : decide (0 ≤ x6_1) = true := decide_eq_true c8
     clear c8
     have c9 : x6_1 ≤ x8_1 := znQx11_
     rw [if_pos c9] at H
     have c9b0 := eq_true c9
     have c9b1 : decide (x6_1 ≤ x8_1) = true := decide_eq_true c9
     clear c9
     have c10 : x8_1 ≤ (a0.size : Int) := znQx11_
     rw [if_pos c10] at H
     have c10b0 := eq_true c10
     have c10b1 : decide (x8_1 ≤ (a0.size : Int)) = true := decide_eq_true c10
     clear c10
     replace H := Option.bind_eq_some_iff.mp H
     obtain ⟨t160, A110, H⟩ := H
     replace H : (if (t160.length : Int) > 0 then (if 0 < (t160.length : Int) then (if 0 < ((rdOf ByteArray.empty t160 0).size : Int) then (basculeref21_Parse.j2 kj2 a0 x5_1 x7_1 x8_1 t160 ((bt (rdOf ByteArray.empty t160 0) 0) != 35)) else (none)) else (none)) else (basculeref21_Parse.j2 kj2 a0 x5_1 x7_1 x8_1 t160 false)) = some (r1, r2, r3) := H
     have A11 := Aside0.mk A110
     clear A110
     have HC12 := Aside0.mk H
     clear H
     go_upto_region 9 with (first | ((with_reducible refine gate_callee (f := 25) rfl ?_); refine goesL_ (some 33) rfl rfl Tryz.func25 (by kernel_rfl) rfl #[.string (a0.extract (x6_1 : Int).toNat (x8_1 : Int).toNat)] rfl zQx11a1_ ?_; (with_reducible refine (basculeref21_split.calls kj2 (a0.extract (x6_1 : Int).toNat (x8_1 : Int).toNat) t160 _ A11.out).mono ?_); rintro e w13 ⟨v161, rfl, ho0, hb⟩; refine ⟨_, rfl, ?_⟩; have n0_ := Aside0.mk (Kd.R_below zQx11a9_ hb); have n1_ := Aside0.mk (Kd.R_lower ho0 (below_size zQx11a0_)); have n2_ := Aside0.mk (below_step zQx11a0_ hb); clear HO_5; clear HB; have HO_5 := n0_; have HO162 := n1_; have HB := n2_; clear n0_ n1_ n2_; (try clear hb); (try clear hb2); (try clear hk); (try clear hi); (try clear ho0)))
     (try simp only [Act.put, List.setIfInBounds_toArray, List.set_cons_zero, List.set_cons_succ])
     go_cut [43] (fun v43 wc => ∃ (kq : Nat) (x43_11 : Bool), v43 = .bool x43_11 ∧ Aside0 (basculeref21_Parse.j2 kq a0 x5_1 x7_1 x8_1 t160 x43_11 = some (r1, r2, r3)) ∧ Aside0 (kq ≤ kj2) ∧ Aside0 (Kd.R k34 34 wc w.heap.size (fun _ => True) u5 x5_1) ∧ Aside0 (Kd.R Kd.string 9 wc w.heap.size (fun _ => True) v161 t160) ∧ Aside0 (Below w.heap.size w wc))
     case first =>
      have H := HC12.out
      clear HC12
      by_cases c14 : (t160.length : Int) > 0
      rotate_left
      ·
       rw [if_neg c14] at H
       have c14b0 : decide (0 < (t160.length : Int)) = false := decide_eq_false c14
       have c14b1 : decide (0 < t160.length) = false := decide_eq_false (by omega)
       clear c14
       (first | rw [c14b0] | (simp only [i64_w, i32_w]; rw [c14b0]) | skip)
       have H' := Aside0.mk H
       clear H
       obtain ⟨Ao19, co19, eo19⟩ := Kd.R_slice HO162.out
       subst eo19
       go_wp2
       go_meet
       case rel => exact ⟨_, (false), zQx11a13_, H', ⟨by have := HK1.out; have := HJ2.out; first | omega | exact Nat.le_refl _⟩, ⟨zQx11a9_⟩, ⟨zQx11a17_⟩, ⟨zQx11a0_⟩⟩
      rw [if_pos c14] at H
      have c14b0 : decide (0 < (t160.length : Int)) = true := decide_eq_true c14
      have c14b1 : decide (0 < t160.length) = true := decide_eq_true (by omega)
      clear c14
      (first | rw [c14b0] | (simp only [i64_w, i32_w]; rw [c14b0]) | skip)
      have c15 : 0 < (t160.length : Int) := znQx11_
      rw [if_pos c15] at H
      have c15b0 : decide (0 < (t160.length : Int)) = true := decide_eq_true c15
      have c15b1 : decide (0 < t160.length) = true := decide_eq_true (by omega)
      clear c15
      have c16 : 0 < ((rdOf ByteArray.empty t160 0).size : Int) := znQx11_
      rw [if_pos c16] at H
      have c16b0 : decide (0 < ((rdOf ByteArray.empty t160 0).size : Int)) = true := decide_eq_true c16
      have c16b1 : decide (0 < (rdOf ByteArray.empty t160 0).size) = true := decide_eq_true (by omega)
      clear c16
      have H' := Aside0.mk H
      clear H
      obtain ⟨Ao18, co18, eo18⟩ := Kd.R_slice HO162.out
      subst eo18
      have p163 : 0 ≤ (0 : Int) := (by omega)
      have q163 : 0 < (t160.length : Int) := of_decide_eq_true zQx11a12_
      obtain ⟨ad163, e163, hx163_0⟩ := Kd.at_string (Kd.R_reads' HO162.out).2.2 0 p163 q163
      cases e163
      have qi163 : (0 < t160.length) = True := eq_true (by omega)
      (try rw [show ((0 : Int)).toNat = 0 from rfl] at hx163_0)
      (try rw [Addr.add_zero'] at hx163_0)
      replace p163 := eq_true p163
      replace q163 := eq_true q163
      have p17 : 0 ≤ (0 : Int) := (by omega)
      have q17 : 0 < (rdOf ByteArray.empty t160 0).size := (by have : (0 : Int) < ((rdOf ByteArray.empty t160 0).size : Int) := of_decide_eq_true zQx11a12_; omega)
      have hx17 : ∀ h : 0 < (rdOf ByteArray.empty t160 0).size, (((rdOf ByteArray.empty t160 0)[0]'h).toNat : Int) = bt (rdOf ByteArray.empty t160 0) 0 := bt_at (rdOf ByteArray.empty t160 0) 0
      clear p17
      have qi17 : (0 < ((rdOf ByteArray.empty t160 0).size : Int)) = True := eq_true (of_decide_eq_true zQx11a12_)
      replace q17 := eq_true q17
      go_wp2
      go_meet
      case rel => exact ⟨_, (((bt (rdOf ByteArray.empty t160 0) 0) != 35)), zQx11a13_, H', ⟨by have := HK1.out; have := HJ2.out; first | omega | exact Nat.le_refl _⟩, ⟨zQx11a9_⟩, ⟨zQx11a17_⟩, ⟨zQx11a0_⟩⟩
     case rest =>
      clear HC12
      try clear c1
      try clear p1
      try clear q1
      try clear hx1
      try clear qi1
      try clear c2
      try clear c2b0
      try clear p2
      try clear c4
      try clear c4b0
      try clear c5
      try clear c5b0
      try clear p6
      try clear q6
      try clear hx6
      try clear c7
      try clear c8
      try clear c8b0
      try clear c8b1
      try clear c9
      try clear c9b0
      try clear c9b1
      try clear c10
      try clear c10b0
      try clear c10b1
      try clear c14
      try clear c14b0
      try clear c14b1
      try clear c15
      try clear c15b0
      try clear c15b1
      try clear c16
      try clear c16b0
      try clear c16b1
      try clear p16
      try clear q16
      try clear hx16
      try clear qi16
      try clear p17
      try clear q17
      try clear hx17
      try clear qi17
      try clear hx163_0
      try clear p163
      try clear p17
      try clear p2
      try clear p6
      try clear q163
      try clear q17
      try clear q6
      obtain ⟨kq, x43_11, rfl, HA, HJ11, HO_5, HO_9, HB⟩ := hcut
      cases kq with
      | zero => exact absurd HA.out (by simp [basculeref21_Parse.j2])
      | succ kj11 =>
       have H := HA.out
       clear HA
       simp only [basculeref21_Parse.j2] at H
       by_cases c20 : x43_11 = true
       rotate_left
       ·
        replace c20 := Bool.eq_false_iff.mpr c20
        subst c20
        have H1 : (basculeref21_Parse.l0 kj11 a0 x5_1 (wrap64 (x8_1 + 1)) (wrap64 (x7_1 + 1)) (wrap64 (x8_1 + 1))) = some (r1, r2, r3) := by rw [if_neg (show ¬ (false = true) by decide)] at H; exact H
        clear H
        have H := H1
        clear H1
        have H' := Aside0.mk H
        clear H
        go_wp2
        go_roundg kj11
        case measure => have := HK1.out; have := HJ2.out; have := HJ11.out; omega
        case rel => exact ⟨(x5_1), (wrap64 (x8_1 + 1)), (wrap64 (x7_1 + 1)), (wrap64 (x8_1 + 1)), zQx11a13_, zQx11a13_, zQx11a13_, H', ⟨by have := HK1.out; have := HJ2.out; have := HJ11.out; omega⟩, ⟨zQx11a9_⟩, ⟨zQx11a0_⟩⟩
       subst c20
       have H1 : ((basculeref21_row.f t160).bind fun bt164 => (if bt164.2.2.2.2.2.2.2.2 = true then ((basculeref21_Error.f kj11 x5_1 bt164.1 bt164.2.1 bt164.2.2.1 bt164.2.2.2.1 bt164.2.2.2.2.1 bt164.2.2.2.2.2.1 bt164.2.2.2.2.2.2.1 bt164.2.2.2.2.2.2.2.1).bind fun t174 => (if t174 = 0 then (if x5_1.length < 1954687338268 then (basculeref21_Parse.l0 kj11 a0 (x5_1 ++ [(⟨bt164.1, bt164.2.1, bt164.2.2.1, bt164.2.2.2.1, bt164.2.2.2.2.1, bt164.2.2.2.2.2.1, bt164.2.2.2.2.2.2.1, bt164.2.2.2.2.2.2.2.1⟩ : S34)]) (wrap64 (x8_1 + 1)) (wrap64 (x7_1 + 1)) (wrap64 (x8_1 + 1))) else (none)) else (some (([] : List (S34)), x7_1, t174)))) else (some (([] : List (S34)), x7_1, 4)))) = some (r1, r2, r3) := by rw [if_pos rfl] at H; exact H
       clear H
       have H := H1
       clear H1
       replace H := Option.bind_eq_some_iff.mp H
       obtain ⟨⟨t164, t165, t166, t167, t168, t169, t170, t171, t172⟩, A210, H⟩ := H
       replace H : (if t172 = true then ((basculeref21_Error.f kj11 x5_1 t164 t165 t166 t167 t168 t169 t170 t171).bind fun t174 => (if t174 = 0 then (if x5_1.length < 1954687338268 then (basculeref21_Parse.l0 kj11 a0 (x5_1 ++ [(⟨t164, t165, t166, t167, t168, t169, t170, t171⟩ : S34)]) (wrap64 (x8_1 + 1)) (wrap64 (x7_1 + 1)) (wrap64 (x8_1 + 1))) else (none)) else (some (([] : List (S34)), x7_1, t174)))) else (some (([] : List (S34)), x7_1, 4))) = some (r1, r2, r3) := H
       have A21 := Aside0.mk A210
       clear A210
       by_cases c22 : t172 = true
       rotate_left
       ·
        replace c22 := Bool.eq_false_iff.mpr c22
        subst c22
        have H1 : (some (([] : List (S34)), x7_1, 4)) = some (r1, r2, r3) := by rw [if_neg (show ¬ (false = true) by decide)] at H; exact H
        clear H
        have H := H1
        clear H1
        simp only [Option.some.injEq, Prod.mk.injEq] at H
        obtain ⟨rfl, rfl, rfl⟩ := H
        obtain ⟨Ao40, co40, eo40⟩ := Kd.R_slice HO_9.out
        subst eo40
        go_wp2_with (first | ((with_reducible refine gate_callee (f := 26) rfl ?_); refine goesL_ (some 46) rfl rfl Tryz.func26 (by kernel_rfl) rfl #[.slice Ao40 t160.length co40] rfl zQx11a1_ ?_; (with_reducible refine (basculeref21_row.calls _ _ t160 t164 t165 t166 t167 t168 t169 t170 t171 false _ ?side1 ?side2 A21.out).mono ?_); (case side1 => repeat (first | exact (Kd.R_reads' HO_9.out).2.2 | (with_reducible refine Kd.C_alloc ?_ _) | (with_reducible refine Kd.C_drewN ?_ _) | (with_reducible refine Kd.C_drew ?_))); (case side2 => exact (Kd.R_reads' HO_9.out).2.1); rintro e w41 ⟨rfl, hb⟩; refine ⟨_, rfl, ?_⟩; have n0_ := Aside0.mk (Kd.R_below zQx11a9_ hb); have n1_ := Aside0.mk (Kd.R_below zQx11a14_ hb); have n2_ := Aside0.mk (below_step zQx11a0_ hb); clear HO_5; clear HO_9; clear HB; have HO_5 := n0_; have HO_9 := n1_; have HB := n2_; clear n0_ n1_ n2_; (try clear hb); (try clear hb2); (try clear hk); (try clear hi)) | ((with_reducible refine gate_dst (N := 10) rfl ?_); refine box_event ?hg (N := 10) ?hd (cs := #[.string (⟨#[]⟩ : ByteArray), .int .i64 0, .int .i64 0, .int .i64 0, .int .i64 0, .int .i64 0, .int .i64 0, .bool false]) (t := 34) ?hr ?_; (case hd => rfl); (case hg => rfl); (case hr => first | (go_simp; done) | (go_simp; rfl)); intro gb173 hg w42 hbox hb; have n0_ := Aside0.mk (Kd.R_below (Kd.R_elderB zQx11a9_ gb173 (Nat.le_of_eq hg.symm)) hb); have n1_ := Aside0.mk (Kd.R_below zQx11a14_ hb); have n2_ := Aside0.mk (below_step zQx11a0_ hb); have n3_ := Aside0.mk (hbox); have n4_ := Aside0.mk ((by rw [hg]; exact (below_size zQx11a0_) : w.heap.size ≤ gb173)); have n5_ := Aside0.mk ((by rw [hg]; exact (below_size zQx11a0_) : w.heap.size ≤ gb173)); clear HO_5; clear HO_9; clear HB; have HO_5 := n0_; have HO_9 := n1_; have HB := n2_; have BK173 := n3_; have GW173 := n4_; have GE173 := n5_; clear n0_ n1_ n2_ n3_ n4_ n5_; clear hb hbox hg; have hcz43_0 : w42.cell? ⟨gb173, 0, none⟩ = some (.string (⟨#[]⟩ : ByteArray)) := (blk_cell BK173.out 0).trans rfl; have hcz43_1 : w42.cell? ⟨gb173, 1, none⟩ = some (.int .i64 0) := (blk_cell BK173.out 1).trans rfl; have hcz43_2 : w42.cell? ⟨gb173, 2, none⟩ = some (.int .i64 0) := (blk_cell BK173.out 2).trans rfl; have hcz43_3 : w42.cell? ⟨gb173, 3, none⟩ = some (.int .i64 0) := (blk_cell BK173.out 3).trans rfl; have hcz43_4 : w42.cell? ⟨gb173, 4, none⟩ = some (.int .i64 0) := (blk_cell BK173.out 4).trans rfl; have hcz43_5 : w42.cell? ⟨gb173, 5, none⟩ = some (.int .i64 0) := (blk_cell BK173.out 5).trans rfl; have hcz43_6 : w42.cell? ⟨gb173, 6, none⟩ = some (.int .i64 0) := (blk_cell BK173.out 6).trans rfl; have hcz43_7 : w42.cell? ⟨gb173, 7, none⟩ = some (.bool false) := (blk_cell BK173.out 7).trans rfl; have hfz43_0 := blk_frozen BK173.out 0; have hfz43_1 := blk_frozen BK173.out 1; have hfz43_2 := blk_frozen BK173.out 2; have hfz43_3 := blk_frozen BK173.out 3; have hfz43_4 := blk_frozen BK173.out 4; have hfz43_5 := blk_frozen BK173.out 5; have hfz43_6 := blk_frozen BK173.out 6; have hfz43_7 := blk_frozen BK173.out 7))
        go_ret3
        exact ⟨_, zQx11a8_, zQx11a15_, zQx11a11_⟩
       subst c22
       have H1 : ((basculeref21_Error.f kj11 x5_1 t164 t165 t166 t167 t168 t169 t170 t171).bind fun t174 => (if t174 = 0 then (if x5_1.length < 1954687338268 then (basculeref21_Parse.l0 kj11 a0 (x5_1 ++ [(⟨t164, t165, t166, t167, t168, t169, t170, t171⟩ : S34)]) (wrap64 (x8_1 + 1)) (wrap64 (x7_1 + 1)) (wrap64 (x8_1 + 1))) else (none)) else (some (([] : List (S34)), x7_1, t174)))) = some (r1, r2, r3) := by rw [if_pos rfl] at H; exact H
       clear H
       have H := H1
       clear H1
       replace H := Option.bind_eq_some_iff.mp H
       obtain ⟨t174, A230, H⟩ := H
       replace H : (if t174 = 0 then (if x5_1.length < 1954687338268 then (basculeref21_Parse.l0 kj11 a0 (x5_1 ++ [(⟨t164, t165, t166, t167, t168, t169, t170, t171⟩ : S34)]) (wrap64 (x8_1 + 1)) (wrap64 (x7_1 + 1)) (wrap64 (x8_1 + 1))) else (none)) else (some (([] : List (S34)), x7_1, t174))) = some (r1, r2, r3) := H
       have A23 := Aside0.mk A230
       clear A230
       by_cases c24 : t174 = 0
       rotate_left
       ·
        rw [if_neg c24] at H
        have c24b0 : (t174 == 0) = false := beq_eq_false_iff_ne.mpr c24
        have c24b1 : (t174 != 0) = true := bne_iff_ne.mpr c24
        simp only [Option.some.injEq, Prod.mk.injEq] at H
        obtain ⟨rfl, rfl, rfl⟩ := H
        obtain ⟨Ao34, co34, eo34⟩ := Kd.R_slice HO_9.out
        subst eo34
        go_wp2_with (first | ((with_reducible refine gate_callee (f := 26) rfl ?_); refine goesL_ (some 46) rfl rfl Tryz.func26 (by kernel_rfl) rfl #[.slice Ao34 t160.length co34] rfl zQx11a1_ ?_; (with_reducible refine (basculeref21_row.calls _ _ t160 t164 t165 t166 t167 t168 t169 t170 t171 true _ ?side1 ?side2 A21.out).mono ?_); (case side1 => repeat (first | exact (Kd.R_reads' HO_9.out).2.2 | (with_reducible refine Kd.C_alloc ?_ _) | (with_reducible refine Kd.C_drewN ?_ _) | (with_reducible refine Kd.C_drew ?_))); (case side2 => exact (Kd.R_reads' HO_9.out).2.1); rintro e w35 ⟨rfl, hb⟩; refine ⟨_, rfl, ?_⟩; have n0_ := Aside0.mk (Kd.R_below zQx11a9_ hb); have n1_ := Aside0.mk (Kd.R_below zQx11a14_ hb); have n2_ := Aside0.mk (below_step zQx11a0_ hb); clear HO_5; clear HO_9; clear HB; have HO_5 := n0_; have HO_9 := n1_; have HB := n2_; clear n0_ n1_ n2_; (try clear hb); (try clear hb2); (try clear hk); (try clear hi)) | ((with_reducible refine gate_dst (N := 10) rfl ?_); refine box_event ?hg (N := 10) ?hd (cs := #[.string (⟨#[]⟩ : ByteArray), .int .i64 0, .int .i64 0, .int .i64 0, .int .i64 0, .int .i64 0, .int .i64 0, .bool false]) (t := 34) ?hr ?_; (case hd => rfl); (case hg => rfl); (case hr => first | (go_simp; done) | (go_simp; rfl)); intro gb173 hg w36 hbox hb; have n0_ := Aside0.mk (Kd.R_below (Kd.R_elderB zQx11a9_ gb173 (Nat.le_of_eq hg.symm)) hb); have n1_ := Aside0.mk (Kd.R_below zQx11a14_ hb); have n2_ := Aside0.mk (below_step zQx11a0_ hb); have n3_ := Aside0.mk (hbox); have n4_ := Aside0.mk ((by rw [hg]; exact (below_size zQx11a0_) : w.heap.size ≤ gb173)); have n5_ := Aside0.mk ((by rw [hg]; exact (below_size zQx11a0_) : w.heap.size ≤ gb173)); clear HO_5; clear HO_9; clear HB; have HO_5 := n0_; have HO_9 := n1_; have HB := n2_; have BK173 := n3_; have GW173 := n4_; have GE173 := n5_; clear n0_ n1_ n2_ n3_ n4_ n5_; clear hb hbox hg; have hcz37_0 : w36.cell? ⟨gb173, 0, none⟩ = some (.string (⟨#[]⟩ : ByteArray)) := (blk_cell BK173.out 0).trans rfl; have hcz37_1 : w36.cell? ⟨gb173, 1, none⟩ = some (.int .i64 0) := (blk_cell BK173.out 1).trans rfl; have hcz37_2 : w36.cell? ⟨gb173, 2, none⟩ = some (.int .i64 0) := (blk_cell BK173.out 2).trans rfl; have hcz37_3 : w36.cell? ⟨gb173, 3, none⟩ = some (.int .i64 0) := (blk_cell BK173.out 3).trans rfl; have hcz37_4 : w36.cell? ⟨gb173, 4, none⟩ = some (.int .i64 0) := (blk_cell BK173.out 4).trans rfl; have hcz37_5 : w36.cell? ⟨gb173, 5, none⟩ = some (.int .i64 0) := (blk_cell BK173.out 5).trans rfl; have hcz37_6 : w36.cell? ⟨gb173, 6, none⟩ = some (.int .i64 0) := (blk_cell BK173.out 6).trans rfl; have hcz37_7 : w36.cell? ⟨gb173, 7, none⟩ = some (.bool false) := (blk_cell BK173.out 7).trans rfl; have hfz37_0 := blk_frozen BK173.out 0; have hfz37_1 := blk_frozen BK173.out 1; have hfz37_2 := blk_frozen BK173.out 2; have hfz37_3 := blk_frozen BK173.out 3; have hfz37_4 := blk_frozen BK173.out 4; have hfz37_5 := blk_frozen BK173.out 5; have hfz37_6 := blk_frozen BK173.out 6; have hfz37_7 := blk_frozen BK173.out 7; obtain ⟨Ao38, co38, eo38⟩ := Kd.R_slice HO_5.out; subst eo38) | ((with_reducible refine gate_callee (f := 27) rfl ?_); refine goesL_ (some 54) rfl rfl Tryz.func27 (by kernel_rfl) rfl #[.slice Ao38 x5_1.length co38, .agg #[.string t164, .int .i64 t165, .int .i64 t166, .int .i64 t167, .int .i64 t168, .int .i64 t169, .int .i64 t170, .bool t171]] rfl zQx11a1_ ?_; (with_reducible refine (basculeref21_Error.calls kj11 _ _ x5_1 t164 t165 t166 t167 t168 t169 t170 t171 t174 _ ?side1 ?side2 A23.out).mono ?_); (case side1 => refine (Kd.R_reads' (e := 34) (base := w.heap.size) (ok := fun k_ => (True ∧ k_ ≠ gb173)) (n := x5_1.length) (c := co38) ?_).2.2; exact zQx11a5_); (case side2 => exact (Kd.R_reads' HO_5.out).2.1); rintro e w39 ⟨rfl, hb⟩; refine ⟨_, rfl, ?_⟩; have n0_ := Aside0.mk (Kd.R_below zQx11a5_ hb); have n1_ := Aside0.mk (Kd.R_below zQx11a10_ hb); have n2_ := Aside0.mk (blk_below (g := gb173) (o := .cells #[.string t164, .int .i64 t165, .int .i64 t166, .int .i64 t167, .int .i64 t168, .int .i64 t169, .int .i64 t170, .bool t171] 34 (0, 0)) zQx11a2_ hb); have n3_ := Aside0.mk (below_step zQx11a11_ hb); clear HO_5; clear HO_9; clear BK173; clear HB; have HO_5 := n0_; have HO_9 := n1_; have BK173 := n2_; have HB := n3_; clear n0_ n1_ n2_ n3_; (try clear hb); (try clear hb2); (try clear hk); (try clear hi)))
        go_ret3
        exact ⟨_, zQx11a8_, zQx11a15_, zQx11a11_⟩
       rw [if_pos c24] at H
       have c24b0 : (t174 == 0) = true := beq_iff_eq.mpr c24
       have c24b1 : (t174 != 0) = false := bne_eq_false_iff_eq.mpr c24
       clear c24
       have c25 : x5_1.length < 1954687338268 := znQx11_
       rw [if_pos c25] at H
       have LMc25 := Aside0.mk c25
       clear c25
       obtain ⟨y175, hy175⟩ : ∃ y_ : List (S34), y_ = (x5_1 ++ [(⟨t164, t165, t166, t167, t168, t169, t170, t171⟩ : S34)]) := ⟨_, rfl⟩
       replace H : (basculeref21_Parse.l0 kj11 a0 y175 (wrap64 (x8_1 + 1)) (wrap64 (x7_1 + 1)) (wrap64 (x8_1 + 1))) = some (r1, r2, r3) := by first | (rw [hy175]; with_reducible exact H) | (have H2_ := (Option.bind_some _ _).symm.trans H; rw [hy175]; with_reducible exact H2_) | (have H2_ := (Option.bind_some _ _).symm.trans H; with_reducible exact H2_) | with_reducible exact H | (rw [hy175]; exact H) | exact H
       have Ny175 := Aside0.mk hy175
       clear hy175
       have H' := Aside0.mk H
       clear H
       obtain ⟨Ao26, co26, eo26⟩ := Kd.R_slice HO_9.out
       subst eo26
       go_wp2_with (first | ((with_reducible refine gate_callee (f := 26) rfl ?_); refine goesL_ (some 46) rfl rfl Tryz.func26 (by kernel_rfl) rfl #[.slice Ao26 t160.length co26] rfl zQx11a1_ ?_; (with_reducible refine (basculeref21_row.calls _ _ t160 t164 t165 t166 t167 t168 t169 t170 t171 true _ ?side1 ?side2 A21.out).mono ?_); (case side1 => repeat (first | exact (Kd.R_reads' HO_9.out).2.2 | (with_reducible refine Kd.C_alloc ?_ _) | (with_reducible refine Kd.C_drewN ?_ _) | (with_reducible refine Kd.C_drew ?_))); (case side2 => exact (Kd.R_reads' HO_9.out).2.1); rintro e w27 ⟨rfl, hb⟩; refine ⟨_, rfl, ?_⟩; have n0_ := Aside0.mk (Kd.R_below zQx11a9_ hb); have n1_ := Aside0.mk (Kd.R_below zQx11a14_ hb); have n2_ := Aside0.mk (below_step zQx11a0_ hb); clear HO_5; clear HO_9; clear HB; have HO_5 := n0_; have HO_9 := n1_; have HB := n2_; clear n0_ n1_ n2_; (try clear hb); (try clear hb2); (try clear hk); (try clear hi)) | ((with_reducible refine gate_dst (N := 10) rfl ?_); refine box_event ?hg (N := 10) ?hd (cs := #[.string (⟨#[]⟩ : ByteArray), .int .i64 0, .int .i64 0, .int .i64 0, .int .i64 0, .int .i64 0, .int .i64 0, .bool false]) (t := 34) ?hr ?_; (case hd => rfl); (case hg => rfl); (case hr => first | (go_simp; done) | (go_simp; rfl)); intro gb173 hg w28 hbox hb; have n0_ := Aside0.mk (Kd.R_below (Kd.R_elderB zQx11a9_ gb173 (Nat.le_of_eq hg.symm)) hb); have n1_ := Aside0.mk (Kd.R_below zQx11a14_ hb); have n2_ := Aside0.mk (below_step zQx11a0_ hb); have n3_ := Aside0.mk (hbox); have n4_ := Aside0.mk ((by rw [hg]; exact (below_size zQx11a0_) : w.heap.size ≤ gb173)); have n5_ := Aside0.mk ((by rw [hg]; exact (below_size zQx11a0_) : w.heap.size ≤ gb173)); clear HO_5; clear HO_9; clear HB; have HO_5 := n0_; have HO_9 := n1_; have HB := n2_; have BK173 := n3_; have GW173 := n4_; have GE173 := n5_; clear n0_ n1_ n2_ n3_ n4_ n5_; clear hb hbox hg; have hcz29_0 : w28.cell? ⟨gb173, 0, none⟩ = some (.string (⟨#[]⟩ : ByteArray)) := (blk_cell BK173.out 0).trans rfl; have hcz29_1 : w28.cell? ⟨gb173, 1, none⟩ = some (.int .i64 0) := (blk_cell BK173.out 1).trans rfl; have hcz29_2 : w28.cell? ⟨gb173, 2, none⟩ = some (.int .i64 0) := (blk_cell BK173.out 2).trans rfl; have hcz29_3 : w28.cell? ⟨gb173, 3, none⟩ = some (.int .i64 0) := (blk_cell BK173.out 3).trans rfl; have hcz29_4 : w28.cell? ⟨gb173, 4, none⟩ = some (.int .i64 0) := (blk_cell BK173.out 4).trans rfl; have hcz29_5 : w28.cell? ⟨gb173, 5, none⟩ = some (.int .i64 0) := (blk_cell BK173.out 5).trans rfl; have hcz29_6 : w28.cell? ⟨gb173, 6, none⟩ = some (.int .i64 0) := (blk_cell BK173.out 6).trans rfl; have hcz29_7 : w28.cell? ⟨gb173, 7, none⟩ = some (.bool false) := (blk_cell BK173.out 7).trans rfl; have hfz29_0 := blk_frozen BK173.out 0; have hfz29_1 := blk_frozen BK173.out 1; have hfz29_2 := blk_frozen BK173.out 2; have hfz29_3 := blk_frozen BK173.out 3; have hfz29_4 := blk_frozen BK173.out 4; have hfz29_5 := blk_frozen BK173.out 5; have hfz29_6 := blk_frozen BK173.out 6; have hfz29_7 := blk_frozen BK173.out 7; obtain ⟨Ao30, co30, eo30⟩ := Kd.R_slice HO_5.out; subst eo30) | ((with_reducible refine gate_callee (f := 27) rfl ?_); refine goesL_ (some 54) rfl rfl Tryz.func27 (by kernel_rfl) rfl #[.slice Ao30 x5_1.length co30, .agg #[.string t164, .int .i64 t165, .int .i64 t166, .int .i64 t167, .int .i64 t168, .int .i64 t169, .int .i64 t170, .bool t171]] rfl zQx11a1_ ?_; (with_reducible refine (basculeref21_Error.calls kj11 _ _ x5_1 t164 t165 t166 t167 t168 t169 t170 t171 t174 _ ?side1 ?side2 A23.out).mono ?_); (case side1 => refine (Kd.R_reads' (e := 34) (base := w.heap.size) (ok := fun k_ => (True ∧ k_ ≠ gb173)) (n := x5_1.length) (c := co30) ?_).2.2; exact zQx11a5_); (case side2 => exact (Kd.R_reads' HO_5.out).2.1); rintro e w31 ⟨rfl, hb⟩; refine ⟨_, rfl, ?_⟩; have n0_ := Aside0.mk (Kd.R_below zQx11a5_ hb); have n1_ := Aside0.mk (Kd.R_below zQx11a10_ hb); have n2_ := Aside0.mk (blk_below (g := gb173) (o := .cells #[.string t164, .int .i64 t165, .int .i64 t166, .int .i64 t167, .int .i64 t168, .int .i64 t169, .int .i64 t170, .bool t171] 34 (0, 0)) zQx11a2_ hb); have n3_ := Aside0.mk (below_step zQx11a11_ hb); clear HO_5; clear HO_9; clear BK173; clear HB; have HO_5 := n0_; have HO_9 := n1_; have BK173 := n2_; have HB := n3_; clear n0_ n1_ n2_ n3_; (try clear hb); (try clear hb2); (try clear hk); (try clear hi); have hcz32_0 : w31.cell? ⟨gb173, 0, none⟩ = some (.string t164) := (blk_cell BK173.out 0).trans rfl; have hcz32_1 : w31.cell? ⟨gb173, 1, none⟩ = some (.int .i64 t165) := (blk_cell BK173.out 1).trans rfl; have hcz32_2 : w31.cell? ⟨gb173, 2, none⟩ = some (.int .i64 t166) := (blk_cell BK173.out 2).trans rfl; have hcz32_3 : w31.cell? ⟨gb173, 3, none⟩ = some (.int .i64 t167) := (blk_cell BK173.out 3).trans rfl; have hcz32_4 : w31.cell? ⟨gb173, 4, none⟩ = some (.int .i64 t168) := (blk_cell BK173.out 4).trans rfl; have hcz32_5 : w31.cell? ⟨gb173, 5, none⟩ = some (.int .i64 t169) := (blk_cell BK173.out 5).trans rfl; have hcz32_6 : w31.cell? ⟨gb173, 6, none⟩ = some (.int .i64 t170) := (blk_cell BK173.out 6).trans rfl; have hcz32_7 : w31.cell? ⟨gb173, 7, none⟩ = some (.bool t171) := (blk_cell BK173.out 7).trans rfl; have hfz32_0 := blk_frozen BK173.out 0; have hfz32_1 := blk_frozen BK173.out 1; have hfz32_2 := blk_frozen BK173.out 2; have hfz32_3 := blk_frozen BK173.out 3; have hfz32_4 := blk_frozen BK173.out 4; have hfz32_5 := blk_frozen BK173.out 5; have hfz32_6 := blk_frozen BK173.out 6; have hfz32_7 := blk_frozen BK173.out 7) | ((with_reducible refine gate_builtin (b := .append) (xs := #[.tmp 59, .tmp 61]) rfl ?_); at_builtin; refine Kd.R_append k34 (w0 := w) w.heap.size rfl (.tmp 59) (.tmp 61) 22 34 (.agg #[(.string ⟨#[]⟩), (.int .i64 0), (.int .i64 0), (.int .i64 0), (.int .i64 0), (.int .i64 0), (.int .i64 0), (.bool false)]) 72 rfl Tryz.underlying22 info34 rfl (by decide) (by omega) (.slice Ao30 x5_1.length co30) x5_1 (⟨t164, t165, t166, t167, t168, t169, t170, t171⟩ : S34) [.string t164, .int .i64 t165, .int .i64 t166, .int .i64 t167, .int .i64 t168, .int .i64 t169, .int .i64 t170, .bool t171] (fun k_ => k_ ≠ gb173) (fun _ => False) rfl rfl ?aP (fun _ hk => hk.elim) ?aF ?aO ?aB ?aS ?aL ?_; (case aP => exact k34_mkM _ _ _ (⟨t164, t165, t166, t167, t168, t169, t170, t171⟩ : S34)); (case aB => exact zQx11a11_); (case aF => exact (fun k_ hk => Kd.freshB (g := gb173) (o := .cells #[.string t164, .int .i64 t165, .int .i64 t166, .int .i64 t167, .int .i64 t168, .int .i64 t169, .int .i64 t170, .bool t171] 34 (0, 0)) zQx11a16_ k_ hk)); (case aO => exact (by (with_reducible repeat (first | apply Kd.R_alloc | apply Kd.R_drewN | apply Kd.R_drew)); exact Kd.R_mono HO_5.out (fun _ hk => hk.2))); (case aS => exact (below_size zQx11a11_)); (case aL => have := LMc25.out; omega); intro v176 w33 ho hb hg hat; rw [← Ny175.out] at ho; have n0_ := Aside0.mk (Kd.R_over' zQx11a14_ (Kd.R_typed zQx11a9_) (by decide) hg); have n1_ := Aside0.mk (blk_grown (g := gb173) (o := .cells #[.string t164, .int .i64 t165, .int .i64 t166, .int .i64 t167, .int .i64 t168, .int .i64 t169, .int .i64 t170, .bool t171] 34 (0, 0)) zQx11a16_ hg (Kd.R_away HO_5.out (fun _ hk => hk.2))); have n2_ := Aside0.mk (hb); have n3_ := Aside0.mk (ho); clear HO_9; clear BK173; clear HB; clear HO_5; have HO_9 := n0_; have BK173 := n1_; have HB := n2_; have HO177 := n3_; clear n0_ n1_ n2_ n3_; clear ho hb hg hat))
       go_roundg kj11
       case measure => have := HK1.out; have := HJ2.out; have := HJ11.out; omega
       case rel => exact ⟨(y175), (wrap64 (x8_1 + 1)), (wrap64 (x7_1 + 1)), (wrap64 (x8_1 + 1)), zQx11a13_, zQx11a13_, zQx11a13_, H', ⟨by have := HK1.out; have := HJ2.out; have := HJ11.out; omega⟩, ⟨by (with_reducible repeat (first | apply Kd.R_alloc | apply Kd.R_drewN | apply Kd.R_drew)); exact Kd.R_mono HO177.out (fun _ hk => trivial)⟩, ⟨zQx11a11_⟩⟩
def basculelaw21_awake.f  : Option (Bool) := (table_Parse.f (⟨#[116, 97, 110, 107, 47, 108, 101, 118, 101, 108, 32, 51, 32, 51, 32, 49, 54, 32, 51, 32, 49, 32, 53, 32, 114]⟩ : ByteArray)).bind fun bt178 => ((table_Parse.f (⟨#[97, 32, 49, 32, 49, 32, 48, 32, 49, 32, 48, 32, 48, 32, 114, 10, 97, 32, 49, 32, 49, 32, 48, 32, 49, 32, 48, 32, 48, 32, 114, 10]⟩ : ByteArray)).bind fun bt183 => ((table_Parse.f (⟨#[97, 32, 49]⟩ : ByteArray)).bind fun bt188 => (if (bt178.1.length : Int) = 1 then (if bt178.2.1 = 0 then (if bt178.2.2 = 0 then (if 0 < (bt178.1.length : Int) then (if ((rd_T34 bt178.1 0).f3) = 16 then (if ((rd_T34 bt178.1 0).f6) = 5 then (if bt183.2.1 = 2 then (if bt183.2.2 = 210 then (if bt188.2.1 = 1 then (some (bt188.2.2 == 4)) else (some false)) else (some false)) else (some false)) else (some false)) else (some false)) else (none)) else (some false)) else (some false)) else (some false))))
set_option maxHeartbeats 8000000 in
set_option maxRecDepth 100000 in
theorem basculelaw21_awake.calls  (r : Bool) (w : World) (hLd_ : Val.Laid w) (h : basculelaw21_awake.f  = some r) :
  Calls Tryz.prog 9 #[] w fun e w' => e = .returned (.bool r) ∧ Below w.heap.size w w' := by
 have HB := Aside0.mk (Below.refl w.heap.size w)
 have H : ((table_Parse.f (⟨#[116, 97, 110, 107, 47, 108, 101, 118, 101, 108, 32, 51, 32, 51, 32, 49, 54, 32, 51, 32, 49, 32, 53, 32, 114]⟩ : ByteArray)).bind fun bt178 => ((table_Parse.f (⟨#[97, 32, 49, 32, 49, 32, 48, 32, 49, 32, 48, 32, 48, 32, 114, 10, 97, 32, 49, 32, 49, 32, 48, 32, 49, 32, 48, 32, 48, 32, 114, 10]⟩ : ByteArray)).bind fun bt183 => ((table_Parse.f (⟨#[97, 32, 49]⟩ : ByteArray)).bind fun bt188 => (if (bt178.1.length : Int) = 1 then (if bt178.2.1 = 0 then (if bt178.2.2 = 0 then (if 0 < (bt178.1.length : Int) then (if ((rd_T34 bt178.1 0).f3) = 16 then (if ((rd_T34 bt178.1 0).f6) = 5 then (if bt183.2.1 = 2 then (if bt183.2.2 = 210 then (if bt188.2.1 = 1 then (some (bt188.2.2 == 4)) else (some false)) else (some false)) else (some false)) else (some false)) else (some false)) else (none)) else (some false)) else (some false)) else (some false))))) = some r := h
 clear h
 replace H := Option.bind_eq_some_iff.mp H
 obtain ⟨⟨t178, t179, t180⟩, A10, H⟩ := H
 replace H : ((table_Parse.f (⟨#[97, 32, 49, 32, 49, 32, 48, 32, 49, 32, 48, 32, 48, 32, 114, 10, 97, 32, 49, 32, 49, 32, 48, 32, 49, 32, 48, 32, 48, 32, 114, 10]⟩ : ByteArray)).bind fun bt183 => ((table_Parse.f (⟨#[97, 32, 49]⟩ : ByteArray)).bind fun bt188 => (if (t178.length : Int) = 1 then (if t179 = 0 then (if t180 = 0 then (if 0 < (t178.length : Int) then (if ((rd_T34 t178 0).f3) = 16 then (if ((rd_T34 t178 0).f6) = 5 then (if bt183.2.1 = 2 then (if bt183.2.2 = 210 then (if bt188.2.1 = 1 then (some (bt188.2.2 == 4)) else (some false)) else (some false)) else (some false)) else (some false)) else (some false)) else (none)) else (some false)) else (some false)) else (some false)))) = some r := H
 have A1 := Aside0.mk A10
 clear A10
 replace H := Option.bind_eq_some_iff.mp H
 obtain ⟨⟨t183, t184, t185⟩, A20, H⟩ := H
 replace H : ((table_Parse.f (⟨#[97, 32, 49]⟩ : ByteArray)).bind fun bt188 => (if (t178.length : Int) = 1 then (if t179 = 0 then (if t180 = 0 then (if 0 < (t178.length : Int) then (if ((rd_T34 t178 0).f3) = 16 then (if ((rd_T34 t178 0).f6) = 5 then (if t184 = 2 then (if t185 = 210 then (if bt188.2.1 = 1 then (some (bt188.2.2 == 4)) else (some false)) else (some false)) else (some false)) else (some false)) else (some false)) else (none)) else (some false)) else (some false)) else (some false))) = some r := H
 have A2 := Aside0.mk A20
 clear A20
 replace H := Option.bind_eq_some_iff.mp H
 obtain ⟨⟨t188, t189, t190⟩, A30, H⟩ := H
 replace H : (if (t178.length : Int) = 1 then (if t179 = 0 then (if t180 = 0 then (if 0 < (t178.length : Int) then (if ((rd_T34 t178 0).f3) = 16 then (if ((rd_T34 t178 0).f6) = 5 then (if t184 = 2 then (if t185 = 210 then (if t189 = 1 then (some (t190 == 4)) else (some false)) else (some false)) else (some false)) else (some false)) else (some false)) else (none)) else (some false)) else (some false)) else (some false)) = some r := H
 have A3 := Aside0.mk A30
 clear A30
 by_cases c4 : (t178.length : Int) = 1
 rotate_left
 ·
  rw [if_neg c4] at H
  have c4b0 : ((t178.length : Int) == 1) = false := beq_eq_false_iff_ne.mpr c4
  have c4b1 : ((t178.length : Int) != 1) = true := bne_iff_ne.mpr c4
  obtain rfl := Option.some.inj H
  go_enter Tryz.func9, Tryz.ntmps9
  go_wp2_with (first | ((with_reducible refine gate_callee (f := 7) rfl ?_); refine goesL_ (some 11) rfl rfl Tryz.func7 (by kernel_rfl) rfl #[.string (⟨#[116, 97, 110, 107, 47, 108, 101, 118, 101, 108, 32, 51, 32, 51, 32, 49, 54, 32, 51, 32, 49, 32, 53, 32, 114]⟩ : ByteArray)] rfl zQx11a1_ ?_; (with_reducible refine (table_Parse.calls (⟨#[116, 97, 110, 107, 47, 108, 101, 118, 101, 108, 32, 51, 32, 51, 32, 49, 54, 32, 51, 32, 49, 32, 53, 32, 114]⟩ : ByteArray) t178 t179 t180 _ (Val.Laid.below hLd_ zQx11a0_) A1.out).mono ?_); rintro e w45 ⟨v181, rfl, ho0, hb⟩; refine ⟨_, rfl, ?_⟩; have n0_ := Aside0.mk (Kd.R_lower ho0 (below_size zQx11a0_)); have n1_ := Aside0.mk (below_step zQx11a0_ hb); clear HB; have HO182 := n0_; have HB := n1_; clear n0_ n1_; (try clear hb); (try clear hb2); (try clear hk); (try clear hi); (try clear ho0)) | ((with_reducible refine gate_callee (f := 7) rfl ?_); refine goesL_ (some 16) rfl rfl Tryz.func7 (by kernel_rfl) rfl #[.string (⟨#[97, 32, 49, 32, 49, 32, 48, 32, 49, 32, 48, 32, 48, 32, 114, 10, 97, 32, 49, 32, 49, 32, 48, 32, 49, 32, 48, 32, 48, 32, 114, 10]⟩ : ByteArray)] rfl zQx11a1_ ?_; (with_reducible refine (table_Parse.calls (⟨#[97, 32, 49, 32, 49, 32, 48, 32, 49, 32, 48, 32, 48, 32, 114, 10, 97, 32, 49, 32, 49, 32, 48, 32, 49, 32, 48, 32, 48, 32, 114, 10]⟩ : ByteArray) t183 t184 t185 _ (Val.Laid.below hLd_ zQx11a0_) A2.out).mono ?_); rintro e w46 ⟨v186, rfl, ho0, hb⟩; refine ⟨_, rfl, ?_⟩; have n0_ := Aside0.mk (Kd.R_elder' zQx11a3_ (Kd.R_base ho0) hb); have n1_ := Aside0.mk (Kd.R_lower (Kd.R_new' ho0 (Kd.R_lt zQx11a3_)) (below_size zQx11a0_)); have n2_ := Aside0.mk (below_step zQx11a0_ hb); clear HO182; clear HB; have HO182 := n0_; have HO187 := n1_; have HB := n2_; clear n0_ n1_ n2_; (try clear hb); (try clear hb2); (try clear hk); (try clear hi); (try clear ho0)) | ((with_reducible refine gate_callee (f := 7) rfl ?_); refine goesL_ (some 21) rfl rfl Tryz.func7 (by kernel_rfl) rfl #[.string (⟨#[97, 32, 49]⟩ : ByteArray)] rfl zQx11a1_ ?_; (with_reducible refine (table_Parse.calls (⟨#[97, 32, 49]⟩ : ByteArray) t188 t189 t190 _ (Val.Laid.below hLd_ zQx11a0_) A3.out).mono ?_); rintro e w47 ⟨v191, rfl, ho0, hb⟩; refine ⟨_, rfl, ?_⟩; have n0_ := Aside0.mk (Kd.R_elder' zQx11a3_ (Kd.R_base ho0) hb); have n1_ := Aside0.mk (Kd.R_elder' zQx11a7_ (Kd.R_base ho0) hb); have n2_ := Aside0.mk (Kd.R_lower (Kd.R_new' (Kd.R_new' ho0 (Kd.R_lt zQx11a3_)) (Kd.R_lt zQx11a7_)) (below_size zQx11a0_)); have n3_ := Aside0.mk (below_step zQx11a0_ hb); clear HO182; clear HO187; clear HB; have HO182 := n0_; have HO187 := n1_; have HO192 := n2_; have HB := n3_; clear n0_ n1_ n2_ n3_; (try clear hb); (try clear hb2); (try clear hk); (try clear hi); (try clear ho0); obtain ⟨Ao48, co48, eo48⟩ := Kd.R_slice HO182.out; subst eo48))
  go_ret
  exact ⟨zQx11a8_, zQx11a0_⟩
 rw [if_pos c4] at H
 have c4b0 : ((t178.length : Int) == 1) = true := beq_iff_eq.mpr c4
 have c4b1 : ((t178.length : Int) != 1) = false := bne_eq_false_iff_eq.mpr c4
 clear c4
 by_cases c5 : t179 = 0
 rotate_left
 ·
  rw [if_neg c5] at H
  have c5b0 : (t179 == 0) = false := beq_eq_false_iff_ne.mpr c5
  have c5b1 : (t179 != 0) = true := bne_iff_ne.mpr c5
  obtain rfl := Option.some.inj H
  go_enter Tryz.func9, Tryz.ntmps9
  go_wp2_with (first | ((with_reducible refine gate_callee (f := 7) rfl ?_); refine goesL_ (some 11) rfl rfl Tryz.func7 (by kernel_rfl) rfl #[.string (⟨#[116, 97, 110, 107, 47, 108, 101, 118, 101, 108, 32, 51, 32, 51, 32, 49, 54, 32, 51, 32, 49, 32, 53, 32, 114]⟩ : ByteArray)] rfl zQx11a1_ ?_; (with_reducible refine (table_Parse.calls (⟨#[116, 97, 110, 107, 47, 108, 101, 118, 101, 108, 32, 51, 32, 51, 32, 49, 54, 32, 51, 32, 49, 32, 53, 32, 114]⟩ : ByteArray) t178 t179 t180 _ (Val.Laid.below hLd_ zQx11a0_) A1.out).mono ?_); rintro e w41 ⟨v181, rfl, ho0, hb⟩; refine ⟨_, rfl, ?_⟩; have n0_ := Aside0.mk (Kd.R_lower ho0 (below_size zQx11a0_)); have n1_ := Aside0.mk (below_step zQx11a0_ hb); clear HB; have HO182 := n0_; have HB := n1_; clear n0_ n1_; (try clear hb); (try clear hb2); (try clear hk); (try clear hi); (try clear ho0)) | ((with_reducible refine gate_callee (f := 7) rfl ?_); refine goesL_ (some 16) rfl rfl Tryz.func7 (by kernel_rfl) rfl #[.string (⟨#[97, 32, 49, 32, 49, 32, 48, 32, 49, 32, 48, 32, 48, 32, 114, 10, 97, 32, 49, 32, 49, 32, 48, 32, 49, 32, 48, 32, 48, 32, 114, 10]⟩ : ByteArray)] rfl zQx11a1_ ?_; (with_reducible refine (table_Parse.calls (⟨#[97, 32, 49, 32, 49, 32, 48, 32, 49, 32, 48, 32, 48, 32, 114, 10, 97, 32, 49, 32, 49, 32, 48, 32, 49, 32, 48, 32, 48, 32, 114, 10]⟩ : ByteArray) t183 t184 t185 _ (Val.Laid.below hLd_ zQx11a0_) A2.out).mono ?_); rintro e w42 ⟨v186, rfl, ho0, hb⟩; refine ⟨_, rfl, ?_⟩; have n0_ := Aside0.mk (Kd.R_elder' zQx11a3_ (Kd.R_base ho0) hb); have n1_ := Aside0.mk (Kd.R_lower (Kd.R_new' ho0 (Kd.R_lt zQx11a3_)) (below_size zQx11a0_)); have n2_ := Aside0.mk (below_step zQx11a0_ hb); clear HO182; clear HB; have HO182 := n0_; have HO187 := n1_; have HB := n2_; clear n0_ n1_ n2_; (try clear hb); (try clear hb2); (try clear hk); (try clear hi); (try clear ho0)) | ((with_reducible refine gate_callee (f := 7) rfl ?_); refine goesL_ (some 21) rfl rfl Tryz.func7 (by kernel_rfl) rfl #[.string (⟨#[97, 32, 49]⟩ : ByteArray)] rfl zQx11a1_ ?_; (with_reducible refine (table_Parse.calls (⟨#[97, 32, 49]⟩ : ByteArray) t188 t189 t190 _ (Val.Laid.below hLd_ zQx11a0_) A3.out).mono ?_); rintro e w43 ⟨v191, rfl, ho0, hb⟩; refine ⟨_, rfl, ?_⟩; have n0_ := Aside0.mk (Kd.R_elder' zQx11a3_ (Kd.R_base ho0) hb); have n1_ := Aside0.mk (Kd.R_elder' zQx11a7_ (Kd.R_base ho0) hb); have n2_ := Aside0.mk (Kd.R_lower (Kd.R_new' (Kd.R_new' ho0 (Kd.R_lt zQx11a3_)) (Kd.R_lt zQx11a7_)) (below_size zQx11a0_)); have n3_ := Aside0.mk (below_step zQx11a0_ hb); clear HO182; clear HO187; clear HB; have HO182 := n0_; have HO187 := n1_; have HO192 := n2_; have HB := n3_; clear n0_ n1_ n2_ n3_; (try clear hb); (try clear hb2); (try clear hk); (try clear hi); (try clear ho0); obtain ⟨Ao44, co44, eo44⟩ := Kd.R_slice HO182.out; subst eo44))
  go_ret
  exact ⟨zQx11a8_, zQx11a0_⟩
 rw [if_pos c5] at H
 have c5b0 : (t179 == 0) = true := beq_iff_eq.mpr c5
 have c5b1 : (t179 != 0) = false := bne_eq_false_iff_eq.mpr c5
 clear c5
 by_cases c6 : t180 = 0
 rotate_left
 ·
  rw [if_neg c6] at H
  have c6b0 : (t180 == 0) = false := beq_eq_false_iff_ne.mpr c6
  have c6b1 : (t180 != 0) = true := bne_iff_ne.mpr c6
  obtain rfl := Option.some.inj H
  go_enter Tryz.func9, Tryz.ntmps9
  go_wp2_with (first | ((with_reducible refine gate_callee (f := 7) rfl ?_); refine goesL_ (some 11) rfl rfl Tryz.func7 (by kernel_rfl) rfl #[.string (⟨#[116, 97, 110, 107, 47, 108, 101, 118, 101, 108, 32, 51, 32, 51, 32, 49, 54, 32, 51, 32, 49, 32, 53, 32, 114]⟩ : ByteArray)] rfl zQx11a1_ ?_; (with_reducible refine (table_Parse.calls (⟨#[116, 97, 110, 107, 47, 108, 101, 118, 101, 108, 32, 51, 32, 51, 32, 49, 54, 32, 51, 32, 49, 32, 53, 32, 114]⟩ : ByteArray) t178 t179 t180 _ (Val.Laid.below hLd_ zQx11a0_) A1.out).mono ?_); rintro e w37 ⟨v181, rfl, ho0, hb⟩; refine ⟨_, rfl, ?_⟩; have n0_ := Aside0.mk (Kd.R_lower ho0 (below_size zQx11a0_)); have n1_ := Aside0.mk (below_step zQx11a0_ hb); clear HB; have HO182 := n0_; have HB := n1_; clear n0_ n1_; (try clear hb); (try clear hb2); (try clear hk); (try clear hi); (try clear ho0)) | ((with_reducible refine gate_callee (f := 7) rfl ?_); refine goesL_ (some 16) rfl rfl Tryz.func7 (by kernel_rfl) rfl #[.string (⟨#[97, 32, 49, 32, 49, 32, 48, 32, 49, 32, 48, 32, 48, 32, 114, 10, 97, 32, 49, 32, 49, 32, 48, 32, 49, 32, 48, 32, 48, 32, 114, 10]⟩ : ByteArray)] rfl zQx11a1_ ?_; (with_reducible refine (table_Parse.calls (⟨#[97, 32, 49, 32, 49, 32, 48, 32, 49, 32, 48, 32, 48, 32, 114, 10, 97, 32, 49, 32, 49, 32, 48, 32, 49, 32, 48, 32, 48, 32, 114, 10]⟩ : ByteArray) t183 t184 t185 _ (Val.Laid.below hLd_ zQx11a0_) A2.out).mono ?_); rintro e w38 ⟨v186, rfl, ho0, hb⟩; refine ⟨_, rfl, ?_⟩; have n0_ := Aside0.mk (Kd.R_elder' zQx11a3_ (Kd.R_base ho0) hb); have n1_ := Aside0.mk (Kd.R_lower (Kd.R_new' ho0 (Kd.R_lt zQx11a3_)) (below_size zQx11a0_)); have n2_ := Aside0.mk (below_step zQx11a0_ hb); clear HO182; clear HB; have HO182 := n0_; have HO187 := n1_; have HB := n2_; clear n0_ n1_ n2_; (try clear hb); (try clear hb2); (try clear hk); (try clear hi); (try clear ho0)) | ((with_reducible refine gate_callee (f := 7) rfl ?_); refine goesL_ (some 21) rfl rfl Tryz.func7 (by kernel_rfl) rfl #[.string (⟨#[97, 32, 49]⟩ : ByteArray)] rfl zQx11a1_ ?_; (with_reducible refine (table_Parse.calls (⟨#[97, 32, 49]⟩ : ByteArray) t188 t189 t190 _ (Val.Laid.below hLd_ zQx11a0_) A3.out).mono ?_); rintro e w39 ⟨v191, rfl, ho0, hb⟩; refine ⟨_, rfl, ?_⟩; have n0_ := Aside0.mk (Kd.R_elder' zQx11a3_ (Kd.R_base ho0) hb); have n1_ := Aside0.mk (Kd.R_elder' zQx11a7_ (Kd.R_base ho0) hb); have n2_ := Aside0.mk (Kd.R_lower (Kd.R_new' (Kd.R_new' ho0 (Kd.R_lt zQx11a3_)) (Kd.R_lt zQx11a7_)) (below_size zQx11a0_)); have n3_ := Aside0.mk (below_step zQx11a0_ hb); clear HO182; clear HO187; clear HB; have HO182 := n0_; have HO187 := n1_; have HO192 := n2_; have HB := n3_; clear n0_ n1_ n2_ n3_; (try clear hb); (try clear hb2); (try clear hk); (try clear hi); (try clear ho0); obtain ⟨Ao40, co40, eo40⟩ := Kd.R_slice HO182.out; subst eo40))
  go_ret
  exact ⟨zQx11a8_, zQx11a0_⟩
 rw [if_pos c6] at H
 have c6b0 : (t180 == 0) = true := beq_iff_eq.mpr c6
 have c6b1 : (t180 != 0) = false := bne_eq_false_iff_eq.mpr c6
 clear c6
 have c7 : 0 < (t178.length : Int) := znQx11_
 rw [if_pos c7] at H
 have c7b0 : decide (0 < (t178.length : Int)) = true := decide_eq_true c7
 have c7b1 : decide (0 < t178.length) = true := decide_eq_true (by omega)
 clear c7
 by_cases c8 : ((rd_T34 t178 0).f3) = 16
 rotate_left
 ·
  rw [if_neg c8] at H
  have c8b0 : (((rd_T34 t178 0).f3) == 16) = false := beq_eq_false_iff_ne.mpr c8
  have c8b1 : (((rd_T34 t178 0).f3) != 16) = true := bne_iff_ne.mpr c8
  obtain rfl := Option.some.inj H
  go_enter Tryz.func9, Tryz.ntmps9
  go_wp2_with (first | ((with_reducible refine gate_callee (f := 7) rfl ?_); refine goesL_ (some 11) rfl rfl Tryz.func7 (by kernel_rfl) rfl #[.string (⟨#[116, 97, 110, 107, 47, 108, 101, 118, 101, 108, 32, 51, 32, 51, 32, 49, 54, 32, 51, 32, 49, 32, 53, 32, 114]⟩ : ByteArray)] rfl zQx11a1_ ?_; (with_reducible refine (table_Parse.calls (⟨#[116, 97, 110, 107, 47, 108, 101, 118, 101, 108, 32, 51, 32, 51, 32, 49, 54, 32, 51, 32, 49, 32, 53, 32, 114]⟩ : ByteArray) t178 t179 t180 _ (Val.Laid.below hLd_ zQx11a0_) A1.out).mono ?_); rintro e w33 ⟨v181, rfl, ho0, hb⟩; refine ⟨_, rfl, ?_⟩; have n0_ := Aside0.mk (Kd.R_lower ho0 (below_size zQx11a0_)); have n1_ := Aside0.mk (below_step zQx11a0_ hb); clear HB; have HO182 := n0_; have HB := n1_; clear n0_ n1_; (try clear hb); (try clear hb2); (try clear hk); (try clear hi); (try clear ho0)) | ((with_reducible refine gate_callee (f := 7) rfl ?_); refine goesL_ (some 16) rfl rfl Tryz.func7 (by kernel_rfl) rfl #[.string (⟨#[97, 32, 49, 32, 49, 32, 48, 32, 49, 32, 48, 32, 48, 32, 114, 10, 97, 32, 49, 32, 49, 32, 48, 32, 49, 32, 48, 32, 48, 32, 114, 10]⟩ : ByteArray)] rfl zQx11a1_ ?_; (with_reducible refine (table_Parse.calls (⟨#[97, 32, 49, 32, 49, 32, 48, 32, 49, 32, 48, 32, 48, 32, 114, 10, 97, 32, 49, 32, 49, 32, 48, 32, 49, 32, 48, 32, 48, 32, 114, 10]⟩ : ByteArray) t183 t184 t185 _ (Val.Laid.below hLd_ zQx11a0_) A2.out).mono ?_); rintro e w34 ⟨v186, rfl, ho0, hb⟩; refine ⟨_, rfl, ?_⟩; have n0_ := Aside0.mk (Kd.R_elder' zQx11a3_ (Kd.R_base ho0) hb); have n1_ := Aside0.mk (Kd.R_lower (Kd.R_new' ho0 (Kd.R_lt zQx11a3_)) (below_size zQx11a0_)); have n2_ := Aside0.mk (below_step zQx11a0_ hb); clear HO182; clear HB; have HO182 := n0_; have HO187 := n1_; have HB := n2_; clear n0_ n1_ n2_; (try clear hb); (try clear hb2); (try clear hk); (try clear hi); (try clear ho0)) | ((with_reducible refine gate_callee (f := 7) rfl ?_); refine goesL_ (some 21) rfl rfl Tryz.func7 (by kernel_rfl) rfl #[.string (⟨#[97, 32, 49]⟩ : ByteArray)] rfl zQx11a1_ ?_; (with_reducible refine (table_Parse.calls (⟨#[97, 32, 49]⟩ : ByteArray) t188 t189 t190 _ (Val.Laid.below hLd_ zQx11a0_) A3.out).mono ?_); rintro e w35 ⟨v191, rfl, ho0, hb⟩; refine ⟨_, rfl, ?_⟩; have n0_ := Aside0.mk (Kd.R_elder' zQx11a3_ (Kd.R_base ho0) hb); have n1_ := Aside0.mk (Kd.R_elder' zQx11a7_ (Kd.R_base ho0) hb); have n2_ := Aside0.mk (Kd.R_lower (Kd.R_new' (Kd.R_new' ho0 (Kd.R_lt zQx11a3_)) (Kd.R_lt zQx11a7_)) (below_size zQx11a0_)); have n3_ := Aside0.mk (below_step zQx11a0_ hb); clear HO182; clear HO187; clear HB; have HO182 := n0_; have HO187 := n1_; have HO192 := n2_; have HB := n3_; clear n0_ n1_ n2_ n3_; (try clear hb); (try clear hb2); (try clear hk); (try clear hi); (try clear ho0); obtain ⟨Ao36, co36, eo36⟩ := Kd.R_slice HO182.out; subst eo36; have p193 : 0 ≤ (0 : Int) := (by omega); have q193 : 0 < (t178.length : Int) := of_decide_eq_true zQx11a12_; obtain ⟨ad193, e193, hx193_0, hx193_1, hx193_2, hx193_3, hx193_4, hx193_5, hx193_6, hx193_7⟩ := at_T34 (Kd.R_reads' HO182.out).2.2 0 p193 q193; cases e193; have qi193 : (0 < t178.length) = True := eq_true (by omega); (try rw [show ((0 : Int)).toNat = 0 from rfl] at hx193_0); (try rw [show 0 * 8 = 0 from rfl] at hx193_0); (try rw [Addr.add_zero'] at hx193_0); (try rw [show ((0 : Int)).toNat = 0 from rfl] at hx193_1); (try rw [show 0 * 8 = 0 from rfl] at hx193_1); (try rw [Addr.add_zero'] at hx193_1); (try rw [show ((0 : Int)).toNat = 0 from rfl] at hx193_2); (try rw [show 0 * 8 = 0 from rfl] at hx193_2); (try rw [Addr.add_zero'] at hx193_2); (try rw [show ((0 : Int)).toNat = 0 from rfl] at hx193_3); (try rw [show 0 * 8 = 0 from rfl] at hx193_3); (try rw [Addr.add_zero'] at hx193_3); (try rw [show ((0 : Int)).toNat = 0 from rfl] at hx193_4); (try rw [show 0 * 8 = 0 from rfl] at hx193_4); (try rw [Addr.add_zero'] at hx193_4); (try rw [show ((0 : Int)).toNat = 0 from rfl] at hx193_5); (try rw [show 0 * 8 = 0 from rfl] at hx193_5); (try rw [Addr.add_zero'] at hx193_5); (try rw [show ((0 : Int)).toNat = 0 from rfl] at hx193_6); (try rw [show 0 * 8 = 0 from rfl] at hx193_6); (try rw [Addr.add_zero'] at hx193_6); (try rw [show ((0 : Int)).toNat = 0 from rfl] at hx193_7); (try rw [show 0 * 8 = 0 from rfl] at hx193_7); (try rw [Addr.add_zero'] at hx193_7); replace p193 := eq_true p193; replace q193 := eq_true q193))
  go_ret
  exact ⟨zQx11a8_, zQx11a0_⟩
 rw [if_pos c8] at H
 have c8b0 : (((rd_T34 t178 0).f3) == 16) = true := beq_iff_eq.mpr c8
 have c8b1 : (((rd_T34 t178 0).f3) != 16) = false := bne_eq_false_iff_eq.mpr c8
 clear c8
 by_cases c9 : ((rd_T34 t178 0).f6) = 5
 rotate_left
 ·
  rw [if_neg c9] at H
  have c9b0 : (((rd_T34 t178 0).f6) == 5) = false := beq_eq_false_iff_ne.mpr c9
  have c9b1 : (((rd_T34 t178 0).f6) != 5) = true := bne_iff_ne.mpr c9
  obtain rfl := Option.some.inj H
  go_enter Tryz.func9, Tryz.ntmps9
  go_wp2_with (first | ((with_reducible refine gate_callee (f := 7) rfl ?_); refine goesL_ (some 11) rfl rfl Tryz.func7 (by kernel_rfl) rfl #[.string (⟨#[116, 97, 110, 107, 47, 108, 101, 118, 101, 108, 32, 51, 32, 51, 32, 49, 54, 32, 51, 32, 49, 32, 53, 32, 114]⟩ : ByteArray)] rfl zQx11a1_ ?_; (with_reducible refine (table_Parse.calls (⟨#[116, 97, 110, 107, 47, 108, 101, 118, 101, 108, 32, 51, 32, 51, 32, 49, 54, 32, 51, 32, 49, 32, 53, 32, 114]⟩ : ByteArray) t178 t179 t180 _ (Val.Laid.below hLd_ zQx11a0_) A1.out).mono ?_); rintro e w29 ⟨v181, rfl, ho0, hb⟩; refine ⟨_, rfl, ?_⟩; have n0_ := Aside0.mk (Kd.R_lower ho0 (below_size zQx11a0_)); have n1_ := Aside0.mk (below_step zQx11a0_ hb); clear HB; have HO182 := n0_; have HB := n1_; clear n0_ n1_; (try clear hb); (try clear hb2); (try clear hk); (try clear hi); (try clear ho0)) | ((with_reducible refine gate_callee (f := 7) rfl ?_); refine goesL_ (some 16) rfl rfl Tryz.func7 (by kernel_rfl) rfl #[.string (⟨#[97, 32, 49, 32, 49, 32, 48, 32, 49, 32, 48, 32, 48, 32, 114, 10, 97, 32, 49, 32, 49, 32, 48, 32, 49, 32, 48, 32, 48, 32, 114, 10]⟩ : ByteArray)] rfl zQx11a1_ ?_; (with_reducible refine (table_Parse.calls (⟨#[97, 32, 49, 32, 49, 32, 48, 32, 49, 32, 48, 32, 48, 32, 114, 10, 97, 32, 49, 32, 49, 32, 48, 32, 49, 32, 48, 32, 48, 32, 114, 10]⟩ : ByteArray) t183 t184 t185 _ (Val.Laid.below hLd_ zQx11a0_) A2.out).mono ?_); rintro e w30 ⟨v186, rfl, ho0, hb⟩; refine ⟨_, rfl, ?_⟩; have n0_ := Aside0.mk (Kd.R_elder' zQx11a3_ (Kd.R_base ho0) hb); have n1_ := Aside0.mk (Kd.R_lower (Kd.R_new' ho0 (Kd.R_lt zQx11a3_)) (below_size zQx11a0_)); have n2_ := Aside0.mk (below_step zQx11a0_ hb); clear HO182; clear HB; have HO182 := n0_; have HO187 := n1_; have HB := n2_; clear n0_ n1_ n2_; (try clear hb); (try clear hb2); (try clear hk); (try clear hi); (try clear ho0)) | ((with_reducible refine gate_callee (f := 7) rfl ?_); refine goesL_ (some 21) rfl rfl Tryz.func7 (by kernel_rfl) rfl #[.string (⟨#[97, 32, 49]⟩ : ByteArray)] rfl zQx11a1_ ?_; (with_reducible refine (table_Parse.calls (⟨#[97, 32, 49]⟩ : ByteArray) t188 t189 t190 _ (Val.Laid.below hLd_ zQx11a0_) A3.out).mono ?_); rintro e w31 ⟨v191, rfl, ho0, hb⟩; refine ⟨_, rfl, ?_⟩; have n0_ := Aside0.mk (Kd.R_elder' zQx11a3_ (Kd.R_base ho0) hb); have n1_ := Aside0.mk (Kd.R_elder' zQx11a7_ (Kd.R_base ho0) hb); have n2_ := Aside0.mk (Kd.R_lower (Kd.R_new' (Kd.R_new' ho0 (Kd.R_lt zQx11a3_)) (Kd.R_lt zQx11a7_)) (below_size zQx11a0_)); have n3_ := Aside0.mk (below_step zQx11a0_ hb); clear HO182; clear HO187; clear HB; have HO182 := n0_; have HO187 := n1_; have HO192 := n2_; have HB := n3_; clear n0_ n1_ n2_ n3_; (try clear hb); (try clear hb2); (try clear hk); (try clear hi); (try clear ho0); obtain ⟨Ao32, co32, eo32⟩ := Kd.R_slice HO182.out; subst eo32; have p193 : 0 ≤ (0 : Int) := (by omega); have q193 : 0 < (t178.length : Int) := of_decide_eq_true zQx11a12_; obtain ⟨ad193, e193, hx193_0, hx193_1, hx193_2, hx193_3, hx193_4, hx193_5, hx193_6, hx193_7⟩ := at_T34 (Kd.R_reads' HO182.out).2.2 0 p193 q193; cases e193; have qi193 : (0 < t178.length) = True := eq_true (by omega); (try rw [show ((0 : Int)).toNat = 0 from rfl] at hx193_0); (try rw [show 0 * 8 = 0 from rfl] at hx193_0); (try rw [Addr.add_zero'] at hx193_0); (try rw [show ((0 : Int)).toNat = 0 from rfl] at hx193_1); (try rw [show 0 * 8 = 0 from rfl] at hx193_1); (try rw [Addr.add_zero'] at hx193_1); (try rw [show ((0 : Int)).toNat = 0 from rfl] at hx193_2); (try rw [show 0 * 8 = 0 from rfl] at hx193_2); (try rw [Addr.add_zero'] at hx193_2); (try rw [show ((0 : Int)).toNat = 0 from rfl] at hx193_3); (try rw [show 0 * 8 = 0 from rfl] at hx193_3); (try rw [Addr.add_zero'] at hx193_3); (try rw [show ((0 : Int)).toNat = 0 from rfl] at hx193_4); (try rw [show 0 * 8 = 0 from rfl] at hx193_4); (try rw [Addr.add_zero'] at hx193_4); (try rw [show ((0 : Int)).toNat = 0 from rfl] at hx193_5); (try rw [show 0 * 8 = 0 from rfl] at hx193_5); (try rw [Addr.add_zero'] at hx193_5); (try rw [show ((0 : Int)).toNat = 0 from rfl] at hx193_6); (try rw [show 0 * 8 = 0 from rfl] at hx193_6); (try rw [Addr.add_zero'] at hx193_6); (try rw [show ((0 : Int)).toNat = 0 from rfl] at hx193_7); (try rw [show 0 * 8 = 0 from rfl] at hx193_7); (try rw [Addr.add_zero'] at hx193_7); replace p193 := eq_true p193; replace q193 := eq_true q193; have p194 : 0 ≤ (0 : Int) := (by omega); have q194 : 0 < (t178.length : Int) := of_decide_eq_true zQx11a12_; obtain ⟨ad194, e194, hx194_0, hx194_1, hx194_2, hx194_3, hx194_4, hx194_5, hx194_6, hx194_7⟩ := at_T34 (Kd.R_reads' HO182.out).2.2 0 p194 q194; obtain rfl : ad193 = ad194 := (by injection e194); have qi194 : (0 < t178.length) = True := eq_true (by omega); (try rw [show ((0 : Int)).toNat = 0 from rfl] at hx194_0); (try rw [show 0 * 8 = 0 from rfl] at hx194_0); (try rw [Addr.add_zero'] at hx194_0); (try rw [show ((0 : Int)).toNat = 0 from rfl] at hx194_1); (try rw [show 0 * 8 = 0 from rfl] at hx194_1); (try rw [Addr.add_zero'] at hx194_1); (try rw [show ((0 : Int)).toNat = 0 from rfl] at hx194_2); (try rw [show 0 * 8 = 0 from rfl] at hx194_2); (try rw [Addr.add_zero'] at hx194_2); (try rw [show ((0 : Int)).toNat = 0 from rfl] at hx194_3); (try rw [show 0 * 8 = 0 from rfl] at hx194_3); (try rw [Addr.add_zero'] at hx194_3); (try rw [show ((0 : Int)).toNat = 0 from rfl] at hx194_4); (try rw [show 0 * 8 = 0 from rfl] at hx194_4); (try rw [Addr.add_zero'] at hx194_4); (try rw [show ((0 : Int)).toNat = 0 from rfl] at hx194_5); (try rw [show 0 * 8 = 0 from rfl] at hx194_5); (try rw [Addr.add_zero'] at hx194_5); (try rw [show ((0 : Int)).toNat = 0 from rfl] at hx194_6); (try rw [show 0 * 8 = 0 from rfl] at hx194_6); (try rw [Addr.add_zero'] at hx194_6); (try rw [show ((0 : Int)).toNat = 0 from rfl] at hx194_7); (try rw [show 0 * 8 = 0 from rfl] at hx194_7); (try rw [Addr.add_zero'] at hx194_7); replace p194 := eq_true p194; replace q194 := eq_true q194))
  go_ret
  exact ⟨zQx11a8_, zQx11a0_⟩
 rw [if_pos c9] at H
 have c9b0 : (((rd_T34 t178 0).f6) == 5) = true := beq_iff_eq.mpr c9
 have c9b1 : (((rd_T34 t178 0).f6) != 5) = false := bne_eq_false_iff_eq.mpr c9
 clear c9
 by_cases c10 : t184 = 2
 rotate_left
 ·
  rw [if_neg c10] at H
  have c10b0 : (t184 == 2) = false := beq_eq_false_iff_ne.mpr c10
  have c10b1 : (t184 != 2) = true := bne_iff_ne.mpr c10
  obtain rfl := Option.some.inj H
  go_enter Tryz.func9, Tryz.ntmps9
  go_wp2_with (first | ((with_reducible refine gate_callee (f := 7) rfl ?_); refine goesL_ (some 11) rfl rfl Tryz.func7 (by kernel_rfl) rfl #[.string (⟨#[116, 97, 110, 107, 47, 108, 101, 118, 101, 108, 32, 51, 32, 51, 32, 49, 54, 32, 51, 32, 49, 32, 53, 32, 114]⟩ : ByteArray)] rfl zQx11a1_ ?_; (with_reducible refine (table_Parse.calls (⟨#[116, 97, 110, 107, 47, 108, 101, 118, 101, 108, 32, 51, 32, 51, 32, 49, 54, 32, 51, 32, 49, 32, 53, 32, 114]⟩ : ByteArray) t178 t179 t180 _ (Val.Laid.below hLd_ zQx11a0_) A1.out).mono ?_); rintro e w25 ⟨v181, rfl, ho0, hb⟩; refine ⟨_, rfl, ?_⟩; have n0_ := Aside0.mk (Kd.R_lower ho0 (below_size zQx11a0_)); have n1_ := Aside0.mk (below_step zQx11a0_ hb); clear HB; have HO182 := n0_; have HB := n1_; clear n0_ n1_; (try clear hb); (try clear hb2); (try clear hk); (try clear hi); (try clear ho0)) | ((with_reducible refine gate_callee (f := 7) rfl ?_); refine goesL_ (some 16) rfl rfl Tryz.func7 (by kernel_rfl) rfl #[.string (⟨#[97, 32, 49, 32, 49, 32, 48, 32, 49, 32, 48, 32, 48, 32, 114, 10, 97, 32, 49, 32, 49, 32, 48, 32, 49, 32, 48, 32, 48, 32, 114, 10]⟩ : ByteArray)] rfl zQx11a1_ ?_; (with_reducible refine (table_Parse.calls (⟨#[97, 32, 49, 32, 49, 32, 48, 32, 49, 32, 48, 32, 48, 32, 114, 10, 97, 32, 49, 32, 49, 32, 48, 32, 49, 32, 48, 32, 48, 32, 114, 10]⟩ : ByteArray) t183 t184 t185 _ (Val.Laid.below hLd_ zQx11a0_) A2.out).mono ?_); rintro e w26 ⟨v186, rfl, ho0, hb⟩; refine ⟨_, rfl, ?_⟩; have n0_ := Aside0.mk (Kd.R_elder' zQx11a3_ (Kd.R_base ho0) hb); have n1_ := Aside0.mk (Kd.R_lower (Kd.R_new' ho0 (Kd.R_lt zQx11a3_)) (below_size zQx11a0_)); have n2_ := Aside0.mk (below_step zQx11a0_ hb); clear HO182; clear HB; have HO182 := n0_; have HO187 := n1_; have HB := n2_; clear n0_ n1_ n2_; (try clear hb); (try clear hb2); (try clear hk); (try clear hi); (try clear ho0)) | ((with_reducible refine gate_callee (f := 7) rfl ?_); refine goesL_ (some 21) rfl rfl Tryz.func7 (by kernel_rfl) rfl #[.string (⟨#[97, 32, 49]⟩ : ByteArray)] rfl zQx11a1_ ?_; (with_reducible refine (table_Parse.calls (⟨#[97, 32, 49]⟩ : ByteArray) t188 t189 t190 _ (Val.Laid.below hLd_ zQx11a0_) A3.out).mono ?_); rintro e w27 ⟨v191, rfl, ho0, hb⟩; refine ⟨_, rfl, ?_⟩; have n0_ := Aside0.mk (Kd.R_elder' zQx11a3_ (Kd.R_base ho0) hb); have n1_ := Aside0.mk (Kd.R_elder' zQx11a7_ (Kd.R_base ho0) hb); have n2_ := Aside0.mk (Kd.R_lower (Kd.R_new' (Kd.R_new' ho0 (Kd.R_lt zQx11a3_)) (Kd.R_lt zQx11a7_)) (below_size zQx11a0_)); have n3_ := Aside0.mk (below_step zQx11a0_ hb); clear HO182; clear HO187; clear HB; have HO182 := n0_; have HO187 := n1_; have HO192 := n2_; have HB := n3_; clear n0_ n1_ n2_ n3_; (try clear hb); (try clear hb2); (try clear hk); (try clear hi); (try clear ho0); obtain ⟨Ao28, co28, eo28⟩ := Kd.R_slice HO182.out; subst eo28; have p193 : 0 ≤ (0 : Int) := (by omega); have q193 : 0 < (t178.length : Int) := of_decide_eq_true zQx11a12_; obtain ⟨ad193, e193, hx193_0, hx193_1, hx193_2, hx193_3, hx193_4, hx193_5, hx193_6, hx193_7⟩ := at_T34 (Kd.R_reads' HO182.out).2.2 0 p193 q193; cases e193; have qi193 : (0 < t178.length) = True := eq_true (by omega); (try rw [show ((0 : Int)).toNat = 0 from rfl] at hx193_0); (try rw [show 0 * 8 = 0 from rfl] at hx193_0); (try rw [Addr.add_zero'] at hx193_0); (try rw [show ((0 : Int)).toNat = 0 from rfl] at hx193_1); (try rw [show 0 * 8 = 0 from rfl] at hx193_1); (try rw [Addr.add_zero'] at hx193_1); (try rw [show ((0 : Int)).toNat = 0 from rfl] at hx193_2); (try rw [show 0 * 8 = 0 from rfl] at hx193_2); (try rw [Addr.add_zero'] at hx193_2); (try rw [show ((0 : Int)).toNat = 0 from rfl] at hx193_3); (try rw [show 0 * 8 = 0 from rfl] at hx193_3); (try rw [Addr.add_zero'] at hx193_3); (try rw [show ((0 : Int)).toNat = 0 from rfl] at hx193_4); (try rw [show 0 * 8 = 0 from rfl] at hx193_4); (try rw [Addr.add_zero'] at hx193_4); (try rw [show ((0 : Int)).toNat = 0 from rfl] at hx193_5); (try rw [show 0 * 8 = 0 from rfl] at hx193_5); (try rw [Addr.add_zero'] at hx193_5); (try rw [show ((0 : Int)).toNat = 0 from rfl] at hx193_6); (try rw [show 0 * 8 = 0 from rfl] at hx193_6); (try rw [Addr.add_zero'] at hx193_6); (try rw [show ((0 : Int)).toNat = 0 from rfl] at hx193_7); (try rw [show 0 * 8 = 0 from rfl] at hx193_7); (try rw [Addr.add_zero'] at hx193_7); replace p193 := eq_true p193; replace q193 := eq_true q193; have p194 : 0 ≤ (0 : Int) := (by omega); have q194 : 0 < (t178.length : Int) := of_decide_eq_true zQx11a12_; obtain ⟨ad194, e194, hx194_0, hx194_1, hx194_2, hx194_3, hx194_4, hx194_5, hx194_6, hx194_7⟩ := at_T34 (Kd.R_reads' HO182.out).2.2 0 p194 q194; obtain rfl : ad193 = ad194 := (by injection e194); have qi194 : (0 < t178.length) = True := eq_true (by omega); (try rw [show ((0 : Int)).toNat = 0 from rfl] at hx194_0); (try rw [show 0 * 8 = 0 from rfl] at hx194_0); (try rw [Addr.add_zero'] at hx194_0); (try rw [show ((0 : Int)).toNat = 0 from rfl] at hx194_1); (try rw [show 0 * 8 = 0 from rfl] at hx194_1); (try rw [Addr.add_zero'] at hx194_1); (try rw [show ((0 : Int)).toNat = 0 from rfl] at hx194_2); (try rw [show 0 * 8 = 0 from rfl] at hx194_2); (try rw [Addr.add_zero'] at hx194_2); (try rw [show ((0 : Int)).toNat = 0 from rfl] at hx194_3); (try rw [show 0 * 8 = 0 from rfl] at hx194_3); (try rw [Addr.add_zero'] at hx194_3); (try rw [show ((0 : Int)).toNat = 0 from rfl] at hx194_4); (try rw [show 0 * 8 = 0 from rfl] at hx194_4); (try rw [Addr.add_zero'] at hx194_4); (try rw [show ((0 : Int)).toNat = 0 from rfl] at hx194_5); (try rw [show 0 * 8 = 0 from rfl] at hx194_5); (try rw [Addr.add_zero'] at hx194_5); (try rw [show ((0 : Int)).toNat = 0 from rfl] at hx194_6); (try rw [show 0 * 8 = 0 from rfl] at hx194_6); (try rw [Addr.add_zero'] at hx194_6); (try rw [show ((0 : Int)).toNat = 0 from rfl] at hx194_7); (try rw [show 0 * 8 = 0 from rfl] at hx194_7); (try rw [Addr.add_zero'] at hx194_7); replace p194 := eq_true p194; replace q194 := eq_true q194))
  go_ret
  exact ⟨zQx11a8_, zQx11a0_⟩
 rw [if_pos c10] at H
 have c10b0 : (t184 == 2) = true := beq_iff_eq.mpr c10
 have c10b1 : (t184 != 2) = false := bne_eq_false_iff_eq.mpr c10
 clear c10
 by_cases c11 : t185 = 210
 rotate_left
 ·
  rw [if_neg c11] at H
  have c11b0 : (t185 == 210) = false := beq_eq_false_iff_ne.mpr c11
  have c11b1 : (t185 != 210) = true := bne_iff_ne.mpr c11
  obtain rfl := Option.some.inj H
  go_enter Tryz.func9, Tryz.ntmps9
  go_wp2_with (first | ((with_reducible refine gate_callee (f := 7) rfl ?_); refine goesL_ (some 11) rfl rfl Tryz.func7 (by kernel_rfl) rfl #[.string (⟨#[116, 97, 110, 107, 47, 108, 101, 118, 101, 108, 32, 51, 32, 51, 32, 49, 54, 32, 51, 32, 49, 32, 53, 32, 114]⟩ : ByteArray)] rfl zQx11a1_ ?_; (with_reducible refine (table_Parse.calls (⟨#[116, 97, 110, 107, 47, 108, 101, 118, 101, 108, 32, 51, 32, 51, 32, 49, 54, 32, 51, 32, 49, 32, 53, 32, 114]⟩ : ByteArray) t178 t179 t180 _ (Val.Laid.below hLd_ zQx11a0_) A1.out).mono ?_); rintro e w21 ⟨v181, rfl, ho0, hb⟩; refine ⟨_, rfl, ?_⟩; have n0_ := Aside0.mk (Kd.R_lower ho0 (below_size zQx11a0_)); have n1_ := Aside0.mk (below_step zQx11a0_ hb); clear HB; have HO182 := n0_; have HB := n1_; clear n0_ n1_; (try clear hb); (try clear hb2); (try clear hk); (try clear hi); (try clear ho0)) | ((with_reducible refine gate_callee (f := 7) rfl ?_); refine goesL_ (some 16) rfl rfl Tryz.func7 (by kernel_rfl) rfl #[.string (⟨#[97, 32, 49, 32, 49, 32, 48, 32, 49, 32, 48, 32, 48, 32, 114, 10, 97, 32, 49, 32, 49, 32, 48, 32, 49, 32, 48, 32, 48, 32, 114, 10]⟩ : ByteArray)] rfl zQx11a1_ ?_; (with_reducible refine (table_Parse.calls (⟨#[97, 32, 49, 32, 49, 32, 48, 32, 49, 32, 48, 32, 48, 32, 114, 10, 97, 32, 49, 32, 49, 32, 48, 32, 49, 32, 48, 32, 48, 32, 114, 10]⟩ : ByteArray) t183 t184 t185 _ (Val.Laid.below hLd_ zQx11a0_) A2.out).mono ?_); rintro e w22 ⟨v186, rfl, ho0, hb⟩; refine ⟨_, rfl, ?_⟩; have n0_ := Aside0.mk (Kd.R_elder' zQx11a3_ (Kd.R_base ho0) hb); have n1_ := Aside0.mk (Kd.R_lower (Kd.R_new' ho0 (Kd.R_lt zQx11a3_)) (below_size zQx11a0_)); have n2_ := Aside0.mk (below_step zQx11a0_ hb); clear HO182; clear HB; have HO182 := n0_; have HO187 := n1_; have HB := n2_; clear n0_ n1_ n2_; (try clear hb); (try clear hb2); (try clear hk); (try clear hi); (try clear ho0)) | ((with_reducible refine gate_callee (f := 7) rfl ?_); refine goesL_ (some 21) rfl rfl Tryz.func7 (by kernel_rfl) rfl #[.string (⟨#[97, 32, 49]⟩ : ByteArray)] rfl zQx11a1_ ?_; (with_reducible refine (table_Parse.calls (⟨#[97, 32, 49]⟩ : ByteArray) t188 t189 t190 _ (Val.Laid.below hLd_ zQx11a0_) A3.out).mono ?_); rintro e w23 ⟨v191, rfl, ho0, hb⟩; refine ⟨_, rfl, ?_⟩; have n0_ := Aside0.mk (Kd.R_elder' zQx11a3_ (Kd.R_base ho0) hb); have n1_ := Aside0.mk (Kd.R_elder' zQx11a7_ (Kd.R_base ho0) hb); have n2_ := Aside0.mk (Kd.R_lower (Kd.R_new' (Kd.R_new' ho0 (Kd.R_lt zQx11a3_)) (Kd.R_lt zQx11a7_)) (below_size zQx11a0_)); have n3_ := Aside0.mk (below_step zQx11a0_ hb); clear HO182; clear HO187; clear HB; have HO182 := n0_; have HO187 := n1_; have HO192 := n2_; have HB := n3_; clear n0_ n1_ n2_ n3_; (try clear hb); (try clear hb2); (try clear hk); (try clear hi); (try clear ho0); obtain ⟨Ao24, co24, eo24⟩ := Kd.R_slice HO182.out; subst eo24; have p193 : 0 ≤ (0 : Int) := (by omega); have q193 : 0 < (t178.length : Int) := of_decide_eq_true zQx11a12_; obtain ⟨ad193, e193, hx193_0, hx193_1, hx193_2, hx193_3, hx193_4, hx193_5, hx193_6, hx193_7⟩ := at_T34 (Kd.R_reads' HO182.out).2.2 0 p193 q193; cases e193; have qi193 : (0 < t178.length) = True := eq_true (by omega); (try rw [show ((0 : Int)).toNat = 0 from rfl] at hx193_0); (try rw [show 0 * 8 = 0 from rfl] at hx193_0); (try rw [Addr.add_zero'] at hx193_0); (try rw [show ((0 : Int)).toNat = 0 from rfl] at hx193_1); (try rw [show 0 * 8 = 0 from rfl] at hx193_1); (try rw [Addr.add_zero'] at hx193_1); (try rw [show ((0 : Int)).toNat = 0 from rfl] at hx193_2); (try rw [show 0 * 8 = 0 from rfl] at hx193_2); (try rw [Addr.add_zero'] at hx193_2); (try rw [show ((0 : Int)).toNat = 0 from rfl] at hx193_3); (try rw [show 0 * 8 = 0 from rfl] at hx193_3); (try rw [Addr.add_zero'] at hx193_3); (try rw [show ((0 : Int)).toNat = 0 from rfl] at hx193_4); (try rw [show 0 * 8 = 0 from rfl] at hx193_4); (try rw [Addr.add_zero'] at hx193_4); (try rw [show ((0 : Int)).toNat = 0 from rfl] at hx193_5); (try rw [show 0 * 8 = 0 from rfl] at hx193_5); (try rw [Addr.add_zero'] at hx193_5); (try rw [show ((0 : Int)).toNat = 0 from rfl] at hx193_6); (try rw [show 0 * 8 = 0 from rfl] at hx193_6); (try rw [Addr.add_zero'] at hx193_6); (try rw [show ((0 : Int)).toNat = 0 from rfl] at hx193_7); (try rw [show 0 * 8 = 0 from rfl] at hx193_7); (try rw [Addr.add_zero'] at hx193_7); replace p193 := eq_true p193; replace q193 := eq_true q193; have p194 : 0 ≤ (0 : Int) := (by omega); have q194 : 0 < (t178.length : Int) := of_decide_eq_true zQx11a12_; obtain ⟨ad194, e194, hx194_0, hx194_1, hx194_2, hx194_3, hx194_4, hx194_5, hx194_6, hx194_7⟩ := at_T34 (Kd.R_reads' HO182.out).2.2 0 p194 q194; obtain rfl : ad193 = ad194 := (by injection e194); have qi194 : (0 < t178.length) = True := eq_true (by omega); (try rw [show ((0 : Int)).toNat = 0 from rfl] at hx194_0); (try rw [show 0 * 8 = 0 from rfl] at hx194_0); (try rw [Addr.add_zero'] at hx194_0); (try rw [show ((0 : Int)).toNat = 0 from rfl] at hx194_1); (try rw [show 0 * 8 = 0 from rfl] at hx194_1); (try rw [Addr.add_zero'] at hx194_1); (try rw [show ((0 : Int)).toNat = 0 from rfl] at hx194_2); (try rw [show 0 * 8 = 0 from rfl] at hx194_2); (try rw [Addr.add_zero'] at hx194_2); (try rw [show ((0 : Int)).toNat = 0 from rfl] at hx194_3); (try rw [show 0 * 8 = 0 from rfl] at hx194_3); (try rw [Addr.add_zero'] at hx194_3); (try rw [show ((0 : Int)).toNat = 0 from rfl] at hx194_4); (try rw [show 0 * 8 = 0 from rfl] at hx194_4); (try rw [Addr.add_zero'] at hx194_4); (try rw [show ((0 : Int)).toNat = 0 from rfl] at hx194_5); (try rw [show 0 * 8 = 0 from rfl] at hx194_5); (try rw [Addr.add_zero'] at hx194_5); (try rw [show ((0 : Int)).toNat = 0 from rfl] at hx194_6); (try rw [show 0 * 8 = 0 from rfl] at hx194_6); (try rw [Addr.add_zero'] at hx194_6); (try rw [show ((0 : Int)).toNat = 0 from rfl] at hx194_7); (try rw [show 0 * 8 = 0 from rfl] at hx194_7); (try rw [Addr.add_zero'] at hx194_7); replace p194 := eq_true p194; replace q194 := eq_true q194))
  go_ret
  exact ⟨zQx11a8_, zQx11a0_⟩
 rw [if_pos c11] at H
 have c11b0 : (t185 == 210) = true := beq_iff_eq.mpr c11
 have c11b1 : (t185 != 210) = false := bne_eq_false_iff_eq.mpr c11
 clear c11
 by_cases c12 : t189 = 1
 rotate_left
 ·
  rw [if_neg c12] at H
  have c12b0 : (t189 == 1) = false := beq_eq_false_iff_ne.mpr c12
  have c12b1 : (t189 != 1) = true := bne_iff_ne.mpr c12
  obtain rfl := Option.some.inj H
  go_enter Tryz.func9, Tryz.ntmps9
  go_wp2_with (first | ((with_reducible refine gate_callee (f := 7) rfl ?_); refine goesL_ (some 11) rfl rfl Tryz.func7 (by kernel_rfl) rfl #[.string (⟨#[116, 97, 110, 107, 47, 108, 101, 118, 101, 108, 32, 51, 32, 51, 32, 49, 54, 32, 51, 32, 49, 32, 53, 32, 114]⟩ : ByteArray)] rfl zQx11a1_ ?_; (with_reducible refine (table_Parse.calls (⟨#[116, 97, 110, 107, 47, 108, 101, 118, 101, 108, 32, 51, 32, 51, 32, 49, 54, 32, 51, 32, 49, 32, 53, 32, 114]⟩ : ByteArray) t178 t179 t180 _ (Val.Laid.below hLd_ zQx11a0_) A1.out).mono ?_); rintro e w17 ⟨v181, rfl, ho0, hb⟩; refine ⟨_, rfl, ?_⟩; have n0_ := Aside0.mk (Kd.R_lower ho0 (below_size zQx11a0_)); have n1_ := Aside0.mk (below_step zQx11a0_ hb); clear HB; have HO182 := n0_; have HB := n1_; clear n0_ n1_; (try clear hb); (try clear hb2); (try clear hk); (try clear hi); (try clear ho0)) | ((with_reducible refine gate_callee (f := 7) rfl ?_); refine goesL_ (some 16) rfl rfl Tryz.func7 (by kernel_rfl) rfl #[.string (⟨#[97, 32, 49, 32, 49, 32, 48, 32, 49, 32, 48, 32, 48, 32, 114, 10, 97, 32, 49, 32, 49, 32, 48, 32, 49, 32, 48, 32, 48, 32, 114, 10]⟩ : ByteArray)] rfl zQx11a1_ ?_; (with_reducible refine (table_Parse.calls (⟨#[97, 32, 49, 32, 49, 32, 48, 32, 49, 32, 48, 32, 48, 32, 114, 10, 97, 32, 49, 32, 49, 32, 48, 32, 49, 32, 48, 32, 48, 32, 114, 10]⟩ : ByteArray) t183 t184 t185 _ (Val.Laid.below hLd_ zQx11a0_) A2.out).mono ?_); rintro e w18 ⟨v186, rfl, ho0, hb⟩; refine ⟨_, rfl, ?_⟩; have n0_ := Aside0.mk (Kd.R_elder' zQx11a3_ (Kd.R_base ho0) hb); have n1_ := Aside0.mk (Kd.R_lower (Kd.R_new' ho0 (Kd.R_lt zQx11a3_)) (below_size zQx11a0_)); have n2_ := Aside0.mk (below_step zQx11a0_ hb); clear HO182; clear HB; have HO182 := n0_; have HO187 := n1_; have HB := n2_; clear n0_ n1_ n2_; (try clear hb); (try clear hb2); (try clear hk); (try clear hi); (try clear ho0)) | ((with_reducible refine gate_callee (f := 7) rfl ?_); refine goesL_ (some 21) rfl rfl Tryz.func7 (by kernel_rfl) rfl #[.string (⟨#[97, 32, 49]⟩ : ByteArray)] rfl zQx11a1_ ?_; (with_reducible refine (table_Parse.calls (⟨#[97, 32, 49]⟩ : ByteArray) t188 t189 t190 _ (Val.Laid.below hLd_ zQx11a0_) A3.out).mono ?_); rintro e w19 ⟨v191, rfl, ho0, hb⟩; refine ⟨_, rfl, ?_⟩; have n0_ := Aside0.mk (Kd.R_elder' zQx11a3_ (Kd.R_base ho0) hb); have n1_ := Aside0.mk (Kd.R_elder' zQx11a7_ (Kd.R_base ho0) hb); have n2_ := Aside0.mk (Kd.R_lower (Kd.R_new' (Kd.R_new' ho0 (Kd.R_lt zQx11a3_)) (Kd.R_lt zQx11a7_)) (below_size zQx11a0_)); have n3_ := Aside0.mk (below_step zQx11a0_ hb); clear HO182; clear HO187; clear HB; have HO182 := n0_; have HO187 := n1_; have HO192 := n2_; have HB := n3_; clear n0_ n1_ n2_ n3_; (try clear hb); (try clear hb2); (try clear hk); (try clear hi); (try clear ho0); obtain ⟨Ao20, co20, eo20⟩ := Kd.R_slice HO182.out; subst eo20; have p193 : 0 ≤ (0 : Int) := (by omega); have q193 : 0 < (t178.length : Int) := of_decide_eq_true zQx11a12_; obtain ⟨ad193, e193, hx193_0, hx193_1, hx193_2, hx193_3, hx193_4, hx193_5, hx193_6, hx193_7⟩ := at_T34 (Kd.R_reads' HO182.out).2.2 0 p193 q193; cases e193; have qi193 : (0 < t178.length) = True := eq_true (by omega); (try rw [show ((0 : Int)).toNat = 0 from rfl] at hx193_0); (try rw [show 0 * 8 = 0 from rfl] at hx193_0); (try rw [Addr.add_zero'] at hx193_0); (try rw [show ((0 : Int)).toNat = 0 from rfl] at hx193_1); (try rw [show 0 * 8 = 0 from rfl] at hx193_1); (try rw [Addr.add_zero'] at hx193_1); (try rw [show ((0 : Int)).toNat = 0 from rfl] at hx193_2); (try rw [show 0 * 8 = 0 from rfl] at hx193_2); (try rw [Addr.add_zero'] at hx193_2); (try rw [show ((0 : Int)).toNat = 0 from rfl] at hx193_3); (try rw [show 0 * 8 = 0 from rfl] at hx193_3); (try rw [Addr.add_zero'] at hx193_3); (try rw [show ((0 : Int)).toNat = 0 from rfl] at hx193_4); (try rw [show 0 * 8 = 0 from rfl] at hx193_4); (try rw [Addr.add_zero'] at hx193_4); (try rw [show ((0 : Int)).toNat = 0 from rfl] at hx193_5); (try rw [show 0 * 8 = 0 from rfl] at hx193_5); (try rw [Addr.add_zero'] at hx193_5); (try rw [show ((0 : Int)).toNat = 0 from rfl] at hx193_6); (try rw [show 0 * 8 = 0 from rfl] at hx193_6); (try rw [Addr.add_zero'] at hx193_6); (try rw [show ((0 : Int)).toNat = 0 from rfl] at hx193_7); (try rw [show 0 * 8 = 0 from rfl] at hx193_7); (try rw [Addr.add_zero'] at hx193_7); replace p193 := eq_true p193; replace q193 := eq_true q193; have p194 : 0 ≤ (0 : Int) := (by omega); have q194 : 0 < (t178.length : Int) := of_decide_eq_true zQx11a12_; obtain ⟨ad194, e194, hx194_0, hx194_1, hx194_2, hx194_3, hx194_4, hx194_5, hx194_6, hx194_7⟩ := at_T34 (Kd.R_reads' HO182.out).2.2 0 p194 q194; obtain rfl : ad193 = ad194 := (by injection e194); have qi194 : (0 < t178.length) = True := eq_true (by omega); (try rw [show ((0 : Int)).toNat = 0 from rfl] at hx194_0); (try rw [show 0 * 8 = 0 from rfl] at hx194_0); (try rw [Addr.add_zero'] at hx194_0); (try rw [show ((0 : Int)).toNat = 0 from rfl] at hx194_1); (try rw [show 0 * 8 = 0 from rfl] at hx194_1); (try rw [Addr.add_zero'] at hx194_1); (try rw [show ((0 : Int)).toNat = 0 from rfl] at hx194_2); (try rw [show 0 * 8 = 0 from rfl] at hx194_2); (try rw [Addr.add_zero'] at hx194_2); (try rw [show ((0 : Int)).toNat = 0 from rfl] at hx194_3); (try rw [show 0 * 8 = 0 from rfl] at hx194_3); (try rw [Addr.add_zero'] at hx194_3); (try rw [show ((0 : Int)).toNat = 0 from rfl] at hx194_4); (try rw [show 0 * 8 = 0 from rfl] at hx194_4); (try rw [Addr.add_zero'] at hx194_4); (try rw [show ((0 : Int)).toNat = 0 from rfl] at hx194_5); (try rw [show 0 * 8 = 0 from rfl] at hx194_5); (try rw [Addr.add_zero'] at hx194_5); (try rw [show ((0 : Int)).toNat = 0 from rfl] at hx194_6); (try rw [show 0 * 8 = 0 from rfl] at hx194_6); (try rw [Addr.add_zero'] at hx194_6); (try rw [show ((0 : Int)).toNat = 0 from rfl] at hx194_7); (try rw [show 0 * 8 = 0 from rfl] at hx194_7); (try rw [Addr.add_zero'] at hx194_7); replace p194 := eq_true p194; replace q194 := eq_true q194))
  go_ret
  exact ⟨zQx11a8_, zQx11a0_⟩
 rw [if_pos c12] at H
 have c12b0 : (t189 == 1) = true := beq_iff_eq.mpr c12
 have c12b1 : (t189 != 1) = false := bne_eq_false_iff_eq.mpr c12
 clear c12
 obtain rfl := Option.some.inj H
 go_enter Tryz.func9, Tryz.ntmps9
 go_wp2_with (first | ((with_reducible refine gate_callee (f := 7) rfl ?_); refine goesL_ (some 11) rfl rfl Tryz.func7 (by kernel_rfl) rfl #[.string (⟨#[116, 97, 110, 107, 47, 108, 101, 118, 101, 108, 32, 51, 32, 51, 32, 49, 54, 32, 51, 32, 49, 32, 53, 32, 114]⟩ : ByteArray)] rfl zQx11a1_ ?_; (with_reducible refine (table_Parse.calls (⟨#[116, 97, 110, 107, 47, 108, 101, 118, 101, 108, 32, 51, 32, 51, 32, 49, 54, 32, 51, 32, 49, 32, 53, 32, 114]⟩ : ByteArray) t178 t179 t180 _ (Val.Laid.below hLd_ zQx11a0_) A1.out).mono ?_); rintro e w13 ⟨v181, rfl, ho0, hb⟩; refine ⟨_, rfl, ?_⟩; have n0_ := Aside0.mk (Kd.R_lower ho0 (below_size zQx11a0_)); have n1_ := Aside0.mk (below_step zQx11a0_ hb); clear HB; have HO182 := n0_; have HB := n1_; clear n0_ n1_; (try clear hb); (try clear hb2); (try clear hk); (try clear hi); (try clear ho0)) | ((with_reducible refine gate_callee (f := 7) rfl ?_); refine goesL_ (some 16) rfl rfl Tryz.func7 (by kernel_rfl) rfl #[.string (⟨#[97, 32, 49, 32, 49, 32, 48, 32, 49, 32, 48, 32, 48, 32, 114, 10, 97, 32, 49, 32, 49, 32, 48, 32, 49, 32, 48, 32, 48, 32, 114, 10]⟩ : ByteArray)] rfl zQx11a1_ ?_; (with_reducible refine (table_Parse.calls (⟨#[97, 32, 49, 32, 49, 32, 48, 32, 49, 32, 48, 32, 48, 32, 114, 10, 97, 32, 49, 32, 49, 32, 48, 32, 49, 32, 48, 32, 48, 32, 114, 10]⟩ : ByteArray) t183 t184 t185 _ (Val.Laid.below hLd_ zQx11a0_) A2.out).mono ?_); rintro e w14 ⟨v186, rfl, ho0, hb⟩; refine ⟨_, rfl, ?_⟩; have n0_ := Aside0.mk (Kd.R_elder' zQx11a3_ (Kd.R_base ho0) hb); have n1_ := Aside0.mk (Kd.R_lower (Kd.R_new' ho0 (Kd.R_lt zQx11a3_)) (below_size zQx11a0_)); have n2_ := Aside0.mk (below_step zQx11a0_ hb); clear HO182; clear HB; have HO182 := n0_; have HO187 := n1_; have HB := n2_; clear n0_ n1_ n2_; (try clear hb); (try clear hb2); (try clear hk); (try clear hi); (try clear ho0)) | ((with_reducible refine gate_callee (f := 7) rfl ?_); refine goesL_ (some 21) rfl rfl Tryz.func7 (by kernel_rfl) rfl #[.string (⟨#[97, 32, 49]⟩ : ByteArray)] rfl zQx11a1_ ?_; (with_reducible refine (table_Parse.calls (⟨#[97, 32, 49]⟩ : ByteArray) t188 t189 t190 _ (Val.Laid.below hLd_ zQx11a0_) A3.out).mono ?_); rintro e w15 ⟨v191, rfl, ho0, hb⟩; refine ⟨_, rfl, ?_⟩; have n0_ := Aside0.mk (Kd.R_elder' zQx11a3_ (Kd.R_base ho0) hb); have n1_ := Aside0.mk (Kd.R_elder' zQx11a7_ (Kd.R_base ho0) hb); have n2_ := Aside0.mk (Kd.R_lower (Kd.R_new' (Kd.R_new' ho0 (Kd.R_lt zQx11a3_)) (Kd.R_lt zQx11a7_)) (below_size zQx11a0_)); have n3_ := Aside0.mk (below_step zQx11a0_ hb); clear HO182; clear HO187; clear HB; have HO182 := n0_; have HO187 := n1_; have HO192 := n2_; have HB := n3_; clear n0_ n1_ n2_ n3_; (try clear hb); (try clear hb2); (try clear hk); (try clear hi); (try clear ho0); obtain ⟨Ao16, co16, eo16⟩ := Kd.R_slice HO182.out; subst eo16; have p193 : 0 ≤ (0 : Int) := (by omega); have q193 : 0 < (t178.length : Int) := of_decide_eq_true zQx11a12_; obtain ⟨ad193, e193, hx193_0, hx193_1, hx193_2, hx193_3, hx193_4, hx193_5, hx193_6, hx193_7⟩ := at_T34 (Kd.R_reads' HO182.out).2.2 0 p193 q193; cases e193; have qi193 : (0 < t178.length) = True := eq_true (by omega); (try rw [show ((0 : Int)).toNat = 0 from rfl] at hx193_0); (try rw [show 0 * 8 = 0 from rfl] at hx193_0); (try rw [Addr.add_zero'] at hx193_0); (try rw [show ((0 : Int)).toNat = 0 from rfl] at hx193_1); (try rw [show 0 * 8 = 0 from rfl] at hx193_1); (try rw [Addr.add_zero'] at hx193_1); (try rw [show ((0 : Int)).toNat = 0 from rfl] at hx193_2); (try rw [show 0 * 8 = 0 from rfl] at hx193_2); (try rw [Addr.add_zero'] at hx193_2); (try rw [show ((0 : Int)).toNat = 0 from rfl] at hx193_3); (try rw [show 0 * 8 = 0 from rfl] at hx193_3); (try rw [Addr.add_zero'] at hx193_3); (try rw [show ((0 : Int)).toNat = 0 from rfl] at hx193_4); (try rw [show 0 * 8 = 0 from rfl] at hx193_4); (try rw [Addr.add_zero'] at hx193_4); (try rw [show ((0 : Int)).toNat = 0 from rfl] at hx193_5); (try rw [show 0 * 8 = 0 from rfl] at hx193_5); (try rw [Addr.add_zero'] at hx193_5); (try rw [show ((0 : Int)).toNat = 0 from rfl] at hx193_6); (try rw [show 0 * 8 = 0 from rfl] at hx193_6); (try rw [Addr.add_zero'] at hx193_6); (try rw [show ((0 : Int)).toNat = 0 from rfl] at hx193_7); (try rw [show 0 * 8 = 0 from rfl] at hx193_7); (try rw [Addr.add_zero'] at hx193_7); replace p193 := eq_true p193; replace q193 := eq_true q193; have p194 : 0 ≤ (0 : Int) := (by omega); have q194 : 0 < (t178.length : Int) := of_decide_eq_true zQx11a12_; obtain ⟨ad194, e194, hx194_0, hx194_1, hx194_2, hx194_3, hx194_4, hx194_5, hx194_6, hx194_7⟩ := at_T34 (Kd.R_reads' HO182.out).2.2 0 p194 q194; obtain rfl : ad193 = ad194 := (by injection e194); have qi194 : (0 < t178.length) = True := eq_true (by omega); (try rw [show ((0 : Int)).toNat = 0 from rfl] at hx194_0); (try rw [show 0 * 8 = 0 from rfl] at hx194_0); (try rw [Addr.add_zero'] at hx194_0); (try rw [show ((0 : Int)).toNat = 0 from rfl] at hx194_1); (try rw [show 0 * 8 = 0 from rfl] at hx194_1); (try rw [Addr.add_zero'] at hx194_1); (try rw [show ((0 : Int)).toNat = 0 from rfl] at hx194_2); (try rw [show 0 * 8 = 0 from rfl] at hx194_2); (try rw [Addr.add_zero'] at hx194_2); (try rw [show ((0 : Int)).toNat = 0 from rfl] at hx194_3); (try rw [show 0 * 8 = 0 from rfl] at hx194_3); (try rw [Addr.add_zero'] at hx194_3); (try rw [show ((0 : Int)).toNat = 0 from rfl] at hx194_4); (try rw [show 0 * 8 = 0 from rfl] at hx194_4); (try rw [Addr.add_zero'] at hx194_4); (try rw [show ((0 : Int)).toNat = 0 from rfl] at hx194_5); (try rw [show 0 * 8 = 0 from rfl] at hx194_5); (try rw [Addr.add_zero'] at hx194_5); (try rw [show ((0 : Int)).toNat = 0 from rfl] at hx194_6); (try rw [show 0 * 8 = 0 from rfl] at hx194_6); (try rw [Addr.add_zero'] at hx194_6); (try rw [show ((0 : Int)).toNat = 0 from rfl] at hx194_7); (try rw [show 0 * 8 = 0 from rfl] at hx194_7); (try rw [Addr.add_zero'] at hx194_7); replace p194 := eq_true p194; replace q194 := eq_true q194))
 go_ret
 exact ⟨zQx11a8_, zQx11a0_⟩
end Go.Proofs.YtbfhiiokajbdhaaGreatDoor.Q
