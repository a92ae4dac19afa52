/- What the proof of DriftDoes leans on: ValE. -/
import Derived.Test.YtenbkjeflancaaaGreatDoorSDriftDoesQx10
import Derived.Test.YtenbkjeflancaaaGreatDoorSDriftDoesQx12
import Derived.Test.YtenbkjeflancaaaGreatDoorSDriftDoesValM
import Derived.Test.YtenbkjeflancaaaGreatDoorSDriftDoesValF
namespace Go.Proofs.YtenbkjeflancaaaGreatDoor.Q
open Go.RowKit Go.Proofs.YtenbkjeflancaaaGreatDoorW.PrintWords Go.Proofs.YtenbkjeflancaaaGreatDoorW.PrintLast Go.Proofs.YtenbkjeflancaaaGreatDoorW.PrintMore
attribute [local go_sem] max2_int min2_int max_two min_two
set_option linter.unusedVariables false
set_option linter.unusedSimpArgs false
theorem zValEa0_ {P_ : Prop} (h_ : P_ := by (with_reducible repeat (first | refine blk_drewN ?_ _ | refine blk_drew ?_ | refine blk_alloc ?_ _)); exact BK188.out) : P_ := h_
theorem zValEa1_ {P_ : Prop} (h_ : P_ := by repeat (first | (with_reducible first | exact HB.out | apply below_alloc | apply pw_below_drewN | apply below_drew1 | refine below_set ?_ GE188.out) | exact HB.out)) : P_ := h_
theorem zValEa2_ {P_ : Prop} (h_ : P_ := by first | (simp only [putAll, Act.put, List.setIfInBounds_toArray, List.set_cons_zero, List.set_cons_succ]; done) | (simp only [putAll, Act.put, List.setIfInBounds_toArray, List.set_cons_zero, List.set_cons_succ]; rfl)) : P_ := h_
theorem zValEa3_ {P_ : Prop} (h_ : P_ := by repeat (first | (with_reducible first | exact HB.out | apply below_alloc | apply pw_below_drewN | apply below_drew1 | refine below_set ?_ GE188.out | refine below_set ?_ GE196.out) | exact HB.out)) : P_ := h_
theorem zValEa4_ {P_ : Prop} (h_ : P_ := by repeat (first | (with_reducible first | exact HB.out | apply below_alloc | apply pw_below_drewN | apply below_drew1 | refine below_set ?_ GE188.out | refine below_set ?_ GE197.out) | exact HB.out)) : P_ := h_
theorem zValEa5_ {P_ : Prop} (h_ : P_ := by (with_reducible repeat (first | refine blk_drewN ?_ _ | refine blk_drew ?_ | refine blk_alloc ?_ _)); exact BK196.out) : P_ := h_
theorem zValEa6_ {P_ : Prop} (h_ : P_ := by (with_reducible repeat (first | refine blk_drewN ?_ _ | refine blk_drew ?_ | refine blk_alloc ?_ _)); exact BK197.out) : P_ := h_
theorem zValEa7_ {P_ : Prop} (h_ : P_ := by repeat (first | (with_reducible first | exact HB.out | apply below_alloc | apply pw_below_drewN | apply below_drew1 | refine below_set ?_ GE188.out | refine below_set ?_ GE196.out | refine below_set ?_ GE197.out) | exact HB.out)) : P_ := h_
theorem zValEa8_ {P_ : Prop} (h_ : P_ := by (try simp only [List.map_toArray, List.map_cons, List.map_nil]); first | done | rfl | (simp only [List.length_drop, List.length_take]; rfl)) : P_ := h_
theorem zValEa9_ {P_ : Prop} (h_ : P_ := by repeat (first | (with_reducible first | exact HB.out | apply below_alloc | apply pw_below_drewN | apply below_drew1 | refine below_set ?_ GE188.out | refine below_set ?_ GE197.out | refine below_set ?_ GE196.out) | exact HB.out)) : P_ := h_
theorem zValEa10_ {P_ : Prop} (h_ : P_ := by first | rfl | (simp [errW_none, errW_some] <;> rfl) | (simp only [← hji21, ← hji22]; first | rfl | (simp [errW_none, errW_some] <;> rfl)) | (simp [*, errW_none, errW_some] <;> rfl)) : P_ := h_
theorem zValEa11_ {P_ : Prop} (h_ : P_ := by repeat (first | (with_reducible first | exact HB.out | apply below_alloc | apply pw_below_drewN | apply below_drew1) | exact HB.out)) : P_ := h_
theorem zValEa12_ {P_ : Prop} (h_ : P_ := by first | rfl | (simp [errW_none, errW_some] <;> rfl) | (simp [*, errW_none, errW_some] <;> rfl)) : P_ := h_
def apr.j0 : Nat → List Int → List Int → Bool → ByteArray → Int → Int → Int → Int → Int → Int → Bool → Option (Bool × Int)
 | 0, _, _, _, _, _, _, _, _, _, _, _ => none
 | k + 1, x1, x2, x20, x189000, x189001, x189002, x189003, x189004, x189005, x189006, x189007 => if x20 = true then (some (false, 1)) else (if x189006 = 0 then ((slices_Equal_int_int.f k x1 x2).bind fun t191 => (some (!t191, 0))) else ((value_of.f k x189000 x189001 x189002 x189003 x189004 x189005 x189006 x189007 x1).bind fun bt192 => ((value_of.f k x189000 x189001 x189002 x189003 x189004 x189005 x189006 x189007 x2).bind fun bt194 => (if (bt192.1 != bt194.1) = true then (if (IntKind.u64.wrap (bt192.2 + bt194.2)) < bt192.2 then (some (true, 0)) else (some (decide ((IntKind.u64.wrap (bt192.2 + bt194.2)) ≥ (IntKind.u64.wrap (x189006))), 0))) else (some (decide ((IntKind.u64.wrap ((mx bt192.2 bt194.2) - (mn bt192.2 bt194.2))) ≥ (IntKind.u64.wrap (x189006))), 0))))))
def apr.f (k : Nat) (a0_0 : ByteArray) (a0_1 : Int) (a0_2 : Int) (a0_3 : Int) (a0_4 : Int) (a0_5 : Int) (a0_6 : Int) (a0_7 : Bool) (l1 : List Int) (l2 : List Int) : Option (Bool × Int) := (value_may.f a0_0 a0_1 a0_2 a0_3 a0_4 a0_5 a0_6 a0_7 l1).bind fun t189 => (if t189 = 0 then ((value_may.f a0_0 a0_1 a0_2 a0_3 a0_4 a0_5 a0_6 a0_7 l2).bind fun t190 => (apr.j0 k l1 l2 (t190 != 0) a0_0 a0_1 a0_2 a0_3 a0_4 a0_5 a0_6 a0_7)) else (apr.j0 k l1 l2 true a0_0 a0_1 a0_2 a0_3 a0_4 a0_5 a0_6 a0_7))
def apr.T5 : Bool × List (List Nat × List Nat) := (true, [([], []), ([], []), ([0, 1], [0, 1]), ([], []), ([], []), ([3, 4, 2], [3, 4]), ([], []), ([], []), ([6, 2, 5, 0, 1, 2, 6, 7], [2, 6]), ([7, 5, 8, 0, 1, 2, 3, 4, 5, 6, 7, 8], [5, 7])])
def apr.B5 : List Nat := [0, 0, 3, 0, 0, 31, 0, 0, 255, 511]
theorem apr.tab5 : rtab .any (opsOf Tryz.f17 5) = apr.T5 := by kernel_rfl
theorem apr.bits5 : waitsOk apr.T5.2 apr.B5 = true := by kernel_rfl
set_option maxHeartbeats 8000000 in
set_option maxRecDepth 100000 in
theorem apr.calls (k : Nat) (a0_0 : ByteArray) (a0_1 : Int) (a0_2 : Int) (a0_3 : Int) (a0_4 : Int) (a0_5 : Int) (a0_6 : Int) (a0_7 : Bool) (A1 : Option Addr) (c1 : Nat) (l1 : List Int) (A2 : Option Addr) (c2 : Nat) (l2 : List Int) (r1 : Bool) (r2 : Int) (w : World) (hr1 : Kd.C (Kd.int .i64) w A1 l1.length l1) (hc1 : l1.length ≤ c1) (hr2 : Kd.C (Kd.int .i64) w A2 l2.length l2) (hc2 : l2.length ≤ c2) (hLd_ : Val.Laid w) (h : apr.f k a0_0 a0_1 a0_2 a0_3 a0_4 a0_5 a0_6 a0_7 l1 l2 = some (r1, r2)) :
  Calls Tryz.prog 17 #[.agg #[.string a0_0, .int .i64 a0_1, .int .i64 a0_2, .int .i64 a0_3, .int .i64 a0_4, .int .i64 a0_5, .int .i64 a0_6, .bool a0_7], .slice A1 l1.length c1, .slice A2 l2.length c2] w fun e w' => e = .returned (.tuple #[.bool r1, .int .i64 r2]) ∧ Below w.heap.size w w' := by
 have hu23 := Tryz.underlying23
 have hu66 := Tryz.underlying66
 have HR1 := Aside0.mk hr1
 have HC1 := Aside0.mk hc1
 clear hr1 hc1
 have HR2 := Aside0.mk hr2
 have HC2 := Aside0.mk hc2
 clear hr2 hc2
 have HB := Aside0.mk (Below.refl w.heap.size w)
 have H : ((value_may.f a0_0 a0_1 a0_2 a0_3 a0_4 a0_5 a0_6 a0_7 l1).bind fun t189 => (if t189 = 0 then ((value_may.f a0_0 a0_1 a0_2 a0_3 a0_4 a0_5 a0_6 a0_7 l2).bind fun t190 => (apr.j0 k l1 l2 (t190 != 0) a0_0 a0_1 a0_2 a0_3 a0_4 a0_5 a0_6 a0_7)) else (apr.j0 k l1 l2 true a0_0 a0_1 a0_2 a0_3 a0_4 a0_5 a0_6 a0_7))) = some (r1, r2) := h
 clear h
 have HC4 := Aside0.mk H
 clear H
 go_enter Tryz.func17, Tryz.ntmps17
 go_upto_region 1 with (first | ((with_reducible refine gate_dst (N := 3) rfl ?_); refine box_event ?hg (N := 3) ?hd (cs := #[.string a0_0, .int .i64 a0_1, .int .i64 a0_2, .int .i64 a0_3, .int .i64 a0_4, .int .i64 a0_5, .int .i64 a0_6, .bool a0_7]) (t := 23) ?hr ?_; (case hd => rfl); (case hg => rfl); (case hr => first | (go_simp; done) | (go_simp; rfl)); intro gb188 hg w5 hbox hb; have n0_ := Aside0.mk (below_step zValEa11_ hb); have n1_ := Aside0.mk (hbox); have n2_ := Aside0.mk ((by rw [hg]; exact (below_size zValEa11_) : w.heap.size ≤ gb188)); have n3_ := Aside0.mk ((by rw [hg]; exact (below_size zValEa11_) : w.heap.size ≤ gb188)); clear HB; have HB := n0_; have BK188 := n1_; have GW188 := n2_; have GE188 := n3_; clear n0_ n1_ n2_ n3_; clear hb hbox hg))
 (try simp only [Act.put, List.setIfInBounds_toArray, List.set_cons_zero, List.set_cons_succ])
 go_cut [20] (fun v20 wc => ∃ (kq : Nat) (x20_3 : Bool), v20 = .bool x20_3 ∧ Aside0 (apr.j0 kq l1 l2 x20_3 a0_0 a0_1 a0_2 a0_3 a0_4 a0_5 a0_6 a0_7 = some (r1, r2)) ∧ Aside0 (kq ≤ k) ∧ Aside0 (wc.heap[gb188]? = some (.cells #[.string a0_0, .int .i64 a0_1, .int .i64 a0_2, .int .i64 a0_3, .int .i64 a0_4, .int .i64 a0_5, .int .i64 a0_6, .bool a0_7] 23 (0, 0))) ∧ Aside0 (Below w.heap.size w wc))
 case first =>
  have H := HC4.out
  clear HC4
  replace H := Option.bind_eq_some_iff.mp H
  obtain ⟨t189, A60, H⟩ := H
  replace H : (if t189 = 0 then ((value_may.f a0_0 a0_1 a0_2 a0_3 a0_4 a0_5 a0_6 a0_7 l2).bind fun t190 => (apr.j0 k l1 l2 (t190 != 0) a0_0 a0_1 a0_2 a0_3 a0_4 a0_5 a0_6 a0_7)) else (apr.j0 k l1 l2 true a0_0 a0_1 a0_2 a0_3 a0_4 a0_5 a0_6 a0_7)) = some (r1, r2) := H
  have A6 := Aside0.mk A60
  clear A60
  by_cases c7 : t189 = 0
  rotate_left
  ·
   rw [if_neg c7] at H
   have c7b0 : (t189 == 0) = false := beq_eq_false_iff_ne.mpr c7
   have c7b1 : (t189 != 0) = true := bne_iff_ne.mpr c7
   (first | rw [c7b0] | (simp only [i64_w, i32_w]; rw [c7b0]) | skip)
   have H' := Aside0.mk H
   clear H
   have hcz13_0 : w5.cell? ⟨gb188, 0, none⟩ = some (.string a0_0) := (blk_cell BK188.out 0).trans rfl
   have hcz13_1 : w5.cell? ⟨gb188, 1, none⟩ = some (.int .i64 a0_1) := (blk_cell BK188.out 1).trans rfl
   have hcz13_2 : w5.cell? ⟨gb188, 2, none⟩ = some (.int .i64 a0_2) := (blk_cell BK188.out 2).trans rfl
   have hcz13_3 : w5.cell? ⟨gb188, 3, none⟩ = some (.int .i64 a0_3) := (blk_cell BK188.out 3).trans rfl
   have hcz13_4 : w5.cell? ⟨gb188, 4, none⟩ = some (.int .i64 a0_4) := (blk_cell BK188.out 4).trans rfl
   have hcz13_5 : w5.cell? ⟨gb188, 5, none⟩ = some (.int .i64 a0_5) := (blk_cell BK188.out 5).trans rfl
   have hcz13_6 : w5.cell? ⟨gb188, 6, none⟩ = some (.int .i64 a0_6) := (blk_cell BK188.out 6).trans rfl
   have hcz13_7 : w5.cell? ⟨gb188, 7, none⟩ = some (.bool a0_7) := (blk_cell BK188.out 7).trans rfl
   have hfz13_0 := blk_frozen BK188.out 0
   have hfz13_1 := blk_frozen BK188.out 1
   have hfz13_2 := blk_frozen BK188.out 2
   have hfz13_3 := blk_frozen BK188.out 3
   have hfz13_4 := blk_frozen BK188.out 4
   have hfz13_5 := blk_frozen BK188.out 5
   have hfz13_6 := blk_frozen BK188.out 6
   have hfz13_7 := blk_frozen BK188.out 7
   go_wp2_with (first | ((with_reducible refine gate_callee (f := 25) rfl ?_); refine goesL_ (some 13) rfl rfl Tryz.func25 (by kernel_rfl) rfl #[.agg #[.string a0_0, .int .i64 a0_1, .int .i64 a0_2, .int .i64 a0_3, .int .i64 a0_4, .int .i64 a0_5, .int .i64 a0_6, .bool a0_7], .slice A1 l1.length c1] rfl zValEa8_ ?_; (with_reducible refine (value_may.calls a0_0 a0_1 a0_2 a0_3 a0_4 a0_5 a0_6 a0_7 _ _ l1 t189 _ ?side1 ?side2 (Val.Laid.below hLd_ zValEa1_) A6.out).mono ?_); (case side1 => repeat (first | exact (Kd.C_below HR1.out HB.out) | (with_reducible refine Kd.C_alloc ?_ _) | (with_reducible refine Kd.C_drewN ?_ _) | (with_reducible refine Kd.C_drew ?_))); (case side2 => exact HC1.out); rintro e w14 ⟨rfl, hb⟩; refine ⟨_, rfl, ?_⟩; have n0_ := Aside0.mk (blk_below (g := gb188) (o := .cells #[.string a0_0, .int .i64 a0_1, .int .i64 a0_2, .int .i64 a0_3, .int .i64 a0_4, .int .i64 a0_5, .int .i64 a0_6, .bool a0_7] 23 (0, 0)) zValEa0_ hb); have n1_ := Aside0.mk (below_step zValEa1_ hb); clear BK188; clear HB; have BK188 := n0_; have HB := n1_; clear n0_ n1_; (try clear hb); (try clear hb2); (try clear hk); (try clear hi)))
   go_meet
   case rel => exact ⟨_, (true), (by first | rfl | (simp; done) | (simp [*]; done)), H', ⟨by first | omega | exact Nat.le_refl _⟩, ⟨zValEa0_⟩, ⟨zValEa1_⟩⟩
  rw [if_pos c7] at H
  have c7b0 : (t189 == 0) = true := beq_iff_eq.mpr c7
  have c7b1 : (t189 != 0) = false := bne_eq_false_iff_eq.mpr c7
  clear c7
  (first | rw [c7b0] | (simp only [i64_w, i32_w]; rw [c7b0]) | skip)
  replace H := Option.bind_eq_some_iff.mp H
  obtain ⟨t190, A80, H⟩ := H
  replace H : (apr.j0 k l1 l2 (t190 != 0) a0_0 a0_1 a0_2 a0_3 a0_4 a0_5 a0_6 a0_7) = some (r1, r2) := H
  have A8 := Aside0.mk A80
  clear A80
  have H' := Aside0.mk H
  clear H
  have hcz9_0 : w5.cell? ⟨gb188, 0, none⟩ = some (.string a0_0) := (blk_cell BK188.out 0).trans rfl
  have hcz9_1 : w5.cell? ⟨gb188, 1, none⟩ = some (.int .i64 a0_1) := (blk_cell BK188.out 1).trans rfl
  have hcz9_2 : w5.cell? ⟨gb188, 2, none⟩ = some (.int .i64 a0_2) := (blk_cell BK188.out 2).trans rfl
  have hcz9_3 : w5.cell? ⟨gb188, 3, none⟩ = some (.int .i64 a0_3) := (blk_cell BK188.out 3).trans rfl
  have hcz9_4 : w5.cell? ⟨gb188, 4, none⟩ = some (.int .i64 a0_4) := (blk_cell BK188.out 4).trans rfl
  have hcz9_5 : w5.cell? ⟨gb188, 5, none⟩ = some (.int .i64 a0_5) := (blk_cell BK188.out 5).trans rfl
  have hcz9_6 : w5.cell? ⟨gb188, 6, none⟩ = some (.int .i64 a0_6) := (blk_cell BK188.out 6).trans rfl
  have hcz9_7 : w5.cell? ⟨gb188, 7, none⟩ = some (.bool a0_7) := (blk_cell BK188.out 7).trans rfl
  have hfz9_0 := blk_frozen BK188.out 0
  have hfz9_1 := blk_frozen BK188.out 1
  have hfz9_2 := blk_frozen BK188.out 2
  have hfz9_3 := blk_frozen BK188.out 3
  have hfz9_4 := blk_frozen BK188.out 4
  have hfz9_5 := blk_frozen BK188.out 5
  have hfz9_6 := blk_frozen BK188.out 6
  have hfz9_7 := blk_frozen BK188.out 7
  go_wp2_with (first | ((with_reducible refine gate_callee (f := 25) rfl ?_); refine goesL_ (some 13) rfl rfl Tryz.func25 (by kernel_rfl) rfl #[.agg #[.string a0_0, .int .i64 a0_1, .int .i64 a0_2, .int .i64 a0_3, .int .i64 a0_4, .int .i64 a0_5, .int .i64 a0_6, .bool a0_7], .slice A1 l1.length c1] rfl zValEa8_ ?_; (with_reducible refine (value_may.calls a0_0 a0_1 a0_2 a0_3 a0_4 a0_5 a0_6 a0_7 _ _ l1 t189 _ ?side1 ?side2 (Val.Laid.below hLd_ zValEa1_) A6.out).mono ?_); (case side1 => repeat (first | exact (Kd.C_below HR1.out HB.out) | (with_reducible refine Kd.C_alloc ?_ _) | (with_reducible refine Kd.C_drewN ?_ _) | (with_reducible refine Kd.C_drew ?_))); (case side2 => exact HC1.out); rintro e w10 ⟨rfl, hb⟩; refine ⟨_, rfl, ?_⟩; have n0_ := Aside0.mk (blk_below (g := gb188) (o := .cells #[.string a0_0, .int .i64 a0_1, .int .i64 a0_2, .int .i64 a0_3, .int .i64 a0_4, .int .i64 a0_5, .int .i64 a0_6, .bool a0_7] 23 (0, 0)) zValEa0_ hb); have n1_ := Aside0.mk (below_step zValEa1_ hb); clear BK188; clear HB; have BK188 := n0_; have HB := n1_; clear n0_ n1_; (try clear hb); (try clear hb2); (try clear hk); (try clear hi); have hcz11_0 : w10.cell? ⟨gb188, 0, none⟩ = some (.string a0_0) := (blk_cell BK188.out 0).trans rfl; have hcz11_1 : w10.cell? ⟨gb188, 1, none⟩ = some (.int .i64 a0_1) := (blk_cell BK188.out 1).trans rfl; have hcz11_2 : w10.cell? ⟨gb188, 2, none⟩ = some (.int .i64 a0_2) := (blk_cell BK188.out 2).trans rfl; have hcz11_3 : w10.cell? ⟨gb188, 3, none⟩ = some (.int .i64 a0_3) := (blk_cell BK188.out 3).trans rfl; have hcz11_4 : w10.cell? ⟨gb188, 4, none⟩ = some (.int .i64 a0_4) := (blk_cell BK188.out 4).trans rfl; have hcz11_5 : w10.cell? ⟨gb188, 5, none⟩ = some (.int .i64 a0_5) := (blk_cell BK188.out 5).trans rfl; have hcz11_6 : w10.cell? ⟨gb188, 6, none⟩ = some (.int .i64 a0_6) := (blk_cell BK188.out 6).trans rfl; have hcz11_7 : w10.cell? ⟨gb188, 7, none⟩ = some (.bool a0_7) := (blk_cell BK188.out 7).trans rfl; have hfz11_0 := blk_frozen BK188.out 0; have hfz11_1 := blk_frozen BK188.out 1; have hfz11_2 := blk_frozen BK188.out 2; have hfz11_3 := blk_frozen BK188.out 3; have hfz11_4 := blk_frozen BK188.out 4; have hfz11_5 := blk_frozen BK188.out 5; have hfz11_6 := blk_frozen BK188.out 6; have hfz11_7 := blk_frozen BK188.out 7) | (go_at_call 25; (with_reducible refine (value_may.calls a0_0 a0_1 a0_2 a0_3 a0_4 a0_5 a0_6 a0_7 _ _ l2 t190 _ ?side1 ?side2 (Val.Laid.below hLd_ zValEa1_) A8.out).mono ?_); (case side1 => repeat (first | exact (Kd.C_below HR2.out HB.out) | (with_reducible refine Kd.C_alloc ?_ _) | (with_reducible refine Kd.C_drewN ?_ _) | (with_reducible refine Kd.C_drew ?_))); (case side2 => exact HC2.out); rintro e w12 ⟨rfl, hb⟩; have n0_ := Aside0.mk (blk_below (g := gb188) (o := .cells #[.string a0_0, .int .i64 a0_1, .int .i64 a0_2, .int .i64 a0_3, .int .i64 a0_4, .int .i64 a0_5, .int .i64 a0_6, .bool a0_7] 23 (0, 0)) zValEa0_ hb); have n1_ := Aside0.mk (below_step zValEa1_ hb); clear BK188; clear HB; have BK188 := n0_; have HB := n1_; clear n0_ n1_; (try clear hb); (try clear hb2); (try clear hk); (try clear hi)))
  go_meet
  case rel => exact ⟨_, ((t190 != 0)), (by first | rfl | (simp; done) | (simp [*]; done)), H', ⟨by first | omega | exact Nat.le_refl _⟩, ⟨zValEa0_⟩, ⟨zValEa1_⟩⟩
 case rest =>
  clear HC4
  try clear c1
  try clear c2
  try clear p2
  try clear c7
  try clear c7b0
  try clear c7b1
  try clear hcz11_0
  try clear hcz11_1
  try clear hcz11_2
  try clear hcz11_3
  try clear hcz11_4
  try clear hcz11_5
  try clear hcz11_6
  try clear hcz11_7
  try clear hcz13_0
  try clear hcz13_1
  try clear hcz13_2
  try clear hcz13_3
  try clear hcz13_4
  try clear hcz13_5
  try clear hcz13_6
  try clear hcz13_7
  try clear hcz9_0
  try clear hcz9_1
  try clear hcz9_2
  try clear hcz9_3
  try clear hcz9_4
  try clear hcz9_5
  try clear hcz9_6
  try clear hcz9_7
  try clear hfz11_0
  try clear hfz11_1
  try clear hfz11_2
  try clear hfz11_3
  try clear hfz11_4
  try clear hfz11_5
  try clear hfz11_6
  try clear hfz11_7
  try clear hfz13_0
  try clear hfz13_1
  try clear hfz13_2
  try clear hfz13_3
  try clear hfz13_4
  try clear hfz13_5
  try clear hfz13_6
  try clear hfz13_7
  try clear hfz9_0
  try clear hfz9_1
  try clear hfz9_2
  try clear hfz9_3
  try clear hfz9_4
  try clear hfz9_5
  try clear hfz9_6
  try clear hfz9_7
  obtain ⟨kq, x20_3, rfl, HA, HJ3, BK188, HB⟩ := hcut
  cases kq with
  | zero => exact absurd HA.out (by simp [apr.j0])
  | succ kj3 =>
   have H := HA.out
   clear HA
   simp only [apr.j0] at H
   by_cases c15 : x20_3 = true
   ·
    subst c15
    have H1 : (some (false, 1)) = some (r1, r2) := by rw [if_pos rfl] at H; exact H
    clear H
    have H := H1
    clear H1
    simp only [Option.some.injEq, Prod.mk.injEq] at H
    obtain ⟨rfl, rfl⟩ := H
    go_wp2
    go_ret2
    exact ⟨zValEa12_, zValEa1_⟩
   replace c15 := Bool.eq_false_iff.mpr c15
   subst c15
   have H1 : (if a0_6 = 0 then ((slices_Equal_int_int.f kj3 l1 l2).bind fun t191 => (some (!t191, 0))) else ((value_of.f kj3 a0_0 a0_1 a0_2 a0_3 a0_4 a0_5 a0_6 a0_7 l1).bind fun bt192 => ((value_of.f kj3 a0_0 a0_1 a0_2 a0_3 a0_4 a0_5 a0_6 a0_7 l2).bind fun bt194 => (if (bt192.1 != bt194.1) = true then (if (IntKind.u64.wrap (bt192.2 + bt194.2)) < bt192.2 then (some (true, 0)) else (some (decide ((IntKind.u64.wrap (bt192.2 + bt194.2)) ≥ (IntKind.u64.wrap (a0_6))), 0))) else (some (decide ((IntKind.u64.wrap ((mx bt192.2 bt194.2) - (mn bt192.2 bt194.2))) ≥ (IntKind.u64.wrap (a0_6))), 0)))))) = some (r1, r2) := by rw [if_neg (show ¬ (false = true) by decide)] at H; exact H
   clear H
   have H := H1
   clear H1
   by_cases c16 : a0_6 = 0
   ·
    rw [if_pos c16] at H
    have c16b0 : (a0_6 == 0) = true := beq_iff_eq.mpr c16
    have c16b1 : (a0_6 != 0) = false := bne_eq_false_iff_eq.mpr c16
    clear c16
    replace H := Option.bind_eq_some_iff.mp H
    obtain ⟨t191, A170, H⟩ := H
    replace H : (some (!t191, 0)) = some (r1, r2) := H
    have A17 := Aside0.mk A170
    clear A170
    simp only [Option.some.injEq, Prod.mk.injEq] at H
    obtain ⟨rfl, rfl⟩ := H
    have hcz18_0 : wc.cell? ⟨gb188, 0, none⟩ = some (.string a0_0) := (blk_cell BK188.out 0).trans rfl
    have hcz18_1 : wc.cell? ⟨gb188, 1, none⟩ = some (.int .i64 a0_1) := (blk_cell BK188.out 1).trans rfl
    have hcz18_2 : wc.cell? ⟨gb188, 2, none⟩ = some (.int .i64 a0_2) := (blk_cell BK188.out 2).trans rfl
    have hcz18_3 : wc.cell? ⟨gb188, 3, none⟩ = some (.int .i64 a0_3) := (blk_cell BK188.out 3).trans rfl
    have hcz18_4 : wc.cell? ⟨gb188, 4, none⟩ = some (.int .i64 a0_4) := (blk_cell BK188.out 4).trans rfl
    have hcz18_5 : wc.cell? ⟨gb188, 5, none⟩ = some (.int .i64 a0_5) := (blk_cell BK188.out 5).trans rfl
    have hcz18_6 : wc.cell? ⟨gb188, 6, none⟩ = some (.int .i64 a0_6) := (blk_cell BK188.out 6).trans rfl
    have hcz18_7 : wc.cell? ⟨gb188, 7, none⟩ = some (.bool a0_7) := (blk_cell BK188.out 7).trans rfl
    have hfz18_0 := blk_frozen BK188.out 0
    have hfz18_1 := blk_frozen BK188.out 1
    have hfz18_2 := blk_frozen BK188.out 2
    have hfz18_3 := blk_frozen BK188.out 3
    have hfz18_4 := blk_frozen BK188.out 4
    have hfz18_5 := blk_frozen BK188.out 5
    have hfz18_6 := blk_frozen BK188.out 6
    have hfz18_7 := blk_frozen BK188.out 7
    go_wp2_with (first | ((with_reducible refine gate_callee (f := 32) rfl ?_); refine goesL_ (some 26) rfl rfl Tryz.func32 (by kernel_rfl) rfl #[.slice A1 l1.length c1, .slice A2 l2.length c2] rfl zValEa8_ ?_; (with_reducible refine (slices_Equal_int_int.calls kj3 _ _ l1 _ _ l2 t191 _ ?side1 ?side2 ?side3 ?side4 A17.out).mono ?_); (case side1 => repeat (first | exact (Kd.C_below HR1.out HB.out) | (with_reducible refine Kd.C_alloc ?_ _) | (with_reducible refine Kd.C_drewN ?_ _) | (with_reducible refine Kd.C_drew ?_))); (case side2 => exact HC1.out); (case side3 => repeat (first | exact (Kd.C_below HR2.out HB.out) | (with_reducible refine Kd.C_alloc ?_ _) | (with_reducible refine Kd.C_drewN ?_ _) | (with_reducible refine Kd.C_drew ?_))); (case side4 => exact HC2.out); rintro e w' ⟨rfl, ⟨nd, rfl⟩⟩; refine ⟨_, rfl, ?_⟩))
    go_ret2
    exact ⟨zValEa12_, zValEa1_⟩
   rw [if_neg c16] at H
   have c16b0 : (a0_6 == 0) = false := beq_eq_false_iff_ne.mpr c16
   have c16b1 : (a0_6 != 0) = true := bne_iff_ne.mpr c16
   replace H := Option.bind_eq_some_iff.mp H
   obtain ⟨⟨t192, t193⟩, A190, H⟩ := H
   replace H : ((value_of.f kj3 a0_0 a0_1 a0_2 a0_3 a0_4 a0_5 a0_6 a0_7 l2).bind fun bt194 => (if (t192 != bt194.1) = true then (if (IntKind.u64.wrap (t193 + bt194.2)) < t193 then (some (true, 0)) else (some (decide ((IntKind.u64.wrap (t193 + bt194.2)) ≥ (IntKind.u64.wrap (a0_6))), 0))) else (some (decide ((IntKind.u64.wrap ((mx t193 bt194.2) - (mn t193 bt194.2))) ≥ (IntKind.u64.wrap (a0_6))), 0)))) = some (r1, r2) := H
   have A19 := Aside0.mk A190
   clear A190
   replace H := Option.bind_eq_some_iff.mp H
   obtain ⟨⟨t194, t195⟩, A200, H⟩ := H
   replace H : (if (t192 != t194) = true then (if (IntKind.u64.wrap (t193 + t195)) < t193 then (some (true, 0)) else (some (decide ((IntKind.u64.wrap (t193 + t195)) ≥ (IntKind.u64.wrap (a0_6))), 0))) else (some (decide ((IntKind.u64.wrap ((mx t193 t195) - (mn t193 t195))) ≥ (IntKind.u64.wrap (a0_6))), 0))) = some (r1, r2) := H
   have A20 := Aside0.mk A200
   clear A200
   obtain ⟨ji21, hji21⟩ : ∃ j_ : Int, (mx t193 t195) = j_ := ⟨_, rfl⟩
   replace H : (if (t192 != t194) = true then (if (IntKind.u64.wrap (t193 + t195)) < t193 then (some (true, 0)) else (some (decide ((IntKind.u64.wrap (t193 + t195)) ≥ (IntKind.u64.wrap (a0_6))), 0))) else (some (decide ((IntKind.u64.wrap ((ji21) - (mn t193 t195))) ≥ (IntKind.u64.wrap (a0_6))), 0))) = some (r1, r2) := by first | (rw [hji21] at H; exact H) | (simp only [hji21] at H ⊢; exact H)
   (try rw [hji21] at A19)
   (try rw [hji21] at A20)
   have hji21_ : (if t193 < t195 then t195 else t193) = ji21 := hji21
   obtain ⟨ji22, hji22⟩ : ∃ j_ : Int, (mn t193 t195) = j_ := ⟨_, rfl⟩
   replace H : (if (t192 != t194) = true then (if (IntKind.u64.wrap (t193 + t195)) < t193 then (some (true, 0)) else (some (decide ((IntKind.u64.wrap (t193 + t195)) ≥ (IntKind.u64.wrap (a0_6))), 0))) else (some (decide ((IntKind.u64.wrap ((ji21) - (ji22))) ≥ (IntKind.u64.wrap (a0_6))), 0))) = some (r1, r2) := by first | (rw [hji22] at H; exact H) | (simp only [hji22] at H ⊢; exact H)
   (try rw [hji22] at A19)
   (try rw [hji22] at A20)
   have hji22_ : (if t195 < t193 then t195 else t193) = ji22 := hji22
   have AH_ := Aside0.mk H
   clear H
   have hcz58_0 : wc.cell? ⟨gb188, 0, none⟩ = some (.string a0_0) := (blk_cell BK188.out 0).trans rfl
   have hcz58_1 : wc.cell? ⟨gb188, 1, none⟩ = some (.int .i64 a0_1) := (blk_cell BK188.out 1).trans rfl
   have hcz58_2 : wc.cell? ⟨gb188, 2, none⟩ = some (.int .i64 a0_2) := (blk_cell BK188.out 2).trans rfl
   have hcz58_3 : wc.cell? ⟨gb188, 3, none⟩ = some (.int .i64 a0_3) := (blk_cell BK188.out 3).trans rfl
   have hcz58_4 : wc.cell? ⟨gb188, 4, none⟩ = some (.int .i64 a0_4) := (blk_cell BK188.out 4).trans rfl
   have hcz58_5 : wc.cell? ⟨gb188, 5, none⟩ = some (.int .i64 a0_5) := (blk_cell BK188.out 5).trans rfl
   have hcz58_6 : wc.cell? ⟨gb188, 6, none⟩ = some (.int .i64 a0_6) := (blk_cell BK188.out 6).trans rfl
   have hcz58_7 : wc.cell? ⟨gb188, 7, none⟩ = some (.bool a0_7) := (blk_cell BK188.out 7).trans rfl
   have hfz58_0 := blk_frozen BK188.out 0
   have hfz58_1 := blk_frozen BK188.out 1
   have hfz58_2 := blk_frozen BK188.out 2
   have hfz58_3 := blk_frozen BK188.out 3
   have hfz58_4 := blk_frozen BK188.out 4
   have hfz58_5 := blk_frozen BK188.out 5
   have hfz58_6 := blk_frozen BK188.out 6
   have hfz58_7 := blk_frozen BK188.out 7
   try go_wp2
   have n0_ := Aside0.mk (blk_drew BK188.out)
   have n1_ := Aside0.mk (below_drew1 HB.out)
   clear BK188
   clear HB
   have BK188 := n0_
   have HB := n1_
   clear n0_ n1_
   refine start_ (n := 10) (S := fun w' => w'.cell? ⟨gb188, 0, none⟩ = some (.string a0_0) ∧ w'.cell? ⟨gb188, 1, none⟩ = some (.int .i64 a0_1) ∧ w'.cell? ⟨gb188, 2, none⟩ = some (.int .i64 a0_2) ∧ w'.cell? ⟨gb188, 3, none⟩ = some (.int .i64 a0_3) ∧ w'.cell? ⟨gb188, 4, none⟩ = some (.int .i64 a0_4) ∧ w'.cell? ⟨gb188, 5, none⟩ = some (.int .i64 a0_5) ∧ w'.cell? ⟨gb188, 6, none⟩ = some (.int .i64 a0_6) ∧ w'.cell? ⟨gb188, 7, none⟩ = some (.bool a0_7)) (ds := []) #[false, false, false, false, false, false, false, false, false, false] (by kernel_rfl) rfl rfl ⟨(blk_cell BK188.out 0).trans rfl, (blk_cell BK188.out 1).trans rfl, (blk_cell BK188.out 2).trans rfl, (blk_cell BK188.out 3).trans rfl, (blk_cell BK188.out 4).trans rfl, (blk_cell BK188.out 5).trans rfl, (blk_cell BK188.out 6).trans rfl, (blk_cell BK188.out 7).trans rfl⟩ (fun hHeld => ?_); refine with_tabW apr.tab5 apr.bits5 (fun HT_ HW_ => ?_)
   generalize wc.drew = w59 at BK188 HB hHeld ⊢
   refine pure_ (i := 1) (N := some 29) (v := ?_) (a' := ?_) #[false, true, false, false, false, false, false, false, false, false] rfl rfl (any_of HT_.out (by kernel_rfl)) (fun _ _ _ h => h) (Or.inl ⟨by rfl, ?_⟩) ?_ ?_
   rotate_left
   ·
    intro w'
    go_simp
    with_reducible rfl
   rotate_left
   ·
    simp only [Act.put, List.setIfInBounds_toArray, List.set_cons_zero, List.set_cons_succ, i64_w, i32_w]
    rfl
   refine pure_ (i := 4) (N := some 32) (v := ?_) (a' := ?_) #[false, true, false, false, true, false, false, false, false, false] rfl rfl (any_of HT_.out (by kernel_rfl)) (fun _ _ _ h => h) (Or.inl ⟨by rfl, ?_⟩) ?_ ?_
   rotate_left
   ·
    intro w'
    go_simp
    with_reducible rfl
   rotate_left
   ·
    simp only [Act.put, List.setIfInBounds_toArray, List.set_cons_zero, List.set_cons_succ, i64_w, i32_w]
    rfl
   refine take_ (i := 0) (N := some 28) (v := ?_) (a' := ?_) #[true, true, false, false, true, false, false, false, false, false] rfl rfl (take_ofW HT_.out HW_.out (by kernel_rfl)) (fun _ _ _ h => h) (Or.inl ⟨by rfl, ?_⟩) hHeld ?_ ?_
   rotate_left
   ·
    rintro w' ⟨s0, s1, s2, s3, s4, s5, s6, s7⟩
    go_simp
    with_reducible rfl
   rotate_left
   ·
    simp only [Act.put, List.setIfInBounds_toArray, List.set_cons_zero, List.set_cons_succ, i64_w, i32_w]
    rfl
   refine take_ (i := 3) (N := some 31) (v := ?_) (a' := ?_) #[true, true, false, true, true, false, false, false, false, false] rfl rfl (take_ofW HT_.out HW_.out (by kernel_rfl)) (fun _ _ _ h => h) (Or.inl ⟨by rfl, ?_⟩) hHeld ?_ ?_
   rotate_left
   ·
    rintro w' ⟨s0, s1, s2, s3, s4, s5, s6, s7⟩
    go_simp
    with_reducible rfl
   rotate_left
   ·
    simp only [Act.put, List.setIfInBounds_toArray, List.set_cons_zero, List.set_cons_succ, i64_w, i32_w]
    rfl
   refine join_ (σ := Nat × Nat) 2 #[true, true, true, true, true, true, true, true, false, false] (fun s_ => [(30, .agg #[.bool t192, .int .u64 t193]), (33, .agg #[.bool t194, .int .u64 t195]), (8, .pointer (some ⟨s_.1, 0, none⟩)), (9, .pointer (some ⟨s_.2, 0, none⟩))]) (fun s_ w' => (w'.cell? ⟨gb188, 0, none⟩ = some (.string a0_0) ∧ w'.cell? ⟨gb188, 1, none⟩ = some (.int .i64 a0_1) ∧ w'.cell? ⟨gb188, 2, none⟩ = some (.int .i64 a0_2) ∧ w'.cell? ⟨gb188, 3, none⟩ = some (.int .i64 a0_3) ∧ w'.cell? ⟨gb188, 4, none⟩ = some (.int .i64 a0_4) ∧ w'.cell? ⟨gb188, 5, none⟩ = some (.int .i64 a0_5) ∧ w'.cell? ⟨gb188, 6, none⟩ = some (.int .i64 a0_6) ∧ w'.cell? ⟨gb188, 7, none⟩ = some (.bool a0_7)) ∧ (w'.heap[gb188]? = some (.cells #[.string a0_0, .int .i64 a0_1, .int .i64 a0_2, .int .i64 a0_3, .int .i64 a0_4, .int .i64 a0_5, .int .i64 a0_6, .bool a0_7] 23 (0, 0))) ∧ (w'.heap[s_.1]? = some (.cells #[.bool false, .int .u64 0] 66 (0, 0))) ∧ (w'.heap[s_.2]? = some (.cells #[.bool false, .int .u64 0] 66 (0, 0))) ∧ (w.heap.size ≤ s_.1) ∧ (w.heap.size ≤ s_.1) ∧ (gb188 ≠ s_.1) ∧ (s_.1 ≠ gb188) ∧ (s_.2 ≠ s_.1) ∧ (s_.1 ≠ s_.2) ∧ (w.heap.size ≤ s_.2) ∧ (w.heap.size ≤ s_.2) ∧ (gb188 ≠ s_.2) ∧ (s_.2 ≠ gb188) ∧ (Below w.heap.size w w')) ?_ ?_
   rotate_left
   ·
    intro hJ2_5_6_7
    refine join_ (σ := Nat) 3 #[true, true, true, true, true, true, true, false, false, false] (fun s_ => [(30, .agg #[.bool t192, .int .u64 t193]), (33, .agg #[.bool t194, .int .u64 t195]), (8, .pointer (some ⟨s_, 0, none⟩))]) (fun s_ w' => (w'.cell? ⟨gb188, 0, none⟩ = some (.string a0_0) ∧ w'.cell? ⟨gb188, 1, none⟩ = some (.int .i64 a0_1) ∧ w'.cell? ⟨gb188, 2, none⟩ = some (.int .i64 a0_2) ∧ w'.cell? ⟨gb188, 3, none⟩ = some (.int .i64 a0_3) ∧ w'.cell? ⟨gb188, 4, none⟩ = some (.int .i64 a0_4) ∧ w'.cell? ⟨gb188, 5, none⟩ = some (.int .i64 a0_5) ∧ w'.cell? ⟨gb188, 6, none⟩ = some (.int .i64 a0_6) ∧ w'.cell? ⟨gb188, 7, none⟩ = some (.bool a0_7)) ∧ (w'.heap[gb188]? = some (.cells #[.string a0_0, .int .i64 a0_1, .int .i64 a0_2, .int .i64 a0_3, .int .i64 a0_4, .int .i64 a0_5, .int .i64 a0_6, .bool a0_7] 23 (0, 0))) ∧ (w'.heap[s_]? = some (.cells #[.bool false, .int .u64 0] 66 (0, 0))) ∧ (w.heap.size ≤ s_) ∧ (w.heap.size ≤ s_) ∧ (gb188 ≠ s_) ∧ (s_ ≠ gb188) ∧ (Below w.heap.size w w')) ?_ ?_
    rotate_left
    ·
     intro hJ2_5_6
     refine join_ (σ := Nat) 3 #[true, true, true, true, true, true, false, true, false, false] (fun s_ => [(30, .agg #[.bool t192, .int .u64 t193]), (33, .agg #[.bool t194, .int .u64 t195]), (9, .pointer (some ⟨s_, 0, none⟩))]) (fun s_ w' => (w'.cell? ⟨gb188, 0, none⟩ = some (.string a0_0) ∧ w'.cell? ⟨gb188, 1, none⟩ = some (.int .i64 a0_1) ∧ w'.cell? ⟨gb188, 2, none⟩ = some (.int .i64 a0_2) ∧ w'.cell? ⟨gb188, 3, none⟩ = some (.int .i64 a0_3) ∧ w'.cell? ⟨gb188, 4, none⟩ = some (.int .i64 a0_4) ∧ w'.cell? ⟨gb188, 5, none⟩ = some (.int .i64 a0_5) ∧ w'.cell? ⟨gb188, 6, none⟩ = some (.int .i64 a0_6) ∧ w'.cell? ⟨gb188, 7, none⟩ = some (.bool a0_7)) ∧ (w'.heap[gb188]? = some (.cells #[.string a0_0, .int .i64 a0_1, .int .i64 a0_2, .int .i64 a0_3, .int .i64 a0_4, .int .i64 a0_5, .int .i64 a0_6, .bool a0_7] 23 (0, 0))) ∧ (w'.heap[s_]? = some (.cells #[.bool false, .int .u64 0] 66 (0, 0))) ∧ (w.heap.size ≤ s_) ∧ (w.heap.size ≤ s_) ∧ (gb188 ≠ s_) ∧ (s_ ≠ gb188) ∧ (Below w.heap.size w w')) ?_ ?_
     rotate_left
     ·
      intro hJ2_5_7
      refine join_ (σ := Nat × Nat) 3 #[true, true, true, true, true, false, true, true, false, false] (fun s_ => [(30, .agg #[.bool t192, .int .u64 t193]), (8, .pointer (some ⟨s_.1, 0, none⟩)), (9, .pointer (some ⟨s_.2, 0, none⟩))]) (fun s_ w' => (w'.cell? ⟨gb188, 0, none⟩ = some (.string a0_0) ∧ w'.cell? ⟨gb188, 1, none⟩ = some (.int .i64 a0_1) ∧ w'.cell? ⟨gb188, 2, none⟩ = some (.int .i64 a0_2) ∧ w'.cell? ⟨gb188, 3, none⟩ = some (.int .i64 a0_3) ∧ w'.cell? ⟨gb188, 4, none⟩ = some (.int .i64 a0_4) ∧ w'.cell? ⟨gb188, 5, none⟩ = some (.int .i64 a0_5) ∧ w'.cell? ⟨gb188, 6, none⟩ = some (.int .i64 a0_6) ∧ w'.cell? ⟨gb188, 7, none⟩ = some (.bool a0_7)) ∧ (w'.heap[gb188]? = some (.cells #[.string a0_0, .int .i64 a0_1, .int .i64 a0_2, .int .i64 a0_3, .int .i64 a0_4, .int .i64 a0_5, .int .i64 a0_6, .bool a0_7] 23 (0, 0))) ∧ (w'.heap[s_.1]? = some (.cells #[.bool false, .int .u64 0] 66 (0, 0))) ∧ (w'.heap[s_.2]? = some (.cells #[.bool false, .int .u64 0] 66 (0, 0))) ∧ (w.heap.size ≤ s_.1) ∧ (w.heap.size ≤ s_.1) ∧ (gb188 ≠ s_.1) ∧ (s_.1 ≠ gb188) ∧ (s_.2 ≠ s_.1) ∧ (s_.1 ≠ s_.2) ∧ (w.heap.size ≤ s_.2) ∧ (w.heap.size ≤ s_.2) ∧ (gb188 ≠ s_.2) ∧ (s_.2 ≠ gb188) ∧ (Below w.heap.size w w')) ?_ ?_
      rotate_left
      ·
       intro hJ2_6_7
       refine join_ (σ := Unit) 4 #[true, true, true, true, true, true, false, false, false, false] (fun s_ => [(30, .agg #[.bool t192, .int .u64 t193]), (33, .agg #[.bool t194, .int .u64 t195])]) (fun s_ w' => (w'.cell? ⟨gb188, 0, none⟩ = some (.string a0_0) ∧ w'.cell? ⟨gb188, 1, none⟩ = some (.int .i64 a0_1) ∧ w'.cell? ⟨gb188, 2, none⟩ = some (.int .i64 a0_2) ∧ w'.cell? ⟨gb188, 3, none⟩ = some (.int .i64 a0_3) ∧ w'.cell? ⟨gb188, 4, none⟩ = some (.int .i64 a0_4) ∧ w'.cell? ⟨gb188, 5, none⟩ = some (.int .i64 a0_5) ∧ w'.cell? ⟨gb188, 6, none⟩ = some (.int .i64 a0_6) ∧ w'.cell? ⟨gb188, 7, none⟩ = some (.bool a0_7)) ∧ (w'.heap[gb188]? = some (.cells #[.string a0_0, .int .i64 a0_1, .int .i64 a0_2, .int .i64 a0_3, .int .i64 a0_4, .int .i64 a0_5, .int .i64 a0_6, .bool a0_7] 23 (0, 0))) ∧ (Below w.heap.size w w')) ?_ ?_
       rotate_left
       ·
        intro hJ2_5
        refine join_ (σ := Nat) 4 #[true, true, true, true, true, false, true, false, false, false] (fun s_ => [(30, .agg #[.bool t192, .int .u64 t193]), (8, .pointer (some ⟨s_, 0, none⟩))]) (fun s_ w' => (w'.cell? ⟨gb188, 0, none⟩ = some (.string a0_0) ∧ w'.cell? ⟨gb188, 1, none⟩ = some (.int .i64 a0_1) ∧ w'.cell? ⟨gb188, 2, none⟩ = some (.int .i64 a0_2) ∧ w'.cell? ⟨gb188, 3, none⟩ = some (.int .i64 a0_3) ∧ w'.cell? ⟨gb188, 4, none⟩ = some (.int .i64 a0_4) ∧ w'.cell? ⟨gb188, 5, none⟩ = some (.int .i64 a0_5) ∧ w'.cell? ⟨gb188, 6, none⟩ = some (.int .i64 a0_6) ∧ w'.cell? ⟨gb188, 7, none⟩ = some (.bool a0_7)) ∧ (w'.heap[gb188]? = some (.cells #[.string a0_0, .int .i64 a0_1, .int .i64 a0_2, .int .i64 a0_3, .int .i64 a0_4, .int .i64 a0_5, .int .i64 a0_6, .bool a0_7] 23 (0, 0))) ∧ (w'.heap[s_]? = some (.cells #[.bool false, .int .u64 0] 66 (0, 0))) ∧ (w.heap.size ≤ s_) ∧ (w.heap.size ≤ s_) ∧ (gb188 ≠ s_) ∧ (s_ ≠ gb188) ∧ (Below w.heap.size w w')) ?_ ?_
        rotate_left
        ·
         intro hJ2_6
         refine join_ (σ := Nat) 4 #[true, true, true, true, true, false, false, true, false, false] (fun s_ => [(30, .agg #[.bool t192, .int .u64 t193]), (9, .pointer (some ⟨s_, 0, none⟩))]) (fun s_ w' => (w'.cell? ⟨gb188, 0, none⟩ = some (.string a0_0) ∧ w'.cell? ⟨gb188, 1, none⟩ = some (.int .i64 a0_1) ∧ w'.cell? ⟨gb188, 2, none⟩ = some (.int .i64 a0_2) ∧ w'.cell? ⟨gb188, 3, none⟩ = some (.int .i64 a0_3) ∧ w'.cell? ⟨gb188, 4, none⟩ = some (.int .i64 a0_4) ∧ w'.cell? ⟨gb188, 5, none⟩ = some (.int .i64 a0_5) ∧ w'.cell? ⟨gb188, 6, none⟩ = some (.int .i64 a0_6) ∧ w'.cell? ⟨gb188, 7, none⟩ = some (.bool a0_7)) ∧ (w'.heap[gb188]? = some (.cells #[.string a0_0, .int .i64 a0_1, .int .i64 a0_2, .int .i64 a0_3, .int .i64 a0_4, .int .i64 a0_5, .int .i64 a0_6, .bool a0_7] 23 (0, 0))) ∧ (w'.heap[s_]? = some (.cells #[.bool false, .int .u64 0] 66 (0, 0))) ∧ (w.heap.size ≤ s_) ∧ (w.heap.size ≤ s_) ∧ (gb188 ≠ s_) ∧ (s_ ≠ gb188) ∧ (Below w.heap.size w w')) ?_ ?_
         rotate_left
         ·
          intro hJ2_7
          refine join_ (σ := Nat × Nat) 4 #[true, true, false, true, true, false, true, true, false, false] (fun s_ => [(8, .pointer (some ⟨s_.1, 0, none⟩)), (9, .pointer (some ⟨s_.2, 0, none⟩))]) (fun s_ w' => (w'.cell? ⟨gb188, 0, none⟩ = some (.string a0_0) ∧ w'.cell? ⟨gb188, 1, none⟩ = some (.int .i64 a0_1) ∧ w'.cell? ⟨gb188, 2, none⟩ = some (.int .i64 a0_2) ∧ w'.cell? ⟨gb188, 3, none⟩ = some (.int .i64 a0_3) ∧ w'.cell? ⟨gb188, 4, none⟩ = some (.int .i64 a0_4) ∧ w'.cell? ⟨gb188, 5, none⟩ = some (.int .i64 a0_5) ∧ w'.cell? ⟨gb188, 6, none⟩ = some (.int .i64 a0_6) ∧ w'.cell? ⟨gb188, 7, none⟩ = some (.bool a0_7)) ∧ (w'.heap[gb188]? = some (.cells #[.string a0_0, .int .i64 a0_1, .int .i64 a0_2, .int .i64 a0_3, .int .i64 a0_4, .int .i64 a0_5, .int .i64 a0_6, .bool a0_7] 23 (0, 0))) ∧ (w'.heap[s_.1]? = some (.cells #[.bool false, .int .u64 0] 66 (0, 0))) ∧ (w'.heap[s_.2]? = some (.cells #[.bool false, .int .u64 0] 66 (0, 0))) ∧ (w.heap.size ≤ s_.1) ∧ (w.heap.size ≤ s_.1) ∧ (gb188 ≠ s_.1) ∧ (s_.1 ≠ gb188) ∧ (s_.2 ≠ s_.1) ∧ (s_.1 ≠ s_.2) ∧ (w.heap.size ≤ s_.2) ∧ (w.heap.size ≤ s_.2) ∧ (gb188 ≠ s_.2) ∧ (s_.2 ≠ gb188) ∧ (Below w.heap.size w w')) ?_ ?_
          rotate_left
          ·
           intro hJ6_7
           refine join_ (σ := Unit) 5 #[true, true, true, true, true, false, false, false, false, false] (fun s_ => [(30, .agg #[.bool t192, .int .u64 t193])]) (fun s_ w' => (w'.cell? ⟨gb188, 0, none⟩ = some (.string a0_0) ∧ w'.cell? ⟨gb188, 1, none⟩ = some (.int .i64 a0_1) ∧ w'.cell? ⟨gb188, 2, none⟩ = some (.int .i64 a0_2) ∧ w'.cell? ⟨gb188, 3, none⟩ = some (.int .i64 a0_3) ∧ w'.cell? ⟨gb188, 4, none⟩ = some (.int .i64 a0_4) ∧ w'.cell? ⟨gb188, 5, none⟩ = some (.int .i64 a0_5) ∧ w'.cell? ⟨gb188, 6, none⟩ = some (.int .i64 a0_6) ∧ w'.cell? ⟨gb188, 7, none⟩ = some (.bool a0_7)) ∧ (w'.heap[gb188]? = some (.cells #[.string a0_0, .int .i64 a0_1, .int .i64 a0_2, .int .i64 a0_3, .int .i64 a0_4, .int .i64 a0_5, .int .i64 a0_6, .bool a0_7] 23 (0, 0))) ∧ (Below w.heap.size w w')) ?_ ?_
           rotate_left
           ·
            intro hJ2
            refine join_ (σ := Nat) 5 #[true, true, false, true, true, false, true, false, false, false] (fun s_ => [(8, .pointer (some ⟨s_, 0, none⟩))]) (fun s_ w' => (w'.cell? ⟨gb188, 0, none⟩ = some (.string a0_0) ∧ w'.cell? ⟨gb188, 1, none⟩ = some (.int .i64 a0_1) ∧ w'.cell? ⟨gb188, 2, none⟩ = some (.int .i64 a0_2) ∧ w'.cell? ⟨gb188, 3, none⟩ = some (.int .i64 a0_3) ∧ w'.cell? ⟨gb188, 4, none⟩ = some (.int .i64 a0_4) ∧ w'.cell? ⟨gb188, 5, none⟩ = some (.int .i64 a0_5) ∧ w'.cell? ⟨gb188, 6, none⟩ = some (.int .i64 a0_6) ∧ w'.cell? ⟨gb188, 7, none⟩ = some (.bool a0_7)) ∧ (w'.heap[gb188]? = some (.cells #[.string a0_0, .int .i64 a0_1, .int .i64 a0_2, .int .i64 a0_3, .int .i64 a0_4, .int .i64 a0_5, .int .i64 a0_6, .bool a0_7] 23 (0, 0))) ∧ (w'.heap[s_]? = some (.cells #[.bool false, .int .u64 0] 66 (0, 0))) ∧ (w.heap.size ≤ s_) ∧ (w.heap.size ≤ s_) ∧ (gb188 ≠ s_) ∧ (s_ ≠ gb188) ∧ (Below w.heap.size w w')) ?_ ?_
            rotate_left
            ·
             intro hJ6
             refine join_ (σ := Nat) 5 #[true, true, false, true, true, false, false, true, false, false] (fun s_ => [(9, .pointer (some ⟨s_, 0, none⟩))]) (fun s_ w' => (w'.cell? ⟨gb188, 0, none⟩ = some (.string a0_0) ∧ w'.cell? ⟨gb188, 1, none⟩ = some (.int .i64 a0_1) ∧ w'.cell? ⟨gb188, 2, none⟩ = some (.int .i64 a0_2) ∧ w'.cell? ⟨gb188, 3, none⟩ = some (.int .i64 a0_3) ∧ w'.cell? ⟨gb188, 4, none⟩ = some (.int .i64 a0_4) ∧ w'.cell? ⟨gb188, 5, none⟩ = some (.int .i64 a0_5) ∧ w'.cell? ⟨gb188, 6, none⟩ = some (.int .i64 a0_6) ∧ w'.cell? ⟨gb188, 7, none⟩ = some (.bool a0_7)) ∧ (w'.heap[gb188]? = some (.cells #[.string a0_0, .int .i64 a0_1, .int .i64 a0_2, .int .i64 a0_3, .int .i64 a0_4, .int .i64 a0_5, .int .i64 a0_6, .bool a0_7] 23 (0, 0))) ∧ (w'.heap[s_]? = some (.cells #[.bool false, .int .u64 0] 66 (0, 0))) ∧ (w.heap.size ≤ s_) ∧ (w.heap.size ≤ s_) ∧ (gb188 ≠ s_) ∧ (s_ ≠ gb188) ∧ (Below w.heap.size w w')) ?_ ?_
             rotate_left
             ·
              intro hJ7
              refine three_ (i := 2) (j := 6) (k := 7) (Ni := some 30) (Nj := some 8) (Nk := some 9) #[true, true, true, true, true, false, false, false, false, false] #[true, true, false, true, true, false, true, false, false, false] #[true, true, false, true, true, false, false, true, false, false] rfl rfl rfl rfl rfl rfl (three_of HT_.out (by kernel_rfl)) (by decide) (by decide) (by decide) (fun K hK => ?_) (fun K hK => ?_) (fun K hK => ?_)
              ·
               skip
               refine goes_ Tryz.func30 (by kernel_rfl) rfl #[.agg #[.string a0_0, .int .i64 a0_1, .int .i64 a0_2, .int .i64 a0_3, .int .i64 a0_4, .int .i64 a0_5, .int .i64 a0_6, .bool a0_7], .slice A1 l1.length c1] (by rfl) rfl rfl zValEa8_ ?_
               with_reducible refine (value_of.calls kj3 a0_0 a0_1 a0_2 a0_3 a0_4 a0_5 a0_6 a0_7 _ _ l1 t192 t193 _ ?side1 ?side2 A19.out).mono ?_
               (case side1 => repeat (first | exact (Kd.C_below HR1.out HB.out) | (with_reducible refine Kd.C_alloc ?_ _) | (with_reducible refine Kd.C_drewN ?_ _) | (with_reducible refine Kd.C_drew ?_)))
               (case side2 => exact HC1.out)
               rintro e w60 ⟨rfl, hb⟩
               refine ⟨_, rfl, ?_⟩
               have n0_ := Aside0.mk (blk_below (g := gb188) (o := .cells #[.string a0_0, .int .i64 a0_1, .int .i64 a0_2, .int .i64 a0_3, .int .i64 a0_4, .int .i64 a0_5, .int .i64 a0_6, .bool a0_7] 23 (0, 0)) zValEa0_ hb)
               have n1_ := Aside0.mk (below_step zValEa1_ hb)
               clear BK188
               clear HB
               have BK188 := n0_
               have HB := n1_
               clear n0_ n1_
               (try clear hb)
               (try clear hb2)
               (try clear hk)
               (try clear hi)
               refine hK.out _ _ ⟨(blk_cell BK188.out 0).trans rfl, (blk_cell BK188.out 1).trans rfl, (blk_cell BK188.out 2).trans rfl, (blk_cell BK188.out 3).trans rfl, (blk_cell BK188.out 4).trans rfl, (blk_cell BK188.out 5).trans rfl, (blk_cell BK188.out 6).trans rfl, (blk_cell BK188.out 7).trans rfl⟩ (fun hHeld => ?_)
               clear hK K
               refine norm_ (a' := ?_) ?_ ?_
               rotate_left
               ·
                show Act.put _ (some 30) _ = _
                simp only [Act.put, List.setIfInBounds_toArray, List.set_cons_zero, List.set_cons_succ, i64_w, i32_w]
                rfl
               exact norm_ zValEa2_ (hJ2 () _ ⟨hHeld, zValEa0_, zValEa1_⟩)
              ·
               skip
               refine box_step ?hg (N := 8) ?hd (cs := #[.bool false, .int .u64 0]) (t := 66) ?hr ?_; (case hd => rfl); (case hg => rfl); (case hr => first | (go_simp; done) | (go_simp; rfl))
               intro gb196 hg w60 hbox hb
               have n0_ := Aside0.mk (blk_below (g := gb188) (o := .cells #[.string a0_0, .int .i64 a0_1, .int .i64 a0_2, .int .i64 a0_3, .int .i64 a0_4, .int .i64 a0_5, .int .i64 a0_6, .bool a0_7] 23 (0, 0)) zValEa0_ hb)
               have n1_ := Aside0.mk (below_step zValEa1_ hb)
               have n2_ := Aside0.mk (hbox)
               have n3_ := Aside0.mk ((by rw [hg]; exact (below_size zValEa1_) : w.heap.size ≤ gb196))
               have n4_ := Aside0.mk ((by rw [hg]; exact (below_size zValEa1_) : w.heap.size ≤ gb196))
               have n5_ := Aside0.mk ((by rw [hg]; exact Nat.ne_of_lt (blk_lt (g := gb188) (o := .cells #[.string a0_0, .int .i64 a0_1, .int .i64 a0_2, .int .i64 a0_3, .int .i64 a0_4, .int .i64 a0_5, .int .i64 a0_6, .bool a0_7] 23 (0, 0)) zValEa0_) : gb188 ≠ gb196))
               have n6_ := Aside0.mk ((by rw [hg]; exact Nat.ne_of_gt (blk_lt (g := gb188) (o := .cells #[.string a0_0, .int .i64 a0_1, .int .i64 a0_2, .int .i64 a0_3, .int .i64 a0_4, .int .i64 a0_5, .int .i64 a0_6, .bool a0_7] 23 (0, 0)) zValEa0_) : gb196 ≠ gb188))
               clear BK188
               clear HB
               have BK188 := n0_
               have HB := n1_
               have BK196 := n2_
               have GW196 := n3_
               have GE196 := n4_
               have NB188_196 := n5_
               have NB196_188 := n6_
               clear n0_ n1_ n2_ n3_ n4_ n5_ n6_
               clear hb hbox hg
               refine hK.out _ _ ⟨(blk_cell BK188.out 0).trans rfl, (blk_cell BK188.out 1).trans rfl, (blk_cell BK188.out 2).trans rfl, (blk_cell BK188.out 3).trans rfl, (blk_cell BK188.out 4).trans rfl, (blk_cell BK188.out 5).trans rfl, (blk_cell BK188.out 6).trans rfl, (blk_cell BK188.out 7).trans rfl⟩ (fun hHeld => ?_)
               clear hK K
               refine norm_ (a' := ?_) ?_ ?_
               rotate_left
               ·
                show Act.put _ (some 8) _ = _
                simp only [Act.put, List.setIfInBounds_toArray, List.set_cons_zero, List.set_cons_succ, i64_w, i32_w]
                rfl
               exact norm_ zValEa2_ (hJ6 (gb196) _ ⟨hHeld, zValEa0_, zValEa5_, GW196.out, GE196.out, NB188_196.out, NB196_188.out, zValEa3_⟩)
              ·
               skip
               refine box_step ?hg (N := 9) ?hd (cs := #[.bool false, .int .u64 0]) (t := 66) ?hr ?_; (case hd => rfl); (case hg => rfl); (case hr => first | (go_simp; done) | (go_simp; rfl))
               intro gb197 hg w60 hbox hb
               have n0_ := Aside0.mk (blk_below (g := gb188) (o := .cells #[.string a0_0, .int .i64 a0_1, .int .i64 a0_2, .int .i64 a0_3, .int .i64 a0_4, .int .i64 a0_5, .int .i64 a0_6, .bool a0_7] 23 (0, 0)) zValEa0_ hb)
               have n1_ := Aside0.mk (below_step zValEa1_ hb)
               have n2_ := Aside0.mk (hbox)
               have n3_ := Aside0.mk ((by rw [hg]; exact (below_size zValEa1_) : w.heap.size ≤ gb197))
               have n4_ := Aside0.mk ((by rw [hg]; exact (below_size zValEa1_) : w.heap.size ≤ gb197))
               have n5_ := Aside0.mk ((by rw [hg]; exact Nat.ne_of_lt (blk_lt (g := gb188) (o := .cells #[.string a0_0, .int .i64 a0_1, .int .i64 a0_2, .int .i64 a0_3, .int .i64 a0_4, .int .i64 a0_5, .int .i64 a0_6, .bool a0_7] 23 (0, 0)) zValEa0_) : gb188 ≠ gb197))
               have n6_ := Aside0.mk ((by rw [hg]; exact Nat.ne_of_gt (blk_lt (g := gb188) (o := .cells #[.string a0_0, .int .i64 a0_1, .int .i64 a0_2, .int .i64 a0_3, .int .i64 a0_4, .int .i64 a0_5, .int .i64 a0_6, .bool a0_7] 23 (0, 0)) zValEa0_) : gb197 ≠ gb188))
               clear BK188
               clear HB
               have BK188 := n0_
               have HB := n1_
               have BK197 := n2_
               have GW197 := n3_
               have GE197 := n4_
               have NB188_197 := n5_
               have NB197_188 := n6_
               clear n0_ n1_ n2_ n3_ n4_ n5_ n6_
               clear hb hbox hg
               refine hK.out _ _ ⟨(blk_cell BK188.out 0).trans rfl, (blk_cell BK188.out 1).trans rfl, (blk_cell BK188.out 2).trans rfl, (blk_cell BK188.out 3).trans rfl, (blk_cell BK188.out 4).trans rfl, (blk_cell BK188.out 5).trans rfl, (blk_cell BK188.out 6).trans rfl, (blk_cell BK188.out 7).trans rfl⟩ (fun hHeld => ?_)
               clear hK K
               refine norm_ (a' := ?_) ?_ ?_
               rotate_left
               ·
                show Act.put _ (some 9) _ = _
                simp only [Act.put, List.setIfInBounds_toArray, List.set_cons_zero, List.set_cons_succ, i64_w, i32_w]
                rfl
               exact norm_ zValEa2_ (hJ7 (gb197) _ ⟨hHeld, zValEa0_, zValEa6_, GW197.out, GE197.out, NB188_197.out, NB197_188.out, zValEa4_⟩)
             ·
              skip
              rintro gb197 w61 ⟨hS_, h0_, h1_, h2_, h3_, h4_, h5_, h6_⟩
              have n0_ : Aside0 (w61.heap[gb188]? = some (.cells #[.string a0_0, .int .i64 a0_1, .int .i64 a0_2, .int .i64 a0_3, .int .i64 a0_4, .int .i64 a0_5, .int .i64 a0_6, .bool a0_7] 23 (0, 0))) := ⟨h0_⟩
              have n1_ : Aside0 (w61.heap[gb197]? = some (.cells #[.bool false, .int .u64 0] 66 (0, 0))) := ⟨h1_⟩
              have n2_ : Aside0 (w.heap.size ≤ gb197) := ⟨h2_⟩
              have n3_ : Aside0 (w.heap.size ≤ gb197) := ⟨h3_⟩
              have n4_ : Aside0 (gb188 ≠ gb197) := ⟨h4_⟩
              have n5_ : Aside0 (gb197 ≠ gb188) := ⟨h5_⟩
              have n6_ : Aside0 (Below w.heap.size w w61) := ⟨h6_⟩
              clear BK188
              clear HB
              clear h0_ h1_ h2_ h3_ h4_ h5_ h6_
              have BK188 := n0_
              have BK197 := n1_
              have GW197 := n2_
              have GE197 := n3_
              have NB188_197 := n4_
              have NB197_188 := n5_
              have HB := n6_
              clear n0_ n1_ n2_ n3_ n4_ n5_ n6_
              have hHeld : w61.cell? ⟨gb188, 0, none⟩ = some (.string a0_0) ∧ w61.cell? ⟨gb188, 1, none⟩ = some (.int .i64 a0_1) ∧ w61.cell? ⟨gb188, 2, none⟩ = some (.int .i64 a0_2) ∧ w61.cell? ⟨gb188, 3, none⟩ = some (.int .i64 a0_3) ∧ w61.cell? ⟨gb188, 4, none⟩ = some (.int .i64 a0_4) ∧ w61.cell? ⟨gb188, 5, none⟩ = some (.int .i64 a0_5) ∧ w61.cell? ⟨gb188, 6, none⟩ = some (.int .i64 a0_6) ∧ w61.cell? ⟨gb188, 7, none⟩ = some (.bool a0_7) := hS_
              refine norm_ (a' := ?_) ?_ ?_
              rotate_left
              ·
               simp only [putAll, Act.put, List.setIfInBounds_toArray, List.set_cons_zero, List.set_cons_succ]
               rfl
              refine two_ (i := 2) (j := 6) (Ni := some 30) (Nj := some 8) #[true, true, true, true, true, false, false, true, false, false] #[true, true, false, true, true, false, true, true, false, false] rfl rfl rfl rfl (two_of HT_.out (by kernel_rfl)) (by decide) (by decide) (fun K hK => ?_) (fun K hK => ?_)
              ·
               skip
               refine goes_ Tryz.func30 (by kernel_rfl) rfl #[.agg #[.string a0_0, .int .i64 a0_1, .int .i64 a0_2, .int .i64 a0_3, .int .i64 a0_4, .int .i64 a0_5, .int .i64 a0_6, .bool a0_7], .slice A1 l1.length c1] (by rfl) rfl rfl zValEa8_ ?_
               with_reducible refine (value_of.calls kj3 a0_0 a0_1 a0_2 a0_3 a0_4 a0_5 a0_6 a0_7 _ _ l1 t192 t193 _ ?side1 ?side2 A19.out).mono ?_
               (case side1 => repeat (first | exact (Kd.C_below HR1.out HB.out) | (with_reducible refine Kd.C_alloc ?_ _) | (with_reducible refine Kd.C_drewN ?_ _) | (with_reducible refine Kd.C_drew ?_)))
               (case side2 => exact HC1.out)
               rintro e w62 ⟨rfl, hb⟩
               refine ⟨_, rfl, ?_⟩
               have n0_ := Aside0.mk (blk_below (g := gb188) (o := .cells #[.string a0_0, .int .i64 a0_1, .int .i64 a0_2, .int .i64 a0_3, .int .i64 a0_4, .int .i64 a0_5, .int .i64 a0_6, .bool a0_7] 23 (0, 0)) zValEa0_ hb)
               have n1_ := Aside0.mk (blk_below (g := gb197) (o := .cells #[.bool false, .int .u64 0] 66 (0, 0)) zValEa6_ hb)
               have n2_ := Aside0.mk (below_step zValEa4_ hb)
               clear BK188
               clear BK197
               clear HB
               have BK188 := n0_
               have BK197 := n1_
               have HB := n2_
               clear n0_ n1_ n2_
               (try clear hb)
               (try clear hb2)
               (try clear hk)
               (try clear hi)
               refine hK.out _ _ ⟨(blk_cell BK188.out 0).trans rfl, (blk_cell BK188.out 1).trans rfl, (blk_cell BK188.out 2).trans rfl, (blk_cell BK188.out 3).trans rfl, (blk_cell BK188.out 4).trans rfl, (blk_cell BK188.out 5).trans rfl, (blk_cell BK188.out 6).trans rfl, (blk_cell BK188.out 7).trans rfl⟩ (fun hHeld => ?_)
               clear hK K
               refine norm_ (a' := ?_) ?_ ?_
               rotate_left
               ·
                show Act.put _ (some 30) _ = _
                simp only [Act.put, List.setIfInBounds_toArray, List.set_cons_zero, List.set_cons_succ, i64_w, i32_w]
                rfl
               exact norm_ zValEa2_ (hJ2_7 (gb197) _ ⟨hHeld, zValEa0_, zValEa6_, GW197.out, GE197.out, NB188_197.out, NB197_188.out, zValEa4_⟩)
              ·
               skip
               refine box_step ?hg (N := 8) ?hd (cs := #[.bool false, .int .u64 0]) (t := 66) ?hr ?_; (case hd => rfl); (case hg => rfl); (case hr => first | (go_simp; done) | (go_simp; rfl))
               intro gb196 hg w62 hbox hb
               have n0_ := Aside0.mk (blk_below (g := gb188) (o := .cells #[.string a0_0, .int .i64 a0_1, .int .i64 a0_2, .int .i64 a0_3, .int .i64 a0_4, .int .i64 a0_5, .int .i64 a0_6, .bool a0_7] 23 (0, 0)) zValEa0_ hb)
               have n1_ := Aside0.mk (blk_below (g := gb197) (o := .cells #[.bool false, .int .u64 0] 66 (0, 0)) zValEa6_ hb)
               have n2_ := Aside0.mk (below_step zValEa4_ hb)
               have n3_ := Aside0.mk (hbox)
               have n4_ := Aside0.mk ((by rw [hg]; exact (below_size zValEa4_) : w.heap.size ≤ gb196))
               have n5_ := Aside0.mk ((by rw [hg]; exact (below_size zValEa4_) : w.heap.size ≤ gb196))
               have n6_ := Aside0.mk ((by rw [hg]; exact Nat.ne_of_lt (blk_lt (g := gb188) (o := .cells #[.string a0_0, .int .i64 a0_1, .int .i64 a0_2, .int .i64 a0_3, .int .i64 a0_4, .int .i64 a0_5, .int .i64 a0_6, .bool a0_7] 23 (0, 0)) zValEa0_) : gb188 ≠ gb196))
               have n7_ := Aside0.mk ((by rw [hg]; exact Nat.ne_of_gt (blk_lt (g := gb188) (o := .cells #[.string a0_0, .int .i64 a0_1, .int .i64 a0_2, .int .i64 a0_3, .int .i64 a0_4, .int .i64 a0_5, .int .i64 a0_6, .bool a0_7] 23 (0, 0)) zValEa0_) : gb196 ≠ gb188))
               have n8_ := Aside0.mk ((by rw [hg]; exact Nat.ne_of_lt (blk_lt (g := gb197) (o := .cells #[.bool false, .int .u64 0] 66 (0, 0)) zValEa6_) : gb197 ≠ gb196))
               have n9_ := Aside0.mk ((by rw [hg]; exact Nat.ne_of_gt (blk_lt (g := gb197) (o := .cells #[.bool false, .int .u64 0] 66 (0, 0)) zValEa6_) : gb196 ≠ gb197))
               clear BK188
               clear BK197
               clear HB
               have BK188 := n0_
               have BK197 := n1_
               have HB := n2_
               have BK196 := n3_
               have GW196 := n4_
               have GE196 := n5_
               have NB188_196 := n6_
               have NB196_188 := n7_
               have NB197_196 := n8_
               have NB196_197 := n9_
               clear n0_ n1_ n2_ n3_ n4_ n5_ n6_ n7_ n8_ n9_
               clear hb hbox hg
               refine hK.out _ _ ⟨(blk_cell BK188.out 0).trans rfl, (blk_cell BK188.out 1).trans rfl, (blk_cell BK188.out 2).trans rfl, (blk_cell BK188.out 3).trans rfl, (blk_cell BK188.out 4).trans rfl, (blk_cell BK188.out 5).trans rfl, (blk_cell BK188.out 6).trans rfl, (blk_cell BK188.out 7).trans rfl⟩ (fun hHeld => ?_)
               clear hK K
               refine norm_ (a' := ?_) ?_ ?_
               rotate_left
               ·
                show Act.put _ (some 8) _ = _
                simp only [Act.put, List.setIfInBounds_toArray, List.set_cons_zero, List.set_cons_succ, i64_w, i32_w]
                rfl
               exact norm_ zValEa2_ (hJ6_7 (gb196, gb197) _ ⟨hHeld, zValEa0_, zValEa5_, zValEa6_, GW196.out, GE196.out, NB188_196.out, NB196_188.out, NB197_196.out, NB196_197.out, GW197.out, GE197.out, NB188_197.out, NB197_188.out, zValEa9_⟩)
            ·
             skip
             rintro gb196 w61 ⟨hS_, h0_, h1_, h2_, h3_, h4_, h5_, h6_⟩
             have n0_ : Aside0 (w61.heap[gb188]? = some (.cells #[.string a0_0, .int .i64 a0_1, .int .i64 a0_2, .int .i64 a0_3, .int .i64 a0_4, .int .i64 a0_5, .int .i64 a0_6, .bool a0_7] 23 (0, 0))) := ⟨h0_⟩
             have n1_ : Aside0 (w61.heap[gb196]? = some (.cells #[.bool false, .int .u64 0] 66 (0, 0))) := ⟨h1_⟩
             have n2_ : Aside0 (w.heap.size ≤ gb196) := ⟨h2_⟩
             have n3_ : Aside0 (w.heap.size ≤ gb196) := ⟨h3_⟩
             have n4_ : Aside0 (gb188 ≠ gb196) := ⟨h4_⟩
             have n5_ : Aside0 (gb196 ≠ gb188) := ⟨h5_⟩
             have n6_ : Aside0 (Below w.heap.size w w61) := ⟨h6_⟩
             clear BK188
             clear HB
             clear h0_ h1_ h2_ h3_ h4_ h5_ h6_
             have BK188 := n0_
             have BK196 := n1_
             have GW196 := n2_
             have GE196 := n3_
             have NB188_196 := n4_
             have NB196_188 := n5_
             have HB := n6_
             clear n0_ n1_ n2_ n3_ n4_ n5_ n6_
             have hHeld : w61.cell? ⟨gb188, 0, none⟩ = some (.string a0_0) ∧ w61.cell? ⟨gb188, 1, none⟩ = some (.int .i64 a0_1) ∧ w61.cell? ⟨gb188, 2, none⟩ = some (.int .i64 a0_2) ∧ w61.cell? ⟨gb188, 3, none⟩ = some (.int .i64 a0_3) ∧ w61.cell? ⟨gb188, 4, none⟩ = some (.int .i64 a0_4) ∧ w61.cell? ⟨gb188, 5, none⟩ = some (.int .i64 a0_5) ∧ w61.cell? ⟨gb188, 6, none⟩ = some (.int .i64 a0_6) ∧ w61.cell? ⟨gb188, 7, none⟩ = some (.bool a0_7) := hS_
             refine norm_ (a' := ?_) ?_ ?_
             rotate_left
             ·
              simp only [putAll, Act.put, List.setIfInBounds_toArray, List.set_cons_zero, List.set_cons_succ]
              rfl
             refine two_ (i := 2) (j := 7) (Ni := some 30) (Nj := some 9) #[true, true, true, true, true, false, true, false, false, false] #[true, true, false, true, true, false, true, true, false, false] rfl rfl rfl rfl (two_of HT_.out (by kernel_rfl)) (by decide) (by decide) (fun K hK => ?_) (fun K hK => ?_)
             ·
              skip
              refine goes_ Tryz.func30 (by kernel_rfl) rfl #[.agg #[.string a0_0, .int .i64 a0_1, .int .i64 a0_2, .int .i64 a0_3, .int .i64 a0_4, .int .i64 a0_5, .int .i64 a0_6, .bool a0_7], .slice A1 l1.length c1] (by rfl) rfl rfl zValEa8_ ?_
              with_reducible refine (value_of.calls kj3 a0_0 a0_1 a0_2 a0_3 a0_4 a0_5 a0_6 a0_7 _ _ l1 t192 t193 _ ?side1 ?side2 A19.out).mono ?_
              (case side1 => repeat (first | exact (Kd.C_below HR1.out HB.out) | (with_reducible refine Kd.C_alloc ?_ _) | (with_reducible refine Kd.C_drewN ?_ _) | (with_reducible refine Kd.C_drew ?_)))
              (case side2 => exact HC1.out)
              rintro e w62 ⟨rfl, hb⟩
              refine ⟨_, rfl, ?_⟩
              have n0_ := Aside0.mk (blk_below (g := gb188) (o := .cells #[.string a0_0, .int .i64 a0_1, .int .i64 a0_2, .int .i64 a0_3, .int .i64 a0_4, .int .i64 a0_5, .int .i64 a0_6, .bool a0_7] 23 (0, 0)) zValEa0_ hb)
              have n1_ := Aside0.mk (blk_below (g := gb196) (o := .cells #[.bool false, .int .u64 0] 66 (0, 0)) zValEa5_ hb)
              have n2_ := Aside0.mk (below_step zValEa3_ hb)
              clear BK188
              clear BK196
              clear HB
              have BK188 := n0_
              have BK196 := n1_
              have HB := n2_
              clear n0_ n1_ n2_
              (try clear hb)
              (try clear hb2)
              (try clear hk)
              (try clear hi)
              refine hK.out _ _ ⟨(blk_cell BK188.out 0).trans rfl, (blk_cell BK188.out 1).trans rfl, (blk_cell BK188.out 2).trans rfl, (blk_cell BK188.out 3).trans rfl, (blk_cell BK188.out 4).trans rfl, (blk_cell BK188.out 5).trans rfl, (blk_cell BK188.out 6).trans rfl, (blk_cell BK188.out 7).trans rfl⟩ (fun hHeld => ?_)
              clear hK K
              refine norm_ (a' := ?_) ?_ ?_
              rotate_left
              ·
               show Act.put _ (some 30) _ = _
               simp only [Act.put, List.setIfInBounds_toArray, List.set_cons_zero, List.set_cons_succ, i64_w, i32_w]
               rfl
              exact norm_ zValEa2_ (hJ2_6 (gb196) _ ⟨hHeld, zValEa0_, zValEa5_, GW196.out, GE196.out, NB188_196.out, NB196_188.out, zValEa3_⟩)
             ·
              skip
              refine box_step ?hg (N := 9) ?hd (cs := #[.bool false, .int .u64 0]) (t := 66) ?hr ?_; (case hd => rfl); (case hg => rfl); (case hr => first | (go_simp; done) | (go_simp; rfl))
              intro gb197 hg w62 hbox hb
              have n0_ := Aside0.mk (blk_below (g := gb188) (o := .cells #[.string a0_0, .int .i64 a0_1, .int .i64 a0_2, .int .i64 a0_3, .int .i64 a0_4, .int .i64 a0_5, .int .i64 a0_6, .bool a0_7] 23 (0, 0)) zValEa0_ hb)
              have n1_ := Aside0.mk (blk_below (g := gb196) (o := .cells #[.bool false, .int .u64 0] 66 (0, 0)) zValEa5_ hb)
              have n2_ := Aside0.mk (below_step zValEa3_ hb)
              have n3_ := Aside0.mk (hbox)
              have n4_ := Aside0.mk ((by rw [hg]; exact (below_size zValEa3_) : w.heap.size ≤ gb197))
              have n5_ := Aside0.mk ((by rw [hg]; exact (below_size zValEa3_) : w.heap.size ≤ gb197))
              have n6_ := Aside0.mk ((by rw [hg]; exact Nat.ne_of_lt (blk_lt (g := gb188) (o := .cells #[.string a0_0, .int .i64 a0_1, .int .i64 a0_2, .int .i64 a0_3, .int .i64 a0_4, .int .i64 a0_5, .int .i64 a0_6, .bool a0_7] 23 (0, 0)) zValEa0_) : gb188 ≠ gb197))
              have n7_ := Aside0.mk ((by rw [hg]; exact Nat.ne_of_gt (blk_lt (g := gb188) (o := .cells #[.string a0_0, .int .i64 a0_1, .int .i64 a0_2, .int .i64 a0_3, .int .i64 a0_4, .int .i64 a0_5, .int .i64 a0_6, .bool a0_7] 23 (0, 0)) zValEa0_) : gb197 ≠ gb188))
              have n8_ := Aside0.mk ((by rw [hg]; exact Nat.ne_of_lt (blk_lt (g := gb196) (o := .cells #[.bool false, .int .u64 0] 66 (0, 0)) zValEa5_) : gb196 ≠ gb197))
              have n9_ := Aside0.mk ((by rw [hg]; exact Nat.ne_of_gt (blk_lt (g := gb196) (o := .cells #[.bool false, .int .u64 0] 66 (0, 0)) zValEa5_) : gb197 ≠ gb196))
              clear BK188
              clear BK196
              clear HB
              have BK188 := n0_
              have BK196 := n1_
              have HB := n2_
              have BK197 := n3_
              have GW197 := n4_
              have GE197 := n5_
              have NB188_197 := n6_
              have NB197_188 := n7_
              have NB196_197 := n8_
              have NB197_196 := n9_
              clear n0_ n1_ n2_ n3_ n4_ n5_ n6_ n7_ n8_ n9_
              clear hb hbox hg
              refine hK.out _ _ ⟨(blk_cell BK188.out 0).trans rfl, (blk_cell BK188.out 1).trans rfl, (blk_cell BK188.out 2).trans rfl, (blk_cell BK188.out 3).trans rfl, (blk_cell BK188.out 4).trans rfl, (blk_cell BK188.out 5).trans rfl, (blk_cell BK188.out 6).trans rfl, (blk_cell BK188.out 7).trans rfl⟩ (fun hHeld => ?_)
              clear hK K
              refine norm_ (a' := ?_) ?_ ?_
              rotate_left
              ·
               show Act.put _ (some 9) _ = _
               simp only [Act.put, List.setIfInBounds_toArray, List.set_cons_zero, List.set_cons_succ, i64_w, i32_w]
               rfl
              exact norm_ zValEa2_ (hJ6_7 (gb196, gb197) _ ⟨hHeld, zValEa0_, zValEa5_, zValEa6_, GW196.out, GE196.out, NB188_196.out, NB196_188.out, NB197_196.out, NB196_197.out, GW197.out, GE197.out, NB188_197.out, NB197_188.out, zValEa7_⟩)
           ·
            skip
            rintro _ w61 ⟨hS_, h0_, h1_⟩
            have n0_ : Aside0 (w61.heap[gb188]? = some (.cells #[.string a0_0, .int .i64 a0_1, .int .i64 a0_2, .int .i64 a0_3, .int .i64 a0_4, .int .i64 a0_5, .int .i64 a0_6, .bool a0_7] 23 (0, 0))) := ⟨h0_⟩
            have n1_ : Aside0 (Below w.heap.size w w61) := ⟨h1_⟩
            clear BK188
            clear HB
            clear h0_ h1_
            have BK188 := n0_
            have HB := n1_
            clear n0_ n1_
            have hHeld : w61.cell? ⟨gb188, 0, none⟩ = some (.string a0_0) ∧ w61.cell? ⟨gb188, 1, none⟩ = some (.int .i64 a0_1) ∧ w61.cell? ⟨gb188, 2, none⟩ = some (.int .i64 a0_2) ∧ w61.cell? ⟨gb188, 3, none⟩ = some (.int .i64 a0_3) ∧ w61.cell? ⟨gb188, 4, none⟩ = some (.int .i64 a0_4) ∧ w61.cell? ⟨gb188, 5, none⟩ = some (.int .i64 a0_5) ∧ w61.cell? ⟨gb188, 6, none⟩ = some (.int .i64 a0_6) ∧ w61.cell? ⟨gb188, 7, none⟩ = some (.bool a0_7) := hS_
            refine norm_ (a' := ?_) ?_ ?_
            rotate_left
            ·
             simp only [putAll, Act.put, List.setIfInBounds_toArray, List.set_cons_zero, List.set_cons_succ]
             rfl
            refine three_ (i := 5) (j := 6) (k := 7) (Ni := some 33) (Nj := some 8) (Nk := some 9) #[true, true, true, true, true, true, false, false, false, false] #[true, true, true, true, true, false, true, false, false, false] #[true, true, true, true, true, false, false, true, false, false] rfl rfl rfl rfl rfl rfl (three_of HT_.out (by kernel_rfl)) (by decide) (by decide) (by decide) (fun K hK => ?_) (fun K hK => ?_) (fun K hK => ?_)
            ·
             skip
             refine goes_ Tryz.func30 (by kernel_rfl) rfl #[.agg #[.string a0_0, .int .i64 a0_1, .int .i64 a0_2, .int .i64 a0_3, .int .i64 a0_4, .int .i64 a0_5, .int .i64 a0_6, .bool a0_7], .slice A2 l2.length c2] (by rfl) rfl rfl zValEa8_ ?_
             with_reducible refine (value_of.calls kj3 a0_0 a0_1 a0_2 a0_3 a0_4 a0_5 a0_6 a0_7 _ _ l2 t194 t195 _ ?side1 ?side2 A20.out).mono ?_
             (case side1 => repeat (first | exact (Kd.C_below HR2.out HB.out) | (with_reducible refine Kd.C_alloc ?_ _) | (with_reducible refine Kd.C_drewN ?_ _) | (with_reducible refine Kd.C_drew ?_)))
             (case side2 => exact HC2.out)
             rintro e w62 ⟨rfl, hb⟩
             refine ⟨_, rfl, ?_⟩
             have n0_ := Aside0.mk (blk_below (g := gb188) (o := .cells #[.string a0_0, .int .i64 a0_1, .int .i64 a0_2, .int .i64 a0_3, .int .i64 a0_4, .int .i64 a0_5, .int .i64 a0_6, .bool a0_7] 23 (0, 0)) zValEa0_ hb)
             have n1_ := Aside0.mk (below_step zValEa1_ hb)
             clear BK188
             clear HB
             have BK188 := n0_
             have HB := n1_
             clear n0_ n1_
             (try clear hb)
             (try clear hb2)
             (try clear hk)
             (try clear hi)
             refine hK.out _ _ ⟨(blk_cell BK188.out 0).trans rfl, (blk_cell BK188.out 1).trans rfl, (blk_cell BK188.out 2).trans rfl, (blk_cell BK188.out 3).trans rfl, (blk_cell BK188.out 4).trans rfl, (blk_cell BK188.out 5).trans rfl, (blk_cell BK188.out 6).trans rfl, (blk_cell BK188.out 7).trans rfl⟩ (fun hHeld => ?_)
             clear hK K
             refine norm_ (a' := ?_) ?_ ?_
             rotate_left
             ·
              show Act.put _ (some 33) _ = _
              simp only [Act.put, List.setIfInBounds_toArray, List.set_cons_zero, List.set_cons_succ, i64_w, i32_w]
              rfl
             exact norm_ zValEa2_ (hJ2_5 () _ ⟨hHeld, zValEa0_, zValEa1_⟩)
            ·
             skip
             refine box_step ?hg (N := 8) ?hd (cs := #[.bool false, .int .u64 0]) (t := 66) ?hr ?_; (case hd => rfl); (case hg => rfl); (case hr => first | (go_simp; done) | (go_simp; rfl))
             intro gb196 hg w62 hbox hb
             have n0_ := Aside0.mk (blk_below (g := gb188) (o := .cells #[.string a0_0, .int .i64 a0_1, .int .i64 a0_2, .int .i64 a0_3, .int .i64 a0_4, .int .i64 a0_5, .int .i64 a0_6, .bool a0_7] 23 (0, 0)) zValEa0_ hb)
             have n1_ := Aside0.mk (below_step zValEa1_ hb)
             have n2_ := Aside0.mk (hbox)
             have n3_ := Aside0.mk ((by rw [hg]; exact (below_size zValEa1_) : w.heap.size ≤ gb196))
             have n4_ := Aside0.mk ((by rw [hg]; exact (below_size zValEa1_) : w.heap.size ≤ gb196))
             have n5_ := Aside0.mk ((by rw [hg]; exact Nat.ne_of_lt (blk_lt (g := gb188) (o := .cells #[.string a0_0, .int .i64 a0_1, .int .i64 a0_2, .int .i64 a0_3, .int .i64 a0_4, .int .i64 a0_5, .int .i64 a0_6, .bool a0_7] 23 (0, 0)) zValEa0_) : gb188 ≠ gb196))
             have n6_ := Aside0.mk ((by rw [hg]; exact Nat.ne_of_gt (blk_lt (g := gb188) (o := .cells #[.string a0_0, .int .i64 a0_1, .int .i64 a0_2, .int .i64 a0_3, .int .i64 a0_4, .int .i64 a0_5, .int .i64 a0_6, .bool a0_7] 23 (0, 0)) zValEa0_) : gb196 ≠ gb188))
             clear BK188
             clear HB
             have BK188 := n0_
             have HB := n1_
             have BK196 := n2_
             have GW196 := n3_
             have GE196 := n4_
             have NB188_196 := n5_
             have NB196_188 := n6_
             clear n0_ n1_ n2_ n3_ n4_ n5_ n6_
             clear hb hbox hg
             refine hK.out _ _ ⟨(blk_cell BK188.out 0).trans rfl, (blk_cell BK188.out 1).trans rfl, (blk_cell BK188.out 2).trans rfl, (blk_cell BK188.out 3).trans rfl, (blk_cell BK188.out 4).trans rfl, (blk_cell BK188.out 5).trans rfl, (blk_cell BK188.out 6).trans rfl, (blk_cell BK188.out 7).trans rfl⟩ (fun hHeld => ?_)
             clear hK K
             refine norm_ (a' := ?_) ?_ ?_
             rotate_left
             ·
              show Act.put _ (some 8) _ = _
              simp only [Act.put, List.setIfInBounds_toArray, List.set_cons_zero, List.set_cons_succ, i64_w, i32_w]
              rfl
             exact norm_ zValEa2_ (hJ2_6 (gb196) _ ⟨hHeld, zValEa0_, zValEa5_, GW196.out, GE196.out, NB188_196.out, NB196_188.out, zValEa3_⟩)
            ·
             skip
             refine box_step ?hg (N := 9) ?hd (cs := #[.bool false, .int .u64 0]) (t := 66) ?hr ?_; (case hd => rfl); (case hg => rfl); (case hr => first | (go_simp; done) | (go_simp; rfl))
             intro gb197 hg w62 hbox hb
             have n0_ := Aside0.mk (blk_below (g := gb188) (o := .cells #[.string a0_0, .int .i64 a0_1, .int .i64 a0_2, .int .i64 a0_3, .int .i64 a0_4, .int .i64 a0_5, .int .i64 a0_6, .bool a0_7] 23 (0, 0)) zValEa0_ hb)
             have n1_ := Aside0.mk (below_step zValEa1_ hb)
             have n2_ := Aside0.mk (hbox)
             have n3_ := Aside0.mk ((by rw [hg]; exact (below_size zValEa1_) : w.heap.size ≤ gb197))
             have n4_ := Aside0.mk ((by rw [hg]; exact (below_size zValEa1_) : w.heap.size ≤ gb197))
             have n5_ := Aside0.mk ((by rw [hg]; exact Nat.ne_of_lt (blk_lt (g := gb188) (o := .cells #[.string a0_0, .int .i64 a0_1, .int .i64 a0_2, .int .i64 a0_3, .int .i64 a0_4, .int .i64 a0_5, .int .i64 a0_6, .bool a0_7] 23 (0, 0)) zValEa0_) : gb188 ≠ gb197))
             have n6_ := Aside0.mk ((by rw [hg]; exact Nat.ne_of_gt (blk_lt (g := gb188) (o := .cells #[.string a0_0, .int .i64 a0_1, .int .i64 a0_2, .int .i64 a0_3, .int .i64 a0_4, .int .i64 a0_5, .int .i64 a0_6, .bool a0_7] 23 (0, 0)) zValEa0_) : gb197 ≠ gb188))
             clear BK188
             clear HB
             have BK188 := n0_
             have HB := n1_
             have BK197 := n2_
             have GW197 := n3_
             have GE197 := n4_
             have NB188_197 := n5_
             have NB197_188 := n6_
             clear n0_ n1_ n2_ n3_ n4_ n5_ n6_
             clear hb hbox hg
             refine hK.out _ _ ⟨(blk_cell BK188.out 0).trans rfl, (blk_cell BK188.out 1).trans rfl, (blk_cell BK188.out 2).trans rfl, (blk_cell BK188.out 3).trans rfl, (blk_cell BK188.out 4).trans rfl, (blk_cell BK188.out 5).trans rfl, (blk_cell BK188.out 6).trans rfl, (blk_cell BK188.out 7).trans rfl⟩ (fun hHeld => ?_)
             clear hK K
             refine norm_ (a' := ?_) ?_ ?_
             rotate_left
             ·
              show Act.put _ (some 9) _ = _
              simp only [Act.put, List.setIfInBounds_toArray, List.set_cons_zero, List.set_cons_succ, i64_w, i32_w]
              rfl
             exact norm_ zValEa2_ (hJ2_7 (gb197) _ ⟨hHeld, zValEa0_, zValEa6_, GW197.out, GE197.out, NB188_197.out, NB197_188.out, zValEa4_⟩)
          ·
           skip
           rintro ⟨gb196, gb197⟩ w62 ⟨hS_, h0_, h1_, h2_, h3_, h4_, h5_, h6_, h7_, h8_, h9_, h10_, h11_, h12_, h13_⟩
           have n0_ : Aside0 (w62.heap[gb188]? = some (.cells #[.string a0_0, .int .i64 a0_1, .int .i64 a0_2, .int .i64 a0_3, .int .i64 a0_4, .int .i64 a0_5, .int .i64 a0_6, .bool a0_7] 23 (0, 0))) := ⟨h0_⟩
           have n1_ : Aside0 (w62.heap[gb196]? = some (.cells #[.bool false, .int .u64 0] 66 (0, 0))) := ⟨h1_⟩
           have n2_ : Aside0 (w62.heap[gb197]? = some (.cells #[.bool false, .int .u64 0] 66 (0, 0))) := ⟨h2_⟩
           have n3_ : Aside0 (w.heap.size ≤ gb196) := ⟨h3_⟩
           have n4_ : Aside0 (w.heap.size ≤ gb196) := ⟨h4_⟩
           have n5_ : Aside0 (gb188 ≠ gb196) := ⟨h5_⟩
           have n6_ : Aside0 (gb196 ≠ gb188) := ⟨h6_⟩
           have n7_ : Aside0 (gb197 ≠ gb196) := ⟨h7_⟩
           have n8_ : Aside0 (gb196 ≠ gb197) := ⟨h8_⟩
           have n9_ : Aside0 (w.heap.size ≤ gb197) := ⟨h9_⟩
           have n10_ : Aside0 (w.heap.size ≤ gb197) := ⟨h10_⟩
           have n11_ : Aside0 (gb188 ≠ gb197) := ⟨h11_⟩
           have n12_ : Aside0 (gb197 ≠ gb188) := ⟨h12_⟩
           have n13_ : Aside0 (Below w.heap.size w w62) := ⟨h13_⟩
           clear BK188
           clear HB
           clear h0_ h1_ h2_ h3_ h4_ h5_ h6_ h7_ h8_ h9_ h10_ h11_ h12_ h13_
           have BK188 := n0_
           have BK196 := n1_
           have BK197 := n2_
           have GW196 := n3_
           have GE196 := n4_
           have NB188_196 := n5_
           have NB196_188 := n6_
           have NB197_196 := n7_
           have NB196_197 := n8_
           have GW197 := n9_
           have GE197 := n10_
           have NB188_197 := n11_
           have NB197_188 := n12_
           have HB := n13_
           clear n0_ n1_ n2_ n3_ n4_ n5_ n6_ n7_ n8_ n9_ n10_ n11_ n12_ n13_
           have hHeld : w62.cell? ⟨gb188, 0, none⟩ = some (.string a0_0) ∧ w62.cell? ⟨gb188, 1, none⟩ = some (.int .i64 a0_1) ∧ w62.cell? ⟨gb188, 2, none⟩ = some (.int .i64 a0_2) ∧ w62.cell? ⟨gb188, 3, none⟩ = some (.int .i64 a0_3) ∧ w62.cell? ⟨gb188, 4, none⟩ = some (.int .i64 a0_4) ∧ w62.cell? ⟨gb188, 5, none⟩ = some (.int .i64 a0_5) ∧ w62.cell? ⟨gb188, 6, none⟩ = some (.int .i64 a0_6) ∧ w62.cell? ⟨gb188, 7, none⟩ = some (.bool a0_7) := hS_
           refine norm_ (a' := ?_) ?_ ?_
           rotate_left
           ·
            simp only [putAll, Act.put, List.setIfInBounds_toArray, List.set_cons_zero, List.set_cons_succ]
            rfl
           refine one_ (i := 2) (N := some 30) #[true, true, true, true, true, false, true, true, false, false] rfl rfl (one_of HT_.out (by kernel_rfl)) (by decide) (fun K hK => ?_)
           refine goes_ Tryz.func30 (by kernel_rfl) rfl #[.agg #[.string a0_0, .int .i64 a0_1, .int .i64 a0_2, .int .i64 a0_3, .int .i64 a0_4, .int .i64 a0_5, .int .i64 a0_6, .bool a0_7], .slice A1 l1.length c1] (by rfl) rfl rfl zValEa8_ ?_
           with_reducible refine (value_of.calls kj3 a0_0 a0_1 a0_2 a0_3 a0_4 a0_5 a0_6 a0_7 _ _ l1 t192 t193 _ ?side1 ?side2 A19.out).mono ?_
           (case side1 => repeat (first | exact (Kd.C_below HR1.out HB.out) | (with_reducible refine Kd.C_alloc ?_ _) | (with_reducible refine Kd.C_drewN ?_ _) | (with_reducible refine Kd.C_drew ?_)))
           (case side2 => exact HC1.out)
           rintro e w63 ⟨rfl, hb⟩
           refine ⟨_, rfl, ?_⟩
           have n0_ := Aside0.mk (blk_below (g := gb188) (o := .cells #[.string a0_0, .int .i64 a0_1, .int .i64 a0_2, .int .i64 a0_3, .int .i64 a0_4, .int .i64 a0_5, .int .i64 a0_6, .bool a0_7] 23 (0, 0)) zValEa0_ hb)
           have n1_ := Aside0.mk (blk_below (g := gb196) (o := .cells #[.bool false, .int .u64 0] 66 (0, 0)) zValEa5_ hb)
           have n2_ := Aside0.mk (blk_below (g := gb197) (o := .cells #[.bool false, .int .u64 0] 66 (0, 0)) zValEa6_ hb)
           have n3_ := Aside0.mk (below_step zValEa7_ hb)
           clear BK188
           clear BK196
           clear BK197
           clear HB
           have BK188 := n0_
           have BK196 := n1_
           have BK197 := n2_
           have HB := n3_
           clear n0_ n1_ n2_ n3_
           (try clear hb)
           (try clear hb2)
           (try clear hk)
           (try clear hi)
           refine hK.out _ _ ⟨(blk_cell BK188.out 0).trans rfl, (blk_cell BK188.out 1).trans rfl, (blk_cell BK188.out 2).trans rfl, (blk_cell BK188.out 3).trans rfl, (blk_cell BK188.out 4).trans rfl, (blk_cell BK188.out 5).trans rfl, (blk_cell BK188.out 6).trans rfl, (blk_cell BK188.out 7).trans rfl⟩ (fun hHeld => ?_)
           clear hK K
           refine norm_ (a' := ?_) ?_ ?_
           rotate_left
           ·
            show Act.put _ (some 30) _ = _
            simp only [Act.put, List.setIfInBounds_toArray, List.set_cons_zero, List.set_cons_succ, i64_w, i32_w]
            rfl
           exact norm_ zValEa2_ (hJ2_6_7 (gb196, gb197) _ ⟨hHeld, zValEa0_, zValEa5_, zValEa6_, GW196.out, GE196.out, NB188_196.out, NB196_188.out, NB197_196.out, NB196_197.out, GW197.out, GE197.out, NB188_197.out, NB197_188.out, zValEa7_⟩)
         ·
          skip
          rintro gb197 w62 ⟨hS_, h0_, h1_, h2_, h3_, h4_, h5_, h6_⟩
          have n0_ : Aside0 (w62.heap[gb188]? = some (.cells #[.string a0_0, .int .i64 a0_1, .int .i64 a0_2, .int .i64 a0_3, .int .i64 a0_4, .int .i64 a0_5, .int .i64 a0_6, .bool a0_7] 23 (0, 0))) := ⟨h0_⟩
          have n1_ : Aside0 (w62.heap[gb197]? = some (.cells #[.bool false, .int .u64 0] 66 (0, 0))) := ⟨h1_⟩
          have n2_ : Aside0 (w.heap.size ≤ gb197) := ⟨h2_⟩
          have n3_ : Aside0 (w.heap.size ≤ gb197) := ⟨h3_⟩
          have n4_ : Aside0 (gb188 ≠ gb197) := ⟨h4_⟩
          have n5_ : Aside0 (gb197 ≠ gb188) := ⟨h5_⟩
          have n6_ : Aside0 (Below w.heap.size w w62) := ⟨h6_⟩
          clear BK188
          clear HB
          clear h0_ h1_ h2_ h3_ h4_ h5_ h6_
          have BK188 := n0_
          have BK197 := n1_
          have GW197 := n2_
          have GE197 := n3_
          have NB188_197 := n4_
          have NB197_188 := n5_
          have HB := n6_
          clear n0_ n1_ n2_ n3_ n4_ n5_ n6_
          have hHeld : w62.cell? ⟨gb188, 0, none⟩ = some (.string a0_0) ∧ w62.cell? ⟨gb188, 1, none⟩ = some (.int .i64 a0_1) ∧ w62.cell? ⟨gb188, 2, none⟩ = some (.int .i64 a0_2) ∧ w62.cell? ⟨gb188, 3, none⟩ = some (.int .i64 a0_3) ∧ w62.cell? ⟨gb188, 4, none⟩ = some (.int .i64 a0_4) ∧ w62.cell? ⟨gb188, 5, none⟩ = some (.int .i64 a0_5) ∧ w62.cell? ⟨gb188, 6, none⟩ = some (.int .i64 a0_6) ∧ w62.cell? ⟨gb188, 7, none⟩ = some (.bool a0_7) := hS_
          refine norm_ (a' := ?_) ?_ ?_
          rotate_left
          ·
           simp only [putAll, Act.put, List.setIfInBounds_toArray, List.set_cons_zero, List.set_cons_succ]
           rfl
          refine two_ (i := 5) (j := 6) (Ni := some 33) (Nj := some 8) #[true, true, true, true, true, true, false, true, false, false] #[true, true, true, true, true, false, true, true, false, false] rfl rfl rfl rfl (two_of HT_.out (by kernel_rfl)) (by decide) (by decide) (fun K hK => ?_) (fun K hK => ?_)
          ·
           skip
           refine goes_ Tryz.func30 (by kernel_rfl) rfl #[.agg #[.string a0_0, .int .i64 a0_1, .int .i64 a0_2, .int .i64 a0_3, .int .i64 a0_4, .int .i64 a0_5, .int .i64 a0_6, .bool a0_7], .slice A2 l2.length c2] (by rfl) rfl rfl zValEa8_ ?_
           with_reducible refine (value_of.calls kj3 a0_0 a0_1 a0_2 a0_3 a0_4 a0_5 a0_6 a0_7 _ _ l2 t194 t195 _ ?side1 ?side2 A20.out).mono ?_
           (case side1 => repeat (first | exact (Kd.C_below HR2.out HB.out) | (with_reducible refine Kd.C_alloc ?_ _) | (with_reducible refine Kd.C_drewN ?_ _) | (with_reducible refine Kd.C_drew ?_)))
           (case side2 => exact HC2.out)
           rintro e w63 ⟨rfl, hb⟩
           refine ⟨_, rfl, ?_⟩
           have n0_ := Aside0.mk (blk_below (g := gb188) (o := .cells #[.string a0_0, .int .i64 a0_1, .int .i64 a0_2, .int .i64 a0_3, .int .i64 a0_4, .int .i64 a0_5, .int .i64 a0_6, .bool a0_7] 23 (0, 0)) zValEa0_ hb)
           have n1_ := Aside0.mk (blk_below (g := gb197) (o := .cells #[.bool false, .int .u64 0] 66 (0, 0)) zValEa6_ hb)
           have n2_ := Aside0.mk (below_step zValEa4_ hb)
           clear BK188
           clear BK197
           clear HB
           have BK188 := n0_
           have BK197 := n1_
           have HB := n2_
           clear n0_ n1_ n2_
           (try clear hb)
           (try clear hb2)
           (try clear hk)
           (try clear hi)
           refine hK.out _ _ ⟨(blk_cell BK188.out 0).trans rfl, (blk_cell BK188.out 1).trans rfl, (blk_cell BK188.out 2).trans rfl, (blk_cell BK188.out 3).trans rfl, (blk_cell BK188.out 4).trans rfl, (blk_cell BK188.out 5).trans rfl, (blk_cell BK188.out 6).trans rfl, (blk_cell BK188.out 7).trans rfl⟩ (fun hHeld => ?_)
           clear hK K
           refine norm_ (a' := ?_) ?_ ?_
           rotate_left
           ·
            show Act.put _ (some 33) _ = _
            simp only [Act.put, List.setIfInBounds_toArray, List.set_cons_zero, List.set_cons_succ, i64_w, i32_w]
            rfl
           exact norm_ zValEa2_ (hJ2_5_7 (gb197) _ ⟨hHeld, zValEa0_, zValEa6_, GW197.out, GE197.out, NB188_197.out, NB197_188.out, zValEa4_⟩)
          ·
           skip
           refine box_step ?hg (N := 8) ?hd (cs := #[.bool false, .int .u64 0]) (t := 66) ?hr ?_; (case hd => rfl); (case hg => rfl); (case hr => first | (go_simp; done) | (go_simp; rfl))
           intro gb196 hg w63 hbox hb
           have n0_ := Aside0.mk (blk_below (g := gb188) (o := .cells #[.string a0_0, .int .i64 a0_1, .int .i64 a0_2, .int .i64 a0_3, .int .i64 a0_4, .int .i64 a0_5, .int .i64 a0_6, .bool a0_7] 23 (0, 0)) zValEa0_ hb)
           have n1_ := Aside0.mk (blk_below (g := gb197) (o := .cells #[.bool false, .int .u64 0] 66 (0, 0)) zValEa6_ hb)
           have n2_ := Aside0.mk (below_step zValEa4_ hb)
           have n3_ := Aside0.mk (hbox)
           have n4_ := Aside0.mk ((by rw [hg]; exact (below_size zValEa4_) : w.heap.size ≤ gb196))
           have n5_ := Aside0.mk ((by rw [hg]; exact (below_size zValEa4_) : w.heap.size ≤ gb196))
           have n6_ := Aside0.mk ((by rw [hg]; exact Nat.ne_of_lt (blk_lt (g := gb188) (o := .cells #[.string a0_0, .int .i64 a0_1, .int .i64 a0_2, .int .i64 a0_3, .int .i64 a0_4, .int .i64 a0_5, .int .i64 a0_6, .bool a0_7] 23 (0, 0)) zValEa0_) : gb188 ≠ gb196))
           have n7_ := Aside0.mk ((by rw [hg]; exact Nat.ne_of_gt (blk_lt (g := gb188) (o := .cells #[.string a0_0, .int .i64 a0_1, .int .i64 a0_2, .int .i64 a0_3, .int .i64 a0_4, .int .i64 a0_5, .int .i64 a0_6, .bool a0_7] 23 (0, 0)) zValEa0_) : gb196 ≠ gb188))
           have n8_ := Aside0.mk ((by rw [hg]; exact Nat.ne_of_lt (blk_lt (g := gb197) (o := .cells #[.bool false, .int .u64 0] 66 (0, 0)) zValEa6_) : gb197 ≠ gb196))
           have n9_ := Aside0.mk ((by rw [hg]; exact Nat.ne_of_gt (blk_lt (g := gb197) (o := .cells #[.bool false, .int .u64 0] 66 (0, 0)) zValEa6_) : gb196 ≠ gb197))
           clear BK188
           clear BK197
           clear HB
           have BK188 := n0_
           have BK197 := n1_
           have HB := n2_
           have BK196 := n3_
           have GW196 := n4_
           have GE196 := n5_
           have NB188_196 := n6_
           have NB196_188 := n7_
           have NB197_196 := n8_
           have NB196_197 := n9_
           clear n0_ n1_ n2_ n3_ n4_ n5_ n6_ n7_ n8_ n9_
           clear hb hbox hg
           refine hK.out _ _ ⟨(blk_cell BK188.out 0).trans rfl, (blk_cell BK188.out 1).trans rfl, (blk_cell BK188.out 2).trans rfl, (blk_cell BK188.out 3).trans rfl, (blk_cell BK188.out 4).trans rfl, (blk_cell BK188.out 5).trans rfl, (blk_cell BK188.out 6).trans rfl, (blk_cell BK188.out 7).trans rfl⟩ (fun hHeld => ?_)
           clear hK K
           refine norm_ (a' := ?_) ?_ ?_
           rotate_left
           ·
            show Act.put _ (some 8) _ = _
            simp only [Act.put, List.setIfInBounds_toArray, List.set_cons_zero, List.set_cons_succ, i64_w, i32_w]
            rfl
           exact norm_ zValEa2_ (hJ2_6_7 (gb196, gb197) _ ⟨hHeld, zValEa0_, zValEa5_, zValEa6_, GW196.out, GE196.out, NB188_196.out, NB196_188.out, NB197_196.out, NB196_197.out, GW197.out, GE197.out, NB188_197.out, NB197_188.out, zValEa9_⟩)
        ·
         skip
         rintro gb196 w62 ⟨hS_, h0_, h1_, h2_, h3_, h4_, h5_, h6_⟩
         have n0_ : Aside0 (w62.heap[gb188]? = some (.cells #[.string a0_0, .int .i64 a0_1, .int .i64 a0_2, .int .i64 a0_3, .int .i64 a0_4, .int .i64 a0_5, .int .i64 a0_6, .bool a0_7] 23 (0, 0))) := ⟨h0_⟩
         have n1_ : Aside0 (w62.heap[gb196]? = some (.cells #[.bool false, .int .u64 0] 66 (0, 0))) := ⟨h1_⟩
         have n2_ : Aside0 (w.heap.size ≤ gb196) := ⟨h2_⟩
         have n3_ : Aside0 (w.heap.size ≤ gb196) := ⟨h3_⟩
         have n4_ : Aside0 (gb188 ≠ gb196) := ⟨h4_⟩
         have n5_ : Aside0 (gb196 ≠ gb188) := ⟨h5_⟩
         have n6_ : Aside0 (Below w.heap.size w w62) := ⟨h6_⟩
         clear BK188
         clear HB
         clear h0_ h1_ h2_ h3_ h4_ h5_ h6_
         have BK188 := n0_
         have BK196 := n1_
         have GW196 := n2_
         have GE196 := n3_
         have NB188_196 := n4_
         have NB196_188 := n5_
         have HB := n6_
         clear n0_ n1_ n2_ n3_ n4_ n5_ n6_
         have hHeld : w62.cell? ⟨gb188, 0, none⟩ = some (.string a0_0) ∧ w62.cell? ⟨gb188, 1, none⟩ = some (.int .i64 a0_1) ∧ w62.cell? ⟨gb188, 2, none⟩ = some (.int .i64 a0_2) ∧ w62.cell? ⟨gb188, 3, none⟩ = some (.int .i64 a0_3) ∧ w62.cell? ⟨gb188, 4, none⟩ = some (.int .i64 a0_4) ∧ w62.cell? ⟨gb188, 5, none⟩ = some (.int .i64 a0_5) ∧ w62.cell? ⟨gb188, 6, none⟩ = some (.int .i64 a0_6) ∧ w62.cell? ⟨gb188, 7, none⟩ = some (.bool a0_7) := hS_
         refine norm_ (a' := ?_) ?_ ?_
         rotate_left
         ·
          simp only [putAll, Act.put, List.setIfInBounds_toArray, List.set_cons_zero, List.set_cons_succ]
          rfl
         refine two_ (i := 5) (j := 7) (Ni := some 33) (Nj := some 9) #[true, true, true, true, true, true, true, false, false, false] #[true, true, true, true, true, false, true, true, false, false] rfl rfl rfl rfl (two_of HT_.out (by kernel_rfl)) (by decide) (by decide) (fun K hK => ?_) (fun K hK => ?_)
         ·
          skip
          refine goes_ Tryz.func30 (by kernel_rfl) rfl #[.agg #[.string a0_0, .int .i64 a0_1, .int .i64 a0_2, .int .i64 a0_3, .int .i64 a0_4, .int .i64 a0_5, .int .i64 a0_6, .bool a0_7], .slice A2 l2.length c2] (by rfl) rfl rfl zValEa8_ ?_
          with_reducible refine (value_of.calls kj3 a0_0 a0_1 a0_2 a0_3 a0_4 a0_5 a0_6 a0_7 _ _ l2 t194 t195 _ ?side1 ?side2 A20.out).mono ?_
          (case side1 => repeat (first | exact (Kd.C_below HR2.out HB.out) | (with_reducible refine Kd.C_alloc ?_ _) | (with_reducible refine Kd.C_drewN ?_ _) | (with_reducible refine Kd.C_drew ?_)))
          (case side2 => exact HC2.out)
          rintro e w63 ⟨rfl, hb⟩
          refine ⟨_, rfl, ?_⟩
          have n0_ := Aside0.mk (blk_below (g := gb188) (o := .cells #[.string a0_0, .int .i64 a0_1, .int .i64 a0_2, .int .i64 a0_3, .int .i64 a0_4, .int .i64 a0_5, .int .i64 a0_6, .bool a0_7] 23 (0, 0)) zValEa0_ hb)
          have n1_ := Aside0.mk (blk_below (g := gb196) (o := .cells #[.bool false, .int .u64 0] 66 (0, 0)) zValEa5_ hb)
          have n2_ := Aside0.mk (below_step zValEa3_ hb)
          clear BK188
          clear BK196
          clear HB
          have BK188 := n0_
          have BK196 := n1_
          have HB := n2_
          clear n0_ n1_ n2_
          (try clear hb)
          (try clear hb2)
          (try clear hk)
          (try clear hi)
          refine hK.out _ _ ⟨(blk_cell BK188.out 0).trans rfl, (blk_cell BK188.out 1).trans rfl, (blk_cell BK188.out 2).trans rfl, (blk_cell BK188.out 3).trans rfl, (blk_cell BK188.out 4).trans rfl, (blk_cell BK188.out 5).trans rfl, (blk_cell BK188.out 6).trans rfl, (blk_cell BK188.out 7).trans rfl⟩ (fun hHeld => ?_)
          clear hK K
          refine norm_ (a' := ?_) ?_ ?_
          rotate_left
          ·
           show Act.put _ (some 33) _ = _
           simp only [Act.put, List.setIfInBounds_toArray, List.set_cons_zero, List.set_cons_succ, i64_w, i32_w]
           rfl
          exact norm_ zValEa2_ (hJ2_5_6 (gb196) _ ⟨hHeld, zValEa0_, zValEa5_, GW196.out, GE196.out, NB188_196.out, NB196_188.out, zValEa3_⟩)
         ·
          skip
          refine box_step ?hg (N := 9) ?hd (cs := #[.bool false, .int .u64 0]) (t := 66) ?hr ?_; (case hd => rfl); (case hg => rfl); (case hr => first | (go_simp; done) | (go_simp; rfl))
          intro gb197 hg w63 hbox hb
          have n0_ := Aside0.mk (blk_below (g := gb188) (o := .cells #[.string a0_0, .int .i64 a0_1, .int .i64 a0_2, .int .i64 a0_3, .int .i64 a0_4, .int .i64 a0_5, .int .i64 a0_6, .bool a0_7] 23 (0, 0)) zValEa0_ hb)
          have n1_ := Aside0.mk (blk_below (g := gb196) (o := .cells #[.bool false, .int .u64 0] 66 (0, 0)) zValEa5_ hb)
          have n2_ := Aside0.mk (below_step zValEa3_ hb)
          have n3_ := Aside0.mk (hbox)
          have n4_ := Aside0.mk ((by rw [hg]; exact (below_size zValEa3_) : w.heap.size ≤ gb197))
          have n5_ := Aside0.mk ((by rw [hg]; exact (below_size zValEa3_) : w.heap.size ≤ gb197))
          have n6_ := Aside0.mk ((by rw [hg]; exact Nat.ne_of_lt (blk_lt (g := gb188) (o := .cells #[.string a0_0, .int .i64 a0_1, .int .i64 a0_2, .int .i64 a0_3, .int .i64 a0_4, .int .i64 a0_5, .int .i64 a0_6, .bool a0_7] 23 (0, 0)) zValEa0_) : gb188 ≠ gb197))
          have n7_ := Aside0.mk ((by rw [hg]; exact Nat.ne_of_gt (blk_lt (g := gb188) (o := .cells #[.string a0_0, .int .i64 a0_1, .int .i64 a0_2, .int .i64 a0_3, .int .i64 a0_4, .int .i64 a0_5, .int .i64 a0_6, .bool a0_7] 23 (0, 0)) zValEa0_) : gb197 ≠ gb188))
          have n8_ := Aside0.mk ((by rw [hg]; exact Nat.ne_of_lt (blk_lt (g := gb196) (o := .cells #[.bool false, .int .u64 0] 66 (0, 0)) zValEa5_) : gb196 ≠ gb197))
          have n9_ := Aside0.mk ((by rw [hg]; exact Nat.ne_of_gt (blk_lt (g := gb196) (o := .cells #[.bool false, .int .u64 0] 66 (0, 0)) zValEa5_) : gb197 ≠ gb196))
          clear BK188
          clear BK196
          clear HB
          have BK188 := n0_
          have BK196 := n1_
          have HB := n2_
          have BK197 := n3_
          have GW197 := n4_
          have GE197 := n5_
          have NB188_197 := n6_
          have NB197_188 := n7_
          have NB196_197 := n8_
          have NB197_196 := n9_
          clear n0_ n1_ n2_ n3_ n4_ n5_ n6_ n7_ n8_ n9_
          clear hb hbox hg
          refine hK.out _ _ ⟨(blk_cell BK188.out 0).trans rfl, (blk_cell BK188.out 1).trans rfl, (blk_cell BK188.out 2).trans rfl, (blk_cell BK188.out 3).trans rfl, (blk_cell BK188.out 4).trans rfl, (blk_cell BK188.out 5).trans rfl, (blk_cell BK188.out 6).trans rfl, (blk_cell BK188.out 7).trans rfl⟩ (fun hHeld => ?_)
          clear hK K
          refine norm_ (a' := ?_) ?_ ?_
          rotate_left
          ·
           show Act.put _ (some 9) _ = _
           simp only [Act.put, List.setIfInBounds_toArray, List.set_cons_zero, List.set_cons_succ, i64_w, i32_w]
           rfl
          exact norm_ zValEa2_ (hJ2_6_7 (gb196, gb197) _ ⟨hHeld, zValEa0_, zValEa5_, zValEa6_, GW196.out, GE196.out, NB188_196.out, NB196_188.out, NB197_196.out, NB196_197.out, GW197.out, GE197.out, NB188_197.out, NB197_188.out, zValEa7_⟩)
       ·
        skip
        rintro _ w62 ⟨hS_, h0_, h1_⟩
        have n0_ : Aside0 (w62.heap[gb188]? = some (.cells #[.string a0_0, .int .i64 a0_1, .int .i64 a0_2, .int .i64 a0_3, .int .i64 a0_4, .int .i64 a0_5, .int .i64 a0_6, .bool a0_7] 23 (0, 0))) := ⟨h0_⟩
        have n1_ : Aside0 (Below w.heap.size w w62) := ⟨h1_⟩
        clear BK188
        clear HB
        clear h0_ h1_
        have BK188 := n0_
        have HB := n1_
        clear n0_ n1_
        have hHeld : w62.cell? ⟨gb188, 0, none⟩ = some (.string a0_0) ∧ w62.cell? ⟨gb188, 1, none⟩ = some (.int .i64 a0_1) ∧ w62.cell? ⟨gb188, 2, none⟩ = some (.int .i64 a0_2) ∧ w62.cell? ⟨gb188, 3, none⟩ = some (.int .i64 a0_3) ∧ w62.cell? ⟨gb188, 4, none⟩ = some (.int .i64 a0_4) ∧ w62.cell? ⟨gb188, 5, none⟩ = some (.int .i64 a0_5) ∧ w62.cell? ⟨gb188, 6, none⟩ = some (.int .i64 a0_6) ∧ w62.cell? ⟨gb188, 7, none⟩ = some (.bool a0_7) := hS_
        refine norm_ (a' := ?_) ?_ ?_
        rotate_left
        ·
         simp only [putAll, Act.put, List.setIfInBounds_toArray, List.set_cons_zero, List.set_cons_succ]
         rfl
        refine two_ (i := 6) (j := 7) (Ni := some 8) (Nj := some 9) #[true, true, true, true, true, true, true, false, false, false] #[true, true, true, true, true, true, false, true, false, false] rfl rfl rfl rfl (two_of HT_.out (by kernel_rfl)) (by decide) (by decide) (fun K hK => ?_) (fun K hK => ?_)
        ·
         skip
         refine box_step ?hg (N := 8) ?hd (cs := #[.bool false, .int .u64 0]) (t := 66) ?hr ?_; (case hd => rfl); (case hg => rfl); (case hr => first | (go_simp; done) | (go_simp; rfl))
         intro gb196 hg w63 hbox hb
         have n0_ := Aside0.mk (blk_below (g := gb188) (o := .cells #[.string a0_0, .int .i64 a0_1, .int .i64 a0_2, .int .i64 a0_3, .int .i64 a0_4, .int .i64 a0_5, .int .i64 a0_6, .bool a0_7] 23 (0, 0)) zValEa0_ hb)
         have n1_ := Aside0.mk (below_step zValEa1_ hb)
         have n2_ := Aside0.mk (hbox)
         have n3_ := Aside0.mk ((by rw [hg]; exact (below_size zValEa1_) : w.heap.size ≤ gb196))
         have n4_ := Aside0.mk ((by rw [hg]; exact (below_size zValEa1_) : w.heap.size ≤ gb196))
         have n5_ := Aside0.mk ((by rw [hg]; exact Nat.ne_of_lt (blk_lt (g := gb188) (o := .cells #[.string a0_0, .int .i64 a0_1, .int .i64 a0_2, .int .i64 a0_3, .int .i64 a0_4, .int .i64 a0_5, .int .i64 a0_6, .bool a0_7] 23 (0, 0)) zValEa0_) : gb188 ≠ gb196))
         have n6_ := Aside0.mk ((by rw [hg]; exact Nat.ne_of_gt (blk_lt (g := gb188) (o := .cells #[.string a0_0, .int .i64 a0_1, .int .i64 a0_2, .int .i64 a0_3, .int .i64 a0_4, .int .i64 a0_5, .int .i64 a0_6, .bool a0_7] 23 (0, 0)) zValEa0_) : gb196 ≠ gb188))
         clear BK188
         clear HB
         have BK188 := n0_
         have HB := n1_
         have BK196 := n2_
         have GW196 := n3_
         have GE196 := n4_
         have NB188_196 := n5_
         have NB196_188 := n6_
         clear n0_ n1_ n2_ n3_ n4_ n5_ n6_
         clear hb hbox hg
         refine hK.out _ _ ⟨(blk_cell BK188.out 0).trans rfl, (blk_cell BK188.out 1).trans rfl, (blk_cell BK188.out 2).trans rfl, (blk_cell BK188.out 3).trans rfl, (blk_cell BK188.out 4).trans rfl, (blk_cell BK188.out 5).trans rfl, (blk_cell BK188.out 6).trans rfl, (blk_cell BK188.out 7).trans rfl⟩ (fun hHeld => ?_)
         clear hK K
         refine norm_ (a' := ?_) ?_ ?_
         rotate_left
         ·
          show Act.put _ (some 8) _ = _
          simp only [Act.put, List.setIfInBounds_toArray, List.set_cons_zero, List.set_cons_succ, i64_w, i32_w]
          rfl
         exact norm_ zValEa2_ (hJ2_5_6 (gb196) _ ⟨hHeld, zValEa0_, zValEa5_, GW196.out, GE196.out, NB188_196.out, NB196_188.out, zValEa3_⟩)
        ·
         skip
         refine box_step ?hg (N := 9) ?hd (cs := #[.bool false, .int .u64 0]) (t := 66) ?hr ?_; (case hd => rfl); (case hg => rfl); (case hr => first | (go_simp; done) | (go_simp; rfl))
         intro gb197 hg w63 hbox hb
         have n0_ := Aside0.mk (blk_below (g := gb188) (o := .cells #[.string a0_0, .int .i64 a0_1, .int .i64 a0_2, .int .i64 a0_3, .int .i64 a0_4, .int .i64 a0_5, .int .i64 a0_6, .bool a0_7] 23 (0, 0)) zValEa0_ hb)
         have n1_ := Aside0.mk (below_step zValEa1_ hb)
         have n2_ := Aside0.mk (hbox)
         have n3_ := Aside0.mk ((by rw [hg]; exact (below_size zValEa1_) : w.heap.size ≤ gb197))
         have n4_ := Aside0.mk ((by rw [hg]; exact (below_size zValEa1_) : w.heap.size ≤ gb197))
         have n5_ := Aside0.mk ((by rw [hg]; exact Nat.ne_of_lt (blk_lt (g := gb188) (o := .cells #[.string a0_0, .int .i64 a0_1, .int .i64 a0_2, .int .i64 a0_3, .int .i64 a0_4, .int .i64 a0_5, .int .i64 a0_6, .bool a0_7] 23 (0, 0)) zValEa0_) : gb188 ≠ gb197))
         have n6_ := Aside0.mk ((by rw [hg]; exact Nat.ne_of_gt (blk_lt (g := gb188) (o := .cells #[.string a0_0, .int .i64 a0_1, .int .i64 a0_2, .int .i64 a0_3, .int .i64 a0_4, .int .i64 a0_5, .int .i64 a0_6, .bool a0_7] 23 (0, 0)) zValEa0_) : gb197 ≠ gb188))
         clear BK188
         clear HB
         have BK188 := n0_
         have HB := n1_
         have BK197 := n2_
         have GW197 := n3_
         have GE197 := n4_
         have NB188_197 := n5_
         have NB197_188 := n6_
         clear n0_ n1_ n2_ n3_ n4_ n5_ n6_
         clear hb hbox hg
         refine hK.out _ _ ⟨(blk_cell BK188.out 0).trans rfl, (blk_cell BK188.out 1).trans rfl, (blk_cell BK188.out 2).trans rfl, (blk_cell BK188.out 3).trans rfl, (blk_cell BK188.out 4).trans rfl, (blk_cell BK188.out 5).trans rfl, (blk_cell BK188.out 6).trans rfl, (blk_cell BK188.out 7).trans rfl⟩ (fun hHeld => ?_)
         clear hK K
         refine norm_ (a' := ?_) ?_ ?_
         rotate_left
         ·
          show Act.put _ (some 9) _ = _
          simp only [Act.put, List.setIfInBounds_toArray, List.set_cons_zero, List.set_cons_succ, i64_w, i32_w]
          rfl
         exact norm_ zValEa2_ (hJ2_5_7 (gb197) _ ⟨hHeld, zValEa0_, zValEa6_, GW197.out, GE197.out, NB188_197.out, NB197_188.out, zValEa4_⟩)
      ·
       skip
       rintro ⟨gb196, gb197⟩ w63 ⟨hS_, h0_, h1_, h2_, h3_, h4_, h5_, h6_, h7_, h8_, h9_, h10_, h11_, h12_, h13_⟩
       have n0_ : Aside0 (w63.heap[gb188]? = some (.cells #[.string a0_0, .int .i64 a0_1, .int .i64 a0_2, .int .i64 a0_3, .int .i64 a0_4, .int .i64 a0_5, .int .i64 a0_6, .bool a0_7] 23 (0, 0))) := ⟨h0_⟩
       have n1_ : Aside0 (w63.heap[gb196]? = some (.cells #[.bool false, .int .u64 0] 66 (0, 0))) := ⟨h1_⟩
       have n2_ : Aside0 (w63.heap[gb197]? = some (.cells #[.bool false, .int .u64 0] 66 (0, 0))) := ⟨h2_⟩
       have n3_ : Aside0 (w.heap.size ≤ gb196) := ⟨h3_⟩
       have n4_ : Aside0 (w.heap.size ≤ gb196) := ⟨h4_⟩
       have n5_ : Aside0 (gb188 ≠ gb196) := ⟨h5_⟩
       have n6_ : Aside0 (gb196 ≠ gb188) := ⟨h6_⟩
       have n7_ : Aside0 (gb197 ≠ gb196) := ⟨h7_⟩
       have n8_ : Aside0 (gb196 ≠ gb197) := ⟨h8_⟩
       have n9_ : Aside0 (w.heap.size ≤ gb197) := ⟨h9_⟩
       have n10_ : Aside0 (w.heap.size ≤ gb197) := ⟨h10_⟩
       have n11_ : Aside0 (gb188 ≠ gb197) := ⟨h11_⟩
       have n12_ : Aside0 (gb197 ≠ gb188) := ⟨h12_⟩
       have n13_ : Aside0 (Below w.heap.size w w63) := ⟨h13_⟩
       clear BK188
       clear HB
       clear h0_ h1_ h2_ h3_ h4_ h5_ h6_ h7_ h8_ h9_ h10_ h11_ h12_ h13_
       have BK188 := n0_
       have BK196 := n1_
       have BK197 := n2_
       have GW196 := n3_
       have GE196 := n4_
       have NB188_196 := n5_
       have NB196_188 := n6_
       have NB197_196 := n7_
       have NB196_197 := n8_
       have GW197 := n9_
       have GE197 := n10_
       have NB188_197 := n11_
       have NB197_188 := n12_
       have HB := n13_
       clear n0_ n1_ n2_ n3_ n4_ n5_ n6_ n7_ n8_ n9_ n10_ n11_ n12_ n13_
       have hHeld : w63.cell? ⟨gb188, 0, none⟩ = some (.string a0_0) ∧ w63.cell? ⟨gb188, 1, none⟩ = some (.int .i64 a0_1) ∧ w63.cell? ⟨gb188, 2, none⟩ = some (.int .i64 a0_2) ∧ w63.cell? ⟨gb188, 3, none⟩ = some (.int .i64 a0_3) ∧ w63.cell? ⟨gb188, 4, none⟩ = some (.int .i64 a0_4) ∧ w63.cell? ⟨gb188, 5, none⟩ = some (.int .i64 a0_5) ∧ w63.cell? ⟨gb188, 6, none⟩ = some (.int .i64 a0_6) ∧ w63.cell? ⟨gb188, 7, none⟩ = some (.bool a0_7) := hS_
       refine norm_ (a' := ?_) ?_ ?_
       rotate_left
       ·
        simp only [putAll, Act.put, List.setIfInBounds_toArray, List.set_cons_zero, List.set_cons_succ]
        rfl
       refine one_ (i := 5) (N := some 33) #[true, true, true, true, true, true, true, true, false, false] rfl rfl (one_of HT_.out (by kernel_rfl)) (by decide) (fun K hK => ?_)
       refine goes_ Tryz.func30 (by kernel_rfl) rfl #[.agg #[.string a0_0, .int .i64 a0_1, .int .i64 a0_2, .int .i64 a0_3, .int .i64 a0_4, .int .i64 a0_5, .int .i64 a0_6, .bool a0_7], .slice A2 l2.length c2] (by rfl) rfl rfl zValEa8_ ?_
       with_reducible refine (value_of.calls kj3 a0_0 a0_1 a0_2 a0_3 a0_4 a0_5 a0_6 a0_7 _ _ l2 t194 t195 _ ?side1 ?side2 A20.out).mono ?_
       (case side1 => repeat (first | exact (Kd.C_below HR2.out HB.out) | (with_reducible refine Kd.C_alloc ?_ _) | (with_reducible refine Kd.C_drewN ?_ _) | (with_reducible refine Kd.C_drew ?_)))
       (case side2 => exact HC2.out)
       rintro e w64 ⟨rfl, hb⟩
       refine ⟨_, rfl, ?_⟩
       have n0_ := Aside0.mk (blk_below (g := gb188) (o := .cells #[.string a0_0, .int .i64 a0_1, .int .i64 a0_2, .int .i64 a0_3, .int .i64 a0_4, .int .i64 a0_5, .int .i64 a0_6, .bool a0_7] 23 (0, 0)) zValEa0_ hb)
       have n1_ := Aside0.mk (blk_below (g := gb196) (o := .cells #[.bool false, .int .u64 0] 66 (0, 0)) zValEa5_ hb)
       have n2_ := Aside0.mk (blk_below (g := gb197) (o := .cells #[.bool false, .int .u64 0] 66 (0, 0)) zValEa6_ hb)
       have n3_ := Aside0.mk (below_step zValEa7_ hb)
       clear BK188
       clear BK196
       clear BK197
       clear HB
       have BK188 := n0_
       have BK196 := n1_
       have BK197 := n2_
       have HB := n3_
       clear n0_ n1_ n2_ n3_
       (try clear hb)
       (try clear hb2)
       (try clear hk)
       (try clear hi)
       refine hK.out _ _ ⟨(blk_cell BK188.out 0).trans rfl, (blk_cell BK188.out 1).trans rfl, (blk_cell BK188.out 2).trans rfl, (blk_cell BK188.out 3).trans rfl, (blk_cell BK188.out 4).trans rfl, (blk_cell BK188.out 5).trans rfl, (blk_cell BK188.out 6).trans rfl, (blk_cell BK188.out 7).trans rfl⟩ (fun hHeld => ?_)
       clear hK K
       refine norm_ (a' := ?_) ?_ ?_
       rotate_left
       ·
        show Act.put _ (some 33) _ = _
        simp only [Act.put, List.setIfInBounds_toArray, List.set_cons_zero, List.set_cons_succ, i64_w, i32_w]
        rfl
       exact norm_ zValEa2_ (hJ2_5_6_7 (gb196, gb197) _ ⟨hHeld, zValEa0_, zValEa5_, zValEa6_, GW196.out, GE196.out, NB188_196.out, NB196_188.out, NB197_196.out, NB196_197.out, GW197.out, GE197.out, NB188_197.out, NB197_188.out, zValEa7_⟩)
     ·
      skip
      rintro gb197 w63 ⟨hS_, h0_, h1_, h2_, h3_, h4_, h5_, h6_⟩
      have n0_ : Aside0 (w63.heap[gb188]? = some (.cells #[.string a0_0, .int .i64 a0_1, .int .i64 a0_2, .int .i64 a0_3, .int .i64 a0_4, .int .i64 a0_5, .int .i64 a0_6, .bool a0_7] 23 (0, 0))) := ⟨h0_⟩
      have n1_ : Aside0 (w63.heap[gb197]? = some (.cells #[.bool false, .int .u64 0] 66 (0, 0))) := ⟨h1_⟩
      have n2_ : Aside0 (w.heap.size ≤ gb197) := ⟨h2_⟩
      have n3_ : Aside0 (w.heap.size ≤ gb197) := ⟨h3_⟩
      have n4_ : Aside0 (gb188 ≠ gb197) := ⟨h4_⟩
      have n5_ : Aside0 (gb197 ≠ gb188) := ⟨h5_⟩
      have n6_ : Aside0 (Below w.heap.size w w63) := ⟨h6_⟩
      clear BK188
      clear HB
      clear h0_ h1_ h2_ h3_ h4_ h5_ h6_
      have BK188 := n0_
      have BK197 := n1_
      have GW197 := n2_
      have GE197 := n3_
      have NB188_197 := n4_
      have NB197_188 := n5_
      have HB := n6_
      clear n0_ n1_ n2_ n3_ n4_ n5_ n6_
      have hHeld : w63.cell? ⟨gb188, 0, none⟩ = some (.string a0_0) ∧ w63.cell? ⟨gb188, 1, none⟩ = some (.int .i64 a0_1) ∧ w63.cell? ⟨gb188, 2, none⟩ = some (.int .i64 a0_2) ∧ w63.cell? ⟨gb188, 3, none⟩ = some (.int .i64 a0_3) ∧ w63.cell? ⟨gb188, 4, none⟩ = some (.int .i64 a0_4) ∧ w63.cell? ⟨gb188, 5, none⟩ = some (.int .i64 a0_5) ∧ w63.cell? ⟨gb188, 6, none⟩ = some (.int .i64 a0_6) ∧ w63.cell? ⟨gb188, 7, none⟩ = some (.bool a0_7) := hS_
      refine norm_ (a' := ?_) ?_ ?_
      rotate_left
      ·
       simp only [putAll, Act.put, List.setIfInBounds_toArray, List.set_cons_zero, List.set_cons_succ]
       rfl
      refine one_ (i := 6) (N := some 8) #[true, true, true, true, true, true, true, true, false, false] rfl rfl (one_of HT_.out (by kernel_rfl)) (by decide) (fun K hK => ?_)
      refine box_step ?hg (N := 8) ?hd (cs := #[.bool false, .int .u64 0]) (t := 66) ?hr ?_; (case hd => rfl); (case hg => rfl); (case hr => first | (go_simp; done) | (go_simp; rfl))
      intro gb196 hg w64 hbox hb
      have n0_ := Aside0.mk (blk_below (g := gb188) (o := .cells #[.string a0_0, .int .i64 a0_1, .int .i64 a0_2, .int .i64 a0_3, .int .i64 a0_4, .int .i64 a0_5, .int .i64 a0_6, .bool a0_7] 23 (0, 0)) zValEa0_ hb)
      have n1_ := Aside0.mk (blk_below (g := gb197) (o := .cells #[.bool false, .int .u64 0] 66 (0, 0)) zValEa6_ hb)
      have n2_ := Aside0.mk (below_step zValEa4_ hb)
      have n3_ := Aside0.mk (hbox)
      have n4_ := Aside0.mk ((by rw [hg]; exact (below_size zValEa4_) : w.heap.size ≤ gb196))
      have n5_ := Aside0.mk ((by rw [hg]; exact (below_size zValEa4_) : w.heap.size ≤ gb196))
      have n6_ := Aside0.mk ((by rw [hg]; exact Nat.ne_of_lt (blk_lt (g := gb188) (o := .cells #[.string a0_0, .int .i64 a0_1, .int .i64 a0_2, .int .i64 a0_3, .int .i64 a0_4, .int .i64 a0_5, .int .i64 a0_6, .bool a0_7] 23 (0, 0)) zValEa0_) : gb188 ≠ gb196))
      have n7_ := Aside0.mk ((by rw [hg]; exact Nat.ne_of_gt (blk_lt (g := gb188) (o := .cells #[.string a0_0, .int .i64 a0_1, .int .i64 a0_2, .int .i64 a0_3, .int .i64 a0_4, .int .i64 a0_5, .int .i64 a0_6, .bool a0_7] 23 (0, 0)) zValEa0_) : gb196 ≠ gb188))
      have n8_ := Aside0.mk ((by rw [hg]; exact Nat.ne_of_lt (blk_lt (g := gb197) (o := .cells #[.bool false, .int .u64 0] 66 (0, 0)) zValEa6_) : gb197 ≠ gb196))
      have n9_ := Aside0.mk ((by rw [hg]; exact Nat.ne_of_gt (blk_lt (g := gb197) (o := .cells #[.bool false, .int .u64 0] 66 (0, 0)) zValEa6_) : gb196 ≠ gb197))
      clear BK188
      clear BK197
      clear HB
      have BK188 := n0_
      have BK197 := n1_
      have HB := n2_
      have BK196 := n3_
      have GW196 := n4_
      have GE196 := n5_
      have NB188_196 := n6_
      have NB196_188 := n7_
      have NB197_196 := n8_
      have NB196_197 := n9_
      clear n0_ n1_ n2_ n3_ n4_ n5_ n6_ n7_ n8_ n9_
      clear hb hbox hg
      refine hK.out _ _ ⟨(blk_cell BK188.out 0).trans rfl, (blk_cell BK188.out 1).trans rfl, (blk_cell BK188.out 2).trans rfl, (blk_cell BK188.out 3).trans rfl, (blk_cell BK188.out 4).trans rfl, (blk_cell BK188.out 5).trans rfl, (blk_cell BK188.out 6).trans rfl, (blk_cell BK188.out 7).trans rfl⟩ (fun hHeld => ?_)
      clear hK K
      refine norm_ (a' := ?_) ?_ ?_
      rotate_left
      ·
       show Act.put _ (some 8) _ = _
       simp only [Act.put, List.setIfInBounds_toArray, List.set_cons_zero, List.set_cons_succ, i64_w, i32_w]
       rfl
      exact norm_ zValEa2_ (hJ2_5_6_7 (gb196, gb197) _ ⟨hHeld, zValEa0_, zValEa5_, zValEa6_, GW196.out, GE196.out, NB188_196.out, NB196_188.out, NB197_196.out, NB196_197.out, GW197.out, GE197.out, NB188_197.out, NB197_188.out, zValEa9_⟩)
    ·
     skip
     rintro gb196 w63 ⟨hS_, h0_, h1_, h2_, h3_, h4_, h5_, h6_⟩
     have n0_ : Aside0 (w63.heap[gb188]? = some (.cells #[.string a0_0, .int .i64 a0_1, .int .i64 a0_2, .int .i64 a0_3, .int .i64 a0_4, .int .i64 a0_5, .int .i64 a0_6, .bool a0_7] 23 (0, 0))) := ⟨h0_⟩
     have n1_ : Aside0 (w63.heap[gb196]? = some (.cells #[.bool false, .int .u64 0] 66 (0, 0))) := ⟨h1_⟩
     have n2_ : Aside0 (w.heap.size ≤ gb196) := ⟨h2_⟩
     have n3_ : Aside0 (w.heap.size ≤ gb196) := ⟨h3_⟩
     have n4_ : Aside0 (gb188 ≠ gb196) := ⟨h4_⟩
     have n5_ : Aside0 (gb196 ≠ gb188) := ⟨h5_⟩
     have n6_ : Aside0 (Below w.heap.size w w63) := ⟨h6_⟩
     clear BK188
     clear HB
     clear h0_ h1_ h2_ h3_ h4_ h5_ h6_
     have BK188 := n0_
     have BK196 := n1_
     have GW196 := n2_
     have GE196 := n3_
     have NB188_196 := n4_
     have NB196_188 := n5_
     have HB := n6_
     clear n0_ n1_ n2_ n3_ n4_ n5_ n6_
     have hHeld : w63.cell? ⟨gb188, 0, none⟩ = some (.string a0_0) ∧ w63.cell? ⟨gb188, 1, none⟩ = some (.int .i64 a0_1) ∧ w63.cell? ⟨gb188, 2, none⟩ = some (.int .i64 a0_2) ∧ w63.cell? ⟨gb188, 3, none⟩ = some (.int .i64 a0_3) ∧ w63.cell? ⟨gb188, 4, none⟩ = some (.int .i64 a0_4) ∧ w63.cell? ⟨gb188, 5, none⟩ = some (.int .i64 a0_5) ∧ w63.cell? ⟨gb188, 6, none⟩ = some (.int .i64 a0_6) ∧ w63.cell? ⟨gb188, 7, none⟩ = some (.bool a0_7) := hS_
     refine norm_ (a' := ?_) ?_ ?_
     rotate_left
     ·
      simp only [putAll, Act.put, List.setIfInBounds_toArray, List.set_cons_zero, List.set_cons_succ]
      rfl
     refine one_ (i := 7) (N := some 9) #[true, true, true, true, true, true, true, true, false, false] rfl rfl (one_of HT_.out (by kernel_rfl)) (by decide) (fun K hK => ?_)
     refine box_step ?hg (N := 9) ?hd (cs := #[.bool false, .int .u64 0]) (t := 66) ?hr ?_; (case hd => rfl); (case hg => rfl); (case hr => first | (go_simp; done) | (go_simp; rfl))
     intro gb197 hg w64 hbox hb
     have n0_ := Aside0.mk (blk_below (g := gb188) (o := .cells #[.string a0_0, .int .i64 a0_1, .int .i64 a0_2, .int .i64 a0_3, .int .i64 a0_4, .int .i64 a0_5, .int .i64 a0_6, .bool a0_7] 23 (0, 0)) zValEa0_ hb)
     have n1_ := Aside0.mk (blk_below (g := gb196) (o := .cells #[.bool false, .int .u64 0] 66 (0, 0)) zValEa5_ hb)
     have n2_ := Aside0.mk (below_step zValEa3_ hb)
     have n3_ := Aside0.mk (hbox)
     have n4_ := Aside0.mk ((by rw [hg]; exact (below_size zValEa3_) : w.heap.size ≤ gb197))
     have n5_ := Aside0.mk ((by rw [hg]; exact (below_size zValEa3_) : w.heap.size ≤ gb197))
     have n6_ := Aside0.mk ((by rw [hg]; exact Nat.ne_of_lt (blk_lt (g := gb188) (o := .cells #[.string a0_0, .int .i64 a0_1, .int .i64 a0_2, .int .i64 a0_3, .int .i64 a0_4, .int .i64 a0_5, .int .i64 a0_6, .bool a0_7] 23 (0, 0)) zValEa0_) : gb188 ≠ gb197))
     have n7_ := Aside0.mk ((by rw [hg]; exact Nat.ne_of_gt (blk_lt (g := gb188) (o := .cells #[.string a0_0, .int .i64 a0_1, .int .i64 a0_2, .int .i64 a0_3, .int .i64 a0_4, .int .i64 a0_5, .int .i64 a0_6, .bool a0_7] 23 (0, 0)) zValEa0_) : gb197 ≠ gb188))
     have n8_ := Aside0.mk ((by rw [hg]; exact Nat.ne_of_lt (blk_lt (g := gb196) (o := .cells #[.bool false, .int .u64 0] 66 (0, 0)) zValEa5_) : gb196 ≠ gb197))
     have n9_ := Aside0.mk ((by rw [hg]; exact Nat.ne_of_gt (blk_lt (g := gb196) (o := .cells #[.bool false, .int .u64 0] 66 (0, 0)) zValEa5_) : gb197 ≠ gb196))
     clear BK188
     clear BK196
     clear HB
     have BK188 := n0_
     have BK196 := n1_
     have HB := n2_
     have BK197 := n3_
     have GW197 := n4_
     have GE197 := n5_
     have NB188_197 := n6_
     have NB197_188 := n7_
     have NB196_197 := n8_
     have NB197_196 := n9_
     clear n0_ n1_ n2_ n3_ n4_ n5_ n6_ n7_ n8_ n9_
     clear hb hbox hg
     refine hK.out _ _ ⟨(blk_cell BK188.out 0).trans rfl, (blk_cell BK188.out 1).trans rfl, (blk_cell BK188.out 2).trans rfl, (blk_cell BK188.out 3).trans rfl, (blk_cell BK188.out 4).trans rfl, (blk_cell BK188.out 5).trans rfl, (blk_cell BK188.out 6).trans rfl, (blk_cell BK188.out 7).trans rfl⟩ (fun hHeld => ?_)
     clear hK K
     refine norm_ (a' := ?_) ?_ ?_
     rotate_left
     ·
      show Act.put _ (some 9) _ = _
      simp only [Act.put, List.setIfInBounds_toArray, List.set_cons_zero, List.set_cons_succ, i64_w, i32_w]
      rfl
     exact norm_ zValEa2_ (hJ2_5_6_7 (gb196, gb197) _ ⟨hHeld, zValEa0_, zValEa5_, zValEa6_, GW196.out, GE196.out, NB188_196.out, NB196_188.out, NB197_196.out, NB196_197.out, GW197.out, GE197.out, NB188_197.out, NB197_188.out, zValEa7_⟩)
   rintro ⟨gb196, gb197⟩ w64 ⟨hS_, h0_, h1_, h2_, h3_, h4_, h5_, h6_, h7_, h8_, h9_, h10_, h11_, h12_, h13_⟩
   have n0_ : Aside0 (w64.heap[gb188]? = some (.cells #[.string a0_0, .int .i64 a0_1, .int .i64 a0_2, .int .i64 a0_3, .int .i64 a0_4, .int .i64 a0_5, .int .i64 a0_6, .bool a0_7] 23 (0, 0))) := ⟨h0_⟩
   have n1_ : Aside0 (w64.heap[gb196]? = some (.cells #[.bool false, .int .u64 0] 66 (0, 0))) := ⟨h1_⟩
   have n2_ : Aside0 (w64.heap[gb197]? = some (.cells #[.bool false, .int .u64 0] 66 (0, 0))) := ⟨h2_⟩
   have n3_ : Aside0 (w.heap.size ≤ gb196) := ⟨h3_⟩
   have n4_ : Aside0 (w.heap.size ≤ gb196) := ⟨h4_⟩
   have n5_ : Aside0 (gb188 ≠ gb196) := ⟨h5_⟩
   have n6_ : Aside0 (gb196 ≠ gb188) := ⟨h6_⟩
   have n7_ : Aside0 (gb197 ≠ gb196) := ⟨h7_⟩
   have n8_ : Aside0 (gb196 ≠ gb197) := ⟨h8_⟩
   have n9_ : Aside0 (w.heap.size ≤ gb197) := ⟨h9_⟩
   have n10_ : Aside0 (w.heap.size ≤ gb197) := ⟨h10_⟩
   have n11_ : Aside0 (gb188 ≠ gb197) := ⟨h11_⟩
   have n12_ : Aside0 (gb197 ≠ gb188) := ⟨h12_⟩
   have n13_ : Aside0 (Below w.heap.size w w64) := ⟨h13_⟩
   clear BK188
   clear HB
   clear h0_ h1_ h2_ h3_ h4_ h5_ h6_ h7_ h8_ h9_ h10_ h11_ h12_ h13_
   have BK188 := n0_
   have BK196 := n1_
   have BK197 := n2_
   have GW196 := n3_
   have GE196 := n4_
   have NB188_196 := n5_
   have NB196_188 := n6_
   have NB197_196 := n7_
   have NB196_197 := n8_
   have GW197 := n9_
   have GE197 := n10_
   have NB188_197 := n11_
   have NB197_188 := n12_
   have HB := n13_
   clear n0_ n1_ n2_ n3_ n4_ n5_ n6_ n7_ n8_ n9_ n10_ n11_ n12_ n13_
   have hHeld : w64.cell? ⟨gb188, 0, none⟩ = some (.string a0_0) ∧ w64.cell? ⟨gb188, 1, none⟩ = some (.int .i64 a0_1) ∧ w64.cell? ⟨gb188, 2, none⟩ = some (.int .i64 a0_2) ∧ w64.cell? ⟨gb188, 3, none⟩ = some (.int .i64 a0_3) ∧ w64.cell? ⟨gb188, 4, none⟩ = some (.int .i64 a0_4) ∧ w64.cell? ⟨gb188, 5, none⟩ = some (.int .i64 a0_5) ∧ w64.cell? ⟨gb188, 6, none⟩ = some (.int .i64 a0_6) ∧ w64.cell? ⟨gb188, 7, none⟩ = some (.bool a0_7) := hS_
   refine norm_ (a' := ?_) ?_ ?_
   rotate_left
   ·
    simp only [putAll, Act.put, List.setIfInBounds_toArray, List.set_cons_zero, List.set_cons_succ]
    rfl
   refine one_ (i := 8) (N := none) #[true, true, true, true, true, true, true, true, true, false] rfl rfl (one_of HT_.out (by kernel_rfl)) (by decide) (fun K hK => ?_)
   have hs65 : w64.cell? ⟨gb196, 0, none⟩ = some (.bool false) := (blk_cell BK196.out 0).trans rfl
   have hfs65 := blk_frozen BK196.out 0
   have hns65_0 := NB188_196.out
   have hns65_2 := NB197_196.out
   have hms65_0 := NB196_188.out
   have hms65_2 := NB196_197.out
   have hs66 : w64.cell? ⟨gb196, 1, none⟩ = some (.int .u64 0) := (blk_cell BK196.out 1).trans rfl
   have hfs66 := blk_frozen BK196.out 1
   have hns66_0 := NB188_196.out
   have hns66_2 := NB197_196.out
   have hms66_0 := NB196_188.out
   have hms66_2 := NB196_197.out
   refine skip_ (w1 := ?_) (by rfl) rfl ?_ ?_
   rotate_left
   ·
    go_simp
    rfl
   refine hK.out _ _ ⟨((cell_far (p := ⟨gb196, _, none⟩) NB188_196.out _).trans (((cell_far (p := ⟨gb196, _, none⟩) NB188_196.out _).trans (hHeld.1)))), ((cell_far (p := ⟨gb196, _, none⟩) NB188_196.out _).trans (((cell_far (p := ⟨gb196, _, none⟩) NB188_196.out _).trans (hHeld.2.1)))), ((cell_far (p := ⟨gb196, _, none⟩) NB188_196.out _).trans (((cell_far (p := ⟨gb196, _, none⟩) NB188_196.out _).trans (hHeld.2.2.1)))), ((cell_far (p := ⟨gb196, _, none⟩) NB188_196.out _).trans (((cell_far (p := ⟨gb196, _, none⟩) NB188_196.out _).trans (hHeld.2.2.2.1)))), ((cell_far (p := ⟨gb196, _, none⟩) NB188_196.out _).trans (((cell_far (p := ⟨gb196, _, none⟩) NB188_196.out _).trans (hHeld.2.2.2.2.1)))), ((cell_far (p := ⟨gb196, _, none⟩) NB188_196.out _).trans (((cell_far (p := ⟨gb196, _, none⟩) NB188_196.out _).trans (hHeld.2.2.2.2.2.1)))), ((cell_far (p := ⟨gb196, _, none⟩) NB188_196.out _).trans (((cell_far (p := ⟨gb196, _, none⟩) NB188_196.out _).trans (hHeld.2.2.2.2.2.2.1)))), ((cell_far (p := ⟨gb196, _, none⟩) NB188_196.out _).trans (((cell_far (p := ⟨gb196, _, none⟩) NB188_196.out _).trans (hHeld.2.2.2.2.2.2.2))))⟩ (fun hHeld => ?_)
   clear hK K
   refine one_ (i := 9) (N := none) #[true, true, true, true, true, true, true, true, true, true] rfl rfl (one_of HT_.out (by kernel_rfl)) (by decide) (fun K hK => ?_)
   have hs67 : w64.cell? ⟨gb197, 0, none⟩ = some (.bool false) := (blk_cell BK197.out 0).trans rfl
   have hfs67 := blk_frozen BK197.out 0
   have hns67_0 := NB188_197.out
   have hns67_1 := NB196_197.out
   have hms67_0 := NB197_188.out
   have hms67_1 := NB197_196.out
   have hs68 : w64.cell? ⟨gb197, 1, none⟩ = some (.int .u64 0) := (blk_cell BK197.out 1).trans rfl
   have hfs68 := blk_frozen BK197.out 1
   have hns68_0 := NB188_197.out
   have hns68_1 := NB196_197.out
   have hms68_0 := NB197_188.out
   have hms68_1 := NB197_196.out
   refine skip_ (w1 := ?_) (by rfl) rfl ?_ ?_
   rotate_left
   ·
    go_simp
    rfl
   refine hK.out _ _ ⟨((cell_far (p := ⟨gb197, _, none⟩) NB188_197.out _).trans (((cell_far (p := ⟨gb197, _, none⟩) NB188_197.out _).trans (hHeld.1)))), ((cell_far (p := ⟨gb197, _, none⟩) NB188_197.out _).trans (((cell_far (p := ⟨gb197, _, none⟩) NB188_197.out _).trans (hHeld.2.1)))), ((cell_far (p := ⟨gb197, _, none⟩) NB188_197.out _).trans (((cell_far (p := ⟨gb197, _, none⟩) NB188_197.out _).trans (hHeld.2.2.1)))), ((cell_far (p := ⟨gb197, _, none⟩) NB188_197.out _).trans (((cell_far (p := ⟨gb197, _, none⟩) NB188_197.out _).trans (hHeld.2.2.2.1)))), ((cell_far (p := ⟨gb197, _, none⟩) NB188_197.out _).trans (((cell_far (p := ⟨gb197, _, none⟩) NB188_197.out _).trans (hHeld.2.2.2.2.1)))), ((cell_far (p := ⟨gb197, _, none⟩) NB188_197.out _).trans (((cell_far (p := ⟨gb197, _, none⟩) NB188_197.out _).trans (hHeld.2.2.2.2.2.1)))), ((cell_far (p := ⟨gb197, _, none⟩) NB188_197.out _).trans (((cell_far (p := ⟨gb197, _, none⟩) NB188_197.out _).trans (hHeld.2.2.2.2.2.2.1)))), ((cell_far (p := ⟨gb197, _, none⟩) NB188_197.out _).trans (((cell_far (p := ⟨gb197, _, none⟩) NB188_197.out _).trans (hHeld.2.2.2.2.2.2.2))))⟩ (fun hHeld => ?_)
   clear hK K
   refine done_ (done_of HT_.out (by kernel_rfl)) ?_
   have hnb69 := NB196_188.out
   have hnc69 := NB188_196.out
   have hnb70 := NB196_197.out
   have hnc70 := NB197_196.out
   have hcz71_0 : w64.cell? ⟨gb196, 0, none⟩ = some (.bool false) := (blk_cell BK196.out 0).trans rfl
   have hcz71_1 : w64.cell? ⟨gb196, 1, none⟩ = some (.int .u64 0) := (blk_cell BK196.out 1).trans rfl
   have hfz71_0 := blk_frozen BK196.out 0
   have hfz71_1 := blk_frozen BK196.out 1
   have hnb72 := NB197_188.out
   have hnc72 := NB188_197.out
   have hcz73_0 : w64.cell? ⟨gb197, 0, none⟩ = some (.bool false) := (blk_cell BK197.out 0).trans rfl
   have hcz73_1 : w64.cell? ⟨gb197, 1, none⟩ = some (.int .u64 0) := (blk_cell BK197.out 1).trans rfl
   have hfz73_0 := blk_frozen BK197.out 0
   have hfz73_1 := blk_frozen BK197.out 1
   have hcz74_0 : w64.cell? ⟨gb188, 0, none⟩ = some (.string a0_0) := (blk_cell BK188.out 0).trans rfl
   have hcz74_1 : w64.cell? ⟨gb188, 1, none⟩ = some (.int .i64 a0_1) := (blk_cell BK188.out 1).trans rfl
   have hcz74_2 : w64.cell? ⟨gb188, 2, none⟩ = some (.int .i64 a0_2) := (blk_cell BK188.out 2).trans rfl
   have hcz74_3 : w64.cell? ⟨gb188, 3, none⟩ = some (.int .i64 a0_3) := (blk_cell BK188.out 3).trans rfl
   have hcz74_4 : w64.cell? ⟨gb188, 4, none⟩ = some (.int .i64 a0_4) := (blk_cell BK188.out 4).trans rfl
   have hcz74_5 : w64.cell? ⟨gb188, 5, none⟩ = some (.int .i64 a0_5) := (blk_cell BK188.out 5).trans rfl
   have hcz74_6 : w64.cell? ⟨gb188, 6, none⟩ = some (.int .i64 a0_6) := (blk_cell BK188.out 6).trans rfl
   have hcz74_7 : w64.cell? ⟨gb188, 7, none⟩ = some (.bool a0_7) := (blk_cell BK188.out 7).trans rfl
   have hfz74_0 := blk_frozen BK188.out 0
   have hfz74_1 := blk_frozen BK188.out 1
   have hfz74_2 := blk_frozen BK188.out 2
   have hfz74_3 := blk_frozen BK188.out 3
   have hfz74_4 := blk_frozen BK188.out 4
   have hfz74_5 := blk_frozen BK188.out 5
   have hfz74_6 := blk_frozen BK188.out 6
   have hfz74_7 := blk_frozen BK188.out 7
   have H := AH_.out
   clear AH_
   by_cases c23 : (t192 != t194) = true
   rotate_left
   ·
    rw [if_neg c23] at H
    have c23b0 : (t192 != t194) = false := by simpa using c23
    (try (have c23b1 : decide (t192 = t194) = true := by simpa using c23))
    (try (have c23b2 : (t192 == t194) = true := by simpa using c23))
    clear c23
    simp only [Option.some.injEq, Prod.mk.injEq] at H
    obtain ⟨rfl, rfl⟩ := H
    try go_wp2
    go_ret2
    exact ⟨zValEa10_, zValEa7_⟩
   rw [if_pos c23] at H
   have c23b0 : (t192 != t194) = true := c23
   (try (have c23b1 : decide (t192 = t194) = false := by simpa using c23))
   (try (have c23b2 : (t192 == t194) = false := by simpa using c23))
   (try (have c23b3 : ¬ (t192 = t194) := by simpa using c23))
   clear c23
   by_cases c24 : (IntKind.u64.wrap (t193 + t195)) < t193
   ·
    rw [if_pos c24] at H
    have c24b0 : decide ((IntKind.u64.wrap (t193 + t195)) < t193) = true := decide_eq_true c24
    clear c24
    simp only [Option.some.injEq, Prod.mk.injEq] at H
    obtain ⟨rfl, rfl⟩ := H
    try go_wp2
    go_ret2
    exact ⟨zValEa10_, zValEa7_⟩
   rw [if_neg c24] at H
   have c24b0 : decide ((IntKind.u64.wrap (t193 + t195)) < t193) = false := decide_eq_false c24
   clear c24
   simp only [Option.some.injEq, Prod.mk.injEq] at H
   obtain ⟨rfl, rfl⟩ := H
   try go_wp2
   go_ret2
   exact ⟨zValEa10_, zValEa7_⟩
end Go.Proofs.YtenbkjeflancaaaGreatDoor.Q
