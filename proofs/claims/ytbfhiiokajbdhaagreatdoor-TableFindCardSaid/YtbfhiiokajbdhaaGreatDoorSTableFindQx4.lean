/- What the proof of TableFind leans on: Qx4. -/
import Derived.Test.YtbfhiiokajbdhaaGreatDoorSTableFindQx0
import Derived.Test.YtbfhiiokajbdhaaGreatDoorSTableFindQx3
namespace Go.Proofs.YtbfhiiokajbdhaaGreatDoor.Q
open Go.RowKit Go.Proofs.YtbfhiiokajbdhaaGreatDoorW.PrintWords Go.Proofs.YtbfhiiokajbdhaaGreatDoorW.PrintLast Go.Proofs.YtbfhiiokajbdhaaGreatDoorW.PrintMore
attribute [local go_sem] max2_int max_two
set_option linter.unusedVariables false
set_option linter.unusedSimpArgs false
theorem zQx4a0_ {P_ : Prop} (h_ : P_ := by repeat (first | (with_reducible first | exact HB.out | apply below_alloc | apply pw_below_drewN | apply below_drew1 | refine below_set ?_ GE105.out) | exact HB.out)) : P_ := h_
theorem zQx4a1_ {P_ : Prop} (h_ : P_ := by first | rfl | (simp [errW_none, errW_some] <;> rfl) | (simp only [← hji15]; first | rfl | (simp [errW_none, errW_some] <;> rfl)) | (simp [*, errW_none, errW_some] <;> rfl)) : P_ := h_
theorem zQx4a2_ {P_ : Prop} (h_ : P_ := by (with_reducible repeat (first | refine blk_drewN ?_ _ | refine blk_drew ?_ | refine blk_alloc ?_ _)); exact BK105.out) : P_ := h_
theorem zQx4a3_ {P_ : Prop} (h_ : P_ := by repeat (first | (with_reducible first | exact HB.out | apply below_alloc | apply pw_below_drewN | apply below_drew1) | exact HB.out)) : P_ := h_
theorem zQx4a4_ {P_ : Prop} (h_ : P_ := by first | rfl | (simp [errW_none, errW_some] <;> rfl) | (simp [*, errW_none, errW_some] <;> rfl)) : P_ := h_
theorem zQx4a5_ {P_ : Prop} (h_ : P_ := by first | rfl | (simp; done) | (simp [*]; done)) : P_ := h_
theorem zQx4a6_ {P_ : Prop} (h_ : P_ := by first | omega | exact Nat.le_refl _) : P_ := h_
def table_ranged.j0 : Nat → Int → Bool → Bool → ByteArray → Int → Int → Int → Int → Int → Int → Bool → Option (Bool)
 | 0, _, _, _, _, _, _, _, _, _, _, _ => none
 | k + 1, x3, x5, x6, x106000, x106001, x106002, x106003, x106004, x106005, x106006, x106007 => if x6 = true then ((table_within.f x106003 0 (wrap64 (65536 - (mx x3 1)))).bind fun t110 => (if t110 = true then ((table_within.f x106005 0 9).bind fun t111 => (if t111 = true then ((table_within.f x106006 0 1000000000).bind fun t112 => (if x5 = true then (if t112 = true then (if x106005 = 0 then (if x106006 = 0 then (if x106007 = true then (if x106002 = 1 then (some true) else (some (x106002 == 3))) else (some true)) else (some false)) else (some false)) else (some false)) else (if x106004 = 8 then (if t112 = true then (if x106005 = 0 then (if x106006 = 0 then (if x106007 = true then (if x106002 = 1 then (some true) else (some (x106002 == 3))) else (some true)) else (some false)) else (some false)) else (some false)) else (if t112 = true then (if x106007 = true then (if x106002 = 1 then (some true) else (some (x106002 == 3))) else (some true)) else (some false))))) else (if x5 = true then (some false) else (if x106004 = 8 then (some false) else (some false))))) else (if x5 = true then (some false) else (if x106004 = 8 then (some false) else (some false))))) else (if x5 = true then (some false) else (if x106004 = 8 then (some false) else (some false)))
def table_ranged.f (k : Nat) (a0_0 : ByteArray) (a0_1 : Int) (a0_2 : Int) (a0_3 : Int) (a0_4 : Int) (a0_5 : Int) (a0_6 : Int) (a0_7 : Bool) : Option (Bool) := (table_Words.f k a0_4).bind fun bt106 => (if bt106.2 = 0 then ((table_within.f a0_1 1 247).bind fun t108 => (if t108 = true then ((table_within.f a0_2 1 4).bind fun t109 => (if t109 = true then (table_ranged.j0 k bt106.1 (a0_4 == 1) ((a0_4 == 1) == (decide (a0_2 ≤ 2))) a0_0 a0_1 a0_2 a0_3 a0_4 a0_5 a0_6 a0_7) else (table_ranged.j0 k bt106.1 (a0_4 == 1) false a0_0 a0_1 a0_2 a0_3 a0_4 a0_5 a0_6 a0_7))) else (table_ranged.j0 k bt106.1 (a0_4 == 1) false a0_0 a0_1 a0_2 a0_3 a0_4 a0_5 a0_6 a0_7))) else (table_ranged.j0 k bt106.1 (a0_4 == 1) false a0_0 a0_1 a0_2 a0_3 a0_4 a0_5 a0_6 a0_7))
set_option maxHeartbeats 8000000 in
set_option maxRecDepth 100000 in
theorem table_ranged.calls (k : Nat) (a0_0 : ByteArray) (a0_1 : Int) (a0_2 : Int) (a0_3 : Int) (a0_4 : Int) (a0_5 : Int) (a0_6 : Int) (a0_7 : Bool) (r : Bool) (w : World) (h : table_ranged.f k a0_0 a0_1 a0_2 a0_3 a0_4 a0_5 a0_6 a0_7 = some r) :
  Calls Tryz.prog 47 #[.agg #[.string a0_0, .int .i64 a0_1, .int .i64 a0_2, .int .i64 a0_3, .int .i64 a0_4, .int .i64 a0_5, .int .i64 a0_6, .bool a0_7]] w fun e w' => e = .returned (.bool r) ∧ Below w.heap.size w w' := by
 have hu34 := Tryz.underlying34
 have HB := Aside0.mk (Below.refl w.heap.size w)
 have H : ((table_Words.f k a0_4).bind fun bt106 => (if bt106.2 = 0 then ((table_within.f a0_1 1 247).bind fun t108 => (if t108 = true then ((table_within.f a0_2 1 4).bind fun t109 => (if t109 = true then (table_ranged.j0 k bt106.1 (a0_4 == 1) ((a0_4 == 1) == (decide (a0_2 ≤ 2))) a0_0 a0_1 a0_2 a0_3 a0_4 a0_5 a0_6 a0_7) else (table_ranged.j0 k bt106.1 (a0_4 == 1) false a0_0 a0_1 a0_2 a0_3 a0_4 a0_5 a0_6 a0_7))) else (table_ranged.j0 k bt106.1 (a0_4 == 1) false a0_0 a0_1 a0_2 a0_3 a0_4 a0_5 a0_6 a0_7))) else (table_ranged.j0 k bt106.1 (a0_4 == 1) false a0_0 a0_1 a0_2 a0_3 a0_4 a0_5 a0_6 a0_7))) = some r := h
 clear h
 replace H := Option.bind_eq_some_iff.mp H
 obtain ⟨⟨t106, t107⟩, A20, H⟩ := H
 replace H : (if t107 = 0 then ((table_within.f a0_1 1 247).bind fun t108 => (if t108 = true then ((table_within.f a0_2 1 4).bind fun t109 => (if t109 = true then (table_ranged.j0 k t106 (a0_4 == 1) ((a0_4 == 1) == (decide (a0_2 ≤ 2))) a0_0 a0_1 a0_2 a0_3 a0_4 a0_5 a0_6 a0_7) else (table_ranged.j0 k t106 (a0_4 == 1) false a0_0 a0_1 a0_2 a0_3 a0_4 a0_5 a0_6 a0_7))) else (table_ranged.j0 k t106 (a0_4 == 1) false a0_0 a0_1 a0_2 a0_3 a0_4 a0_5 a0_6 a0_7))) else (table_ranged.j0 k t106 (a0_4 == 1) false a0_0 a0_1 a0_2 a0_3 a0_4 a0_5 a0_6 a0_7)) = some r := H
 have A2 := Aside0.mk A20
 clear A20
 have HC3 := Aside0.mk H
 clear H
 go_enter Tryz.func47, Tryz.ntmps47
 go_upto_region 3 with (first | ((with_reducible refine gate_dst (N := 1) rfl ?_); (try (refine gate_guard (by rfl) ?_; dsimp only)); refine box_event ?hg (N := 1) ?hd (cs := #[.string a0_0, .int .i64 a0_1, .int .i64 a0_2, .int .i64 a0_3, .int .i64 a0_4, .int .i64 a0_5, .int .i64 a0_6, .bool a0_7]) (t := 34) ?hr ?_; (case hd => rfl); (case hg => rfl); (case hr => first | (go_simp; done) | (go_simp; rfl)); intro gb105 hg w4 hbox hb; have n0_ := Aside0.mk (below_step zQx4a3_ hb); have n1_ := Aside0.mk (hbox); have n2_ := Aside0.mk ((by rw [hg]; exact (below_size zQx4a3_) : w.heap.size ≤ gb105)); have n3_ := Aside0.mk ((by rw [hg]; exact (below_size zQx4a3_) : w.heap.size ≤ gb105)); clear HB; have HB := n0_; have BK105 := n1_; have GW105 := n2_; have GE105 := n3_; clear n0_ n1_ n2_ n3_; clear hb hbox hg; have hcz5_0 : w4.cell? ⟨gb105, 0, none⟩ = some (.string a0_0) := (blk_cell BK105.out 0).trans rfl; have hcz5_1 : w4.cell? ⟨gb105, 1, none⟩ = some (.int .i64 a0_1) := (blk_cell BK105.out 1).trans rfl; have hcz5_2 : w4.cell? ⟨gb105, 2, none⟩ = some (.int .i64 a0_2) := (blk_cell BK105.out 2).trans rfl; have hcz5_3 : w4.cell? ⟨gb105, 3, none⟩ = some (.int .i64 a0_3) := (blk_cell BK105.out 3).trans rfl; have hcz5_4 : w4.cell? ⟨gb105, 4, none⟩ = some (.int .i64 a0_4) := (blk_cell BK105.out 4).trans rfl; have hcz5_5 : w4.cell? ⟨gb105, 5, none⟩ = some (.int .i64 a0_5) := (blk_cell BK105.out 5).trans rfl; have hcz5_6 : w4.cell? ⟨gb105, 6, none⟩ = some (.int .i64 a0_6) := (blk_cell BK105.out 6).trans rfl; have hcz5_7 : w4.cell? ⟨gb105, 7, none⟩ = some (.bool a0_7) := (blk_cell BK105.out 7).trans rfl; have hfz5_0 := blk_frozen BK105.out 0; have hfz5_1 := blk_frozen BK105.out 1; have hfz5_2 := blk_frozen BK105.out 2; have hfz5_3 := blk_frozen BK105.out 3; have hfz5_4 := blk_frozen BK105.out 4; have hfz5_5 := blk_frozen BK105.out 5; have hfz5_6 := blk_frozen BK105.out 6; have hfz5_7 := blk_frozen BK105.out 7) | ((with_reducible refine gate_callee (f := 14) rfl ?_); refine goesL_ (some 10) rfl rfl Tryz.func14 (by kernel_rfl) rfl #[.int .i64 a0_4] rfl (by (try simp only [List.map_toArray, List.map_cons, List.map_nil]); first | done | rfl | (simp only [List.length_drop, List.length_take]; rfl)) ?_; (with_reducible refine (table_Words.calls k a0_4 t106 t107 _ A2.out).mono ?_); rintro e w' ⟨rfl, ⟨nd, rfl⟩⟩; refine ⟨_, rfl, ?_⟩))
 (try simp only [Act.put, List.setIfInBounds_toArray, List.set_cons_zero, List.set_cons_succ])
 go_cut [6] (fun v6 wc => ∃ (kq : Nat) (x6_2 : Bool), v6 = .bool x6_2 ∧ Aside0 (table_ranged.j0 kq t106 (a0_4 == 1) x6_2 a0_0 a0_1 a0_2 a0_3 a0_4 a0_5 a0_6 a0_7 = some r) ∧ Aside0 (kq ≤ k) ∧ Aside0 (wc.heap[gb105]? = some (.cells #[.string a0_0, .int .i64 a0_1, .int .i64 a0_2, .int .i64 a0_3, .int .i64 a0_4, .int .i64 a0_5, .int .i64 a0_6, .bool a0_7] 34 (0, 0))) ∧ Aside0 (Below w.heap.size w wc))
 case first =>
  have H := HC3.out
  clear HC3
  by_cases c6 : t107 = 0
  rotate_left
  ·
   rw [if_neg c6] at H
   have c6b0 : (t107 == 0) = false := beq_eq_false_iff_ne.mpr c6
   have c6b1 : (t107 != 0) = true := bne_iff_ne.mpr c6
   (first | rw [c6b0] | (simp only [i64_w, i32_w]; rw [c6b0]) | skip)
   have H' := Aside0.mk H
   clear H
   go_wp2
   go_meet
   case rel => exact ⟨_, (false), zQx4a5_, H', ⟨zQx4a6_⟩, ⟨zQx4a2_⟩, ⟨zQx4a0_⟩⟩
  rw [if_pos c6] at H
  have c6b0 : (t107 == 0) = true := beq_iff_eq.mpr c6
  have c6b1 : (t107 != 0) = false := bne_eq_false_iff_eq.mpr c6
  clear c6
  (first | rw [c6b0] | (simp only [i64_w, i32_w]; rw [c6b0]) | skip)
  replace H := Option.bind_eq_some_iff.mp H
  obtain ⟨t108, A70, H⟩ := H
  replace H : (if t108 = true then ((table_within.f a0_2 1 4).bind fun t109 => (if t109 = true then (table_ranged.j0 k t106 (a0_4 == 1) ((a0_4 == 1) == (decide (a0_2 ≤ 2))) a0_0 a0_1 a0_2 a0_3 a0_4 a0_5 a0_6 a0_7) else (table_ranged.j0 k t106 (a0_4 == 1) false a0_0 a0_1 a0_2 a0_3 a0_4 a0_5 a0_6 a0_7))) else (table_ranged.j0 k t106 (a0_4 == 1) false a0_0 a0_1 a0_2 a0_3 a0_4 a0_5 a0_6 a0_7)) = some r := H
  have A7 := Aside0.mk A70
  clear A70
  by_cases c8 : t108 = true
  rotate_left
  ·
   replace c8 := Bool.eq_false_iff.mpr c8
   subst c8
   have H1 : (table_ranged.j0 k t106 (a0_4 == 1) false a0_0 a0_1 a0_2 a0_3 a0_4 a0_5 a0_6 a0_7) = some r := by rw [if_neg (show ¬ (false = true) by decide)] at H; exact H
   clear H
   have H := H1
   clear H1
   have H' := Aside0.mk H
   clear H
   have hcz13_0 : w4.cell? ⟨gb105, 0, none⟩ = some (.string a0_0) := (blk_cell BK105.out 0).trans rfl
   have hcz13_1 : w4.cell? ⟨gb105, 1, none⟩ = some (.int .i64 a0_1) := (blk_cell BK105.out 1).trans rfl
   have hcz13_2 : w4.cell? ⟨gb105, 2, none⟩ = some (.int .i64 a0_2) := (blk_cell BK105.out 2).trans rfl
   have hcz13_3 : w4.cell? ⟨gb105, 3, none⟩ = some (.int .i64 a0_3) := (blk_cell BK105.out 3).trans rfl
   have hcz13_4 : w4.cell? ⟨gb105, 4, none⟩ = some (.int .i64 a0_4) := (blk_cell BK105.out 4).trans rfl
   have hcz13_5 : w4.cell? ⟨gb105, 5, none⟩ = some (.int .i64 a0_5) := (blk_cell BK105.out 5).trans rfl
   have hcz13_6 : w4.cell? ⟨gb105, 6, none⟩ = some (.int .i64 a0_6) := (blk_cell BK105.out 6).trans rfl
   have hcz13_7 : w4.cell? ⟨gb105, 7, none⟩ = some (.bool a0_7) := (blk_cell BK105.out 7).trans rfl
   have hfz13_0 := blk_frozen BK105.out 0
   have hfz13_1 := blk_frozen BK105.out 1
   have hfz13_2 := blk_frozen BK105.out 2
   have hfz13_3 := blk_frozen BK105.out 3
   have hfz13_4 := blk_frozen BK105.out 4
   have hfz13_5 := blk_frozen BK105.out 5
   have hfz13_6 := blk_frozen BK105.out 6
   have hfz13_7 := blk_frozen BK105.out 7
   go_wp2_with (first | (go_at_call 64; (with_reducible refine (table_within.calls a0_1 1 247 false _ A7.out).mono ?_); rintro e w' ⟨rfl, ⟨nd, rfl⟩⟩))
   go_meet
   case rel => exact ⟨_, (false), zQx4a5_, H', ⟨zQx4a6_⟩, ⟨zQx4a2_⟩, ⟨zQx4a0_⟩⟩
  subst c8
  have H1 : ((table_within.f a0_2 1 4).bind fun t109 => (if t109 = true then (table_ranged.j0 k t106 (a0_4 == 1) ((a0_4 == 1) == (decide (a0_2 ≤ 2))) a0_0 a0_1 a0_2 a0_3 a0_4 a0_5 a0_6 a0_7) else (table_ranged.j0 k t106 (a0_4 == 1) false a0_0 a0_1 a0_2 a0_3 a0_4 a0_5 a0_6 a0_7))) = some r := by rw [if_pos rfl] at H; exact H
  clear H
  have H := H1
  clear H1
  replace H := Option.bind_eq_some_iff.mp H
  obtain ⟨t109, A90, H⟩ := H
  replace H : (if t109 = true then (table_ranged.j0 k t106 (a0_4 == 1) ((a0_4 == 1) == (decide (a0_2 ≤ 2))) a0_0 a0_1 a0_2 a0_3 a0_4 a0_5 a0_6 a0_7) else (table_ranged.j0 k t106 (a0_4 == 1) false a0_0 a0_1 a0_2 a0_3 a0_4 a0_5 a0_6 a0_7)) = some r := H
  have A9 := Aside0.mk A90
  clear A90
  by_cases c10 : t109 = true
  rotate_left
  ·
   replace c10 := Bool.eq_false_iff.mpr c10
   subst c10
   have H1 : (table_ranged.j0 k t106 (a0_4 == 1) false a0_0 a0_1 a0_2 a0_3 a0_4 a0_5 a0_6 a0_7) = some r := by rw [if_neg (show ¬ (false = true) by decide)] at H; exact H
   clear H
   have H := H1
   clear H1
   have H' := Aside0.mk H
   clear H
   have hcz12_0 : w4.cell? ⟨gb105, 0, none⟩ = some (.string a0_0) := (blk_cell BK105.out 0).trans rfl
   have hcz12_1 : w4.cell? ⟨gb105, 1, none⟩ = some (.int .i64 a0_1) := (blk_cell BK105.out 1).trans rfl
   have hcz12_2 : w4.cell? ⟨gb105, 2, none⟩ = some (.int .i64 a0_2) := (blk_cell BK105.out 2).trans rfl
   have hcz12_3 : w4.cell? ⟨gb105, 3, none⟩ = some (.int .i64 a0_3) := (blk_cell BK105.out 3).trans rfl
   have hcz12_4 : w4.cell? ⟨gb105, 4, none⟩ = some (.int .i64 a0_4) := (blk_cell BK105.out 4).trans rfl
   have hcz12_5 : w4.cell? ⟨gb105, 5, none⟩ = some (.int .i64 a0_5) := (blk_cell BK105.out 5).trans rfl
   have hcz12_6 : w4.cell? ⟨gb105, 6, none⟩ = some (.int .i64 a0_6) := (blk_cell BK105.out 6).trans rfl
   have hcz12_7 : w4.cell? ⟨gb105, 7, none⟩ = some (.bool a0_7) := (blk_cell BK105.out 7).trans rfl
   have hfz12_0 := blk_frozen BK105.out 0
   have hfz12_1 := blk_frozen BK105.out 1
   have hfz12_2 := blk_frozen BK105.out 2
   have hfz12_3 := blk_frozen BK105.out 3
   have hfz12_4 := blk_frozen BK105.out 4
   have hfz12_5 := blk_frozen BK105.out 5
   have hfz12_6 := blk_frozen BK105.out 6
   have hfz12_7 := blk_frozen BK105.out 7
   go_wp2_with (first | (go_at_call 64; (with_reducible refine (table_within.calls a0_1 1 247 true _ A7.out).mono ?_); rintro e w' ⟨rfl, ⟨nd, rfl⟩⟩) | (go_at_call 64; (with_reducible refine (table_within.calls a0_2 1 4 false _ A9.out).mono ?_); rintro e w' ⟨rfl, ⟨nd, rfl⟩⟩))
   go_meet
   case rel => exact ⟨_, (false), zQx4a5_, H', ⟨zQx4a6_⟩, ⟨zQx4a2_⟩, ⟨zQx4a0_⟩⟩
  subst c10
  have H1 : (table_ranged.j0 k t106 (a0_4 == 1) ((a0_4 == 1) == (decide (a0_2 ≤ 2))) a0_0 a0_1 a0_2 a0_3 a0_4 a0_5 a0_6 a0_7) = some r := by rw [if_pos rfl] at H; exact H
  clear H
  have H := H1
  clear H1
  have H' := Aside0.mk H
  clear H
  have hcz11_0 : w4.cell? ⟨gb105, 0, none⟩ = some (.string a0_0) := (blk_cell BK105.out 0).trans rfl
  have hcz11_1 : w4.cell? ⟨gb105, 1, none⟩ = some (.int .i64 a0_1) := (blk_cell BK105.out 1).trans rfl
  have hcz11_2 : w4.cell? ⟨gb105, 2, none⟩ = some (.int .i64 a0_2) := (blk_cell BK105.out 2).trans rfl
  have hcz11_3 : w4.cell? ⟨gb105, 3, none⟩ = some (.int .i64 a0_3) := (blk_cell BK105.out 3).trans rfl
  have hcz11_4 : w4.cell? ⟨gb105, 4, none⟩ = some (.int .i64 a0_4) := (blk_cell BK105.out 4).trans rfl
  have hcz11_5 : w4.cell? ⟨gb105, 5, none⟩ = some (.int .i64 a0_5) := (blk_cell BK105.out 5).trans rfl
  have hcz11_6 : w4.cell? ⟨gb105, 6, none⟩ = some (.int .i64 a0_6) := (blk_cell BK105.out 6).trans rfl
  have hcz11_7 : w4.cell? ⟨gb105, 7, none⟩ = some (.bool a0_7) := (blk_cell BK105.out 7).trans rfl
  have hfz11_0 := blk_frozen BK105.out 0
  have hfz11_1 := blk_frozen BK105.out 1
  have hfz11_2 := blk_frozen BK105.out 2
  have hfz11_3 := blk_frozen BK105.out 3
  have hfz11_4 := blk_frozen BK105.out 4
  have hfz11_5 := blk_frozen BK105.out 5
  have hfz11_6 := blk_frozen BK105.out 6
  have hfz11_7 := blk_frozen BK105.out 7
  go_wp2_with (first | (go_at_call 64; (with_reducible refine (table_within.calls a0_1 1 247 true _ A7.out).mono ?_); rintro e w' ⟨rfl, ⟨nd, rfl⟩⟩) | (go_at_call 64; (with_reducible refine (table_within.calls a0_2 1 4 true _ A9.out).mono ?_); rintro e w' ⟨rfl, ⟨nd, rfl⟩⟩))
  go_meet
  case rel => exact ⟨_, (((a0_4 == 1) == (decide (a0_2 ≤ 2)))), zQx4a5_, H', ⟨zQx4a6_⟩, ⟨zQx4a2_⟩, ⟨zQx4a0_⟩⟩
 case rest =>
  clear HC3
  try clear c1
  try clear p2
  try clear c4
  try clear c6
  try clear c6b0
  try clear c6b1
  try clear c8
  try clear c10
  try clear hcz11_0
  try clear hcz11_1
  try clear hcz11_2
  try clear hcz11_3
  try clear hcz11_4
  try clear hcz11_5
  try clear hcz11_6
  try clear hcz11_7
  try clear hcz12_0
  try clear hcz12_1
  try clear hcz12_2
  try clear hcz12_3
  try clear hcz12_4
  try clear hcz12_5
  try clear hcz12_6
  try clear hcz12_7
  try clear hcz13_0
  try clear hcz13_1
  try clear hcz13_2
  try clear hcz13_3
  try clear hcz13_4
  try clear hcz13_5
  try clear hcz13_6
  try clear hcz13_7
  try clear hcz5_0
  try clear hcz5_1
  try clear hcz5_2
  try clear hcz5_3
  try clear hcz5_4
  try clear hcz5_5
  try clear hcz5_6
  try clear hcz5_7
  try clear hfz11_0
  try clear hfz11_1
  try clear hfz11_2
  try clear hfz11_3
  try clear hfz11_4
  try clear hfz11_5
  try clear hfz11_6
  try clear hfz11_7
  try clear hfz12_0
  try clear hfz12_1
  try clear hfz12_2
  try clear hfz12_3
  try clear hfz12_4
  try clear hfz12_5
  try clear hfz12_6
  try clear hfz12_7
  try clear hfz13_0
  try clear hfz13_1
  try clear hfz13_2
  try clear hfz13_3
  try clear hfz13_4
  try clear hfz13_5
  try clear hfz13_6
  try clear hfz13_7
  try clear hfz5_0
  try clear hfz5_1
  try clear hfz5_2
  try clear hfz5_3
  try clear hfz5_4
  try clear hfz5_5
  try clear hfz5_6
  try clear hfz5_7
  obtain ⟨kq, x6_2, rfl, HA, HJ2, BK105, HB⟩ := hcut
  cases kq with
  | zero => exact absurd HA.out (by simp [table_ranged.j0])
  | succ kj2 =>
   have H := HA.out
   clear HA
   simp only [table_ranged.j0] at H
   by_cases c14 : x6_2 = true
   rotate_left
   ·
    replace c14 := Bool.eq_false_iff.mpr c14
    subst c14
    have H1 : (if (a0_4 == 1) = true then (some false) else (if a0_4 = 8 then (some false) else (some false))) = some r := by rw [if_neg (show ¬ (false = true) by decide)] at H; exact H
    clear H
    have H := H1
    clear H1
    by_cases c62 : (a0_4 == 1) = true
    ·
     rw [if_pos c62] at H
     have c62b0 : (a0_4 == 1) = true := c62
     (try (have c62b1 : decide (a0_4 = 1) = true := by simpa using c62))
     (try (have c62b2 : (a0_4 == 1) = true := by simpa using c62))
     clear c62
     obtain rfl := Option.some.inj H
     go_wp2
     go_ret
     exact ⟨zQx4a4_, zQx4a0_⟩
    rw [if_neg c62] at H
    have c62b0 : (a0_4 == 1) = false := by simpa using c62
    (try (have c62b1 : decide (a0_4 = 1) = false := by simpa using c62))
    (try (have c62b2 : (a0_4 == 1) = false := by simpa using c62))
    (try (have c62b3 : ¬ (a0_4 = 1) := by simpa using c62))
    clear c62
    by_cases c63 : a0_4 = 8
    rotate_left
    ·
     rw [if_neg c63] at H
     have c63b0 : (a0_4 == 8) = false := beq_eq_false_iff_ne.mpr c63
     have c63b1 : (a0_4 != 8) = true := bne_iff_ne.mpr c63
     obtain rfl := Option.some.inj H
     have hcz65_0 : wc.cell? ⟨gb105, 0, none⟩ = some (.string a0_0) := (blk_cell BK105.out 0).trans rfl
     have hcz65_1 : wc.cell? ⟨gb105, 1, none⟩ = some (.int .i64 a0_1) := (blk_cell BK105.out 1).trans rfl
     have hcz65_2 : wc.cell? ⟨gb105, 2, none⟩ = some (.int .i64 a0_2) := (blk_cell BK105.out 2).trans rfl
     have hcz65_3 : wc.cell? ⟨gb105, 3, none⟩ = some (.int .i64 a0_3) := (blk_cell BK105.out 3).trans rfl
     have hcz65_4 : wc.cell? ⟨gb105, 4, none⟩ = some (.int .i64 a0_4) := (blk_cell BK105.out 4).trans rfl
     have hcz65_5 : wc.cell? ⟨gb105, 5, none⟩ = some (.int .i64 a0_5) := (blk_cell BK105.out 5).trans rfl
     have hcz65_6 : wc.cell? ⟨gb105, 6, none⟩ = some (.int .i64 a0_6) := (blk_cell BK105.out 6).trans rfl
     have hcz65_7 : wc.cell? ⟨gb105, 7, none⟩ = some (.bool a0_7) := (blk_cell BK105.out 7).trans rfl
     have hfz65_0 := blk_frozen BK105.out 0
     have hfz65_1 := blk_frozen BK105.out 1
     have hfz65_2 := blk_frozen BK105.out 2
     have hfz65_3 := blk_frozen BK105.out 3
     have hfz65_4 := blk_frozen BK105.out 4
     have hfz65_5 := blk_frozen BK105.out 5
     have hfz65_6 := blk_frozen BK105.out 6
     have hfz65_7 := blk_frozen BK105.out 7
     go_wp2
     go_ret
     exact ⟨zQx4a4_, zQx4a0_⟩
    rw [if_pos c63] at H
    have c63b0 : (a0_4 == 8) = true := beq_iff_eq.mpr c63
    have c63b1 : (a0_4 != 8) = false := bne_eq_false_iff_eq.mpr c63
    clear c63
    obtain rfl := Option.some.inj H
    have hcz64_0 : wc.cell? ⟨gb105, 0, none⟩ = some (.string a0_0) := (blk_cell BK105.out 0).trans rfl
    have hcz64_1 : wc.cell? ⟨gb105, 1, none⟩ = some (.int .i64 a0_1) := (blk_cell BK105.out 1).trans rfl
    have hcz64_2 : wc.cell? ⟨gb105, 2, none⟩ = some (.int .i64 a0_2) := (blk_cell BK105.out 2).trans rfl
    have hcz64_3 : wc.cell? ⟨gb105, 3, none⟩ = some (.int .i64 a0_3) := (blk_cell BK105.out 3).trans rfl
    have hcz64_4 : wc.cell? ⟨gb105, 4, none⟩ = some (.int .i64 a0_4) := (blk_cell BK105.out 4).trans rfl
    have hcz64_5 : wc.cell? ⟨gb105, 5, none⟩ = some (.int .i64 a0_5) := (blk_cell BK105.out 5).trans rfl
    have hcz64_6 : wc.cell? ⟨gb105, 6, none⟩ = some (.int .i64 a0_6) := (blk_cell BK105.out 6).trans rfl
    have hcz64_7 : wc.cell? ⟨gb105, 7, none⟩ = some (.bool a0_7) := (blk_cell BK105.out 7).trans rfl
    have hfz64_0 := blk_frozen BK105.out 0
    have hfz64_1 := blk_frozen BK105.out 1
    have hfz64_2 := blk_frozen BK105.out 2
    have hfz64_3 := blk_frozen BK105.out 3
    have hfz64_4 := blk_frozen BK105.out 4
    have hfz64_5 := blk_frozen BK105.out 5
    have hfz64_6 := blk_frozen BK105.out 6
    have hfz64_7 := blk_frozen BK105.out 7
    go_wp2
    go_ret
    exact ⟨zQx4a4_, zQx4a0_⟩
   subst c14
   have H1 : ((table_within.f a0_3 0 (wrap64 (65536 - (mx t106 1)))).bind fun t110 => (if t110 = true then ((table_within.f a0_5 0 9).bind fun t111 => (if t111 = true then ((table_within.f a0_6 0 1000000000).bind fun t112 => (if (a0_4 == 1) = true then (if t112 = true then (if a0_5 = 0 then (if a0_6 = 0 then (if a0_7 = true then (if a0_2 = 1 then (some true) else (some (a0_2 == 3))) else (some true)) else (some false)) else (some false)) else (some false)) else (if a0_4 = 8 then (if t112 = true then (if a0_5 = 0 then (if a0_6 = 0 then (if a0_7 = true then (if a0_2 = 1 then (some true) else (some (a0_2 == 3))) else (some true)) else (some false)) else (some false)) else (some false)) else (if t112 = true then (if a0_7 = true then (if a0_2 = 1 then (some true) else (some (a0_2 == 3))) else (some true)) else (some false))))) else (if (a0_4 == 1) = true then (some false) else (if a0_4 = 8 then (some false) else (some false))))) else (if (a0_4 == 1) = true then (some false) else (if a0_4 = 8 then (some false) else (some false))))) = some r := by rw [if_pos rfl] at H; exact H
   clear H
   have H := H1
   clear H1
   obtain ⟨ji15, hji15⟩ : ∃ j_ : Int, (mx t106 1) = j_ := ⟨_, rfl⟩
   replace H : ((table_within.f a0_3 0 (wrap64 (65536 - (ji15)))).bind fun t110 => (if t110 = true then ((table_within.f a0_5 0 9).bind fun t111 => (if t111 = true then ((table_within.f a0_6 0 1000000000).bind fun t112 => (if (a0_4 == 1) = true then (if t112 = true then (if a0_5 = 0 then (if a0_6 = 0 then (if a0_7 = true then (if a0_2 = 1 then (some true) else (some (a0_2 == 3))) else (some true)) else (some false)) else (some false)) else (some false)) else (if a0_4 = 8 then (if t112 = true then (if a0_5 = 0 then (if a0_6 = 0 then (if a0_7 = true then (if a0_2 = 1 then (some true) else (some (a0_2 == 3))) else (some true)) else (some false)) else (some false)) else (some false)) else (if t112 = true then (if a0_7 = true then (if a0_2 = 1 then (some true) else (some (a0_2 == 3))) else (some true)) else (some false))))) else (if (a0_4 == 1) = true then (some false) else (if a0_4 = 8 then (some false) else (some false))))) else (if (a0_4 == 1) = true then (some false) else (if a0_4 = 8 then (some false) else (some false))))) = some r := by first | (rw [hji15] at H; exact H) | (simp only [hji15] at H ⊢; exact H)
   have hji15_ : (if t106 < 1 then 1 else t106) = ji15 := hji15
   replace H := Option.bind_eq_some_iff.mp H
   obtain ⟨t110, A160, H⟩ := H
   replace H : (if t110 = true then ((table_within.f a0_5 0 9).bind fun t111 => (if t111 = true then ((table_within.f a0_6 0 1000000000).bind fun t112 => (if (a0_4 == 1) = true then (if t112 = true then (if a0_5 = 0 then (if a0_6 = 0 then (if a0_7 = true then (if a0_2 = 1 then (some true) else (some (a0_2 == 3))) else (some true)) else (some false)) else (some false)) else (some false)) else (if a0_4 = 8 then (if t112 = true then (if a0_5 = 0 then (if a0_6 = 0 then (if a0_7 = true then (if a0_2 = 1 then (some true) else (some (a0_2 == 3))) else (some true)) else (some false)) else (some false)) else (some false)) else (if t112 = true then (if a0_7 = true then (if a0_2 = 1 then (some true) else (some (a0_2 == 3))) else (some true)) else (some false))))) else (if (a0_4 == 1) = true then (some false) else (if a0_4 = 8 then (some false) else (some false))))) else (if (a0_4 == 1) = true then (some false) else (if a0_4 = 8 then (some false) else (some false)))) = some r := H
   have A16 := Aside0.mk A160
   clear A160
   by_cases c17 : t110 = true
   rotate_left
   ·
    replace c17 := Bool.eq_false_iff.mpr c17
    subst c17
    have H1 : (if (a0_4 == 1) = true then (some false) else (if a0_4 = 8 then (some false) else (some false))) = some r := by rw [if_neg (show ¬ (false = true) by decide)] at H; exact H
    clear H
    have H := H1
    clear H1
    by_cases c57 : (a0_4 == 1) = true
    ·
     rw [if_pos c57] at H
     have c57b0 : (a0_4 == 1) = true := c57
     (try (have c57b1 : decide (a0_4 = 1) = true := by simpa using c57))
     (try (have c57b2 : (a0_4 == 1) = true := by simpa using c57))
     clear c57
     obtain rfl := Option.some.inj H
     have hcz58_0 : wc.cell? ⟨gb105, 0, none⟩ = some (.string a0_0) := (blk_cell BK105.out 0).trans rfl
     have hcz58_1 : wc.cell? ⟨gb105, 1, none⟩ = some (.int .i64 a0_1) := (blk_cell BK105.out 1).trans rfl
     have hcz58_2 : wc.cell? ⟨gb105, 2, none⟩ = some (.int .i64 a0_2) := (blk_cell BK105.out 2).trans rfl
     have hcz58_3 : wc.cell? ⟨gb105, 3, none⟩ = some (.int .i64 a0_3) := (blk_cell BK105.out 3).trans rfl
     have hcz58_4 : wc.cell? ⟨gb105, 4, none⟩ = some (.int .i64 a0_4) := (blk_cell BK105.out 4).trans rfl
     have hcz58_5 : wc.cell? ⟨gb105, 5, none⟩ = some (.int .i64 a0_5) := (blk_cell BK105.out 5).trans rfl
     have hcz58_6 : wc.cell? ⟨gb105, 6, none⟩ = some (.int .i64 a0_6) := (blk_cell BK105.out 6).trans rfl
     have hcz58_7 : wc.cell? ⟨gb105, 7, none⟩ = some (.bool a0_7) := (blk_cell BK105.out 7).trans rfl
     have hfz58_0 := blk_frozen BK105.out 0
     have hfz58_1 := blk_frozen BK105.out 1
     have hfz58_2 := blk_frozen BK105.out 2
     have hfz58_3 := blk_frozen BK105.out 3
     have hfz58_4 := blk_frozen BK105.out 4
     have hfz58_5 := blk_frozen BK105.out 5
     have hfz58_6 := blk_frozen BK105.out 6
     have hfz58_7 := blk_frozen BK105.out 7
     go_wp2_with (first | (go_at_call 64; (with_reducible refine (table_within.calls a0_3 0 (wrap64 (65536 - (ji15))) false _ A16.out).mono ?_); rintro e w' ⟨rfl, ⟨nd, rfl⟩⟩))
     go_ret
     exact ⟨zQx4a1_, zQx4a0_⟩
    rw [if_neg c57] at H
    have c57b0 : (a0_4 == 1) = false := by simpa using c57
    (try (have c57b1 : decide (a0_4 = 1) = false := by simpa using c57))
    (try (have c57b2 : (a0_4 == 1) = false := by simpa using c57))
    (try (have c57b3 : ¬ (a0_4 = 1) := by simpa using c57))
    clear c57
    by_cases c59 : a0_4 = 8
    rotate_left
    ·
     rw [if_neg c59] at H
     have c59b0 : (a0_4 == 8) = false := beq_eq_false_iff_ne.mpr c59
     have c59b1 : (a0_4 != 8) = true := bne_iff_ne.mpr c59
     obtain rfl := Option.some.inj H
     have hcz61_0 : wc.cell? ⟨gb105, 0, none⟩ = some (.string a0_0) := (blk_cell BK105.out 0).trans rfl
     have hcz61_1 : wc.cell? ⟨gb105, 1, none⟩ = some (.int .i64 a0_1) := (blk_cell BK105.out 1).trans rfl
     have hcz61_2 : wc.cell? ⟨gb105, 2, none⟩ = some (.int .i64 a0_2) := (blk_cell BK105.out 2).trans rfl
     have hcz61_3 : wc.cell? ⟨gb105, 3, none⟩ = some (.int .i64 a0_3) := (blk_cell BK105.out 3).trans rfl
     have hcz61_4 : wc.cell? ⟨gb105, 4, none⟩ = some (.int .i64 a0_4) := (blk_cell BK105.out 4).trans rfl
     have hcz61_5 : wc.cell? ⟨gb105, 5, none⟩ = some (.int .i64 a0_5) := (blk_cell BK105.out 5).trans rfl
     have hcz61_6 : wc.cell? ⟨gb105, 6, none⟩ = some (.int .i64 a0_6) := (blk_cell BK105.out 6).trans rfl
     have hcz61_7 : wc.cell? ⟨gb105, 7, none⟩ = some (.bool a0_7) := (blk_cell BK105.out 7).trans rfl
     have hfz61_0 := blk_frozen BK105.out 0
     have hfz61_1 := blk_frozen BK105.out 1
     have hfz61_2 := blk_frozen BK105.out 2
     have hfz61_3 := blk_frozen BK105.out 3
     have hfz61_4 := blk_frozen BK105.out 4
     have hfz61_5 := blk_frozen BK105.out 5
     have hfz61_6 := blk_frozen BK105.out 6
     have hfz61_7 := blk_frozen BK105.out 7
     go_wp2_with (first | (go_at_call 64; (with_reducible refine (table_within.calls a0_3 0 (wrap64 (65536 - (ji15))) false _ A16.out).mono ?_); rintro e w' ⟨rfl, ⟨nd, rfl⟩⟩))
     go_ret
     exact ⟨zQx4a1_, zQx4a0_⟩
    rw [if_pos c59] at H
    have c59b0 : (a0_4 == 8) = true := beq_iff_eq.mpr c59
    have c59b1 : (a0_4 != 8) = false := bne_eq_false_iff_eq.mpr c59
    clear c59
    obtain rfl := Option.some.inj H
    have hcz60_0 : wc.cell? ⟨gb105, 0, none⟩ = some (.string a0_0) := (blk_cell BK105.out 0).trans rfl
    have hcz60_1 : wc.cell? ⟨gb105, 1, none⟩ = some (.int .i64 a0_1) := (blk_cell BK105.out 1).trans rfl
    have hcz60_2 : wc.cell? ⟨gb105, 2, none⟩ = some (.int .i64 a0_2) := (blk_cell BK105.out 2).trans rfl
    have hcz60_3 : wc.cell? ⟨gb105, 3, none⟩ = some (.int .i64 a0_3) := (blk_cell BK105.out 3).trans rfl
    have hcz60_4 : wc.cell? ⟨gb105, 4, none⟩ = some (.int .i64 a0_4) := (blk_cell BK105.out 4).trans rfl
    have hcz60_5 : wc.cell? ⟨gb105, 5, none⟩ = some (.int .i64 a0_5) := (blk_cell BK105.out 5).trans rfl
    have hcz60_6 : wc.cell? ⟨gb105, 6, none⟩ = some (.int .i64 a0_6) := (blk_cell BK105.out 6).trans rfl
    have hcz60_7 : wc.cell? ⟨gb105, 7, none⟩ = some (.bool a0_7) := (blk_cell BK105.out 7).trans rfl
    have hfz60_0 := blk_frozen BK105.out 0
    have hfz60_1 := blk_frozen BK105.out 1
    have hfz60_2 := blk_frozen BK105.out 2
    have hfz60_3 := blk_frozen BK105.out 3
    have hfz60_4 := blk_frozen BK105.out 4
    have hfz60_5 := blk_frozen BK105.out 5
    have hfz60_6 := blk_frozen BK105.out 6
    have hfz60_7 := blk_frozen BK105.out 7
    go_wp2_with (first | (go_at_call 64; (with_reducible refine (table_within.calls a0_3 0 (wrap64 (65536 - (ji15))) false _ A16.out).mono ?_); rintro e w' ⟨rfl, ⟨nd, rfl⟩⟩))
    go_ret
    exact ⟨zQx4a1_, zQx4a0_⟩
   subst c17
   have H1 : ((table_within.f a0_5 0 9).bind fun t111 => (if t111 = true then ((table_within.f a0_6 0 1000000000).bind fun t112 => (if (a0_4 == 1) = true then (if t112 = true then (if a0_5 = 0 then (if a0_6 = 0 then (if a0_7 = true then (if a0_2 = 1 then (some true) else (some (a0_2 == 3))) else (some true)) else (some false)) else (some false)) else (some false)) else (if a0_4 = 8 then (if t112 = true then (if a0_5 = 0 then (if a0_6 = 0 then (if a0_7 = true then (if a0_2 = 1 then (some true) else (some (a0_2 == 3))) else (some true)) else (some false)) else (some false)) else (some false)) else (if t112 = true then (if a0_7 = true then (if a0_2 = 1 then (some true) else (some (a0_2 == 3))) else (some true)) else (some false))))) else (if (a0_4 == 1) = true then (some false) else (if a0_4 = 8 then (some false) else (some false))))) = some r := by rw [if_pos rfl] at H; exact H
   clear H
   have H := H1
   clear H1
   replace H := Option.bind_eq_some_iff.mp H
   obtain ⟨t111, A180, H⟩ := H
   replace H : (if t111 = true then ((table_within.f a0_6 0 1000000000).bind fun t112 => (if (a0_4 == 1) = true then (if t112 = true then (if a0_5 = 0 then (if a0_6 = 0 then (if a0_7 = true then (if a0_2 = 1 then (some true) else (some (a0_2 == 3))) else (some true)) else (some false)) else (some false)) else (some false)) else (if a0_4 = 8 then (if t112 = true then (if a0_5 = 0 then (if a0_6 = 0 then (if a0_7 = true then (if a0_2 = 1 then (some true) else (some (a0_2 == 3))) else (some true)) else (some false)) else (some false)) else (some false)) else (if t112 = true then (if a0_7 = true then (if a0_2 = 1 then (some true) else (some (a0_2 == 3))) else (some true)) else (some false))))) else (if (a0_4 == 1) = true then (some false) else (if a0_4 = 8 then (some false) else (some false)))) = some r := H
   have A18 := Aside0.mk A180
   clear A180
   by_cases c19 : t111 = true
   rotate_left
   ·
    replace c19 := Bool.eq_false_iff.mpr c19
    subst c19
    have H1 : (if (a0_4 == 1) = true then (some false) else (if a0_4 = 8 then (some false) else (some false))) = some r := by rw [if_neg (show ¬ (false = true) by decide)] at H; exact H
    clear H
    have H := H1
    clear H1
    by_cases c52 : (a0_4 == 1) = true
    ·
     rw [if_pos c52] at H
     have c52b0 : (a0_4 == 1) = true := c52
     (try (have c52b1 : decide (a0_4 = 1) = true := by simpa using c52))
     (try (have c52b2 : (a0_4 == 1) = true := by simpa using c52))
     clear c52
     obtain rfl := Option.some.inj H
     have hcz53_0 : wc.cell? ⟨gb105, 0, none⟩ = some (.string a0_0) := (blk_cell BK105.out 0).trans rfl
     have hcz53_1 : wc.cell? ⟨gb105, 1, none⟩ = some (.int .i64 a0_1) := (blk_cell BK105.out 1).trans rfl
     have hcz53_2 : wc.cell? ⟨gb105, 2, none⟩ = some (.int .i64 a0_2) := (blk_cell BK105.out 2).trans rfl
     have hcz53_3 : wc.cell? ⟨gb105, 3, none⟩ = some (.int .i64 a0_3) := (blk_cell BK105.out 3).trans rfl
     have hcz53_4 : wc.cell? ⟨gb105, 4, none⟩ = some (.int .i64 a0_4) := (blk_cell BK105.out 4).trans rfl
     have hcz53_5 : wc.cell? ⟨gb105, 5, none⟩ = some (.int .i64 a0_5) := (blk_cell BK105.out 5).trans rfl
     have hcz53_6 : wc.cell? ⟨gb105, 6, none⟩ = some (.int .i64 a0_6) := (blk_cell BK105.out 6).trans rfl
     have hcz53_7 : wc.cell? ⟨gb105, 7, none⟩ = some (.bool a0_7) := (blk_cell BK105.out 7).trans rfl
     have hfz53_0 := blk_frozen BK105.out 0
     have hfz53_1 := blk_frozen BK105.out 1
     have hfz53_2 := blk_frozen BK105.out 2
     have hfz53_3 := blk_frozen BK105.out 3
     have hfz53_4 := blk_frozen BK105.out 4
     have hfz53_5 := blk_frozen BK105.out 5
     have hfz53_6 := blk_frozen BK105.out 6
     have hfz53_7 := blk_frozen BK105.out 7
     go_wp2_with (first | (go_at_call 64; (with_reducible refine (table_within.calls a0_3 0 (wrap64 (65536 - (ji15))) true _ A16.out).mono ?_); rintro e w' ⟨rfl, ⟨nd, rfl⟩⟩) | (go_at_call 64; (with_reducible refine (table_within.calls a0_5 0 9 false _ A18.out).mono ?_); rintro e w' ⟨rfl, ⟨nd, rfl⟩⟩))
     go_ret
     exact ⟨zQx4a1_, zQx4a0_⟩
    rw [if_neg c52] at H
    have c52b0 : (a0_4 == 1) = false := by simpa using c52
    (try (have c52b1 : decide (a0_4 = 1) = false := by simpa using c52))
    (try (have c52b2 : (a0_4 == 1) = false := by simpa using c52))
    (try (have c52b3 : ¬ (a0_4 = 1) := by simpa using c52))
    clear c52
    by_cases c54 : a0_4 = 8
    rotate_left
    ·
     rw [if_neg c54] at H
     have c54b0 : (a0_4 == 8) = false := beq_eq_false_iff_ne.mpr c54
     have c54b1 : (a0_4 != 8) = true := bne_iff_ne.mpr c54
     obtain rfl := Option.some.inj H
     have hcz56_0 : wc.cell? ⟨gb105, 0, none⟩ = some (.string a0_0) := (blk_cell BK105.out 0).trans rfl
     have hcz56_1 : wc.cell? ⟨gb105, 1, none⟩ = some (.int .i64 a0_1) := (blk_cell BK105.out 1).trans rfl
     have hcz56_2 : wc.cell? ⟨gb105, 2, none⟩ = some (.int .i64 a0_2) := (blk_cell BK105.out 2).trans rfl
     have hcz56_3 : wc.cell? ⟨gb105, 3, none⟩ = some (.int .i64 a0_3) := (blk_cell BK105.out 3).trans rfl
     have hcz56_4 : wc.cell? ⟨gb105, 4, none⟩ = some (.int .i64 a0_4) := (blk_cell BK105.out 4).trans rfl
     have hcz56_5 : wc.cell? ⟨gb105, 5, none⟩ = some (.int .i64 a0_5) := (blk_cell BK105.out 5).trans rfl
     have hcz56_6 : wc.cell? ⟨gb105, 6, none⟩ = some (.int .i64 a0_6) := (blk_cell BK105.out 6).trans rfl
     have hcz56_7 : wc.cell? ⟨gb105, 7, none⟩ = some (.bool a0_7) := (blk_cell BK105.out 7).trans rfl
     have hfz56_0 := blk_frozen BK105.out 0
     have hfz56_1 := blk_frozen BK105.out 1
     have hfz56_2 := blk_frozen BK105.out 2
     have hfz56_3 := blk_frozen BK105.out 3
     have hfz56_4 := blk_frozen BK105.out 4
     have hfz56_5 := blk_frozen BK105.out 5
     have hfz56_6 := blk_frozen BK105.out 6
     have hfz56_7 := blk_frozen BK105.out 7
     go_wp2_with (first | (go_at_call 64; (with_reducible refine (table_within.calls a0_3 0 (wrap64 (65536 - (ji15))) true _ A16.out).mono ?_); rintro e w' ⟨rfl, ⟨nd, rfl⟩⟩) | (go_at_call 64; (with_reducible refine (table_within.calls a0_5 0 9 false _ A18.out).mono ?_); rintro e w' ⟨rfl, ⟨nd, rfl⟩⟩))
     go_ret
     exact ⟨zQx4a1_, zQx4a0_⟩
    rw [if_pos c54] at H
    have c54b0 : (a0_4 == 8) = true := beq_iff_eq.mpr c54
    have c54b1 : (a0_4 != 8) = false := bne_eq_false_iff_eq.mpr c54
    clear c54
    obtain rfl := Option.some.inj H
    have hcz55_0 : wc.cell? ⟨gb105, 0, none⟩ = some (.string a0_0) := (blk_cell BK105.out 0).trans rfl
    have hcz55_1 : wc.cell? ⟨gb105, 1, none⟩ = some (.int .i64 a0_1) := (blk_cell BK105.out 1).trans rfl
    have hcz55_2 : wc.cell? ⟨gb105, 2, none⟩ = some (.int .i64 a0_2) := (blk_cell BK105.out 2).trans rfl
    have hcz55_3 : wc.cell? ⟨gb105, 3, none⟩ = some (.int .i64 a0_3) := (blk_cell BK105.out 3).trans rfl
    have hcz55_4 : wc.cell? ⟨gb105, 4, none⟩ = some (.int .i64 a0_4) := (blk_cell BK105.out 4).trans rfl
    have hcz55_5 : wc.cell? ⟨gb105, 5, none⟩ = some (.int .i64 a0_5) := (blk_cell BK105.out 5).trans rfl
    have hcz55_6 : wc.cell? ⟨gb105, 6, none⟩ = some (.int .i64 a0_6) := (blk_cell BK105.out 6).trans rfl
    have hcz55_7 : wc.cell? ⟨gb105, 7, none⟩ = some (.bool a0_7) := (blk_cell BK105.out 7).trans rfl
    have hfz55_0 := blk_frozen BK105.out 0
    have hfz55_1 := blk_frozen BK105.out 1
    have hfz55_2 := blk_frozen BK105.out 2
    have hfz55_3 := blk_frozen BK105.out 3
    have hfz55_4 := blk_frozen BK105.out 4
    have hfz55_5 := blk_frozen BK105.out 5
    have hfz55_6 := blk_frozen BK105.out 6
    have hfz55_7 := blk_frozen BK105.out 7
    go_wp2_with (first | (go_at_call 64; (with_reducible refine (table_within.calls a0_3 0 (wrap64 (65536 - (ji15))) true _ A16.out).mono ?_); rintro e w' ⟨rfl, ⟨nd, rfl⟩⟩) | (go_at_call 64; (with_reducible refine (table_within.calls a0_5 0 9 false _ A18.out).mono ?_); rintro e w' ⟨rfl, ⟨nd, rfl⟩⟩))
    go_ret
    exact ⟨zQx4a1_, zQx4a0_⟩
   subst c19
   have H1 : ((table_within.f a0_6 0 1000000000).bind fun t112 => (if (a0_4 == 1) = true then (if t112 = true then (if a0_5 = 0 then (if a0_6 = 0 then (if a0_7 = true then (if a0_2 = 1 then (some true) else (some (a0_2 == 3))) else (some true)) else (some false)) else (some false)) else (some false)) else (if a0_4 = 8 then (if t112 = true then (if a0_5 = 0 then (if a0_6 = 0 then (if a0_7 = true then (if a0_2 = 1 then (some true) else (some (a0_2 == 3))) else (some true)) else (some false)) else (some false)) else (some false)) else (if t112 = true then (if a0_7 = true then (if a0_2 = 1 then (some true) else (some (a0_2 == 3))) else (some true)) else (some false))))) = some r := by rw [if_pos rfl] at H; exact H
   clear H
   have H := H1
   clear H1
   replace H := Option.bind_eq_some_iff.mp H
   obtain ⟨t112, A200, H⟩ := H
   replace H : (if (a0_4 == 1) = true then (if t112 = true then (if a0_5 = 0 then (if a0_6 = 0 then (if a0_7 = true then (if a0_2 = 1 then (some true) else (some (a0_2 == 3))) else (some true)) else (some false)) else (some false)) else (some false)) else (if a0_4 = 8 then (if t112 = true then (if a0_5 = 0 then (if a0_6 = 0 then (if a0_7 = true then (if a0_2 = 1 then (some true) else (some (a0_2 == 3))) else (some true)) else (some false)) else (some false)) else (some false)) else (if t112 = true then (if a0_7 = true then (if a0_2 = 1 then (some true) else (some (a0_2 == 3))) else (some true)) else (some false)))) = some r := H
   have A20 := Aside0.mk A200
   clear A200
   by_cases c21 : (a0_4 == 1) = true
   ·
    rw [if_pos c21] at H
    have c21b0 : (a0_4 == 1) = true := c21
    (try (have c21b1 : decide (a0_4 = 1) = true := by simpa using c21))
    (try (have c21b2 : (a0_4 == 1) = true := by simpa using c21))
    clear c21
    by_cases c22 : t112 = true
    rotate_left
    ·
     replace c22 := Bool.eq_false_iff.mpr c22
     subst c22
     have H1 : (some false) = some r := by rw [if_neg (show ¬ (false = true) by decide)] at H; exact H
     clear H
     have H := H1
     clear H1
     obtain rfl := Option.some.inj H
     have hcz32_0 : wc.cell? ⟨gb105, 0, none⟩ = some (.string a0_0) := (blk_cell BK105.out 0).trans rfl
     have hcz32_1 : wc.cell? ⟨gb105, 1, none⟩ = some (.int .i64 a0_1) := (blk_cell BK105.out 1).trans rfl
     have hcz32_2 : wc.cell? ⟨gb105, 2, none⟩ = some (.int .i64 a0_2) := (blk_cell BK105.out 2).trans rfl
     have hcz32_3 : wc.cell? ⟨gb105, 3, none⟩ = some (.int .i64 a0_3) := (blk_cell BK105.out 3).trans rfl
     have hcz32_4 : wc.cell? ⟨gb105, 4, none⟩ = some (.int .i64 a0_4) := (blk_cell BK105.out 4).trans rfl
     have hcz32_5 : wc.cell? ⟨gb105, 5, none⟩ = some (.int .i64 a0_5) := (blk_cell BK105.out 5).trans rfl
     have hcz32_6 : wc.cell? ⟨gb105, 6, none⟩ = some (.int .i64 a0_6) := (blk_cell BK105.out 6).trans rfl
     have hcz32_7 : wc.cell? ⟨gb105, 7, none⟩ = some (.bool a0_7) := (blk_cell BK105.out 7).trans rfl
     have hfz32_0 := blk_frozen BK105.out 0
     have hfz32_1 := blk_frozen BK105.out 1
     have hfz32_2 := blk_frozen BK105.out 2
     have hfz32_3 := blk_frozen BK105.out 3
     have hfz32_4 := blk_frozen BK105.out 4
     have hfz32_5 := blk_frozen BK105.out 5
     have hfz32_6 := blk_frozen BK105.out 6
     have hfz32_7 := blk_frozen BK105.out 7
     go_wp2_with (first | (go_at_call 64; (with_reducible refine (table_within.calls a0_3 0 (wrap64 (65536 - (ji15))) true _ A16.out).mono ?_); rintro e w' ⟨rfl, ⟨nd, rfl⟩⟩) | (go_at_call 64; (with_reducible refine (table_within.calls a0_5 0 9 true _ A18.out).mono ?_); rintro e w' ⟨rfl, ⟨nd, rfl⟩⟩) | (go_at_call 64; (with_reducible refine (table_within.calls a0_6 0 1000000000 false _ A20.out).mono ?_); rintro e w' ⟨rfl, ⟨nd, rfl⟩⟩))
     go_ret
     exact ⟨zQx4a1_, zQx4a0_⟩
    subst c22
    have H1 : (if a0_5 = 0 then (if a0_6 = 0 then (if a0_7 = true then (if a0_2 = 1 then (some true) else (some (a0_2 == 3))) else (some true)) else (some false)) else (some false)) = some r := by rw [if_pos rfl] at H; exact H
    clear H
    have H := H1
    clear H1
    by_cases c23 : a0_5 = 0
    rotate_left
    ·
     rw [if_neg c23] at H
     have c23b0 : (a0_5 == 0) = false := beq_eq_false_iff_ne.mpr c23
     have c23b1 : (a0_5 != 0) = true := bne_iff_ne.mpr c23
     obtain rfl := Option.some.inj H
     have hcz31_0 : wc.cell? ⟨gb105, 0, none⟩ = some (.string a0_0) := (blk_cell BK105.out 0).trans rfl
     have hcz31_1 : wc.cell? ⟨gb105, 1, none⟩ = some (.int .i64 a0_1) := (blk_cell BK105.out 1).trans rfl
     have hcz31_2 : wc.cell? ⟨gb105, 2, none⟩ = some (.int .i64 a0_2) := (blk_cell BK105.out 2).trans rfl
     have hcz31_3 : wc.cell? ⟨gb105, 3, none⟩ = some (.int .i64 a0_3) := (blk_cell BK105.out 3).trans rfl
     have hcz31_4 : wc.cell? ⟨gb105, 4, none⟩ = some (.int .i64 a0_4) := (blk_cell BK105.out 4).trans rfl
     have hcz31_5 : wc.cell? ⟨gb105, 5, none⟩ = some (.int .i64 a0_5) := (blk_cell BK105.out 5).trans rfl
     have hcz31_6 : wc.cell? ⟨gb105, 6, none⟩ = some (.int .i64 a0_6) := (blk_cell BK105.out 6).trans rfl
     have hcz31_7 : wc.cell? ⟨gb105, 7, none⟩ = some (.bool a0_7) := (blk_cell BK105.out 7).trans rfl
     have hfz31_0 := blk_frozen BK105.out 0
     have hfz31_1 := blk_frozen BK105.out 1
     have hfz31_2 := blk_frozen BK105.out 2
     have hfz31_3 := blk_frozen BK105.out 3
     have hfz31_4 := blk_frozen BK105.out 4
     have hfz31_5 := blk_frozen BK105.out 5
     have hfz31_6 := blk_frozen BK105.out 6
     have hfz31_7 := blk_frozen BK105.out 7
     go_wp2_with (first | (go_at_call 64; (with_reducible refine (table_within.calls a0_3 0 (wrap64 (65536 - (ji15))) true _ A16.out).mono ?_); rintro e w' ⟨rfl, ⟨nd, rfl⟩⟩) | (go_at_call 64; (with_reducible refine (table_within.calls a0_5 0 9 true _ A18.out).mono ?_); rintro e w' ⟨rfl, ⟨nd, rfl⟩⟩) | (go_at_call 64; (with_reducible refine (table_within.calls a0_6 0 1000000000 true _ A20.out).mono ?_); rintro e w' ⟨rfl, ⟨nd, rfl⟩⟩))
     go_ret
     exact ⟨zQx4a1_, zQx4a0_⟩
    rw [if_pos c23] at H
    have c23b0 : (a0_5 == 0) = true := beq_iff_eq.mpr c23
    have c23b1 : (a0_5 != 0) = false := bne_eq_false_iff_eq.mpr c23
    clear c23
    by_cases c24 : a0_6 = 0
    rotate_left
    ·
     rw [if_neg c24] at H
     have c24b0 : (a0_6 == 0) = false := beq_eq_false_iff_ne.mpr c24
     have c24b1 : (a0_6 != 0) = true := bne_iff_ne.mpr c24
     obtain rfl := Option.some.inj H
     have hcz30_0 : wc.cell? ⟨gb105, 0, none⟩ = some (.string a0_0) := (blk_cell BK105.out 0).trans rfl
     have hcz30_1 : wc.cell? ⟨gb105, 1, none⟩ = some (.int .i64 a0_1) := (blk_cell BK105.out 1).trans rfl
     have hcz30_2 : wc.cell? ⟨gb105, 2, none⟩ = some (.int .i64 a0_2) := (blk_cell BK105.out 2).trans rfl
     have hcz30_3 : wc.cell? ⟨gb105, 3, none⟩ = some (.int .i64 a0_3) := (blk_cell BK105.out 3).trans rfl
     have hcz30_4 : wc.cell? ⟨gb105, 4, none⟩ = some (.int .i64 a0_4) := (blk_cell BK105.out 4).trans rfl
     have hcz30_5 : wc.cell? ⟨gb105, 5, none⟩ = some (.int .i64 a0_5) := (blk_cell BK105.out 5).trans rfl
     have hcz30_6 : wc.cell? ⟨gb105, 6, none⟩ = some (.int .i64 a0_6) := (blk_cell BK105.out 6).trans rfl
     have hcz30_7 : wc.cell? ⟨gb105, 7, none⟩ = some (.bool a0_7) := (blk_cell BK105.out 7).trans rfl
     have hfz30_0 := blk_frozen BK105.out 0
     have hfz30_1 := blk_frozen BK105.out 1
     have hfz30_2 := blk_frozen BK105.out 2
     have hfz30_3 := blk_frozen BK105.out 3
     have hfz30_4 := blk_frozen BK105.out 4
     have hfz30_5 := blk_frozen BK105.out 5
     have hfz30_6 := blk_frozen BK105.out 6
     have hfz30_7 := blk_frozen BK105.out 7
     go_wp2_with (first | (go_at_call 64; (with_reducible refine (table_within.calls a0_3 0 (wrap64 (65536 - (ji15))) true _ A16.out).mono ?_); rintro e w' ⟨rfl, ⟨nd, rfl⟩⟩) | (go_at_call 64; (with_reducible refine (table_within.calls a0_5 0 9 true _ A18.out).mono ?_); rintro e w' ⟨rfl, ⟨nd, rfl⟩⟩) | (go_at_call 64; (with_reducible refine (table_within.calls a0_6 0 1000000000 true _ A20.out).mono ?_); rintro e w' ⟨rfl, ⟨nd, rfl⟩⟩))
     go_ret
     exact ⟨zQx4a1_, zQx4a0_⟩
    rw [if_pos c24] at H
    have c24b0 : (a0_6 == 0) = true := beq_iff_eq.mpr c24
    have c24b1 : (a0_6 != 0) = false := bne_eq_false_iff_eq.mpr c24
    clear c24
    by_cases c25 : a0_7 = true
    rotate_left
    ·
     replace c25 := Bool.eq_false_iff.mpr c25
     subst c25
     have H1 : (some true) = some r := by rw [if_neg (show ¬ (false = true) by decide)] at H; exact H
     clear H
     have H := H1
     clear H1
     obtain rfl := Option.some.inj H
     have hcz29_0 : wc.cell? ⟨gb105, 0, none⟩ = some (.string a0_0) := (blk_cell BK105.out 0).trans rfl
     have hcz29_1 : wc.cell? ⟨gb105, 1, none⟩ = some (.int .i64 a0_1) := (blk_cell BK105.out 1).trans rfl
     have hcz29_2 : wc.cell? ⟨gb105, 2, none⟩ = some (.int .i64 a0_2) := (blk_cell BK105.out 2).trans rfl
     have hcz29_3 : wc.cell? ⟨gb105, 3, none⟩ = some (.int .i64 a0_3) := (blk_cell BK105.out 3).trans rfl
     have hcz29_4 : wc.cell? ⟨gb105, 4, none⟩ = some (.int .i64 a0_4) := (blk_cell BK105.out 4).trans rfl
     have hcz29_5 : wc.cell? ⟨gb105, 5, none⟩ = some (.int .i64 a0_5) := (blk_cell BK105.out 5).trans rfl
     have hcz29_6 : wc.cell? ⟨gb105, 6, none⟩ = some (.int .i64 a0_6) := (blk_cell BK105.out 6).trans rfl
     have hcz29_7 : wc.cell? ⟨gb105, 7, none⟩ = some (.bool false) := (blk_cell BK105.out 7).trans rfl
     have hfz29_0 := blk_frozen BK105.out 0
     have hfz29_1 := blk_frozen BK105.out 1
     have hfz29_2 := blk_frozen BK105.out 2
     have hfz29_3 := blk_frozen BK105.out 3
     have hfz29_4 := blk_frozen BK105.out 4
     have hfz29_5 := blk_frozen BK105.out 5
     have hfz29_6 := blk_frozen BK105.out 6
     have hfz29_7 := blk_frozen BK105.out 7
     go_wp2_with (first | (go_at_call 64; (with_reducible refine (table_within.calls a0_3 0 (wrap64 (65536 - (ji15))) true _ A16.out).mono ?_); rintro e w' ⟨rfl, ⟨nd, rfl⟩⟩) | (go_at_call 64; (with_reducible refine (table_within.calls a0_5 0 9 true _ A18.out).mono ?_); rintro e w' ⟨rfl, ⟨nd, rfl⟩⟩) | (go_at_call 64; (with_reducible refine (table_within.calls a0_6 0 1000000000 true _ A20.out).mono ?_); rintro e w' ⟨rfl, ⟨nd, rfl⟩⟩))
     go_ret
     exact ⟨zQx4a1_, zQx4a0_⟩
    subst c25
    have H1 : (if a0_2 = 1 then (some true) else (some (a0_2 == 3))) = some r := by rw [if_pos rfl] at H; exact H
    clear H
    have H := H1
    clear H1
    by_cases c26 : a0_2 = 1
    rotate_left
    ·
     rw [if_neg c26] at H
     have c26b0 : (a0_2 == 1) = false := beq_eq_false_iff_ne.mpr c26
     have c26b1 : (a0_2 != 1) = true := bne_iff_ne.mpr c26
     obtain rfl := Option.some.inj H
     have hcz28_0 : wc.cell? ⟨gb105, 0, none⟩ = some (.string a0_0) := (blk_cell BK105.out 0).trans rfl
     have hcz28_1 : wc.cell? ⟨gb105, 1, none⟩ = some (.int .i64 a0_1) := (blk_cell BK105.out 1).trans rfl
     have hcz28_2 : wc.cell? ⟨gb105, 2, none⟩ = some (.int .i64 a0_2) := (blk_cell BK105.out 2).trans rfl
     have hcz28_3 : wc.cell? ⟨gb105, 3, none⟩ = some (.int .i64 a0_3) := (blk_cell BK105.out 3).trans rfl
     have hcz28_4 : wc.cell? ⟨gb105, 4, none⟩ = some (.int .i64 a0_4) := (blk_cell BK105.out 4).trans rfl
     have hcz28_5 : wc.cell? ⟨gb105, 5, none⟩ = some (.int .i64 a0_5) := (blk_cell BK105.out 5).trans rfl
     have hcz28_6 : wc.cell? ⟨gb105, 6, none⟩ = some (.int .i64 a0_6) := (blk_cell BK105.out 6).trans rfl
     have hcz28_7 : wc.cell? ⟨gb105, 7, none⟩ = some (.bool true) := (blk_cell BK105.out 7).trans rfl
     have hfz28_0 := blk_frozen BK105.out 0
     have hfz28_1 := blk_frozen BK105.out 1
     have hfz28_2 := blk_frozen BK105.out 2
     have hfz28_3 := blk_frozen BK105.out 3
     have hfz28_4 := blk_frozen BK105.out 4
     have hfz28_5 := blk_frozen BK105.out 5
     have hfz28_6 := blk_frozen BK105.out 6
     have hfz28_7 := blk_frozen BK105.out 7
     go_wp2_with (first | (go_at_call 64; (with_reducible refine (table_within.calls a0_3 0 (wrap64 (65536 - (ji15))) true _ A16.out).mono ?_); rintro e w' ⟨rfl, ⟨nd, rfl⟩⟩) | (go_at_call 64; (with_reducible refine (table_within.calls a0_5 0 9 true _ A18.out).mono ?_); rintro e w' ⟨rfl, ⟨nd, rfl⟩⟩) | (go_at_call 64; (with_reducible refine (table_within.calls a0_6 0 1000000000 true _ A20.out).mono ?_); rintro e w' ⟨rfl, ⟨nd, rfl⟩⟩))
     go_ret
     exact ⟨zQx4a1_, zQx4a0_⟩
    rw [if_pos c26] at H
    have c26b0 : (a0_2 == 1) = true := beq_iff_eq.mpr c26
    have c26b1 : (a0_2 != 1) = false := bne_eq_false_iff_eq.mpr c26
    clear c26
    obtain rfl := Option.some.inj H
    have hcz27_0 : wc.cell? ⟨gb105, 0, none⟩ = some (.string a0_0) := (blk_cell BK105.out 0).trans rfl
    have hcz27_1 : wc.cell? ⟨gb105, 1, none⟩ = some (.int .i64 a0_1) := (blk_cell BK105.out 1).trans rfl
    have hcz27_2 : wc.cell? ⟨gb105, 2, none⟩ = some (.int .i64 a0_2) := (blk_cell BK105.out 2).trans rfl
    have hcz27_3 : wc.cell? ⟨gb105, 3, none⟩ = some (.int .i64 a0_3) := (blk_cell BK105.out 3).trans rfl
    have hcz27_4 : wc.cell? ⟨gb105, 4, none⟩ = some (.int .i64 a0_4) := (blk_cell BK105.out 4).trans rfl
    have hcz27_5 : wc.cell? ⟨gb105, 5, none⟩ = some (.int .i64 a0_5) := (blk_cell BK105.out 5).trans rfl
    have hcz27_6 : wc.cell? ⟨gb105, 6, none⟩ = some (.int .i64 a0_6) := (blk_cell BK105.out 6).trans rfl
    have hcz27_7 : wc.cell? ⟨gb105, 7, none⟩ = some (.bool true) := (blk_cell BK105.out 7).trans rfl
    have hfz27_0 := blk_frozen BK105.out 0
    have hfz27_1 := blk_frozen BK105.out 1
    have hfz27_2 := blk_frozen BK105.out 2
    have hfz27_3 := blk_frozen BK105.out 3
    have hfz27_4 := blk_frozen BK105.out 4
    have hfz27_5 := blk_frozen BK105.out 5
    have hfz27_6 := blk_frozen BK105.out 6
    have hfz27_7 := blk_frozen BK105.out 7
    go_wp2_with (first | (go_at_call 64; (with_reducible refine (table_within.calls a0_3 0 (wrap64 (65536 - (ji15))) true _ A16.out).mono ?_); rintro e w' ⟨rfl, ⟨nd, rfl⟩⟩) | (go_at_call 64; (with_reducible refine (table_within.calls a0_5 0 9 true _ A18.out).mono ?_); rintro e w' ⟨rfl, ⟨nd, rfl⟩⟩) | (go_at_call 64; (with_reducible refine (table_within.calls a0_6 0 1000000000 true _ A20.out).mono ?_); rintro e w' ⟨rfl, ⟨nd, rfl⟩⟩))
    go_ret
    exact ⟨zQx4a1_, zQx4a0_⟩
   rw [if_neg c21] at H
   have c21b0 : (a0_4 == 1) = false := by simpa using c21
   (try (have c21b1 : decide (a0_4 = 1) = false := by simpa using c21))
   (try (have c21b2 : (a0_4 == 1) = false := by simpa using c21))
   (try (have c21b3 : ¬ (a0_4 = 1) := by simpa using c21))
   clear c21
   by_cases c33 : a0_4 = 8
   rotate_left
   ·
    rw [if_neg c33] at H
    have c33b0 : (a0_4 == 8) = false := beq_eq_false_iff_ne.mpr c33
    have c33b1 : (a0_4 != 8) = true := bne_iff_ne.mpr c33
    by_cases c45 : t112 = true
    rotate_left
    ·
     replace c45 := Bool.eq_false_iff.mpr c45
     subst c45
     have H1 : (some false) = some r := by rw [if_neg (show ¬ (false = true) by decide)] at H; exact H
     clear H
     have H := H1
     clear H1
     obtain rfl := Option.some.inj H
     have hcz51_0 : wc.cell? ⟨gb105, 0, none⟩ = some (.string a0_0) := (blk_cell BK105.out 0).trans rfl
     have hcz51_1 : wc.cell? ⟨gb105, 1, none⟩ = some (.int .i64 a0_1) := (blk_cell BK105.out 1).trans rfl
     have hcz51_2 : wc.cell? ⟨gb105, 2, none⟩ = some (.int .i64 a0_2) := (blk_cell BK105.out 2).trans rfl
     have hcz51_3 : wc.cell? ⟨gb105, 3, none⟩ = some (.int .i64 a0_3) := (blk_cell BK105.out 3).trans rfl
     have hcz51_4 : wc.cell? ⟨gb105, 4, none⟩ = some (.int .i64 a0_4) := (blk_cell BK105.out 4).trans rfl
     have hcz51_5 : wc.cell? ⟨gb105, 5, none⟩ = some (.int .i64 a0_5) := (blk_cell BK105.out 5).trans rfl
     have hcz51_6 : wc.cell? ⟨gb105, 6, none⟩ = some (.int .i64 a0_6) := (blk_cell BK105.out 6).trans rfl
     have hcz51_7 : wc.cell? ⟨gb105, 7, none⟩ = some (.bool a0_7) := (blk_cell BK105.out 7).trans rfl
     have hfz51_0 := blk_frozen BK105.out 0
     have hfz51_1 := blk_frozen BK105.out 1
     have hfz51_2 := blk_frozen BK105.out 2
     have hfz51_3 := blk_frozen BK105.out 3
     have hfz51_4 := blk_frozen BK105.out 4
     have hfz51_5 := blk_frozen BK105.out 5
     have hfz51_6 := blk_frozen BK105.out 6
     have hfz51_7 := blk_frozen BK105.out 7
     go_wp2_with (first | (go_at_call 64; (with_reducible refine (table_within.calls a0_3 0 (wrap64 (65536 - (ji15))) true _ A16.out).mono ?_); rintro e w' ⟨rfl, ⟨nd, rfl⟩⟩) | (go_at_call 64; (with_reducible refine (table_within.calls a0_5 0 9 true _ A18.out).mono ?_); rintro e w' ⟨rfl, ⟨nd, rfl⟩⟩) | (go_at_call 64; (with_reducible refine (table_within.calls a0_6 0 1000000000 false _ A20.out).mono ?_); rintro e w' ⟨rfl, ⟨nd, rfl⟩⟩))
     go_ret
     exact ⟨zQx4a1_, zQx4a0_⟩
    subst c45
    have H1 : (if a0_7 = true then (if a0_2 = 1 then (some true) else (some (a0_2 == 3))) else (some true)) = some r := by rw [if_pos rfl] at H; exact H
    clear H
    have H := H1
    clear H1
    by_cases c46 : a0_7 = true
    rotate_left
    ·
     replace c46 := Bool.eq_false_iff.mpr c46
     subst c46
     have H1 : (some true) = some r := by rw [if_neg (show ¬ (false = true) by decide)] at H; exact H
     clear H
     have H := H1
     clear H1
     obtain rfl := Option.some.inj H
     have hcz50_0 : wc.cell? ⟨gb105, 0, none⟩ = some (.string a0_0) := (blk_cell BK105.out 0).trans rfl
     have hcz50_1 : wc.cell? ⟨gb105, 1, none⟩ = some (.int .i64 a0_1) := (blk_cell BK105.out 1).trans rfl
     have hcz50_2 : wc.cell? ⟨gb105, 2, none⟩ = some (.int .i64 a0_2) := (blk_cell BK105.out 2).trans rfl
     have hcz50_3 : wc.cell? ⟨gb105, 3, none⟩ = some (.int .i64 a0_3) := (blk_cell BK105.out 3).trans rfl
     have hcz50_4 : wc.cell? ⟨gb105, 4, none⟩ = some (.int .i64 a0_4) := (blk_cell BK105.out 4).trans rfl
     have hcz50_5 : wc.cell? ⟨gb105, 5, none⟩ = some (.int .i64 a0_5) := (blk_cell BK105.out 5).trans rfl
     have hcz50_6 : wc.cell? ⟨gb105, 6, none⟩ = some (.int .i64 a0_6) := (blk_cell BK105.out 6).trans rfl
     have hcz50_7 : wc.cell? ⟨gb105, 7, none⟩ = some (.bool false) := (blk_cell BK105.out 7).trans rfl
     have hfz50_0 := blk_frozen BK105.out 0
     have hfz50_1 := blk_frozen BK105.out 1
     have hfz50_2 := blk_frozen BK105.out 2
     have hfz50_3 := blk_frozen BK105.out 3
     have hfz50_4 := blk_frozen BK105.out 4
     have hfz50_5 := blk_frozen BK105.out 5
     have hfz50_6 := blk_frozen BK105.out 6
     have hfz50_7 := blk_frozen BK105.out 7
     go_wp2_with (first | (go_at_call 64; (with_reducible refine (table_within.calls a0_3 0 (wrap64 (65536 - (ji15))) true _ A16.out).mono ?_); rintro e w' ⟨rfl, ⟨nd, rfl⟩⟩) | (go_at_call 64; (with_reducible refine (table_within.calls a0_5 0 9 true _ A18.out).mono ?_); rintro e w' ⟨rfl, ⟨nd, rfl⟩⟩) | (go_at_call 64; (with_reducible refine (table_within.calls a0_6 0 1000000000 true _ A20.out).mono ?_); rintro e w' ⟨rfl, ⟨nd, rfl⟩⟩))
     go_ret
     exact ⟨zQx4a1_, zQx4a0_⟩
    subst c46
    have H1 : (if a0_2 = 1 then (some true) else (some (a0_2 == 3))) = some r := by rw [if_pos rfl] at H; exact H
    clear H
    have H := H1
    clear H1
    by_cases c47 : a0_2 = 1
    rotate_left
    ·
     rw [if_neg c47] at H
     have c47b0 : (a0_2 == 1) = false := beq_eq_false_iff_ne.mpr c47
     have c47b1 : (a0_2 != 1) = true := bne_iff_ne.mpr c47
     obtain rfl := Option.some.inj H
     have hcz49_0 : wc.cell? ⟨gb105, 0, none⟩ = some (.string a0_0) := (blk_cell BK105.out 0).trans rfl
     have hcz49_1 : wc.cell? ⟨gb105, 1, none⟩ = some (.int .i64 a0_1) := (blk_cell BK105.out 1).trans rfl
     have hcz49_2 : wc.cell? ⟨gb105, 2, none⟩ = some (.int .i64 a0_2) := (blk_cell BK105.out 2).trans rfl
     have hcz49_3 : wc.cell? ⟨gb105, 3, none⟩ = some (.int .i64 a0_3) := (blk_cell BK105.out 3).trans rfl
     have hcz49_4 : wc.cell? ⟨gb105, 4, none⟩ = some (.int .i64 a0_4) := (blk_cell BK105.out 4).trans rfl
     have hcz49_5 : wc.cell? ⟨gb105, 5, none⟩ = some (.int .i64 a0_5) := (blk_cell BK105.out 5).trans rfl
     have hcz49_6 : wc.cell? ⟨gb105, 6, none⟩ = some (.int .i64 a0_6) := (blk_cell BK105.out 6).trans rfl
     have hcz49_7 : wc.cell? ⟨gb105, 7, none⟩ = some (.bool true) := (blk_cell BK105.out 7).trans rfl
     have hfz49_0 := blk_frozen BK105.out 0
     have hfz49_1 := blk_frozen BK105.out 1
     have hfz49_2 := blk_frozen BK105.out 2
     have hfz49_3 := blk_frozen BK105.out 3
     have hfz49_4 := blk_frozen BK105.out 4
     have hfz49_5 := blk_frozen BK105.out 5
     have hfz49_6 := blk_frozen BK105.out 6
     have hfz49_7 := blk_frozen BK105.out 7
     go_wp2_with (first | (go_at_call 64; (with_reducible refine (table_within.calls a0_3 0 (wrap64 (65536 - (ji15))) true _ A16.out).mono ?_); rintro e w' ⟨rfl, ⟨nd, rfl⟩⟩) | (go_at_call 64; (with_reducible refine (table_within.calls a0_5 0 9 true _ A18.out).mono ?_); rintro e w' ⟨rfl, ⟨nd, rfl⟩⟩) | (go_at_call 64; (with_reducible refine (table_within.calls a0_6 0 1000000000 true _ A20.out).mono ?_); rintro e w' ⟨rfl, ⟨nd, rfl⟩⟩))
     go_ret
     exact ⟨zQx4a1_, zQx4a0_⟩
    rw [if_pos c47] at H
    have c47b0 : (a0_2 == 1) = true := beq_iff_eq.mpr c47
    have c47b1 : (a0_2 != 1) = false := bne_eq_false_iff_eq.mpr c47
    clear c47
    obtain rfl := Option.some.inj H
    have hcz48_0 : wc.cell? ⟨gb105, 0, none⟩ = some (.string a0_0) := (blk_cell BK105.out 0).trans rfl
    have hcz48_1 : wc.cell? ⟨gb105, 1, none⟩ = some (.int .i64 a0_1) := (blk_cell BK105.out 1).trans rfl
    have hcz48_2 : wc.cell? ⟨gb105, 2, none⟩ = some (.int .i64 a0_2) := (blk_cell BK105.out 2).trans rfl
    have hcz48_3 : wc.cell? ⟨gb105, 3, none⟩ = some (.int .i64 a0_3) := (blk_cell BK105.out 3).trans rfl
    have hcz48_4 : wc.cell? ⟨gb105, 4, none⟩ = some (.int .i64 a0_4) := (blk_cell BK105.out 4).trans rfl
    have hcz48_5 : wc.cell? ⟨gb105, 5, none⟩ = some (.int .i64 a0_5) := (blk_cell BK105.out 5).trans rfl
    have hcz48_6 : wc.cell? ⟨gb105, 6, none⟩ = some (.int .i64 a0_6) := (blk_cell BK105.out 6).trans rfl
    have hcz48_7 : wc.cell? ⟨gb105, 7, none⟩ = some (.bool true) := (blk_cell BK105.out 7).trans rfl
    have hfz48_0 := blk_frozen BK105.out 0
    have hfz48_1 := blk_frozen BK105.out 1
    have hfz48_2 := blk_frozen BK105.out 2
    have hfz48_3 := blk_frozen BK105.out 3
    have hfz48_4 := blk_frozen BK105.out 4
    have hfz48_5 := blk_frozen BK105.out 5
    have hfz48_6 := blk_frozen BK105.out 6
    have hfz48_7 := blk_frozen BK105.out 7
    go_wp2_with (first | (go_at_call 64; (with_reducible refine (table_within.calls a0_3 0 (wrap64 (65536 - (ji15))) true _ A16.out).mono ?_); rintro e w' ⟨rfl, ⟨nd, rfl⟩⟩) | (go_at_call 64; (with_reducible refine (table_within.calls a0_5 0 9 true _ A18.out).mono ?_); rintro e w' ⟨rfl, ⟨nd, rfl⟩⟩) | (go_at_call 64; (with_reducible refine (table_within.calls a0_6 0 1000000000 true _ A20.out).mono ?_); rintro e w' ⟨rfl, ⟨nd, rfl⟩⟩))
    go_ret
    exact ⟨zQx4a1_, zQx4a0_⟩
   rw [if_pos c33] at H
   have c33b0 : (a0_4 == 8) = true := beq_iff_eq.mpr c33
   have c33b1 : (a0_4 != 8) = false := bne_eq_false_iff_eq.mpr c33
   clear c33
   by_cases c34 : t112 = true
   rotate_left
   ·
    replace c34 := Bool.eq_false_iff.mpr c34
    subst c34
    have H1 : (some false) = some r := by rw [if_neg (show ¬ (false = true) by decide)] at H; exact H
    clear H
    have H := H1
    clear H1
    obtain rfl := Option.some.inj H
    have hcz44_0 : wc.cell? ⟨gb105, 0, none⟩ = some (.string a0_0) := (blk_cell BK105.out 0).trans rfl
    have hcz44_1 : wc.cell? ⟨gb105, 1, none⟩ = some (.int .i64 a0_1) := (blk_cell BK105.out 1).trans rfl
    have hcz44_2 : wc.cell? ⟨gb105, 2, none⟩ = some (.int .i64 a0_2) := (blk_cell BK105.out 2).trans rfl
    have hcz44_3 : wc.cell? ⟨gb105, 3, none⟩ = some (.int .i64 a0_3) := (blk_cell BK105.out 3).trans rfl
    have hcz44_4 : wc.cell? ⟨gb105, 4, none⟩ = some (.int .i64 a0_4) := (blk_cell BK105.out 4).trans rfl
    have hcz44_5 : wc.cell? ⟨gb105, 5, none⟩ = some (.int .i64 a0_5) := (blk_cell BK105.out 5).trans rfl
    have hcz44_6 : wc.cell? ⟨gb105, 6, none⟩ = some (.int .i64 a0_6) := (blk_cell BK105.out 6).trans rfl
    have hcz44_7 : wc.cell? ⟨gb105, 7, none⟩ = some (.bool a0_7) := (blk_cell BK105.out 7).trans rfl
    have hfz44_0 := blk_frozen BK105.out 0
    have hfz44_1 := blk_frozen BK105.out 1
    have hfz44_2 := blk_frozen BK105.out 2
    have hfz44_3 := blk_frozen BK105.out 3
    have hfz44_4 := blk_frozen BK105.out 4
    have hfz44_5 := blk_frozen BK105.out 5
    have hfz44_6 := blk_frozen BK105.out 6
    have hfz44_7 := blk_frozen BK105.out 7
    go_wp2_with (first | (go_at_call 64; (with_reducible refine (table_within.calls a0_3 0 (wrap64 (65536 - (ji15))) true _ A16.out).mono ?_); rintro e w' ⟨rfl, ⟨nd, rfl⟩⟩) | (go_at_call 64; (with_reducible refine (table_within.calls a0_5 0 9 true _ A18.out).mono ?_); rintro e w' ⟨rfl, ⟨nd, rfl⟩⟩) | (go_at_call 64; (with_reducible refine (table_within.calls a0_6 0 1000000000 false _ A20.out).mono ?_); rintro e w' ⟨rfl, ⟨nd, rfl⟩⟩))
    go_ret
    exact ⟨zQx4a1_, zQx4a0_⟩
   subst c34
   have H1 : (if a0_5 = 0 then (if a0_6 = 0 then (if a0_7 = true then (if a0_2 = 1 then (some true) else (some (a0_2 == 3))) else (some true)) else (some false)) else (some false)) = some r := by rw [if_pos rfl] at H; exact H
   clear H
   have H := H1
   clear H1
   by_cases c35 : a0_5 = 0
   rotate_left
   ·
    rw [if_neg c35] at H
    have c35b0 : (a0_5 == 0) = false := beq_eq_false_iff_ne.mpr c35
    have c35b1 : (a0_5 != 0) = true := bne_iff_ne.mpr c35
    obtain rfl := Option.some.inj H
    have hcz43_0 : wc.cell? ⟨gb105, 0, none⟩ = some (.string a0_0) := (blk_cell BK105.out 0).trans rfl
    have hcz43_1 : wc.cell? ⟨gb105, 1, none⟩ = some (.int .i64 a0_1) := (blk_cell BK105.out 1).trans rfl
    have hcz43_2 : wc.cell? ⟨gb105, 2, none⟩ = some (.int .i64 a0_2) := (blk_cell BK105.out 2).trans rfl
    have hcz43_3 : wc.cell? ⟨gb105, 3, none⟩ = some (.int .i64 a0_3) := (blk_cell BK105.out 3).trans rfl
    have hcz43_4 : wc.cell? ⟨gb105, 4, none⟩ = some (.int .i64 a0_4) := (blk_cell BK105.out 4).trans rfl
    have hcz43_5 : wc.cell? ⟨gb105, 5, none⟩ = some (.int .i64 a0_5) := (blk_cell BK105.out 5).trans rfl
    have hcz43_6 : wc.cell? ⟨gb105, 6, none⟩ = some (.int .i64 a0_6) := (blk_cell BK105.out 6).trans rfl
    have hcz43_7 : wc.cell? ⟨gb105, 7, none⟩ = some (.bool a0_7) := (blk_cell BK105.out 7).trans rfl
    have hfz43_0 := blk_frozen BK105.out 0
    have hfz43_1 := blk_frozen BK105.out 1
    have hfz43_2 := blk_frozen BK105.out 2
    have hfz43_3 := blk_frozen BK105.out 3
    have hfz43_4 := blk_frozen BK105.out 4
    have hfz43_5 := blk_frozen BK105.out 5
    have hfz43_6 := blk_frozen BK105.out 6
    have hfz43_7 := blk_frozen BK105.out 7
    go_wp2_with (first | (go_at_call 64; (with_reducible refine (table_within.calls a0_3 0 (wrap64 (65536 - (ji15))) true _ A16.out).mono ?_); rintro e w' ⟨rfl, ⟨nd, rfl⟩⟩) | (go_at_call 64; (with_reducible refine (table_within.calls a0_5 0 9 true _ A18.out).mono ?_); rintro e w' ⟨rfl, ⟨nd, rfl⟩⟩) | (go_at_call 64; (with_reducible refine (table_within.calls a0_6 0 1000000000 true _ A20.out).mono ?_); rintro e w' ⟨rfl, ⟨nd, rfl⟩⟩))
    go_ret
    exact ⟨zQx4a1_, zQx4a0_⟩
   rw [if_pos c35] at H
   have c35b0 : (a0_5 == 0) = true := beq_iff_eq.mpr c35
   have c35b1 : (a0_5 != 0) = false := bne_eq_false_iff_eq.mpr c35
   clear c35
   by_cases c36 : a0_6 = 0
   rotate_left
   ·
    rw [if_neg c36] at H
    have c36b0 : (a0_6 == 0) = false := beq_eq_false_iff_ne.mpr c36
    have c36b1 : (a0_6 != 0) = true := bne_iff_ne.mpr c36
    obtain rfl := Option.some.inj H
    have hcz42_0 : wc.cell? ⟨gb105, 0, none⟩ = some (.string a0_0) := (blk_cell BK105.out 0).trans rfl
    have hcz42_1 : wc.cell? ⟨gb105, 1, none⟩ = some (.int .i64 a0_1) := (blk_cell BK105.out 1).trans rfl
    have hcz42_2 : wc.cell? ⟨gb105, 2, none⟩ = some (.int .i64 a0_2) := (blk_cell BK105.out 2).trans rfl
    have hcz42_3 : wc.cell? ⟨gb105, 3, none⟩ = some (.int .i64 a0_3) := (blk_cell BK105.out 3).trans rfl
    have hcz42_4 : wc.cell? ⟨gb105, 4, none⟩ = some (.int .i64 a0_4) := (blk_cell BK105.out 4).trans rfl
    have hcz42_5 : wc.cell? ⟨gb105, 5, none⟩ = some (.int .i64 a0_5) := (blk_cell BK105.out 5).trans rfl
    have hcz42_6 : wc.cell? ⟨gb105, 6, none⟩ = some (.int .i64 a0_6) := (blk_cell BK105.out 6).trans rfl
    have hcz42_7 : wc.cell? ⟨gb105, 7, none⟩ = some (.bool a0_7) := (blk_cell BK105.out 7).trans rfl
    have hfz42_0 := blk_frozen BK105.out 0
    have hfz42_1 := blk_frozen BK105.out 1
    have hfz42_2 := blk_frozen BK105.out 2
    have hfz42_3 := blk_frozen BK105.out 3
    have hfz42_4 := blk_frozen BK105.out 4
    have hfz42_5 := blk_frozen BK105.out 5
    have hfz42_6 := blk_frozen BK105.out 6
    have hfz42_7 := blk_frozen BK105.out 7
    go_wp2_with (first | (go_at_call 64; (with_reducible refine (table_within.calls a0_3 0 (wrap64 (65536 - (ji15))) true _ A16.out).mono ?_); rintro e w' ⟨rfl, ⟨nd, rfl⟩⟩) | (go_at_call 64; (with_reducible refine (table_within.calls a0_5 0 9 true _ A18.out).mono ?_); rintro e w' ⟨rfl, ⟨nd, rfl⟩⟩) | (go_at_call 64; (with_reducible refine (table_within.calls a0_6 0 1000000000 true _ A20.out).mono ?_); rintro e w' ⟨rfl, ⟨nd, rfl⟩⟩))
    go_ret
    exact ⟨zQx4a1_, zQx4a0_⟩
   rw [if_pos c36] at H
   have c36b0 : (a0_6 == 0) = true := beq_iff_eq.mpr c36
   have c36b1 : (a0_6 != 0) = false := bne_eq_false_iff_eq.mpr c36
   clear c36
   by_cases c37 : a0_7 = true
   rotate_left
   ·
    replace c37 := Bool.eq_false_iff.mpr c37
    subst c37
    have H1 : (some true) = some r := by rw [if_neg (show ¬ (false = true) by decide)] at H; exact H
    clear H
    have H := H1
    clear H1
    obtain rfl := Option.some.inj H
    have hcz41_0 : wc.cell? ⟨gb105, 0, none⟩ = some (.string a0_0) := (blk_cell BK105.out 0).trans rfl
    have hcz41_1 : wc.cell? ⟨gb105, 1, none⟩ = some (.int .i64 a0_1) := (blk_cell BK105.out 1).trans rfl
    have hcz41_2 : wc.cell? ⟨gb105, 2, none⟩ = some (.int .i64 a0_2) := (blk_cell BK105.out 2).trans rfl
    have hcz41_3 : wc.cell? ⟨gb105, 3, none⟩ = some (.int .i64 a0_3) := (blk_cell BK105.out 3).trans rfl
    have hcz41_4 : wc.cell? ⟨gb105, 4, none⟩ = some (.int .i64 a0_4) := (blk_cell BK105.out 4).trans rfl
    have hcz41_5 : wc.cell? ⟨gb105, 5, none⟩ = some (.int .i64 a0_5) := (blk_cell BK105.out 5).trans rfl
    have hcz41_6 : wc.cell? ⟨gb105, 6, none⟩ = some (.int .i64 a0_6) := (blk_cell BK105.out 6).trans rfl
    have hcz41_7 : wc.cell? ⟨gb105, 7, none⟩ = some (.bool false) := (blk_cell BK105.out 7).trans rfl
    have hfz41_0 := blk_frozen BK105.out 0
    have hfz41_1 := blk_frozen BK105.out 1
    have hfz41_2 := blk_frozen BK105.out 2
    have hfz41_3 := blk_frozen BK105.out 3
    have hfz41_4 := blk_frozen BK105.out 4
    have hfz41_5 := blk_frozen BK105.out 5
    have hfz41_6 := blk_frozen BK105.out 6
    have hfz41_7 := blk_frozen BK105.out 7
    go_wp2_with (first | (go_at_call 64; (with_reducible refine (table_within.calls a0_3 0 (wrap64 (65536 - (ji15))) true _ A16.out).mono ?_); rintro e w' ⟨rfl, ⟨nd, rfl⟩⟩) | (go_at_call 64; (with_reducible refine (table_within.calls a0_5 0 9 true _ A18.out).mono ?_); rintro e w' ⟨rfl, ⟨nd, rfl⟩⟩) | (go_at_call 64; (with_reducible refine (table_within.calls a0_6 0 1000000000 true _ A20.out).mono ?_); rintro e w' ⟨rfl, ⟨nd, rfl⟩⟩))
    go_ret
    exact ⟨zQx4a1_, zQx4a0_⟩
   subst c37
   have H1 : (if a0_2 = 1 then (some true) else (some (a0_2 == 3))) = some r := by rw [if_pos rfl] at H; exact H
   clear H
   have H := H1
   clear H1
   by_cases c38 : a0_2 = 1
   rotate_left
   ·
    rw [if_neg c38] at H
    have c38b0 : (a0_2 == 1) = false := beq_eq_false_iff_ne.mpr c38
    have c38b1 : (a0_2 != 1) = true := bne_iff_ne.mpr c38
    obtain rfl := Option.some.inj H
    have hcz40_0 : wc.cell? ⟨gb105, 0, none⟩ = some (.string a0_0) := (blk_cell BK105.out 0).trans rfl
    have hcz40_1 : wc.cell? ⟨gb105, 1, none⟩ = some (.int .i64 a0_1) := (blk_cell BK105.out 1).trans rfl
    have hcz40_2 : wc.cell? ⟨gb105, 2, none⟩ = some (.int .i64 a0_2) := (blk_cell BK105.out 2).trans rfl
    have hcz40_3 : wc.cell? ⟨gb105, 3, none⟩ = some (.int .i64 a0_3) := (blk_cell BK105.out 3).trans rfl
    have hcz40_4 : wc.cell? ⟨gb105, 4, none⟩ = some (.int .i64 a0_4) := (blk_cell BK105.out 4).trans rfl
    have hcz40_5 : wc.cell? ⟨gb105, 5, none⟩ = some (.int .i64 a0_5) := (blk_cell BK105.out 5).trans rfl
    have hcz40_6 : wc.cell? ⟨gb105, 6, none⟩ = some (.int .i64 a0_6) := (blk_cell BK105.out 6).trans rfl
    have hcz40_7 : wc.cell? ⟨gb105, 7, none⟩ = some (.bool true) := (blk_cell BK105.out 7).trans rfl
    have hfz40_0 := blk_frozen BK105.out 0
    have hfz40_1 := blk_frozen BK105.out 1
    have hfz40_2 := blk_frozen BK105.out 2
    have hfz40_3 := blk_frozen BK105.out 3
    have hfz40_4 := blk_frozen BK105.out 4
    have hfz40_5 := blk_frozen BK105.out 5
    have hfz40_6 := blk_frozen BK105.out 6
    have hfz40_7 := blk_frozen BK105.out 7
    go_wp2_with (first | (go_at_call 64; (with_reducible refine (table_within.calls a0_3 0 (wrap64 (65536 - (ji15))) true _ A16.out).mono ?_); rintro e w' ⟨rfl, ⟨nd, rfl⟩⟩) | (go_at_call 64; (with_reducible refine (table_within.calls a0_5 0 9 true _ A18.out).mono ?_); rintro e w' ⟨rfl, ⟨nd, rfl⟩⟩) | (go_at_call 64; (with_reducible refine (table_within.calls a0_6 0 1000000000 true _ A20.out).mono ?_); rintro e w' ⟨rfl, ⟨nd, rfl⟩⟩))
    go_ret
    exact ⟨zQx4a1_, zQx4a0_⟩
   rw [if_pos c38] at H
   have c38b0 : (a0_2 == 1) = true := beq_iff_eq.mpr c38
   have c38b1 : (a0_2 != 1) = false := bne_eq_false_iff_eq.mpr c38
   clear c38
   obtain rfl := Option.some.inj H
   have hcz39_0 : wc.cell? ⟨gb105, 0, none⟩ = some (.string a0_0) := (blk_cell BK105.out 0).trans rfl
   have hcz39_1 : wc.cell? ⟨gb105, 1, none⟩ = some (.int .i64 a0_1) := (blk_cell BK105.out 1).trans rfl
   have hcz39_2 : wc.cell? ⟨gb105, 2, none⟩ = some (.int .i64 a0_2) := (blk_cell BK105.out 2).trans rfl
   have hcz39_3 : wc.cell? ⟨gb105, 3, none⟩ = some (.int .i64 a0_3) := (blk_cell BK105.out 3).trans rfl
   have hcz39_4 : wc.cell? ⟨gb105, 4, none⟩ = some (.int .i64 a0_4) := (blk_cell BK105.out 4).trans rfl
   have hcz39_5 : wc.cell? ⟨gb105, 5, none⟩ = some (.int .i64 a0_5) := (blk_cell BK105.out 5).trans rfl
   have hcz39_6 : wc.cell? ⟨gb105, 6, none⟩ = some (.int .i64 a0_6) := (blk_cell BK105.out 6).trans rfl
   have hcz39_7 : wc.cell? ⟨gb105, 7, none⟩ = some (.bool true) := (blk_cell BK105.out 7).trans rfl
   have hfz39_0 := blk_frozen BK105.out 0
   have hfz39_1 := blk_frozen BK105.out 1
   have hfz39_2 := blk_frozen BK105.out 2
   have hfz39_3 := blk_frozen BK105.out 3
   have hfz39_4 := blk_frozen BK105.out 4
   have hfz39_5 := blk_frozen BK105.out 5
   have hfz39_6 := blk_frozen BK105.out 6
   have hfz39_7 := blk_frozen BK105.out 7
   go_wp2_with (first | (go_at_call 64; (with_reducible refine (table_within.calls a0_3 0 (wrap64 (65536 - (ji15))) true _ A16.out).mono ?_); rintro e w' ⟨rfl, ⟨nd, rfl⟩⟩) | (go_at_call 64; (with_reducible refine (table_within.calls a0_5 0 9 true _ A18.out).mono ?_); rintro e w' ⟨rfl, ⟨nd, rfl⟩⟩) | (go_at_call 64; (with_reducible refine (table_within.calls a0_6 0 1000000000 true _ A20.out).mono ?_); rintro e w' ⟨rfl, ⟨nd, rfl⟩⟩))
   go_ret
   exact ⟨zQx4a1_, zQx4a0_⟩
end Go.Proofs.YtbfhiiokajbdhaaGreatDoor.Q
