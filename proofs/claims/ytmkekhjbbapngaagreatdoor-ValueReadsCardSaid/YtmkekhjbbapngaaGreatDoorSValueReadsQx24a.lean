/- Qx24a -/
import Derived.Test.YtmkekhjbbapngaaGreatDoorSValueReadsQx18
import Derived.Test.YtmkekhjbbapngaaGreatDoorSValueReadsQx23
namespace Go.Proofs.YtmkekhjbbapngaaGreatDoor.Q
open Go.RowKit YtmkekhjbbapngaaGreatDoorW.PrintWords YtmkekhjbbapngaaGreatDoorW.PrintLast YtmkekhjbbapngaaGreatDoorW.PrintMore
attribute [local go_sem] max2_int min2_int max_two min_two
set_option linter.all false
theorem zQx24aa0_ {P_ : Prop} (h_ : P_ := by repeat (first | (with_reducible first | exact HB.out | apply below_alloc | apply pw_below_drewN | apply below_drew1 | refine below_set ?_ GE352.out) | exact HB.out)) : P_ := h_
theorem zQx24aa1_ {P_ : Prop} (h_ : P_ := by (with_reducible repeat (first | refine blk_drewN ?_ _ | refine blk_drew ?_ | refine blk_alloc ?_ _)); exact BK352.out) : P_ := h_
theorem zQx24aa2_ {P_ : Prop} (h_ : P_ := by repeat (first | (with_reducible first | exact HB.out | apply below_alloc | apply pw_below_drewN | apply below_drew1) | exact HB.out)) : P_ := h_
theorem zQx24aa3_ {P_ : Prop} (h_ : P_ := by (try simp only [List.map_toArray, List.map_cons, List.map_nil]); first | done | rfl | (simp only [List.length_drop, List.length_take]; rfl)) : P_ := h_
theorem zQx24aa4_ {P_ : Prop} (h_ : P_ := by (with_reducible repeat (first | apply Kd.R_alloc | apply Kd.R_drewN | apply Kd.R_drew)); exact HO355.out) : P_ := h_
theorem zQx24aa5_ {P_ : Prop} (h_ : P_ := by first | rfl | (simp [errW_none, errW_some] <;> rfl) | (simp [*, errW_none, errW_some] <;> rfl)) : P_ := h_
def basculelaw22_ValueReads.j0 : Nat → Int → Bool → Option (Bool)
 | 0, _, _ => none
 | k + 1, x6, x9 => if x9 = true then ((basculelaw22_awake.f k).bind fun t367 => (if t367 = true then (some (x6 == 220)) else (some false))) else ((basculelaw22_awake.f k).bind fun t368 => (if t368 = true then (some (x6 == 4)) else (some false)))
def basculelaw22_ValueReads.f (k : Nat) (a0_0 : ByteArray) (a0_1 : Int) (a0_2 : Int) (a0_3 : Int) (a0_4 : Int) (a0_5 : Int) (a0_6 : Int) (a0_7 : Bool) (a1 : ByteArray) : Option (Bool) := if (a1.size : Int) > 300 then (some true) else ((value_Words.f a0_0 a0_1 a0_2 a0_3 a0_4 a0_5 a0_6 a0_7 a1).bind fun bt353 => ((basculeref22_Row.f k a0_0 a0_1 a0_2 a0_3 a0_4 a0_5 a0_6 a0_7).bind fun t357 => (if t357 = true then (if bt353.2 = 0 then ((basculelaw22_awake.f k).bind fun t359 => (if t359 = true then ((basculeref22_May.f k a0_0 a0_1 a0_2 a0_3 a0_4 a0_5 a0_6 a0_7 bt353.1).bind fun t360 => (if t360 = true then ((basculeref22_Text.f k a0_0 a0_1 a0_2 a0_3 a0_4 a0_5 a0_6 a0_7 bt353.1).bind fun t361 => (some (t361.toList == a1.toList))) else (some false))) else (some false))) else (if (bt353.1.length : Int) = 0 then ((basculeref22_Number.f k a1 a0_5).bind fun bt362 => (if a0_4 = 8 then (basculelaw22_ValueReads.j0 k bt353.2 false) else (basculelaw22_ValueReads.j0 k bt353.2 bt362.2.2))) else (some false))) else ((basculelaw22_awake.f k).bind fun t358 => (if t358 = true then (if bt353.2 = 1 then (some ((bt353.1.length : Int) == 0)) else (some false)) else (some false))))))
theorem basculelaw22_ValueReads.mono_l : ∀ k, (∀ y0 y1, LeO (basculelaw22_ValueReads.j0 k y0 y1) (basculelaw22_ValueReads.j0 (k + 1) y0 y1))
 | 0 => fun _ _ r h => by simp [basculelaw22_ValueReads.j0] at h
 | k + 1 => by
  have ih0 := basculelaw22_ValueReads.mono_l k
  ·
   intro y0 y1
   unfold basculelaw22_ValueReads.j0
   repeat' first
   | (with_reducible first | exact ih0 _ _ | exact basculelaw22_awake.mono _ | exact basculeref22_May.mono _ _ _ _ _ _ _ _ _ _ | exact basculeref22_Number.mono _ _ _ | exact basculeref22_Row.mono _ _ _ _ _ _ _ _ _ | exact basculeref22_Text.mono _ _ _ _ _ _ _ _ _ _ | exact LeO.refl _ | exact LeO.none _ | refine LeO.ite ?_ ?_ | refine LeO.bind ?_ (fun _ => ?_))
theorem basculelaw22_ValueReads.mono : ∀ a0 a1 a2 a3 a4 a5 a6 a7 a8 k, LeO (basculelaw22_ValueReads.f k a0 a1 a2 a3 a4 a5 a6 a7 a8) (basculelaw22_ValueReads.f (k + 1) a0 a1 a2 a3 a4 a5 a6 a7 a8) := by
 intro a0 a1 a2 a3 a4 a5 a6 a7 a8 k
 have ih0 := basculelaw22_ValueReads.mono_l k
 unfold basculelaw22_ValueReads.f
 repeat' first
   | (with_reducible first | exact ih0 _ _ | exact basculelaw22_awake.mono _ | exact basculeref22_May.mono _ _ _ _ _ _ _ _ _ _ | exact basculeref22_Number.mono _ _ _ | exact basculeref22_Row.mono _ _ _ _ _ _ _ _ _ | exact basculeref22_Text.mono _ _ _ _ _ _ _ _ _ _ | exact LeO.refl _ | exact LeO.none _ | refine LeO.ite ?_ ?_ | refine LeO.bind ?_ (fun _ => ?_))
set_option maxHeartbeats 8000000 in
set_option maxRecDepth 100000 in
theorem basculelaw22_ValueReads.calls (k : Nat) (a0_0 : ByteArray) (a0_1 : Int) (a0_2 : Int) (a0_3 : Int) (a0_4 : Int) (a0_5 : Int) (a0_6 : Int) (a0_7 : Bool) (a1 : ByteArray) (r : Bool) (w : World) (hLd_ : Val.Laid w) (hr_ : Aside0 (r = true)) (h : basculelaw22_ValueReads.f k a0_0 a0_1 a0_2 a0_3 a0_4 a0_5 a0_6 a0_7 a1 = some r) :
  Calls Tryz.prog 4 #[.agg #[.string a0_0, .int .i64 a0_1, .int .i64 a0_2, .int .i64 a0_3, .int .i64 a0_4, .int .i64 a0_5, .int .i64 a0_6, .bool a0_7], .string a1] w fun e w' => e = .returned (.bool r) ∧ Below w.heap.size w w' := by
 have hu23 := Tryz.underlying23
 have HB := Aside0.mk (Below.refl w.heap.size w)
 have H : (if (a1.size : Int) > 300 then (some true) else ((value_Words.f a0_0 a0_1 a0_2 a0_3 a0_4 a0_5 a0_6 a0_7 a1).bind fun bt353 => ((basculeref22_Row.f k a0_0 a0_1 a0_2 a0_3 a0_4 a0_5 a0_6 a0_7).bind fun t357 => (if t357 = true then (if bt353.2 = 0 then ((basculelaw22_awake.f k).bind fun t359 => (if t359 = true then ((basculeref22_May.f k a0_0 a0_1 a0_2 a0_3 a0_4 a0_5 a0_6 a0_7 bt353.1).bind fun t360 => (if t360 = true then ((basculeref22_Text.f k a0_0 a0_1 a0_2 a0_3 a0_4 a0_5 a0_6 a0_7 bt353.1).bind fun t361 => (some (t361.toList == a1.toList))) else (some false))) else (some false))) else (if (bt353.1.length : Int) = 0 then ((basculeref22_Number.f k a1 a0_5).bind fun bt362 => (if a0_4 = 8 then (basculelaw22_ValueReads.j0 k bt353.2 false) else (basculelaw22_ValueReads.j0 k bt353.2 bt362.2.2))) else (some false))) else ((basculelaw22_awake.f k).bind fun t358 => (if t358 = true then (if bt353.2 = 1 then (some ((bt353.1.length : Int) == 0)) else (some false)) else (some false))))))) = some r := h
 clear h
 by_cases c3 : (a1.size : Int) > 300
 ·
  rw [if_pos c3] at H
  have c3b0 : decide (300 < (a1.size : Int)) = true := decide_eq_true c3
  have c3b1 : decide (300 < a1.size) = true := decide_eq_true (by omega)
  have c3b7 : (300 < a1.size) := of_decide_eq_true c3b1
  clear c3
  obtain rfl := Option.some.inj H
  go_enter Tryz.func4, Tryz.ntmps4
  go_wp2_with (first | ((with_reducible refine gate_dst (N := 2) rfl ?_); (try (refine gate_guard (by rfl) ?_; dsimp only)); refine box_event ?hg (N := 2) ?hd (cs := #[.string a0_0, .int .i64 a0_1, .int .i64 a0_2, .int .i64 a0_3, .int .i64 a0_4, .int .i64 a0_5, .int .i64 a0_6, .bool a0_7]) (t := 23) ?hr ?_; (case hd => rfl); (case hg => rfl); (case hr => first | (go_simp; done) | (go_simp; rfl)); intro gb352 hg w4 hbox hb; have n0_ := Aside0.mk (below_step zQx24aa2_ hb); have n1_ := Aside0.mk (hbox); have n2_ := Aside0.mk ((by rw [hg]; exact (below_size zQx24aa2_) : w.heap.size ≤ gb352)); have n3_ := Aside0.mk ((by rw [hg]; exact (below_size zQx24aa2_) : w.heap.size ≤ gb352)); clear HB; have HB := n0_; have BK352 := n1_; have GW352 := n2_; have GE352 := n3_; clear n0_ n1_ n2_ n3_; clear hb hbox hg))
  go_ret
  exact ⟨zQx24aa5_, zQx24aa0_⟩
 rw [if_neg c3] at H
 have c3b0 : decide (300 < (a1.size : Int)) = false := decide_eq_false c3
 have c3b1 : decide (300 < a1.size) = false := decide_eq_false (by omega)
 clear c3
 replace H := Option.bind_eq_some_iff.mp H
 obtain ⟨⟨t353, t356⟩, A50, H⟩ := H
 replace H : ((basculeref22_Row.f k a0_0 a0_1 a0_2 a0_3 a0_4 a0_5 a0_6 a0_7).bind fun t357 => (if t357 = true then (if t356 = 0 then ((basculelaw22_awake.f k).bind fun t359 => (if t359 = true then ((basculeref22_May.f k a0_0 a0_1 a0_2 a0_3 a0_4 a0_5 a0_6 a0_7 t353).bind fun t360 => (if t360 = true then ((basculeref22_Text.f k a0_0 a0_1 a0_2 a0_3 a0_4 a0_5 a0_6 a0_7 t353).bind fun t361 => (some (t361.toList == a1.toList))) else (some false))) else (some false))) else (if (t353.length : Int) = 0 then ((basculeref22_Number.f k a1 a0_5).bind fun bt362 => (if a0_4 = 8 then (basculelaw22_ValueReads.j0 k t356 false) else (basculelaw22_ValueReads.j0 k t356 bt362.2.2))) else (some false))) else ((basculelaw22_awake.f k).bind fun t358 => (if t358 = true then (if t356 = 1 then (some ((t353.length : Int) == 0)) else (some false)) else (some false))))) = some r := H
 have A5 := Aside0.mk A50
 clear A50
 replace H := Option.bind_eq_some_iff.mp H
 obtain ⟨t357, A60, H⟩ := H
 replace H : (if t357 = true then (if t356 = 0 then ((basculelaw22_awake.f k).bind fun t359 => (if t359 = true then ((basculeref22_May.f k a0_0 a0_1 a0_2 a0_3 a0_4 a0_5 a0_6 a0_7 t353).bind fun t360 => (if t360 = true then ((basculeref22_Text.f k a0_0 a0_1 a0_2 a0_3 a0_4 a0_5 a0_6 a0_7 t353).bind fun t361 => (some (t361.toList == a1.toList))) else (some false))) else (some false))) else (if (t353.length : Int) = 0 then ((basculeref22_Number.f k a1 a0_5).bind fun bt362 => (if a0_4 = 8 then (basculelaw22_ValueReads.j0 k t356 false) else (basculelaw22_ValueReads.j0 k t356 bt362.2.2))) else (some false))) else ((basculelaw22_awake.f k).bind fun t358 => (if t358 = true then (if t356 = 1 then (some ((t353.length : Int) == 0)) else (some false)) else (some false)))) = some r := H
 have A6 := Aside0.mk A60
 clear A60
 by_cases c7 : t357 = true
 rotate_left
 ·
  replace c7 := Bool.eq_false_iff.mpr c7
  subst c7
  have H1 : ((basculelaw22_awake.f k).bind fun t358 => (if t358 = true then (if t356 = 1 then (some ((t353.length : Int) == 0)) else (some false)) else (some false))) = some r := by rw [if_neg (show ¬ (false = true) by decide)] at H; exact H
  clear H
  have H := H1
  clear H1
  replace H := Option.bind_eq_some_iff.mp H
  obtain ⟨t358, A680, H⟩ := H
  replace H : (if t358 = true then (if t356 = 1 then (some ((t353.length : Int) == 0)) else (some false)) else (some false)) = some r := H
  have A68 := Aside0.mk A680
  clear A680
  by_cases c69 : t358 = true
  rotate_left
  ·
   replace c69 := Bool.eq_false_iff.mpr c69
   subst c69
   have H1 : (some false) = some r := by rw [if_neg (show ¬ (false = true) by decide)] at H; exact H
   clear H
   have H := H1
   clear H1
   exact absurd ((Option.some.inj H).trans hr_.out) (by decide)
  subst c69
  have H1 : (if t356 = 1 then (some ((t353.length : Int) == 0)) else (some false)) = some r := by rw [if_pos rfl] at H; exact H
  clear H
  have H := H1
  clear H1
  by_cases c70 : t356 = 1
  rotate_left
  ·
   rw [if_neg c70] at H
   have c70b0 : (t356 == 1) = false := beq_eq_false_iff_ne.mpr c70
   have c70b1 : (t356 != 1) = true := bne_iff_ne.mpr c70
   exact absurd ((Option.some.inj H).trans hr_.out) (by decide)
  rw [if_pos c70] at H
  have c70b0 : (t356 == 1) = true := beq_iff_eq.mpr c70
  have c70b1 : (t356 != 1) = false := bne_eq_false_iff_eq.mpr c70
  clear c70
  obtain rfl := Option.some.inj H
  go_enter Tryz.func4, Tryz.ntmps4
  go_wp2_with (first | ((with_reducible refine gate_dst (N := 2) rfl ?_); (try (refine gate_guard (by rfl) ?_; dsimp only)); refine box_event ?hg (N := 2) ?hd (cs := #[.string a0_0, .int .i64 a0_1, .int .i64 a0_2, .int .i64 a0_3, .int .i64 a0_4, .int .i64 a0_5, .int .i64 a0_6, .bool a0_7]) (t := 23) ?hr ?_; (case hd => rfl); (case hg => rfl); (case hr => first | (go_simp; done) | (go_simp; rfl)); intro gb352 hg w71 hbox hb; have n0_ := Aside0.mk (below_step zQx24aa2_ hb); have n1_ := Aside0.mk (hbox); have n2_ := Aside0.mk ((by rw [hg]; exact (below_size zQx24aa2_) : w.heap.size ≤ gb352)); have n3_ := Aside0.mk ((by rw [hg]; exact (below_size zQx24aa2_) : w.heap.size ≤ gb352)); clear HB; have HB := n0_; have BK352 := n1_; have GW352 := n2_; have GE352 := n3_; clear n0_ n1_ n2_ n3_; clear hb hbox hg; have hcz72_0 : w71.cell? ⟨gb352, 0, none⟩ = some (.string a0_0) := (blk_cell BK352.out 0).trans rfl; have hcz72_1 : w71.cell? ⟨gb352, 1, none⟩ = some (.int .i64 a0_1) := (blk_cell BK352.out 1).trans rfl; have hcz72_2 : w71.cell? ⟨gb352, 2, none⟩ = some (.int .i64 a0_2) := (blk_cell BK352.out 2).trans rfl; have hcz72_3 : w71.cell? ⟨gb352, 3, none⟩ = some (.int .i64 a0_3) := (blk_cell BK352.out 3).trans rfl; have hcz72_4 : w71.cell? ⟨gb352, 4, none⟩ = some (.int .i64 a0_4) := (blk_cell BK352.out 4).trans rfl; have hcz72_5 : w71.cell? ⟨gb352, 5, none⟩ = some (.int .i64 a0_5) := (blk_cell BK352.out 5).trans rfl; have hcz72_6 : w71.cell? ⟨gb352, 6, none⟩ = some (.int .i64 a0_6) := (blk_cell BK352.out 6).trans rfl; have hcz72_7 : w71.cell? ⟨gb352, 7, none⟩ = some (.bool a0_7) := (blk_cell BK352.out 7).trans rfl; have hfz72_0 := blk_frozen BK352.out 0; have hfz72_1 := blk_frozen BK352.out 1; have hfz72_2 := blk_frozen BK352.out 2; have hfz72_3 := blk_frozen BK352.out 3; have hfz72_4 := blk_frozen BK352.out 4; have hfz72_5 := blk_frozen BK352.out 5; have hfz72_6 := blk_frozen BK352.out 6; have hfz72_7 := blk_frozen BK352.out 7) | ((with_reducible refine gate_callee (f := 18) rfl ?_); refine goesL_ (some 16) rfl rfl Tryz.func18 (by kernel_rfl) rfl #[.agg #[.string a0_0, .int .i64 a0_1, .int .i64 a0_2, .int .i64 a0_3, .int .i64 a0_4, .int .i64 a0_5, .int .i64 a0_6, .bool a0_7], .string a1] rfl zQx24aa3_ ?_; (with_reducible refine (value_Words.calls a0_0 a0_1 a0_2 a0_3 a0_4 a0_5 a0_6 a0_7 a1 t353 t356 _ (Val.Laid.below hLd_ zQx24aa0_) A5.out).mono ?_); rintro e w73 ⟨v354, rfl, ho0, hb⟩; refine ⟨_, rfl, ?_⟩; have n0_ := Aside0.mk (Kd.R_lower ho0 (below_size zQx24aa0_)); have n1_ := Aside0.mk (blk_below (g := gb352) (o := .cells #[.string a0_0, .int .i64 a0_1, .int .i64 a0_2, .int .i64 a0_3, .int .i64 a0_4, .int .i64 a0_5, .int .i64 a0_6, .bool a0_7] 23 (0, 0)) zQx24aa1_ hb); have n2_ := Aside0.mk (below_step zQx24aa0_ hb); clear BK352; clear HB; have HO355 := n0_; have BK352 := n1_; have HB := n2_; clear n0_ n1_ n2_; (try clear hb); (try clear hb2); (try clear hk); (try clear hi); (try clear ho0); have hcz74_0 : w73.cell? ⟨gb352, 0, none⟩ = some (.string a0_0) := (blk_cell BK352.out 0).trans rfl; have hcz74_1 : w73.cell? ⟨gb352, 1, none⟩ = some (.int .i64 a0_1) := (blk_cell BK352.out 1).trans rfl; have hcz74_2 : w73.cell? ⟨gb352, 2, none⟩ = some (.int .i64 a0_2) := (blk_cell BK352.out 2).trans rfl; have hcz74_3 : w73.cell? ⟨gb352, 3, none⟩ = some (.int .i64 a0_3) := (blk_cell BK352.out 3).trans rfl; have hcz74_4 : w73.cell? ⟨gb352, 4, none⟩ = some (.int .i64 a0_4) := (blk_cell BK352.out 4).trans rfl; have hcz74_5 : w73.cell? ⟨gb352, 5, none⟩ = some (.int .i64 a0_5) := (blk_cell BK352.out 5).trans rfl; have hcz74_6 : w73.cell? ⟨gb352, 6, none⟩ = some (.int .i64 a0_6) := (blk_cell BK352.out 6).trans rfl; have hcz74_7 : w73.cell? ⟨gb352, 7, none⟩ = some (.bool a0_7) := (blk_cell BK352.out 7).trans rfl; have hfz74_0 := blk_frozen BK352.out 0; have hfz74_1 := blk_frozen BK352.out 1; have hfz74_2 := blk_frozen BK352.out 2; have hfz74_3 := blk_frozen BK352.out 3; have hfz74_4 := blk_frozen BK352.out 4; have hfz74_5 := blk_frozen BK352.out 5; have hfz74_6 := blk_frozen BK352.out 6; have hfz74_7 := blk_frozen BK352.out 7) | ((with_reducible refine gate_callee (f := 14) rfl ?_); refine goesL_ (some 20) rfl rfl Tryz.func14 (by kernel_rfl) rfl #[.agg #[.string a0_0, .int .i64 a0_1, .int .i64 a0_2, .int .i64 a0_3, .int .i64 a0_4, .int .i64 a0_5, .int .i64 a0_6, .bool a0_7]] rfl zQx24aa3_ ?_; (with_reducible refine (basculeref22_Row.calls k a0_0 a0_1 a0_2 a0_3 a0_4 a0_5 a0_6 a0_7 false _ A6.out).mono ?_); rintro e w75 ⟨rfl, hb⟩; refine ⟨_, rfl, ?_⟩; have n0_ := Aside0.mk (Kd.R_below zQx24aa4_ hb); have n1_ := Aside0.mk (blk_below (g := gb352) (o := .cells #[.string a0_0, .int .i64 a0_1, .int .i64 a0_2, .int .i64 a0_3, .int .i64 a0_4, .int .i64 a0_5, .int .i64 a0_6, .bool a0_7] 23 (0, 0)) zQx24aa1_ hb); have n2_ := Aside0.mk (below_step zQx24aa0_ hb); clear HO355; clear BK352; clear HB; have HO355 := n0_; have BK352 := n1_; have HB := n2_; clear n0_ n1_ n2_; (try clear hb); (try clear hb2); (try clear hk); (try clear hi)) | ((with_reducible refine gate_callee (f := 16) rfl ?_); refine goesL_ (some 22) rfl rfl Tryz.func16 (by kernel_rfl) rfl #[] rfl zQx24aa3_ ?_; (with_reducible refine (basculelaw22_awake.calls k  true _ (Val.Laid.below hLd_ zQx24aa0_) A68.out).mono ?_); rintro e w76 ⟨rfl, hb⟩; refine ⟨_, rfl, ?_⟩; have n0_ := Aside0.mk (Kd.R_below zQx24aa4_ hb); have n1_ := Aside0.mk (blk_below (g := gb352) (o := .cells #[.string a0_0, .int .i64 a0_1, .int .i64 a0_2, .int .i64 a0_3, .int .i64 a0_4, .int .i64 a0_5, .int .i64 a0_6, .bool a0_7] 23 (0, 0)) zQx24aa1_ hb); have n2_ := Aside0.mk (below_step zQx24aa0_ hb); clear HO355; clear BK352; clear HB; have HO355 := n0_; have BK352 := n1_; have HB := n2_; clear n0_ n1_ n2_; (try clear hb); (try clear hb2); (try clear hk); (try clear hi); obtain ⟨Ao77, co77, eo77⟩ := Kd.R_slice HO355.out; subst eo77))
  go_ret
  exact ⟨zQx24aa5_, zQx24aa0_⟩
 subst c7
 have H1 : (if t356 = 0 then ((basculelaw22_awake.f k).bind fun t359 => (if t359 = true then ((basculeref22_May.f k a0_0 a0_1 a0_2 a0_3 a0_4 a0_5 a0_6 a0_7 t353).bind fun t360 => (if t360 = true then ((basculeref22_Text.f k a0_0 a0_1 a0_2 a0_3 a0_4 a0_5 a0_6 a0_7 t353).bind fun t361 => (some (t361.toList == a1.toList))) else (some false))) else (some false))) else (if (t353.length : Int) = 0 then ((basculeref22_Number.f k a1 a0_5).bind fun bt362 => (if a0_4 = 8 then (basculelaw22_ValueReads.j0 k t356 false) else (basculelaw22_ValueReads.j0 k t356 bt362.2.2))) else (some false))) = some r := by rw [if_pos rfl] at H; exact H
 clear H
 have H := H1
 clear H1
 by_cases c8 : t356 = 0
 ·
  rw [if_pos c8] at H
  have c8b0 : (t356 == 0) = true := beq_iff_eq.mpr c8
  have c8b1 : (t356 != 0) = false := bne_eq_false_iff_eq.mpr c8
  clear c8
  replace H := Option.bind_eq_some_iff.mp H
  obtain ⟨t359, A90, H⟩ := H
  replace H : (if t359 = true then ((basculeref22_May.f k a0_0 a0_1 a0_2 a0_3 a0_4 a0_5 a0_6 a0_7 t353).bind fun t360 => (if t360 = true then ((basculeref22_Text.f k a0_0 a0_1 a0_2 a0_3 a0_4 a0_5 a0_6 a0_7 t353).bind fun t361 => (some (t361.toList == a1.toList))) else (some false))) else (some false)) = some r := H
  have A9 := Aside0.mk A90
  clear A90
  by_cases c10 : t359 = true
  rotate_left
  ·
   replace c10 := Bool.eq_false_iff.mpr c10
   subst c10
   have H1 : (some false) = some r := by rw [if_neg (show ¬ (false = true) by decide)] at H; exact H
   clear H
   have H := H1
   clear H1
   exact absurd ((Option.some.inj H).trans hr_.out) (by decide)
  subst c10
  have H1 : ((basculeref22_May.f k a0_0 a0_1 a0_2 a0_3 a0_4 a0_5 a0_6 a0_7 t353).bind fun t360 => (if t360 = true then ((basculeref22_Text.f k a0_0 a0_1 a0_2 a0_3 a0_4 a0_5 a0_6 a0_7 t353).bind fun t361 => (some (t361.toList == a1.toList))) else (some false))) = some r := by rw [if_pos rfl] at H; exact H
  clear H
  have H := H1
  clear H1
  replace H := Option.bind_eq_some_iff.mp H
  obtain ⟨t360, A110, H⟩ := H
  replace H : (if t360 = true then ((basculeref22_Text.f k a0_0 a0_1 a0_2 a0_3 a0_4 a0_5 a0_6 a0_7 t353).bind fun t361 => (some (t361.toList == a1.toList))) else (some false)) = some r := H
  have A11 := Aside0.mk A110
  clear A110
  by_cases c12 : t360 = true
  rotate_left
  ·
   replace c12 := Bool.eq_false_iff.mpr c12
   subst c12
   have H1 : (some false) = some r := by rw [if_neg (show ¬ (false = true) by decide)] at H; exact H
   clear H
   have H := H1
   clear H1
   exact absurd ((Option.some.inj H).trans hr_.out) (by decide)
  subst c12
  have H1 : ((basculeref22_Text.f k a0_0 a0_1 a0_2 a0_3 a0_4 a0_5 a0_6 a0_7 t353).bind fun t361 => (some (t361.toList == a1.toList))) = some r := by rw [if_pos rfl] at H; exact H
  clear H
  have H := H1
  clear H1
  replace H := Option.bind_eq_some_iff.mp H
  obtain ⟨t361, A130, H⟩ := H
  replace H : (some (t361.toList == a1.toList)) = some r := H
  have A13 := Aside0.mk A130
  clear A130
  obtain rfl := Option.some.inj H
  go_enter Tryz.func4, Tryz.ntmps4
  go_wp2_with (first | ((with_reducible refine gate_dst (N := 2) rfl ?_); (try (refine gate_guard (by rfl) ?_; dsimp only)); refine box_event ?hg (N := 2) ?hd (cs := #[.string a0_0, .int .i64 a0_1, .int .i64 a0_2, .int .i64 a0_3, .int .i64 a0_4, .int .i64 a0_5, .int .i64 a0_6, .bool a0_7]) (t := 23) ?hr ?_; (case hd => rfl); (case hg => rfl); (case hr => first | (go_simp; done) | (go_simp; rfl)); intro gb352 hg w14 hbox hb; have n0_ := Aside0.mk (below_step zQx24aa2_ hb); have n1_ := Aside0.mk (hbox); have n2_ := Aside0.mk ((by rw [hg]; exact (below_size zQx24aa2_) : w.heap.size ≤ gb352)); have n3_ := Aside0.mk ((by rw [hg]; exact (below_size zQx24aa2_) : w.heap.size ≤ gb352)); clear HB; have HB := n0_; have BK352 := n1_; have GW352 := n2_; have GE352 := n3_; clear n0_ n1_ n2_ n3_; clear hb hbox hg; have hcz15_0 : w14.cell? ⟨gb352, 0, none⟩ = some (.string a0_0) := (blk_cell BK352.out 0).trans rfl; have hcz15_1 : w14.cell? ⟨gb352, 1, none⟩ = some (.int .i64 a0_1) := (blk_cell BK352.out 1).trans rfl; have hcz15_2 : w14.cell? ⟨gb352, 2, none⟩ = some (.int .i64 a0_2) := (blk_cell BK352.out 2).trans rfl; have hcz15_3 : w14.cell? ⟨gb352, 3, none⟩ = some (.int .i64 a0_3) := (blk_cell BK352.out 3).trans rfl; have hcz15_4 : w14.cell? ⟨gb352, 4, none⟩ = some (.int .i64 a0_4) := (blk_cell BK352.out 4).trans rfl; have hcz15_5 : w14.cell? ⟨gb352, 5, none⟩ = some (.int .i64 a0_5) := (blk_cell BK352.out 5).trans rfl; have hcz15_6 : w14.cell? ⟨gb352, 6, none⟩ = some (.int .i64 a0_6) := (blk_cell BK352.out 6).trans rfl; have hcz15_7 : w14.cell? ⟨gb352, 7, none⟩ = some (.bool a0_7) := (blk_cell BK352.out 7).trans rfl; have hfz15_0 := blk_frozen BK352.out 0; have hfz15_1 := blk_frozen BK352.out 1; have hfz15_2 := blk_frozen BK352.out 2; have hfz15_3 := blk_frozen BK352.out 3; have hfz15_4 := blk_frozen BK352.out 4; have hfz15_5 := blk_frozen BK352.out 5; have hfz15_6 := blk_frozen BK352.out 6; have hfz15_7 := blk_frozen BK352.out 7) | ((with_reducible refine gate_callee (f := 18) rfl ?_); refine goesL_ (some 16) rfl rfl Tryz.func18 (by kernel_rfl) rfl #[.agg #[.string a0_0, .int .i64 a0_1, .int .i64 a0_2, .int .i64 a0_3, .int .i64 a0_4, .int .i64 a0_5, .int .i64 a0_6, .bool a0_7], .string a1] rfl zQx24aa3_ ?_; (with_reducible refine (value_Words.calls a0_0 a0_1 a0_2 a0_3 a0_4 a0_5 a0_6 a0_7 a1 t353 t356 _ (Val.Laid.below hLd_ zQx24aa0_) A5.out).mono ?_); rintro e w16 ⟨v354, rfl, ho0, hb⟩; refine ⟨_, rfl, ?_⟩; have n0_ := Aside0.mk (Kd.R_lower ho0 (below_size zQx24aa0_)); have n1_ := Aside0.mk (blk_below (g := gb352) (o := .cells #[.string a0_0, .int .i64 a0_1, .int .i64 a0_2, .int .i64 a0_3, .int .i64 a0_4, .int .i64 a0_5, .int .i64 a0_6, .bool a0_7] 23 (0, 0)) zQx24aa1_ hb); have n2_ := Aside0.mk (below_step zQx24aa0_ hb); clear BK352; clear HB; have HO355 := n0_; have BK352 := n1_; have HB := n2_; clear n0_ n1_ n2_; (try clear hb); (try clear hb2); (try clear hk); (try clear hi); (try clear ho0); have hcz17_0 : w16.cell? ⟨gb352, 0, none⟩ = some (.string a0_0) := (blk_cell BK352.out 0).trans rfl; have hcz17_1 : w16.cell? ⟨gb352, 1, none⟩ = some (.int .i64 a0_1) := (blk_cell BK352.out 1).trans rfl; have hcz17_2 : w16.cell? ⟨gb352, 2, none⟩ = some (.int .i64 a0_2) := (blk_cell BK352.out 2).trans rfl; have hcz17_3 : w16.cell? ⟨gb352, 3, none⟩ = some (.int .i64 a0_3) := (blk_cell BK352.out 3).trans rfl; have hcz17_4 : w16.cell? ⟨gb352, 4, none⟩ = some (.int .i64 a0_4) := (blk_cell BK352.out 4).trans rfl; have hcz17_5 : w16.cell? ⟨gb352, 5, none⟩ = some (.int .i64 a0_5) := (blk_cell BK352.out 5).trans rfl; have hcz17_6 : w16.cell? ⟨gb352, 6, none⟩ = some (.int .i64 a0_6) := (blk_cell BK352.out 6).trans rfl; have hcz17_7 : w16.cell? ⟨gb352, 7, none⟩ = some (.bool a0_7) := (blk_cell BK352.out 7).trans rfl; have hfz17_0 := blk_frozen BK352.out 0; have hfz17_1 := blk_frozen BK352.out 1; have hfz17_2 := blk_frozen BK352.out 2; have hfz17_3 := blk_frozen BK352.out 3; have hfz17_4 := blk_frozen BK352.out 4; have hfz17_5 := blk_frozen BK352.out 5; have hfz17_6 := blk_frozen BK352.out 6; have hfz17_7 := blk_frozen BK352.out 7) | ((with_reducible refine gate_callee (f := 14) rfl ?_); refine goesL_ (some 20) rfl rfl Tryz.func14 (by kernel_rfl) rfl #[.agg #[.string a0_0, .int .i64 a0_1, .int .i64 a0_2, .int .i64 a0_3, .int .i64 a0_4, .int .i64 a0_5, .int .i64 a0_6, .bool a0_7]] rfl zQx24aa3_ ?_; (with_reducible refine (basculeref22_Row.calls k a0_0 a0_1 a0_2 a0_3 a0_4 a0_5 a0_6 a0_7 true _ A6.out).mono ?_); rintro e w18 ⟨rfl, hb⟩; refine ⟨_, rfl, ?_⟩; have n0_ := Aside0.mk (Kd.R_below zQx24aa4_ hb); have n1_ := Aside0.mk (blk_below (g := gb352) (o := .cells #[.string a0_0, .int .i64 a0_1, .int .i64 a0_2, .int .i64 a0_3, .int .i64 a0_4, .int .i64 a0_5, .int .i64 a0_6, .bool a0_7] 23 (0, 0)) zQx24aa1_ hb); have n2_ := Aside0.mk (below_step zQx24aa0_ hb); clear HO355; clear BK352; clear HB; have HO355 := n0_; have BK352 := n1_; have HB := n2_; clear n0_ n1_ n2_; (try clear hb); (try clear hb2); (try clear hk); (try clear hi)) | ((with_reducible refine gate_callee (f := 16) rfl ?_); refine goesL_ (some 34) rfl rfl Tryz.func16 (by kernel_rfl) rfl #[] rfl zQx24aa3_ ?_; (with_reducible refine (basculelaw22_awake.calls k  true _ (Val.Laid.below hLd_ zQx24aa0_) A9.out).mono ?_); rintro e w19 ⟨rfl, hb⟩; refine ⟨_, rfl, ?_⟩; have n0_ := Aside0.mk (Kd.R_below zQx24aa4_ hb); have n1_ := Aside0.mk (blk_below (g := gb352) (o := .cells #[.string a0_0, .int .i64 a0_1, .int .i64 a0_2, .int .i64 a0_3, .int .i64 a0_4, .int .i64 a0_5, .int .i64 a0_6, .bool a0_7] 23 (0, 0)) zQx24aa1_ hb); have n2_ := Aside0.mk (below_step zQx24aa0_ hb); clear HO355; clear BK352; clear HB; have HO355 := n0_; have BK352 := n1_; have HB := n2_; clear n0_ n1_ n2_; (try clear hb); (try clear hb2); (try clear hk); (try clear hi); have hcz20_0 : w19.cell? ⟨gb352, 0, none⟩ = some (.string a0_0) := (blk_cell BK352.out 0).trans rfl; have hcz20_1 : w19.cell? ⟨gb352, 1, none⟩ = some (.int .i64 a0_1) := (blk_cell BK352.out 1).trans rfl; have hcz20_2 : w19.cell? ⟨gb352, 2, none⟩ = some (.int .i64 a0_2) := (blk_cell BK352.out 2).trans rfl; have hcz20_3 : w19.cell? ⟨gb352, 3, none⟩ = some (.int .i64 a0_3) := (blk_cell BK352.out 3).trans rfl; have hcz20_4 : w19.cell? ⟨gb352, 4, none⟩ = some (.int .i64 a0_4) := (blk_cell BK352.out 4).trans rfl; have hcz20_5 : w19.cell? ⟨gb352, 5, none⟩ = some (.int .i64 a0_5) := (blk_cell BK352.out 5).trans rfl; have hcz20_6 : w19.cell? ⟨gb352, 6, none⟩ = some (.int .i64 a0_6) := (blk_cell BK352.out 6).trans rfl; have hcz20_7 : w19.cell? ⟨gb352, 7, none⟩ = some (.bool a0_7) := (blk_cell BK352.out 7).trans rfl; have hfz20_0 := blk_frozen BK352.out 0; have hfz20_1 := blk_frozen BK352.out 1; have hfz20_2 := blk_frozen BK352.out 2; have hfz20_3 := blk_frozen BK352.out 3; have hfz20_4 := blk_frozen BK352.out 4; have hfz20_5 := blk_frozen BK352.out 5; have hfz20_6 := blk_frozen BK352.out 6; have hfz20_7 := blk_frozen BK352.out 7; obtain ⟨Ao21, co21, eo21⟩ := Kd.R_slice HO355.out; subst eo21) | (go_at_call 15; (with_reducible refine (basculeref22_May.calls k a0_0 a0_1 a0_2 a0_3 a0_4 a0_5 a0_6 a0_7 _ _ t353 true _ ?side1 ?side2 A11.out).mono ?_); (case side1 => repeat (first | exact (Kd.R_reads' HO355.out).2.2 | (with_reducible first | refine Kd.C_alloc ?_ _ | refine Kd.C_drewN ?_ _ | refine Kd.C_drew ?_))); (case side2 => exact (Kd.R_reads' HO355.out).2.1); rintro e w22 ⟨rfl, hb⟩; have n0_ := Aside0.mk (Kd.R_below zQx24aa4_ hb); have n1_ := Aside0.mk (blk_below (g := gb352) (o := .cells #[.string a0_0, .int .i64 a0_1, .int .i64 a0_2, .int .i64 a0_3, .int .i64 a0_4, .int .i64 a0_5, .int .i64 a0_6, .bool a0_7] 23 (0, 0)) zQx24aa1_ hb); have n2_ := Aside0.mk (below_step zQx24aa0_ hb); clear HO355; clear BK352; clear HB; have HO355 := n0_; have BK352 := n1_; have HB := n2_; clear n0_ n1_ n2_; (try clear hb); (try clear hb2); (try clear hk); (try clear hi); have hcz23_0 : w22.cell? ⟨gb352, 0, none⟩ = some (.string a0_0) := (blk_cell BK352.out 0).trans rfl; have hcz23_1 : w22.cell? ⟨gb352, 1, none⟩ = some (.int .i64 a0_1) := (blk_cell BK352.out 1).trans rfl; have hcz23_2 : w22.cell? ⟨gb352, 2, none⟩ = some (.int .i64 a0_2) := (blk_cell BK352.out 2).trans rfl; have hcz23_3 : w22.cell? ⟨gb352, 3, none⟩ = some (.int .i64 a0_3) := (blk_cell BK352.out 3).trans rfl; have hcz23_4 : w22.cell? ⟨gb352, 4, none⟩ = some (.int .i64 a0_4) := (blk_cell BK352.out 4).trans rfl; have hcz23_5 : w22.cell? ⟨gb352, 5, none⟩ = some (.int .i64 a0_5) := (blk_cell BK352.out 5).trans rfl; have hcz23_6 : w22.cell? ⟨gb352, 6, none⟩ = some (.int .i64 a0_6) := (blk_cell BK352.out 6).trans rfl; have hcz23_7 : w22.cell? ⟨gb352, 7, none⟩ = some (.bool a0_7) := (blk_cell BK352.out 7).trans rfl; have hfz23_0 := blk_frozen BK352.out 0; have hfz23_1 := blk_frozen BK352.out 1; have hfz23_2 := blk_frozen BK352.out 2; have hfz23_3 := blk_frozen BK352.out 3; have hfz23_4 := blk_frozen BK352.out 4; have hfz23_5 := blk_frozen BK352.out 5; have hfz23_6 := blk_frozen BK352.out 6; have hfz23_7 := blk_frozen BK352.out 7) | (go_at_call 17; (with_reducible refine (basculeref22_Text.calls k a0_0 a0_1 a0_2 a0_3 a0_4 a0_5 a0_6 a0_7 _ _ t353 t361 _ ?side1 ?side2 A13.out).mono ?_); (case side1 => repeat (first | exact (Kd.R_reads' HO355.out).2.2 | (with_reducible first | refine Kd.C_alloc ?_ _ | refine Kd.C_drewN ?_ _ | refine Kd.C_drew ?_))); (case side2 => exact (Kd.R_reads' HO355.out).2.1); rintro e w24 ⟨rfl, hb⟩; have n0_ := Aside0.mk (Kd.R_below zQx24aa4_ hb); have n1_ := Aside0.mk (blk_below (g := gb352) (o := .cells #[.string a0_0, .int .i64 a0_1, .int .i64 a0_2, .int .i64 a0_3, .int .i64 a0_4, .int .i64 a0_5, .int .i64 a0_6, .bool a0_7] 23 (0, 0)) zQx24aa1_ hb); have n2_ := Aside0.mk (below_step zQx24aa0_ hb); clear HO355; clear BK352; clear HB; have HO355 := n0_; have BK352 := n1_; have HB := n2_; clear n0_ n1_ n2_; (try clear hb); (try clear hb2); (try clear hk); (try clear hi)))
  go_ret
  exact ⟨zQx24aa5_, zQx24aa0_⟩
 rw [if_neg c8] at H
 have c8b0 : (t356 == 0) = false := beq_eq_false_iff_ne.mpr c8
 have c8b1 : (t356 != 0) = true := bne_iff_ne.mpr c8
 by_cases c40 : (t353.length : Int) = 0
 rotate_left
 ·
  rw [if_neg c40] at H
  have c40b0 : ((t353.length : Int) == 0) = false := beq_eq_false_iff_ne.mpr c40
  have c40b1 : ((t353.length : Int) != 0) = true := bne_iff_ne.mpr c40
  have c40b2 : ¬ (t353 = []) := fun h_ => c40 (by rw [h_]; rfl)
  exact absurd ((Option.some.inj H).trans hr_.out) (by decide)
 rw [if_pos c40] at H
 have c40b0 : ((t353.length : Int) == 0) = true := beq_iff_eq.mpr c40
 have c40b1 : ((t353.length : Int) != 0) = false := bne_eq_false_iff_eq.mpr c40
 clear c40
 replace H := Option.bind_eq_some_iff.mp H
 obtain ⟨⟨t362, t363, t364⟩, A410, H⟩ := H
 replace H : (if a0_4 = 8 then (basculelaw22_ValueReads.j0 k t356 false) else (basculelaw22_ValueReads.j0 k t356 t364)) = some r := H
 have A41 := Aside0.mk A410
 clear A410
 have HC42 := Aside0.mk H
 clear H
 go_enter Tryz.func4, Tryz.ntmps4
 go_upto_if 60 with (first | ((with_reducible refine gate_dst (N := 2) rfl ?_); (try (refine gate_guard (by rfl) ?_; dsimp only)); refine box_event ?hg (N := 2) ?hd (cs := #[.string a0_0, .int .i64 a0_1, .int .i64 a0_2, .int .i64 a0_3, .int .i64 a0_4, .int .i64 a0_5, .int .i64 a0_6, .bool a0_7]) (t := 23) ?hr ?_; (case hd => rfl); (case hg => rfl); (case hr => first | (go_simp; done) | (go_simp; rfl)); intro gb352 hg w43 hbox hb; have n0_ := Aside0.mk (below_step zQx24aa2_ hb); have n1_ := Aside0.mk (hbox); have n2_ := Aside0.mk ((by rw [hg]; exact (below_size zQx24aa2_) : w.heap.size ≤ gb352)); have n3_ := Aside0.mk ((by rw [hg]; exact (below_size zQx24aa2_) : w.heap.size ≤ gb352)); clear HB; have HB := n0_; have BK352 := n1_; have GW352 := n2_; have GE352 := n3_; clear n0_ n1_ n2_ n3_; clear hb hbox hg; have hcz44_0 : w43.cell? ⟨gb352, 0, none⟩ = some (.string a0_0) := (blk_cell BK352.out 0).trans rfl; have hcz44_1 : w43.cell? ⟨gb352, 1, none⟩ = some (.int .i64 a0_1) := (blk_cell BK352.out 1).trans rfl; have hcz44_2 : w43.cell? ⟨gb352, 2, none⟩ = some (.int .i64 a0_2) := (blk_cell BK352.out 2).trans rfl; have hcz44_3 : w43.cell? ⟨gb352, 3, none⟩ = some (.int .i64 a0_3) := (blk_cell BK352.out 3).trans rfl; have hcz44_4 : w43.cell? ⟨gb352, 4, none⟩ = some (.int .i64 a0_4) := (blk_cell BK352.out 4).trans rfl; have hcz44_5 : w43.cell? ⟨gb352, 5, none⟩ = some (.int .i64 a0_5) := (blk_cell BK352.out 5).trans rfl; have hcz44_6 : w43.cell? ⟨gb352, 6, none⟩ = some (.int .i64 a0_6) := (blk_cell BK352.out 6).trans rfl; have hcz44_7 : w43.cell? ⟨gb352, 7, none⟩ = some (.bool a0_7) := (blk_cell BK352.out 7).trans rfl; have hfz44_0 := blk_frozen BK352.out 0; have hfz44_1 := blk_frozen BK352.out 1; have hfz44_2 := blk_frozen BK352.out 2; have hfz44_3 := blk_frozen BK352.out 3; have hfz44_4 := blk_frozen BK352.out 4; have hfz44_5 := blk_frozen BK352.out 5; have hfz44_6 := blk_frozen BK352.out 6; have hfz44_7 := blk_frozen BK352.out 7) | ((with_reducible refine gate_callee (f := 18) rfl ?_); refine goesL_ (some 16) rfl rfl Tryz.func18 (by kernel_rfl) rfl #[.agg #[.string a0_0, .int .i64 a0_1, .int .i64 a0_2, .int .i64 a0_3, .int .i64 a0_4, .int .i64 a0_5, .int .i64 a0_6, .bool a0_7], .string a1] rfl zQx24aa3_ ?_; (with_reducible refine (value_Words.calls a0_0 a0_1 a0_2 a0_3 a0_4 a0_5 a0_6 a0_7 a1 t353 t356 _ (Val.Laid.below hLd_ zQx24aa0_) A5.out).mono ?_); rintro e w45 ⟨v354, rfl, ho0, hb⟩; refine ⟨_, rfl, ?_⟩; have n0_ := Aside0.mk (Kd.R_lower ho0 (below_size zQx24aa0_)); have n1_ := Aside0.mk (blk_below (g := gb352) (o := .cells #[.string a0_0, .int .i64 a0_1, .int .i64 a0_2, .int .i64 a0_3, .int .i64 a0_4, .int .i64 a0_5, .int .i64 a0_6, .bool a0_7] 23 (0, 0)) zQx24aa1_ hb); have n2_ := Aside0.mk (below_step zQx24aa0_ hb); clear BK352; clear HB; have HO355 := n0_; have BK352 := n1_; have HB := n2_; clear n0_ n1_ n2_; (try clear hb); (try clear hb2); (try clear hk); (try clear hi); (try clear ho0); have hcz46_0 : w45.cell? ⟨gb352, 0, none⟩ = some (.string a0_0) := (blk_cell BK352.out 0).trans rfl; have hcz46_1 : w45.cell? ⟨gb352, 1, none⟩ = some (.int .i64 a0_1) := (blk_cell BK352.out 1).trans rfl; have hcz46_2 : w45.cell? ⟨gb352, 2, none⟩ = some (.int .i64 a0_2) := (blk_cell BK352.out 2).trans rfl; have hcz46_3 : w45.cell? ⟨gb352, 3, none⟩ = some (.int .i64 a0_3) := (blk_cell BK352.out 3).trans rfl; have hcz46_4 : w45.cell? ⟨gb352, 4, none⟩ = some (.int .i64 a0_4) := (blk_cell BK352.out 4).trans rfl; have hcz46_5 : w45.cell? ⟨gb352, 5, none⟩ = some (.int .i64 a0_5) := (blk_cell BK352.out 5).trans rfl; have hcz46_6 : w45.cell? ⟨gb352, 6, none⟩ = some (.int .i64 a0_6) := (blk_cell BK352.out 6).trans rfl; have hcz46_7 : w45.cell? ⟨gb352, 7, none⟩ = some (.bool a0_7) := (blk_cell BK352.out 7).trans rfl; have hfz46_0 := blk_frozen BK352.out 0; have hfz46_1 := blk_frozen BK352.out 1; have hfz46_2 := blk_frozen BK352.out 2; have hfz46_3 := blk_frozen BK352.out 3; have hfz46_4 := blk_frozen BK352.out 4; have hfz46_5 := blk_frozen BK352.out 5; have hfz46_6 := blk_frozen BK352.out 6; have hfz46_7 := blk_frozen BK352.out 7) | ((with_reducible refine gate_callee (f := 14) rfl ?_); refine goesL_ (some 20) rfl rfl Tryz.func14 (by kernel_rfl) rfl #[.agg #[.string a0_0, .int .i64 a0_1, .int .i64 a0_2, .int .i64 a0_3, .int .i64 a0_4, .int .i64 a0_5, .int .i64 a0_6, .bool a0_7]] rfl zQx24aa3_ ?_; (with_reducible refine (basculeref22_Row.calls k a0_0 a0_1 a0_2 a0_3 a0_4 a0_5 a0_6 a0_7 true _ A6.out).mono ?_); rintro e w47 ⟨rfl, hb⟩; refine ⟨_, rfl, ?_⟩; have n0_ := Aside0.mk (Kd.R_below zQx24aa4_ hb); have n1_ := Aside0.mk (blk_below (g := gb352) (o := .cells #[.string a0_0, .int .i64 a0_1, .int .i64 a0_2, .int .i64 a0_3, .int .i64 a0_4, .int .i64 a0_5, .int .i64 a0_6, .bool a0_7] 23 (0, 0)) zQx24aa1_ hb); have n2_ := Aside0.mk (below_step zQx24aa0_ hb); clear HO355; clear BK352; clear HB; have HO355 := n0_; have BK352 := n1_; have HB := n2_; clear n0_ n1_ n2_; (try clear hb); (try clear hb2); (try clear hk); (try clear hi); obtain ⟨Ao48, co48, eo48⟩ := Kd.R_slice HO355.out; subst eo48; have hcz49_0 : w47.cell? ⟨gb352, 0, none⟩ = some (.string a0_0) := (blk_cell BK352.out 0).trans rfl; have hcz49_1 : w47.cell? ⟨gb352, 1, none⟩ = some (.int .i64 a0_1) := (blk_cell BK352.out 1).trans rfl; have hcz49_2 : w47.cell? ⟨gb352, 2, none⟩ = some (.int .i64 a0_2) := (blk_cell BK352.out 2).trans rfl; have hcz49_3 : w47.cell? ⟨gb352, 3, none⟩ = some (.int .i64 a0_3) := (blk_cell BK352.out 3).trans rfl; have hcz49_4 : w47.cell? ⟨gb352, 4, none⟩ = some (.int .i64 a0_4) := (blk_cell BK352.out 4).trans rfl; have hcz49_5 : w47.cell? ⟨gb352, 5, none⟩ = some (.int .i64 a0_5) := (blk_cell BK352.out 5).trans rfl; have hcz49_6 : w47.cell? ⟨gb352, 6, none⟩ = some (.int .i64 a0_6) := (blk_cell BK352.out 6).trans rfl; have hcz49_7 : w47.cell? ⟨gb352, 7, none⟩ = some (.bool a0_7) := (blk_cell BK352.out 7).trans rfl; have hfz49_0 := blk_frozen BK352.out 0; have hfz49_1 := blk_frozen BK352.out 1; have hfz49_2 := blk_frozen BK352.out 2; have hfz49_3 := blk_frozen BK352.out 3; have hfz49_4 := blk_frozen BK352.out 4; have hfz49_5 := blk_frozen BK352.out 5; have hfz49_6 := blk_frozen BK352.out 6; have hfz49_7 := blk_frozen BK352.out 7) | ((with_reducible refine gate_callee (f := 19) rfl ?_); refine goesL_ (some 54) rfl rfl Tryz.func19 (by kernel_rfl) rfl #[.string a1, .int .i64 a0_5] rfl zQx24aa3_ ?_; (with_reducible refine (basculeref22_Number.calls k a1 a0_5 t362 t363 t364 _ A41.out).mono ?_); rintro e w50 ⟨v365, rfl, ho0, hb⟩; refine ⟨_, rfl, ?_⟩; have n0_ := Aside0.mk (Kd.R_elder' zQx24aa4_ (Kd.R_base ho0) hb); have n1_ := Aside0.mk (Kd.R_lower (Kd.R_new' ho0 (Kd.R_lt zQx24aa4_)) (below_size zQx24aa0_)); have n2_ := Aside0.mk (blk_below (g := gb352) (o := .cells #[.string a0_0, .int .i64 a0_1, .int .i64 a0_2, .int .i64 a0_3, .int .i64 a0_4, .int .i64 a0_5, .int .i64 a0_6, .bool a0_7] 23 (0, 0)) zQx24aa1_ hb); have n3_ := Aside0.mk (below_step zQx24aa0_ hb); clear HO355; clear BK352; clear HB; have HO355 := n0_; have HO366 := n1_; have BK352 := n2_; have HB := n3_; clear n0_ n1_ n2_ n3_; (try clear hb); (try clear hb2); (try clear hk); (try clear hi); (try clear ho0); have hcz51_0 : w50.cell? ⟨gb352, 0, none⟩ = some (.string a0_0) := (blk_cell BK352.out 0).trans rfl; have hcz51_1 : w50.cell? ⟨gb352, 1, none⟩ = some (.int .i64 a0_1) := (blk_cell BK352.out 1).trans rfl; have hcz51_2 : w50.cell? ⟨gb352, 2, none⟩ = some (.int .i64 a0_2) := (blk_cell BK352.out 2).trans rfl; have hcz51_3 : w50.cell? ⟨gb352, 3, none⟩ = some (.int .i64 a0_3) := (blk_cell BK352.out 3).trans rfl; have hcz51_4 : w50.cell? ⟨gb352, 4, none⟩ = some (.int .i64 a0_4) := (blk_cell BK352.out 4).trans rfl; have hcz51_5 : w50.cell? ⟨gb352, 5, none⟩ = some (.int .i64 a0_5) := (blk_cell BK352.out 5).trans rfl; have hcz51_6 : w50.cell? ⟨gb352, 6, none⟩ = some (.int .i64 a0_6) := (blk_cell BK352.out 6).trans rfl; have hcz51_7 : w50.cell? ⟨gb352, 7, none⟩ = some (.bool a0_7) := (blk_cell BK352.out 7).trans rfl; have hfz51_0 := blk_frozen BK352.out 0; have hfz51_1 := blk_frozen BK352.out 1; have hfz51_2 := blk_frozen BK352.out 2; have hfz51_3 := blk_frozen BK352.out 3; have hfz51_4 := blk_frozen BK352.out 4; have hfz51_5 := blk_frozen BK352.out 5; have hfz51_6 := blk_frozen BK352.out 6; have hfz51_7 := blk_frozen BK352.out 7))
 (try simp only [Act.put, sA_, sB_, sC_])
 go_cut [9] (fun v9 wc => ∃ (kq : Nat) (x9_41 : Bool), v9 = .bool x9_41 ∧ Aside0 (basculelaw22_ValueReads.j0 kq t356 x9_41 = some r) ∧ Aside0 (kq ≤ k) ∧ Aside0 (wc.heap[gb352]? = some (.cells #[.string a0_0, .int .i64 a0_1, .int .i64 a0_2, .int .i64 a0_3, .int .i64 a0_4, .int .i64 a0_5, .int .i64 a0_6, .bool a0_7] 23 (0, 0))) ∧ Aside0 (Below w.heap.size w wc))
 case first =>
  have H := HC42.out
  clear HC42
  by_cases c52 : a0_4 = 8
  rotate_left
  ·
   rw [if_neg c52] at H
   have c52b0 : (a0_4 == 8) = false := beq_eq_false_iff_ne.mpr c52
   have c52b1 : (a0_4 != 8) = true := bne_iff_ne.mpr c52
   (first | rw [c52b0] | (simp only [i64_w, i32_w]; rw [c52b0]) | skip)
   have H' := Aside0.mk H
   clear H
   go_wp2
   go_meet
   case rel => exact ⟨_, (t364), (by first | rfl | (simp; done) | (simp [*]; done)), H', ⟨by first | omega | exact Nat.le_refl _⟩, ⟨zQx24aa1_⟩, ⟨zQx24aa0_⟩⟩
  rw [if_pos c52] at H
  have c52b0 : (a0_4 == 8) = true := beq_iff_eq.mpr c52
  have c52b1 : (a0_4 != 8) = false := bne_eq_false_iff_eq.mpr c52
  clear c52
  (first | rw [c52b0] | (simp only [i64_w, i32_w]; rw [c52b0]) | skip)
  have H' := Aside0.mk H
  clear H
  go_wp2
  go_meet
  case rel => exact ⟨_, (false), (by first | rfl | (simp; done) | (simp [*]; done)), H', ⟨by first | omega | exact Nat.le_refl _⟩, ⟨zQx24aa1_⟩, ⟨zQx24aa0_⟩⟩
 case rest =>
  clear HC42
  try clear c1
  try clear p2
  try clear c3
  try clear c3b0
  try clear c3b1
  try clear c4
  try clear c5
  try clear c7
  try clear c8
  try clear c8b0
  try clear c8b1
  try clear c10
  try clear c12
  try clear c14
  try clear c16
  try clear c18
  try clear c19
  try clear c40
  try clear c40b0
  try clear c40b1
  try clear c52
  try clear c52b0
  try clear c52b1
  try clear hcz15_0
  try clear hcz15_1
  try clear hcz15_2
  try clear hcz15_3
  try clear hcz15_4
  try clear hcz15_5
  try clear hcz15_6
  try clear hcz15_7
  try clear hcz17_0
  try clear hcz17_1
  try clear hcz17_2
  try clear hcz17_3
  try clear hcz17_4
  try clear hcz17_5
  try clear hcz17_6
  try clear hcz17_7
  try clear hcz20_0
  try clear hcz20_1
  try clear hcz20_2
  try clear hcz20_3
  try clear hcz20_4
  try clear hcz20_5
  try clear hcz20_6
  try clear hcz20_7
  try clear hcz23_0
  try clear hcz23_1
  try clear hcz23_2
  try clear hcz23_3
  try clear hcz23_4
  try clear hcz23_5
  try clear hcz23_6
  try clear hcz23_7
  try clear hcz26_0
  try clear hcz26_1
  try clear hcz26_2
  try clear hcz26_3
  try clear hcz26_4
  try clear hcz26_5
  try clear hcz26_6
  try clear hcz26_7
  try clear hcz28_0
  try clear hcz28_1
  try clear hcz28_2
  try clear hcz28_3
  try clear hcz28_4
  try clear hcz28_5
  try clear hcz28_6
  try clear hcz28_7
  try clear hcz31_0
  try clear hcz31_1
  try clear hcz31_2
  try clear hcz31_3
  try clear hcz31_4
  try clear hcz31_5
  try clear hcz31_6
  try clear hcz31_7
  try clear hcz35_0
  try clear hcz35_1
  try clear hcz35_2
  try clear hcz35_3
  try clear hcz35_4
  try clear hcz35_5
  try clear hcz35_6
  try clear hcz35_7
  try clear hcz37_0
  try clear hcz37_1
  try clear hcz37_2
  try clear hcz37_3
  try clear hcz37_4
  try clear hcz37_5
  try clear hcz37_6
  try clear hcz37_7
  try clear hcz44_0
  try clear hcz44_1
  try clear hcz44_2
  try clear hcz44_3
  try clear hcz44_4
  try clear hcz44_5
  try clear hcz44_6
  try clear hcz44_7
  try clear hcz46_0
  try clear hcz46_1
  try clear hcz46_2
  try clear hcz46_3
  try clear hcz46_4
  try clear hcz46_5
  try clear hcz46_6
  try clear hcz46_7
  try clear hcz49_0
  try clear hcz49_1
  try clear hcz49_2
  try clear hcz49_3
  try clear hcz49_4
  try clear hcz49_5
  try clear hcz49_6
  try clear hcz49_7
  try clear hcz51_0
  try clear hcz51_1
  try clear hcz51_2
  try clear hcz51_3
  try clear hcz51_4
  try clear hcz51_5
  try clear hcz51_6
  try clear hcz51_7
  try clear hfz15_0
  try clear hfz15_1
  try clear hfz15_2
  try clear hfz15_3
  try clear hfz15_4
  try clear hfz15_5
  try clear hfz15_6
  try clear hfz15_7
  try clear hfz17_0
  try clear hfz17_1
  try clear hfz17_2
  try clear hfz17_3
  try clear hfz17_4
  try clear hfz17_5
  try clear hfz17_6
  try clear hfz17_7
  try clear hfz20_0
  try clear hfz20_1
  try clear hfz20_2
  try clear hfz20_3
  try clear hfz20_4
  try clear hfz20_5
  try clear hfz20_6
  try clear hfz20_7
  try clear hfz23_0
  try clear hfz23_1
  try clear hfz23_2
  try clear hfz23_3
  try clear hfz23_4
  try clear hfz23_5
  try clear hfz23_6
  try clear hfz23_7
  try clear hfz26_0
  try clear hfz26_1
  try clear hfz26_2
  try clear hfz26_3
  try clear hfz26_4
  try clear hfz26_5
  try clear hfz26_6
  try clear hfz26_7
  try clear hfz28_0
  try clear hfz28_1
  try clear hfz28_2
  try clear hfz28_3
  try clear hfz28_4
  try clear hfz28_5
  try clear hfz28_6
  try clear hfz28_7
  try clear hfz31_0
  try clear hfz31_1
  try clear hfz31_2
  try clear hfz31_3
  try clear hfz31_4
  try clear hfz31_5
  try clear hfz31_6
  try clear hfz31_7
  try clear hfz35_0
  try clear hfz35_1
  try clear hfz35_2
  try clear hfz35_3
  try clear hfz35_4
  try clear hfz35_5
  try clear hfz35_6
  try clear hfz35_7
  try clear hfz37_0
  try clear hfz37_1
  try clear hfz37_2
  try clear hfz37_3
  try clear hfz37_4
  try clear hfz37_5
  try clear hfz37_6
  try clear hfz37_7
  try clear hfz44_0
  try clear hfz44_1
  try clear hfz44_2
  try clear hfz44_3
  try clear hfz44_4
  try clear hfz44_5
  try clear hfz44_6
  try clear hfz44_7
  try clear hfz46_0
  try clear hfz46_1
  try clear hfz46_2
  try clear hfz46_3
  try clear hfz46_4
  try clear hfz46_5
  try clear hfz46_6
  try clear hfz46_7
  try clear hfz49_0
  try clear hfz49_1
  try clear hfz49_2
  try clear hfz49_3
  try clear hfz49_4
  try clear hfz49_5
  try clear hfz49_6
  try clear hfz49_7
  try clear hfz51_0
  try clear hfz51_1
  try clear hfz51_2
  try clear hfz51_3
  try clear hfz51_4
  try clear hfz51_5
  try clear hfz51_6
  try clear hfz51_7
  obtain ⟨kq, x9_41, rfl, HA, HJ41, BK352, HB⟩ := hcut
  cases kq with
  | zero => exact absurd HA.out (by simp [basculelaw22_ValueReads.j0])
  | succ kj41 =>
   have H := HA.out
   clear HA
   simp only [basculelaw22_ValueReads.j0] at H
   by_cases c53 : x9_41 = true
   ·
    subst c53
    have H1 : ((basculelaw22_awake.f kj41).bind fun t367 => (if t367 = true then (some (t356 == 220)) else (some false))) = some r := by rw [if_pos rfl] at H; exact H
    clear H
    have H := H1
    clear H1
    replace H := Option.bind_eq_some_iff.mp H
    obtain ⟨t367, A540, H⟩ := H
    replace H : (if t367 = true then (some (t356 == 220)) else (some false)) = some r := H
    have A54 := Aside0.mk A540
    clear A540
    by_cases c55 : t367 = true
    rotate_left
    ·
     replace c55 := Bool.eq_false_iff.mpr c55
     subst c55
     have H1 : (some false) = some r := by rw [if_neg (show ¬ (false = true) by decide)] at H; exact H
     clear H
     have H := H1
     clear H1
     exact absurd ((Option.some.inj H).trans hr_.out) (by decide)
    subst c55
    have H1 : (some (t356 == 220)) = some r := by rw [if_pos rfl] at H; exact H
    clear H
    have H := H1
    clear H1
    obtain rfl := Option.some.inj H
    go_wp2_with (first | ((with_reducible refine gate_callee (f := 16) rfl ?_); refine goesL_ (some 62) rfl rfl Tryz.func16 (by kernel_rfl) rfl #[] rfl zQx24aa3_ ?_; (with_reducible refine (basculelaw22_awake.calls kj41  true _ (Val.Laid.below hLd_ zQx24aa0_) A54.out).mono ?_); rintro e w56 ⟨rfl, hb⟩; refine ⟨_, rfl, ?_⟩; have n0_ := Aside0.mk (blk_below (g := gb352) (o := .cells #[.string a0_0, .int .i64 a0_1, .int .i64 a0_2, .int .i64 a0_3, .int .i64 a0_4, .int .i64 a0_5, .int .i64 a0_6, .bool a0_7] 23 (0, 0)) zQx24aa1_ hb); have n1_ := Aside0.mk (below_step zQx24aa0_ hb); clear BK352; clear HB; have BK352 := n0_; have HB := n1_; clear n0_ n1_; (try clear hb); (try clear hb2); (try clear hk); (try clear hi)))
    go_ret
    exact ⟨zQx24aa5_, zQx24aa0_⟩
   replace c53 := Bool.eq_false_iff.mpr c53
   subst c53
   have H1 : ((basculelaw22_awake.f kj41).bind fun t368 => (if t368 = true then (some (t356 == 4)) else (some false))) = some r := by rw [if_neg (show ¬ (false = true) by decide)] at H; exact H
   clear H
   have H := H1
   clear H1
   replace H := Option.bind_eq_some_iff.mp H
   obtain ⟨t368, A580, H⟩ := H
   replace H : (if t368 = true then (some (t356 == 4)) else (some false)) = some r := H
   have A58 := Aside0.mk A580
   clear A580
   by_cases c59 : t368 = true
   rotate_left
   ·
    replace c59 := Bool.eq_false_iff.mpr c59
    subst c59
    have H1 : (some false) = some r := by rw [if_neg (show ¬ (false = true) by decide)] at H; exact H
    clear H
    have H := H1
    clear H1
    exact absurd ((Option.some.inj H).trans hr_.out) (by decide)
   subst c59
   have H1 : (some (t356 == 4)) = some r := by rw [if_pos rfl] at H; exact H
   clear H
   have H := H1
   clear H1
   obtain rfl := Option.some.inj H
   go_wp2_with (first | ((with_reducible refine gate_callee (f := 16) rfl ?_); refine goesL_ (some 67) rfl rfl Tryz.func16 (by kernel_rfl) rfl #[] rfl zQx24aa3_ ?_; (with_reducible refine (basculelaw22_awake.calls kj41  true _ (Val.Laid.below hLd_ zQx24aa0_) A58.out).mono ?_); rintro e w60 ⟨rfl, hb⟩; refine ⟨_, rfl, ?_⟩; have n0_ := Aside0.mk (blk_below (g := gb352) (o := .cells #[.string a0_0, .int .i64 a0_1, .int .i64 a0_2, .int .i64 a0_3, .int .i64 a0_4, .int .i64 a0_5, .int .i64 a0_6, .bool a0_7] 23 (0, 0)) zQx24aa1_ hb); have n1_ := Aside0.mk (below_step zQx24aa0_ hb); clear BK352; clear HB; have BK352 := n0_; have HB := n1_; clear n0_ n1_; (try clear hb); (try clear hb2); (try clear hk); (try clear hi)))
   go_ret
   exact ⟨zQx24aa5_, zQx24aa0_⟩
end Go.Proofs.YtmkekhjbbapngaaGreatDoor.Q
namespace Go.Proofs.YtmkekhjbbapngaaGreatDoor.Q
open Go.RowKit YtmkekhjbbapngaaGreatDoorW.PrintWords YtmkekhjbbapngaaGreatDoorW.PrintLast YtmkekhjbbapngaaGreatDoorW.PrintMore
set_option linter.unusedVariables false
def basculelaw22_ValueReads.Pure : Prop := ∀ (a0_0 : ByteArray) (a0_1 a0_2 a0_3 a0_4 a0_5 a0_6 : Int) (a0_7 : Bool) (a1 : ByteArray), (Lit.int .i64 a0_1).wf = true → (Lit.int .i64 a0_2).wf = true → (Lit.int .i64 a0_3).wf = true → (Lit.int .i64 a0_4).wf = true → (Lit.int .i64 a0_5).wf = true → (Lit.int .i64 a0_6).wf = true → a1.size ≤ 140737488351232 → ∃ k, basculelaw22_ValueReads.f k a0_0 a0_1 a0_2 a0_3 a0_4 a0_5 a0_6 a0_7 a1 = some true
theorem basculelaw22_ValueReads.walk (P : basculelaw22_ValueReads.Pure) (a0_0 : ByteArray) (a0_1 a0_2 a0_3 a0_4 a0_5 a0_6 : Int) (a0_7 : Bool) (a1 : ByteArray) (w : World) (hLd_ : Go.Proofs.YtmkekhjbbapngaaGreatDoor.Val.Laid w) (w0_1 : (Lit.int .i64 a0_1).wf = true) (w0_2 : (Lit.int .i64 a0_2).wf = true) (w0_3 : (Lit.int .i64 a0_3).wf = true) (w0_4 : (Lit.int .i64 a0_4).wf = true) (w0_5 : (Lit.int .i64 a0_5).wf = true) (w0_6 : (Lit.int .i64 a0_6).wf = true) (w1 : a1.size ≤ 140737488351232) :
    Calls Tryz.prog 4 #[.agg #[.string a0_0, .int .i64 a0_1, .int .i64 a0_2, .int .i64 a0_3, .int .i64 a0_4, .int .i64 a0_5, .int .i64 a0_6, .bool a0_7], .string a1] w fun e w' => e = .returned (.bool true) ∧ Below w.heap.size w w' := by
  obtain ⟨k, h⟩ := P a0_0 a0_1 a0_2 a0_3 a0_4 a0_5 a0_6 a0_7 a1 w0_1 w0_2 w0_3 w0_4 w0_5 w0_6 w1
  refine (basculelaw22_ValueReads.calls k a0_0 a0_1 a0_2 a0_3 a0_4 a0_5 a0_6 a0_7 a1 true w  hLd_ (Aside0.mk rfl) h).mono ?_
  rintro e w' ⟨rfl, hd⟩
  exact ⟨rfl, hd⟩
end Go.Proofs.YtmkekhjbbapngaaGreatDoor.Q
