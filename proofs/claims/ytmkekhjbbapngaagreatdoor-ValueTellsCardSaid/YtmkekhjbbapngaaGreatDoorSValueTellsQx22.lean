/- What the proof of ValueTells leans on: Qx22. -/
import Derived.Test.YtmkekhjbbapngaaGreatDoorSValueTellsQx0
import Derived.Test.YtmkekhjbbapngaaGreatDoorSValueTellsValT
import Derived.Test.YtmkekhjbbapngaaGreatDoorSValueTellsQx9
import Derived.Test.YtmkekhjbbapngaaGreatDoorSValueTellsQx11
import Derived.Test.YtmkekhjbbapngaaGreatDoorSValueTellsQx12
import Derived.Test.YtmkekhjbbapngaaGreatDoorSValueTellsQx18
import Derived.Test.YtmkekhjbbapngaaGreatDoorSValueTellsQx21
namespace Go.Proofs.YtmkekhjbbapngaaGreatDoor.Q
open Go.RowKit Go.Proofs.YtmkekhjbbapngaaGreatDoorW.PrintWords Go.Proofs.YtmkekhjbbapngaaGreatDoorW.PrintLast Go.Proofs.YtmkekhjbbapngaaGreatDoorW.PrintMore
attribute [local go_sem] max2_int min2_int max_two min_two
set_option linter.unusedVariables false
set_option linter.unusedSimpArgs false
theorem zQx22a0_ {P_ : Prop} (h_ : P_ := by repeat (first | (with_reducible first | exact HB.out | apply below_alloc | apply pw_below_drewN | apply below_drew1 | refine below_set ?_ GE331.out) | exact HB.out)) : P_ := h_
theorem zQx22a1_ {P_ : Prop} (h_ : P_ := by (with_reducible repeat (first | refine blk_drewN ?_ _ | refine blk_drew ?_ | refine blk_alloc ?_ _)); exact BK331.out) : P_ := h_
theorem zQx22a2_ {P_ : Prop} (h_ : P_ := by (try simp only [List.map_toArray, List.map_cons, List.map_nil]); first | done | rfl | (simp only [List.length_drop, List.length_take]; rfl)) : P_ := h_
theorem zQx22a3_ {P_ : Prop} (h_ : P_ := by repeat (first | (with_reducible first | exact HB.out | apply below_alloc | apply pw_below_drewN | apply below_drew1) | exact HB.out)) : P_ := h_
theorem zQx22a4_ {P_ : Prop} (h_ : P_ := by (with_reducible repeat (first | apply Kd.R_alloc | apply Kd.R_drewN | apply Kd.R_drew)); exact HO335.out) : P_ := h_
theorem zQx22a5_ {P_ : Prop} (h_ : P_ := by first | rfl | (simp [errW_none, errW_some] <;> rfl) | (simp [*, errW_none, errW_some] <;> rfl)) : P_ := h_
theorem znQx22_ {X_ : Prop} [Decidable X_] (h_ : ¬ X_ → False := by intro c_; rw [if_neg c_] at H; exact absurd H (by simp)) : X_ := Decidable.byContradiction h_
def basculelaw22_ValueTells.j0 : Nat → List Int → ByteArray → Int → Bool → ByteArray → Int → Int → Int → Int → Int → Int → Bool → Option (Bool)
 | 0, _, _, _, _, _, _, _, _, _, _, _, _ => none
 | k + 1, x1, x6, x7, x32, x332000, x332001, x332002, x332003, x332004, x332005, x332006, x332007 => if x32 = true then ((basculelaw22_awake.f k).bind fun t341 => (if t341 = true then (if x7 = 1 then (some (x6.toList == ([] : List UInt8))) else (some false)) else (some false))) else ((basculelaw22_awake.f k).bind fun t342 => (if t342 = true then (if x7 = 0 then ((basculeref22_Text.f k x332000 x332001 x332002 x332003 x332004 x332005 x332006 x332007 x1).bind fun t343 => (some (x6.toList == t343.toList))) else (some false)) else (some false)))
def basculelaw22_ValueTells.f (k : Nat) (a0_0 : ByteArray) (a0_1 : Int) (a0_2 : Int) (a0_3 : Int) (a0_4 : Int) (a0_5 : Int) (a0_6 : Int) (a0_7 : Bool) (l1 : List Int) : Option (Bool) := (basculelaw22_few.f l1).bind fun t332 => (if t332 = true then (if ([] : List Int).length + l1.length < 17592186044416 then ((some (([] : List Int) ++ l1 : List Int)).bind fun y333 => ((value_Text.f a0_0 a0_1 a0_2 a0_3 a0_4 a0_5 a0_6 a0_7 y333).bind fun bt336 => ((basculeref01_Ints.f k y333 l1).bind fun t338 => (if t338 = true then ((basculeref22_Row.f k a0_0 a0_1 a0_2 a0_3 a0_4 a0_5 a0_6 a0_7).bind fun t339 => (if t339 = true then ((basculeref22_May.f k a0_0 a0_1 a0_2 a0_3 a0_4 a0_5 a0_6 a0_7 l1).bind fun t340 => (basculelaw22_ValueTells.j0 k l1 bt336.1 bt336.2 (!t340) a0_0 a0_1 a0_2 a0_3 a0_4 a0_5 a0_6 a0_7)) else (basculelaw22_ValueTells.j0 k l1 bt336.1 bt336.2 true a0_0 a0_1 a0_2 a0_3 a0_4 a0_5 a0_6 a0_7))) else (some false))))) else (none)) else (some true))
theorem basculelaw22_ValueTells.mono_l : ∀ k, (∀ y0 y1 y2 y3 y4 y5 y6 y7 y8 y9 y10 y11, LeO (basculelaw22_ValueTells.j0 k y0 y1 y2 y3 y4 y5 y6 y7 y8 y9 y10 y11) (basculelaw22_ValueTells.j0 (k + 1) y0 y1 y2 y3 y4 y5 y6 y7 y8 y9 y10 y11))
 | 0 => fun _ _ _ _ _ _ _ _ _ _ _ _ r h => by simp [basculelaw22_ValueTells.j0] at h
 | k + 1 => by
  have ih0 := basculelaw22_ValueTells.mono_l k
  ·
   intro y0 y1 y2 y3 y4 y5 y6 y7 y8 y9 y10 y11
   unfold basculelaw22_ValueTells.j0
   repeat' first
   | (with_reducible exact ih0 _ _ _ _ _ _ _ _ _ _ _ _)
   | (with_reducible exact basculelaw22_awake.mono _)
   | (with_reducible exact basculeref01_Ints.mono _ _ _)
   | (with_reducible exact basculeref22_May.mono _ _ _ _ _ _ _ _ _ _)
   | (with_reducible exact basculeref22_Row.mono _ _ _ _ _ _ _ _ _)
   | (with_reducible exact basculeref22_Text.mono _ _ _ _ _ _ _ _ _ _)
   | (with_reducible exact LeO.refl _)
   | (with_reducible exact LeO.none _)
   | (with_reducible refine LeO.ite ?_ ?_)
   | (with_reducible refine LeO.bind ?_ (fun _ => ?_))
   | exact ih0 _ _ _ _ _ _ _ _ _ _ _ _
   | exact basculelaw22_awake.mono _
   | exact basculeref01_Ints.mono _ _ _
   | exact basculeref22_May.mono _ _ _ _ _ _ _ _ _ _
   | exact basculeref22_Row.mono _ _ _ _ _ _ _ _ _
   | exact basculeref22_Text.mono _ _ _ _ _ _ _ _ _ _
   | exact LeO.none _
   | refine LeO.ite ?_ ?_
   | refine LeO.bind ?_ (fun _ => ?_)
theorem basculelaw22_ValueTells.mono : ∀ a0 a1 a2 a3 a4 a5 a6 a7 a8 k, LeO (basculelaw22_ValueTells.f k a0 a1 a2 a3 a4 a5 a6 a7 a8) (basculelaw22_ValueTells.f (k + 1) a0 a1 a2 a3 a4 a5 a6 a7 a8) := by
 intro a0 a1 a2 a3 a4 a5 a6 a7 a8 k
 have ih0 := basculelaw22_ValueTells.mono_l k
 unfold basculelaw22_ValueTells.f
 repeat' first
   | (with_reducible exact ih0 _ _ _ _ _ _ _ _ _ _ _ _)
   | (with_reducible exact basculelaw22_awake.mono _)
   | (with_reducible exact basculeref01_Ints.mono _ _ _)
   | (with_reducible exact basculeref22_May.mono _ _ _ _ _ _ _ _ _ _)
   | (with_reducible exact basculeref22_Row.mono _ _ _ _ _ _ _ _ _)
   | (with_reducible exact basculeref22_Text.mono _ _ _ _ _ _ _ _ _ _)
   | (with_reducible exact LeO.refl _)
   | (with_reducible exact LeO.none _)
   | (with_reducible refine LeO.ite ?_ ?_)
   | (with_reducible refine LeO.bind ?_ (fun _ => ?_))
   | exact ih0 _ _ _ _ _ _ _ _ _ _ _ _
   | exact basculelaw22_awake.mono _
   | exact basculeref01_Ints.mono _ _ _
   | exact basculeref22_May.mono _ _ _ _ _ _ _ _ _ _
   | exact basculeref22_Row.mono _ _ _ _ _ _ _ _ _
   | exact basculeref22_Text.mono _ _ _ _ _ _ _ _ _ _
   | exact LeO.none _
   | refine LeO.ite ?_ ?_
   | refine LeO.bind ?_ (fun _ => ?_)
set_option maxHeartbeats 8000000 in
set_option maxRecDepth 100000 in
theorem basculelaw22_ValueTells.calls (k : Nat) (a0_0 : ByteArray) (a0_1 : Int) (a0_2 : Int) (a0_3 : Int) (a0_4 : Int) (a0_5 : Int) (a0_6 : Int) (a0_7 : Bool) (A1 : Option Addr) (c1 : Nat) (l1 : List Int) (r : Bool) (w : World) (hr1 : Kd.C (Kd.int .i64) w A1 l1.length l1) (hc1 : l1.length ≤ c1) (hLd_ : Val.Laid w) (hr_ : Aside0 (r = true)) (h : basculelaw22_ValueTells.f k a0_0 a0_1 a0_2 a0_3 a0_4 a0_5 a0_6 a0_7 l1 = some r) :
  Calls Tryz.prog 3 #[.agg #[.string a0_0, .int .i64 a0_1, .int .i64 a0_2, .int .i64 a0_3, .int .i64 a0_4, .int .i64 a0_5, .int .i64 a0_6, .bool a0_7], .slice A1 l1.length c1] w fun e w' => e = .returned (.bool r) ∧ Below w.heap.size w w' := by
 have hu23 := Tryz.underlying23
 have HR1 := Aside0.mk hr1
 have HC1 := Aside0.mk hc1
 clear hr1 hc1
 have HB := Aside0.mk (Below.refl w.heap.size w)
 have H : ((basculelaw22_few.f l1).bind fun t332 => (if t332 = true then (if ([] : List Int).length + l1.length < 17592186044416 then ((some (([] : List Int) ++ l1 : List Int)).bind fun y333 => ((value_Text.f a0_0 a0_1 a0_2 a0_3 a0_4 a0_5 a0_6 a0_7 y333).bind fun bt336 => ((basculeref01_Ints.f k y333 l1).bind fun t338 => (if t338 = true then ((basculeref22_Row.f k a0_0 a0_1 a0_2 a0_3 a0_4 a0_5 a0_6 a0_7).bind fun t339 => (if t339 = true then ((basculeref22_May.f k a0_0 a0_1 a0_2 a0_3 a0_4 a0_5 a0_6 a0_7 l1).bind fun t340 => (basculelaw22_ValueTells.j0 k l1 bt336.1 bt336.2 (!t340) a0_0 a0_1 a0_2 a0_3 a0_4 a0_5 a0_6 a0_7)) else (basculelaw22_ValueTells.j0 k l1 bt336.1 bt336.2 true a0_0 a0_1 a0_2 a0_3 a0_4 a0_5 a0_6 a0_7))) else (some false))))) else (none)) else (some true))) = some r := h
 clear h
 replace H := Option.bind_eq_some_iff.mp H
 obtain ⟨t332, A30, H⟩ := H
 replace H : (if t332 = true then (if ([] : List Int).length + l1.length < 17592186044416 then ((some (([] : List Int) ++ l1 : List Int)).bind fun y333 => ((value_Text.f a0_0 a0_1 a0_2 a0_3 a0_4 a0_5 a0_6 a0_7 y333).bind fun bt336 => ((basculeref01_Ints.f k y333 l1).bind fun t338 => (if t338 = true then ((basculeref22_Row.f k a0_0 a0_1 a0_2 a0_3 a0_4 a0_5 a0_6 a0_7).bind fun t339 => (if t339 = true then ((basculeref22_May.f k a0_0 a0_1 a0_2 a0_3 a0_4 a0_5 a0_6 a0_7 l1).bind fun t340 => (basculelaw22_ValueTells.j0 k l1 bt336.1 bt336.2 (!t340) a0_0 a0_1 a0_2 a0_3 a0_4 a0_5 a0_6 a0_7)) else (basculelaw22_ValueTells.j0 k l1 bt336.1 bt336.2 true a0_0 a0_1 a0_2 a0_3 a0_4 a0_5 a0_6 a0_7))) else (some false))))) else (none)) else (some true)) = some r := H
 have A3 := Aside0.mk A30
 clear A30
 by_cases c4 : t332 = true
 rotate_left
 ·
  replace c4 := Bool.eq_false_iff.mpr c4
  subst c4
  have H1 : (some true) = some r := by rw [if_neg (show ¬ (false = true) by decide)] at H; exact H
  clear H
  have H := H1
  clear H1
  obtain rfl := Option.some.inj H
  go_enter Tryz.func3, Tryz.ntmps3
  go_wp2_with (first | ((with_reducible refine gate_dst (N := 2) rfl ?_); refine box_event ?hg (N := 2) ?hd (cs := #[.string a0_0, .int .i64 a0_1, .int .i64 a0_2, .int .i64 a0_3, .int .i64 a0_4, .int .i64 a0_5, .int .i64 a0_6, .bool a0_7]) (t := 23) ?hr ?_; (case hd => rfl); (case hg => rfl); (case hr => first | (go_simp; done) | (go_simp; rfl)); intro gb331 hg w45 hbox hb; have n0_ := Aside0.mk (below_step zQx22a3_ hb); have n1_ := Aside0.mk (hbox); have n2_ := Aside0.mk ((by rw [hg]; exact (below_size zQx22a3_) : w.heap.size ≤ gb331)); have n3_ := Aside0.mk ((by rw [hg]; exact (below_size zQx22a3_) : w.heap.size ≤ gb331)); clear HB; have HB := n0_; have BK331 := n1_; have GW331 := n2_; have GE331 := n3_; clear n0_ n1_ n2_ n3_; clear hb hbox hg) | ((with_reducible refine gate_callee (f := 11) rfl ?_); refine goesL_ (some 9) rfl rfl Tryz.func11 (by kernel_rfl) rfl #[.slice A1 l1.length c1] rfl zQx22a2_ ?_; (with_reducible refine (basculelaw22_few.calls _ _ l1 false _ ?side1 ?side2 A3.out).mono ?_); (case side1 => repeat (first | exact (Kd.C_below HR1.out HB.out) | (with_reducible refine Kd.C_alloc ?_ _) | (with_reducible refine Kd.C_drewN ?_ _) | (with_reducible refine Kd.C_drew ?_))); (case side2 => exact HC1.out); rintro e w' ⟨rfl, ⟨nd, rfl⟩⟩; refine ⟨_, rfl, ?_⟩))
  go_ret
  exact ⟨zQx22a5_, zQx22a0_⟩
 subst c4
 have H1 : (if ([] : List Int).length + l1.length < 17592186044416 then ((some (([] : List Int) ++ l1 : List Int)).bind fun y333 => ((value_Text.f a0_0 a0_1 a0_2 a0_3 a0_4 a0_5 a0_6 a0_7 y333).bind fun bt336 => ((basculeref01_Ints.f k y333 l1).bind fun t338 => (if t338 = true then ((basculeref22_Row.f k a0_0 a0_1 a0_2 a0_3 a0_4 a0_5 a0_6 a0_7).bind fun t339 => (if t339 = true then ((basculeref22_May.f k a0_0 a0_1 a0_2 a0_3 a0_4 a0_5 a0_6 a0_7 l1).bind fun t340 => (basculelaw22_ValueTells.j0 k l1 bt336.1 bt336.2 (!t340) a0_0 a0_1 a0_2 a0_3 a0_4 a0_5 a0_6 a0_7)) else (basculelaw22_ValueTells.j0 k l1 bt336.1 bt336.2 true a0_0 a0_1 a0_2 a0_3 a0_4 a0_5 a0_6 a0_7))) else (some false))))) else (none)) = some r := by rw [if_pos rfl] at H; exact H
 clear H
 have H := H1
 clear H1
 have c5 : ([] : List Int).length + l1.length < 17592186044416 := znQx22_
 rw [if_pos c5] at H
 have LMc5 := Aside0.mk c5
 clear c5
 obtain ⟨y333, hy333⟩ : ∃ y_ : List Int, y_ = (([] : List Int) ++ l1) := ⟨_, rfl⟩
 replace H : ((value_Text.f a0_0 a0_1 a0_2 a0_3 a0_4 a0_5 a0_6 a0_7 y333).bind fun bt336 => ((basculeref01_Ints.f k y333 l1).bind fun t338 => (if t338 = true then ((basculeref22_Row.f k a0_0 a0_1 a0_2 a0_3 a0_4 a0_5 a0_6 a0_7).bind fun t339 => (if t339 = true then ((basculeref22_May.f k a0_0 a0_1 a0_2 a0_3 a0_4 a0_5 a0_6 a0_7 l1).bind fun t340 => (basculelaw22_ValueTells.j0 k l1 bt336.1 bt336.2 (!t340) a0_0 a0_1 a0_2 a0_3 a0_4 a0_5 a0_6 a0_7)) else (basculelaw22_ValueTells.j0 k l1 bt336.1 bt336.2 true a0_0 a0_1 a0_2 a0_3 a0_4 a0_5 a0_6 a0_7))) else (some false)))) = some r := by first | (rw [hy333]; with_reducible exact H) | (have H2_ := (Option.bind_some _ _).symm.trans H; rw [hy333]; with_reducible exact H2_) | (have H2_ := (Option.bind_some _ _).symm.trans H; with_reducible exact H2_) | with_reducible exact H | (rw [hy333]; exact H) | exact H
 have Ny333 := Aside0.mk hy333
 clear hy333
 replace H := Option.bind_eq_some_iff.mp H
 obtain ⟨⟨t336, t337⟩, A60, H⟩ := H
 replace H : ((basculeref01_Ints.f k y333 l1).bind fun t338 => (if t338 = true then ((basculeref22_Row.f k a0_0 a0_1 a0_2 a0_3 a0_4 a0_5 a0_6 a0_7).bind fun t339 => (if t339 = true then ((basculeref22_May.f k a0_0 a0_1 a0_2 a0_3 a0_4 a0_5 a0_6 a0_7 l1).bind fun t340 => (basculelaw22_ValueTells.j0 k l1 t336 t337 (!t340) a0_0 a0_1 a0_2 a0_3 a0_4 a0_5 a0_6 a0_7)) else (basculelaw22_ValueTells.j0 k l1 t336 t337 true a0_0 a0_1 a0_2 a0_3 a0_4 a0_5 a0_6 a0_7))) else (some false))) = some r := H
 have A6 := Aside0.mk A60
 clear A60
 replace H := Option.bind_eq_some_iff.mp H
 obtain ⟨t338, A70, H⟩ := H
 replace H : (if t338 = true then ((basculeref22_Row.f k a0_0 a0_1 a0_2 a0_3 a0_4 a0_5 a0_6 a0_7).bind fun t339 => (if t339 = true then ((basculeref22_May.f k a0_0 a0_1 a0_2 a0_3 a0_4 a0_5 a0_6 a0_7 l1).bind fun t340 => (basculelaw22_ValueTells.j0 k l1 t336 t337 (!t340) a0_0 a0_1 a0_2 a0_3 a0_4 a0_5 a0_6 a0_7)) else (basculelaw22_ValueTells.j0 k l1 t336 t337 true a0_0 a0_1 a0_2 a0_3 a0_4 a0_5 a0_6 a0_7))) else (some false)) = some r := H
 have A7 := Aside0.mk A70
 clear A70
 by_cases c8 : t338 = true
 rotate_left
 ·
  replace c8 := Bool.eq_false_iff.mpr c8
  subst c8
  have H1 : (some false) = some r := by rw [if_neg (show ¬ (false = true) by decide)] at H; exact H
  clear H
  have H := H1
  clear H1
  exact absurd ((Option.some.inj H).trans hr_.out) (by decide)
 subst c8
 have H1 : ((basculeref22_Row.f k a0_0 a0_1 a0_2 a0_3 a0_4 a0_5 a0_6 a0_7).bind fun t339 => (if t339 = true then ((basculeref22_May.f k a0_0 a0_1 a0_2 a0_3 a0_4 a0_5 a0_6 a0_7 l1).bind fun t340 => (basculelaw22_ValueTells.j0 k l1 t336 t337 (!t340) a0_0 a0_1 a0_2 a0_3 a0_4 a0_5 a0_6 a0_7)) else (basculelaw22_ValueTells.j0 k l1 t336 t337 true a0_0 a0_1 a0_2 a0_3 a0_4 a0_5 a0_6 a0_7))) = some r := by rw [if_pos rfl] at H; exact H
 clear H
 have H := H1
 clear H1
 have HC9 := Aside0.mk H
 clear H
 go_enter Tryz.func3, Tryz.ntmps3
 go_upto_region 8 with (first | ((with_reducible refine gate_dst (N := 2) rfl ?_); refine box_event ?hg (N := 2) ?hd (cs := #[.string a0_0, .int .i64 a0_1, .int .i64 a0_2, .int .i64 a0_3, .int .i64 a0_4, .int .i64 a0_5, .int .i64 a0_6, .bool a0_7]) (t := 23) ?hr ?_; (case hd => rfl); (case hg => rfl); (case hr => first | (go_simp; done) | (go_simp; rfl)); intro gb331 hg w10 hbox hb; have n0_ := Aside0.mk (below_step zQx22a3_ hb); have n1_ := Aside0.mk (hbox); have n2_ := Aside0.mk ((by rw [hg]; exact (below_size zQx22a3_) : w.heap.size ≤ gb331)); have n3_ := Aside0.mk ((by rw [hg]; exact (below_size zQx22a3_) : w.heap.size ≤ gb331)); clear HB; have HB := n0_; have BK331 := n1_; have GW331 := n2_; have GE331 := n3_; clear n0_ n1_ n2_ n3_; clear hb hbox hg) | ((with_reducible refine gate_callee (f := 11) rfl ?_); refine goesL_ (some 9) rfl rfl Tryz.func11 (by kernel_rfl) rfl #[.slice A1 l1.length c1] rfl zQx22a2_ ?_; (with_reducible refine (basculelaw22_few.calls _ _ l1 true _ ?side1 ?side2 A3.out).mono ?_); (case side1 => repeat (first | exact (Kd.C_below HR1.out HB.out) | (with_reducible refine Kd.C_alloc ?_ _) | (with_reducible refine Kd.C_drewN ?_ _) | (with_reducible refine Kd.C_drew ?_))); (case side2 => exact HC1.out); rintro e w' ⟨rfl, ⟨nd, rfl⟩⟩; refine ⟨_, rfl, ?_⟩) | ((with_reducible refine gate_builtin (b := .append) (xs := #[.tmp 11, .tmp 12]) rfl ?_); at_builtin; refine Kd.R_append_rows (Kd.int .i64) (w0 := w) w.heap.size rfl (.tmp 11) (.tmp 12) 24 3 (.int .i64 0) 8 rfl Tryz.underlying24 info3 rfl (by decide) (by omega) (.slice none 0 0) ([] : List Int) l1 _ _ _ (fun _ => True) (fun _ => False) rfl rfl ?aO ?aR (fun _ _ h => h) (fun _ h => h.elim) ?aF ?aB ?aS ?aL ?_; (case aR => repeat (first | exact (Kd.C_below HR1.out zQx22a0_) | (with_reducible refine Kd.C_alloc ?_ _) | (with_reducible refine Kd.C_drewN ?_ _) | (with_reducible refine Kd.C_drew ?_))); (case aB => exact zQx22a0_); (case aF => exact (fun _ _ => trivial)); (case aO => exact ((Kd.R_nil _ _ _ _ (fun _ => True)))); (case aS => exact (below_size zQx22a0_)); (case aL => have := LMc5.out; omega); intro v334 w11 ho hb hg hat; rw [← Ny333.out] at ho; have n0_ := Aside0.mk (blk_grown (g := gb331) (o := .cells #[.string a0_0, .int .i64 a0_1, .int .i64 a0_2, .int .i64 a0_3, .int .i64 a0_4, .int .i64 a0_5, .int .i64 a0_6, .bool a0_7] 23 (0, 0)) zQx22a1_ hg (by simp [Value.ownBlock])); have n1_ := Aside0.mk (hb); have n2_ := Aside0.mk (ho); clear BK331; clear HB; have BK331 := n0_; have HB := n1_; have HO335 := n2_; clear n0_ n1_ n2_; clear ho hb hg hat; have hcz12_0 : w11.cell? ⟨gb331, 0, none⟩ = some (.string a0_0) := (blk_cell BK331.out 0).trans rfl; have hcz12_1 : w11.cell? ⟨gb331, 1, none⟩ = some (.int .i64 a0_1) := (blk_cell BK331.out 1).trans rfl; have hcz12_2 : w11.cell? ⟨gb331, 2, none⟩ = some (.int .i64 a0_2) := (blk_cell BK331.out 2).trans rfl; have hcz12_3 : w11.cell? ⟨gb331, 3, none⟩ = some (.int .i64 a0_3) := (blk_cell BK331.out 3).trans rfl; have hcz12_4 : w11.cell? ⟨gb331, 4, none⟩ = some (.int .i64 a0_4) := (blk_cell BK331.out 4).trans rfl; have hcz12_5 : w11.cell? ⟨gb331, 5, none⟩ = some (.int .i64 a0_5) := (blk_cell BK331.out 5).trans rfl; have hcz12_6 : w11.cell? ⟨gb331, 6, none⟩ = some (.int .i64 a0_6) := (blk_cell BK331.out 6).trans rfl; have hcz12_7 : w11.cell? ⟨gb331, 7, none⟩ = some (.bool a0_7) := (blk_cell BK331.out 7).trans rfl; have hfz12_0 := blk_frozen BK331.out 0; have hfz12_1 := blk_frozen BK331.out 1; have hfz12_2 := blk_frozen BK331.out 2; have hfz12_3 := blk_frozen BK331.out 3; have hfz12_4 := blk_frozen BK331.out 4; have hfz12_5 := blk_frozen BK331.out 5; have hfz12_6 := blk_frozen BK331.out 6; have hfz12_7 := blk_frozen BK331.out 7; obtain ⟨Ao13, co13, eo13⟩ := Kd.R_slice HO335.out; subst eo13) | ((with_reducible refine gate_callee (f := 12) rfl ?_); refine goesL_ (some 17) rfl rfl Tryz.func12 (by kernel_rfl) rfl #[.agg #[.string a0_0, .int .i64 a0_1, .int .i64 a0_2, .int .i64 a0_3, .int .i64 a0_4, .int .i64 a0_5, .int .i64 a0_6, .bool a0_7], .slice Ao13 y333.length co13] rfl zQx22a2_ ?_; (with_reducible refine (value_Text.calls a0_0 a0_1 a0_2 a0_3 a0_4 a0_5 a0_6 a0_7 _ _ y333 t336 t337 _ ?side1 ?side2 (Val.Laid.below hLd_ zQx22a0_) A6.out).mono ?_); (case side1 => repeat (first | exact (Kd.R_reads' HO335.out).2.2 | (with_reducible refine Kd.C_alloc ?_ _) | (with_reducible refine Kd.C_drewN ?_ _) | (with_reducible refine Kd.C_drew ?_))); (case side2 => exact (Kd.R_reads' HO335.out).2.1); rintro e w14 ⟨rfl, hb⟩; refine ⟨_, rfl, ?_⟩; have n0_ := Aside0.mk (Kd.R_below zQx22a4_ hb); have n1_ := Aside0.mk (blk_below (g := gb331) (o := .cells #[.string a0_0, .int .i64 a0_1, .int .i64 a0_2, .int .i64 a0_3, .int .i64 a0_4, .int .i64 a0_5, .int .i64 a0_6, .bool a0_7] 23 (0, 0)) zQx22a1_ hb); have n2_ := Aside0.mk (below_step zQx22a0_ hb); clear HO335; clear BK331; clear HB; have HO335 := n0_; have BK331 := n1_; have HB := n2_; clear n0_ n1_ n2_; (try clear hb); (try clear hb2); (try clear hk); (try clear hi)) | ((with_reducible refine gate_callee (f := 13) rfl ?_); refine goesL_ (some 22) rfl rfl Tryz.func13 (by kernel_rfl) rfl #[.slice Ao13 y333.length co13, .slice A1 l1.length c1] rfl zQx22a2_ ?_; (with_reducible refine (basculeref01_Ints.calls k _ _ y333 _ _ l1 true _ ?side1 ?side2 ?side3 ?side4 A7.out).mono ?_); (case side1 => repeat (first | exact (Kd.R_reads' HO335.out).2.2 | (with_reducible refine Kd.C_alloc ?_ _) | (with_reducible refine Kd.C_drewN ?_ _) | (with_reducible refine Kd.C_drew ?_))); (case side2 => exact (Kd.R_reads' HO335.out).2.1); (case side3 => repeat (first | exact (Kd.C_below HR1.out HB.out) | (with_reducible refine Kd.C_alloc ?_ _) | (with_reducible refine Kd.C_drewN ?_ _) | (with_reducible refine Kd.C_drew ?_))); (case side4 => exact HC1.out); rintro e w' ⟨rfl, ⟨nd, rfl⟩⟩; refine ⟨_, rfl, ?_⟩))
 (try simp only [Act.put, List.setIfInBounds_toArray, List.set_cons_zero, List.set_cons_succ])
 go_cut [32] (fun v32 wc => ∃ (kq : Nat) (x32_8 : Bool), v32 = .bool x32_8 ∧ Aside0 (basculelaw22_ValueTells.j0 kq l1 t336 t337 x32_8 a0_0 a0_1 a0_2 a0_3 a0_4 a0_5 a0_6 a0_7 = some r) ∧ Aside0 (kq ≤ k) ∧ Aside0 (wc.heap[gb331]? = some (.cells #[.string a0_0, .int .i64 a0_1, .int .i64 a0_2, .int .i64 a0_3, .int .i64 a0_4, .int .i64 a0_5, .int .i64 a0_6, .bool a0_7] 23 (0, 0))) ∧ Aside0 (Below w.heap.size w wc))
 case first =>
  have H := HC9.out
  clear HC9
  replace H := Option.bind_eq_some_iff.mp H
  obtain ⟨t339, A150, H⟩ := H
  replace H : (if t339 = true then ((basculeref22_May.f k a0_0 a0_1 a0_2 a0_3 a0_4 a0_5 a0_6 a0_7 l1).bind fun t340 => (basculelaw22_ValueTells.j0 k l1 t336 t337 (!t340) a0_0 a0_1 a0_2 a0_3 a0_4 a0_5 a0_6 a0_7)) else (basculelaw22_ValueTells.j0 k l1 t336 t337 true a0_0 a0_1 a0_2 a0_3 a0_4 a0_5 a0_6 a0_7)) = some r := H
  have A15 := Aside0.mk A150
  clear A150
  by_cases c16 : t339 = true
  rotate_left
  ·
   replace c16 := Bool.eq_false_iff.mpr c16
   subst c16
   have H1 : (basculelaw22_ValueTells.j0 k l1 t336 t337 true a0_0 a0_1 a0_2 a0_3 a0_4 a0_5 a0_6 a0_7) = some r := by rw [if_neg (show ¬ (false = true) by decide)] at H; exact H
   clear H
   have H := H1
   clear H1
   have H' := Aside0.mk H
   clear H
   have hcz22_0 : w14.cell? ⟨gb331, 0, none⟩ = some (.string a0_0) := (blk_cell BK331.out 0).trans rfl
   have hcz22_1 : w14.cell? ⟨gb331, 1, none⟩ = some (.int .i64 a0_1) := (blk_cell BK331.out 1).trans rfl
   have hcz22_2 : w14.cell? ⟨gb331, 2, none⟩ = some (.int .i64 a0_2) := (blk_cell BK331.out 2).trans rfl
   have hcz22_3 : w14.cell? ⟨gb331, 3, none⟩ = some (.int .i64 a0_3) := (blk_cell BK331.out 3).trans rfl
   have hcz22_4 : w14.cell? ⟨gb331, 4, none⟩ = some (.int .i64 a0_4) := (blk_cell BK331.out 4).trans rfl
   have hcz22_5 : w14.cell? ⟨gb331, 5, none⟩ = some (.int .i64 a0_5) := (blk_cell BK331.out 5).trans rfl
   have hcz22_6 : w14.cell? ⟨gb331, 6, none⟩ = some (.int .i64 a0_6) := (blk_cell BK331.out 6).trans rfl
   have hcz22_7 : w14.cell? ⟨gb331, 7, none⟩ = some (.bool a0_7) := (blk_cell BK331.out 7).trans rfl
   have hfz22_0 := blk_frozen BK331.out 0
   have hfz22_1 := blk_frozen BK331.out 1
   have hfz22_2 := blk_frozen BK331.out 2
   have hfz22_3 := blk_frozen BK331.out 3
   have hfz22_4 := blk_frozen BK331.out 4
   have hfz22_5 := blk_frozen BK331.out 5
   have hfz22_6 := blk_frozen BK331.out 6
   have hfz22_7 := blk_frozen BK331.out 7
   go_wp2_with (first | ((with_reducible refine gate_callee (f := 14) rfl ?_); refine goesL_ (some 25) rfl rfl Tryz.func14 (by kernel_rfl) rfl #[.agg #[.string a0_0, .int .i64 a0_1, .int .i64 a0_2, .int .i64 a0_3, .int .i64 a0_4, .int .i64 a0_5, .int .i64 a0_6, .bool a0_7]] rfl zQx22a2_ ?_; (with_reducible refine (basculeref22_Row.calls k a0_0 a0_1 a0_2 a0_3 a0_4 a0_5 a0_6 a0_7 false _ A15.out).mono ?_); rintro e w23 ⟨rfl, hb⟩; refine ⟨_, rfl, ?_⟩; have n0_ := Aside0.mk (Kd.R_below zQx22a4_ hb); have n1_ := Aside0.mk (blk_below (g := gb331) (o := .cells #[.string a0_0, .int .i64 a0_1, .int .i64 a0_2, .int .i64 a0_3, .int .i64 a0_4, .int .i64 a0_5, .int .i64 a0_6, .bool a0_7] 23 (0, 0)) zQx22a1_ hb); have n2_ := Aside0.mk (below_step zQx22a0_ hb); clear HO335; clear BK331; clear HB; have HO335 := n0_; have BK331 := n1_; have HB := n2_; clear n0_ n1_ n2_; (try clear hb); (try clear hb2); (try clear hk); (try clear hi)))
   go_meet
   case rel => exact ⟨_, (true), (by first | rfl | (simp; done) | (simp [*]; done)), H', ⟨by first | omega | exact Nat.le_refl _⟩, ⟨zQx22a1_⟩, ⟨zQx22a0_⟩⟩
  subst c16
  have H1 : ((basculeref22_May.f k a0_0 a0_1 a0_2 a0_3 a0_4 a0_5 a0_6 a0_7 l1).bind fun t340 => (basculelaw22_ValueTells.j0 k l1 t336 t337 (!t340) a0_0 a0_1 a0_2 a0_3 a0_4 a0_5 a0_6 a0_7)) = some r := by rw [if_pos rfl] at H; exact H
  clear H
  have H := H1
  clear H1
  replace H := Option.bind_eq_some_iff.mp H
  obtain ⟨t340, A170, H⟩ := H
  replace H : (basculelaw22_ValueTells.j0 k l1 t336 t337 (!t340) a0_0 a0_1 a0_2 a0_3 a0_4 a0_5 a0_6 a0_7) = some r := H
  have A17 := Aside0.mk A170
  clear A170
  have H' := Aside0.mk H
  clear H
  have hcz18_0 : w14.cell? ⟨gb331, 0, none⟩ = some (.string a0_0) := (blk_cell BK331.out 0).trans rfl
  have hcz18_1 : w14.cell? ⟨gb331, 1, none⟩ = some (.int .i64 a0_1) := (blk_cell BK331.out 1).trans rfl
  have hcz18_2 : w14.cell? ⟨gb331, 2, none⟩ = some (.int .i64 a0_2) := (blk_cell BK331.out 2).trans rfl
  have hcz18_3 : w14.cell? ⟨gb331, 3, none⟩ = some (.int .i64 a0_3) := (blk_cell BK331.out 3).trans rfl
  have hcz18_4 : w14.cell? ⟨gb331, 4, none⟩ = some (.int .i64 a0_4) := (blk_cell BK331.out 4).trans rfl
  have hcz18_5 : w14.cell? ⟨gb331, 5, none⟩ = some (.int .i64 a0_5) := (blk_cell BK331.out 5).trans rfl
  have hcz18_6 : w14.cell? ⟨gb331, 6, none⟩ = some (.int .i64 a0_6) := (blk_cell BK331.out 6).trans rfl
  have hcz18_7 : w14.cell? ⟨gb331, 7, none⟩ = some (.bool a0_7) := (blk_cell BK331.out 7).trans rfl
  have hfz18_0 := blk_frozen BK331.out 0
  have hfz18_1 := blk_frozen BK331.out 1
  have hfz18_2 := blk_frozen BK331.out 2
  have hfz18_3 := blk_frozen BK331.out 3
  have hfz18_4 := blk_frozen BK331.out 4
  have hfz18_5 := blk_frozen BK331.out 5
  have hfz18_6 := blk_frozen BK331.out 6
  have hfz18_7 := blk_frozen BK331.out 7
  go_wp2_with (first | ((with_reducible refine gate_callee (f := 14) rfl ?_); refine goesL_ (some 25) rfl rfl Tryz.func14 (by kernel_rfl) rfl #[.agg #[.string a0_0, .int .i64 a0_1, .int .i64 a0_2, .int .i64 a0_3, .int .i64 a0_4, .int .i64 a0_5, .int .i64 a0_6, .bool a0_7]] rfl zQx22a2_ ?_; (with_reducible refine (basculeref22_Row.calls k a0_0 a0_1 a0_2 a0_3 a0_4 a0_5 a0_6 a0_7 true _ A15.out).mono ?_); rintro e w19 ⟨rfl, hb⟩; refine ⟨_, rfl, ?_⟩; have n0_ := Aside0.mk (Kd.R_below zQx22a4_ hb); have n1_ := Aside0.mk (blk_below (g := gb331) (o := .cells #[.string a0_0, .int .i64 a0_1, .int .i64 a0_2, .int .i64 a0_3, .int .i64 a0_4, .int .i64 a0_5, .int .i64 a0_6, .bool a0_7] 23 (0, 0)) zQx22a1_ hb); have n2_ := Aside0.mk (below_step zQx22a0_ hb); clear HO335; clear BK331; clear HB; have HO335 := n0_; have BK331 := n1_; have HB := n2_; clear n0_ n1_ n2_; (try clear hb); (try clear hb2); (try clear hk); (try clear hi); have hcz20_0 : w19.cell? ⟨gb331, 0, none⟩ = some (.string a0_0) := (blk_cell BK331.out 0).trans rfl; have hcz20_1 : w19.cell? ⟨gb331, 1, none⟩ = some (.int .i64 a0_1) := (blk_cell BK331.out 1).trans rfl; have hcz20_2 : w19.cell? ⟨gb331, 2, none⟩ = some (.int .i64 a0_2) := (blk_cell BK331.out 2).trans rfl; have hcz20_3 : w19.cell? ⟨gb331, 3, none⟩ = some (.int .i64 a0_3) := (blk_cell BK331.out 3).trans rfl; have hcz20_4 : w19.cell? ⟨gb331, 4, none⟩ = some (.int .i64 a0_4) := (blk_cell BK331.out 4).trans rfl; have hcz20_5 : w19.cell? ⟨gb331, 5, none⟩ = some (.int .i64 a0_5) := (blk_cell BK331.out 5).trans rfl; have hcz20_6 : w19.cell? ⟨gb331, 6, none⟩ = some (.int .i64 a0_6) := (blk_cell BK331.out 6).trans rfl; have hcz20_7 : w19.cell? ⟨gb331, 7, none⟩ = some (.bool a0_7) := (blk_cell BK331.out 7).trans rfl; have hfz20_0 := blk_frozen BK331.out 0; have hfz20_1 := blk_frozen BK331.out 1; have hfz20_2 := blk_frozen BK331.out 2; have hfz20_3 := blk_frozen BK331.out 3; have hfz20_4 := blk_frozen BK331.out 4; have hfz20_5 := blk_frozen BK331.out 5; have hfz20_6 := blk_frozen BK331.out 6; have hfz20_7 := blk_frozen BK331.out 7) | (go_at_call 15; (with_reducible refine (basculeref22_May.calls k a0_0 a0_1 a0_2 a0_3 a0_4 a0_5 a0_6 a0_7 _ _ l1 t340 _ ?side1 ?side2 A17.out).mono ?_); (case side1 => repeat (first | exact (Kd.C_below HR1.out HB.out) | (with_reducible refine Kd.C_alloc ?_ _) | (with_reducible refine Kd.C_drewN ?_ _) | (with_reducible refine Kd.C_drew ?_))); (case side2 => exact HC1.out); rintro e w21 ⟨rfl, hb⟩; have n0_ := Aside0.mk (Kd.R_below zQx22a4_ hb); have n1_ := Aside0.mk (blk_below (g := gb331) (o := .cells #[.string a0_0, .int .i64 a0_1, .int .i64 a0_2, .int .i64 a0_3, .int .i64 a0_4, .int .i64 a0_5, .int .i64 a0_6, .bool a0_7] 23 (0, 0)) zQx22a1_ hb); have n2_ := Aside0.mk (below_step zQx22a0_ hb); clear HO335; clear BK331; clear HB; have HO335 := n0_; have BK331 := n1_; have HB := n2_; clear n0_ n1_ n2_; (try clear hb); (try clear hb2); (try clear hk); (try clear hi)))
  go_meet
  case rel => exact ⟨_, (!t340), (by first | rfl | (simp; done) | (simp [*]; done)), H', ⟨by first | omega | exact Nat.le_refl _⟩, ⟨zQx22a1_⟩, ⟨zQx22a0_⟩⟩
 case rest =>
  clear HC9
  try clear c1
  try clear p2
  try clear c3
  try clear c4
  try clear c5
  try clear c8
  try clear c11
  try clear c12
  try clear c13
  try clear c14
  try clear c16
  try clear hcz12_0
  try clear hcz12_1
  try clear hcz12_2
  try clear hcz12_3
  try clear hcz12_4
  try clear hcz12_5
  try clear hcz12_6
  try clear hcz12_7
  try clear hcz18_0
  try clear hcz18_1
  try clear hcz18_2
  try clear hcz18_3
  try clear hcz18_4
  try clear hcz18_5
  try clear hcz18_6
  try clear hcz18_7
  try clear hcz20_0
  try clear hcz20_1
  try clear hcz20_2
  try clear hcz20_3
  try clear hcz20_4
  try clear hcz20_5
  try clear hcz20_6
  try clear hcz20_7
  try clear hcz22_0
  try clear hcz22_1
  try clear hcz22_2
  try clear hcz22_3
  try clear hcz22_4
  try clear hcz22_5
  try clear hcz22_6
  try clear hcz22_7
  try clear hfz12_0
  try clear hfz12_1
  try clear hfz12_2
  try clear hfz12_3
  try clear hfz12_4
  try clear hfz12_5
  try clear hfz12_6
  try clear hfz12_7
  try clear hfz18_0
  try clear hfz18_1
  try clear hfz18_2
  try clear hfz18_3
  try clear hfz18_4
  try clear hfz18_5
  try clear hfz18_6
  try clear hfz18_7
  try clear hfz20_0
  try clear hfz20_1
  try clear hfz20_2
  try clear hfz20_3
  try clear hfz20_4
  try clear hfz20_5
  try clear hfz20_6
  try clear hfz20_7
  try clear hfz22_0
  try clear hfz22_1
  try clear hfz22_2
  try clear hfz22_3
  try clear hfz22_4
  try clear hfz22_5
  try clear hfz22_6
  try clear hfz22_7
  obtain ⟨kq, x32_8, rfl, HA, HJ8, BK331, HB⟩ := hcut
  cases kq with
  | zero => exact absurd HA.out (by simp [basculelaw22_ValueTells.j0])
  | succ kj8 =>
   have H := HA.out
   clear HA
   simp only [basculelaw22_ValueTells.j0] at H
   by_cases c24 : x32_8 = true
   ·
    subst c24
    have H1 : ((basculelaw22_awake.f kj8).bind fun t341 => (if t341 = true then (if t337 = 1 then (some (t336.toList == ([] : List UInt8))) else (some false)) else (some false))) = some r := by rw [if_pos rfl] at H; exact H
    clear H
    have H := H1
    clear H1
    replace H := Option.bind_eq_some_iff.mp H
    obtain ⟨t341, A250, H⟩ := H
    replace H : (if t341 = true then (if t337 = 1 then (some (t336.toList == ([] : List UInt8))) else (some false)) else (some false)) = some r := H
    have A25 := Aside0.mk A250
    clear A250
    by_cases c26 : t341 = true
    rotate_left
    ·
     replace c26 := Bool.eq_false_iff.mpr c26
     subst c26
     have H1 : (some false) = some r := by rw [if_neg (show ¬ (false = true) by decide)] at H; exact H
     clear H
     have H := H1
     clear H1
     exact absurd ((Option.some.inj H).trans hr_.out) (by decide)
    subst c26
    have H1 : (if t337 = 1 then (some (t336.toList == ([] : List UInt8))) else (some false)) = some r := by rw [if_pos rfl] at H; exact H
    clear H
    have H := H1
    clear H1
    by_cases c27 : t337 = 1
    rotate_left
    ·
     rw [if_neg c27] at H
     have c27b0 : (t337 == 1) = false := beq_eq_false_iff_ne.mpr c27
     have c27b1 : (t337 != 1) = true := bne_iff_ne.mpr c27
     exact absurd ((Option.some.inj H).trans hr_.out) (by decide)
    rw [if_pos c27] at H
    have c27b0 : (t337 == 1) = true := beq_iff_eq.mpr c27
    have c27b1 : (t337 != 1) = false := bne_eq_false_iff_eq.mpr c27
    clear c27
    obtain rfl := Option.some.inj H
    go_wp2_with (first | ((with_reducible refine gate_callee (f := 16) rfl ?_); refine goesL_ (some 33) rfl rfl Tryz.func16 (by kernel_rfl) rfl #[] rfl zQx22a2_ ?_; (with_reducible refine (basculelaw22_awake.calls kj8  true _ (Val.Laid.below hLd_ zQx22a0_) A25.out).mono ?_); rintro e w28 ⟨rfl, hb⟩; refine ⟨_, rfl, ?_⟩; have n0_ := Aside0.mk (blk_below (g := gb331) (o := .cells #[.string a0_0, .int .i64 a0_1, .int .i64 a0_2, .int .i64 a0_3, .int .i64 a0_4, .int .i64 a0_5, .int .i64 a0_6, .bool a0_7] 23 (0, 0)) zQx22a1_ hb); have n1_ := Aside0.mk (below_step zQx22a0_ hb); clear BK331; clear HB; have BK331 := n0_; have HB := n1_; clear n0_ n1_; (try clear hb); (try clear hb2); (try clear hk); (try clear hi)))
    go_ret
    exact ⟨zQx22a5_, zQx22a0_⟩
   replace c24 := Bool.eq_false_iff.mpr c24
   subst c24
   have H1 : ((basculelaw22_awake.f kj8).bind fun t342 => (if t342 = true then (if t337 = 0 then ((basculeref22_Text.f kj8 a0_0 a0_1 a0_2 a0_3 a0_4 a0_5 a0_6 a0_7 l1).bind fun t343 => (some (t336.toList == t343.toList))) else (some false)) else (some false))) = some r := by rw [if_neg (show ¬ (false = true) by decide)] at H; exact H
   clear H
   have H := H1
   clear H1
   replace H := Option.bind_eq_some_iff.mp H
   obtain ⟨t342, A310, H⟩ := H
   replace H : (if t342 = true then (if t337 = 0 then ((basculeref22_Text.f kj8 a0_0 a0_1 a0_2 a0_3 a0_4 a0_5 a0_6 a0_7 l1).bind fun t343 => (some (t336.toList == t343.toList))) else (some false)) else (some false)) = some r := H
   have A31 := Aside0.mk A310
   clear A310
   by_cases c32 : t342 = true
   rotate_left
   ·
    replace c32 := Bool.eq_false_iff.mpr c32
    subst c32
    have H1 : (some false) = some r := by rw [if_neg (show ¬ (false = true) by decide)] at H; exact H
    clear H
    have H := H1
    clear H1
    exact absurd ((Option.some.inj H).trans hr_.out) (by decide)
   subst c32
   have H1 : (if t337 = 0 then ((basculeref22_Text.f kj8 a0_0 a0_1 a0_2 a0_3 a0_4 a0_5 a0_6 a0_7 l1).bind fun t343 => (some (t336.toList == t343.toList))) else (some false)) = some r := by rw [if_pos rfl] at H; exact H
   clear H
   have H := H1
   clear H1
   by_cases c33 : t337 = 0
   rotate_left
   ·
    rw [if_neg c33] at H
    have c33b0 : (t337 == 0) = false := beq_eq_false_iff_ne.mpr c33
    have c33b1 : (t337 != 0) = true := bne_iff_ne.mpr c33
    exact absurd ((Option.some.inj H).trans hr_.out) (by decide)
   rw [if_pos c33] at H
   have c33b0 : (t337 == 0) = true := beq_iff_eq.mpr c33
   have c33b1 : (t337 != 0) = false := bne_eq_false_iff_eq.mpr c33
   clear c33
   replace H := Option.bind_eq_some_iff.mp H
   obtain ⟨t343, A340, H⟩ := H
   replace H : (some (t336.toList == t343.toList)) = some r := H
   have A34 := Aside0.mk A340
   clear A340
   obtain rfl := Option.some.inj H
   go_wp2_with (first | ((with_reducible refine gate_callee (f := 16) rfl ?_); refine goesL_ (some 42) rfl rfl Tryz.func16 (by kernel_rfl) rfl #[] rfl zQx22a2_ ?_; (with_reducible refine (basculelaw22_awake.calls kj8  true _ (Val.Laid.below hLd_ zQx22a0_) A31.out).mono ?_); rintro e w35 ⟨rfl, hb⟩; refine ⟨_, rfl, ?_⟩; have n0_ := Aside0.mk (blk_below (g := gb331) (o := .cells #[.string a0_0, .int .i64 a0_1, .int .i64 a0_2, .int .i64 a0_3, .int .i64 a0_4, .int .i64 a0_5, .int .i64 a0_6, .bool a0_7] 23 (0, 0)) zQx22a1_ hb); have n1_ := Aside0.mk (below_step zQx22a0_ hb); clear BK331; clear HB; have BK331 := n0_; have HB := n1_; clear n0_ n1_; (try clear hb); (try clear hb2); (try clear hk); (try clear hi); have hcz36_0 : w35.cell? ⟨gb331, 0, none⟩ = some (.string a0_0) := (blk_cell BK331.out 0).trans rfl; have hcz36_1 : w35.cell? ⟨gb331, 1, none⟩ = some (.int .i64 a0_1) := (blk_cell BK331.out 1).trans rfl; have hcz36_2 : w35.cell? ⟨gb331, 2, none⟩ = some (.int .i64 a0_2) := (blk_cell BK331.out 2).trans rfl; have hcz36_3 : w35.cell? ⟨gb331, 3, none⟩ = some (.int .i64 a0_3) := (blk_cell BK331.out 3).trans rfl; have hcz36_4 : w35.cell? ⟨gb331, 4, none⟩ = some (.int .i64 a0_4) := (blk_cell BK331.out 4).trans rfl; have hcz36_5 : w35.cell? ⟨gb331, 5, none⟩ = some (.int .i64 a0_5) := (blk_cell BK331.out 5).trans rfl; have hcz36_6 : w35.cell? ⟨gb331, 6, none⟩ = some (.int .i64 a0_6) := (blk_cell BK331.out 6).trans rfl; have hcz36_7 : w35.cell? ⟨gb331, 7, none⟩ = some (.bool a0_7) := (blk_cell BK331.out 7).trans rfl; have hfz36_0 := blk_frozen BK331.out 0; have hfz36_1 := blk_frozen BK331.out 1; have hfz36_2 := blk_frozen BK331.out 2; have hfz36_3 := blk_frozen BK331.out 3; have hfz36_4 := blk_frozen BK331.out 4; have hfz36_5 := blk_frozen BK331.out 5; have hfz36_6 := blk_frozen BK331.out 6; have hfz36_7 := blk_frozen BK331.out 7) | (go_at_call 17; (with_reducible refine (basculeref22_Text.calls kj8 a0_0 a0_1 a0_2 a0_3 a0_4 a0_5 a0_6 a0_7 _ _ l1 t343 _ ?side1 ?side2 A34.out).mono ?_); (case side1 => repeat (first | exact (Kd.C_below HR1.out HB.out) | (with_reducible refine Kd.C_alloc ?_ _) | (with_reducible refine Kd.C_drewN ?_ _) | (with_reducible refine Kd.C_drew ?_))); (case side2 => exact HC1.out); rintro e w37 ⟨rfl, hb⟩; have n0_ := Aside0.mk (blk_below (g := gb331) (o := .cells #[.string a0_0, .int .i64 a0_1, .int .i64 a0_2, .int .i64 a0_3, .int .i64 a0_4, .int .i64 a0_5, .int .i64 a0_6, .bool a0_7] 23 (0, 0)) zQx22a1_ hb); have n1_ := Aside0.mk (below_step zQx22a0_ hb); clear BK331; clear HB; have BK331 := n0_; have HB := n1_; clear n0_ n1_; (try clear hb); (try clear hb2); (try clear hk); (try clear hi)))
   go_ret
   exact ⟨zQx22a5_, zQx22a0_⟩
end Go.Proofs.YtmkekhjbbapngaaGreatDoor.Q
namespace Go.Proofs.YtmkekhjbbapngaaGreatDoor.Q
open Go.RowKit Go.Proofs.YtmkekhjbbapngaaGreatDoorW.PrintWords Go.Proofs.YtmkekhjbbapngaaGreatDoorW.PrintLast Go.Proofs.YtmkekhjbbapngaaGreatDoorW.PrintMore
set_option linter.unusedVariables false
def basculelaw22_ValueTells.Pure : Prop := ∀ (a0_0 : ByteArray) (a0_1 a0_2 a0_3 a0_4 a0_5 a0_6 : Int) (a0_7 : Bool) (l1 : List Int), (Lit.int .i64 a0_1).wf = true → (Lit.int .i64 a0_2).wf = true → (Lit.int .i64 a0_3).wf = true → (Lit.int .i64 a0_4).wf = true → (Lit.int .i64 a0_5).wf = true → (Lit.int .i64 a0_6).wf = true → l1.length ≤ maxLen → l1.length * 8 ≤ 140737488351232 → (∀ x ∈ l1, (Lit.int .i64 x).wf = true) → ∃ k, basculelaw22_ValueTells.f k a0_0 a0_1 a0_2 a0_3 a0_4 a0_5 a0_6 a0_7 l1 = some true
theorem basculelaw22_ValueTells.walk (P : basculelaw22_ValueTells.Pure) (a0_0 : ByteArray) (a0_1 a0_2 a0_3 a0_4 a0_5 a0_6 : Int) (a0_7 : Bool) (a1 : Option Addr) (len1 cap1 : Nat) (z1 : List Int) (w : World) (hLd_ : Go.Proofs.YtmkekhjbbapngaaGreatDoor.Val.Laid w) (w0_1 : (Lit.int .i64 a0_1).wf = true) (w0_2 : (Lit.int .i64 a0_2).wf = true) (w0_3 : (Lit.int .i64 a0_3).wf = true) (w0_4 : (Lit.int .i64 a0_4).wf = true) (w0_5 : (Lit.int .i64 a0_5).wf = true) (w0_6 : (Lit.int .i64 a0_6).wf = true) (w1 : (a1 = none ∧ len1 = 0 ∧ cap1 = 0 ∧ z1 = []) ∨ ∃ x, a1 = some x ∧ len1 ≤ cap1 ∧ cap1 ≤ maxLen ∧ z1.length = cap1 ∧ (∀ i, i < z1.length → w.cell? (x.add i) = some (.int .i64 (z1.getD i 0))) ∧ ∀ n ∈ z1, (Lit.int .i64 n).wf = true) (y1 : len1 * 8 ≤ 140737488351232) :
    Calls Tryz.prog 3 #[.agg #[.string a0_0, .int .i64 a0_1, .int .i64 a0_2, .int .i64 a0_3, .int .i64 a0_4, .int .i64 a0_5, .int .i64 a0_6, .bool a0_7], .slice a1 len1 cap1] w fun e w' => e = .returned (.bool true) ∧ Below w.heap.size w w' := by
  obtain ⟨l1, rfl, hr1, hm1, hw1, hc1⟩ := ReadsInt.ofRowC w1
  obtain ⟨k, h⟩ := P a0_0 a0_1 a0_2 a0_3 a0_4 a0_5 a0_6 a0_7 l1 w0_1 w0_2 w0_3 w0_4 w0_5 w0_6 hm1 y1 hw1
  refine (basculelaw22_ValueTells.calls k a0_0 a0_1 a0_2 a0_3 a0_4 a0_5 a0_6 a0_7 _ _ l1 true w (Kd.C_of_reads (d := (0 : Int)) (h1 := fun _ => rfl) hr1) hc1 hLd_ (Aside0.mk rfl) h).mono ?_
  rintro e w' ⟨rfl, hd⟩
  exact ⟨rfl, hd⟩
end Go.Proofs.YtmkekhjbbapngaaGreatDoor.Q
