/- Qx29 -/
import Derived.Test.YtmkekhjbbapngaaGreatDoorSValueApartQx18
import Derived.Test.YtmkekhjbbapngaaGreatDoorSValueApartQx28
namespace Go.Proofs.YtmkekhjbbapngaaGreatDoor.Q
open Go.RowKit YtmkekhjbbapngaaGreatDoorW.PrintWords YtmkekhjbbapngaaGreatDoorW.PrintLast YtmkekhjbbapngaaGreatDoorW.PrintMore
attribute [local go_sem] max2_int min2_int max_two min_two
set_option linter.all false
theorem zQx29a0_ {P_ : Prop} (h_ : P_ := by repeat (first | (with_reducible first | exact HB.out | apply below_alloc | apply pw_below_drewN | apply below_drew1 | refine below_set ?_ GE461.out) | exact HB.out)) : P_ := h_
theorem zQx29a1_ {P_ : Prop} (h_ : P_ := by (with_reducible repeat (first | refine blk_drewN ?_ _ | refine blk_drew ?_ | refine blk_alloc ?_ _)); exact BK461.out) : P_ := h_
theorem zQx29a2_ {P_ : Prop} (h_ : P_ := by (try simp only [List.map_toArray, List.map_cons, List.map_nil]); first | done | rfl | (simp only [List.length_drop, List.length_take]; rfl)) : P_ := h_
theorem zQx29a3_ {P_ : Prop} (h_ : P_ := by repeat (first | (with_reducible first | exact HB.out | apply below_alloc | apply pw_below_drewN | apply below_drew1) | exact HB.out)) : P_ := h_
theorem zQx29a4_ {P_ : Prop} (h_ : P_ := by first | rfl | (simp [errW_none, errW_some] <;> rfl) | (simp [*, errW_none, errW_some] <;> rfl)) : P_ := h_
theorem zQx29a5_ {P_ : Prop} (h_ : P_ := by first | rfl | (simp; done) | (simp [*]; done)) : P_ := h_
theorem zQx29a6_ {P_ : Prop} (h_ : P_ := by have := HJ3.out; first | omega | exact Nat.le_refl _) : P_ := h_
mutual
def basculelaw22_ValueApart.j0 : Nat → List Int → List Int → Bool → ByteArray → Int → Int → Int → Int → Int → Int → Bool → Option (Bool)
 | 0, _, _, _, _, _, _, _, _, _, _, _ => none
 | k + 1, x1, x2, x20, x462000, x462001, x462002, x462003, x462004, x462005, x462006, x462007 => if x20 = true then (some true) else ((value_Apart.f x462000 x462001 x462002 x462003 x462004 x462005 x462006 x462007 x1 x2).bind fun bt464 => ((value_Apart.f x462000 x462001 x462002 x462003 x462004 x462005 x462006 x462007 x2 x1).bind fun bt466 => ((basculeref22_Row.f k x462000 x462001 x462002 x462003 x462004 x462005 x462006 x462007).bind fun t468 => (if t468 = true then ((basculeref22_May.f k x462000 x462001 x462002 x462003 x462004 x462005 x462006 x462007 x1).bind fun t469 => (if t469 = true then ((basculeref22_May.f k x462000 x462001 x462002 x462003 x462004 x462005 x462006 x462007 x2).bind fun t470 => (basculelaw22_ValueApart.j1 k x1 x2 bt464.1 bt464.2 bt466.1 bt466.2 (!t470) x462000 x462001 x462002 x462003 x462004 x462005 x462006 x462007)) else (basculelaw22_ValueApart.j1 k x1 x2 bt464.1 bt464.2 bt466.1 bt466.2 true x462000 x462001 x462002 x462003 x462004 x462005 x462006 x462007))) else (basculelaw22_ValueApart.j1 k x1 x2 bt464.1 bt464.2 bt466.1 bt466.2 true x462000 x462001 x462002 x462003 x462004 x462005 x462006 x462007)))))
def basculelaw22_ValueApart.j1 : Nat → List Int → List Int → Bool → Int → Bool → Int → Bool → ByteArray → Int → Int → Int → Int → Int → Int → Bool → Option (Bool)
 | 0, _, _, _, _, _, _, _, _, _, _, _, _, _, _, _ => none
 | k + 1, x1, x2, x7, x8, x9, x10, x49, x462000, x462001, x462002, x462003, x462004, x462005, x462006, x462007 => if x49 = true then ((basculelaw22_awake.f k).bind fun t471 => (if t471 = true then (if x8 = 1 then (if x10 = x8 then (if x7 = true then (some false) else (some (!x9))) else (some false)) else (some false)) else (some false))) else ((value_Apart.f x462000 x462001 x462002 x462003 x462004 x462005 x462006 x462007 x1 x1).bind fun bt472 => ((basculelaw22_awake.f k).bind fun t474 => (if t474 = true then (if x8 = 0 then (if x10 = x8 then (if bt472.2 = x8 then (if (x7 == x9) = true then (if bt472.1 = true then (some false) else ((basculeref22_Apart.f k x462000 x462001 x462002 x462003 x462004 x462005 x462006 x462007 x1 x2).bind fun t475 => (some (x7 == t475)))) else (some false)) else (some false)) else (some false)) else (some false)) else (some false))))
end
def basculelaw22_ValueApart.f (k : Nat) (a0_0 : ByteArray) (a0_1 : Int) (a0_2 : Int) (a0_3 : Int) (a0_4 : Int) (a0_5 : Int) (a0_6 : Int) (a0_7 : Bool) (l1 : List Int) (l2 : List Int) : Option (Bool) := (basculelaw22_few.f l1).bind fun t462 => (if t462 = true then ((basculelaw22_few.f l2).bind fun t463 => (basculelaw22_ValueApart.j0 k l1 l2 (!t463) a0_0 a0_1 a0_2 a0_3 a0_4 a0_5 a0_6 a0_7)) else (basculelaw22_ValueApart.j0 k l1 l2 true a0_0 a0_1 a0_2 a0_3 a0_4 a0_5 a0_6 a0_7))
theorem basculelaw22_ValueApart.mono_l : ∀ k, (∀ y0 y1 y2 y3 y4 y5 y6 y7 y8 y9 y10, LeO (basculelaw22_ValueApart.j0 k y0 y1 y2 y3 y4 y5 y6 y7 y8 y9 y10) (basculelaw22_ValueApart.j0 (k + 1) y0 y1 y2 y3 y4 y5 y6 y7 y8 y9 y10)) ∧ (∀ y0 y1 y2 y3 y4 y5 y6 y7 y8 y9 y10 y11 y12 y13 y14, LeO (basculelaw22_ValueApart.j1 k y0 y1 y2 y3 y4 y5 y6 y7 y8 y9 y10 y11 y12 y13 y14) (basculelaw22_ValueApart.j1 (k + 1) y0 y1 y2 y3 y4 y5 y6 y7 y8 y9 y10 y11 y12 y13 y14))
 | 0 => ⟨fun _ _ _ _ _ _ _ _ _ _ _ r h => by simp [basculelaw22_ValueApart.j0] at h, fun _ _ _ _ _ _ _ _ _ _ _ _ _ _ _ r h => by simp [basculelaw22_ValueApart.j1] at h⟩
 | k + 1 => by
  obtain ⟨ih0, ih1⟩ := basculelaw22_ValueApart.mono_l k
  refine ⟨?_, ?_⟩
  ·
   intro y0 y1 y2 y3 y4 y5 y6 y7 y8 y9 y10
   unfold basculelaw22_ValueApart.j0
   repeat' first
   | (with_reducible first | exact ih0 _ _ _ _ _ _ _ _ _ _ _ | exact ih1 _ _ _ _ _ _ _ _ _ _ _ _ _ _ _ | exact basculelaw22_awake.mono _ | exact basculeref22_Apart.mono _ _ _ _ _ _ _ _ _ _ _ | exact basculeref22_May.mono _ _ _ _ _ _ _ _ _ _ | exact basculeref22_Row.mono _ _ _ _ _ _ _ _ _ | exact LeO.refl _ | exact LeO.none _ | refine LeO.ite ?_ ?_ | refine LeO.bind ?_ (fun _ => ?_))
  ·
   intro y0 y1 y2 y3 y4 y5 y6 y7 y8 y9 y10 y11 y12 y13 y14
   unfold basculelaw22_ValueApart.j1
   repeat' first
   | (with_reducible first | exact ih0 _ _ _ _ _ _ _ _ _ _ _ | exact ih1 _ _ _ _ _ _ _ _ _ _ _ _ _ _ _ | exact basculelaw22_awake.mono _ | exact basculeref22_Apart.mono _ _ _ _ _ _ _ _ _ _ _ | exact basculeref22_May.mono _ _ _ _ _ _ _ _ _ _ | exact basculeref22_Row.mono _ _ _ _ _ _ _ _ _ | exact LeO.refl _ | exact LeO.none _ | refine LeO.ite ?_ ?_ | refine LeO.bind ?_ (fun _ => ?_))
theorem basculelaw22_ValueApart.mono : ∀ a0 a1 a2 a3 a4 a5 a6 a7 a8 a9 k, LeO (basculelaw22_ValueApart.f k a0 a1 a2 a3 a4 a5 a6 a7 a8 a9) (basculelaw22_ValueApart.f (k + 1) a0 a1 a2 a3 a4 a5 a6 a7 a8 a9) := by
 intro a0 a1 a2 a3 a4 a5 a6 a7 a8 a9 k
 obtain ⟨ih0, ih1⟩ := basculelaw22_ValueApart.mono_l k
 unfold basculelaw22_ValueApart.f
 repeat' first
   | (with_reducible first | exact ih0 _ _ _ _ _ _ _ _ _ _ _ | exact ih1 _ _ _ _ _ _ _ _ _ _ _ _ _ _ _ | exact basculelaw22_awake.mono _ | exact basculeref22_Apart.mono _ _ _ _ _ _ _ _ _ _ _ | exact basculeref22_May.mono _ _ _ _ _ _ _ _ _ _ | exact basculeref22_Row.mono _ _ _ _ _ _ _ _ _ | exact LeO.refl _ | exact LeO.none _ | refine LeO.ite ?_ ?_ | refine LeO.bind ?_ (fun _ => ?_))
set_option maxHeartbeats 8000000 in
set_option maxRecDepth 100000 in
theorem basculelaw22_ValueApart.calls (k : Nat) (a0_0 : ByteArray) (a0_1 : Int) (a0_2 : Int) (a0_3 : Int) (a0_4 : Int) (a0_5 : Int) (a0_6 : Int) (a0_7 : Bool) (A1 : Option Addr) (c1 : Nat) (l1 : List Int) (A2 : Option Addr) (c2 : Nat) (l2 : List Int) (r : Bool) (w : World) (hr1 : Kd.C (Kd.int .i64) w A1 l1.length l1) (hc1 : l1.length ≤ c1) (hr2 : Kd.C (Kd.int .i64) w A2 l2.length l2) (hc2 : l2.length ≤ c2) (hLd_ : Val.Laid w) (hr_ : Aside0 (r = true)) (h : basculelaw22_ValueApart.f k a0_0 a0_1 a0_2 a0_3 a0_4 a0_5 a0_6 a0_7 l1 l2 = some r) :
  Calls Tryz.prog 7 #[.agg #[.string a0_0, .int .i64 a0_1, .int .i64 a0_2, .int .i64 a0_3, .int .i64 a0_4, .int .i64 a0_5, .int .i64 a0_6, .bool a0_7], .slice A1 l1.length c1, .slice A2 l2.length c2] w fun e w' => e = .returned (.bool r) ∧ Below w.heap.size w w' := by
 have hu23 := Tryz.underlying23
 have HR1 := Aside0.mk hr1
 have HC1 := Aside0.mk hc1
 clear hr1 hc1
 have HR2 := Aside0.mk hr2
 have HC2 := Aside0.mk hc2
 clear hr2 hc2
 have HB := Aside0.mk (Below.refl w.heap.size w)
 have H : ((basculelaw22_few.f l1).bind fun t462 => (if t462 = true then ((basculelaw22_few.f l2).bind fun t463 => (basculelaw22_ValueApart.j0 k l1 l2 (!t463) a0_0 a0_1 a0_2 a0_3 a0_4 a0_5 a0_6 a0_7)) else (basculelaw22_ValueApart.j0 k l1 l2 true a0_0 a0_1 a0_2 a0_3 a0_4 a0_5 a0_6 a0_7))) = some r := h
 clear h
 have HC4 := Aside0.mk H
 clear H
 go_enter Tryz.func7, Tryz.ntmps7
 go_upto_region 1 with (first | ((with_reducible refine gate_dst (N := 3) rfl ?_); refine box_event ?hg (N := 3) ?hd (cs := #[.string a0_0, .int .i64 a0_1, .int .i64 a0_2, .int .i64 a0_3, .int .i64 a0_4, .int .i64 a0_5, .int .i64 a0_6, .bool a0_7]) (t := 23) ?hr ?_; (case hd => rfl); (case hg => rfl); (case hr => first | (go_simp; done) | (go_simp; rfl)); intro gb461 hg w5 hbox hb; have n0_ := Aside0.mk (below_step zQx29a3_ hb); have n1_ := Aside0.mk (hbox); have n2_ := Aside0.mk ((by rw [hg]; exact (below_size zQx29a3_) : w.heap.size ≤ gb461)); have n3_ := Aside0.mk ((by rw [hg]; exact (below_size zQx29a3_) : w.heap.size ≤ gb461)); clear HB; have HB := n0_; have BK461 := n1_; have GW461 := n2_; have GE461 := n3_; clear n0_ n1_ n2_ n3_; clear hb hbox hg))
 (try simp only [Act.put, List.setIfInBounds_toArray, List.set_cons_zero, List.set_cons_succ])
 go_cut [20] (fun v20 wc => ∃ (kq : Nat) (x20_3 : Bool), v20 = .bool x20_3 ∧ Aside0 (basculelaw22_ValueApart.j0 kq l1 l2 x20_3 a0_0 a0_1 a0_2 a0_3 a0_4 a0_5 a0_6 a0_7 = some r) ∧ Aside0 (kq ≤ k) ∧ Aside0 (wc.heap[gb461]? = some (.cells #[.string a0_0, .int .i64 a0_1, .int .i64 a0_2, .int .i64 a0_3, .int .i64 a0_4, .int .i64 a0_5, .int .i64 a0_6, .bool a0_7] 23 (0, 0))) ∧ Aside0 (Below w.heap.size w wc))
 case first =>
  have H := HC4.out
  clear HC4
  replace H := Option.bind_eq_some_iff.mp H
  obtain ⟨t462, A60, H⟩ := H
  replace H : (if t462 = true then ((basculelaw22_few.f l2).bind fun t463 => (basculelaw22_ValueApart.j0 k l1 l2 (!t463) a0_0 a0_1 a0_2 a0_3 a0_4 a0_5 a0_6 a0_7)) else (basculelaw22_ValueApart.j0 k l1 l2 true a0_0 a0_1 a0_2 a0_3 a0_4 a0_5 a0_6 a0_7)) = some r := H
  have A6 := Aside0.mk A60
  clear A60
  by_cases c7 : t462 = true
  rotate_left
  ·
   replace c7 := Bool.eq_false_iff.mpr c7
   subst c7
   have H1 : (basculelaw22_ValueApart.j0 k l1 l2 true a0_0 a0_1 a0_2 a0_3 a0_4 a0_5 a0_6 a0_7) = some r := by rw [if_neg (show ¬ (false = true) by decide)] at H; exact H
   clear H
   have H := H1
   clear H1
   have H' := Aside0.mk H
   clear H
   go_wp2_with (first | ((with_reducible refine gate_callee (f := 11) rfl ?_); refine goesL_ (some 14) rfl rfl Tryz.func11 (by kernel_rfl) rfl #[.slice A1 l1.length c1] rfl zQx29a2_ ?_; (with_reducible refine (basculelaw22_few.calls _ _ l1 false _ ?side1 ?side2 A6.out).mono ?_); (case side1 => repeat (first | exact (Kd.C_below HR1.out HB.out) | (with_reducible first | refine Kd.C_alloc ?_ _ | refine Kd.C_drewN ?_ _ | refine Kd.C_drew ?_))); (case side2 => exact HC1.out); rintro e w' ⟨rfl, ⟨nd, rfl⟩⟩; refine ⟨_, rfl, ?_⟩))
   go_meet
   case rel => exact ⟨_, (true), zQx29a5_, H', ⟨by first | omega | exact Nat.le_refl _⟩, ⟨zQx29a1_⟩, ⟨zQx29a0_⟩⟩
  subst c7
  have H1 : ((basculelaw22_few.f l2).bind fun t463 => (basculelaw22_ValueApart.j0 k l1 l2 (!t463) a0_0 a0_1 a0_2 a0_3 a0_4 a0_5 a0_6 a0_7)) = some r := by rw [if_pos rfl] at H; exact H
  clear H
  have H := H1
  clear H1
  replace H := Option.bind_eq_some_iff.mp H
  obtain ⟨t463, A80, H⟩ := H
  replace H : (basculelaw22_ValueApart.j0 k l1 l2 (!t463) a0_0 a0_1 a0_2 a0_3 a0_4 a0_5 a0_6 a0_7) = some r := H
  have A8 := Aside0.mk A80
  clear A80
  have H' := Aside0.mk H
  clear H
  go_wp2_with (first | ((with_reducible refine gate_callee (f := 11) rfl ?_); refine goesL_ (some 14) rfl rfl Tryz.func11 (by kernel_rfl) rfl #[.slice A1 l1.length c1] rfl zQx29a2_ ?_; (with_reducible refine (basculelaw22_few.calls _ _ l1 true _ ?side1 ?side2 A6.out).mono ?_); (case side1 => repeat (first | exact (Kd.C_below HR1.out HB.out) | (with_reducible first | refine Kd.C_alloc ?_ _ | refine Kd.C_drewN ?_ _ | refine Kd.C_drew ?_))); (case side2 => exact HC1.out); rintro e w' ⟨rfl, ⟨nd, rfl⟩⟩; refine ⟨_, rfl, ?_⟩) | (go_at_call 11; (with_reducible refine (basculelaw22_few.calls _ _ l2 t463 _ ?side1 ?side2 A8.out).mono ?_); (case side1 => repeat (first | exact (Kd.C_below HR2.out zQx29a0_) | (with_reducible first | refine Kd.C_alloc ?_ _ | refine Kd.C_drewN ?_ _ | refine Kd.C_drew ?_))); (case side2 => exact HC2.out); rintro e w' ⟨rfl, ⟨nd, rfl⟩⟩))
  go_meet
  case rel => exact ⟨_, (!t463), zQx29a5_, H', ⟨by first | omega | exact Nat.le_refl _⟩, ⟨zQx29a1_⟩, ⟨zQx29a0_⟩⟩
 case rest =>
  clear HC4
  try clear c1
  try clear c2
  try clear p2
  try clear c7
  obtain ⟨kq, x20_3, rfl, HA, HJ3, BK461, HB⟩ := hcut
  cases kq with
  | zero => exact absurd HA.out (by simp [basculelaw22_ValueApart.j0])
  | succ kj3 =>
   have H := HA.out
   clear HA
   simp only [basculelaw22_ValueApart.j0] at H
   by_cases c9 : x20_3 = true
   ·
    subst c9
    have H1 : (some true) = some r := by rw [if_pos rfl] at H; exact H
    clear H
    have H := H1
    clear H1
    obtain rfl := Option.some.inj H
    go_wp2
    go_ret
    exact ⟨zQx29a4_, zQx29a0_⟩
   replace c9 := Bool.eq_false_iff.mpr c9
   subst c9
   have H1 : ((value_Apart.f a0_0 a0_1 a0_2 a0_3 a0_4 a0_5 a0_6 a0_7 l1 l2).bind fun bt464 => ((value_Apart.f a0_0 a0_1 a0_2 a0_3 a0_4 a0_5 a0_6 a0_7 l2 l1).bind fun bt466 => ((basculeref22_Row.f kj3 a0_0 a0_1 a0_2 a0_3 a0_4 a0_5 a0_6 a0_7).bind fun t468 => (if t468 = true then ((basculeref22_May.f kj3 a0_0 a0_1 a0_2 a0_3 a0_4 a0_5 a0_6 a0_7 l1).bind fun t469 => (if t469 = true then ((basculeref22_May.f kj3 a0_0 a0_1 a0_2 a0_3 a0_4 a0_5 a0_6 a0_7 l2).bind fun t470 => (basculelaw22_ValueApart.j1 kj3 l1 l2 bt464.1 bt464.2 bt466.1 bt466.2 (!t470) a0_0 a0_1 a0_2 a0_3 a0_4 a0_5 a0_6 a0_7)) else (basculelaw22_ValueApart.j1 kj3 l1 l2 bt464.1 bt464.2 bt466.1 bt466.2 true a0_0 a0_1 a0_2 a0_3 a0_4 a0_5 a0_6 a0_7))) else (basculelaw22_ValueApart.j1 kj3 l1 l2 bt464.1 bt464.2 bt466.1 bt466.2 true a0_0 a0_1 a0_2 a0_3 a0_4 a0_5 a0_6 a0_7))))) = some r := by rw [if_neg (show ¬ (false = true) by decide)] at H; exact H
   clear H
   have H := H1
   clear H1
   replace H := Option.bind_eq_some_iff.mp H
   obtain ⟨⟨t464, t465⟩, A100, H⟩ := H
   replace H : ((value_Apart.f a0_0 a0_1 a0_2 a0_3 a0_4 a0_5 a0_6 a0_7 l2 l1).bind fun bt466 => ((basculeref22_Row.f kj3 a0_0 a0_1 a0_2 a0_3 a0_4 a0_5 a0_6 a0_7).bind fun t468 => (if t468 = true then ((basculeref22_May.f kj3 a0_0 a0_1 a0_2 a0_3 a0_4 a0_5 a0_6 a0_7 l1).bind fun t469 => (if t469 = true then ((basculeref22_May.f kj3 a0_0 a0_1 a0_2 a0_3 a0_4 a0_5 a0_6 a0_7 l2).bind fun t470 => (basculelaw22_ValueApart.j1 kj3 l1 l2 t464 t465 bt466.1 bt466.2 (!t470) a0_0 a0_1 a0_2 a0_3 a0_4 a0_5 a0_6 a0_7)) else (basculelaw22_ValueApart.j1 kj3 l1 l2 t464 t465 bt466.1 bt466.2 true a0_0 a0_1 a0_2 a0_3 a0_4 a0_5 a0_6 a0_7))) else (basculelaw22_ValueApart.j1 kj3 l1 l2 t464 t465 bt466.1 bt466.2 true a0_0 a0_1 a0_2 a0_3 a0_4 a0_5 a0_6 a0_7)))) = some r := H
   have A10 := Aside0.mk A100
   clear A100
   replace H := Option.bind_eq_some_iff.mp H
   obtain ⟨⟨t466, t467⟩, A110, H⟩ := H
   replace H : ((basculeref22_Row.f kj3 a0_0 a0_1 a0_2 a0_3 a0_4 a0_5 a0_6 a0_7).bind fun t468 => (if t468 = true then ((basculeref22_May.f kj3 a0_0 a0_1 a0_2 a0_3 a0_4 a0_5 a0_6 a0_7 l1).bind fun t469 => (if t469 = true then ((basculeref22_May.f kj3 a0_0 a0_1 a0_2 a0_3 a0_4 a0_5 a0_6 a0_7 l2).bind fun t470 => (basculelaw22_ValueApart.j1 kj3 l1 l2 t464 t465 t466 t467 (!t470) a0_0 a0_1 a0_2 a0_3 a0_4 a0_5 a0_6 a0_7)) else (basculelaw22_ValueApart.j1 kj3 l1 l2 t464 t465 t466 t467 true a0_0 a0_1 a0_2 a0_3 a0_4 a0_5 a0_6 a0_7))) else (basculelaw22_ValueApart.j1 kj3 l1 l2 t464 t465 t466 t467 true a0_0 a0_1 a0_2 a0_3 a0_4 a0_5 a0_6 a0_7))) = some r := H
   have A11 := Aside0.mk A110
   clear A110
   have HC12 := Aside0.mk H
   clear H
   have hcz13_0 : wc.cell? ⟨gb461, 0, none⟩ = some (.string a0_0) := (blk_cell BK461.out 0).trans rfl
   have hcz13_1 : wc.cell? ⟨gb461, 1, none⟩ = some (.int .i64 a0_1) := (blk_cell BK461.out 1).trans rfl
   have hcz13_2 : wc.cell? ⟨gb461, 2, none⟩ = some (.int .i64 a0_2) := (blk_cell BK461.out 2).trans rfl
   have hcz13_3 : wc.cell? ⟨gb461, 3, none⟩ = some (.int .i64 a0_3) := (blk_cell BK461.out 3).trans rfl
   have hcz13_4 : wc.cell? ⟨gb461, 4, none⟩ = some (.int .i64 a0_4) := (blk_cell BK461.out 4).trans rfl
   have hcz13_5 : wc.cell? ⟨gb461, 5, none⟩ = some (.int .i64 a0_5) := (blk_cell BK461.out 5).trans rfl
   have hcz13_6 : wc.cell? ⟨gb461, 6, none⟩ = some (.int .i64 a0_6) := (blk_cell BK461.out 6).trans rfl
   have hcz13_7 : wc.cell? ⟨gb461, 7, none⟩ = some (.bool a0_7) := (blk_cell BK461.out 7).trans rfl
   have hfz13_0 := blk_frozen BK461.out 0
   have hfz13_1 := blk_frozen BK461.out 1
   have hfz13_2 := blk_frozen BK461.out 2
   have hfz13_3 := blk_frozen BK461.out 3
   have hfz13_4 := blk_frozen BK461.out 4
   have hfz13_5 := blk_frozen BK461.out 5
   have hfz13_6 := blk_frozen BK461.out 6
   have hfz13_7 := blk_frozen BK461.out 7
   go_upto_region 5 with (first | ((with_reducible refine gate_callee (f := 20) rfl ?_); refine goesL_ (some 25) rfl rfl Tryz.func20 (by kernel_rfl) rfl #[.agg #[.string a0_0, .int .i64 a0_1, .int .i64 a0_2, .int .i64 a0_3, .int .i64 a0_4, .int .i64 a0_5, .int .i64 a0_6, .bool a0_7], .slice A1 l1.length c1, .slice A2 l2.length c2] rfl zQx29a2_ ?_; (with_reducible refine (value_Apart.calls a0_0 a0_1 a0_2 a0_3 a0_4 a0_5 a0_6 a0_7 _ _ l1 _ _ l2 t464 t465 _ ?side1 ?side2 ?side3 ?side4 (Val.Laid.below hLd_ zQx29a0_) A10.out).mono ?_); (case side1 => repeat (first | exact (Kd.C_below HR1.out HB.out) | (with_reducible first | refine Kd.C_alloc ?_ _ | refine Kd.C_drewN ?_ _ | refine Kd.C_drew ?_))); (case side2 => exact HC1.out); (case side3 => repeat (first | exact (Kd.C_below HR2.out HB.out) | (with_reducible first | refine Kd.C_alloc ?_ _ | refine Kd.C_drewN ?_ _ | refine Kd.C_drew ?_))); (case side4 => exact HC2.out); rintro e w14 ⟨rfl, hb⟩; refine ⟨_, rfl, ?_⟩; have n0_ := Aside0.mk (blk_below (g := gb461) (o := .cells #[.string a0_0, .int .i64 a0_1, .int .i64 a0_2, .int .i64 a0_3, .int .i64 a0_4, .int .i64 a0_5, .int .i64 a0_6, .bool a0_7] 23 (0, 0)) zQx29a1_ hb); have n1_ := Aside0.mk (below_step zQx29a0_ hb); clear BK461; clear HB; have BK461 := n0_; have HB := n1_; clear n0_ n1_; (try clear hb); (try clear hb2); (try clear hk); (try clear hi); have hcz15_0 : w14.cell? ⟨gb461, 0, none⟩ = some (.string a0_0) := (blk_cell BK461.out 0).trans rfl; have hcz15_1 : w14.cell? ⟨gb461, 1, none⟩ = some (.int .i64 a0_1) := (blk_cell BK461.out 1).trans rfl; have hcz15_2 : w14.cell? ⟨gb461, 2, none⟩ = some (.int .i64 a0_2) := (blk_cell BK461.out 2).trans rfl; have hcz15_3 : w14.cell? ⟨gb461, 3, none⟩ = some (.int .i64 a0_3) := (blk_cell BK461.out 3).trans rfl; have hcz15_4 : w14.cell? ⟨gb461, 4, none⟩ = some (.int .i64 a0_4) := (blk_cell BK461.out 4).trans rfl; have hcz15_5 : w14.cell? ⟨gb461, 5, none⟩ = some (.int .i64 a0_5) := (blk_cell BK461.out 5).trans rfl; have hcz15_6 : w14.cell? ⟨gb461, 6, none⟩ = some (.int .i64 a0_6) := (blk_cell BK461.out 6).trans rfl; have hcz15_7 : w14.cell? ⟨gb461, 7, none⟩ = some (.bool a0_7) := (blk_cell BK461.out 7).trans rfl; have hfz15_0 := blk_frozen BK461.out 0; have hfz15_1 := blk_frozen BK461.out 1; have hfz15_2 := blk_frozen BK461.out 2; have hfz15_3 := blk_frozen BK461.out 3; have hfz15_4 := blk_frozen BK461.out 4; have hfz15_5 := blk_frozen BK461.out 5; have hfz15_6 := blk_frozen BK461.out 6; have hfz15_7 := blk_frozen BK461.out 7) | ((with_reducible refine gate_callee (f := 20) rfl ?_); refine goesL_ (some 32) rfl rfl Tryz.func20 (by kernel_rfl) rfl #[.agg #[.string a0_0, .int .i64 a0_1, .int .i64 a0_2, .int .i64 a0_3, .int .i64 a0_4, .int .i64 a0_5, .int .i64 a0_6, .bool a0_7], .slice A2 l2.length c2, .slice A1 l1.length c1] rfl zQx29a2_ ?_; (with_reducible refine (value_Apart.calls a0_0 a0_1 a0_2 a0_3 a0_4 a0_5 a0_6 a0_7 _ _ l2 _ _ l1 t466 t467 _ ?side1 ?side2 ?side3 ?side4 (Val.Laid.below hLd_ zQx29a0_) A11.out).mono ?_); (case side1 => repeat (first | exact (Kd.C_below HR2.out HB.out) | (with_reducible first | refine Kd.C_alloc ?_ _ | refine Kd.C_drewN ?_ _ | refine Kd.C_drew ?_))); (case side2 => exact HC2.out); (case side3 => repeat (first | exact (Kd.C_below HR1.out HB.out) | (with_reducible first | refine Kd.C_alloc ?_ _ | refine Kd.C_drewN ?_ _ | refine Kd.C_drew ?_))); (case side4 => exact HC1.out); rintro e w16 ⟨rfl, hb⟩; refine ⟨_, rfl, ?_⟩; have n0_ := Aside0.mk (blk_below (g := gb461) (o := .cells #[.string a0_0, .int .i64 a0_1, .int .i64 a0_2, .int .i64 a0_3, .int .i64 a0_4, .int .i64 a0_5, .int .i64 a0_6, .bool a0_7] 23 (0, 0)) zQx29a1_ hb); have n1_ := Aside0.mk (below_step zQx29a0_ hb); clear BK461; clear HB; have BK461 := n0_; have HB := n1_; clear n0_ n1_; (try clear hb); (try clear hb2); (try clear hk); (try clear hi)))
   (try simp only [Act.put, List.setIfInBounds_toArray, List.set_cons_zero, List.set_cons_succ])
   go_cut [49] (fun v49 wc => ∃ (kq : Nat) (x49_11 : Bool), v49 = .bool x49_11 ∧ Aside0 (basculelaw22_ValueApart.j1 kq l1 l2 t464 t465 t466 t467 x49_11 a0_0 a0_1 a0_2 a0_3 a0_4 a0_5 a0_6 a0_7 = some r) ∧ Aside0 (kq ≤ kj3) ∧ Aside0 (wc.heap[gb461]? = some (.cells #[.string a0_0, .int .i64 a0_1, .int .i64 a0_2, .int .i64 a0_3, .int .i64 a0_4, .int .i64 a0_5, .int .i64 a0_6, .bool a0_7] 23 (0, 0))) ∧ Aside0 (Below w.heap.size w wc))
   case first =>
    have H := HC12.out
    clear HC12
    replace H := Option.bind_eq_some_iff.mp H
    obtain ⟨t468, A170, H⟩ := H
    replace H : (if t468 = true then ((basculeref22_May.f kj3 a0_0 a0_1 a0_2 a0_3 a0_4 a0_5 a0_6 a0_7 l1).bind fun t469 => (if t469 = true then ((basculeref22_May.f kj3 a0_0 a0_1 a0_2 a0_3 a0_4 a0_5 a0_6 a0_7 l2).bind fun t470 => (basculelaw22_ValueApart.j1 kj3 l1 l2 t464 t465 t466 t467 (!t470) a0_0 a0_1 a0_2 a0_3 a0_4 a0_5 a0_6 a0_7)) else (basculelaw22_ValueApart.j1 kj3 l1 l2 t464 t465 t466 t467 true a0_0 a0_1 a0_2 a0_3 a0_4 a0_5 a0_6 a0_7))) else (basculelaw22_ValueApart.j1 kj3 l1 l2 t464 t465 t466 t467 true a0_0 a0_1 a0_2 a0_3 a0_4 a0_5 a0_6 a0_7)) = some r := H
    have A17 := Aside0.mk A170
    clear A170
    by_cases c18 : t468 = true
    rotate_left
    ·
     replace c18 := Bool.eq_false_iff.mpr c18
     subst c18
     have H1 : (basculelaw22_ValueApart.j1 kj3 l1 l2 t464 t465 t466 t467 true a0_0 a0_1 a0_2 a0_3 a0_4 a0_5 a0_6 a0_7) = some r := by rw [if_neg (show ¬ (false = true) by decide)] at H; exact H
     clear H
     have H := H1
     clear H1
     have H' := Aside0.mk H
     clear H
     have hcz32_0 : w16.cell? ⟨gb461, 0, none⟩ = some (.string a0_0) := (blk_cell BK461.out 0).trans rfl
     have hcz32_1 : w16.cell? ⟨gb461, 1, none⟩ = some (.int .i64 a0_1) := (blk_cell BK461.out 1).trans rfl
     have hcz32_2 : w16.cell? ⟨gb461, 2, none⟩ = some (.int .i64 a0_2) := (blk_cell BK461.out 2).trans rfl
     have hcz32_3 : w16.cell? ⟨gb461, 3, none⟩ = some (.int .i64 a0_3) := (blk_cell BK461.out 3).trans rfl
     have hcz32_4 : w16.cell? ⟨gb461, 4, none⟩ = some (.int .i64 a0_4) := (blk_cell BK461.out 4).trans rfl
     have hcz32_5 : w16.cell? ⟨gb461, 5, none⟩ = some (.int .i64 a0_5) := (blk_cell BK461.out 5).trans rfl
     have hcz32_6 : w16.cell? ⟨gb461, 6, none⟩ = some (.int .i64 a0_6) := (blk_cell BK461.out 6).trans rfl
     have hcz32_7 : w16.cell? ⟨gb461, 7, none⟩ = some (.bool a0_7) := (blk_cell BK461.out 7).trans rfl
     have hfz32_0 := blk_frozen BK461.out 0
     have hfz32_1 := blk_frozen BK461.out 1
     have hfz32_2 := blk_frozen BK461.out 2
     have hfz32_3 := blk_frozen BK461.out 3
     have hfz32_4 := blk_frozen BK461.out 4
     have hfz32_5 := blk_frozen BK461.out 5
     have hfz32_6 := blk_frozen BK461.out 6
     have hfz32_7 := blk_frozen BK461.out 7
     go_wp2_with (first | ((with_reducible refine gate_callee (f := 14) rfl ?_); refine goesL_ (some 36) rfl rfl Tryz.func14 (by kernel_rfl) rfl #[.agg #[.string a0_0, .int .i64 a0_1, .int .i64 a0_2, .int .i64 a0_3, .int .i64 a0_4, .int .i64 a0_5, .int .i64 a0_6, .bool a0_7]] rfl zQx29a2_ ?_; (with_reducible refine (basculeref22_Row.calls kj3 a0_0 a0_1 a0_2 a0_3 a0_4 a0_5 a0_6 a0_7 false _ A17.out).mono ?_); rintro e w33 ⟨rfl, hb⟩; refine ⟨_, rfl, ?_⟩; have n0_ := Aside0.mk (blk_below (g := gb461) (o := .cells #[.string a0_0, .int .i64 a0_1, .int .i64 a0_2, .int .i64 a0_3, .int .i64 a0_4, .int .i64 a0_5, .int .i64 a0_6, .bool a0_7] 23 (0, 0)) zQx29a1_ hb); have n1_ := Aside0.mk (below_step zQx29a0_ hb); clear BK461; clear HB; have BK461 := n0_; have HB := n1_; clear n0_ n1_; (try clear hb); (try clear hb2); (try clear hk); (try clear hi)))
     go_meet
     case rel => exact ⟨_, (true), zQx29a5_, H', ⟨zQx29a6_⟩, ⟨zQx29a1_⟩, ⟨zQx29a0_⟩⟩
    subst c18
    have H1 : ((basculeref22_May.f kj3 a0_0 a0_1 a0_2 a0_3 a0_4 a0_5 a0_6 a0_7 l1).bind fun t469 => (if t469 = true then ((basculeref22_May.f kj3 a0_0 a0_1 a0_2 a0_3 a0_4 a0_5 a0_6 a0_7 l2).bind fun t470 => (basculelaw22_ValueApart.j1 kj3 l1 l2 t464 t465 t466 t467 (!t470) a0_0 a0_1 a0_2 a0_3 a0_4 a0_5 a0_6 a0_7)) else (basculelaw22_ValueApart.j1 kj3 l1 l2 t464 t465 t466 t467 true a0_0 a0_1 a0_2 a0_3 a0_4 a0_5 a0_6 a0_7))) = some r := by rw [if_pos rfl] at H; exact H
    clear H
    have H := H1
    clear H1
    replace H := Option.bind_eq_some_iff.mp H
    obtain ⟨t469, A190, H⟩ := H
    replace H : (if t469 = true then ((basculeref22_May.f kj3 a0_0 a0_1 a0_2 a0_3 a0_4 a0_5 a0_6 a0_7 l2).bind fun t470 => (basculelaw22_ValueApart.j1 kj3 l1 l2 t464 t465 t466 t467 (!t470) a0_0 a0_1 a0_2 a0_3 a0_4 a0_5 a0_6 a0_7)) else (basculelaw22_ValueApart.j1 kj3 l1 l2 t464 t465 t466 t467 true a0_0 a0_1 a0_2 a0_3 a0_4 a0_5 a0_6 a0_7)) = some r := H
    have A19 := Aside0.mk A190
    clear A190
    by_cases c20 : t469 = true
    rotate_left
    ·
     replace c20 := Bool.eq_false_iff.mpr c20
     subst c20
     have H1 : (basculelaw22_ValueApart.j1 kj3 l1 l2 t464 t465 t466 t467 true a0_0 a0_1 a0_2 a0_3 a0_4 a0_5 a0_6 a0_7) = some r := by rw [if_neg (show ¬ (false = true) by decide)] at H; exact H
     clear H
     have H := H1
     clear H1
     have H' := Aside0.mk H
     clear H
     have hcz28_0 : w16.cell? ⟨gb461, 0, none⟩ = some (.string a0_0) := (blk_cell BK461.out 0).trans rfl
     have hcz28_1 : w16.cell? ⟨gb461, 1, none⟩ = some (.int .i64 a0_1) := (blk_cell BK461.out 1).trans rfl
     have hcz28_2 : w16.cell? ⟨gb461, 2, none⟩ = some (.int .i64 a0_2) := (blk_cell BK461.out 2).trans rfl
     have hcz28_3 : w16.cell? ⟨gb461, 3, none⟩ = some (.int .i64 a0_3) := (blk_cell BK461.out 3).trans rfl
     have hcz28_4 : w16.cell? ⟨gb461, 4, none⟩ = some (.int .i64 a0_4) := (blk_cell BK461.out 4).trans rfl
     have hcz28_5 : w16.cell? ⟨gb461, 5, none⟩ = some (.int .i64 a0_5) := (blk_cell BK461.out 5).trans rfl
     have hcz28_6 : w16.cell? ⟨gb461, 6, none⟩ = some (.int .i64 a0_6) := (blk_cell BK461.out 6).trans rfl
     have hcz28_7 : w16.cell? ⟨gb461, 7, none⟩ = some (.bool a0_7) := (blk_cell BK461.out 7).trans rfl
     have hfz28_0 := blk_frozen BK461.out 0
     have hfz28_1 := blk_frozen BK461.out 1
     have hfz28_2 := blk_frozen BK461.out 2
     have hfz28_3 := blk_frozen BK461.out 3
     have hfz28_4 := blk_frozen BK461.out 4
     have hfz28_5 := blk_frozen BK461.out 5
     have hfz28_6 := blk_frozen BK461.out 6
     have hfz28_7 := blk_frozen BK461.out 7
     go_wp2_with (first | ((with_reducible refine gate_callee (f := 14) rfl ?_); refine goesL_ (some 36) rfl rfl Tryz.func14 (by kernel_rfl) rfl #[.agg #[.string a0_0, .int .i64 a0_1, .int .i64 a0_2, .int .i64 a0_3, .int .i64 a0_4, .int .i64 a0_5, .int .i64 a0_6, .bool a0_7]] rfl zQx29a2_ ?_; (with_reducible refine (basculeref22_Row.calls kj3 a0_0 a0_1 a0_2 a0_3 a0_4 a0_5 a0_6 a0_7 true _ A17.out).mono ?_); rintro e w29 ⟨rfl, hb⟩; refine ⟨_, rfl, ?_⟩; have n0_ := Aside0.mk (blk_below (g := gb461) (o := .cells #[.string a0_0, .int .i64 a0_1, .int .i64 a0_2, .int .i64 a0_3, .int .i64 a0_4, .int .i64 a0_5, .int .i64 a0_6, .bool a0_7] 23 (0, 0)) zQx29a1_ hb); have n1_ := Aside0.mk (below_step zQx29a0_ hb); clear BK461; clear HB; have BK461 := n0_; have HB := n1_; clear n0_ n1_; (try clear hb); (try clear hb2); (try clear hk); (try clear hi); have hcz30_0 : w29.cell? ⟨gb461, 0, none⟩ = some (.string a0_0) := (blk_cell BK461.out 0).trans rfl; have hcz30_1 : w29.cell? ⟨gb461, 1, none⟩ = some (.int .i64 a0_1) := (blk_cell BK461.out 1).trans rfl; have hcz30_2 : w29.cell? ⟨gb461, 2, none⟩ = some (.int .i64 a0_2) := (blk_cell BK461.out 2).trans rfl; have hcz30_3 : w29.cell? ⟨gb461, 3, none⟩ = some (.int .i64 a0_3) := (blk_cell BK461.out 3).trans rfl; have hcz30_4 : w29.cell? ⟨gb461, 4, none⟩ = some (.int .i64 a0_4) := (blk_cell BK461.out 4).trans rfl; have hcz30_5 : w29.cell? ⟨gb461, 5, none⟩ = some (.int .i64 a0_5) := (blk_cell BK461.out 5).trans rfl; have hcz30_6 : w29.cell? ⟨gb461, 6, none⟩ = some (.int .i64 a0_6) := (blk_cell BK461.out 6).trans rfl; have hcz30_7 : w29.cell? ⟨gb461, 7, none⟩ = some (.bool a0_7) := (blk_cell BK461.out 7).trans rfl; have hfz30_0 := blk_frozen BK461.out 0; have hfz30_1 := blk_frozen BK461.out 1; have hfz30_2 := blk_frozen BK461.out 2; have hfz30_3 := blk_frozen BK461.out 3; have hfz30_4 := blk_frozen BK461.out 4; have hfz30_5 := blk_frozen BK461.out 5; have hfz30_6 := blk_frozen BK461.out 6; have hfz30_7 := blk_frozen BK461.out 7) | (go_at_call 15; (with_reducible refine (basculeref22_May.calls kj3 a0_0 a0_1 a0_2 a0_3 a0_4 a0_5 a0_6 a0_7 _ _ l1 false _ ?side1 ?side2 A19.out).mono ?_); (case side1 => repeat (first | exact (Kd.C_below HR1.out HB.out) | (with_reducible first | refine Kd.C_alloc ?_ _ | refine Kd.C_drewN ?_ _ | refine Kd.C_drew ?_))); (case side2 => exact HC1.out); rintro e w31 ⟨rfl, hb⟩; have n0_ := Aside0.mk (blk_below (g := gb461) (o := .cells #[.string a0_0, .int .i64 a0_1, .int .i64 a0_2, .int .i64 a0_3, .int .i64 a0_4, .int .i64 a0_5, .int .i64 a0_6, .bool a0_7] 23 (0, 0)) zQx29a1_ hb); have n1_ := Aside0.mk (below_step zQx29a0_ hb); clear BK461; clear HB; have BK461 := n0_; have HB := n1_; clear n0_ n1_; (try clear hb); (try clear hb2); (try clear hk); (try clear hi)))
     go_meet
     case rel => exact ⟨_, (true), zQx29a5_, H', ⟨zQx29a6_⟩, ⟨zQx29a1_⟩, ⟨zQx29a0_⟩⟩
    subst c20
    have H1 : ((basculeref22_May.f kj3 a0_0 a0_1 a0_2 a0_3 a0_4 a0_5 a0_6 a0_7 l2).bind fun t470 => (basculelaw22_ValueApart.j1 kj3 l1 l2 t464 t465 t466 t467 (!t470) a0_0 a0_1 a0_2 a0_3 a0_4 a0_5 a0_6 a0_7)) = some r := by rw [if_pos rfl] at H; exact H
    clear H
    have H := H1
    clear H1
    replace H := Option.bind_eq_some_iff.mp H
    obtain ⟨t470, A210, H⟩ := H
    replace H : (basculelaw22_ValueApart.j1 kj3 l1 l2 t464 t465 t466 t467 (!t470) a0_0 a0_1 a0_2 a0_3 a0_4 a0_5 a0_6 a0_7) = some r := H
    have A21 := Aside0.mk A210
    clear A210
    have H' := Aside0.mk H
    clear H
    have hcz22_0 : w16.cell? ⟨gb461, 0, none⟩ = some (.string a0_0) := (blk_cell BK461.out 0).trans rfl
    have hcz22_1 : w16.cell? ⟨gb461, 1, none⟩ = some (.int .i64 a0_1) := (blk_cell BK461.out 1).trans rfl
    have hcz22_2 : w16.cell? ⟨gb461, 2, none⟩ = some (.int .i64 a0_2) := (blk_cell BK461.out 2).trans rfl
    have hcz22_3 : w16.cell? ⟨gb461, 3, none⟩ = some (.int .i64 a0_3) := (blk_cell BK461.out 3).trans rfl
    have hcz22_4 : w16.cell? ⟨gb461, 4, none⟩ = some (.int .i64 a0_4) := (blk_cell BK461.out 4).trans rfl
    have hcz22_5 : w16.cell? ⟨gb461, 5, none⟩ = some (.int .i64 a0_5) := (blk_cell BK461.out 5).trans rfl
    have hcz22_6 : w16.cell? ⟨gb461, 6, none⟩ = some (.int .i64 a0_6) := (blk_cell BK461.out 6).trans rfl
    have hcz22_7 : w16.cell? ⟨gb461, 7, none⟩ = some (.bool a0_7) := (blk_cell BK461.out 7).trans rfl
    have hfz22_0 := blk_frozen BK461.out 0
    have hfz22_1 := blk_frozen BK461.out 1
    have hfz22_2 := blk_frozen BK461.out 2
    have hfz22_3 := blk_frozen BK461.out 3
    have hfz22_4 := blk_frozen BK461.out 4
    have hfz22_5 := blk_frozen BK461.out 5
    have hfz22_6 := blk_frozen BK461.out 6
    have hfz22_7 := blk_frozen BK461.out 7
    go_wp2_with (first | ((with_reducible refine gate_callee (f := 14) rfl ?_); refine goesL_ (some 36) rfl rfl Tryz.func14 (by kernel_rfl) rfl #[.agg #[.string a0_0, .int .i64 a0_1, .int .i64 a0_2, .int .i64 a0_3, .int .i64 a0_4, .int .i64 a0_5, .int .i64 a0_6, .bool a0_7]] rfl zQx29a2_ ?_; (with_reducible refine (basculeref22_Row.calls kj3 a0_0 a0_1 a0_2 a0_3 a0_4 a0_5 a0_6 a0_7 true _ A17.out).mono ?_); rintro e w23 ⟨rfl, hb⟩; refine ⟨_, rfl, ?_⟩; have n0_ := Aside0.mk (blk_below (g := gb461) (o := .cells #[.string a0_0, .int .i64 a0_1, .int .i64 a0_2, .int .i64 a0_3, .int .i64 a0_4, .int .i64 a0_5, .int .i64 a0_6, .bool a0_7] 23 (0, 0)) zQx29a1_ hb); have n1_ := Aside0.mk (below_step zQx29a0_ hb); clear BK461; clear HB; have BK461 := n0_; have HB := n1_; clear n0_ n1_; (try clear hb); (try clear hb2); (try clear hk); (try clear hi); have hcz24_0 : w23.cell? ⟨gb461, 0, none⟩ = some (.string a0_0) := (blk_cell BK461.out 0).trans rfl; have hcz24_1 : w23.cell? ⟨gb461, 1, none⟩ = some (.int .i64 a0_1) := (blk_cell BK461.out 1).trans rfl; have hcz24_2 : w23.cell? ⟨gb461, 2, none⟩ = some (.int .i64 a0_2) := (blk_cell BK461.out 2).trans rfl; have hcz24_3 : w23.cell? ⟨gb461, 3, none⟩ = some (.int .i64 a0_3) := (blk_cell BK461.out 3).trans rfl; have hcz24_4 : w23.cell? ⟨gb461, 4, none⟩ = some (.int .i64 a0_4) := (blk_cell BK461.out 4).trans rfl; have hcz24_5 : w23.cell? ⟨gb461, 5, none⟩ = some (.int .i64 a0_5) := (blk_cell BK461.out 5).trans rfl; have hcz24_6 : w23.cell? ⟨gb461, 6, none⟩ = some (.int .i64 a0_6) := (blk_cell BK461.out 6).trans rfl; have hcz24_7 : w23.cell? ⟨gb461, 7, none⟩ = some (.bool a0_7) := (blk_cell BK461.out 7).trans rfl; have hfz24_0 := blk_frozen BK461.out 0; have hfz24_1 := blk_frozen BK461.out 1; have hfz24_2 := blk_frozen BK461.out 2; have hfz24_3 := blk_frozen BK461.out 3; have hfz24_4 := blk_frozen BK461.out 4; have hfz24_5 := blk_frozen BK461.out 5; have hfz24_6 := blk_frozen BK461.out 6; have hfz24_7 := blk_frozen BK461.out 7) | (go_at_call 15; (with_reducible refine (basculeref22_May.calls kj3 a0_0 a0_1 a0_2 a0_3 a0_4 a0_5 a0_6 a0_7 _ _ l1 true _ ?side1 ?side2 A19.out).mono ?_); (case side1 => repeat (first | exact (Kd.C_below HR1.out HB.out) | (with_reducible first | refine Kd.C_alloc ?_ _ | refine Kd.C_drewN ?_ _ | refine Kd.C_drew ?_))); (case side2 => exact HC1.out); rintro e w25 ⟨rfl, hb⟩; have n0_ := Aside0.mk (blk_below (g := gb461) (o := .cells #[.string a0_0, .int .i64 a0_1, .int .i64 a0_2, .int .i64 a0_3, .int .i64 a0_4, .int .i64 a0_5, .int .i64 a0_6, .bool a0_7] 23 (0, 0)) zQx29a1_ hb); have n1_ := Aside0.mk (below_step zQx29a0_ hb); clear BK461; clear HB; have BK461 := n0_; have HB := n1_; clear n0_ n1_; (try clear hb); (try clear hb2); (try clear hk); (try clear hi); have hcz26_0 : w25.cell? ⟨gb461, 0, none⟩ = some (.string a0_0) := (blk_cell BK461.out 0).trans rfl; have hcz26_1 : w25.cell? ⟨gb461, 1, none⟩ = some (.int .i64 a0_1) := (blk_cell BK461.out 1).trans rfl; have hcz26_2 : w25.cell? ⟨gb461, 2, none⟩ = some (.int .i64 a0_2) := (blk_cell BK461.out 2).trans rfl; have hcz26_3 : w25.cell? ⟨gb461, 3, none⟩ = some (.int .i64 a0_3) := (blk_cell BK461.out 3).trans rfl; have hcz26_4 : w25.cell? ⟨gb461, 4, none⟩ = some (.int .i64 a0_4) := (blk_cell BK461.out 4).trans rfl; have hcz26_5 : w25.cell? ⟨gb461, 5, none⟩ = some (.int .i64 a0_5) := (blk_cell BK461.out 5).trans rfl; have hcz26_6 : w25.cell? ⟨gb461, 6, none⟩ = some (.int .i64 a0_6) := (blk_cell BK461.out 6).trans rfl; have hcz26_7 : w25.cell? ⟨gb461, 7, none⟩ = some (.bool a0_7) := (blk_cell BK461.out 7).trans rfl; have hfz26_0 := blk_frozen BK461.out 0; have hfz26_1 := blk_frozen BK461.out 1; have hfz26_2 := blk_frozen BK461.out 2; have hfz26_3 := blk_frozen BK461.out 3; have hfz26_4 := blk_frozen BK461.out 4; have hfz26_5 := blk_frozen BK461.out 5; have hfz26_6 := blk_frozen BK461.out 6; have hfz26_7 := blk_frozen BK461.out 7) | (go_at_call 15; (with_reducible refine (basculeref22_May.calls kj3 a0_0 a0_1 a0_2 a0_3 a0_4 a0_5 a0_6 a0_7 _ _ l2 t470 _ ?side1 ?side2 A21.out).mono ?_); (case side1 => repeat (first | exact (Kd.C_below HR2.out HB.out) | (with_reducible first | refine Kd.C_alloc ?_ _ | refine Kd.C_drewN ?_ _ | refine Kd.C_drew ?_))); (case side2 => exact HC2.out); rintro e w27 ⟨rfl, hb⟩; have n0_ := Aside0.mk (blk_below (g := gb461) (o := .cells #[.string a0_0, .int .i64 a0_1, .int .i64 a0_2, .int .i64 a0_3, .int .i64 a0_4, .int .i64 a0_5, .int .i64 a0_6, .bool a0_7] 23 (0, 0)) zQx29a1_ hb); have n1_ := Aside0.mk (below_step zQx29a0_ hb); clear BK461; clear HB; have BK461 := n0_; have HB := n1_; clear n0_ n1_; (try clear hb); (try clear hb2); (try clear hk); (try clear hi)))
    go_meet
    case rel => exact ⟨_, (!t470), zQx29a5_, H', ⟨zQx29a6_⟩, ⟨zQx29a1_⟩, ⟨zQx29a0_⟩⟩
   case rest =>
    clear HC12
    try clear c1
    try clear c2
    try clear p2
    try clear c7
    try clear c9
    try clear c11
    try clear c14
    try clear c18
    try clear c20
    try clear hcz13_0
    try clear hcz13_1
    try clear hcz13_2
    try clear hcz13_3
    try clear hcz13_4
    try clear hcz13_5
    try clear hcz13_6
    try clear hcz13_7
    try clear hcz15_0
    try clear hcz15_1
    try clear hcz15_2
    try clear hcz15_3
    try clear hcz15_4
    try clear hcz15_5
    try clear hcz15_6
    try clear hcz15_7
    try clear hcz22_0
    try clear hcz22_1
    try clear hcz22_2
    try clear hcz22_3
    try clear hcz22_4
    try clear hcz22_5
    try clear hcz22_6
    try clear hcz22_7
    try clear hcz24_0
    try clear hcz24_1
    try clear hcz24_2
    try clear hcz24_3
    try clear hcz24_4
    try clear hcz24_5
    try clear hcz24_6
    try clear hcz24_7
    try clear hcz26_0
    try clear hcz26_1
    try clear hcz26_2
    try clear hcz26_3
    try clear hcz26_4
    try clear hcz26_5
    try clear hcz26_6
    try clear hcz26_7
    try clear hcz28_0
    try clear hcz28_1
    try clear hcz28_2
    try clear hcz28_3
    try clear hcz28_4
    try clear hcz28_5
    try clear hcz28_6
    try clear hcz28_7
    try clear hcz30_0
    try clear hcz30_1
    try clear hcz30_2
    try clear hcz30_3
    try clear hcz30_4
    try clear hcz30_5
    try clear hcz30_6
    try clear hcz30_7
    try clear hcz32_0
    try clear hcz32_1
    try clear hcz32_2
    try clear hcz32_3
    try clear hcz32_4
    try clear hcz32_5
    try clear hcz32_6
    try clear hcz32_7
    try clear hfz13_0
    try clear hfz13_1
    try clear hfz13_2
    try clear hfz13_3
    try clear hfz13_4
    try clear hfz13_5
    try clear hfz13_6
    try clear hfz13_7
    try clear hfz15_0
    try clear hfz15_1
    try clear hfz15_2
    try clear hfz15_3
    try clear hfz15_4
    try clear hfz15_5
    try clear hfz15_6
    try clear hfz15_7
    try clear hfz22_0
    try clear hfz22_1
    try clear hfz22_2
    try clear hfz22_3
    try clear hfz22_4
    try clear hfz22_5
    try clear hfz22_6
    try clear hfz22_7
    try clear hfz24_0
    try clear hfz24_1
    try clear hfz24_2
    try clear hfz24_3
    try clear hfz24_4
    try clear hfz24_5
    try clear hfz24_6
    try clear hfz24_7
    try clear hfz26_0
    try clear hfz26_1
    try clear hfz26_2
    try clear hfz26_3
    try clear hfz26_4
    try clear hfz26_5
    try clear hfz26_6
    try clear hfz26_7
    try clear hfz28_0
    try clear hfz28_1
    try clear hfz28_2
    try clear hfz28_3
    try clear hfz28_4
    try clear hfz28_5
    try clear hfz28_6
    try clear hfz28_7
    try clear hfz30_0
    try clear hfz30_1
    try clear hfz30_2
    try clear hfz30_3
    try clear hfz30_4
    try clear hfz30_5
    try clear hfz30_6
    try clear hfz30_7
    try clear hfz32_0
    try clear hfz32_1
    try clear hfz32_2
    try clear hfz32_3
    try clear hfz32_4
    try clear hfz32_5
    try clear hfz32_6
    try clear hfz32_7
    try clear p2
    obtain ⟨kq, x49_11, rfl, HA, HJ11, BK461, HB⟩ := hcut
    cases kq with
    | zero => exact absurd HA.out (by simp [basculelaw22_ValueApart.j1])
    | succ kj11 =>
     have H := HA.out
     clear HA
     simp only [basculelaw22_ValueApart.j1] at H
     by_cases c34 : x49_11 = true
     ·
      subst c34
      have H1 : ((basculelaw22_awake.f kj11).bind fun t471 => (if t471 = true then (if t465 = 1 then (if t467 = t465 then (if t464 = true then (some false) else (some (!t466))) else (some false)) else (some false)) else (some false))) = some r := by rw [if_pos rfl] at H; exact H
      clear H
      have H := H1
      clear H1
      replace H := Option.bind_eq_some_iff.mp H
      obtain ⟨t471, A350, H⟩ := H
      replace H : (if t471 = true then (if t465 = 1 then (if t467 = t465 then (if t464 = true then (some false) else (some (!t466))) else (some false)) else (some false)) else (some false)) = some r := H
      have A35 := Aside0.mk A350
      clear A350
      by_cases c36 : t471 = true
      rotate_left
      ·
       replace c36 := Bool.eq_false_iff.mpr c36
       subst c36
       have H1 : (some false) = some r := by rw [if_neg (show ¬ (false = true) by decide)] at H; exact H
       clear H
       have H := H1
       clear H1
       exact absurd ((Option.some.inj H).trans hr_.out) (by decide)
      subst c36
      have H1 : (if t465 = 1 then (if t467 = t465 then (if t464 = true then (some false) else (some (!t466))) else (some false)) else (some false)) = some r := by rw [if_pos rfl] at H; exact H
      clear H
      have H := H1
      clear H1
      by_cases c37 : t465 = 1
      rotate_left
      ·
       rw [if_neg c37] at H
       have c37b0 : (t465 == 1) = false := beq_eq_false_iff_ne.mpr c37
       have c37b1 : (t465 != 1) = true := bne_iff_ne.mpr c37
       exact absurd ((Option.some.inj H).trans hr_.out) (by decide)
      rw [if_pos c37] at H
      have c37b0 : (t465 == 1) = true := beq_iff_eq.mpr c37
      have c37b1 : (t465 != 1) = false := bne_eq_false_iff_eq.mpr c37
      clear c37
      by_cases c38 : t467 = t465
      rotate_left
      ·
       rw [if_neg c38] at H
       have c38b0 : (t467 == t465) = false := beq_eq_false_iff_ne.mpr c38
       have c38b1 : (t467 != t465) = true := bne_iff_ne.mpr c38
       exact absurd ((Option.some.inj H).trans hr_.out) (by decide)
      rw [if_pos c38] at H
      have c38b0 : (t467 == t465) = true := beq_iff_eq.mpr c38
      have c38b1 : (t467 != t465) = false := bne_eq_false_iff_eq.mpr c38
      clear c38
      by_cases c39 : t464 = true
      ·
       subst c39
       have H1 : (some false) = some r := by rw [if_pos rfl] at H; exact H
       clear H
       have H := H1
       clear H1
       exact absurd ((Option.some.inj H).trans hr_.out) (by decide)
      replace c39 := Bool.eq_false_iff.mpr c39
      subst c39
      have H1 : (some (!t466)) = some r := by rw [if_neg (show ¬ (false = true) by decide)] at H; exact H
      clear H
      have H := H1
      clear H1
      obtain rfl := Option.some.inj H
      go_wp2_with (first | ((with_reducible refine gate_callee (f := 16) rfl ?_); refine goesL_ (some 50) rfl rfl Tryz.func16 (by kernel_rfl) rfl #[] rfl zQx29a2_ ?_; (with_reducible refine (basculelaw22_awake.calls kj11  true _ (Val.Laid.below hLd_ zQx29a0_) A35.out).mono ?_); rintro e w41 ⟨rfl, hb⟩; refine ⟨_, rfl, ?_⟩; have n0_ := Aside0.mk (blk_below (g := gb461) (o := .cells #[.string a0_0, .int .i64 a0_1, .int .i64 a0_2, .int .i64 a0_3, .int .i64 a0_4, .int .i64 a0_5, .int .i64 a0_6, .bool a0_7] 23 (0, 0)) zQx29a1_ hb); have n1_ := Aside0.mk (below_step zQx29a0_ hb); clear BK461; clear HB; have BK461 := n0_; have HB := n1_; clear n0_ n1_; (try clear hb); (try clear hb2); (try clear hk); (try clear hi)))
      go_ret
      exact ⟨zQx29a4_, zQx29a0_⟩
     replace c34 := Bool.eq_false_iff.mpr c34
     subst c34
     have H1 : ((value_Apart.f a0_0 a0_1 a0_2 a0_3 a0_4 a0_5 a0_6 a0_7 l1 l1).bind fun bt472 => ((basculelaw22_awake.f kj11).bind fun t474 => (if t474 = true then (if t465 = 0 then (if t467 = t465 then (if bt472.2 = t465 then (if (t464 == t466) = true then (if bt472.1 = true then (some false) else ((basculeref22_Apart.f kj11 a0_0 a0_1 a0_2 a0_3 a0_4 a0_5 a0_6 a0_7 l1 l2).bind fun t475 => (some (t464 == t475)))) else (some false)) else (some false)) else (some false)) else (some false)) else (some false)))) = some r := by rw [if_neg (show ¬ (false = true) by decide)] at H; exact H
     clear H
     have H := H1
     clear H1
     replace H := Option.bind_eq_some_iff.mp H
     obtain ⟨⟨t472, t473⟩, A450, H⟩ := H
     replace H : ((basculelaw22_awake.f kj11).bind fun t474 => (if t474 = true then (if t465 = 0 then (if t467 = t465 then (if t473 = t465 then (if (t464 == t466) = true then (if t472 = true then (some false) else ((basculeref22_Apart.f kj11 a0_0 a0_1 a0_2 a0_3 a0_4 a0_5 a0_6 a0_7 l1 l2).bind fun t475 => (some (t464 == t475)))) else (some false)) else (some false)) else (some false)) else (some false)) else (some false))) = some r := H
     have A45 := Aside0.mk A450
     clear A450
     replace H := Option.bind_eq_some_iff.mp H
     obtain ⟨t474, A460, H⟩ := H
     replace H : (if t474 = true then (if t465 = 0 then (if t467 = t465 then (if t473 = t465 then (if (t464 == t466) = true then (if t472 = true then (some false) else ((basculeref22_Apart.f kj11 a0_0 a0_1 a0_2 a0_3 a0_4 a0_5 a0_6 a0_7 l1 l2).bind fun t475 => (some (t464 == t475)))) else (some false)) else (some false)) else (some false)) else (some false)) else (some false)) = some r := H
     have A46 := Aside0.mk A460
     clear A460
     by_cases c47 : t474 = true
     rotate_left
     ·
      replace c47 := Bool.eq_false_iff.mpr c47
      subst c47
      have H1 : (some false) = some r := by rw [if_neg (show ¬ (false = true) by decide)] at H; exact H
      clear H
      have H := H1
      clear H1
      exact absurd ((Option.some.inj H).trans hr_.out) (by decide)
     subst c47
     have H1 : (if t465 = 0 then (if t467 = t465 then (if t473 = t465 then (if (t464 == t466) = true then (if t472 = true then (some false) else ((basculeref22_Apart.f kj11 a0_0 a0_1 a0_2 a0_3 a0_4 a0_5 a0_6 a0_7 l1 l2).bind fun t475 => (some (t464 == t475)))) else (some false)) else (some false)) else (some false)) else (some false)) = some r := by rw [if_pos rfl] at H; exact H
     clear H
     have H := H1
     clear H1
     by_cases c48 : t465 = 0
     rotate_left
     ·
      rw [if_neg c48] at H
      have c48b0 : (t465 == 0) = false := beq_eq_false_iff_ne.mpr c48
      have c48b1 : (t465 != 0) = true := bne_iff_ne.mpr c48
      exact absurd ((Option.some.inj H).trans hr_.out) (by decide)
     rw [if_pos c48] at H
     have c48b0 : (t465 == 0) = true := beq_iff_eq.mpr c48
     have c48b1 : (t465 != 0) = false := bne_eq_false_iff_eq.mpr c48
     clear c48
     by_cases c49 : t467 = t465
     rotate_left
     ·
      rw [if_neg c49] at H
      have c49b0 : (t467 == t465) = false := beq_eq_false_iff_ne.mpr c49
      have c49b1 : (t467 != t465) = true := bne_iff_ne.mpr c49
      exact absurd ((Option.some.inj H).trans hr_.out) (by decide)
     rw [if_pos c49] at H
     have c49b0 : (t467 == t465) = true := beq_iff_eq.mpr c49
     have c49b1 : (t467 != t465) = false := bne_eq_false_iff_eq.mpr c49
     clear c49
     by_cases c50 : t473 = t465
     rotate_left
     ·
      rw [if_neg c50] at H
      have c50b0 : (t473 == t465) = false := beq_eq_false_iff_ne.mpr c50
      have c50b1 : (t473 != t465) = true := bne_iff_ne.mpr c50
      exact absurd ((Option.some.inj H).trans hr_.out) (by decide)
     rw [if_pos c50] at H
     have c50b0 : (t473 == t465) = true := beq_iff_eq.mpr c50
     have c50b1 : (t473 != t465) = false := bne_eq_false_iff_eq.mpr c50
     clear c50
     by_cases c51 : (t464 == t466) = true
     rotate_left
     ·
      rw [if_neg c51] at H
      have c51b0 : (t464 == t466) = false := by simpa using c51
      (try (have c51b1 : decide (t464 = t466) = false := by simpa using c51))
      (try (have c51b2 : (t464 == t466) = false := by simpa using c51))
      (try (have c51b3 : ¬ (t464 = t466) := by simpa using c51))
      clear c51
      exact absurd ((Option.some.inj H).trans hr_.out) (by decide)
     rw [if_pos c51] at H
     have c51b0 : (t464 == t466) = true := c51
     (try (have c51b1 : decide (t464 = t466) = true := by simpa using c51))
     (try (have c51b2 : (t464 == t466) = true := by simpa using c51))
     clear c51
     by_cases c52 : t472 = true
     ·
      subst c52
      have H1 : (some false) = some r := by rw [if_pos rfl] at H; exact H
      clear H
      have H := H1
      clear H1
      exact absurd ((Option.some.inj H).trans hr_.out) (by decide)
     replace c52 := Bool.eq_false_iff.mpr c52
     subst c52
     have H1 : ((basculeref22_Apart.f kj11 a0_0 a0_1 a0_2 a0_3 a0_4 a0_5 a0_6 a0_7 l1 l2).bind fun t475 => (some (t464 == t475))) = some r := by rw [if_neg (show ¬ (false = true) by decide)] at H; exact H
     clear H
     have H := H1
     clear H1
     replace H := Option.bind_eq_some_iff.mp H
     obtain ⟨t475, A560, H⟩ := H
     replace H : (some (t464 == t475)) = some r := H
     have A56 := Aside0.mk A560
     clear A560
     obtain rfl := Option.some.inj H
     have hcz57_0 : wc.cell? ⟨gb461, 0, none⟩ = some (.string a0_0) := (blk_cell BK461.out 0).trans rfl
     have hcz57_1 : wc.cell? ⟨gb461, 1, none⟩ = some (.int .i64 a0_1) := (blk_cell BK461.out 1).trans rfl
     have hcz57_2 : wc.cell? ⟨gb461, 2, none⟩ = some (.int .i64 a0_2) := (blk_cell BK461.out 2).trans rfl
     have hcz57_3 : wc.cell? ⟨gb461, 3, none⟩ = some (.int .i64 a0_3) := (blk_cell BK461.out 3).trans rfl
     have hcz57_4 : wc.cell? ⟨gb461, 4, none⟩ = some (.int .i64 a0_4) := (blk_cell BK461.out 4).trans rfl
     have hcz57_5 : wc.cell? ⟨gb461, 5, none⟩ = some (.int .i64 a0_5) := (blk_cell BK461.out 5).trans rfl
     have hcz57_6 : wc.cell? ⟨gb461, 6, none⟩ = some (.int .i64 a0_6) := (blk_cell BK461.out 6).trans rfl
     have hcz57_7 : wc.cell? ⟨gb461, 7, none⟩ = some (.bool a0_7) := (blk_cell BK461.out 7).trans rfl
     have hfz57_0 := blk_frozen BK461.out 0
     have hfz57_1 := blk_frozen BK461.out 1
     have hfz57_2 := blk_frozen BK461.out 2
     have hfz57_3 := blk_frozen BK461.out 3
     have hfz57_4 := blk_frozen BK461.out 4
     have hfz57_5 := blk_frozen BK461.out 5
     have hfz57_6 := blk_frozen BK461.out 6
     have hfz57_7 := blk_frozen BK461.out 7
     go_wp2_with (first | ((with_reducible refine gate_callee (f := 20) rfl ?_); refine goesL_ (some 72) rfl rfl Tryz.func20 (by kernel_rfl) rfl #[.agg #[.string a0_0, .int .i64 a0_1, .int .i64 a0_2, .int .i64 a0_3, .int .i64 a0_4, .int .i64 a0_5, .int .i64 a0_6, .bool a0_7], .slice A1 l1.length c1, .slice A1 l1.length c1] rfl zQx29a2_ ?_; (with_reducible refine (value_Apart.calls a0_0 a0_1 a0_2 a0_3 a0_4 a0_5 a0_6 a0_7 _ _ l1 _ _ l1 false t473 _ ?side1 ?side2 ?side3 ?side4 (Val.Laid.below hLd_ zQx29a0_) A45.out).mono ?_); (case side1 => repeat (first | exact (Kd.C_below HR1.out HB.out) | (with_reducible first | refine Kd.C_alloc ?_ _ | refine Kd.C_drewN ?_ _ | refine Kd.C_drew ?_))); (case side2 => exact HC1.out); (case side3 => repeat (first | exact (Kd.C_below HR1.out HB.out) | (with_reducible first | refine Kd.C_alloc ?_ _ | refine Kd.C_drewN ?_ _ | refine Kd.C_drew ?_))); (case side4 => exact HC1.out); rintro e w58 ⟨rfl, hb⟩; refine ⟨_, rfl, ?_⟩; have n0_ := Aside0.mk (blk_below (g := gb461) (o := .cells #[.string a0_0, .int .i64 a0_1, .int .i64 a0_2, .int .i64 a0_3, .int .i64 a0_4, .int .i64 a0_5, .int .i64 a0_6, .bool a0_7] 23 (0, 0)) zQx29a1_ hb); have n1_ := Aside0.mk (below_step zQx29a0_ hb); clear BK461; clear HB; have BK461 := n0_; have HB := n1_; clear n0_ n1_; (try clear hb); (try clear hb2); (try clear hk); (try clear hi)) | ((with_reducible refine gate_callee (f := 16) rfl ?_); refine goesL_ (some 75) rfl rfl Tryz.func16 (by kernel_rfl) rfl #[] rfl zQx29a2_ ?_; (with_reducible refine (basculelaw22_awake.calls kj11  true _ (Val.Laid.below hLd_ zQx29a0_) A46.out).mono ?_); rintro e w59 ⟨rfl, hb⟩; refine ⟨_, rfl, ?_⟩; have n0_ := Aside0.mk (blk_below (g := gb461) (o := .cells #[.string a0_0, .int .i64 a0_1, .int .i64 a0_2, .int .i64 a0_3, .int .i64 a0_4, .int .i64 a0_5, .int .i64 a0_6, .bool a0_7] 23 (0, 0)) zQx29a1_ hb); have n1_ := Aside0.mk (below_step zQx29a0_ hb); clear BK461; clear HB; have BK461 := n0_; have HB := n1_; clear n0_ n1_; (try clear hb); (try clear hb2); (try clear hk); (try clear hi); have hcz60_0 : w59.cell? ⟨gb461, 0, none⟩ = some (.string a0_0) := (blk_cell BK461.out 0).trans rfl; have hcz60_1 : w59.cell? ⟨gb461, 1, none⟩ = some (.int .i64 a0_1) := (blk_cell BK461.out 1).trans rfl; have hcz60_2 : w59.cell? ⟨gb461, 2, none⟩ = some (.int .i64 a0_2) := (blk_cell BK461.out 2).trans rfl; have hcz60_3 : w59.cell? ⟨gb461, 3, none⟩ = some (.int .i64 a0_3) := (blk_cell BK461.out 3).trans rfl; have hcz60_4 : w59.cell? ⟨gb461, 4, none⟩ = some (.int .i64 a0_4) := (blk_cell BK461.out 4).trans rfl; have hcz60_5 : w59.cell? ⟨gb461, 5, none⟩ = some (.int .i64 a0_5) := (blk_cell BK461.out 5).trans rfl; have hcz60_6 : w59.cell? ⟨gb461, 6, none⟩ = some (.int .i64 a0_6) := (blk_cell BK461.out 6).trans rfl; have hcz60_7 : w59.cell? ⟨gb461, 7, none⟩ = some (.bool a0_7) := (blk_cell BK461.out 7).trans rfl; have hfz60_0 := blk_frozen BK461.out 0; have hfz60_1 := blk_frozen BK461.out 1; have hfz60_2 := blk_frozen BK461.out 2; have hfz60_3 := blk_frozen BK461.out 3; have hfz60_4 := blk_frozen BK461.out 4; have hfz60_5 := blk_frozen BK461.out 5; have hfz60_6 := blk_frozen BK461.out 6; have hfz60_7 := blk_frozen BK461.out 7) | (go_at_call 21; (with_reducible refine (basculeref22_Apart.calls kj11 a0_0 a0_1 a0_2 a0_3 a0_4 a0_5 a0_6 a0_7 _ _ l1 _ _ l2 t475 _ ?side1 ?side2 ?side3 ?side4 A56.out).mono ?_); (case side1 => repeat (first | exact (Kd.C_below HR1.out HB.out) | (with_reducible first | refine Kd.C_alloc ?_ _ | refine Kd.C_drewN ?_ _ | refine Kd.C_drew ?_))); (case side2 => exact HC1.out); (case side3 => repeat (first | exact (Kd.C_below HR2.out HB.out) | (with_reducible first | refine Kd.C_alloc ?_ _ | refine Kd.C_drewN ?_ _ | refine Kd.C_drew ?_))); (case side4 => exact HC2.out); rintro e w61 ⟨rfl, hb⟩; have n0_ := Aside0.mk (blk_below (g := gb461) (o := .cells #[.string a0_0, .int .i64 a0_1, .int .i64 a0_2, .int .i64 a0_3, .int .i64 a0_4, .int .i64 a0_5, .int .i64 a0_6, .bool a0_7] 23 (0, 0)) zQx29a1_ hb); have n1_ := Aside0.mk (below_step zQx29a0_ hb); clear BK461; clear HB; have BK461 := n0_; have HB := n1_; clear n0_ n1_; (try clear hb); (try clear hb2); (try clear hk); (try clear hi)))
     go_ret
     exact ⟨zQx29a4_, zQx29a0_⟩
end Go.Proofs.YtmkekhjbbapngaaGreatDoor.Q
namespace Go.Proofs.YtmkekhjbbapngaaGreatDoor.Q
open Go.RowKit YtmkekhjbbapngaaGreatDoorW.PrintWords YtmkekhjbbapngaaGreatDoorW.PrintLast YtmkekhjbbapngaaGreatDoorW.PrintMore
set_option linter.unusedVariables false
def basculelaw22_ValueApart.Pure : Prop := ∀ (a0_0 : ByteArray) (a0_1 a0_2 a0_3 a0_4 a0_5 a0_6 : Int) (a0_7 : Bool) (l1 : List Int) (l2 : List Int), (Lit.int .i64 a0_1).wf = true → (Lit.int .i64 a0_2).wf = true → (Lit.int .i64 a0_3).wf = true → (Lit.int .i64 a0_4).wf = true → (Lit.int .i64 a0_5).wf = true → (Lit.int .i64 a0_6).wf = true → l1.length ≤ maxLen → l1.length * 8 ≤ 140737488351232 → (∀ x ∈ l1, (Lit.int .i64 x).wf = true) → l2.length ≤ maxLen → l2.length * 8 ≤ 140737488351232 → (∀ x ∈ l2, (Lit.int .i64 x).wf = true) → ∃ k, basculelaw22_ValueApart.f k a0_0 a0_1 a0_2 a0_3 a0_4 a0_5 a0_6 a0_7 l1 l2 = some true
theorem basculelaw22_ValueApart.walk (P : basculelaw22_ValueApart.Pure) (a0_0 : ByteArray) (a0_1 a0_2 a0_3 a0_4 a0_5 a0_6 : Int) (a0_7 : Bool) (a1 : Option Addr) (len1 cap1 : Nat) (z1 : List Int) (a2 : Option Addr) (len2 cap2 : Nat) (z2 : List Int) (w : World) (hLd_ : Go.Proofs.YtmkekhjbbapngaaGreatDoor.Val.Laid w) (w0_1 : (Lit.int .i64 a0_1).wf = true) (w0_2 : (Lit.int .i64 a0_2).wf = true) (w0_3 : (Lit.int .i64 a0_3).wf = true) (w0_4 : (Lit.int .i64 a0_4).wf = true) (w0_5 : (Lit.int .i64 a0_5).wf = true) (w0_6 : (Lit.int .i64 a0_6).wf = true) (w1 : (a1 = none ∧ len1 = 0 ∧ cap1 = 0 ∧ z1 = []) ∨ ∃ x, a1 = some x ∧ len1 ≤ cap1 ∧ cap1 ≤ maxLen ∧ z1.length = cap1 ∧ (∀ i, i < z1.length → w.cell? (x.add i) = some (.int .i64 (z1.getD i 0))) ∧ ∀ n ∈ z1, (Lit.int .i64 n).wf = true) (y1 : len1 * 8 ≤ 140737488351232) (w2 : (a2 = none ∧ len2 = 0 ∧ cap2 = 0 ∧ z2 = []) ∨ ∃ x, a2 = some x ∧ len2 ≤ cap2 ∧ cap2 ≤ maxLen ∧ z2.length = cap2 ∧ (∀ i, i < z2.length → w.cell? (x.add i) = some (.int .i64 (z2.getD i 0))) ∧ ∀ n ∈ z2, (Lit.int .i64 n).wf = true) (y2 : len2 * 8 ≤ 140737488351232) :
    Calls Tryz.prog 7 #[.agg #[.string a0_0, .int .i64 a0_1, .int .i64 a0_2, .int .i64 a0_3, .int .i64 a0_4, .int .i64 a0_5, .int .i64 a0_6, .bool a0_7], .slice a1 len1 cap1, .slice a2 len2 cap2] w fun e w' => e = .returned (.bool true) ∧ Below w.heap.size w w' := by
  obtain ⟨l1, rfl, hr1, hm1, hw1, hc1⟩ := ReadsInt.ofRowC w1
  obtain ⟨l2, rfl, hr2, hm2, hw2, hc2⟩ := ReadsInt.ofRowC w2
  obtain ⟨k, h⟩ := P a0_0 a0_1 a0_2 a0_3 a0_4 a0_5 a0_6 a0_7 l1 l2 w0_1 w0_2 w0_3 w0_4 w0_5 w0_6 hm1 y1 hw1 hm2 y2 hw2
  refine (basculelaw22_ValueApart.calls k a0_0 a0_1 a0_2 a0_3 a0_4 a0_5 a0_6 a0_7 _ _ l1 _ _ l2 true w (Kd.C_of_reads (d := (0 : Int)) (h1 := fun _ => rfl) hr1) hc1 (Kd.C_of_reads (d := (0 : Int)) (h1 := fun _ => rfl) hr2) hc2 hLd_ (Aside0.mk rfl) h).mono ?_
  rintro e w' ⟨rfl, hd⟩
  exact ⟨rfl, hd⟩
end Go.Proofs.YtmkekhjbbapngaaGreatDoor.Q
