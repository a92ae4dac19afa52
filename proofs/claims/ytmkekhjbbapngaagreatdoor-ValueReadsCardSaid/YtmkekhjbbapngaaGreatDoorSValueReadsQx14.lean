/- Qx14 -/
import Derived.Test.YtmkekhjbbapngaaGreatDoorSValueReadsQx3
import Derived.Test.YtmkekhjbbapngaaGreatDoorSValueReadsQx7
namespace Go.Proofs.YtmkekhjbbapngaaGreatDoor.Q
open Go.RowKit YtmkekhjbbapngaaGreatDoorW.PrintWords YtmkekhjbbapngaaGreatDoorW.PrintLast YtmkekhjbbapngaaGreatDoorW.PrintMore
attribute [local go_sem] max2_int min2_int max_two min_two
set_option linter.all false
theorem zQx14a0_ {P_ : Prop} (h_ : P_ := by repeat (first | (with_reducible first | exact HB.out | apply below_alloc | apply pw_below_drewN | apply below_drew1 | refine below_set ?_ GE204.out | refine below_set ?_ GE205.out) | exact HB.out)) : P_ := h_
theorem zQx14a1_ {P_ : Prop} (h_ : P_ := by (with_reducible repeat (first | refine blk_drewN ?_ _ | refine blk_drew ?_ | refine blk_alloc ?_ _)); exact BK204.out) : P_ := h_
theorem zQx14a2_ {P_ : Prop} (h_ : P_ := by (with_reducible repeat (first | refine blk_drewN ?_ _ | refine blk_drew ?_ | refine blk_alloc ?_ _)); exact BK205.out) : P_ := h_
theorem zQx14a3_ {P_ : Prop} (h_ : P_ := by first | rfl | (simp [errW_none, errW_some] <;> rfl) | (simp only [← hji4, ← hji6]; first | rfl | (simp [errW_none, errW_some] <;> rfl)) | (simp [*, errW_none, errW_some] <;> rfl)) : P_ := h_
theorem zQx14a4_ {P_ : Prop} (h_ : P_ := by (try simp only [List.map_toArray, List.map_cons, List.map_nil]); first | done | rfl | (simp only [List.length_drop, List.length_take]; rfl)) : P_ := h_
theorem zQx14a5_ {P_ : Prop} (h_ : P_ := by repeat (first | (with_reducible first | exact HB.out | apply below_alloc | apply pw_below_drewN | apply below_drew1 | refine below_set ?_ GE204.out) | exact HB.out)) : P_ := h_
theorem zQx14a6_ {P_ : Prop} (h_ : P_ := by repeat (first | (with_reducible first | exact HB.out | apply below_alloc | apply pw_below_drewN | apply below_drew1) | exact HB.out)) : P_ := h_
theorem zQx14a7_ {P_ : Prop} (h_ : P_ := by (with_reducible repeat (first | apply Kd.R_alloc | apply Kd.R_drewN | apply Kd.R_drew)); exact HO_11.out) : P_ := h_
theorem zQx14a8_ {P_ : Prop} (h_ : P_ := by first | rfl | (simp; done) | (simp only [← hji6] <;> (first | rfl | simp)) | (simp [*]; done)) : P_ := h_
theorem zQx14a9_ {P_ : Prop} (h_ : P_ := by first | rfl | (simp; done) | (simp [*]; done)) : P_ := h_
theorem zQx14a10_ {P_ : Prop} (h_ : P_ := by first | exact Kd.R_nil _ _ _ _ _ | exact Kd.N_nil _ _ _ _ _ | exact Kd.V_nil _ _ _ _ _ | exact Kd.Q_nil _ _ _ _ _ | exact Kd.S_nil _ _ _ _ _) : P_ := h_
theorem zQx14a11_ {P_ : Prop} (h_ : P_ := by first | (with_reducible assumption) | assumption) : P_ := h_
theorem znQx14_ {X_ : Prop} [Decidable X_] (h_ : ¬ X_ → False := by intro c_; rw [if_neg c_] at H; exact absurd H (by simp)) : X_ := Decidable.byContradiction h_
mutual
def value_words.j0 : Nat → Int → Int → ByteArray → Int → Int → Int → Int → Int → Int → Bool → Bool → Int → Option (List Int × Bool)
 | 0, _, _, _, _, _, _, _, _, _, _, _, _ => none
 | k + 1, x6, x9, x205000, x205001, x205002, x205003, x205004, x205005, x205006, x205007, x206000, x206001 => if x206001 > x9 then (some (([] : List Int), false)) else (if x206000 = true then (value_words.j1 k x6 (IntKind.u64.wrap (-x206001)) x205000 x205001 x205002 x205003 x205004 x205005 x205006 x205007) else (value_words.j1 k x6 x206001 x205000 x205001 x205002 x205003 x205004 x205005 x205006 x205007))
def value_words.j1 : Nat → Int → Int → ByteArray → Int → Int → Int → Int → Int → Int → Bool → Option (List Int × Bool)
 | 0, _, _, _, _, _, _, _, _, _, _ => none
 | k + 1, x6, x10, x205000, x205001, x205002, x205003, x205004, x205005, x205006, x205007 => if 0 ≤ x6 then (if (x6 : Int).toNat ≤ 35184372088832 then (value_words.l0 k x10 (List.replicate (x6 : Int).toNat 0) (wrap64 (x6 - 1)) x205000 x205001 x205002 x205003 x205004 x205005 x205006 x205007) else (none)) else (none)
def value_words.l0 : Nat → Int → List Int → Int → ByteArray → Int → Int → Int → Int → Int → Int → Bool → Option (List Int × Bool)
 | 0, _, _, _, _, _, _, _, _, _, _, _ => none
 | k + 1, x10, x11, x12, x205000, x205001, x205002, x205003, x205004, x205005, x205006, x205007 => if x12 ≥ 0 then (if 0 ≤ x12 then (if x12 < (x11.length : Int) then (value_words.l0 k (x10 / 65536) (x11.set (x12 : Int).toNat (wrap64 (Go.bits .and .u64 x10 65535))) (wrap64 (x12 - 1)) x205000 x205001 x205002 x205003 x205004 x205005 x205006 x205007) else (none)) else (none)) else ((value_turned.f x205004).bind fun t213 => (if t213 = true then ((slices_Reverse_int_int.f k x11).bind fun t214 => (some (t214, true))) else (some (x11, true))))
end
def value_words.f (k : Nat) (a0_0 : ByteArray) (a0_1 : Int) (a0_2 : Int) (a0_3 : Int) (a0_4 : Int) (a0_5 : Int) (a0_6 : Int) (a0_7 : Bool) (a1_0 : Bool) (a1_1 : Int) : Option (List Int × Bool) := (table_Words.f k a0_4).bind fun bt206 => (if 0 ≤ (wrap64 (64 - (wrap64 (16 * bt206.1)))) then ((value_sign.f a0_4).bind fun t208 => (if t208 = true then (if a1_0 = true then (value_words.j0 k bt206.1 (((shr .u64 18446744073709551615 (wrap64 (64 - (wrap64 (16 * bt206.1))))) / 2) + 1) a0_0 a0_1 a0_2 a0_3 a0_4 a0_5 a0_6 a0_7 a1_0 a1_1) else (value_words.j0 k bt206.1 ((shr .u64 18446744073709551615 (wrap64 (64 - (wrap64 (16 * bt206.1))))) / 2) a0_0 a0_1 a0_2 a0_3 a0_4 a0_5 a0_6 a0_7 a1_0 a1_1)) else (if a1_0 = true then (some (([] : List Int), false)) else (value_words.j0 k bt206.1 (shr .u64 18446744073709551615 (wrap64 (64 - (wrap64 (16 * bt206.1))))) a0_0 a0_1 a0_2 a0_3 a0_4 a0_5 a0_6 a0_7 a1_0 a1_1)))) else (none))
theorem value_words.mono_l : ∀ k, (∀ y0 y1 y2 y3 y4 y5 y6 y7 y8 y9 y10 y11, LeO (value_words.j0 k y0 y1 y2 y3 y4 y5 y6 y7 y8 y9 y10 y11) (value_words.j0 (k + 1) y0 y1 y2 y3 y4 y5 y6 y7 y8 y9 y10 y11)) ∧ (∀ y0 y1 y2 y3 y4 y5 y6 y7 y8 y9, LeO (value_words.j1 k y0 y1 y2 y3 y4 y5 y6 y7 y8 y9) (value_words.j1 (k + 1) y0 y1 y2 y3 y4 y5 y6 y7 y8 y9)) ∧ (∀ y0 y1 y2 y3 y4 y5 y6 y7 y8 y9 y10, LeO (value_words.l0 k y0 y1 y2 y3 y4 y5 y6 y7 y8 y9 y10) (value_words.l0 (k + 1) y0 y1 y2 y3 y4 y5 y6 y7 y8 y9 y10))
 | 0 => ⟨fun _ _ _ _ _ _ _ _ _ _ _ _ r h => by simp [value_words.j0] at h, fun _ _ _ _ _ _ _ _ _ _ r h => by simp [value_words.j1] at h, fun _ _ _ _ _ _ _ _ _ _ _ r h => by simp [value_words.l0] at h⟩
 | k + 1 => by
  obtain ⟨ih0, ih1, ih2⟩ := value_words.mono_l k
  refine ⟨?_, ?_, ?_⟩
  ·
   intro y0 y1 y2 y3 y4 y5 y6 y7 y8 y9 y10 y11
   unfold value_words.j0
   repeat' first
   | (with_reducible first | exact ih0 _ _ _ _ _ _ _ _ _ _ _ _ | exact ih1 _ _ _ _ _ _ _ _ _ _ | exact ih2 _ _ _ _ _ _ _ _ _ _ _ | exact slices_Reverse_int_int.mono _ _ | exact table_Words.mono _ _ | exact LeO.refl _ | exact LeO.none _ | refine LeO.ite ?_ ?_ | refine LeO.bind ?_ (fun _ => ?_))
  ·
   intro y0 y1 y2 y3 y4 y5 y6 y7 y8 y9
   unfold value_words.j1
   repeat' first
   | (with_reducible first | exact ih0 _ _ _ _ _ _ _ _ _ _ _ _ | exact ih1 _ _ _ _ _ _ _ _ _ _ | exact ih2 _ _ _ _ _ _ _ _ _ _ _ | exact slices_Reverse_int_int.mono _ _ | exact table_Words.mono _ _ | exact LeO.refl _ | exact LeO.none _ | refine LeO.ite ?_ ?_ | refine LeO.bind ?_ (fun _ => ?_))
  ·
   intro y0 y1 y2 y3 y4 y5 y6 y7 y8 y9 y10
   unfold value_words.l0
   repeat' first
   | (with_reducible first | exact ih0 _ _ _ _ _ _ _ _ _ _ _ _ | exact ih1 _ _ _ _ _ _ _ _ _ _ | exact ih2 _ _ _ _ _ _ _ _ _ _ _ | exact slices_Reverse_int_int.mono _ _ | exact table_Words.mono _ _ | exact LeO.refl _ | exact LeO.none _ | refine LeO.ite ?_ ?_ | refine LeO.bind ?_ (fun _ => ?_))
theorem value_words.mono : ∀ a0 a1 a2 a3 a4 a5 a6 a7 a8 a9 k, LeO (value_words.f k a0 a1 a2 a3 a4 a5 a6 a7 a8 a9) (value_words.f (k + 1) a0 a1 a2 a3 a4 a5 a6 a7 a8 a9) := by
 intro a0 a1 a2 a3 a4 a5 a6 a7 a8 a9 k
 obtain ⟨ih0, ih1, ih2⟩ := value_words.mono_l k
 unfold value_words.f
 repeat' first
   | (with_reducible first | exact ih0 _ _ _ _ _ _ _ _ _ _ _ _ | exact ih1 _ _ _ _ _ _ _ _ _ _ | exact ih2 _ _ _ _ _ _ _ _ _ _ _ | exact slices_Reverse_int_int.mono _ _ | exact table_Words.mono _ _ | exact LeO.refl _ | exact LeO.none _ | refine LeO.ite ?_ ?_ | refine LeO.bind ?_ (fun _ => ?_))
set_option maxHeartbeats 8000000 in
set_option maxRecDepth 100000 in
theorem value_words.calls (k : Nat) (a0_0 : ByteArray) (a0_1 : Int) (a0_2 : Int) (a0_3 : Int) (a0_4 : Int) (a0_5 : Int) (a0_6 : Int) (a0_7 : Bool) (a1_0 : Bool) (a1_1 : Int) (r1 : List Int) (r2 : Bool) (w : World) (h : value_words.f k a0_0 a0_1 a0_2 a0_3 a0_4 a0_5 a0_6 a0_7 a1_0 a1_1 = some (r1, r2)) :
  Calls Tryz.prog 39 #[.agg #[.string a0_0, .int .i64 a0_1, .int .i64 a0_2, .int .i64 a0_3, .int .i64 a0_4, .int .i64 a0_5, .int .i64 a0_6, .bool a0_7], .agg #[.bool a1_0, .int .u64 a1_1]] w fun e w' => ∃ v0_ : Value, e = .returned (.tuple #[v0_, .bool r2]) ∧ Kd.R (Kd.int .i64) 3 w' w.heap.size (fun _ => True) v0_ r1 ∧ Below w.heap.size w w' := by
 have hu23 := Tryz.underlying23
 have hu54 := Tryz.underlying54
 have HB := Aside0.mk (Below.refl w.heap.size w)
 have H : ((table_Words.f k a0_4).bind fun bt206 => (if 0 ≤ (wrap64 (64 - (wrap64 (16 * bt206.1)))) then ((value_sign.f a0_4).bind fun t208 => (if t208 = true then (if a1_0 = true then (value_words.j0 k bt206.1 (((shr .u64 18446744073709551615 (wrap64 (64 - (wrap64 (16 * bt206.1))))) / 2) + 1) a0_0 a0_1 a0_2 a0_3 a0_4 a0_5 a0_6 a0_7 a1_0 a1_1) else (value_words.j0 k bt206.1 ((shr .u64 18446744073709551615 (wrap64 (64 - (wrap64 (16 * bt206.1))))) / 2) a0_0 a0_1 a0_2 a0_3 a0_4 a0_5 a0_6 a0_7 a1_0 a1_1)) else (if a1_0 = true then (some (([] : List Int), false)) else (value_words.j0 k bt206.1 (shr .u64 18446744073709551615 (wrap64 (64 - (wrap64 (16 * bt206.1))))) a0_0 a0_1 a0_2 a0_3 a0_4 a0_5 a0_6 a0_7 a1_0 a1_1)))) else (none))) = some (r1, r2) := h
 clear h
 replace H := Option.bind_eq_some_iff.mp H
 obtain ⟨⟨t206, t207⟩, A30, H⟩ := H
 replace H : (if 0 ≤ (wrap64 (64 - (wrap64 (16 * t206)))) then ((value_sign.f a0_4).bind fun t208 => (if t208 = true then (if a1_0 = true then (value_words.j0 k t206 (((shr .u64 18446744073709551615 (wrap64 (64 - (wrap64 (16 * t206))))) / 2) + 1) a0_0 a0_1 a0_2 a0_3 a0_4 a0_5 a0_6 a0_7 a1_0 a1_1) else (value_words.j0 k t206 ((shr .u64 18446744073709551615 (wrap64 (64 - (wrap64 (16 * t206))))) / 2) a0_0 a0_1 a0_2 a0_3 a0_4 a0_5 a0_6 a0_7 a1_0 a1_1)) else (if a1_0 = true then (some (([] : List Int), false)) else (value_words.j0 k t206 (shr .u64 18446744073709551615 (wrap64 (64 - (wrap64 (16 * t206))))) a0_0 a0_1 a0_2 a0_3 a0_4 a0_5 a0_6 a0_7 a1_0 a1_1)))) else (none)) = some (r1, r2) := H
 have A3 := Aside0.mk A30
 clear A30
 obtain ⟨ji4, hji4⟩ : ∃ j_ : Int, (wrap64 (64 - (wrap64 (16 * t206)))) = j_ := ⟨_, rfl⟩
 replace H : (if 0 ≤ (ji4) then ((value_sign.f a0_4).bind fun t208 => (if t208 = true then (if a1_0 = true then (value_words.j0 k t206 (((shr .u64 18446744073709551615 (ji4)) / 2) + 1) a0_0 a0_1 a0_2 a0_3 a0_4 a0_5 a0_6 a0_7 a1_0 a1_1) else (value_words.j0 k t206 ((shr .u64 18446744073709551615 (ji4)) / 2) a0_0 a0_1 a0_2 a0_3 a0_4 a0_5 a0_6 a0_7 a1_0 a1_1)) else (if a1_0 = true then (some (([] : List Int), false)) else (value_words.j0 k t206 (shr .u64 18446744073709551615 (ji4)) a0_0 a0_1 a0_2 a0_3 a0_4 a0_5 a0_6 a0_7 a1_0 a1_1)))) else (none)) = some (r1, r2) := by first | (rw [hji4] at H; exact H) | (simp only [hji4] at H ⊢; exact H)
 (try rw [hji4] at A3)
 have hji4w : (IntKind.i64.wrap (64 - (wrap64 (16 * t206)))) = ji4 := (i64_w _).trans hji4
 have c5 : 0 ≤ (ji4) := znQx14_
 rw [if_pos c5] at H
 have c5b0 := eq_true c5
 have c5b1 : decide (0 ≤ (ji4)) = true := decide_eq_true c5
 clear c5
 obtain ⟨ji6, hji6⟩ : ∃ j_ : Int, (shr .u64 18446744073709551615 (ji4)) = j_ := ⟨_, rfl⟩
 replace H : ((value_sign.f a0_4).bind fun t208 => (if t208 = true then (if a1_0 = true then (value_words.j0 k t206 (((ji6) / 2) + 1) a0_0 a0_1 a0_2 a0_3 a0_4 a0_5 a0_6 a0_7 a1_0 a1_1) else (value_words.j0 k t206 ((ji6) / 2) a0_0 a0_1 a0_2 a0_3 a0_4 a0_5 a0_6 a0_7 a1_0 a1_1)) else (if a1_0 = true then (some (([] : List Int), false)) else (value_words.j0 k t206 ji6 a0_0 a0_1 a0_2 a0_3 a0_4 a0_5 a0_6 a0_7 a1_0 a1_1)))) = some (r1, r2) := by first | (rw [hji6] at H; exact H) | (simp only [hji6] at H ⊢; exact H)
 (try rw [hji6] at A3)
 have hji6_ : (18446744073709551615 / 2 ^ min (ji4).toNat 64) = ji6 := hji6
 have hji6z : (ji4) ≤ 64 → (18446744073709551615 / 2 ^ (ji4).toNat) = ji6 := shr_small hji6
 have hji6w9 : IntKind.u64.wrap (ji6 / 2 + 1) = ji6 / 2 + 1 := by have h1_ : 0 ≤ ji6 := (by rw [← hji6_]; exact Int.ediv_nonneg (by decide) (Int.le_of_lt (Int.pow_pos (by decide)))); have h2_ : ji6 ≤ 18446744073709551615 := (by rw [← hji6_]; exact Int.ediv_le_self _ (by decide)); rw [IntKind.wrap_u64]; omega
 replace H := Option.bind_eq_some_iff.mp H
 obtain ⟨t208, A70, H⟩ := H
 replace H : (if t208 = true then (if a1_0 = true then (value_words.j0 k t206 (((ji6) / 2) + 1) a0_0 a0_1 a0_2 a0_3 a0_4 a0_5 a0_6 a0_7 a1_0 a1_1) else (value_words.j0 k t206 ((ji6) / 2) a0_0 a0_1 a0_2 a0_3 a0_4 a0_5 a0_6 a0_7 a1_0 a1_1)) else (if a1_0 = true then (some (([] : List Int), false)) else (value_words.j0 k t206 ji6 a0_0 a0_1 a0_2 a0_3 a0_4 a0_5 a0_6 a0_7 a1_0 a1_1))) = some (r1, r2) := H
 have A7 := Aside0.mk A70
 clear A70
 have HC8 := Aside0.mk H
 clear H
 go_enter Tryz.func39, Tryz.ntmps39
 go_upto_if 26 with (first | ((with_reducible refine gate_dst (N := 2) rfl ?_); refine box_event ?hg (N := 2) ?hd (cs := #[.string a0_0, .int .i64 a0_1, .int .i64 a0_2, .int .i64 a0_3, .int .i64 a0_4, .int .i64 a0_5, .int .i64 a0_6, .bool a0_7]) (t := 23) ?hr ?_; (case hd => rfl); (case hg => rfl); (case hr => first | (go_simp; done) | (go_simp; rfl)); intro gb204 hg w9 hbox hb; have n0_ := Aside0.mk (below_step zQx14a6_ hb); have n1_ := Aside0.mk (hbox); have n2_ := Aside0.mk ((by rw [hg]; exact (below_size zQx14a6_) : w.heap.size ≤ gb204)); have n3_ := Aside0.mk ((by rw [hg]; exact (below_size zQx14a6_) : w.heap.size ≤ gb204)); clear HB; have HB := n0_; have BK204 := n1_; have GW204 := n2_; have GE204 := n3_; clear n0_ n1_ n2_ n3_; clear hb hbox hg) | ((with_reducible refine gate_dst (N := 3) rfl ?_); refine box_event ?hg (N := 3) ?hd (cs := #[.bool a1_0, .int .u64 a1_1]) (t := 54) ?hr ?_; (case hd => rfl); (case hg => rfl); (case hr => first | (go_simp; done) | (go_simp; rfl)); intro gb205 hg w10 hbox hb; have n0_ := Aside0.mk (blk_below (g := gb204) (o := .cells #[.string a0_0, .int .i64 a0_1, .int .i64 a0_2, .int .i64 a0_3, .int .i64 a0_4, .int .i64 a0_5, .int .i64 a0_6, .bool a0_7] 23 (0, 0)) zQx14a1_ hb); have n1_ := Aside0.mk (below_step zQx14a5_ hb); have n2_ := Aside0.mk (hbox); have n3_ := Aside0.mk ((by rw [hg]; exact (below_size zQx14a5_) : w.heap.size ≤ gb205)); have n4_ := Aside0.mk ((by rw [hg]; exact (below_size zQx14a5_) : w.heap.size ≤ gb205)); have n5_ := Aside0.mk ((by rw [hg]; exact Nat.ne_of_lt (blk_lt (g := gb204) (o := .cells #[.string a0_0, .int .i64 a0_1, .int .i64 a0_2, .int .i64 a0_3, .int .i64 a0_4, .int .i64 a0_5, .int .i64 a0_6, .bool a0_7] 23 (0, 0)) zQx14a1_) : gb204 ≠ gb205)); have n6_ := Aside0.mk ((by rw [hg]; exact Nat.ne_of_gt (blk_lt (g := gb204) (o := .cells #[.string a0_0, .int .i64 a0_1, .int .i64 a0_2, .int .i64 a0_3, .int .i64 a0_4, .int .i64 a0_5, .int .i64 a0_6, .bool a0_7] 23 (0, 0)) zQx14a1_) : gb205 ≠ gb204)); clear BK204; clear HB; have BK204 := n0_; have HB := n1_; have BK205 := n2_; have GW205 := n3_; have GE205 := n4_; have NB204_205 := n5_; have NB205_204 := n6_; clear n0_ n1_ n2_ n3_ n4_ n5_ n6_; clear hb hbox hg; have hnb11 := NB204_205.out; have hnc11 := NB205_204.out; have hcz12_0 : w10.cell? ⟨gb204, 0, none⟩ = some (.string a0_0) := (blk_cell BK204.out 0).trans rfl; have hcz12_1 : w10.cell? ⟨gb204, 1, none⟩ = some (.int .i64 a0_1) := (blk_cell BK204.out 1).trans rfl; have hcz12_2 : w10.cell? ⟨gb204, 2, none⟩ = some (.int .i64 a0_2) := (blk_cell BK204.out 2).trans rfl; have hcz12_3 : w10.cell? ⟨gb204, 3, none⟩ = some (.int .i64 a0_3) := (blk_cell BK204.out 3).trans rfl; have hcz12_4 : w10.cell? ⟨gb204, 4, none⟩ = some (.int .i64 a0_4) := (blk_cell BK204.out 4).trans rfl; have hcz12_5 : w10.cell? ⟨gb204, 5, none⟩ = some (.int .i64 a0_5) := (blk_cell BK204.out 5).trans rfl; have hcz12_6 : w10.cell? ⟨gb204, 6, none⟩ = some (.int .i64 a0_6) := (blk_cell BK204.out 6).trans rfl; have hcz12_7 : w10.cell? ⟨gb204, 7, none⟩ = some (.bool a0_7) := (blk_cell BK204.out 7).trans rfl; have hfz12_0 := blk_frozen BK204.out 0; have hfz12_1 := blk_frozen BK204.out 1; have hfz12_2 := blk_frozen BK204.out 2; have hfz12_3 := blk_frozen BK204.out 3; have hfz12_4 := blk_frozen BK204.out 4; have hfz12_5 := blk_frozen BK204.out 5; have hfz12_6 := blk_frozen BK204.out 6; have hfz12_7 := blk_frozen BK204.out 7) | ((with_reducible refine gate_callee (f := 46) rfl ?_); refine goesL_ (some 16) rfl rfl Tryz.func46 (by kernel_rfl) rfl #[.int .i64 a0_4] rfl zQx14a4_ ?_; (with_reducible refine (table_Words.calls k a0_4 t206 t207 _ A3.out).mono ?_); rintro e w' ⟨rfl, ⟨nd, rfl⟩⟩; refine ⟨_, rfl, ?_⟩) | ((with_reducible refine gate_callee (f := 60) rfl ?_); refine goesL_ (some 26) rfl rfl Tryz.func60 (by kernel_rfl) rfl #[.int .i64 a0_4] rfl zQx14a4_ ?_; (with_reducible refine (value_sign.calls a0_4 t208 _ A7.out).mono ?_); rintro e w' ⟨rfl, ⟨nd, rfl⟩⟩; refine ⟨_, rfl, ?_⟩))
 (try simp only [Act.put, sA_, sB_, sC_])
 go_cut [9] (fun v9 wc => ∃ (kq : Nat) (x9_7 : Int), v9 = .int .u64 x9_7 ∧ Aside0 (value_words.j0 kq t206 x9_7 a0_0 a0_1 a0_2 a0_3 a0_4 a0_5 a0_6 a0_7 a1_0 a1_1 = some (r1, r2)) ∧ Aside0 (kq ≤ k) ∧ Aside0 (wc.heap[gb204]? = some (.cells #[.string a0_0, .int .i64 a0_1, .int .i64 a0_2, .int .i64 a0_3, .int .i64 a0_4, .int .i64 a0_5, .int .i64 a0_6, .bool a0_7] 23 (0, 0))) ∧ Aside0 (wc.heap[gb205]? = some (.cells #[.bool a1_0, .int .u64 a1_1] 54 (0, 0))) ∧ Aside0 (Below w.heap.size w wc))
 case first =>
  have H := HC8.out
  clear HC8
  by_cases c13 : t208 = true
  rotate_left
  ·
   replace c13 := Bool.eq_false_iff.mpr c13
   subst c13
   have H1 : (if a1_0 = true then (some (([] : List Int), false)) else (value_words.j0 k t206 ji6 a0_0 a0_1 a0_2 a0_3 a0_4 a0_5 a0_6 a0_7 a1_0 a1_1)) = some (r1, r2) := by rw [if_neg (show ¬ (false = true) by decide)] at H; exact H
   clear H
   have H := H1
   clear H1
   by_cases c19 : a1_0 = true
   ·
    subst c19
    have H1 : (some (([] : List Int), false)) = some (r1, r2) := by rw [if_pos rfl] at H; exact H
    clear H
    have H := H1
    clear H1
    simp only [Option.some.injEq, Prod.mk.injEq] at H
    obtain ⟨rfl, rfl⟩ := H
    have hnb20 := NB205_204.out
    have hnc20 := NB204_205.out
    have hcz21_0 : w10.cell? ⟨gb205, 0, none⟩ = some (.bool true) := (blk_cell BK205.out 0).trans rfl
    have hcz21_1 : w10.cell? ⟨gb205, 1, none⟩ = some (.int .u64 a1_1) := (blk_cell BK205.out 1).trans rfl
    have hfz21_0 := blk_frozen BK205.out 0
    have hfz21_1 := blk_frozen BK205.out 1
    go_wp2
    go_ret2
    exact ⟨_, zQx14a3_, zQx14a10_, zQx14a0_⟩
   replace c19 := Bool.eq_false_iff.mpr c19
   subst c19
   have H1 : (value_words.j0 k t206 ji6 a0_0 a0_1 a0_2 a0_3 a0_4 a0_5 a0_6 a0_7 false a1_1) = some (r1, r2) := by rw [if_neg (show ¬ (false = true) by decide)] at H; exact H
   clear H
   have H := H1
   clear H1
   have H' := Aside0.mk H
   clear H
   have hnb22 := NB205_204.out
   have hnc22 := NB204_205.out
   have hcz23_0 : w10.cell? ⟨gb205, 0, none⟩ = some (.bool false) := (blk_cell BK205.out 0).trans rfl
   have hcz23_1 : w10.cell? ⟨gb205, 1, none⟩ = some (.int .u64 a1_1) := (blk_cell BK205.out 1).trans rfl
   have hfz23_0 := blk_frozen BK205.out 0
   have hfz23_1 := blk_frozen BK205.out 1
   go_wp2
   go_meet
   case rel => exact ⟨_, (ji6), zQx14a8_, H', ⟨by first | omega | exact Nat.le_refl _⟩, ⟨zQx14a1_⟩, ⟨zQx14a2_⟩, ⟨zQx14a0_⟩⟩
  subst c13
  have H1 : (if a1_0 = true then (value_words.j0 k t206 (((ji6) / 2) + 1) a0_0 a0_1 a0_2 a0_3 a0_4 a0_5 a0_6 a0_7 a1_0 a1_1) else (value_words.j0 k t206 ((ji6) / 2) a0_0 a0_1 a0_2 a0_3 a0_4 a0_5 a0_6 a0_7 a1_0 a1_1)) = some (r1, r2) := by rw [if_pos rfl] at H; exact H
  clear H
  have H := H1
  clear H1
  by_cases c14 : a1_0 = true
  ·
   subst c14
   have H1 : (value_words.j0 k t206 (((ji6) / 2) + 1) a0_0 a0_1 a0_2 a0_3 a0_4 a0_5 a0_6 a0_7 true a1_1) = some (r1, r2) := by rw [if_pos rfl] at H; exact H
   clear H
   have H := H1
   clear H1
   have H' := Aside0.mk H
   clear H
   have hnb15 := NB205_204.out
   have hnc15 := NB204_205.out
   have hcz16_0 : w10.cell? ⟨gb205, 0, none⟩ = some (.bool true) := (blk_cell BK205.out 0).trans rfl
   have hcz16_1 : w10.cell? ⟨gb205, 1, none⟩ = some (.int .u64 a1_1) := (blk_cell BK205.out 1).trans rfl
   have hfz16_0 := blk_frozen BK205.out 0
   have hfz16_1 := blk_frozen BK205.out 1
   go_wp2
   go_meet
   case rel => exact ⟨_, (((ji6) / 2) + 1), zQx14a8_, H', ⟨by first | omega | exact Nat.le_refl _⟩, ⟨zQx14a1_⟩, ⟨zQx14a2_⟩, ⟨zQx14a0_⟩⟩
  replace c14 := Bool.eq_false_iff.mpr c14
  subst c14
  have H1 : (value_words.j0 k t206 ((ji6) / 2) a0_0 a0_1 a0_2 a0_3 a0_4 a0_5 a0_6 a0_7 false a1_1) = some (r1, r2) := by rw [if_neg (show ¬ (false = true) by decide)] at H; exact H
  clear H
  have H := H1
  clear H1
  have H' := Aside0.mk H
  clear H
  have hnb17 := NB205_204.out
  have hnc17 := NB204_205.out
  have hcz18_0 : w10.cell? ⟨gb205, 0, none⟩ = some (.bool false) := (blk_cell BK205.out 0).trans rfl
  have hcz18_1 : w10.cell? ⟨gb205, 1, none⟩ = some (.int .u64 a1_1) := (blk_cell BK205.out 1).trans rfl
  have hfz18_0 := blk_frozen BK205.out 0
  have hfz18_1 := blk_frozen BK205.out 1
  go_wp2
  go_meet
  case rel => exact ⟨_, ((ji6) / 2), zQx14a8_, H', ⟨by first | omega | exact Nat.le_refl _⟩, ⟨zQx14a1_⟩, ⟨zQx14a2_⟩, ⟨zQx14a0_⟩⟩
 case rest =>
  clear HC8
  try clear c1
  try clear c2
  try clear p2
  try clear c3
  try clear c4
  try clear c5
  try clear c5b0
  try clear c5b1
  try clear c6
  try clear p6
  try clear c11
  try clear c13
  try clear c14
  try clear c15
  try clear c17
  try clear c19
  try clear c20
  try clear c22
  try clear hcz12_0
  try clear hcz12_1
  try clear hcz12_2
  try clear hcz12_3
  try clear hcz12_4
  try clear hcz12_5
  try clear hcz12_6
  try clear hcz12_7
  try clear hcz16_0
  try clear hcz16_1
  try clear hcz18_0
  try clear hcz18_1
  try clear hcz21_0
  try clear hcz21_1
  try clear hcz23_0
  try clear hcz23_1
  try clear hfz12_0
  try clear hfz12_1
  try clear hfz12_2
  try clear hfz12_3
  try clear hfz12_4
  try clear hfz12_5
  try clear hfz12_6
  try clear hfz12_7
  try clear hfz16_0
  try clear hfz16_1
  try clear hfz18_0
  try clear hfz18_1
  try clear hfz21_0
  try clear hfz21_1
  try clear hfz23_0
  try clear hfz23_1
  obtain ⟨kq, x9_7, rfl, HA, HJ7, BK204, BK205, HB⟩ := hcut
  cases kq with
  | zero => exact absurd HA.out (by simp [value_words.j0])
  | succ kj7 =>
   have H := HA.out
   clear HA
   simp only [value_words.j0] at H
   by_cases c24 : a1_1 > x9_7
   ·
    rw [if_pos c24] at H
    have c24b0 : decide (x9_7 < a1_1) = true := decide_eq_true c24
    clear c24
    simp only [Option.some.injEq, Prod.mk.injEq] at H
    obtain ⟨rfl, rfl⟩ := H
    have hnb25 := NB205_204.out
    have hnc25 := NB204_205.out
    have hcz26_0 : wc.cell? ⟨gb205, 0, none⟩ = some (.bool a1_0) := (blk_cell BK205.out 0).trans rfl
    have hcz26_1 : wc.cell? ⟨gb205, 1, none⟩ = some (.int .u64 a1_1) := (blk_cell BK205.out 1).trans rfl
    have hfz26_0 := blk_frozen BK205.out 0
    have hfz26_1 := blk_frozen BK205.out 1
    go_wp2
    go_ret2
    exact ⟨_, zQx14a3_, zQx14a10_, zQx14a0_⟩
   rw [if_neg c24] at H
   have c24b0 : decide (x9_7 < a1_1) = false := decide_eq_false c24
   clear c24
   have HC27 := Aside0.mk H
   clear H
   have hnb28 := NB205_204.out
   have hnc28 := NB204_205.out
   have hcz29_0 : wc.cell? ⟨gb205, 0, none⟩ = some (.bool a1_0) := (blk_cell BK205.out 0).trans rfl
   have hcz29_1 : wc.cell? ⟨gb205, 1, none⟩ = some (.int .u64 a1_1) := (blk_cell BK205.out 1).trans rfl
   have hfz29_0 := blk_frozen BK205.out 0
   have hfz29_1 := blk_frozen BK205.out 1
   go_upto_if 42 with (fail)
   go_cut [10] (fun v10 wc => ∃ (kq : Nat) (x10_26 : Int), v10 = .int .u64 x10_26 ∧ Aside0 (value_words.j1 kq t206 x10_26 a0_0 a0_1 a0_2 a0_3 a0_4 a0_5 a0_6 a0_7 = some (r1, r2)) ∧ Aside0 (kq ≤ kj7) ∧ Aside0 (wc.heap[gb204]? = some (.cells #[.string a0_0, .int .i64 a0_1, .int .i64 a0_2, .int .i64 a0_3, .int .i64 a0_4, .int .i64 a0_5, .int .i64 a0_6, .bool a0_7] 23 (0, 0))) ∧ Aside0 (wc.heap[gb205]? = some (.cells #[.bool a1_0, .int .u64 a1_1] 54 (0, 0))) ∧ Aside0 (Below w.heap.size w wc))
   case first =>
    have H := HC27.out
    clear HC27
    by_cases c30 : a1_0 = true
    ·
     subst c30
     have H1 : (value_words.j1 kj7 t206 (IntKind.u64.wrap (-a1_1)) a0_0 a0_1 a0_2 a0_3 a0_4 a0_5 a0_6 a0_7) = some (r1, r2) := by rw [if_pos rfl] at H; exact H
     clear H
     have H := H1
     clear H1
     have H' := Aside0.mk H
     clear H
     go_wp2
     go_meet
     case rel => exact ⟨_, (IntKind.u64.wrap (-a1_1)), zQx14a9_, H', ⟨by have := HJ7.out; first | omega | exact Nat.le_refl _⟩, ⟨zQx14a1_⟩, ⟨zQx14a2_⟩, ⟨zQx14a0_⟩⟩
    replace c30 := Bool.eq_false_iff.mpr c30
    subst c30
    have H1 : (value_words.j1 kj7 t206 a1_1 a0_0 a0_1 a0_2 a0_3 a0_4 a0_5 a0_6 a0_7) = some (r1, r2) := by rw [if_neg (show ¬ (false = true) by decide)] at H; exact H
    clear H
    have H := H1
    clear H1
    have H' := Aside0.mk H
    clear H
    go_wp2
    go_meet
    case rel => exact ⟨_, (a1_1), zQx14a9_, H', ⟨by have := HJ7.out; first | omega | exact Nat.le_refl _⟩, ⟨zQx14a1_⟩, ⟨zQx14a2_⟩, ⟨zQx14a0_⟩⟩
   case rest =>
    clear HC27
    try clear c1
    try clear c2
    try clear p2
    try clear c3
    try clear c4
    try clear c5
    try clear c5b0
    try clear c5b1
    try clear c6
    try clear p6
    try clear c11
    try clear c13
    try clear c14
    try clear c15
    try clear c17
    try clear c19
    try clear c20
    try clear c22
    try clear c24
    try clear c24b0
    try clear c25
    try clear c28
    try clear c30
    try clear hcz12_0
    try clear hcz12_1
    try clear hcz12_2
    try clear hcz12_3
    try clear hcz12_4
    try clear hcz12_5
    try clear hcz12_6
    try clear hcz12_7
    try clear hcz16_0
    try clear hcz16_1
    try clear hcz18_0
    try clear hcz18_1
    try clear hcz21_0
    try clear hcz21_1
    try clear hcz23_0
    try clear hcz23_1
    try clear hcz26_0
    try clear hcz26_1
    try clear hcz29_0
    try clear hcz29_1
    try clear hfz12_0
    try clear hfz12_1
    try clear hfz12_2
    try clear hfz12_3
    try clear hfz12_4
    try clear hfz12_5
    try clear hfz12_6
    try clear hfz12_7
    try clear hfz16_0
    try clear hfz16_1
    try clear hfz18_0
    try clear hfz18_1
    try clear hfz21_0
    try clear hfz21_1
    try clear hfz23_0
    try clear hfz23_1
    try clear hfz26_0
    try clear hfz26_1
    try clear hfz29_0
    try clear hfz29_1
    try clear p2
    try clear p6
    obtain ⟨kq, x10_26, rfl, HA, HJ26, BK204, BK205, HB⟩ := hcut
    cases kq with
    | zero => exact absurd HA.out (by simp [value_words.j1])
    | succ kj26 =>
     have H := HA.out
     clear HA
     simp only [value_words.j1] at H
     have c31 : 0 ≤ t206 := znQx14_
     rw [if_pos c31] at H
     have c31b0 := eq_true c31
     have c31b1 : decide (0 ≤ t206) = true := decide_eq_true c31
     clear c31
     have c32 : (t206 : Int).toNat ≤ 35184372088832 := znQx14_
     rw [if_pos c32] at H
     have c32b0 := eq_true c32
     have c32b1 : decide ((t206 : Int).toNat ≤ 35184372088832) = true := decide_eq_true c32
     clear c32
     obtain ⟨y209, hy209⟩ : ∃ y_ : List Int, y_ = (List.replicate (t206 : Int).toNat 0) := ⟨_, rfl⟩
     replace H : (value_words.l0 kj26 x10_26 y209 (wrap64 (t206 - 1)) a0_0 a0_1 a0_2 a0_3 a0_4 a0_5 a0_6 a0_7) = some (r1, r2) := by first | (rw [hy209]; with_reducible exact H) | (have H2_ := (Option.bind_some _ _).symm.trans H; rw [hy209]; with_reducible exact H2_) | (have H2_ := (Option.bind_some _ _).symm.trans H; with_reducible exact H2_) | with_reducible exact H | (rw [hy209]; exact H) | exact H
     have Ny209 := Aside0.mk hy209
     clear hy209
     have H' := Aside0.mk H
     clear H
     go_wp2_with (first | ((with_reducible refine gate_dst (N := 46) rfl ?_); refine Kd.R_make (Kd.int .i64) _ 3 rfl (N := 46) rfl 24 _ _ rfl t206 rfl rfl Tryz.underlying24 (.int .i64 0) 8 info3 rfl (by decide) (by omega) 0 (ok := fun _ => True) (okp := fun _ => True) rfl (fun _ hk => hk) trivial (of_decide_eq_true zQx14a11_) (Nat.le_trans (Nat.mul_le_mul_right _ (of_decide_eq_true zQx14a11_ : t206.toNat ≤ 35184372088832)) (by omega)) (Below.refl _ _) (Nat.le_refl _) ?_; intro v210 w33 ho34 hb hg_ hnew_; clear hg_ hnew_; (first | rw [← Ny209.out] at ho34 | (simp only [Int.reduceToNat] at ho34; rw [← Ny209.out] at ho34)); have n0_ := Aside0.mk (Kd.R_lower ho34 (below_size zQx14a0_)); have n1_ := Aside0.mk (blk_below (g := gb204) (o := .cells #[.string a0_0, .int .i64 a0_1, .int .i64 a0_2, .int .i64 a0_3, .int .i64 a0_4, .int .i64 a0_5, .int .i64 a0_6, .bool a0_7] 23 (0, 0)) zQx14a1_ hb); have n2_ := Aside0.mk (blk_below (g := gb205) (o := .cells #[.bool a1_0, .int .u64 a1_1] 54 (0, 0)) zQx14a2_ hb); have n3_ := Aside0.mk (below_step zQx14a0_ hb); clear BK204; clear BK205; clear HB; have HO211 := n0_; have BK204 := n1_; have BK205 := n2_; have HB := n3_; clear n0_ n1_ n2_ n3_; clear hb ho34))
     go_loopg [10, 12] kj26 (fun kq v10 v12 w' => ∃ (x10_3 : Int) (x11_3 : List Int) (x12_3 : Int), v10 = .int .u64 x10_3 ∧ v12 = .int .i64 x12_3 ∧ Aside0 (value_words.l0 kq x10_3 x11_3 x12_3 a0_0 a0_1 a0_2 a0_3 a0_4 a0_5 a0_6 a0_7 = some (r1, r2)) ∧ Aside0 (kq ≤ kj26) ∧ Aside0 (Kd.R (Kd.int .i64) 3 w' w.heap.size (fun _ => True) v210 x11_3) ∧ Aside0 (w'.heap[gb204]? = some (.cells #[.string a0_0, .int .i64 a0_1, .int .i64 a0_2, .int .i64 a0_3, .int .i64 a0_4, .int .i64 a0_5, .int .i64 a0_6, .bool a0_7] 23 (0, 0))) ∧ Aside0 (w'.heap[gb205]? = some (.cells #[.bool a1_0, .int .u64 a1_1] 54 (0, 0))) ∧ Aside0 (Below w.heap.size w w'))
     case atStart => exact ⟨(x10_26), (y209), (wrap64 (t206 - 1)), zQx14a9_, zQx14a9_, H', ⟨Nat.le_refl _⟩, ⟨by (with_reducible repeat (first | apply Kd.R_alloc | apply Kd.R_drewN | apply Kd.R_drew)); exact HO211.out⟩, ⟨zQx14a1_⟩, ⟨zQx14a2_⟩, ⟨zQx14a0_⟩⟩
     case round =>
      clear H'
      try clear c1
      try clear c2
      try clear p2
      try clear c3
      try clear c4
      try clear c5
      try clear c5b0
      try clear c5b1
      try clear c6
      try clear p6
      try clear c11
      try clear c13
      try clear c14
      try clear c15
      try clear c17
      try clear c19
      try clear c20
      try clear c22
      try clear c24
      try clear c24b0
      try clear c25
      try clear c28
      try clear c30
      try clear c31
      try clear c31b0
      try clear c31b1
      try clear c32
      try clear c32b0
      try clear c32b1
      try clear hcz12_0
      try clear hcz12_1
      try clear hcz12_2
      try clear hcz12_3
      try clear hcz12_4
      try clear hcz12_5
      try clear hcz12_6
      try clear hcz12_7
      try clear hcz16_0
      try clear hcz16_1
      try clear hcz18_0
      try clear hcz18_1
      try clear hcz21_0
      try clear hcz21_1
      try clear hcz23_0
      try clear hcz23_1
      try clear hcz26_0
      try clear hcz26_1
      try clear hcz29_0
      try clear hcz29_1
      try clear hfz12_0
      try clear hfz12_1
      try clear hfz12_2
      try clear hfz12_3
      try clear hfz12_4
      try clear hfz12_5
      try clear hfz12_6
      try clear hfz12_7
      try clear hfz16_0
      try clear hfz16_1
      try clear hfz18_0
      try clear hfz18_1
      try clear hfz21_0
      try clear hfz21_1
      try clear hfz23_0
      try clear hfz23_1
      try clear hfz26_0
      try clear hfz26_1
      try clear hfz29_0
      try clear hfz29_1
      try clear p2
      try clear p6
      obtain ⟨x10_3, x11_3, x12_3, rfl, rfl, HA, HK3, HO_11, BK204, BK205, HB⟩ := hrel
      cases gk with
      | zero => exact absurd HA.out (by simp [value_words.l0])
      | succ k3 =>
       have H := HA.out
       clear HA
       simp only [value_words.l0] at H
       by_cases c35 : x12_3 ≥ 0
       ·
        rw [if_pos c35] at H
        have c35b0 : decide (0 ≤ x12_3) = true := decide_eq_true c35
        clear c35
        have c36 : 0 ≤ x12_3 := znQx14_
        rw [if_pos c36] at H
        have c36b0 : decide (0 ≤ x12_3) = true := decide_eq_true c36
        clear c36
        have c37 : x12_3 < (x11_3.length : Int) := znQx14_
        rw [if_pos c37] at H
        have c37b0 : decide (x12_3 < (x11_3.length : Int)) = true := decide_eq_true c37
        clear c37
        obtain ⟨y212, hy212⟩ : ∃ y_ : List Int, y_ = (x11_3.set (x12_3 : Int).toNat (wrap64 (Go.bits .and .u64 x10_3 65535))) := ⟨_, rfl⟩
        replace H : (value_words.l0 k3 (x10_3 / 65536) y212 (wrap64 (x12_3 - 1)) a0_0 a0_1 a0_2 a0_3 a0_4 a0_5 a0_6 a0_7) = some (r1, r2) := by first | (rw [hy212]; with_reducible exact H) | (have H2_ := (Option.bind_some _ _).symm.trans H; rw [hy212]; with_reducible exact H2_) | (have H2_ := (Option.bind_some _ _).symm.trans H; with_reducible exact H2_) | with_reducible exact H | (rw [hy212]; exact H) | exact H
        have Ny212 := Aside0.mk hy212
        clear hy212
        have H' := Aside0.mk H
        clear H
        have p38 : 0 ≤ (x12_3 : Int) := of_decide_eq_true zQx14a11_
        have q38 : (x12_3 : Int) < ((x11_3.length : Int) : Int) := of_decide_eq_true zQx14a11_
        obtain ⟨go38, co38, eo38, gb38, gl38, cl38, HG38⟩ := Kd.R_form HO_11.out (by omega)
        (first | cases eo38 | (injection eo38 with ea_ en_ ec_; (first | subst ea_ | (injection ea_ with ea_; subst ea_)); subst ec_; clear en_))
        have GB38 := Aside0.mk gb38
        have GG38 := Aside0.mk HG38
        clear gb38 gl38 HG38
        obtain ⟨hx38_0, hf38_0⟩ := Kd.R_celln 0 HO_11.out (x12_3 : Int) p38 q38
        replace p38 := eq_true p38
        replace q38 := eq_true q38
        have HP39 := Kd.R_putg HO_11.out (x12_3 : Int) (wrap64 (Go.bits .and .u64 x10_3 65535))
        go_wp2_with (first | ((with_reducible refine gate_store (t := 3) (p := 60) rfl ?_); refine store_event (t := 3) (p := 60) (v := ?vo_w40) (w1 := (wr.setCell ⟨go38, (x12_3 : Int).toNat, none⟩ (.int .i64 (wrap64 (Go.bits .and .u64 x10_3 65535))))) ?hg ?ho ?hn ?hr ?_; (case ho => rfl); (case hg => rfl); (case hn => rfl); (case hr => first | (go_simp; done) | (go_simp; rfl)); intro w40 hw; have hg : wr.grownBy w40 (some go38) := (by rw [hw]; exact HP39.2); have hp_ : Kd.R (Kd.int .i64) 3 w40 w.heap.size (fun _ => True) (.slice (some ⟨go38, 0, none⟩) x11_3.length co38) y212 := (by rw [hw, Ny212.out]; exact HP39.1); clear HP39; have n0_ := Aside0.mk (hp_); have n1_ := Aside0.mk (blk_grown (g := gb204) (o := .cells #[.string a0_0, .int .i64 a0_1, .int .i64 a0_2, .int .i64 a0_3, .int .i64 a0_4, .int .i64 a0_5, .int .i64 a0_6, .bool a0_7] 23 (0, 0)) zQx14a1_ hg (Kd.R_ne HO_11.out BK204.out (by decide))); have n2_ := Aside0.mk (blk_grown (g := gb205) (o := .cells #[.bool a1_0, .int .u64 a1_1] 54 (0, 0)) zQx14a2_ hg (Kd.R_ne HO_11.out BK205.out (by decide))); have n3_ := Aside0.mk ((by rw [hw]; exact below_set (HB.out) GB38.out : Below w.heap.size w w40)); clear HO_11; clear BK204; clear BK205; clear HB; have HO_11 := n0_; have BK204 := n1_; have BK205 := n2_; have HB := n3_; clear n0_ n1_ n2_ n3_; clear hg hw hp_))
        go_roundg k3
        case measure => have := HJ7.out; have := HJ26.out; have := HK3.out; omega
        case rel => exact ⟨(x10_3 / 65536), (y212), (wrap64 (x12_3 - 1)), zQx14a9_, zQx14a9_, H', ⟨by have := HJ7.out; have := HJ26.out; have := HK3.out; omega⟩, ⟨zQx14a7_⟩, ⟨zQx14a1_⟩, ⟨zQx14a2_⟩, ⟨zQx14a0_⟩⟩
       rw [if_neg c35] at H
       have c35b0 : decide (0 ≤ x12_3) = false := decide_eq_false c35
       clear c35
       replace H := Option.bind_eq_some_iff.mp H
       obtain ⟨t213, A410, H⟩ := H
       replace H : (if t213 = true then ((slices_Reverse_int_int.f k3 x11_3).bind fun t214 => (some (t214, true))) else (some (x11_3, true))) = some (r1, r2) := H
       have A41 := Aside0.mk A410
       clear A410
       by_cases c42 : t213 = true
       rotate_left
       ·
        replace c42 := Bool.eq_false_iff.mpr c42
        subst c42
        have H1 : (some (x11_3, true)) = some (r1, r2) := by rw [if_neg (show ¬ (false = true) by decide)] at H; exact H
        clear H
        have H := H1
        clear H1
        simp only [Option.some.injEq, Prod.mk.injEq] at H
        obtain ⟨rfl, rfl⟩ := H
        have hnb48 := NB204_205.out
        have hnc48 := NB205_204.out
        have hcz49_0 : wr.cell? ⟨gb204, 0, none⟩ = some (.string a0_0) := (blk_cell BK204.out 0).trans rfl
        have hcz49_1 : wr.cell? ⟨gb204, 1, none⟩ = some (.int .i64 a0_1) := (blk_cell BK204.out 1).trans rfl
        have hcz49_2 : wr.cell? ⟨gb204, 2, none⟩ = some (.int .i64 a0_2) := (blk_cell BK204.out 2).trans rfl
        have hcz49_3 : wr.cell? ⟨gb204, 3, none⟩ = some (.int .i64 a0_3) := (blk_cell BK204.out 3).trans rfl
        have hcz49_4 : wr.cell? ⟨gb204, 4, none⟩ = some (.int .i64 a0_4) := (blk_cell BK204.out 4).trans rfl
        have hcz49_5 : wr.cell? ⟨gb204, 5, none⟩ = some (.int .i64 a0_5) := (blk_cell BK204.out 5).trans rfl
        have hcz49_6 : wr.cell? ⟨gb204, 6, none⟩ = some (.int .i64 a0_6) := (blk_cell BK204.out 6).trans rfl
        have hcz49_7 : wr.cell? ⟨gb204, 7, none⟩ = some (.bool a0_7) := (blk_cell BK204.out 7).trans rfl
        have hfz49_0 := blk_frozen BK204.out 0
        have hfz49_1 := blk_frozen BK204.out 1
        have hfz49_2 := blk_frozen BK204.out 2
        have hfz49_3 := blk_frozen BK204.out 3
        have hfz49_4 := blk_frozen BK204.out 4
        have hfz49_5 := blk_frozen BK204.out 5
        have hfz49_6 := blk_frozen BK204.out 6
        have hfz49_7 := blk_frozen BK204.out 7
        go_wp2_with (first | ((with_reducible refine gate_callee (f := 58) rfl ?_); refine goesL_ (some 63) rfl rfl Tryz.func58 (by kernel_rfl) rfl #[.int .i64 a0_4] rfl zQx14a4_ ?_; (with_reducible refine (value_turned.calls a0_4 false _ A41.out).mono ?_); rintro e w' ⟨rfl, ⟨nd, rfl⟩⟩; refine ⟨_, rfl, ?_⟩))
        go_ret2
        exact ⟨_, zQx14a3_, zQx14a7_, zQx14a0_⟩
       subst c42
       have H1 : ((slices_Reverse_int_int.f k3 x11_3).bind fun t214 => (some (t214, true))) = some (r1, r2) := by rw [if_pos rfl] at H; exact H
       clear H
       have H := H1
       clear H1
       replace H := Option.bind_eq_some_iff.mp H
       obtain ⟨t214, A430, H⟩ := H
       replace H : (some (t214, true)) = some (r1, r2) := H
       have A43 := Aside0.mk A430
       clear A430
       simp only [Option.some.injEq, Prod.mk.injEq] at H
       obtain ⟨rfl, rfl⟩ := H
       have hnb44 := NB204_205.out
       have hnc44 := NB205_204.out
       have hcz45_0 : wr.cell? ⟨gb204, 0, none⟩ = some (.string a0_0) := (blk_cell BK204.out 0).trans rfl
       have hcz45_1 : wr.cell? ⟨gb204, 1, none⟩ = some (.int .i64 a0_1) := (blk_cell BK204.out 1).trans rfl
       have hcz45_2 : wr.cell? ⟨gb204, 2, none⟩ = some (.int .i64 a0_2) := (blk_cell BK204.out 2).trans rfl
       have hcz45_3 : wr.cell? ⟨gb204, 3, none⟩ = some (.int .i64 a0_3) := (blk_cell BK204.out 3).trans rfl
       have hcz45_4 : wr.cell? ⟨gb204, 4, none⟩ = some (.int .i64 a0_4) := (blk_cell BK204.out 4).trans rfl
       have hcz45_5 : wr.cell? ⟨gb204, 5, none⟩ = some (.int .i64 a0_5) := (blk_cell BK204.out 5).trans rfl
       have hcz45_6 : wr.cell? ⟨gb204, 6, none⟩ = some (.int .i64 a0_6) := (blk_cell BK204.out 6).trans rfl
       have hcz45_7 : wr.cell? ⟨gb204, 7, none⟩ = some (.bool a0_7) := (blk_cell BK204.out 7).trans rfl
       have hfz45_0 := blk_frozen BK204.out 0
       have hfz45_1 := blk_frozen BK204.out 1
       have hfz45_2 := blk_frozen BK204.out 2
       have hfz45_3 := blk_frozen BK204.out 3
       have hfz45_4 := blk_frozen BK204.out 4
       have hfz45_5 := blk_frozen BK204.out 5
       have hfz45_6 := blk_frozen BK204.out 6
       have hfz45_7 := blk_frozen BK204.out 7
       go_wp2_with (first | ((with_reducible refine gate_callee (f := 58) rfl ?_); refine goesL_ (some 63) rfl rfl Tryz.func58 (by kernel_rfl) rfl #[.int .i64 a0_4] rfl zQx14a4_ ?_; (with_reducible refine (value_turned.calls a0_4 true _ A41.out).mono ?_); rintro e w' ⟨rfl, ⟨nd, rfl⟩⟩; refine ⟨_, rfl, ?_⟩; obtain ⟨Ao46, co46, eo46⟩ := Kd.R_slice HO_11.out; subst eo46) | ((with_reducible refine gate_callee (f := 59) rfl ?_); refine goesL_ (some 65) rfl rfl Tryz.func59 (by kernel_rfl) rfl #[.slice Ao46 x11_3.length co46] rfl zQx14a4_ ?_; (with_reducible refine (slices_Reverse_int_int.calls k3 (fun k_ => some k_ = (.slice Ao46 x11_3.length co46 : Value).ownBlock) (.slice Ao46 x11_3.length co46) x11_3 t214 w _ ?side1 ?side2 A43.out).mono ?_); (case side1 => repeat (first | (with_reducible first | exact HB.out | apply below_alloc | apply pw_below_drewN | apply below_drew1 | refine below_set ?_ GE204.out | refine below_set ?_ GE205.out) | exact HB.out)); (case side2 => exact Kd.R_tight rfl HO_11.out); rintro e w47 ⟨rfl, hy0, hb, hkp⟩; refine ⟨_, rfl, ?_⟩; have n0_ := Aside0.mk (Kd.R_reok rfl hy0 (fun k_ e_ => HO_11.out.1 k_ e_)); have n1_ := Aside0.mk (blk_kept zQx14a1_ hkp (fun hs_ => (fun e_ => (Kd.R_ne HO_11.out BK204.out (by decide)) e_) hs_)); have n2_ := Aside0.mk (blk_kept zQx14a2_ hkp (fun hs_ => (fun e_ => (Kd.R_ne HO_11.out BK205.out (by decide)) e_) hs_)); have n3_ := Aside0.mk (hb); clear HO_11; clear BK204; clear BK205; clear HB; have HO_11 := n0_; have BK204 := n1_; have BK205 := n2_; have HB := n3_; clear n0_ n1_ n2_ n3_; (try clear hb); (try clear hkp); (try clear hy0)))
       go_ret2
       exact ⟨_, zQx14a3_, zQx14a7_, zQx14a0_⟩
end Go.Proofs.YtmkekhjbbapngaaGreatDoor.Q
