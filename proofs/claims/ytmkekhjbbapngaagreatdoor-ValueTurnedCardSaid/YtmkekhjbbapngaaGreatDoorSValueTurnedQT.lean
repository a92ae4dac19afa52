/- What the proof of ValueTurned leans on: QT. -/
import Derived.Test.YtmkekhjbbapngaaGreatDoorSValueTurnedQx0
import Derived.Test.YtmkekhjbbapngaaGreatDoorSValueTurnedValT
import Derived.Test.YtmkekhjbbapngaaGreatDoorSValueTurnedValW
import Derived.Test.YtmkekhjbbapngaaGreatDoorSValueTurnedQx18
import Derived.Test.YtmkekhjbbapngaaGreatDoorSValueTurnedQx11
namespace Go.Proofs.YtmkekhjbbapngaaGreatDoor.Q
open Go.RowKit Go.Proofs.YtmkekhjbbapngaaGreatDoorW.PrintWords Go.Proofs.YtmkekhjbbapngaaGreatDoorW.PrintLast Go.Proofs.YtmkekhjbbapngaaGreatDoorW.PrintMore
attribute [local go_sem] max2_int min2_int max_two min_two
set_option linter.unusedVariables false
set_option linter.unusedSimpArgs false
theorem zQTa0_ {P_ : Prop} (h_ : P_ := by repeat (first | (with_reducible first | exact HB.out | apply below_alloc | apply pw_below_drewN | apply below_drew1) | exact HB.out)) : P_ := h_
theorem zQTa1_ {P_ : Prop} (h_ : P_ := by (try simp only [List.map_toArray, List.map_cons, List.map_nil]); first | done | rfl | (simp only [List.length_drop, List.length_take]; rfl)) : P_ := h_
theorem zQTa2_ {P_ : Prop} (h_ : P_ := by (with_reducible repeat (first | apply Kd.R_alloc | apply Kd.R_drewN | apply Kd.R_drew)); exact HO260.out) : P_ := h_
theorem zQTa3_ {P_ : Prop} (h_ : P_ := by (with_reducible repeat (first | apply Kd.R_alloc | apply Kd.R_drewN | apply Kd.R_drew)); exact HO273.out) : P_ := h_
theorem zQTa4_ {P_ : Prop} (h_ : P_ := by (with_reducible repeat (first | apply Kd.R_alloc | apply Kd.R_drewN | apply Kd.R_drew)); exact HO286.out) : P_ := h_
theorem zQTa5_ {P_ : Prop} (h_ : P_ := by first | rfl | (simp; done) | (simp [*]; done)) : P_ := h_
theorem zQTa6_ {P_ : Prop} (h_ : P_ := by first | rfl | (simp [errW_none, errW_some] <;> rfl) | (simp [*, errW_none, errW_some] <;> rfl)) : P_ := h_
theorem zQTa7_ {P_ : Prop} (h_ : P_ := by (with_reducible repeat (first | apply Kd.R_alloc | apply Kd.R_drewN | apply Kd.R_drew)); exact HO298.out) : P_ := h_
theorem zQTa8_ {P_ : Prop} (h_ : P_ := by first | (with_reducible assumption) | assumption) : P_ := h_
theorem zQTa9_ {P_ : Prop} (h_ : P_ := by first | omega | exact Nat.le_refl _) : P_ := h_
theorem znQT_ {X_ : Prop} [Decidable X_] (h_ : ¬ X_ → False := by intro c_; rw [if_neg c_] at H; exact absurd H (by simp)) : X_ := Decidable.byContradiction h_
mutual
def basculelaw22_ValueTurned.j0 : Nat → Bool → Int → Int → Int → ByteArray → Bool → Option (Bool)
 | 0, _, _, _, _, _, _ => none
 | k + 1, x0, x1, x2, x3, x4, x41 => if x41 = true then (some true) else (if x0 = true then (basculelaw22_ValueTurned.j1 k x1 x2 x3 x4 5 7) else (basculelaw22_ValueTurned.j1 k x1 x2 x3 x4 4 6))
def basculelaw22_ValueTurned.j1 : Nat → Int → Int → Int → ByteArray → Int → Int → Option (Bool)
 | 0, _, _, _, _, _, _ => none
 | k + 1, x1, x2, x3, x4, x11, x12 => (basculelaw22_row.f x11 x1 0).bind fun bt250 => ((value_Text.f bt250.1 bt250.2.1 bt250.2.2.1 bt250.2.2.2.1 bt250.2.2.2.2.1 bt250.2.2.2.2.2.1 bt250.2.2.2.2.2.2.1 bt250.2.2.2.2.2.2.2 (([x2, x3] : List Int))).bind fun bt261 => ((basculelaw22_row.f x12 x1 0).bind fun bt263 => ((value_Text.f bt263.1 bt263.2.1 bt263.2.2.1 bt263.2.2.2.1 bt263.2.2.2.2.1 bt263.2.2.2.2.2.1 bt263.2.2.2.2.2.2.1 bt263.2.2.2.2.2.2.2 (([x3, x2] : List Int))).bind fun bt274 => ((basculelaw22_row.f x11 x1 0).bind fun bt276 => ((value_Words.f bt276.1 bt276.2.1 bt276.2.2.1 bt276.2.2.2.1 bt276.2.2.2.2.1 bt276.2.2.2.2.2.1 bt276.2.2.2.2.2.2.1 bt276.2.2.2.2.2.2.2 x4).bind fun bt284 => ((basculelaw22_row.f x12 x1 0).bind fun bt288 => ((value_Words.f bt288.1 bt288.2.1 bt288.2.2.1 bt288.2.2.2.1 bt288.2.2.2.2.1 bt288.2.2.2.2.2.1 bt288.2.2.2.2.2.2.1 bt288.2.2.2.2.2.2.2 x4).bind fun bt296 => (if bt261.2 = 0 then (if bt274.2 = 0 then (if bt261.1.toList = bt274.1.toList then (if bt284.2 = bt296.2 then (if (bt284.1.length : Int) = (bt296.1.length : Int) then ((basculelaw22_awake.f k).bind fun t300 => (if t300 = true then (if bt284.2 = 0 then (if (bt284.1.length : Int) = 2 then (if 0 < (bt284.1.length : Int) then (if 1 < (bt296.1.length : Int) then (if (rd bt284.1 0) = (rd bt296.1 1) then (if 1 < (bt284.1.length : Int) then (if 0 < (bt296.1.length : Int) then (some ((rd bt284.1 1) == (rd bt296.1 0))) else (none)) else (none)) else (some false)) else (none)) else (none)) else (some false)) else (some true)) else (some false))) else (some false)) else (some false)) else (some false)) else (some false)) else (some false)))))))))
end
def basculelaw22_ValueTurned.f (k : Nat) (a0 : Bool) (a1 : Int) (a2 : Int) (a3 : Int) (a4 : ByteArray) : Option (Bool) := (basculeref01_Is.f a2).bind fun t248 => (if t248 = true then ((basculeref01_Is.f a3).bind fun t249 => (if t249 = true then (if a1 < 0 then (basculelaw22_ValueTurned.j0 k a0 a1 a2 a3 a4 true) else (if a1 > 9 then (basculelaw22_ValueTurned.j0 k a0 a1 a2 a3 a4 true) else (basculelaw22_ValueTurned.j0 k a0 a1 a2 a3 a4 (decide ((a4.size : Int) > 100))))) else (basculelaw22_ValueTurned.j0 k a0 a1 a2 a3 a4 true))) else (basculelaw22_ValueTurned.j0 k a0 a1 a2 a3 a4 true))
theorem basculelaw22_ValueTurned.mono_l : ∀ k, (∀ y0 y1 y2 y3 y4 y5, LeO (basculelaw22_ValueTurned.j0 k y0 y1 y2 y3 y4 y5) (basculelaw22_ValueTurned.j0 (k + 1) y0 y1 y2 y3 y4 y5)) ∧ (∀ y0 y1 y2 y3 y4 y5, LeO (basculelaw22_ValueTurned.j1 k y0 y1 y2 y3 y4 y5) (basculelaw22_ValueTurned.j1 (k + 1) y0 y1 y2 y3 y4 y5))
 | 0 => ⟨fun _ _ _ _ _ _ r h => by simp [basculelaw22_ValueTurned.j0] at h, fun _ _ _ _ _ _ r h => by simp [basculelaw22_ValueTurned.j1] at h⟩
 | k + 1 => by
  obtain ⟨ih0, ih1⟩ := basculelaw22_ValueTurned.mono_l k
  refine ⟨?_, ?_⟩
  ·
   intro y0 y1 y2 y3 y4 y5
   unfold basculelaw22_ValueTurned.j0
   repeat' first
   | (with_reducible exact ih0 _ _ _ _ _ _)
   | (with_reducible exact ih1 _ _ _ _ _ _)
   | (with_reducible exact basculelaw22_awake.mono _)
   | (with_reducible exact LeO.refl _)
   | (with_reducible exact LeO.none _)
   | (with_reducible refine LeO.ite ?_ ?_)
   | (with_reducible refine LeO.bind ?_ (fun _ => ?_))
   | exact ih0 _ _ _ _ _ _
   | exact ih1 _ _ _ _ _ _
   | exact basculelaw22_awake.mono _
   | exact LeO.none _
   | refine LeO.ite ?_ ?_
   | refine LeO.bind ?_ (fun _ => ?_)
  ·
   intro y0 y1 y2 y3 y4 y5
   unfold basculelaw22_ValueTurned.j1
   repeat' first
   | (with_reducible exact ih0 _ _ _ _ _ _)
   | (with_reducible exact ih1 _ _ _ _ _ _)
   | (with_reducible exact basculelaw22_awake.mono _)
   | (with_reducible exact LeO.refl _)
   | (with_reducible exact LeO.none _)
   | (with_reducible refine LeO.ite ?_ ?_)
   | (with_reducible refine LeO.bind ?_ (fun _ => ?_))
   | exact ih0 _ _ _ _ _ _
   | exact ih1 _ _ _ _ _ _
   | exact basculelaw22_awake.mono _
   | exact LeO.none _
   | refine LeO.ite ?_ ?_
   | refine LeO.bind ?_ (fun _ => ?_)
theorem basculelaw22_ValueTurned.mono : ∀ a0 a1 a2 a3 a4 k, LeO (basculelaw22_ValueTurned.f k a0 a1 a2 a3 a4) (basculelaw22_ValueTurned.f (k + 1) a0 a1 a2 a3 a4) := by
 intro a0 a1 a2 a3 a4 k
 obtain ⟨ih0, ih1⟩ := basculelaw22_ValueTurned.mono_l k
 unfold basculelaw22_ValueTurned.f
 repeat' first
   | (with_reducible exact ih0 _ _ _ _ _ _)
   | (with_reducible exact ih1 _ _ _ _ _ _)
   | (with_reducible exact basculelaw22_awake.mono _)
   | (with_reducible exact LeO.refl _)
   | (with_reducible exact LeO.none _)
   | (with_reducible refine LeO.ite ?_ ?_)
   | (with_reducible refine LeO.bind ?_ (fun _ => ?_))
   | exact ih0 _ _ _ _ _ _
   | exact ih1 _ _ _ _ _ _
   | exact basculelaw22_awake.mono _
   | exact LeO.none _
   | refine LeO.ite ?_ ?_
   | refine LeO.bind ?_ (fun _ => ?_)
def basculelaw22_ValueTurned.T14 : Bool × List (List Nat × List Nat) := (true, [([], []), ([0, 0], [0]), ([1], [1]), ([2, 1], [1, 2]), ([3, 1, 1], [1, 3]), ([4], [4]), ([5, 4], [4, 5]), ([6, 4], [4, 6]), ([7, 4, 4], [4, 7]), ([8], [8]), ([9, 8], [8, 9]), ([10, 8], [8, 10]), ([8], [8]), ([12, 8], [8, 12]), ([13, 8], [8, 13]), ([11, 14, 8], [8, 11, 14]), ([8, 15, 4], [4, 8, 15]), ([16, 8, 4], [4, 16]), ([17], [17]), ([18, 17], [17, 18]), ([19, 17], [17, 19]), ([17], [17]), ([21, 17], [17, 21]), ([22, 17], [17, 22]), ([20, 23, 17], [17, 20, 23]), ([17, 24, 4], [4, 17, 24]), ([4, 25, 1], [1, 4, 25]), ([1, 26], [1, 26]), ([27, 17, 0, 1, 2, 3, 4, 5, 6, 7, 8, 9, 10, 11, 12, 13, 14, 15, 16, 17, 18, 19, 20, 21, 22, 23, 24, 25, 26, 27], [27])])
def basculelaw22_ValueTurned.B14 : List Nat := [0, 1, 3, 7, 15, 31, 63, 127, 255, 511, 1023, 2047, 511, 4607, 12799, 32767, 65535, 131071, 262143, 524287, 1048575, 262143, 2359295, 6553599, 16777215, 33554431, 67108863, 134217727, 268435455]
theorem basculelaw22_ValueTurned.tab14 : rtab .any (opsOf Tryz.f10 14) = basculelaw22_ValueTurned.T14 := by kernel_rfl
theorem basculelaw22_ValueTurned.bits14 : waitsOk basculelaw22_ValueTurned.T14.2 basculelaw22_ValueTurned.B14 = true := by kernel_rfl
set_option maxHeartbeats 8000000 in
set_option maxRecDepth 100000 in
theorem basculelaw22_ValueTurned.calls (k : Nat) (a0 : Bool) (a1 : Int) (a2 : Int) (a3 : Int) (a4 : ByteArray) (r : Bool) (w : World) (hLd_ : Val.Laid w) (hr_ : Aside0 (r = true)) (h : basculelaw22_ValueTurned.f k a0 a1 a2 a3 a4 = some r) :
  Calls Tryz.prog 10 #[.bool a0, .int .i64 a1, .int .i64 a2, .int .i64 a3, .string a4] w fun e w' => e = .returned (.bool r) ∧ Below w.heap.size w w' := by
 have HB := Aside0.mk (Below.refl w.heap.size w)
 have H : ((basculeref01_Is.f a2).bind fun t248 => (if t248 = true then ((basculeref01_Is.f a3).bind fun t249 => (if t249 = true then (if a1 < 0 then (basculelaw22_ValueTurned.j0 k a0 a1 a2 a3 a4 true) else (if a1 > 9 then (basculelaw22_ValueTurned.j0 k a0 a1 a2 a3 a4 true) else (basculelaw22_ValueTurned.j0 k a0 a1 a2 a3 a4 (decide ((a4.size : Int) > 100))))) else (basculelaw22_ValueTurned.j0 k a0 a1 a2 a3 a4 true))) else (basculelaw22_ValueTurned.j0 k a0 a1 a2 a3 a4 true))) = some r := h
 clear h
 have HC6 := Aside0.mk H
 clear H
 go_enter Tryz.func10, Tryz.ntmps10
 go_upto_region 1 with (fail)
 go_cut [41] (fun v41 wc => ∃ (kq : Nat) (x41_5 : Bool), v41 = .bool x41_5 ∧ Aside0 (basculelaw22_ValueTurned.j0 kq a0 a1 a2 a3 a4 x41_5 = some r) ∧ Aside0 (kq ≤ k) ∧ Aside0 (Below w.heap.size w wc))
 case first =>
  have H := HC6.out
  clear HC6
  replace H := Option.bind_eq_some_iff.mp H
  obtain ⟨t248, A70, H⟩ := H
  replace H : (if t248 = true then ((basculeref01_Is.f a3).bind fun t249 => (if t249 = true then (if a1 < 0 then (basculelaw22_ValueTurned.j0 k a0 a1 a2 a3 a4 true) else (if a1 > 9 then (basculelaw22_ValueTurned.j0 k a0 a1 a2 a3 a4 true) else (basculelaw22_ValueTurned.j0 k a0 a1 a2 a3 a4 (decide ((a4.size : Int) > 100))))) else (basculelaw22_ValueTurned.j0 k a0 a1 a2 a3 a4 true))) else (basculelaw22_ValueTurned.j0 k a0 a1 a2 a3 a4 true)) = some r := H
  have A7 := Aside0.mk A70
  clear A70
  by_cases c8 : t248 = true
  rotate_left
  ·
   replace c8 := Bool.eq_false_iff.mpr c8
   subst c8
   have H1 : (basculelaw22_ValueTurned.j0 k a0 a1 a2 a3 a4 true) = some r := by rw [if_neg (show ¬ (false = true) by decide)] at H; exact H
   clear H
   have H := H1
   clear H1
   have H' := Aside0.mk H
   clear H
   go_wp2_with (first | ((with_reducible refine gate_callee (f := 23) rfl ?_); refine goesL_ (some 22) rfl rfl Tryz.func23 (by kernel_rfl) rfl #[.int .i64 a2] rfl zQTa1_ ?_; (with_reducible refine (basculeref01_Is.calls a2 false _ A7.out).mono ?_); rintro e w' ⟨rfl, ⟨nd, rfl⟩⟩; refine ⟨_, rfl, ?_⟩))
   go_meet
   case rel => exact ⟨_, (true), zQTa5_, H', ⟨zQTa9_⟩, ⟨zQTa0_⟩⟩
  subst c8
  have H1 : ((basculeref01_Is.f a3).bind fun t249 => (if t249 = true then (if a1 < 0 then (basculelaw22_ValueTurned.j0 k a0 a1 a2 a3 a4 true) else (if a1 > 9 then (basculelaw22_ValueTurned.j0 k a0 a1 a2 a3 a4 true) else (basculelaw22_ValueTurned.j0 k a0 a1 a2 a3 a4 (decide ((a4.size : Int) > 100))))) else (basculelaw22_ValueTurned.j0 k a0 a1 a2 a3 a4 true))) = some r := by rw [if_pos rfl] at H; exact H
  clear H
  have H := H1
  clear H1
  replace H := Option.bind_eq_some_iff.mp H
  obtain ⟨t249, A90, H⟩ := H
  replace H : (if t249 = true then (if a1 < 0 then (basculelaw22_ValueTurned.j0 k a0 a1 a2 a3 a4 true) else (if a1 > 9 then (basculelaw22_ValueTurned.j0 k a0 a1 a2 a3 a4 true) else (basculelaw22_ValueTurned.j0 k a0 a1 a2 a3 a4 (decide ((a4.size : Int) > 100))))) else (basculelaw22_ValueTurned.j0 k a0 a1 a2 a3 a4 true)) = some r := H
  have A9 := Aside0.mk A90
  clear A90
  by_cases c10 : t249 = true
  rotate_left
  ·
   replace c10 := Bool.eq_false_iff.mpr c10
   subst c10
   have H1 : (basculelaw22_ValueTurned.j0 k a0 a1 a2 a3 a4 true) = some r := by rw [if_neg (show ¬ (false = true) by decide)] at H; exact H
   clear H
   have H := H1
   clear H1
   have H' := Aside0.mk H
   clear H
   go_wp2_with (first | ((with_reducible refine gate_callee (f := 23) rfl ?_); refine goesL_ (some 22) rfl rfl Tryz.func23 (by kernel_rfl) rfl #[.int .i64 a2] rfl zQTa1_ ?_; (with_reducible refine (basculeref01_Is.calls a2 true _ A7.out).mono ?_); rintro e w' ⟨rfl, ⟨nd, rfl⟩⟩; refine ⟨_, rfl, ?_⟩) | (go_at_call 23; (with_reducible refine (basculeref01_Is.calls a3 false _ A9.out).mono ?_); rintro e w' ⟨rfl, ⟨nd, rfl⟩⟩))
   go_meet
   case rel => exact ⟨_, (true), zQTa5_, H', ⟨zQTa9_⟩, ⟨zQTa0_⟩⟩
  subst c10
  have H1 : (if a1 < 0 then (basculelaw22_ValueTurned.j0 k a0 a1 a2 a3 a4 true) else (if a1 > 9 then (basculelaw22_ValueTurned.j0 k a0 a1 a2 a3 a4 true) else (basculelaw22_ValueTurned.j0 k a0 a1 a2 a3 a4 (decide ((a4.size : Int) > 100))))) = some r := by rw [if_pos rfl] at H; exact H
  clear H
  have H := H1
  clear H1
  by_cases c11 : a1 < 0
  ·
   rw [if_pos c11] at H
   have c11b0 : decide (a1 < 0) = true := decide_eq_true c11
   clear c11
   (first | rw [c11b0] | (simp only [i64_w, i32_w]; rw [c11b0]) | skip)
   have H' := Aside0.mk H
   clear H
   go_wp2_with (first | ((with_reducible refine gate_callee (f := 23) rfl ?_); refine goesL_ (some 22) rfl rfl Tryz.func23 (by kernel_rfl) rfl #[.int .i64 a2] rfl zQTa1_ ?_; (with_reducible refine (basculeref01_Is.calls a2 true _ A7.out).mono ?_); rintro e w' ⟨rfl, ⟨nd, rfl⟩⟩; refine ⟨_, rfl, ?_⟩) | (go_at_call 23; (with_reducible refine (basculeref01_Is.calls a3 true _ A9.out).mono ?_); rintro e w' ⟨rfl, ⟨nd, rfl⟩⟩))
   go_meet
   case rel => exact ⟨_, (true), zQTa5_, H', ⟨zQTa9_⟩, ⟨zQTa0_⟩⟩
  rw [if_neg c11] at H
  have c11b0 : decide (a1 < 0) = false := decide_eq_false c11
  clear c11
  (first | rw [c11b0] | (simp only [i64_w, i32_w]; rw [c11b0]) | skip)
  by_cases c12 : a1 > 9
  ·
   rw [if_pos c12] at H
   have c12b0 : decide (9 < a1) = true := decide_eq_true c12
   clear c12
   have H' := Aside0.mk H
   clear H
   go_wp2_with (first | ((with_reducible refine gate_callee (f := 23) rfl ?_); refine goesL_ (some 22) rfl rfl Tryz.func23 (by kernel_rfl) rfl #[.int .i64 a2] rfl zQTa1_ ?_; (with_reducible refine (basculeref01_Is.calls a2 true _ A7.out).mono ?_); rintro e w' ⟨rfl, ⟨nd, rfl⟩⟩; refine ⟨_, rfl, ?_⟩) | (go_at_call 23; (with_reducible refine (basculeref01_Is.calls a3 true _ A9.out).mono ?_); rintro e w' ⟨rfl, ⟨nd, rfl⟩⟩))
   go_meet
   case rel => exact ⟨_, (true), zQTa5_, H', ⟨zQTa9_⟩, ⟨zQTa0_⟩⟩
  rw [if_neg c12] at H
  have c12b0 : decide (9 < a1) = false := decide_eq_false c12
  clear c12
  have H' := Aside0.mk H
  clear H
  go_wp2_with (first | ((with_reducible refine gate_callee (f := 23) rfl ?_); refine goesL_ (some 22) rfl rfl Tryz.func23 (by kernel_rfl) rfl #[.int .i64 a2] rfl zQTa1_ ?_; (with_reducible refine (basculeref01_Is.calls a2 true _ A7.out).mono ?_); rintro e w' ⟨rfl, ⟨nd, rfl⟩⟩; refine ⟨_, rfl, ?_⟩) | (go_at_call 23; (with_reducible refine (basculeref01_Is.calls a3 true _ A9.out).mono ?_); rintro e w' ⟨rfl, ⟨nd, rfl⟩⟩))
  go_meet
  case rel => exact ⟨_, (decide ((a4.size : Int) > 100)), zQTa5_, H', ⟨zQTa9_⟩, ⟨zQTa0_⟩⟩
 case rest =>
  clear HC6
  try clear c1
  try clear c2
  try clear p2
  try clear c8
  try clear c10
  try clear c11
  try clear c11b0
  try clear c12
  try clear c12b0
  obtain ⟨kq, x41_5, rfl, HA, HJ5, HB⟩ := hcut
  cases kq with
  | zero => exact absurd HA.out (by simp [basculelaw22_ValueTurned.j0])
  | succ kj5 =>
   have H := HA.out
   clear HA
   simp only [basculelaw22_ValueTurned.j0] at H
   by_cases c13 : x41_5 = true
   ·
    subst c13
    have H1 : (some true) = some r := by rw [if_pos rfl] at H; exact H
    clear H
    have H := H1
    clear H1
    obtain rfl := Option.some.inj H
    go_wp2
    go_ret
    exact ⟨zQTa6_, zQTa0_⟩
   replace c13 := Bool.eq_false_iff.mpr c13
   subst c13
   have H1 : (if a0 = true then (basculelaw22_ValueTurned.j1 kj5 a1 a2 a3 a4 5 7) else (basculelaw22_ValueTurned.j1 kj5 a1 a2 a3 a4 4 6)) = some r := by rw [if_neg (show ¬ (false = true) by decide)] at H; exact H
   clear H
   have H := H1
   clear H1
   have HC14 := Aside0.mk H
   clear H
   go_upto_if 42 with (fail)
   go_cut [11, 12] (fun v11 v12 wc => ∃ (kq : Nat) (x11_13 : Int) (x12_13 : Int), v11 = .int .i64 x11_13 ∧ v12 = .int .i64 x12_13 ∧ Aside0 (basculelaw22_ValueTurned.j1 kq a1 a2 a3 a4 x11_13 x12_13 = some r) ∧ Aside0 (kq ≤ kj5) ∧ Aside0 (Below w.heap.size w wc))
   case first =>
    have H := HC14.out
    clear HC14
    by_cases c15 : a0 = true
    ·
     subst c15
     have H1 : (basculelaw22_ValueTurned.j1 kj5 a1 a2 a3 a4 5 7) = some r := by rw [if_pos rfl] at H; exact H
     clear H
     have H := H1
     clear H1
     have H' := Aside0.mk H
     clear H
     go_wp2
     go_meet
     case rel => exact ⟨_, (5), (7), zQTa5_, zQTa5_, H', ⟨by have := HJ5.out; first | omega | exact Nat.le_refl _⟩, ⟨zQTa0_⟩⟩
    replace c15 := Bool.eq_false_iff.mpr c15
    subst c15
    have H1 : (basculelaw22_ValueTurned.j1 kj5 a1 a2 a3 a4 4 6) = some r := by rw [if_neg (show ¬ (false = true) by decide)] at H; exact H
    clear H
    have H := H1
    clear H1
    have H' := Aside0.mk H
    clear H
    go_wp2
    go_meet
    case rel => exact ⟨_, (4), (6), zQTa5_, zQTa5_, H', ⟨by have := HJ5.out; first | omega | exact Nat.le_refl _⟩, ⟨zQTa0_⟩⟩
   case rest =>
    clear HC14
    try clear c1
    try clear c2
    try clear p2
    try clear c8
    try clear c10
    try clear c11
    try clear c11b0
    try clear c12
    try clear c12b0
    try clear c13
    try clear c15
    try clear p2
    obtain ⟨kq, x11_13, x12_13, rfl, rfl, HA, HJ13, HB⟩ := hcut
    cases kq with
    | zero => exact absurd HA.out (by simp [basculelaw22_ValueTurned.j1])
    | succ kj13 =>
     have H := HA.out
     clear HA
     simp only [basculelaw22_ValueTurned.j1] at H
     replace H := Option.bind_eq_some_iff.mp H
     obtain ⟨⟨t250, t251, t252, t253, t254, t255, t256, t257⟩, A160, H⟩ := H
     replace H : ((value_Text.f t250 t251 t252 t253 t254 t255 t256 t257 (([a2, a3] : List Int))).bind fun bt261 => ((basculelaw22_row.f x12_13 a1 0).bind fun bt263 => ((value_Text.f bt263.1 bt263.2.1 bt263.2.2.1 bt263.2.2.2.1 bt263.2.2.2.2.1 bt263.2.2.2.2.2.1 bt263.2.2.2.2.2.2.1 bt263.2.2.2.2.2.2.2 (([a3, a2] : List Int))).bind fun bt274 => ((basculelaw22_row.f x11_13 a1 0).bind fun bt276 => ((value_Words.f bt276.1 bt276.2.1 bt276.2.2.1 bt276.2.2.2.1 bt276.2.2.2.2.1 bt276.2.2.2.2.2.1 bt276.2.2.2.2.2.2.1 bt276.2.2.2.2.2.2.2 a4).bind fun bt284 => ((basculelaw22_row.f x12_13 a1 0).bind fun bt288 => ((value_Words.f bt288.1 bt288.2.1 bt288.2.2.1 bt288.2.2.2.1 bt288.2.2.2.2.1 bt288.2.2.2.2.2.1 bt288.2.2.2.2.2.2.1 bt288.2.2.2.2.2.2.2 a4).bind fun bt296 => (if bt261.2 = 0 then (if bt274.2 = 0 then (if bt261.1.toList = bt274.1.toList then (if bt284.2 = bt296.2 then (if (bt284.1.length : Int) = (bt296.1.length : Int) then ((basculelaw22_awake.f kj13).bind fun t300 => (if t300 = true then (if bt284.2 = 0 then (if (bt284.1.length : Int) = 2 then (if 0 < (bt284.1.length : Int) then (if 1 < (bt296.1.length : Int) then (if (rd bt284.1 0) = (rd bt296.1 1) then (if 1 < (bt284.1.length : Int) then (if 0 < (bt296.1.length : Int) then (some ((rd bt284.1 1) == (rd bt296.1 0))) else (none)) else (none)) else (some false)) else (none)) else (none)) else (some false)) else (some true)) else (some false))) else (some false)) else (some false)) else (some false)) else (some false)) else (some false))))))))) = some r := H
     have A16 := Aside0.mk A160
     clear A160
     obtain ⟨y258, hy258⟩ : ∃ y_ : List Int, y_ = (([a2, a3] : List Int)) := ⟨_, rfl⟩
     replace H : ((value_Text.f t250 t251 t252 t253 t254 t255 t256 t257 y258).bind fun bt261 => ((basculelaw22_row.f x12_13 a1 0).bind fun bt263 => ((value_Text.f bt263.1 bt263.2.1 bt263.2.2.1 bt263.2.2.2.1 bt263.2.2.2.2.1 bt263.2.2.2.2.2.1 bt263.2.2.2.2.2.2.1 bt263.2.2.2.2.2.2.2 (([a3, a2] : List Int))).bind fun bt274 => ((basculelaw22_row.f x11_13 a1 0).bind fun bt276 => ((value_Words.f bt276.1 bt276.2.1 bt276.2.2.1 bt276.2.2.2.1 bt276.2.2.2.2.1 bt276.2.2.2.2.2.1 bt276.2.2.2.2.2.2.1 bt276.2.2.2.2.2.2.2 a4).bind fun bt284 => ((basculelaw22_row.f x12_13 a1 0).bind fun bt288 => ((value_Words.f bt288.1 bt288.2.1 bt288.2.2.1 bt288.2.2.2.1 bt288.2.2.2.2.1 bt288.2.2.2.2.2.1 bt288.2.2.2.2.2.2.1 bt288.2.2.2.2.2.2.2 a4).bind fun bt296 => (if bt261.2 = 0 then (if bt274.2 = 0 then (if bt261.1.toList = bt274.1.toList then (if bt284.2 = bt296.2 then (if (bt284.1.length : Int) = (bt296.1.length : Int) then ((basculelaw22_awake.f kj13).bind fun t300 => (if t300 = true then (if bt284.2 = 0 then (if (bt284.1.length : Int) = 2 then (if 0 < (bt284.1.length : Int) then (if 1 < (bt296.1.length : Int) then (if (rd bt284.1 0) = (rd bt296.1 1) then (if 1 < (bt284.1.length : Int) then (if 0 < (bt296.1.length : Int) then (some ((rd bt284.1 1) == (rd bt296.1 0))) else (none)) else (none)) else (some false)) else (none)) else (none)) else (some false)) else (some true)) else (some false))) else (some false)) else (some false)) else (some false)) else (some false)) else (some false))))))))) = some r := by first | (rw [hy258]; with_reducible exact H) | (have H2_ := (Option.bind_some _ _).symm.trans H; rw [hy258]; with_reducible exact H2_) | (have H2_ := (Option.bind_some _ _).symm.trans H; with_reducible exact H2_) | with_reducible exact H | (rw [hy258]; exact H) | exact H
     have Ny258 := Aside0.mk hy258
     clear hy258
     replace H := Option.bind_eq_some_iff.mp H
     obtain ⟨⟨t261, t262⟩, A170, H⟩ := H
     replace H : ((basculelaw22_row.f x12_13 a1 0).bind fun bt263 => ((value_Text.f bt263.1 bt263.2.1 bt263.2.2.1 bt263.2.2.2.1 bt263.2.2.2.2.1 bt263.2.2.2.2.2.1 bt263.2.2.2.2.2.2.1 bt263.2.2.2.2.2.2.2 (([a3, a2] : List Int))).bind fun bt274 => ((basculelaw22_row.f x11_13 a1 0).bind fun bt276 => ((value_Words.f bt276.1 bt276.2.1 bt276.2.2.1 bt276.2.2.2.1 bt276.2.2.2.2.1 bt276.2.2.2.2.2.1 bt276.2.2.2.2.2.2.1 bt276.2.2.2.2.2.2.2 a4).bind fun bt284 => ((basculelaw22_row.f x12_13 a1 0).bind fun bt288 => ((value_Words.f bt288.1 bt288.2.1 bt288.2.2.1 bt288.2.2.2.1 bt288.2.2.2.2.1 bt288.2.2.2.2.2.1 bt288.2.2.2.2.2.2.1 bt288.2.2.2.2.2.2.2 a4).bind fun bt296 => (if t262 = 0 then (if bt274.2 = 0 then (if t261.toList = bt274.1.toList then (if bt284.2 = bt296.2 then (if (bt284.1.length : Int) = (bt296.1.length : Int) then ((basculelaw22_awake.f kj13).bind fun t300 => (if t300 = true then (if bt284.2 = 0 then (if (bt284.1.length : Int) = 2 then (if 0 < (bt284.1.length : Int) then (if 1 < (bt296.1.length : Int) then (if (rd bt284.1 0) = (rd bt296.1 1) then (if 1 < (bt284.1.length : Int) then (if 0 < (bt296.1.length : Int) then (some ((rd bt284.1 1) == (rd bt296.1 0))) else (none)) else (none)) else (some false)) else (none)) else (none)) else (some false)) else (some true)) else (some false))) else (some false)) else (some false)) else (some false)) else (some false)) else (some false)))))))) = some r := H
     have A17 := Aside0.mk A170
     clear A170
     replace H := Option.bind_eq_some_iff.mp H
     obtain ⟨⟨t263, t264, t265, t266, t267, t268, t269, t270⟩, A180, H⟩ := H
     replace H : ((value_Text.f t263 t264 t265 t266 t267 t268 t269 t270 (([a3, a2] : List Int))).bind fun bt274 => ((basculelaw22_row.f x11_13 a1 0).bind fun bt276 => ((value_Words.f bt276.1 bt276.2.1 bt276.2.2.1 bt276.2.2.2.1 bt276.2.2.2.2.1 bt276.2.2.2.2.2.1 bt276.2.2.2.2.2.2.1 bt276.2.2.2.2.2.2.2 a4).bind fun bt284 => ((basculelaw22_row.f x12_13 a1 0).bind fun bt288 => ((value_Words.f bt288.1 bt288.2.1 bt288.2.2.1 bt288.2.2.2.1 bt288.2.2.2.2.1 bt288.2.2.2.2.2.1 bt288.2.2.2.2.2.2.1 bt288.2.2.2.2.2.2.2 a4).bind fun bt296 => (if t262 = 0 then (if bt274.2 = 0 then (if t261.toList = bt274.1.toList then (if bt284.2 = bt296.2 then (if (bt284.1.length : Int) = (bt296.1.length : Int) then ((basculelaw22_awake.f kj13).bind fun t300 => (if t300 = true then (if bt284.2 = 0 then (if (bt284.1.length : Int) = 2 then (if 0 < (bt284.1.length : Int) then (if 1 < (bt296.1.length : Int) then (if (rd bt284.1 0) = (rd bt296.1 1) then (if 1 < (bt284.1.length : Int) then (if 0 < (bt296.1.length : Int) then (some ((rd bt284.1 1) == (rd bt296.1 0))) else (none)) else (none)) else (some false)) else (none)) else (none)) else (some false)) else (some true)) else (some false))) else (some false)) else (some false)) else (some false)) else (some false)) else (some false))))))) = some r := H
     have A18 := Aside0.mk A180
     clear A180
     obtain ⟨y271, hy271⟩ : ∃ y_ : List Int, y_ = (([a3, a2] : List Int)) := ⟨_, rfl⟩
     replace H : ((value_Text.f t263 t264 t265 t266 t267 t268 t269 t270 y271).bind fun bt274 => ((basculelaw22_row.f x11_13 a1 0).bind fun bt276 => ((value_Words.f bt276.1 bt276.2.1 bt276.2.2.1 bt276.2.2.2.1 bt276.2.2.2.2.1 bt276.2.2.2.2.2.1 bt276.2.2.2.2.2.2.1 bt276.2.2.2.2.2.2.2 a4).bind fun bt284 => ((basculelaw22_row.f x12_13 a1 0).bind fun bt288 => ((value_Words.f bt288.1 bt288.2.1 bt288.2.2.1 bt288.2.2.2.1 bt288.2.2.2.2.1 bt288.2.2.2.2.2.1 bt288.2.2.2.2.2.2.1 bt288.2.2.2.2.2.2.2 a4).bind fun bt296 => (if t262 = 0 then (if bt274.2 = 0 then (if t261.toList = bt274.1.toList then (if bt284.2 = bt296.2 then (if (bt284.1.length : Int) = (bt296.1.length : Int) then ((basculelaw22_awake.f kj13).bind fun t300 => (if t300 = true then (if bt284.2 = 0 then (if (bt284.1.length : Int) = 2 then (if 0 < (bt284.1.length : Int) then (if 1 < (bt296.1.length : Int) then (if (rd bt284.1 0) = (rd bt296.1 1) then (if 1 < (bt284.1.length : Int) then (if 0 < (bt296.1.length : Int) then (some ((rd bt284.1 1) == (rd bt296.1 0))) else (none)) else (none)) else (some false)) else (none)) else (none)) else (some false)) else (some true)) else (some false))) else (some false)) else (some false)) else (some false)) else (some false)) else (some false))))))) = some r := by first | (rw [hy271]; with_reducible exact H) | (have H2_ := (Option.bind_some _ _).symm.trans H; rw [hy271]; with_reducible exact H2_) | (have H2_ := (Option.bind_some _ _).symm.trans H; with_reducible exact H2_) | with_reducible exact H | (rw [hy271]; exact H) | exact H
     have Ny271 := Aside0.mk hy271
     clear hy271
     replace H := Option.bind_eq_some_iff.mp H
     obtain ⟨⟨t274, t275⟩, A190, H⟩ := H
     replace H : ((basculelaw22_row.f x11_13 a1 0).bind fun bt276 => ((value_Words.f bt276.1 bt276.2.1 bt276.2.2.1 bt276.2.2.2.1 bt276.2.2.2.2.1 bt276.2.2.2.2.2.1 bt276.2.2.2.2.2.2.1 bt276.2.2.2.2.2.2.2 a4).bind fun bt284 => ((basculelaw22_row.f x12_13 a1 0).bind fun bt288 => ((value_Words.f bt288.1 bt288.2.1 bt288.2.2.1 bt288.2.2.2.1 bt288.2.2.2.2.1 bt288.2.2.2.2.2.1 bt288.2.2.2.2.2.2.1 bt288.2.2.2.2.2.2.2 a4).bind fun bt296 => (if t262 = 0 then (if t275 = 0 then (if t261.toList = t274.toList then (if bt284.2 = bt296.2 then (if (bt284.1.length : Int) = (bt296.1.length : Int) then ((basculelaw22_awake.f kj13).bind fun t300 => (if t300 = true then (if bt284.2 = 0 then (if (bt284.1.length : Int) = 2 then (if 0 < (bt284.1.length : Int) then (if 1 < (bt296.1.length : Int) then (if (rd bt284.1 0) = (rd bt296.1 1) then (if 1 < (bt284.1.length : Int) then (if 0 < (bt296.1.length : Int) then (some ((rd bt284.1 1) == (rd bt296.1 0))) else (none)) else (none)) else (some false)) else (none)) else (none)) else (some false)) else (some true)) else (some false))) else (some false)) else (some false)) else (some false)) else (some false)) else (some false)))))) = some r := H
     have A19 := Aside0.mk A190
     clear A190
     replace H := Option.bind_eq_some_iff.mp H
     obtain ⟨⟨t276, t277, t278, t279, t280, t281, t282, t283⟩, A200, H⟩ := H
     replace H : ((value_Words.f t276 t277 t278 t279 t280 t281 t282 t283 a4).bind fun bt284 => ((basculelaw22_row.f x12_13 a1 0).bind fun bt288 => ((value_Words.f bt288.1 bt288.2.1 bt288.2.2.1 bt288.2.2.2.1 bt288.2.2.2.2.1 bt288.2.2.2.2.2.1 bt288.2.2.2.2.2.2.1 bt288.2.2.2.2.2.2.2 a4).bind fun bt296 => (if t262 = 0 then (if t275 = 0 then (if t261.toList = t274.toList then (if bt284.2 = bt296.2 then (if (bt284.1.length : Int) = (bt296.1.length : Int) then ((basculelaw22_awake.f kj13).bind fun t300 => (if t300 = true then (if bt284.2 = 0 then (if (bt284.1.length : Int) = 2 then (if 0 < (bt284.1.length : Int) then (if 1 < (bt296.1.length : Int) then (if (rd bt284.1 0) = (rd bt296.1 1) then (if 1 < (bt284.1.length : Int) then (if 0 < (bt296.1.length : Int) then (some ((rd bt284.1 1) == (rd bt296.1 0))) else (none)) else (none)) else (some false)) else (none)) else (none)) else (some false)) else (some true)) else (some false))) else (some false)) else (some false)) else (some false)) else (some false)) else (some false))))) = some r := H
     have A20 := Aside0.mk A200
     clear A200
     replace H := Option.bind_eq_some_iff.mp H
     obtain ⟨⟨t284, t287⟩, A210, H⟩ := H
     replace H : ((basculelaw22_row.f x12_13 a1 0).bind fun bt288 => ((value_Words.f bt288.1 bt288.2.1 bt288.2.2.1 bt288.2.2.2.1 bt288.2.2.2.2.1 bt288.2.2.2.2.2.1 bt288.2.2.2.2.2.2.1 bt288.2.2.2.2.2.2.2 a4).bind fun bt296 => (if t262 = 0 then (if t275 = 0 then (if t261.toList = t274.toList then (if t287 = bt296.2 then (if (t284.length : Int) = (bt296.1.length : Int) then ((basculelaw22_awake.f kj13).bind fun t300 => (if t300 = true then (if t287 = 0 then (if (t284.length : Int) = 2 then (if 0 < (t284.length : Int) then (if 1 < (bt296.1.length : Int) then (if (rd t284 0) = (rd bt296.1 1) then (if 1 < (t284.length : Int) then (if 0 < (bt296.1.length : Int) then (some ((rd t284 1) == (rd bt296.1 0))) else (none)) else (none)) else (some false)) else (none)) else (none)) else (some false)) else (some true)) else (some false))) else (some false)) else (some false)) else (some false)) else (some false)) else (some false)))) = some r := H
     have A21 := Aside0.mk A210
     clear A210
     replace H := Option.bind_eq_some_iff.mp H
     obtain ⟨⟨t288, t289, t290, t291, t292, t293, t294, t295⟩, A220, H⟩ := H
     replace H : ((value_Words.f t288 t289 t290 t291 t292 t293 t294 t295 a4).bind fun bt296 => (if t262 = 0 then (if t275 = 0 then (if t261.toList = t274.toList then (if t287 = bt296.2 then (if (t284.length : Int) = (bt296.1.length : Int) then ((basculelaw22_awake.f kj13).bind fun t300 => (if t300 = true then (if t287 = 0 then (if (t284.length : Int) = 2 then (if 0 < (t284.length : Int) then (if 1 < (bt296.1.length : Int) then (if (rd t284 0) = (rd bt296.1 1) then (if 1 < (t284.length : Int) then (if 0 < (bt296.1.length : Int) then (some ((rd t284 1) == (rd bt296.1 0))) else (none)) else (none)) else (some false)) else (none)) else (none)) else (some false)) else (some true)) else (some false))) else (some false)) else (some false)) else (some false)) else (some false)) else (some false))) = some r := H
     have A22 := Aside0.mk A220
     clear A220
     replace H := Option.bind_eq_some_iff.mp H
     obtain ⟨⟨t296, t299⟩, A230, H⟩ := H
     replace H : (if t262 = 0 then (if t275 = 0 then (if t261.toList = t274.toList then (if t287 = t299 then (if (t284.length : Int) = (t296.length : Int) then ((basculelaw22_awake.f kj13).bind fun t300 => (if t300 = true then (if t287 = 0 then (if (t284.length : Int) = 2 then (if 0 < (t284.length : Int) then (if 1 < (t296.length : Int) then (if (rd t284 0) = (rd t296 1) then (if 1 < (t284.length : Int) then (if 0 < (t296.length : Int) then (some ((rd t284 1) == (rd t296 0))) else (none)) else (none)) else (some false)) else (none)) else (none)) else (some false)) else (some true)) else (some false))) else (some false)) else (some false)) else (some false)) else (some false)) else (some false)) = some r := H
     have A23 := Aside0.mk A230
     clear A230
     by_cases c24 : t262 = 0
     rotate_left
     ·
      rw [if_neg c24] at H
      have c24b0 : (t262 == 0) = false := beq_eq_false_iff_ne.mpr c24
      have c24b1 : (t262 != 0) = true := bne_iff_ne.mpr c24
      exact absurd ((Option.some.inj H).trans hr_.out) (by decide)
     rw [if_pos c24] at H
     have c24b0 : (t262 == 0) = true := beq_iff_eq.mpr c24
     have c24b1 : (t262 != 0) = false := bne_eq_false_iff_eq.mpr c24
     clear c24
     by_cases c25 : t275 = 0
     rotate_left
     ·
      rw [if_neg c25] at H
      have c25b0 : (t275 == 0) = false := beq_eq_false_iff_ne.mpr c25
      have c25b1 : (t275 != 0) = true := bne_iff_ne.mpr c25
      exact absurd ((Option.some.inj H).trans hr_.out) (by decide)
     rw [if_pos c25] at H
     have c25b0 : (t275 == 0) = true := beq_iff_eq.mpr c25
     have c25b1 : (t275 != 0) = false := bne_eq_false_iff_eq.mpr c25
     clear c25
     by_cases c26 : t261.toList = t274.toList
     rotate_left
     ·
      rw [if_neg c26] at H
      have c26b0 : (t261.toList == t274.toList) = false := beq_eq_false_iff_ne.mpr c26
      have c26b1 : (t261.toList != t274.toList) = true := bne_iff_ne.mpr c26
      exact absurd ((Option.some.inj H).trans hr_.out) (by decide)
     rw [if_pos c26] at H
     have c26b0 : (t261.toList == t274.toList) = true := beq_iff_eq.mpr c26
     have c26b1 : (t261.toList != t274.toList) = false := bne_eq_false_iff_eq.mpr c26
     clear c26
     by_cases c27 : t287 = t299
     rotate_left
     ·
      rw [if_neg c27] at H
      have c27b0 : (t287 == t299) = false := beq_eq_false_iff_ne.mpr c27
      have c27b1 : (t287 != t299) = true := bne_iff_ne.mpr c27
      exact absurd ((Option.some.inj H).trans hr_.out) (by decide)
     rw [if_pos c27] at H
     have c27b0 : (t287 == t299) = true := beq_iff_eq.mpr c27
     have c27b1 : (t287 != t299) = false := bne_eq_false_iff_eq.mpr c27
     clear c27
     by_cases c28 : (t284.length : Int) = (t296.length : Int)
     rotate_left
     ·
      rw [if_neg c28] at H
      have c28b0 : ((t284.length : Int) == (t296.length : Int)) = false := beq_eq_false_iff_ne.mpr c28
      have c28b1 : ((t284.length : Int) != (t296.length : Int)) = true := bne_iff_ne.mpr c28
      have c28b2 : (t284.length == t296.length) = false := by first | simpa using c28 | (simp at c28 ⊢; omega)
      exact absurd ((Option.some.inj H).trans hr_.out) (by decide)
     rw [if_pos c28] at H
     have c28b0 : ((t284.length : Int) == (t296.length : Int)) = true := beq_iff_eq.mpr c28
     have c28b1 : ((t284.length : Int) != (t296.length : Int)) = false := bne_eq_false_iff_eq.mpr c28
     have c28b2 : (t284.length == t296.length) = true := by first | simpa using c28 | (simp at c28 ⊢; omega)
     clear c28
     replace H := Option.bind_eq_some_iff.mp H
     obtain ⟨t300, A290, H⟩ := H
     replace H : (if t300 = true then (if t287 = 0 then (if (t284.length : Int) = 2 then (if 0 < (t284.length : Int) then (if 1 < (t296.length : Int) then (if (rd t284 0) = (rd t296 1) then (if 1 < (t284.length : Int) then (if 0 < (t296.length : Int) then (some ((rd t284 1) == (rd t296 0))) else (none)) else (none)) else (some false)) else (none)) else (none)) else (some false)) else (some true)) else (some false)) = some r := H
     have A29 := Aside0.mk A290
     clear A290
     by_cases c30 : t300 = true
     rotate_left
     ·
      replace c30 := Bool.eq_false_iff.mpr c30
      subst c30
      have H1 : (some false) = some r := by rw [if_neg (show ¬ (false = true) by decide)] at H; exact H
      clear H
      have H := H1
      clear H1
      exact absurd ((Option.some.inj H).trans hr_.out) (by decide)
     subst c30
     have H1 : (if t287 = 0 then (if (t284.length : Int) = 2 then (if 0 < (t284.length : Int) then (if 1 < (t296.length : Int) then (if (rd t284 0) = (rd t296 1) then (if 1 < (t284.length : Int) then (if 0 < (t296.length : Int) then (some ((rd t284 1) == (rd t296 0))) else (none)) else (none)) else (some false)) else (none)) else (none)) else (some false)) else (some true)) = some r := by rw [if_pos rfl] at H; exact H
     clear H
     have H := H1
     clear H1
     by_cases c31 : t287 = 0
     rotate_left
     ·
      rw [if_neg c31] at H
      have c31b0 : (t287 == 0) = false := beq_eq_false_iff_ne.mpr c31
      have c31b1 : (t287 != 0) = true := bne_iff_ne.mpr c31
      obtain rfl := Option.some.inj H
      try go_wp2_with (first | ((with_reducible refine gate_callee (f := 22) rfl ?_); refine goesL_ (some 46) rfl rfl Tryz.func22 (by kernel_rfl) rfl #[.int .i64 x11_13, .int .i64 a1, .int .i64 0] rfl zQTa1_ ?_; (with_reducible refine (basculelaw22_row.calls x11_13 a1 0 t250 t251 t252 t253 t254 t255 t256 t257 _ A16.out).mono ?_); rintro e w92 ⟨rfl, hb⟩; refine ⟨_, rfl, ?_⟩; have n0_ := Aside0.mk (below_step zQTa0_ hb); clear HB; have HB := n0_; clear n0_; (try clear hb); (try clear hb2); (try clear hk); (try clear hi)) | ((with_reducible refine gate_dst (N := 49) rfl ?_); (try (refine gate_guard (by rfl) ?_; dsimp only)); refine Kd.R_lit (Kd.int .i64) _ 3 ?hg (N := 49) ?hd (xs := ([a2, a3] : List Int)) (inner := [.int .i64 a2, .int .i64 a3]) (ok := fun _ => True) (okp := fun _ => True) ?hr ?hp (fun _ hk => hk) trivial (Below.refl _ _) (Nat.le_refl _) (by simp) ?_; (case hd => rfl); (case hg => rfl); (case hr => first | (go_simp; done) | (go_simp; rfl)); (case hp => exact (Reps.one (show Kd.M (Kd.int .i64) _ _ _ a2 [.int .i64 a2] from rfl) (Reps.one (show Kd.M (Kd.int .i64) _ _ _ a3 [.int .i64 a3] from rfl) (Reps.none _ _)))); intro v259 w93 ho94 hb hg_ hnew_; clear hg_ hnew_; (first | rw [← Ny258.out] at ho94 | (simp only [Int.reduceToNat] at ho94; rw [← Ny258.out] at ho94)); have n0_ := Aside0.mk (Kd.R_lower ho94 (below_size zQTa0_)); have n1_ := Aside0.mk (below_step zQTa0_ hb); clear HB; have HO260 := n0_; have HB := n1_; clear n0_ n1_; clear hb ho94; obtain ⟨Ao95, co95, eo95⟩ := Kd.R_slice HO260.out; subst eo95) | ((with_reducible refine gate_callee (f := 12) rfl ?_); refine goesL_ (some 50) rfl rfl Tryz.func12 (by kernel_rfl) rfl #[.agg #[.string t250, .int .i64 t251, .int .i64 t252, .int .i64 t253, .int .i64 t254, .int .i64 t255, .int .i64 t256, .bool t257], .slice Ao95 y258.length co95] rfl zQTa1_ ?_; (with_reducible refine (value_Text.calls t250 t251 t252 t253 t254 t255 t256 t257 _ _ y258 t261 t262 _ ?side1 ?side2 (Val.Laid.below hLd_ zQTa0_) A17.out).mono ?_); (case side1 => repeat (first | exact (Kd.R_reads' HO260.out).2.2 | (with_reducible refine Kd.C_alloc ?_ _) | (with_reducible refine Kd.C_drewN ?_ _) | (with_reducible refine Kd.C_drew ?_))); (case side2 => exact (Kd.R_reads' HO260.out).2.1); rintro e w96 ⟨rfl, hb⟩; refine ⟨_, rfl, ?_⟩; have n0_ := Aside0.mk (Kd.R_below zQTa2_ hb); have n1_ := Aside0.mk (below_step zQTa0_ hb); clear HO260; clear HB; have HO260 := n0_; have HB := n1_; clear n0_ n1_; (try clear hb); (try clear hb2); (try clear hk); (try clear hi)) | ((with_reducible refine gate_callee (f := 22) rfl ?_); refine goesL_ (some 56) rfl rfl Tryz.func22 (by kernel_rfl) rfl #[.int .i64 x12_13, .int .i64 a1, .int .i64 0] rfl zQTa1_ ?_; (with_reducible refine (basculelaw22_row.calls x12_13 a1 0 t263 t264 t265 t266 t267 t268 t269 t270 _ A18.out).mono ?_); rintro e w97 ⟨rfl, hb⟩; refine ⟨_, rfl, ?_⟩; have n0_ := Aside0.mk (Kd.R_below zQTa2_ hb); have n1_ := Aside0.mk (below_step zQTa0_ hb); clear HO260; clear HB; have HO260 := n0_; have HB := n1_; clear n0_ n1_; (try clear hb); (try clear hb2); (try clear hk); (try clear hi)) | ((with_reducible refine gate_dst (N := 59) rfl ?_); (try (refine gate_guard (by rfl) ?_; dsimp only)); refine Kd.R_lit (Kd.int .i64) _ 3 ?hg (N := 59) ?hd (xs := ([a3, a2] : List Int)) (inner := [.int .i64 a3, .int .i64 a2]) (ok := fun _ => True) (okp := fun _ => True) ?hr ?hp (fun _ hk => hk) trivial (Below.refl _ _) (Nat.le_refl _) (by simp) ?_; (case hd => rfl); (case hg => rfl); (case hr => first | (go_simp; done) | (go_simp; rfl)); (case hp => exact (Reps.one (show Kd.M (Kd.int .i64) _ _ _ a3 [.int .i64 a3] from rfl) (Reps.one (show Kd.M (Kd.int .i64) _ _ _ a2 [.int .i64 a2] from rfl) (Reps.none _ _)))); intro v272 w98 ho99 hb hg_ hnew_; clear hg_ hnew_; (first | rw [← Ny271.out] at ho99 | (simp only [Int.reduceToNat] at ho99; rw [← Ny271.out] at ho99)); have n0_ := Aside0.mk (Kd.R_elder' zQTa2_ (Kd.R_base ho99) hb); have n1_ := Aside0.mk (Kd.R_lower (Kd.R_new' ho99 (Kd.R_lt zQTa2_)) (below_size zQTa0_)); have n2_ := Aside0.mk (below_step zQTa0_ hb); clear HO260; clear HB; have HO260 := n0_; have HO273 := n1_; have HB := n2_; clear n0_ n1_ n2_; clear hb ho99; obtain ⟨Ao100, co100, eo100⟩ := Kd.R_slice HO273.out; subst eo100) | ((with_reducible refine gate_callee (f := 12) rfl ?_); refine goesL_ (some 60) rfl rfl Tryz.func12 (by kernel_rfl) rfl #[.agg #[.string t263, .int .i64 t264, .int .i64 t265, .int .i64 t266, .int .i64 t267, .int .i64 t268, .int .i64 t269, .bool t270], .slice Ao100 y271.length co100] rfl zQTa1_ ?_; (with_reducible refine (value_Text.calls t263 t264 t265 t266 t267 t268 t269 t270 _ _ y271 t274 t275 _ ?side1 ?side2 (Val.Laid.below hLd_ zQTa0_) A19.out).mono ?_); (case side1 => repeat (first | exact (Kd.R_reads' HO273.out).2.2 | (with_reducible refine Kd.C_alloc ?_ _) | (with_reducible refine Kd.C_drewN ?_ _) | (with_reducible refine Kd.C_drew ?_))); (case side2 => exact (Kd.R_reads' HO273.out).2.1); rintro e w101 ⟨rfl, hb⟩; refine ⟨_, rfl, ?_⟩; have n0_ := Aside0.mk (Kd.R_below zQTa2_ hb); have n1_ := Aside0.mk (Kd.R_below zQTa3_ hb); have n2_ := Aside0.mk (below_step zQTa0_ hb); clear HO260; clear HO273; clear HB; have HO260 := n0_; have HO273 := n1_; have HB := n2_; clear n0_ n1_ n2_; (try clear hb); (try clear hb2); (try clear hk); (try clear hi)) | ((with_reducible refine gate_callee (f := 22) rfl ?_); refine goesL_ (some 66) rfl rfl Tryz.func22 (by kernel_rfl) rfl #[.int .i64 x11_13, .int .i64 a1, .int .i64 0] rfl zQTa1_ ?_; (with_reducible refine (basculelaw22_row.calls x11_13 a1 0 t276 t277 t278 t279 t280 t281 t282 t283 _ A20.out).mono ?_); rintro e w102 ⟨rfl, hb⟩; refine ⟨_, rfl, ?_⟩; have n0_ := Aside0.mk (Kd.R_below zQTa2_ hb); have n1_ := Aside0.mk (Kd.R_below zQTa3_ hb); have n2_ := Aside0.mk (below_step zQTa0_ hb); clear HO260; clear HO273; clear HB; have HO260 := n0_; have HO273 := n1_; have HB := n2_; clear n0_ n1_ n2_; (try clear hb); (try clear hb2); (try clear hk); (try clear hi)) | ((with_reducible refine gate_callee (f := 18) rfl ?_); refine goesL_ (some 68) rfl rfl Tryz.func18 (by kernel_rfl) rfl #[.agg #[.string t276, .int .i64 t277, .int .i64 t278, .int .i64 t279, .int .i64 t280, .int .i64 t281, .int .i64 t282, .bool t283], .string a4] rfl zQTa1_ ?_; (with_reducible refine (value_Words.calls t276 t277 t278 t279 t280 t281 t282 t283 a4 t284 t287 _ (Val.Laid.below hLd_ zQTa0_) A21.out).mono ?_); rintro e w103 ⟨v285, rfl, ho0, hb⟩; refine ⟨_, rfl, ?_⟩; have n0_ := Aside0.mk (Kd.R_elder' zQTa2_ (Kd.R_base ho0) hb); have n1_ := Aside0.mk (Kd.R_elder' zQTa3_ (Kd.R_base ho0) hb); have n2_ := Aside0.mk (Kd.R_lower (Kd.R_new' (Kd.R_new' ho0 (Kd.R_lt zQTa2_)) (Kd.R_lt zQTa3_)) (below_size zQTa0_)); have n3_ := Aside0.mk (below_step zQTa0_ hb); clear HO260; clear HO273; clear HB; have HO260 := n0_; have HO273 := n1_; have HO286 := n2_; have HB := n3_; clear n0_ n1_ n2_ n3_; (try clear hb); (try clear hb2); (try clear hk); (try clear hi); (try clear ho0)) | ((with_reducible refine gate_callee (f := 22) rfl ?_); refine goesL_ (some 74) rfl rfl Tryz.func22 (by kernel_rfl) rfl #[.int .i64 x12_13, .int .i64 a1, .int .i64 0] rfl zQTa1_ ?_; (with_reducible refine (basculelaw22_row.calls x12_13 a1 0 t288 t289 t290 t291 t292 t293 t294 t295 _ A22.out).mono ?_); rintro e w104 ⟨rfl, hb⟩; refine ⟨_, rfl, ?_⟩; have n0_ := Aside0.mk (Kd.R_below zQTa2_ hb); have n1_ := Aside0.mk (Kd.R_below zQTa3_ hb); have n2_ := Aside0.mk (Kd.R_below zQTa4_ hb); have n3_ := Aside0.mk (below_step zQTa0_ hb); clear HO260; clear HO273; clear HO286; clear HB; have HO260 := n0_; have HO273 := n1_; have HO286 := n2_; have HB := n3_; clear n0_ n1_ n2_ n3_; (try clear hb); (try clear hb2); (try clear hk); (try clear hi)) | ((with_reducible refine gate_callee (f := 18) rfl ?_); refine goesL_ (some 76) rfl rfl Tryz.func18 (by kernel_rfl) rfl #[.agg #[.string t288, .int .i64 t289, .int .i64 t290, .int .i64 t291, .int .i64 t292, .int .i64 t293, .int .i64 t294, .bool t295], .string a4] rfl zQTa1_ ?_; (with_reducible refine (value_Words.calls t288 t289 t290 t291 t292 t293 t294 t295 a4 t296 t299 _ (Val.Laid.below hLd_ zQTa0_) A23.out).mono ?_); rintro e w105 ⟨v297, rfl, ho0, hb⟩; refine ⟨_, rfl, ?_⟩; have n0_ := Aside0.mk (Kd.R_elder' zQTa2_ (Kd.R_base ho0) hb); have n1_ := Aside0.mk (Kd.R_elder' zQTa3_ (Kd.R_base ho0) hb); have n2_ := Aside0.mk (Kd.R_elder' zQTa4_ (Kd.R_base ho0) hb); have n3_ := Aside0.mk (Kd.R_lower (Kd.R_new' (Kd.R_new' (Kd.R_new' ho0 (Kd.R_lt zQTa2_)) (Kd.R_lt zQTa3_)) (Kd.R_lt zQTa4_)) (below_size zQTa0_)); have n4_ := Aside0.mk (below_step zQTa0_ hb); clear HO260; clear HO273; clear HO286; clear HB; have HO260 := n0_; have HO273 := n1_; have HO286 := n2_; have HO298 := n3_; have HB := n4_; clear n0_ n1_ n2_ n3_ n4_; (try clear hb); (try clear hb2); (try clear hk); (try clear hi); (try clear ho0); obtain ⟨Ao106, co106, eo106⟩ := Kd.R_slice HO286.out; subst eo106; obtain ⟨Ao107, co107, eo107⟩ := Kd.R_slice HO298.out; subst eo107))
      have n0_ := Aside0.mk (Kd.R_drew HO260.out)
      have n1_ := Aside0.mk (Kd.R_drew HO273.out)
      have n2_ := Aside0.mk (Kd.R_drew HO286.out)
      have n3_ := Aside0.mk (Kd.R_drew HO298.out)
      have n4_ := Aside0.mk (below_drew1 HB.out)
      clear HO260
      clear HO273
      clear HO286
      clear HO298
      clear HB
      have HO260 := n0_
      have HO273 := n1_
      have HO286 := n2_
      have HO298 := n3_
      have HB := n4_
      clear n0_ n1_ n2_ n3_ n4_
      refine start_ (n := 29) (S := fun w' => True) (ds := []) #[false, false, false, false, false, false, false, false, false, false, false, false, false, false, false, false, false, false, false, false, false, false, false, false, false, false, false, false, false] (by kernel_rfl) rfl rfl trivial (fun hHeld => ?_); refine with_tabW basculelaw22_ValueTurned.tab14 basculelaw22_ValueTurned.bits14 (fun HT_ HW_ => ?_)
      generalize w105.drew = w108 at HO260 HO273 HO286 HO298 HB hHeld ⊢
      refine one_ (i := 0) (N := some 102) #[true, false, false, false, false, false, false, false, false, false, false, false, false, false, false, false, false, false, false, false, false, false, false, false, false, false, false, false, false] rfl rfl (one_of HT_.out (by kernel_rfl)) (by decide) (fun K hK => ?_)
      refine goes_ Tryz.func16 (by kernel_rfl) rfl #[] (by rfl) rfl rfl zQTa1_ ?_
      with_reducible refine (basculelaw22_awake.calls kj13  true _ (Val.Laid.below hLd_ zQTa0_) A29.out).mono ?_
      rintro e w109 ⟨rfl, hb⟩
      refine ⟨_, rfl, ?_⟩
      have n0_ := Aside0.mk (Kd.R_below zQTa2_ hb)
      have n1_ := Aside0.mk (Kd.R_below zQTa3_ hb)
      have n2_ := Aside0.mk (Kd.R_below zQTa4_ hb)
      have n3_ := Aside0.mk (Kd.R_below zQTa7_ hb)
      have n4_ := Aside0.mk (below_step zQTa0_ hb)
      clear HO260
      clear HO273
      clear HO286
      clear HO298
      clear HB
      have HO260 := n0_
      have HO273 := n1_
      have HO286 := n2_
      have HO298 := n3_
      have HB := n4_
      clear n0_ n1_ n2_ n3_ n4_
      (try clear hb)
      (try clear hb2)
      (try clear hk)
      (try clear hi)
      refine hK.out _ _ trivial (fun hHeld => ?_)
      clear hK K
      refine norm_ (a' := ?_) ?_ ?_
      rotate_left
      ·
       show Act.put _ (some 102) _ = _
       simp only [Act.put, List.setIfInBounds_toArray, List.set_cons_zero, List.set_cons_succ, i64_w, i32_w]
       rfl
      refine pure_ (i := 1) (N := some 103) (v := ?_) (a' := ?_) #[true, true, false, false, false, false, false, false, false, false, false, false, false, false, false, false, false, false, false, false, false, false, false, false, false, false, false, false, false] rfl rfl (any_of HT_.out (by kernel_rfl)) (fun _ _ _ h => h) (Or.inl ⟨by rfl, ?_⟩) ?_ ?_
      rotate_left
      ·
       intro w'
       go_simp
       with_reducible rfl
      rotate_left
      ·
       simp only [Act.put, List.setIfInBounds_toArray, List.set_cons_zero, List.set_cons_succ, i64_w, i32_w]
       rfl
      refine pure_ (i := 2) (N := some 104) (v := ?_) (a' := ?_) #[true, true, true, false, false, false, false, false, false, false, false, false, false, false, false, false, false, false, false, false, false, false, false, false, false, false, false, false, false] rfl rfl (any_of HT_.out (by kernel_rfl)) (fun _ _ _ h => h) (Or.inl ⟨by rfl, ?_⟩) ?_ ?_
      rotate_left
      ·
       intro w'
       go_simp
       with_reducible rfl
      rotate_left
      ·
       simp only [Act.put, List.setIfInBounds_toArray, List.set_cons_zero, List.set_cons_succ, i64_w, i32_w]
       rfl
      refine pure_ (i := 3) (N := some 105) (v := ?_) (a' := ?_) #[true, true, true, true, false, false, false, false, false, false, false, false, false, false, false, false, false, false, false, false, false, false, false, false, false, false, false, false, false] rfl rfl (any_of HT_.out (by kernel_rfl)) (fun _ _ _ h => h) (Or.inl ⟨by rfl, ?_⟩) ?_ ?_
      rotate_left
      ·
       intro w'
       go_simp
       with_reducible rfl
      rotate_left
      ·
       simp only [Act.put, List.setIfInBounds_toArray, List.set_cons_zero, List.set_cons_succ, i64_w, i32_w]
       rfl
      refine pure_ (i := 4) (N := some 106) (v := ?_) (a' := ?_) #[true, true, true, true, true, false, false, false, false, false, false, false, false, false, false, false, false, false, false, false, false, false, false, false, false, false, false, false, false] rfl rfl (any_of HT_.out (by kernel_rfl)) (fun _ _ _ h => h) (Or.inl ⟨by rfl, ?_⟩) ?_ ?_
      rotate_left
      ·
       intro w'
       go_simp
       with_reducible rfl
      rotate_left
      ·
       simp only [Act.put, List.setIfInBounds_toArray, List.set_cons_zero, List.set_cons_succ, i64_w, i32_w]
       rfl
      refine pure_ (i := 5) (N := some 107) (v := undef) (a' := ?_) #[true, true, true, true, true, true, false, false, false, false, false, false, false, false, false, false, false, false, false, false, false, false, false, false, false, false, false, false, false] rfl rfl (any_of HT_.out (by kernel_rfl)) (fun _ _ _ h => h) (Or.inr ⟨by rfl, rfl⟩) ?_ ?_
      rotate_left
      ·
       simp only [Act.put, List.setIfInBounds_toArray, List.set_cons_zero, List.set_cons_succ, i64_w, i32_w]
       rfl
      refine pure_ (i := 6) (N := some 108) (v := undef) (a' := ?_) #[true, true, true, true, true, true, true, false, false, false, false, false, false, false, false, false, false, false, false, false, false, false, false, false, false, false, false, false, false] rfl rfl (any_of HT_.out (by kernel_rfl)) (fun _ _ _ h => h) (Or.inr ⟨by rfl, rfl⟩) ?_ ?_
      rotate_left
      ·
       simp only [Act.put, List.setIfInBounds_toArray, List.set_cons_zero, List.set_cons_succ, i64_w, i32_w]
       rfl
      refine pure_ (i := 7) (N := some 109) (v := undef) (a' := ?_) #[true, true, true, true, true, true, true, true, false, false, false, false, false, false, false, false, false, false, false, false, false, false, false, false, false, false, false, false, false] rfl rfl (any_of HT_.out (by kernel_rfl)) (fun _ _ _ h => h) (Or.inr ⟨by rfl, rfl⟩) ?_ ?_
      rotate_left
      ·
       simp only [Act.put, List.setIfInBounds_toArray, List.set_cons_zero, List.set_cons_succ, i64_w, i32_w]
       rfl
      refine pure_ (i := 8) (N := some 110) (v := undef) (a' := ?_) #[true, true, true, true, true, true, true, true, true, false, false, false, false, false, false, false, false, false, false, false, false, false, false, false, false, false, false, false, false] rfl rfl (any_of HT_.out (by kernel_rfl)) (fun _ _ _ h => h) (Or.inr ⟨by rfl, rfl⟩) ?_ ?_
      rotate_left
      ·
       simp only [Act.put, List.setIfInBounds_toArray, List.set_cons_zero, List.set_cons_succ, i64_w, i32_w]
       rfl
      refine pure_ (i := 9) (N := some 111) (v := undef) (a' := ?_) #[true, true, true, true, true, true, true, true, true, true, false, false, false, false, false, false, false, false, false, false, false, false, false, false, false, false, false, false, false] rfl rfl (any_of HT_.out (by kernel_rfl)) (fun _ _ _ h => h) (Or.inr ⟨by rfl, rfl⟩) ?_ ?_
      rotate_left
      ·
       simp only [Act.put, List.setIfInBounds_toArray, List.set_cons_zero, List.set_cons_succ, i64_w, i32_w]
       rfl
      refine pure_ (i := 10) (N := some 112) (v := undef) (a' := ?_) #[true, true, true, true, true, true, true, true, true, true, true, false, false, false, false, false, false, false, false, false, false, false, false, false, false, false, false, false, false] rfl rfl (any_of HT_.out (by kernel_rfl)) (fun _ _ _ h => h) (Or.inr ⟨by rfl, rfl⟩) ?_ ?_
      rotate_left
      ·
       simp only [Act.put, List.setIfInBounds_toArray, List.set_cons_zero, List.set_cons_succ, i64_w, i32_w]
       rfl
      refine pure_ (i := 11) (N := some 113) (v := undef) (a' := ?_) #[true, true, true, true, true, true, true, true, true, true, true, true, false, false, false, false, false, false, false, false, false, false, false, false, false, false, false, false, false] rfl rfl (any_of HT_.out (by kernel_rfl)) (fun _ _ _ h => h) (Or.inr ⟨by rfl, rfl⟩) ?_ ?_
      rotate_left
      ·
       simp only [Act.put, List.setIfInBounds_toArray, List.set_cons_zero, List.set_cons_succ, i64_w, i32_w]
       rfl
      refine pure_ (i := 12) (N := some 114) (v := undef) (a' := ?_) #[true, true, true, true, true, true, true, true, true, true, true, true, true, false, false, false, false, false, false, false, false, false, false, false, false, false, false, false, false] rfl rfl (any_of HT_.out (by kernel_rfl)) (fun _ _ _ h => h) (Or.inr ⟨by rfl, rfl⟩) ?_ ?_
      rotate_left
      ·
       simp only [Act.put, List.setIfInBounds_toArray, List.set_cons_zero, List.set_cons_succ, i64_w, i32_w]
       rfl
      refine pure_ (i := 13) (N := some 115) (v := undef) (a' := ?_) #[true, true, true, true, true, true, true, true, true, true, true, true, true, true, false, false, false, false, false, false, false, false, false, false, false, false, false, false, false] rfl rfl (any_of HT_.out (by kernel_rfl)) (fun _ _ _ h => h) (Or.inr ⟨by rfl, rfl⟩) ?_ ?_
      rotate_left
      ·
       simp only [Act.put, List.setIfInBounds_toArray, List.set_cons_zero, List.set_cons_succ, i64_w, i32_w]
       rfl
      refine pure_ (i := 14) (N := some 116) (v := undef) (a' := ?_) #[true, true, true, true, true, true, true, true, true, true, true, true, true, true, true, false, false, false, false, false, false, false, false, false, false, false, false, false, false] rfl rfl (any_of HT_.out (by kernel_rfl)) (fun _ _ _ h => h) (Or.inr ⟨by rfl, rfl⟩) ?_ ?_
      rotate_left
      ·
       simp only [Act.put, List.setIfInBounds_toArray, List.set_cons_zero, List.set_cons_succ, i64_w, i32_w]
       rfl
      refine pure_ (i := 15) (N := some 117) (v := undef) (a' := ?_) #[true, true, true, true, true, true, true, true, true, true, true, true, true, true, true, true, false, false, false, false, false, false, false, false, false, false, false, false, false] rfl rfl (any_of HT_.out (by kernel_rfl)) (fun _ _ _ h => h) (Or.inr ⟨by rfl, rfl⟩) ?_ ?_
      rotate_left
      ·
       simp only [Act.put, List.setIfInBounds_toArray, List.set_cons_zero, List.set_cons_succ, i64_w, i32_w]
       rfl
      refine pure_ (i := 16) (N := some 118) (v := undef) (a' := ?_) #[true, true, true, true, true, true, true, true, true, true, true, true, true, true, true, true, true, false, false, false, false, false, false, false, false, false, false, false, false] rfl rfl (any_of HT_.out (by kernel_rfl)) (fun _ _ _ h => h) (Or.inr ⟨by rfl, rfl⟩) ?_ ?_
      rotate_left
      ·
       simp only [Act.put, List.setIfInBounds_toArray, List.set_cons_zero, List.set_cons_succ, i64_w, i32_w]
       rfl
      refine pure_ (i := 17) (N := some 119) (v := undef) (a' := ?_) #[true, true, true, true, true, true, true, true, true, true, true, true, true, true, true, true, true, true, false, false, false, false, false, false, false, false, false, false, false] rfl rfl (any_of HT_.out (by kernel_rfl)) (fun _ _ _ h => h) (Or.inr ⟨by rfl, rfl⟩) ?_ ?_
      rotate_left
      ·
       simp only [Act.put, List.setIfInBounds_toArray, List.set_cons_zero, List.set_cons_succ, i64_w, i32_w]
       rfl
      refine pure_ (i := 18) (N := some 120) (v := undef) (a' := ?_) #[true, true, true, true, true, true, true, true, true, true, true, true, true, true, true, true, true, true, true, false, false, false, false, false, false, false, false, false, false] rfl rfl (any_of HT_.out (by kernel_rfl)) (fun _ _ _ h => h) (Or.inr ⟨by rfl, rfl⟩) ?_ ?_
      rotate_left
      ·
       simp only [Act.put, List.setIfInBounds_toArray, List.set_cons_zero, List.set_cons_succ, i64_w, i32_w]
       rfl
      refine pure_ (i := 19) (N := some 121) (v := undef) (a' := ?_) #[true, true, true, true, true, true, true, true, true, true, true, true, true, true, true, true, true, true, true, true, false, false, false, false, false, false, false, false, false] rfl rfl (any_of HT_.out (by kernel_rfl)) (fun _ _ _ h => h) (Or.inr ⟨by rfl, rfl⟩) ?_ ?_
      rotate_left
      ·
       simp only [Act.put, List.setIfInBounds_toArray, List.set_cons_zero, List.set_cons_succ, i64_w, i32_w]
       rfl
      refine pure_ (i := 20) (N := some 122) (v := undef) (a' := ?_) #[true, true, true, true, true, true, true, true, true, true, true, true, true, true, true, true, true, true, true, true, true, false, false, false, false, false, false, false, false] rfl rfl (any_of HT_.out (by kernel_rfl)) (fun _ _ _ h => h) (Or.inr ⟨by rfl, rfl⟩) ?_ ?_
      rotate_left
      ·
       simp only [Act.put, List.setIfInBounds_toArray, List.set_cons_zero, List.set_cons_succ, i64_w, i32_w]
       rfl
      refine pure_ (i := 21) (N := some 123) (v := undef) (a' := ?_) #[true, true, true, true, true, true, true, true, true, true, true, true, true, true, true, true, true, true, true, true, true, true, false, false, false, false, false, false, false] rfl rfl (any_of HT_.out (by kernel_rfl)) (fun _ _ _ h => h) (Or.inr ⟨by rfl, rfl⟩) ?_ ?_
      rotate_left
      ·
       simp only [Act.put, List.setIfInBounds_toArray, List.set_cons_zero, List.set_cons_succ, i64_w, i32_w]
       rfl
      refine pure_ (i := 22) (N := some 124) (v := undef) (a' := ?_) #[true, true, true, true, true, true, true, true, true, true, true, true, true, true, true, true, true, true, true, true, true, true, true, false, false, false, false, false, false] rfl rfl (any_of HT_.out (by kernel_rfl)) (fun _ _ _ h => h) (Or.inr ⟨by rfl, rfl⟩) ?_ ?_
      rotate_left
      ·
       simp only [Act.put, List.setIfInBounds_toArray, List.set_cons_zero, List.set_cons_succ, i64_w, i32_w]
       rfl
      refine pure_ (i := 23) (N := some 125) (v := undef) (a' := ?_) #[true, true, true, true, true, true, true, true, true, true, true, true, true, true, true, true, true, true, true, true, true, true, true, true, false, false, false, false, false] rfl rfl (any_of HT_.out (by kernel_rfl)) (fun _ _ _ h => h) (Or.inr ⟨by rfl, rfl⟩) ?_ ?_
      rotate_left
      ·
       simp only [Act.put, List.setIfInBounds_toArray, List.set_cons_zero, List.set_cons_succ, i64_w, i32_w]
       rfl
      refine pure_ (i := 24) (N := some 126) (v := undef) (a' := ?_) #[true, true, true, true, true, true, true, true, true, true, true, true, true, true, true, true, true, true, true, true, true, true, true, true, true, false, false, false, false] rfl rfl (any_of HT_.out (by kernel_rfl)) (fun _ _ _ h => h) (Or.inr ⟨by rfl, rfl⟩) ?_ ?_
      rotate_left
      ·
       simp only [Act.put, List.setIfInBounds_toArray, List.set_cons_zero, List.set_cons_succ, i64_w, i32_w]
       rfl
      refine pure_ (i := 25) (N := some 127) (v := undef) (a' := ?_) #[true, true, true, true, true, true, true, true, true, true, true, true, true, true, true, true, true, true, true, true, true, true, true, true, true, true, false, false, false] rfl rfl (any_of HT_.out (by kernel_rfl)) (fun _ _ _ h => h) (Or.inr ⟨by rfl, rfl⟩) ?_ ?_
      rotate_left
      ·
       simp only [Act.put, List.setIfInBounds_toArray, List.set_cons_zero, List.set_cons_succ, i64_w, i32_w]
       rfl
      refine pure_ (i := 26) (N := some 128) (v := ?_) (a' := ?_) #[true, true, true, true, true, true, true, true, true, true, true, true, true, true, true, true, true, true, true, true, true, true, true, true, true, true, true, false, false] rfl rfl (any_of HT_.out (by kernel_rfl)) (fun _ _ _ h => h) (Or.inl ⟨by rfl, ?_⟩) ?_ ?_
      rotate_left
      ·
       intro w'
       go_simp
       with_reducible rfl
      rotate_left
      ·
       simp only [Act.put, List.setIfInBounds_toArray, List.set_cons_zero, List.set_cons_succ, i64_w, i32_w]
       rfl
      refine pure_ (i := 27) (N := some 129) (v := ?_) (a' := ?_) #[true, true, true, true, true, true, true, true, true, true, true, true, true, true, true, true, true, true, true, true, true, true, true, true, true, true, true, true, false] rfl rfl (any_of HT_.out (by kernel_rfl)) (fun _ _ _ h => h) (Or.inl ⟨by rfl, ?_⟩) ?_ ?_
      rotate_left
      ·
       intro w'
       go_simp
       with_reducible rfl
      rotate_left
      ·
       simp only [Act.put, List.setIfInBounds_toArray, List.set_cons_zero, List.set_cons_succ, i64_w, i32_w]
       rfl
      refine pure_ (i := 28) (N := some 10) (v := ?_) (a' := ?_) #[true, true, true, true, true, true, true, true, true, true, true, true, true, true, true, true, true, true, true, true, true, true, true, true, true, true, true, true, true] rfl rfl (any_of HT_.out (by kernel_rfl)) (fun _ _ _ h => h) (Or.inl ⟨by rfl, ?_⟩) ?_ ?_
      rotate_left
      ·
       intro w'
       go_simp
       with_reducible rfl
      rotate_left
      ·
       simp only [Act.put, List.setIfInBounds_toArray, List.set_cons_zero, List.set_cons_succ, i64_w, i32_w]
       rfl
      refine done_ (done_of HT_.out (by kernel_rfl)) ?_
      try go_wp2
      go_ret
      exact ⟨zQTa6_, zQTa0_⟩
     rw [if_pos c31] at H
     have c31b0 : (t287 == 0) = true := beq_iff_eq.mpr c31
     have c31b1 : (t287 != 0) = false := bne_eq_false_iff_eq.mpr c31
     clear c31
     by_cases c32 : (t284.length : Int) = 2
     rotate_left
     ·
      rw [if_neg c32] at H
      have c32b0 : ((t284.length : Int) == 2) = false := beq_eq_false_iff_ne.mpr c32
      have c32b1 : ((t284.length : Int) != 2) = true := bne_iff_ne.mpr c32
      exact absurd ((Option.some.inj H).trans hr_.out) (by decide)
     rw [if_pos c32] at H
     have c32b0 : ((t284.length : Int) == 2) = true := beq_iff_eq.mpr c32
     have c32b1 : ((t284.length : Int) != 2) = false := bne_eq_false_iff_eq.mpr c32
     clear c32
     have c33 : 0 < (t284.length : Int) := znQT_
     rw [if_pos c33] at H
     have c33b0 : decide (0 < (t284.length : Int)) = true := decide_eq_true c33
     have c33b1 : decide (0 < t284.length) = true := decide_eq_true (by omega)
     clear c33
     have c34 : 1 < (t296.length : Int) := znQT_
     rw [if_pos c34] at H
     have c34b0 : decide (1 < (t296.length : Int)) = true := decide_eq_true c34
     have c34b1 : decide (1 < t296.length) = true := decide_eq_true (by omega)
     clear c34
     by_cases c35 : (rd t284 0) = (rd t296 1)
     rotate_left
     ·
      rw [if_neg c35] at H
      have c35b0 : ((rd t284 0) == (rd t296 1)) = false := beq_eq_false_iff_ne.mpr c35
      have c35b1 : ((rd t284 0) != (rd t296 1)) = true := bne_iff_ne.mpr c35
      exact absurd ((Option.some.inj H).trans hr_.out) (by decide)
     rw [if_pos c35] at H
     have c35b0 : ((rd t284 0) == (rd t296 1)) = true := beq_iff_eq.mpr c35
     have c35b1 : ((rd t284 0) != (rd t296 1)) = false := bne_eq_false_iff_eq.mpr c35
     clear c35
     have c36 : 1 < (t284.length : Int) := znQT_
     rw [if_pos c36] at H
     have c36b0 : decide (1 < (t284.length : Int)) = true := decide_eq_true c36
     have c36b1 : decide (1 < t284.length) = true := decide_eq_true (by omega)
     clear c36
     have c37 : 0 < (t296.length : Int) := znQT_
     rw [if_pos c37] at H
     have c37b0 : decide (0 < (t296.length : Int)) = true := decide_eq_true c37
     have c37b1 : decide (0 < t296.length) = true := decide_eq_true (by omega)
     clear c37
     obtain rfl := Option.some.inj H
     try go_wp2_with (first | ((with_reducible refine gate_callee (f := 22) rfl ?_); refine goesL_ (some 46) rfl rfl Tryz.func22 (by kernel_rfl) rfl #[.int .i64 x11_13, .int .i64 a1, .int .i64 0] rfl zQTa1_ ?_; (with_reducible refine (basculelaw22_row.calls x11_13 a1 0 t250 t251 t252 t253 t254 t255 t256 t257 _ A16.out).mono ?_); rintro e w38 ⟨rfl, hb⟩; refine ⟨_, rfl, ?_⟩; have n0_ := Aside0.mk (below_step zQTa0_ hb); clear HB; have HB := n0_; clear n0_; (try clear hb); (try clear hb2); (try clear hk); (try clear hi)) | ((with_reducible refine gate_dst (N := 49) rfl ?_); (try (refine gate_guard (by rfl) ?_; dsimp only)); refine Kd.R_lit (Kd.int .i64) _ 3 ?hg (N := 49) ?hd (xs := ([a2, a3] : List Int)) (inner := [.int .i64 a2, .int .i64 a3]) (ok := fun _ => True) (okp := fun _ => True) ?hr ?hp (fun _ hk => hk) trivial (Below.refl _ _) (Nat.le_refl _) (by simp) ?_; (case hd => rfl); (case hg => rfl); (case hr => first | (go_simp; done) | (go_simp; rfl)); (case hp => exact (Reps.one (show Kd.M (Kd.int .i64) _ _ _ a2 [.int .i64 a2] from rfl) (Reps.one (show Kd.M (Kd.int .i64) _ _ _ a3 [.int .i64 a3] from rfl) (Reps.none _ _)))); intro v259 w39 ho40 hb hg_ hnew_; clear hg_ hnew_; (first | rw [← Ny258.out] at ho40 | (simp only [Int.reduceToNat] at ho40; rw [← Ny258.out] at ho40)); have n0_ := Aside0.mk (Kd.R_lower ho40 (below_size zQTa0_)); have n1_ := Aside0.mk (below_step zQTa0_ hb); clear HB; have HO260 := n0_; have HB := n1_; clear n0_ n1_; clear hb ho40; obtain ⟨Ao41, co41, eo41⟩ := Kd.R_slice HO260.out; subst eo41) | ((with_reducible refine gate_callee (f := 12) rfl ?_); refine goesL_ (some 50) rfl rfl Tryz.func12 (by kernel_rfl) rfl #[.agg #[.string t250, .int .i64 t251, .int .i64 t252, .int .i64 t253, .int .i64 t254, .int .i64 t255, .int .i64 t256, .bool t257], .slice Ao41 y258.length co41] rfl zQTa1_ ?_; (with_reducible refine (value_Text.calls t250 t251 t252 t253 t254 t255 t256 t257 _ _ y258 t261 t262 _ ?side1 ?side2 (Val.Laid.below hLd_ zQTa0_) A17.out).mono ?_); (case side1 => repeat (first | exact (Kd.R_reads' HO260.out).2.2 | (with_reducible refine Kd.C_alloc ?_ _) | (with_reducible refine Kd.C_drewN ?_ _) | (with_reducible refine Kd.C_drew ?_))); (case side2 => exact (Kd.R_reads' HO260.out).2.1); rintro e w42 ⟨rfl, hb⟩; refine ⟨_, rfl, ?_⟩; have n0_ := Aside0.mk (Kd.R_below zQTa2_ hb); have n1_ := Aside0.mk (below_step zQTa0_ hb); clear HO260; clear HB; have HO260 := n0_; have HB := n1_; clear n0_ n1_; (try clear hb); (try clear hb2); (try clear hk); (try clear hi)) | ((with_reducible refine gate_callee (f := 22) rfl ?_); refine goesL_ (some 56) rfl rfl Tryz.func22 (by kernel_rfl) rfl #[.int .i64 x12_13, .int .i64 a1, .int .i64 0] rfl zQTa1_ ?_; (with_reducible refine (basculelaw22_row.calls x12_13 a1 0 t263 t264 t265 t266 t267 t268 t269 t270 _ A18.out).mono ?_); rintro e w43 ⟨rfl, hb⟩; refine ⟨_, rfl, ?_⟩; have n0_ := Aside0.mk (Kd.R_below zQTa2_ hb); have n1_ := Aside0.mk (below_step zQTa0_ hb); clear HO260; clear HB; have HO260 := n0_; have HB := n1_; clear n0_ n1_; (try clear hb); (try clear hb2); (try clear hk); (try clear hi)) | ((with_reducible refine gate_dst (N := 59) rfl ?_); (try (refine gate_guard (by rfl) ?_; dsimp only)); refine Kd.R_lit (Kd.int .i64) _ 3 ?hg (N := 59) ?hd (xs := ([a3, a2] : List Int)) (inner := [.int .i64 a3, .int .i64 a2]) (ok := fun _ => True) (okp := fun _ => True) ?hr ?hp (fun _ hk => hk) trivial (Below.refl _ _) (Nat.le_refl _) (by simp) ?_; (case hd => rfl); (case hg => rfl); (case hr => first | (go_simp; done) | (go_simp; rfl)); (case hp => exact (Reps.one (show Kd.M (Kd.int .i64) _ _ _ a3 [.int .i64 a3] from rfl) (Reps.one (show Kd.M (Kd.int .i64) _ _ _ a2 [.int .i64 a2] from rfl) (Reps.none _ _)))); intro v272 w44 ho45 hb hg_ hnew_; clear hg_ hnew_; (first | rw [← Ny271.out] at ho45 | (simp only [Int.reduceToNat] at ho45; rw [← Ny271.out] at ho45)); have n0_ := Aside0.mk (Kd.R_elder' zQTa2_ (Kd.R_base ho45) hb); have n1_ := Aside0.mk (Kd.R_lower (Kd.R_new' ho45 (Kd.R_lt zQTa2_)) (below_size zQTa0_)); have n2_ := Aside0.mk (below_step zQTa0_ hb); clear HO260; clear HB; have HO260 := n0_; have HO273 := n1_; have HB := n2_; clear n0_ n1_ n2_; clear hb ho45; obtain ⟨Ao46, co46, eo46⟩ := Kd.R_slice HO273.out; subst eo46) | ((with_reducible refine gate_callee (f := 12) rfl ?_); refine goesL_ (some 60) rfl rfl Tryz.func12 (by kernel_rfl) rfl #[.agg #[.string t263, .int .i64 t264, .int .i64 t265, .int .i64 t266, .int .i64 t267, .int .i64 t268, .int .i64 t269, .bool t270], .slice Ao46 y271.length co46] rfl zQTa1_ ?_; (with_reducible refine (value_Text.calls t263 t264 t265 t266 t267 t268 t269 t270 _ _ y271 t274 t275 _ ?side1 ?side2 (Val.Laid.below hLd_ zQTa0_) A19.out).mono ?_); (case side1 => repeat (first | exact (Kd.R_reads' HO273.out).2.2 | (with_reducible refine Kd.C_alloc ?_ _) | (with_reducible refine Kd.C_drewN ?_ _) | (with_reducible refine Kd.C_drew ?_))); (case side2 => exact (Kd.R_reads' HO273.out).2.1); rintro e w47 ⟨rfl, hb⟩; refine ⟨_, rfl, ?_⟩; have n0_ := Aside0.mk (Kd.R_below zQTa2_ hb); have n1_ := Aside0.mk (Kd.R_below zQTa3_ hb); have n2_ := Aside0.mk (below_step zQTa0_ hb); clear HO260; clear HO273; clear HB; have HO260 := n0_; have HO273 := n1_; have HB := n2_; clear n0_ n1_ n2_; (try clear hb); (try clear hb2); (try clear hk); (try clear hi)) | ((with_reducible refine gate_callee (f := 22) rfl ?_); refine goesL_ (some 66) rfl rfl Tryz.func22 (by kernel_rfl) rfl #[.int .i64 x11_13, .int .i64 a1, .int .i64 0] rfl zQTa1_ ?_; (with_reducible refine (basculelaw22_row.calls x11_13 a1 0 t276 t277 t278 t279 t280 t281 t282 t283 _ A20.out).mono ?_); rintro e w48 ⟨rfl, hb⟩; refine ⟨_, rfl, ?_⟩; have n0_ := Aside0.mk (Kd.R_below zQTa2_ hb); have n1_ := Aside0.mk (Kd.R_below zQTa3_ hb); have n2_ := Aside0.mk (below_step zQTa0_ hb); clear HO260; clear HO273; clear HB; have HO260 := n0_; have HO273 := n1_; have HB := n2_; clear n0_ n1_ n2_; (try clear hb); (try clear hb2); (try clear hk); (try clear hi)) | ((with_reducible refine gate_callee (f := 18) rfl ?_); refine goesL_ (some 68) rfl rfl Tryz.func18 (by kernel_rfl) rfl #[.agg #[.string t276, .int .i64 t277, .int .i64 t278, .int .i64 t279, .int .i64 t280, .int .i64 t281, .int .i64 t282, .bool t283], .string a4] rfl zQTa1_ ?_; (with_reducible refine (value_Words.calls t276 t277 t278 t279 t280 t281 t282 t283 a4 t284 t287 _ (Val.Laid.below hLd_ zQTa0_) A21.out).mono ?_); rintro e w49 ⟨v285, rfl, ho0, hb⟩; refine ⟨_, rfl, ?_⟩; have n0_ := Aside0.mk (Kd.R_elder' zQTa2_ (Kd.R_base ho0) hb); have n1_ := Aside0.mk (Kd.R_elder' zQTa3_ (Kd.R_base ho0) hb); have n2_ := Aside0.mk (Kd.R_lower (Kd.R_new' (Kd.R_new' ho0 (Kd.R_lt zQTa2_)) (Kd.R_lt zQTa3_)) (below_size zQTa0_)); have n3_ := Aside0.mk (below_step zQTa0_ hb); clear HO260; clear HO273; clear HB; have HO260 := n0_; have HO273 := n1_; have HO286 := n2_; have HB := n3_; clear n0_ n1_ n2_ n3_; (try clear hb); (try clear hb2); (try clear hk); (try clear hi); (try clear ho0)) | ((with_reducible refine gate_callee (f := 22) rfl ?_); refine goesL_ (some 74) rfl rfl Tryz.func22 (by kernel_rfl) rfl #[.int .i64 x12_13, .int .i64 a1, .int .i64 0] rfl zQTa1_ ?_; (with_reducible refine (basculelaw22_row.calls x12_13 a1 0 t288 t289 t290 t291 t292 t293 t294 t295 _ A22.out).mono ?_); rintro e w50 ⟨rfl, hb⟩; refine ⟨_, rfl, ?_⟩; have n0_ := Aside0.mk (Kd.R_below zQTa2_ hb); have n1_ := Aside0.mk (Kd.R_below zQTa3_ hb); have n2_ := Aside0.mk (Kd.R_below zQTa4_ hb); have n3_ := Aside0.mk (below_step zQTa0_ hb); clear HO260; clear HO273; clear HO286; clear HB; have HO260 := n0_; have HO273 := n1_; have HO286 := n2_; have HB := n3_; clear n0_ n1_ n2_ n3_; (try clear hb); (try clear hb2); (try clear hk); (try clear hi)) | ((with_reducible refine gate_callee (f := 18) rfl ?_); refine goesL_ (some 76) rfl rfl Tryz.func18 (by kernel_rfl) rfl #[.agg #[.string t288, .int .i64 t289, .int .i64 t290, .int .i64 t291, .int .i64 t292, .int .i64 t293, .int .i64 t294, .bool t295], .string a4] rfl zQTa1_ ?_; (with_reducible refine (value_Words.calls t288 t289 t290 t291 t292 t293 t294 t295 a4 t296 t299 _ (Val.Laid.below hLd_ zQTa0_) A23.out).mono ?_); rintro e w51 ⟨v297, rfl, ho0, hb⟩; refine ⟨_, rfl, ?_⟩; have n0_ := Aside0.mk (Kd.R_elder' zQTa2_ (Kd.R_base ho0) hb); have n1_ := Aside0.mk (Kd.R_elder' zQTa3_ (Kd.R_base ho0) hb); have n2_ := Aside0.mk (Kd.R_elder' zQTa4_ (Kd.R_base ho0) hb); have n3_ := Aside0.mk (Kd.R_lower (Kd.R_new' (Kd.R_new' (Kd.R_new' ho0 (Kd.R_lt zQTa2_)) (Kd.R_lt zQTa3_)) (Kd.R_lt zQTa4_)) (below_size zQTa0_)); have n4_ := Aside0.mk (below_step zQTa0_ hb); clear HO260; clear HO273; clear HO286; clear HB; have HO260 := n0_; have HO273 := n1_; have HO286 := n2_; have HO298 := n3_; have HB := n4_; clear n0_ n1_ n2_ n3_ n4_; (try clear hb); (try clear hb2); (try clear hk); (try clear hi); (try clear ho0); obtain ⟨Ao52, co52, eo52⟩ := Kd.R_slice HO286.out; subst eo52; obtain ⟨Ao53, co53, eo53⟩ := Kd.R_slice HO298.out; subst eo53))
     have n0_ := Aside0.mk (Kd.R_drew HO260.out)
     have n1_ := Aside0.mk (Kd.R_drew HO273.out)
     have n2_ := Aside0.mk (Kd.R_drew HO286.out)
     have n3_ := Aside0.mk (Kd.R_drew HO298.out)
     have n4_ := Aside0.mk (below_drew1 HB.out)
     clear HO260
     clear HO273
     clear HO286
     clear HO298
     clear HB
     have HO260 := n0_
     have HO273 := n1_
     have HO286 := n2_
     have HO298 := n3_
     have HB := n4_
     clear n0_ n1_ n2_ n3_ n4_
     have p301 : 0 ≤ (0 : Int) := (by omega)
     have q301 : 0 < (t284.length : Int) := of_decide_eq_true zQTa8_
     obtain ⟨ad301, e301, hx301_0⟩ := Kd.at_int (Kd.R_reads' HO286.out).2.2 0 p301 q301
     cases e301
     have qi301 : (0 < t284.length) = True := eq_true (by omega)
     (try rw [show ((0 : Int)).toNat = 0 from rfl] at hx301_0)
     (try rw [Addr.add_zero'] at hx301_0)
     replace p301 := eq_true p301
     replace q301 := eq_true q301
     have p302 : 0 ≤ (1 : Int) := (by omega)
     have q302 : 1 < (t296.length : Int) := of_decide_eq_true zQTa8_
     obtain ⟨ad302, e302, hx302_0⟩ := Kd.at_int (Kd.R_reads' HO298.out).2.2 1 p302 q302
     cases e302
     (try simp only [show (1 : Int).toNat = 1 from rfl, Nat.reduceMul, Nat.reduceEqDiff, Go.Addr.add, ↓reduceIte] at hx302_0)
     have qi302 : (1 < t296.length) = True := eq_true (by omega)
     (try rw [show ((1 : Int)).toNat = 1 from rfl] at hx302_0)
     replace p302 := eq_true p302
     replace q302 := eq_true q302
     have p303 : 0 ≤ (1 : Int) := (by omega)
     have q303 : 1 < (t284.length : Int) := of_decide_eq_true zQTa8_
     obtain ⟨ad303, e303, hx303_0⟩ := Kd.at_int (Kd.R_reads' HO286.out).2.2 1 p303 q303
     obtain rfl : ad301 = ad303 := (by injection e303)
     (try simp only [show (1 : Int).toNat = 1 from rfl, Nat.reduceMul, Nat.reduceEqDiff, Go.Addr.add, ↓reduceIte] at hx303_0)
     have qi303 : (1 < t284.length) = True := eq_true (by omega)
     (try rw [show ((1 : Int)).toNat = 1 from rfl] at hx303_0)
     replace p303 := eq_true p303
     replace q303 := eq_true q303
     have p304 : 0 ≤ (0 : Int) := (by omega)
     have q304 : 0 < (t296.length : Int) := of_decide_eq_true zQTa8_
     obtain ⟨ad304, e304, hx304_0⟩ := Kd.at_int (Kd.R_reads' HO298.out).2.2 0 p304 q304
     obtain rfl : ad302 = ad304 := (by injection e304)
     have qi304 : (0 < t296.length) = True := eq_true (by omega)
     (try rw [show ((0 : Int)).toNat = 0 from rfl] at hx304_0)
     (try rw [Addr.add_zero'] at hx304_0)
     replace p304 := eq_true p304
     replace q304 := eq_true q304
     refine start_ (n := 29) (S := fun w' => w'.cell? ad301 = some (.int .i64 (rd t284 0)) ∧ w'.cell? ⟨ad302.block, ad302.off + 1, none⟩ = some (.int .i64 (rd t296 1)) ∧ w'.cell? ⟨ad301.block, ad301.off + 1, none⟩ = some (.int .i64 (rd t284 1)) ∧ w'.cell? ad302 = some (.int .i64 (rd t296 0))) (ds := []) #[false, false, false, false, false, false, false, false, false, false, false, false, false, false, false, false, false, false, false, false, false, false, false, false, false, false, false, false, false] (by kernel_rfl) rfl rfl ⟨hx301_0, hx302_0, hx303_0, hx304_0⟩ (fun hHeld => ?_); refine with_tabW basculelaw22_ValueTurned.tab14 basculelaw22_ValueTurned.bits14 (fun HT_ HW_ => ?_)
     generalize w51.drew = w54 at HO260 HO273 HO286 HO298 HB hx301_0 hx302_0 hx303_0 hx304_0 hHeld ⊢
     refine one_ (i := 0) (N := some 102) #[true, false, false, false, false, false, false, false, false, false, false, false, false, false, false, false, false, false, false, false, false, false, false, false, false, false, false, false, false] rfl rfl (one_of HT_.out (by kernel_rfl)) (by decide) (fun K hK => ?_)
     refine goes_ Tryz.func16 (by kernel_rfl) rfl #[] (by rfl) rfl rfl zQTa1_ ?_
     with_reducible refine (basculelaw22_awake.calls kj13  true _ (Val.Laid.below hLd_ zQTa0_) A29.out).mono ?_
     rintro e w55 ⟨rfl, hb⟩
     have HS0_ := (hb.cell (World.block_lt_of_cell? _ _ (hHeld.1))).trans (hHeld.1)
     have HS1_ := (hb.cell (World.block_lt_of_cell? _ _ (hHeld.2.1))).trans (hHeld.2.1)
     have HS2_ := (hb.cell (World.block_lt_of_cell? _ _ (hHeld.2.2.1))).trans (hHeld.2.2.1)
     have HS3_ := (hb.cell (World.block_lt_of_cell? _ _ (hHeld.2.2.2))).trans (hHeld.2.2.2)
     refine ⟨_, rfl, ?_⟩
     have n0_ := Aside0.mk (Kd.R_below zQTa2_ hb)
     have n1_ := Aside0.mk (Kd.R_below zQTa3_ hb)
     have n2_ := Aside0.mk (Kd.R_below zQTa4_ hb)
     have n3_ := Aside0.mk (Kd.R_below zQTa7_ hb)
     have n4_ := Aside0.mk (below_step zQTa0_ hb)
     clear HO260
     clear HO273
     clear HO286
     clear HO298
     clear HB
     have HO260 := n0_
     have HO273 := n1_
     have HO286 := n2_
     have HO298 := n3_
     have HB := n4_
     clear n0_ n1_ n2_ n3_ n4_
     (try clear hb)
     (try clear hb2)
     (try clear hk)
     (try clear hi)
     refine hK.out _ _ ⟨HS0_, HS1_, HS2_, HS3_⟩ (fun hHeld => ?_)
     clear hK K
     refine norm_ (a' := ?_) ?_ ?_
     rotate_left
     ·
      show Act.put _ (some 102) _ = _
      simp only [Act.put, List.setIfInBounds_toArray, List.set_cons_zero, List.set_cons_succ, i64_w, i32_w]
      rfl
     refine pure_ (i := 1) (N := some 103) (v := ?_) (a' := ?_) #[true, true, false, false, false, false, false, false, false, false, false, false, false, false, false, false, false, false, false, false, false, false, false, false, false, false, false, false, false] rfl rfl (any_of HT_.out (by kernel_rfl)) (fun _ _ _ h => h) (Or.inl ⟨by rfl, ?_⟩) ?_ ?_
     rotate_left
     ·
      intro w'
      go_simp
      with_reducible rfl
     rotate_left
     ·
      simp only [Act.put, List.setIfInBounds_toArray, List.set_cons_zero, List.set_cons_succ, i64_w, i32_w]
      rfl
     refine pure_ (i := 2) (N := some 104) (v := ?_) (a' := ?_) #[true, true, true, false, false, false, false, false, false, false, false, false, false, false, false, false, false, false, false, false, false, false, false, false, false, false, false, false, false] rfl rfl (any_of HT_.out (by kernel_rfl)) (fun _ _ _ h => h) (Or.inl ⟨by rfl, ?_⟩) ?_ ?_
     rotate_left
     ·
      intro w'
      go_simp
      with_reducible rfl
     rotate_left
     ·
      simp only [Act.put, List.setIfInBounds_toArray, List.set_cons_zero, List.set_cons_succ, i64_w, i32_w]
      rfl
     refine pure_ (i := 3) (N := some 105) (v := ?_) (a' := ?_) #[true, true, true, true, false, false, false, false, false, false, false, false, false, false, false, false, false, false, false, false, false, false, false, false, false, false, false, false, false] rfl rfl (any_of HT_.out (by kernel_rfl)) (fun _ _ _ h => h) (Or.inl ⟨by rfl, ?_⟩) ?_ ?_
     rotate_left
     ·
      intro w'
      go_simp
      with_reducible rfl
     rotate_left
     ·
      simp only [Act.put, List.setIfInBounds_toArray, List.set_cons_zero, List.set_cons_succ, i64_w, i32_w]
      rfl
     refine pure_ (i := 4) (N := some 106) (v := ?_) (a' := ?_) #[true, true, true, true, true, false, false, false, false, false, false, false, false, false, false, false, false, false, false, false, false, false, false, false, false, false, false, false, false] rfl rfl (any_of HT_.out (by kernel_rfl)) (fun _ _ _ h => h) (Or.inl ⟨by rfl, ?_⟩) ?_ ?_
     rotate_left
     ·
      intro w'
      go_simp
      with_reducible rfl
     rotate_left
     ·
      simp only [Act.put, List.setIfInBounds_toArray, List.set_cons_zero, List.set_cons_succ, i64_w, i32_w]
      rfl
     refine pure_ (i := 5) (N := some 107) (v := ?_) (a' := ?_) #[true, true, true, true, true, true, false, false, false, false, false, false, false, false, false, false, false, false, false, false, false, false, false, false, false, false, false, false, false] rfl rfl (any_of HT_.out (by kernel_rfl)) (fun _ _ _ h => h) (Or.inl ⟨by rfl, ?_⟩) ?_ ?_
     rotate_left
     ·
      intro w'
      go_simp
      with_reducible rfl
     rotate_left
     ·
      simp only [Act.put, List.setIfInBounds_toArray, List.set_cons_zero, List.set_cons_succ, i64_w, i32_w]
      rfl
     refine pure_ (i := 6) (N := some 108) (v := ?_) (a' := ?_) #[true, true, true, true, true, true, true, false, false, false, false, false, false, false, false, false, false, false, false, false, false, false, false, false, false, false, false, false, false] rfl rfl (any_of HT_.out (by kernel_rfl)) (fun _ _ _ h => h) (Or.inl ⟨by rfl, ?_⟩) ?_ ?_
     rotate_left
     ·
      intro w'
      go_simp
      with_reducible rfl
     rotate_left
     ·
      simp only [Act.put, List.setIfInBounds_toArray, List.set_cons_zero, List.set_cons_succ, i64_w, i32_w]
      rfl
     refine pure_ (i := 7) (N := some 109) (v := ?_) (a' := ?_) #[true, true, true, true, true, true, true, true, false, false, false, false, false, false, false, false, false, false, false, false, false, false, false, false, false, false, false, false, false] rfl rfl (any_of HT_.out (by kernel_rfl)) (fun _ _ _ h => h) (Or.inl ⟨by rfl, ?_⟩) ?_ ?_
     rotate_left
     ·
      intro w'
      go_simp
      with_reducible rfl
     rotate_left
     ·
      simp only [Act.put, List.setIfInBounds_toArray, List.set_cons_zero, List.set_cons_succ, i64_w, i32_w]
      rfl
     refine pure_ (i := 8) (N := some 110) (v := ?_) (a' := ?_) #[true, true, true, true, true, true, true, true, true, false, false, false, false, false, false, false, false, false, false, false, false, false, false, false, false, false, false, false, false] rfl rfl (any_of HT_.out (by kernel_rfl)) (fun _ _ _ h => h) (Or.inl ⟨by rfl, ?_⟩) ?_ ?_
     rotate_left
     ·
      intro w'
      go_simp
      with_reducible rfl
     rotate_left
     ·
      simp only [Act.put, List.setIfInBounds_toArray, List.set_cons_zero, List.set_cons_succ, i64_w, i32_w]
      rfl
     refine pure_ (i := 9) (N := some 111) (v := ?_) (a' := ?_) #[true, true, true, true, true, true, true, true, true, true, false, false, false, false, false, false, false, false, false, false, false, false, false, false, false, false, false, false, false] rfl rfl (any_of HT_.out (by kernel_rfl)) (fun _ _ _ h => h) (Or.inl ⟨by rfl, ?_⟩) ?_ ?_
     rotate_left
     ·
      intro w'
      go_simp
      with_reducible rfl
     rotate_left
     ·
      simp only [Act.put, List.setIfInBounds_toArray, List.set_cons_zero, List.set_cons_succ, i64_w, i32_w]
      rfl
     refine pure_ (i := 10) (N := some 112) (v := ?_) (a' := ?_) #[true, true, true, true, true, true, true, true, true, true, true, false, false, false, false, false, false, false, false, false, false, false, false, false, false, false, false, false, false] rfl rfl (any_of HT_.out (by kernel_rfl)) (fun _ _ _ h => h) (Or.inl ⟨by rfl, ?_⟩) ?_ ?_
     rotate_left
     ·
      intro w'
      go_simp
      with_reducible rfl
     rotate_left
     ·
      simp only [Act.put, List.setIfInBounds_toArray, List.set_cons_zero, List.set_cons_succ, i64_w, i32_w]
      rfl
     refine pure_ (i := 12) (N := some 114) (v := ?_) (a' := ?_) #[true, true, true, true, true, true, true, true, true, true, true, false, true, false, false, false, false, false, false, false, false, false, false, false, false, false, false, false, false] rfl rfl (any_of HT_.out (by kernel_rfl)) (fun _ _ _ h => h) (Or.inl ⟨by rfl, ?_⟩) ?_ ?_
     rotate_left
     ·
      intro w'
      go_simp
      with_reducible rfl
     rotate_left
     ·
      simp only [Act.put, List.setIfInBounds_toArray, List.set_cons_zero, List.set_cons_succ, i64_w, i32_w]
      rfl
     refine pure_ (i := 13) (N := some 115) (v := ?_) (a' := ?_) #[true, true, true, true, true, true, true, true, true, true, true, false, true, true, false, false, false, false, false, false, false, false, false, false, false, false, false, false, false] rfl rfl (any_of HT_.out (by kernel_rfl)) (fun _ _ _ h => h) (Or.inl ⟨by rfl, ?_⟩) ?_ ?_
     rotate_left
     ·
      intro w'
      go_simp
      with_reducible rfl
     rotate_left
     ·
      simp only [Act.put, List.setIfInBounds_toArray, List.set_cons_zero, List.set_cons_succ, i64_w, i32_w]
      rfl
     refine take_ (i := 11) (N := some 113) (v := ?_) (a' := ?_) #[true, true, true, true, true, true, true, true, true, true, true, true, true, true, false, false, false, false, false, false, false, false, false, false, false, false, false, false, false] rfl rfl (take_ofW HT_.out HW_.out (by kernel_rfl)) (fun _ _ _ h => h) (Or.inl ⟨by rfl, ?_⟩) hHeld ?_ ?_
     rotate_left
     ·
      rintro w' ⟨s0, s1, s2, s3⟩
      go_simp
      with_reducible rfl
     rotate_left
     ·
      simp only [Act.put, List.setIfInBounds_toArray, List.set_cons_zero, List.set_cons_succ, i64_w, i32_w]
      rfl
     refine take_ (i := 14) (N := some 116) (v := ?_) (a' := ?_) #[true, true, true, true, true, true, true, true, true, true, true, true, true, true, true, false, false, false, false, false, false, false, false, false, false, false, false, false, false] rfl rfl (take_ofW HT_.out HW_.out (by kernel_rfl)) (fun _ _ _ h => h) (Or.inl ⟨by rfl, ?_⟩) hHeld ?_ ?_
     rotate_left
     ·
      rintro w' ⟨s0, s1, s2, s3⟩
      go_simp
      with_reducible rfl
     rotate_left
     ·
      simp only [Act.put, List.setIfInBounds_toArray, List.set_cons_zero, List.set_cons_succ, i64_w, i32_w]
      rfl
     refine pure_ (i := 15) (N := some 117) (v := ?_) (a' := ?_) #[true, true, true, true, true, true, true, true, true, true, true, true, true, true, true, true, false, false, false, false, false, false, false, false, false, false, false, false, false] rfl rfl (any_of HT_.out (by kernel_rfl)) (fun _ _ _ h => h) (Or.inl ⟨by rfl, ?_⟩) ?_ ?_
     rotate_left
     ·
      intro w'
      go_simp
      with_reducible rfl
     rotate_left
     ·
      simp only [Act.put, List.setIfInBounds_toArray, List.set_cons_zero, List.set_cons_succ, i64_w, i32_w]
      rfl
     refine pure_ (i := 16) (N := some 118) (v := ?_) (a' := ?_) #[true, true, true, true, true, true, true, true, true, true, true, true, true, true, true, true, true, false, false, false, false, false, false, false, false, false, false, false, false] rfl rfl (any_of HT_.out (by kernel_rfl)) (fun _ _ _ h => h) (Or.inl ⟨by rfl, ?_⟩) ?_ ?_
     rotate_left
     ·
      intro w'
      go_simp
      with_reducible rfl
     rotate_left
     ·
      simp only [Act.put, List.setIfInBounds_toArray, List.set_cons_zero, List.set_cons_succ, i64_w, i32_w]
      rfl
     refine pure_ (i := 17) (N := some 119) (v := ?_) (a' := ?_) #[true, true, true, true, true, true, true, true, true, true, true, true, true, true, true, true, true, true, false, false, false, false, false, false, false, false, false, false, false] rfl rfl (any_of HT_.out (by kernel_rfl)) (fun _ _ _ h => h) (Or.inl ⟨by rfl, ?_⟩) ?_ ?_
     rotate_left
     ·
      intro w'
      go_simp
      with_reducible rfl
     rotate_left
     ·
      simp only [Act.put, List.setIfInBounds_toArray, List.set_cons_zero, List.set_cons_succ, i64_w, i32_w]
      rfl
     refine pure_ (i := 18) (N := some 120) (v := ?_) (a' := ?_) #[true, true, true, true, true, true, true, true, true, true, true, true, true, true, true, true, true, true, true, false, false, false, false, false, false, false, false, false, false] rfl rfl (any_of HT_.out (by kernel_rfl)) (fun _ _ _ h => h) (Or.inl ⟨by rfl, ?_⟩) ?_ ?_
     rotate_left
     ·
      intro w'
      go_simp
      with_reducible rfl
     rotate_left
     ·
      simp only [Act.put, List.setIfInBounds_toArray, List.set_cons_zero, List.set_cons_succ, i64_w, i32_w]
      rfl
     refine pure_ (i := 19) (N := some 121) (v := ?_) (a' := ?_) #[true, true, true, true, true, true, true, true, true, true, true, true, true, true, true, true, true, true, true, true, false, false, false, false, false, false, false, false, false] rfl rfl (any_of HT_.out (by kernel_rfl)) (fun _ _ _ h => h) (Or.inl ⟨by rfl, ?_⟩) ?_ ?_
     rotate_left
     ·
      intro w'
      go_simp
      with_reducible rfl
     rotate_left
     ·
      simp only [Act.put, List.setIfInBounds_toArray, List.set_cons_zero, List.set_cons_succ, i64_w, i32_w]
      rfl
     refine pure_ (i := 21) (N := some 123) (v := ?_) (a' := ?_) #[true, true, true, true, true, true, true, true, true, true, true, true, true, true, true, true, true, true, true, true, false, true, false, false, false, false, false, false, false] rfl rfl (any_of HT_.out (by kernel_rfl)) (fun _ _ _ h => h) (Or.inl ⟨by rfl, ?_⟩) ?_ ?_
     rotate_left
     ·
      intro w'
      go_simp
      with_reducible rfl
     rotate_left
     ·
      simp only [Act.put, List.setIfInBounds_toArray, List.set_cons_zero, List.set_cons_succ, i64_w, i32_w]
      rfl
     refine pure_ (i := 22) (N := some 124) (v := ?_) (a' := ?_) #[true, true, true, true, true, true, true, true, true, true, true, true, true, true, true, true, true, true, true, true, false, true, true, false, false, false, false, false, false] rfl rfl (any_of HT_.out (by kernel_rfl)) (fun _ _ _ h => h) (Or.inl ⟨by rfl, ?_⟩) ?_ ?_
     rotate_left
     ·
      intro w'
      go_simp
      with_reducible rfl
     rotate_left
     ·
      simp only [Act.put, List.setIfInBounds_toArray, List.set_cons_zero, List.set_cons_succ, i64_w, i32_w]
      rfl
     refine take_ (i := 20) (N := some 122) (v := ?_) (a' := ?_) #[true, true, true, true, true, true, true, true, true, true, true, true, true, true, true, true, true, true, true, true, true, true, true, false, false, false, false, false, false] rfl rfl (take_ofW HT_.out HW_.out (by kernel_rfl)) (fun _ _ _ h => h) (Or.inl ⟨by rfl, ?_⟩) hHeld ?_ ?_
     rotate_left
     ·
      rintro w' ⟨s0, s1, s2, s3⟩
      go_simp
      with_reducible rfl
     rotate_left
     ·
      simp only [Act.put, List.setIfInBounds_toArray, List.set_cons_zero, List.set_cons_succ, i64_w, i32_w]
      rfl
     refine take_ (i := 23) (N := some 125) (v := ?_) (a' := ?_) #[true, true, true, true, true, true, true, true, true, true, true, true, true, true, true, true, true, true, true, true, true, true, true, true, false, false, false, false, false] rfl rfl (take_ofW HT_.out HW_.out (by kernel_rfl)) (fun _ _ _ h => h) (Or.inl ⟨by rfl, ?_⟩) hHeld ?_ ?_
     rotate_left
     ·
      rintro w' ⟨s0, s1, s2, s3⟩
      go_simp
      with_reducible rfl
     rotate_left
     ·
      simp only [Act.put, List.setIfInBounds_toArray, List.set_cons_zero, List.set_cons_succ, i64_w, i32_w]
      rfl
     refine pure_ (i := 24) (N := some 126) (v := ?_) (a' := ?_) #[true, true, true, true, true, true, true, true, true, true, true, true, true, true, true, true, true, true, true, true, true, true, true, true, true, false, false, false, false] rfl rfl (any_of HT_.out (by kernel_rfl)) (fun _ _ _ h => h) (Or.inl ⟨by rfl, ?_⟩) ?_ ?_
     rotate_left
     ·
      intro w'
      go_simp
      with_reducible rfl
     rotate_left
     ·
      simp only [Act.put, List.setIfInBounds_toArray, List.set_cons_zero, List.set_cons_succ, i64_w, i32_w]
      rfl
     refine pure_ (i := 25) (N := some 127) (v := ?_) (a' := ?_) #[true, true, true, true, true, true, true, true, true, true, true, true, true, true, true, true, true, true, true, true, true, true, true, true, true, true, false, false, false] rfl rfl (any_of HT_.out (by kernel_rfl)) (fun _ _ _ h => h) (Or.inl ⟨by rfl, ?_⟩) ?_ ?_
     rotate_left
     ·
      intro w'
      go_simp
      with_reducible rfl
     rotate_left
     ·
      simp only [Act.put, List.setIfInBounds_toArray, List.set_cons_zero, List.set_cons_succ, i64_w, i32_w]
      rfl
     refine pure_ (i := 26) (N := some 128) (v := ?_) (a' := ?_) #[true, true, true, true, true, true, true, true, true, true, true, true, true, true, true, true, true, true, true, true, true, true, true, true, true, true, true, false, false] rfl rfl (any_of HT_.out (by kernel_rfl)) (fun _ _ _ h => h) (Or.inl ⟨by rfl, ?_⟩) ?_ ?_
     rotate_left
     ·
      intro w'
      go_simp
      with_reducible rfl
     rotate_left
     ·
      simp only [Act.put, List.setIfInBounds_toArray, List.set_cons_zero, List.set_cons_succ, i64_w, i32_w]
      rfl
     refine pure_ (i := 27) (N := some 129) (v := ?_) (a' := ?_) #[true, true, true, true, true, true, true, true, true, true, true, true, true, true, true, true, true, true, true, true, true, true, true, true, true, true, true, true, false] rfl rfl (any_of HT_.out (by kernel_rfl)) (fun _ _ _ h => h) (Or.inl ⟨by rfl, ?_⟩) ?_ ?_
     rotate_left
     ·
      intro w'
      go_simp
      with_reducible rfl
     rotate_left
     ·
      simp only [Act.put, List.setIfInBounds_toArray, List.set_cons_zero, List.set_cons_succ, i64_w, i32_w]
      rfl
     refine pure_ (i := 28) (N := some 10) (v := ?_) (a' := ?_) #[true, true, true, true, true, true, true, true, true, true, true, true, true, true, true, true, true, true, true, true, true, true, true, true, true, true, true, true, true] rfl rfl (any_of HT_.out (by kernel_rfl)) (fun _ _ _ h => h) (Or.inl ⟨by rfl, ?_⟩) ?_ ?_
     rotate_left
     ·
      intro w'
      go_simp
      with_reducible rfl
     rotate_left
     ·
      simp only [Act.put, List.setIfInBounds_toArray, List.set_cons_zero, List.set_cons_succ, i64_w, i32_w]
      rfl
     refine done_ (done_of HT_.out (by kernel_rfl)) ?_
     try go_wp2
     go_ret
     exact ⟨zQTa6_, zQTa0_⟩
def basculelaw22_ValueTurned.Pure : Prop := ∀ (a0 : Bool) (a1 : Int) (a2 : Int) (a3 : Int) (a4 : ByteArray), (Lit.int .i64 a1).wf = true → (Lit.int .i64 a2).wf = true → (Lit.int .i64 a3).wf = true → a4.size ≤ 140737488351232 → ∃ k, basculelaw22_ValueTurned.f k a0 a1 a2 a3 a4 = some true
theorem basculelaw22_ValueTurned.walk (P : basculelaw22_ValueTurned.Pure) (a0 : Bool) (a1 : Int) (a2 : Int) (a3 : Int) (a4 : ByteArray) (w : World) (hLd_ : Val.Laid w) (w1 : (Lit.int .i64 a1).wf = true) (w2 : (Lit.int .i64 a2).wf = true) (w3 : (Lit.int .i64 a3).wf = true) (w4 : a4.size ≤ 140737488351232) :
  Calls Tryz.prog 10 #[.bool a0, .int .i64 a1, .int .i64 a2, .int .i64 a3, .string a4] w fun e w' => e = .returned (.bool true) ∧ Below w.heap.size w w' := by
 obtain ⟨k, h⟩ := P a0 a1 a2 a3 a4 w1 w2 w3 w4
 refine (basculelaw22_ValueTurned.calls k a0 a1 a2 a3 a4 true w hLd_ (Aside0.mk rfl) h).mono ?_
 rintro e w' ⟨rfl, hd⟩
 exact ⟨rfl, hd⟩
end Go.Proofs.YtmkekhjbbapngaaGreatDoor.Q
