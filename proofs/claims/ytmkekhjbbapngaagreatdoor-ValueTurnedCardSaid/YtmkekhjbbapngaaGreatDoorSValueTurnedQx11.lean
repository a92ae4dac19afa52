/- What the proof of ValueTurned leans on: Qx11. -/
import Derived.Test.YtmkekhjbbapngaaGreatDoorSValueTurnedQx0
import Derived.Test.YtmkekhjbbapngaaGreatDoorSValueTurnedQx10
namespace Go.Proofs.YtmkekhjbbapngaaGreatDoor.Q
open Go.RowKit Go.Proofs.YtmkekhjbbapngaaGreatDoorW.PrintWords Go.Proofs.YtmkekhjbbapngaaGreatDoorW.PrintLast Go.Proofs.YtmkekhjbbapngaaGreatDoorW.PrintMore
attribute [local go_sem] max2_int min2_int max_two min_two
set_option linter.unusedVariables false
set_option linter.unusedSimpArgs false
def basculeref12_has.l0 : Nat → ByteArray → Int → Int → Option (Bool)
  | 0, _, _, _ => none
  | k + 1, x0, x1, x5 => if x5 < (x0.size : Int) then (if 0 ≤ x5 then (if (bt x0 x5) = x1 then (some true) else (basculeref12_has.l0 k x0 x1 (wrap64 (x5 + 1)))) else (none)) else (some false)
def basculeref12_has.f (k : Nat) (a0 : ByteArray) (a1 : Int) : Option (Bool) := basculeref12_has.l0 k a0 a1 0
theorem basculeref12_has.mono_l : ∀ k, (∀ y0 y1 y2, LeO (basculeref12_has.l0 k y0 y1 y2) (basculeref12_has.l0 (k + 1) y0 y1 y2))
  | 0 => fun _ _ _ r h => by simp [basculeref12_has.l0] at h
  | k + 1 => by
    have ih0 := basculeref12_has.mono_l k
    · intro y0 y1 y2
      unfold basculeref12_has.l0
      repeat' first
      | (with_reducible exact ih0 _ _ _)
      | (with_reducible exact LeO.refl _)
      | (with_reducible exact LeO.none _)
      | (with_reducible refine LeO.ite ?_ ?_)
      | (with_reducible refine LeO.bind ?_ (fun _ => ?_))
      | exact ih0 _ _ _
      | exact LeO.none _
      | refine LeO.ite ?_ ?_
      | refine LeO.bind ?_ (fun _ => ?_)
theorem basculeref12_has.mono : ∀ a0 a1 k, LeO (basculeref12_has.f k a0 a1) (basculeref12_has.f (k + 1) a0 a1) := by
  intro a0 a1 k
  have ih0 := basculeref12_has.mono_l k
  unfold basculeref12_has.f
  repeat' first
      | (with_reducible exact ih0 _ _ _)
      | (with_reducible exact LeO.refl _)
      | (with_reducible exact LeO.none _)
      | (with_reducible refine LeO.ite ?_ ?_)
      | (with_reducible refine LeO.bind ?_ (fun _ => ?_))
      | exact ih0 _ _ _
      | exact LeO.none _
      | refine LeO.ite ?_ ?_
      | refine LeO.bind ?_ (fun _ => ?_)
def basculeref12_Name.f (k : Nat) (a0 : ByteArray) : Option (Bool) := if a0.toList = ([] : List UInt8) then (some false) else ((basculeref09_Is.f k a0).bind fun t177 => (if t177 = true then ((basculeref12_has.f k a0 43).bind fun t178 => (if t178 = true then (some false) else ((basculeref12_has.f k a0 35).bind fun t179 => (some (!t179))))) else (some false)))
theorem basculeref12_Name.mono : ∀ a0 k, LeO (basculeref12_Name.f k a0) (basculeref12_Name.f (k + 1) a0) := by
  intro a0 k
  unfold basculeref12_Name.f
  repeat' first
      | (with_reducible exact basculeref09_Is.mono _ _)
      | (with_reducible exact basculeref12_has.mono _ _ _)
      | (with_reducible exact LeO.refl _)
      | (with_reducible exact LeO.none _)
      | (with_reducible refine LeO.ite ?_ ?_)
      | (with_reducible refine LeO.bind ?_ (fun _ => ?_))
      | exact basculeref09_Is.mono _ _
      | exact basculeref12_has.mono _ _ _
      | exact LeO.none _
      | refine LeO.ite ?_ ?_
      | refine LeO.bind ?_ (fun _ => ?_)
mutual
def basculeref21_name.j0 : Nat → ByteArray → Bool → Option (Bool)
  | 0, _, _ => none
  | k + 1, x0, x21 => if x21 = true then (some false) else (basculeref21_name.l0 k x0 0)
def basculeref21_name.l0 : Nat → ByteArray → Int → Option (Bool)
  | 0, _, _ => none
  | k + 1, x0, x3 => if x3 < (x0.size : Int) then (if 0 ≤ x3 then (if (bt x0 x3) = 32 then (some false) else (if (bt x0 x3) = 9 then (some false) else (if (bt x0 x3) = 10 then (some false) else (basculeref21_name.l0 k x0 (wrap64 (x3 + 1)))))) else (none)) else (some true)
end
def basculeref21_name.f (k : Nat) (a0 : ByteArray) : Option (Bool) := if (a0.size : Int) > 200 then (basculeref21_name.j0 k a0 true) else ((basculeref12_Name.f k a0).bind fun t180 => (if t180 = true then (if 0 < (a0.size : Int) then (if (bt a0 0) = 36 then (basculeref21_name.j0 k a0 true) else (basculeref21_name.j0 k a0 ((bt a0 0) == 35))) else (none)) else (basculeref21_name.j0 k a0 true)))
theorem basculeref21_name.mono_l : ∀ k, (∀ y0 y1, LeO (basculeref21_name.j0 k y0 y1) (basculeref21_name.j0 (k + 1) y0 y1)) ∧ (∀ y0 y1, LeO (basculeref21_name.l0 k y0 y1) (basculeref21_name.l0 (k + 1) y0 y1))
  | 0 => ⟨fun _ _ r h => by simp [basculeref21_name.j0] at h, fun _ _ r h => by simp [basculeref21_name.l0] at h⟩
  | k + 1 => by
    obtain ⟨ih0, ih1⟩ := basculeref21_name.mono_l k
    refine ⟨?_, ?_⟩
    · intro y0 y1
      unfold basculeref21_name.j0
      repeat' first
      | (with_reducible exact ih0 _ _)
      | (with_reducible exact ih1 _ _)
      | (with_reducible exact basculeref12_Name.mono _ _)
      | (with_reducible exact LeO.refl _)
      | (with_reducible exact LeO.none _)
      | (with_reducible refine LeO.ite ?_ ?_)
      | (with_reducible refine LeO.bind ?_ (fun _ => ?_))
      | exact ih0 _ _
      | exact ih1 _ _
      | exact basculeref12_Name.mono _ _
      | exact LeO.none _
      | refine LeO.ite ?_ ?_
      | refine LeO.bind ?_ (fun _ => ?_)
    · intro y0 y1
      unfold basculeref21_name.l0
      repeat' first
      | (with_reducible exact ih0 _ _)
      | (with_reducible exact ih1 _ _)
      | (with_reducible exact basculeref12_Name.mono _ _)
      | (with_reducible exact LeO.refl _)
      | (with_reducible exact LeO.none _)
      | (with_reducible refine LeO.ite ?_ ?_)
      | (with_reducible refine LeO.bind ?_ (fun _ => ?_))
      | exact ih0 _ _
      | exact ih1 _ _
      | exact basculeref12_Name.mono _ _
      | exact LeO.none _
      | refine LeO.ite ?_ ?_
      | refine LeO.bind ?_ (fun _ => ?_)
theorem basculeref21_name.mono : ∀ a0 k, LeO (basculeref21_name.f k a0) (basculeref21_name.f (k + 1) a0) := by
  intro a0 k
  obtain ⟨ih0, ih1⟩ := basculeref21_name.mono_l k
  unfold basculeref21_name.f
  repeat' first
      | (with_reducible exact ih0 _ _)
      | (with_reducible exact ih1 _ _)
      | (with_reducible exact basculeref12_Name.mono _ _)
      | (with_reducible exact LeO.refl _)
      | (with_reducible exact LeO.none _)
      | (with_reducible refine LeO.ite ?_ ?_)
      | (with_reducible refine LeO.bind ?_ (fun _ => ?_))
      | exact ih0 _ _
      | exact ih1 _ _
      | exact basculeref12_Name.mono _ _
      | exact LeO.none _
      | refine LeO.ite ?_ ?_
      | refine LeO.bind ?_ (fun _ => ?_)
def basculeref21_Range.f (a0_0 : ByteArray) (a0_1 : Int) (a0_2 : Int) (a0_3 : Int) (a0_4 : Int) (a0_5 : Int) (a0_6 : Int) (a0_7 : Bool) : Option (Bool) := some (Tab.rangeB a0_1 a0_2 a0_3 a0_4 a0_5 a0_6 a0_7)
def basculeref21_Error.l0 : Nat → List (S23) → Int → ByteArray → Int → Int → Int → Int → Int → Int → Bool → Option (Int)
  | 0, _, _, _, _, _, _, _, _, _, _ => none
  | k + 1, x0, x5, x182000, x182001, x182002, x182003, x182004, x182005, x182006, x182007 => if x5 < (x0.length : Int) then (if 0 ≤ x5 then (if ((rd_T23 x0 x5).f0).toList = x182000.toList then (some 210) else (basculeref21_Error.l0 k x0 (wrap64 (x5 + 1)) x182000 x182001 x182002 x182003 x182004 x182005 x182006 x182007)) else (none)) else ((basculeref21_Range.f x182000 x182001 x182002 x182003 x182004 x182005 x182006 x182007).bind fun t184 => (if t184 = true then (if (x0.length : Int) ≥ 64 then (some 6) else (some 0)) else (some 220)))
def basculeref21_Error.f (k : Nat) (l0 : List (S23)) (a1_0 : ByteArray) (a1_1 : Int) (a1_2 : Int) (a1_3 : Int) (a1_4 : Int) (a1_5 : Int) (a1_6 : Int) (a1_7 : Bool) : Option (Int) := (basculeref21_name.f k a1_0).bind fun t182 => (if t182 = true then (basculeref21_Error.l0 k l0 0 a1_0 a1_1 a1_2 a1_3 a1_4 a1_5 a1_6 a1_7) else (some 210))
theorem basculeref21_Error.mono_l : ∀ k, (∀ y0 y1 y2 y3 y4 y5 y6 y7 y8 y9, LeO (basculeref21_Error.l0 k y0 y1 y2 y3 y4 y5 y6 y7 y8 y9) (basculeref21_Error.l0 (k + 1) y0 y1 y2 y3 y4 y5 y6 y7 y8 y9))
  | 0 => fun _ _ _ _ _ _ _ _ _ _ r h => by simp [basculeref21_Error.l0] at h
  | k + 1 => by
    have ih0 := basculeref21_Error.mono_l k
    · intro y0 y1 y2 y3 y4 y5 y6 y7 y8 y9
      unfold basculeref21_Error.l0
      repeat' first
      | (with_reducible exact ih0 _ _ _ _ _ _ _ _ _ _)
      | (with_reducible exact basculeref21_name.mono _ _)
      | (with_reducible exact LeO.refl _)
      | (with_reducible exact LeO.none _)
      | (with_reducible refine LeO.ite ?_ ?_)
      | (with_reducible refine LeO.bind ?_ (fun _ => ?_))
      | exact ih0 _ _ _ _ _ _ _ _ _ _
      | exact basculeref21_name.mono _ _
      | exact LeO.none _
      | refine LeO.ite ?_ ?_
      | refine LeO.bind ?_ (fun _ => ?_)
theorem basculeref21_Error.mono : ∀ a0 a1 a2 a3 a4 a5 a6 a7 a8 k, LeO (basculeref21_Error.f k a0 a1 a2 a3 a4 a5 a6 a7 a8) (basculeref21_Error.f (k + 1) a0 a1 a2 a3 a4 a5 a6 a7 a8) := by
  intro a0 a1 a2 a3 a4 a5 a6 a7 a8 k
  have ih0 := basculeref21_Error.mono_l k
  unfold basculeref21_Error.f
  repeat' first
      | (with_reducible exact ih0 _ _ _ _ _ _ _ _ _ _)
      | (with_reducible exact basculeref21_name.mono _ _)
      | (with_reducible exact LeO.refl _)
      | (with_reducible exact LeO.none _)
      | (with_reducible refine LeO.ite ?_ ?_)
      | (with_reducible refine LeO.bind ?_ (fun _ => ?_))
      | exact ih0 _ _ _ _ _ _ _ _ _ _
      | exact basculeref21_name.mono _ _
      | exact LeO.none _
      | refine LeO.ite ?_ ?_
      | refine LeO.bind ?_ (fun _ => ?_)
def basculeref22_Row.f (k : Nat) (a0_0 : ByteArray) (a0_1 : Int) (a0_2 : Int) (a0_3 : Int) (a0_4 : Int) (a0_5 : Int) (a0_6 : Int) (a0_7 : Bool) : Option (Bool) := (basculeref21_Error.f k ([] : List (S23)) a0_0 a0_1 a0_2 a0_3 a0_4 a0_5 a0_6 a0_7).bind fun t186 => (some (t186 == 0))
theorem basculeref22_Row.mono : ∀ a0 a1 a2 a3 a4 a5 a6 a7 k, LeO (basculeref22_Row.f k a0 a1 a2 a3 a4 a5 a6 a7) (basculeref22_Row.f (k + 1) a0 a1 a2 a3 a4 a5 a6 a7) := by
  intro a0 a1 a2 a3 a4 a5 a6 a7 k
  unfold basculeref22_Row.f
  repeat' first
      | (with_reducible exact basculeref21_Error.mono _ _ _ _ _ _ _ _ _ _)
      | (with_reducible exact LeO.refl _)
      | (with_reducible exact LeO.none _)
      | (with_reducible refine LeO.ite ?_ ?_)
      | (with_reducible refine LeO.bind ?_ (fun _ => ?_))
      | exact basculeref21_Error.mono _ _ _ _ _ _ _ _ _ _
      | exact LeO.none _
      | refine LeO.ite ?_ ?_
      | refine LeO.bind ?_ (fun _ => ?_)
def basculeref01_Is.f (a0 : Int) : Option (Bool) := if a0 ≥ 0 then (some (decide (a0 ≤ 65535))) else (some false)
set_option maxHeartbeats 8000000 in
set_option maxRecDepth 100000 in
theorem basculeref01_Is.calls (a0 : Int) (r : Bool) (w : World) (h : basculeref01_Is.f a0 = some r) :
    Calls Tryz.prog 23 #[.int .i64 a0] w fun e w' => e = .returned (.bool r) ∧ Drawn0 w w' := by
  have H : (if a0 ≥ 0 then (some (decide (a0 ≤ 65535))) else (some false)) = some r := h
  clear h
  by_cases c2 : a0 ≥ 0
  · rw [if_pos c2] at H
    have c2b0 : decide (0 ≤ a0) = true := decide_eq_true c2
    clear c2
    obtain rfl := Option.some.inj H
    go_enter Tryz.func23, Tryz.ntmps23
    go_wp2
    go_ret
    exact ⟨by first | rfl | (simp; done) | (simp [*]; done), by repeat (first | exact Drawn0.refl _ | apply Drawn0.step)⟩
  rw [if_neg c2] at H
  have c2b0 : decide (0 ≤ a0) = false := decide_eq_false c2
  clear c2
  obtain rfl := Option.some.inj H
  go_enter Tryz.func23, Tryz.ntmps23
  go_wp2
  go_ret
  exact ⟨by first | rfl | (simp; done) | (simp [*]; done), by repeat (first | exact Drawn0.refl _ | apply Drawn0.step)⟩
end Go.Proofs.YtmkekhjbbapngaaGreatDoor.Q
