/- What the proof of ValueTurned leans on: Qx10. -/
import Derived.Test.YtmkekhjbbapngaaGreatDoorSValueTurnedQx0
import Derived.Test.YtmkekhjbbapngaaGreatDoorSValueTurnedQx9
namespace Go.Proofs.YtmkekhjbbapngaaGreatDoor.Q
open Go.RowKit Go.Proofs.YtmkekhjbbapngaaGreatDoorW.PrintWords Go.Proofs.YtmkekhjbbapngaaGreatDoorW.PrintLast Go.Proofs.YtmkekhjbbapngaaGreatDoorW.PrintMore
attribute [local go_sem] max2_int min2_int max_two min_two
set_option linter.unusedVariables false
set_option linter.unusedSimpArgs false
mutual
def basculeref09_first.l0 : Nat → ByteArray → Int → Option (Int)
  | 0, _, _ => none
  | k + 1, x0, x3 => if x3 ≤ 4 then (basculeref09_first.j1 k x0 x3 (decide (x3 ≤ (x0.size : Int)))) else (basculeref09_first.j1 k x0 x3 false)
def basculeref09_first.j1 : Nat → ByteArray → Int → Bool → Option (Int)
  | 0, _, _, _ => none
  | k + 1, x0, x3, x13 => if x13 = true then (if 0 < (x0.size : Int) then (if x3 = 2 then (basculeref09_first.j2 k x0 x3 (wrap64 ((wrap64 (bt x0 0)) - 192))) else (if x3 = 3 then (basculeref09_first.j2 k x0 x3 (wrap64 ((wrap64 (bt x0 0)) - 224))) else (if x3 = 4 then (basculeref09_first.j2 k x0 x3 (wrap64 ((wrap64 (bt x0 0)) - 240))) else (basculeref09_first.j2 k x0 x3 (wrap64 (bt x0 0)))))) else (none)) else (some 0)
def basculeref09_first.j2 : Nat → ByteArray → Int → Int → Option (Int)
  | 0, _, _, _ => none
  | k + 1, x0, x3, x4 => basculeref09_first.l1 k x0 x3 x4 1
def basculeref09_first.l1 : Nat → ByteArray → Int → Int → Int → Option (Int)
  | 0, _, _, _, _ => none
  | k + 1, x0, x3, x4, x5 => if x5 < x3 then (if 0 ≤ x5 then (if x5 < (x0.size : Int) then (basculeref09_first.l1 k x0 x3 (wrap64 ((wrap64 ((wrap64 (64 * x4)) + (wrap64 (bt x0 x5)))) - 128)) (wrap64 (x5 + 1))) else (none)) else (none)) else ((basculeref09_Point.f x4).bind fun t166 => (if t166 = true then ((basculeref09_Bytes.f x4).bind fun t167 => (if 0 ≤ x3 then (if x3 ≤ (x0.size : Int) then (if t167.toList = (x0.extract 0 (x3 : Int).toNat).toList then (some x4) else (basculeref09_first.l0 k x0 (wrap64 (x3 + 1)))) else (none)) else (none))) else (basculeref09_first.l0 k x0 (wrap64 (x3 + 1)))))
end
def basculeref09_first.f (k : Nat) (a0 : ByteArray) : Option (Int) := basculeref09_first.l0 k a0 1
theorem basculeref09_first.mono_l : ∀ k, (∀ y0 y1, LeO (basculeref09_first.l0 k y0 y1) (basculeref09_first.l0 (k + 1) y0 y1)) ∧ (∀ y0 y1 y2, LeO (basculeref09_first.j1 k y0 y1 y2) (basculeref09_first.j1 (k + 1) y0 y1 y2)) ∧ (∀ y0 y1 y2, LeO (basculeref09_first.j2 k y0 y1 y2) (basculeref09_first.j2 (k + 1) y0 y1 y2)) ∧ (∀ y0 y1 y2 y3, LeO (basculeref09_first.l1 k y0 y1 y2 y3) (basculeref09_first.l1 (k + 1) y0 y1 y2 y3))
  | 0 => ⟨fun _ _ r h => by simp [basculeref09_first.l0] at h, fun _ _ _ r h => by simp [basculeref09_first.j1] at h, fun _ _ _ r h => by simp [basculeref09_first.j2] at h, fun _ _ _ _ r h => by simp [basculeref09_first.l1] at h⟩
  | k + 1 => by
    obtain ⟨ih0, ih1, ih2, ih3⟩ := basculeref09_first.mono_l k
    refine ⟨?_, ?_, ?_, ?_⟩
    · intro y0 y1
      unfold basculeref09_first.l0
      repeat' first
      | (with_reducible exact ih0 _ _)
      | (with_reducible exact ih1 _ _ _)
      | (with_reducible exact ih2 _ _ _)
      | (with_reducible exact ih3 _ _ _ _)
      | (with_reducible exact LeO.refl _)
      | (with_reducible exact LeO.none _)
      | (with_reducible refine LeO.ite ?_ ?_)
      | (with_reducible refine LeO.bind ?_ (fun _ => ?_))
      | exact ih0 _ _
      | exact ih1 _ _ _
      | exact ih2 _ _ _
      | exact ih3 _ _ _ _
      | exact LeO.none _
      | refine LeO.ite ?_ ?_
      | refine LeO.bind ?_ (fun _ => ?_)
    · intro y0 y1 y2
      unfold basculeref09_first.j1
      repeat' first
      | (with_reducible exact ih0 _ _)
      | (with_reducible exact ih1 _ _ _)
      | (with_reducible exact ih2 _ _ _)
      | (with_reducible exact ih3 _ _ _ _)
      | (with_reducible exact LeO.refl _)
      | (with_reducible exact LeO.none _)
      | (with_reducible refine LeO.ite ?_ ?_)
      | (with_reducible refine LeO.bind ?_ (fun _ => ?_))
      | exact ih0 _ _
      | exact ih1 _ _ _
      | exact ih2 _ _ _
      | exact ih3 _ _ _ _
      | exact LeO.none _
      | refine LeO.ite ?_ ?_
      | refine LeO.bind ?_ (fun _ => ?_)
    · intro y0 y1 y2
      unfold basculeref09_first.j2
      repeat' first
      | (with_reducible exact ih0 _ _)
      | (with_reducible exact ih1 _ _ _)
      | (with_reducible exact ih2 _ _ _)
      | (with_reducible exact ih3 _ _ _ _)
      | (with_reducible exact LeO.refl _)
      | (with_reducible exact LeO.none _)
      | (with_reducible refine LeO.ite ?_ ?_)
      | (with_reducible refine LeO.bind ?_ (fun _ => ?_))
      | exact ih0 _ _
      | exact ih1 _ _ _
      | exact ih2 _ _ _
      | exact ih3 _ _ _ _
      | exact LeO.none _
      | refine LeO.ite ?_ ?_
      | refine LeO.bind ?_ (fun _ => ?_)
    · intro y0 y1 y2 y3
      unfold basculeref09_first.l1
      repeat' first
      | (with_reducible exact ih0 _ _)
      | (with_reducible exact ih1 _ _ _)
      | (with_reducible exact ih2 _ _ _)
      | (with_reducible exact ih3 _ _ _ _)
      | (with_reducible exact LeO.refl _)
      | (with_reducible exact LeO.none _)
      | (with_reducible refine LeO.ite ?_ ?_)
      | (with_reducible refine LeO.bind ?_ (fun _ => ?_))
      | exact ih0 _ _
      | exact ih1 _ _ _
      | exact ih2 _ _ _
      | exact ih3 _ _ _ _
      | exact LeO.none _
      | refine LeO.ite ?_ ?_
      | refine LeO.bind ?_ (fun _ => ?_)
theorem basculeref09_first.mono : ∀ a0 k, LeO (basculeref09_first.f k a0) (basculeref09_first.f (k + 1) a0) := by
  intro a0 k
  obtain ⟨ih0, ih1, ih2, ih3⟩ := basculeref09_first.mono_l k
  unfold basculeref09_first.f
  repeat' first
      | (with_reducible exact ih0 _ _)
      | (with_reducible exact ih1 _ _ _)
      | (with_reducible exact ih2 _ _ _)
      | (with_reducible exact ih3 _ _ _ _)
      | (with_reducible exact LeO.refl _)
      | (with_reducible exact LeO.none _)
      | (with_reducible refine LeO.ite ?_ ?_)
      | (with_reducible refine LeO.bind ?_ (fun _ => ?_))
      | exact ih0 _ _
      | exact ih1 _ _ _
      | exact ih2 _ _ _
      | exact ih3 _ _ _ _
      | exact LeO.none _
      | refine LeO.ite ?_ ?_
      | refine LeO.bind ?_ (fun _ => ?_)
def basculeref09_Points.l0 : Nat → ByteArray → List Int → Option (List Int × Bool)
  | 0, _, _ => none
  | k + 1, x0, x4 => if (x0.size : Int) > 0 then ((basculeref09_first.f k x0).bind fun t168 => (if t168 = 0 then (some (([] : List Int), false)) else (if x4.length < 17592186044416 then ((basculeref09_Bytes.f t168).bind fun t172 => (if 0 ≤ (t172.size : Int) then (if (t172.size : Int) ≤ (x0.size : Int) then (basculeref09_Points.l0 k (x0.extract ((t172.size : Int) : Int).toNat x0.size) (x4 ++ [t168])) else (none)) else (none))) else (none)))) else (some (x4, true))
def basculeref09_Points.f (k : Nat) (a0 : ByteArray) : Option (List Int × Bool) := if (a0.size : Int) > 65535 then (some (([] : List Int), false)) else (basculeref09_Points.l0 k a0 ([] : List Int))
theorem basculeref09_Points.mono_l : ∀ k, (∀ y0 y1, LeO (basculeref09_Points.l0 k y0 y1) (basculeref09_Points.l0 (k + 1) y0 y1))
  | 0 => fun _ _ r h => by simp [basculeref09_Points.l0] at h
  | k + 1 => by
    have ih0 := basculeref09_Points.mono_l k
    · intro y0 y1
      unfold basculeref09_Points.l0
      repeat' first
      | (with_reducible exact ih0 _ _)
      | (with_reducible exact basculeref09_first.mono _ _)
      | (with_reducible exact LeO.refl _)
      | (with_reducible exact LeO.none _)
      | (with_reducible refine LeO.ite ?_ ?_)
      | (with_reducible refine LeO.bind ?_ (fun _ => ?_))
      | exact ih0 _ _
      | exact basculeref09_first.mono _ _
      | exact LeO.none _
      | refine LeO.ite ?_ ?_
      | refine LeO.bind ?_ (fun _ => ?_)
theorem basculeref09_Points.mono : ∀ a0 k, LeO (basculeref09_Points.f k a0) (basculeref09_Points.f (k + 1) a0) := by
  intro a0 k
  have ih0 := basculeref09_Points.mono_l k
  unfold basculeref09_Points.f
  repeat' first
      | (with_reducible exact ih0 _ _)
      | (with_reducible exact basculeref09_first.mono _ _)
      | (with_reducible exact LeO.refl _)
      | (with_reducible exact LeO.none _)
      | (with_reducible refine LeO.ite ?_ ?_)
      | (with_reducible refine LeO.bind ?_ (fun _ => ?_))
      | exact ih0 _ _
      | exact basculeref09_first.mono _ _
      | exact LeO.none _
      | refine LeO.ite ?_ ?_
      | refine LeO.bind ?_ (fun _ => ?_)
def basculeref09_Is.f (k : Nat) (a0 : ByteArray) : Option (Bool) := (basculeref09_Points.f k a0).bind fun bt173 => (some bt173.2)
theorem basculeref09_Is.mono : ∀ a0 k, LeO (basculeref09_Is.f k a0) (basculeref09_Is.f (k + 1) a0) := by
  intro a0 k
  unfold basculeref09_Is.f
  repeat' first
      | (with_reducible exact basculeref09_Points.mono _ _)
      | (with_reducible exact LeO.refl _)
      | (with_reducible exact LeO.none _)
      | (with_reducible refine LeO.ite ?_ ?_)
      | (with_reducible refine LeO.bind ?_ (fun _ => ?_))
      | exact basculeref09_Points.mono _ _
      | exact LeO.none _
      | refine LeO.ite ?_ ?_
      | refine LeO.bind ?_ (fun _ => ?_)
end Go.Proofs.YtmkekhjbbapngaaGreatDoor.Q
