/- Qx28 -/
import Derived.Test.YtmkekhjbbapngaaGreatDoorSValueReadsPPoint
namespace Go.Proofs.YtmkekhjbbapngaaGreatDoor.Q
open Go.RowKit YtmkekhjbbapngaaGreatDoorW.PrintWords YtmkekhjbbapngaaGreatDoorW.PrintLast YtmkekhjbbapngaaGreatDoorW.PrintMore
attribute [local go_sem] max2_int min2_int max_two min_two
set_option linter.all false
def basculeref22_minus.l0 : Nat → List Int → List Int → List Int → Int → Int → Option (List Int)
  | 0, _, _, _, _, _ => none
  | k + 1, x0, x1, x5, x6, x7 => if x7 < (x0.length : Int) then (if 0 ≤ x7 then (if x7 < (x1.length : Int) then (if (wrap64 ((wrap64 ((rd x0 x7) - x6)) - (rd x1 x7))) < 0 then (if x5.length < 17592186044416 then (basculeref22_minus.l0 k x0 x1 (x5 ++ [wrap64 ((wrap64 ((wrap64 ((rd x0 x7) - x6)) - (rd x1 x7))) + 10)]) 1 (wrap64 (x7 + 1))) else (none)) else (if x5.length < 17592186044416 then (basculeref22_minus.l0 k x0 x1 (x5 ++ [wrap64 ((wrap64 ((rd x0 x7) - x6)) - (rd x1 x7))]) 0 (wrap64 (x7 + 1))) else (none))) else (if (wrap64 ((rd x0 x7) - x6)) < 0 then (if x5.length < 17592186044416 then (basculeref22_minus.l0 k x0 x1 (x5 ++ [wrap64 ((wrap64 ((rd x0 x7) - x6)) + 10)]) 1 (wrap64 (x7 + 1))) else (none)) else (if x5.length < 17592186044416 then (basculeref22_minus.l0 k x0 x1 (x5 ++ [wrap64 ((rd x0 x7) - x6)]) 0 (wrap64 (x7 + 1))) else (none)))) else (none)) else ((basculeref22_trim.f k x5).bind fun t412 => (some t412))
def basculeref22_minus.f (k : Nat) (l0 : List Int) (l1 : List Int) : Option (List Int) := basculeref22_minus.l0 k l0 l1 ([] : List Int) 0 0
theorem basculeref22_minus.mono_l : ∀ k, (∀ y0 y1 y2 y3 y4, LeO (basculeref22_minus.l0 k y0 y1 y2 y3 y4) (basculeref22_minus.l0 (k + 1) y0 y1 y2 y3 y4))
  | 0 => fun _ _ _ _ _ r h => by simp [basculeref22_minus.l0] at h
  | k + 1 => by
    have ih0 := basculeref22_minus.mono_l k
    · intro y0 y1 y2 y3 y4
      unfold basculeref22_minus.l0
      repeat' first
      | (with_reducible first | exact ih0 _ _ _ _ _ | exact basculeref22_trim.mono _ _ | exact LeO.refl _ | exact LeO.none _ | refine LeO.ite ?_ ?_ | refine LeO.bind ?_ (fun _ => ?_))
theorem basculeref22_minus.mono : ∀ a0 a1 k, LeO (basculeref22_minus.f k a0 a1) (basculeref22_minus.f (k + 1) a0 a1) := by
  intro a0 a1 k
  have ih0 := basculeref22_minus.mono_l k
  unfold basculeref22_minus.f
  repeat' first
      | (with_reducible first | exact ih0 _ _ _ _ _ | exact basculeref22_trim.mono _ _ | exact LeO.refl _ | exact LeO.none _ | refine LeO.ite ?_ ?_ | refine LeO.bind ?_ (fun _ => ?_))
def basculeref22_Apart.j0 : Nat → List Int → List Int → Bool → ByteArray → Int → Int → Int → Int → Int → Int → Bool → Option (Bool)
  | 0, _, _, _, _, _, _, _, _, _, _, _ => none
  | k + 1, x1, x2, x24, x430000, x430001, x430002, x430003, x430004, x430005, x430006, x430007 => if x24 = true then ((basculeref01_Ints.f k x1 x2).bind fun t430 => (some (!t430))) else ((basculeref22_Digits.f x430000 x430001 x430002 x430003 x430004 x430005 x430006 x430007 x1).bind fun bt431 => ((basculeref22_Digits.f x430000 x430001 x430002 x430003 x430004 x430005 x430006 x430007 x2).bind fun bt435 => (if (bt431.2 != bt435.2) = true then ((basculeref22_plus.f k bt431.1 bt435.1).bind fun t439 => ((basculeref22_times.f k ([] : List Int) 10 x430006).bind fun t442 => ((basculeref22_less.f t439 t442).bind fun t445 => (some (!t445))))) else ((basculeref22_less.f bt431.1 bt435.1).bind fun t446 => (if t446 = true then ((basculeref22_minus.f k bt435.1 bt431.1).bind fun t447 => ((basculeref22_times.f k ([] : List Int) 10 x430006).bind fun t450 => ((basculeref22_less.f t447 t450).bind fun t453 => (some (!t453))))) else ((basculeref22_minus.f k bt431.1 bt435.1).bind fun t454 => ((basculeref22_times.f k ([] : List Int) 10 x430006).bind fun t457 => ((basculeref22_less.f t454 t457).bind fun t460 => (some (!t460))))))))))
def basculeref22_Apart.f (k : Nat) (a0_0 : ByteArray) (a0_1 : Int) (a0_2 : Int) (a0_3 : Int) (a0_4 : Int) (a0_5 : Int) (a0_6 : Int) (a0_7 : Bool) (l1 : List Int) (l2 : List Int) : Option (Bool) := if a0_4 = 1 then (basculeref22_Apart.j0 k l1 l2 true a0_0 a0_1 a0_2 a0_3 a0_4 a0_5 a0_6 a0_7) else (if a0_4 = 8 then (basculeref22_Apart.j0 k l1 l2 true a0_0 a0_1 a0_2 a0_3 a0_4 a0_5 a0_6 a0_7) else (basculeref22_Apart.j0 k l1 l2 (a0_6 == 0) a0_0 a0_1 a0_2 a0_3 a0_4 a0_5 a0_6 a0_7))
theorem basculeref22_Apart.mono_l : ∀ k, (∀ y0 y1 y2 y3 y4 y5 y6 y7 y8 y9 y10, LeO (basculeref22_Apart.j0 k y0 y1 y2 y3 y4 y5 y6 y7 y8 y9 y10) (basculeref22_Apart.j0 (k + 1) y0 y1 y2 y3 y4 y5 y6 y7 y8 y9 y10))
  | 0 => fun _ _ _ _ _ _ _ _ _ _ _ r h => by simp [basculeref22_Apart.j0] at h
  | k + 1 => by
    have ih0 := basculeref22_Apart.mono_l k
    · intro y0 y1 y2 y3 y4 y5 y6 y7 y8 y9 y10
      unfold basculeref22_Apart.j0
      repeat' first
      | (with_reducible first | exact ih0 _ _ _ _ _ _ _ _ _ _ _ | exact basculeref01_Ints.mono _ _ _ | exact basculeref22_minus.mono _ _ _ | exact basculeref22_plus.mono _ _ _ | exact basculeref22_times.mono _ _ _ _ | exact LeO.refl _ | exact LeO.none _ | refine LeO.ite ?_ ?_ | refine LeO.bind ?_ (fun _ => ?_))
theorem basculeref22_Apart.mono : ∀ a0 a1 a2 a3 a4 a5 a6 a7 a8 a9 k, LeO (basculeref22_Apart.f k a0 a1 a2 a3 a4 a5 a6 a7 a8 a9) (basculeref22_Apart.f (k + 1) a0 a1 a2 a3 a4 a5 a6 a7 a8 a9) := by
  intro a0 a1 a2 a3 a4 a5 a6 a7 a8 a9 k
  have ih0 := basculeref22_Apart.mono_l k
  unfold basculeref22_Apart.f
  repeat' first
      | (with_reducible first | exact ih0 _ _ _ _ _ _ _ _ _ _ _ | exact basculeref01_Ints.mono _ _ _ | exact basculeref22_minus.mono _ _ _ | exact basculeref22_plus.mono _ _ _ | exact basculeref22_times.mono _ _ _ _ | exact LeO.refl _ | exact LeO.none _ | refine LeO.ite ?_ ?_ | refine LeO.bind ?_ (fun _ => ?_))
end Go.Proofs.YtmkekhjbbapngaaGreatDoor.Q
set_option linter.all false
namespace Go.Proofs.YtmkekhjbbapngaaGreatDoor.Q
open Go.RowKit YtmkekhjbbapngaaGreatDoorW.PrintWords Go.Proofs.YtmkekhjbbapngaaGreatDoor.Val
theorem valD_lt : ∀ (l : List Int), (∀ x ∈ l, 0 ≤ x ∧ x ≤ 9) → valD l < 10 ^ l.length
  | [], _ => by decide
  | x :: l, h => by
    have ih := valD_lt l (fun y hy => h y (List.mem_cons_of_mem _ hy))
    have hx := h x (List.mem_cons_self ..)
    rw [valD, List.length_cons, Nat.pow_succ]
    omega
end Go.Proofs.YtmkekhjbbapngaaGreatDoor.Q
