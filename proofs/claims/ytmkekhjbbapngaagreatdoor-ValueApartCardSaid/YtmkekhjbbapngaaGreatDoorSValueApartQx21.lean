/- Qx21 -/
import Derived.Test.YtmkekhjbbapngaaGreatDoorSValueApartPDig
import Derived.Test.YtmkekhjbbapngaaGreatDoorSValueApartPPlain
namespace Go.Proofs.YtmkekhjbbapngaaGreatDoor.Q
open Go.RowKit YtmkekhjbbapngaaGreatDoorW.PrintWords YtmkekhjbbapngaaGreatDoorW.PrintLast YtmkekhjbbapngaaGreatDoorW.PrintMore
attribute [local go_sem] max2_int min2_int max_two min_two
set_option linter.all false
mutual
def basculeref22_point.l0 : Nat → Bool → Int → List Int → Option (ByteArray)
  | 0, _, _, _ => none
  | k + 1, x1, x2, x7 => if (x7.length : Int) < (wrap64 (x2 + 1)) then (if x7.length < 17592186044416 then (basculeref22_point.l0 k x1 x2 (x7 ++ [0])) else (none)) else (basculeref22_point.l1 k x1 x2 x7 (⟨#[]⟩ : ByteArray) 0)
def basculeref22_point.l1 : Nat → Bool → Int → List Int → ByteArray → Int → Option (ByteArray)
  | 0, _, _, _, _, _ => none
  | k + 1, x1, x2, x7, x8, x9 => if x9 < (x7.length : Int) then (if x9 = x2 then (if x2 > 0 then (if 1 + x8.size ≤ 9223372036854775807 then (if 0 ≤ x9 then ((some (([(wrap64 (48 + (rd x7 x9))) % 256] : List Int) : List Int)).bind fun y309 => (if (strOfNums y309).size + ((⟨#[46]⟩ : ByteArray) ++ x8).size ≤ 9223372036854775807 then (basculeref22_point.l1 k x1 x2 x7 ((strOfNums y309) ++ ((⟨#[46]⟩ : ByteArray) ++ x8)) (wrap64 (x9 + 1))) else (none))) else (none)) else (none)) else (if 0 ≤ x9 then ((some (([(wrap64 (48 + (rd x7 x9))) % 256] : List Int) : List Int)).bind fun y313 => (if (strOfNums y313).size + x8.size ≤ 9223372036854775807 then (basculeref22_point.l1 k x1 x2 x7 ((strOfNums y313) ++ x8) (wrap64 (x9 + 1))) else (none))) else (none))) else (if 0 ≤ x9 then ((some (([(wrap64 (48 + (rd x7 x9))) % 256] : List Int) : List Int)).bind fun y317 => (if (strOfNums y317).size + x8.size ≤ 9223372036854775807 then (basculeref22_point.l1 k x1 x2 x7 ((strOfNums y317) ++ x8) (wrap64 (x9 + 1))) else (none))) else (none))) else (if x1 = true then (if 1 + x8.size ≤ 9223372036854775807 then (some ((⟨#[45]⟩ : ByteArray) ++ x8)) else (none)) else (some x8))
end
def basculeref22_point.f (k : Nat) (l0 : List Int) (a1 : Bool) (a2 : Int) : Option (ByteArray) := if ([] : List Int).length + l0.length < 17592186044416 then (basculeref22_point.l0 k a1 a2 (([] : List Int) ++ l0)) else (none)
theorem basculeref22_point.mono_l : ∀ k, (∀ y0 y1 y2, LeO (basculeref22_point.l0 k y0 y1 y2) (basculeref22_point.l0 (k + 1) y0 y1 y2)) ∧ (∀ y0 y1 y2 y3 y4, LeO (basculeref22_point.l1 k y0 y1 y2 y3 y4) (basculeref22_point.l1 (k + 1) y0 y1 y2 y3 y4))
  | 0 => ⟨fun _ _ _ r h => by simp [basculeref22_point.l0] at h, fun _ _ _ _ _ r h => by simp [basculeref22_point.l1] at h⟩
  | k + 1 => by
    obtain ⟨ih0, ih1⟩ := basculeref22_point.mono_l k
    refine ⟨?_, ?_⟩
    · intro y0 y1 y2
      unfold basculeref22_point.l0
      repeat' first
      | (with_reducible first | exact ih0 _ _ _ | exact ih1 _ _ _ _ _ | exact LeO.refl _ | exact LeO.none _ | refine LeO.ite ?_ ?_ | refine LeO.bind ?_ (fun _ => ?_))
      | exact ih0 _ _ _ | exact ih1 _ _ _ _ _ | exact LeO.none _ | refine LeO.ite ?_ ?_ | refine LeO.bind ?_ (fun _ => ?_)
    · intro y0 y1 y2 y3 y4
      unfold basculeref22_point.l1
      repeat' first
      | (with_reducible first | exact ih0 _ _ _ | exact ih1 _ _ _ _ _ | exact LeO.refl _ | exact LeO.none _ | refine LeO.ite ?_ ?_ | refine LeO.bind ?_ (fun _ => ?_))
      | exact ih0 _ _ _ | exact ih1 _ _ _ _ _ | exact LeO.none _ | refine LeO.ite ?_ ?_ | refine LeO.bind ?_ (fun _ => ?_)
theorem basculeref22_point.mono : ∀ a0 a1 a2 k, LeO (basculeref22_point.f k a0 a1 a2) (basculeref22_point.f (k + 1) a0 a1 a2) := by
  intro a0 a1 a2 k
  obtain ⟨ih0, ih1⟩ := basculeref22_point.mono_l k
  unfold basculeref22_point.f
  repeat' first
      | (with_reducible first | exact ih0 _ _ _ | exact ih1 _ _ _ _ _ | exact LeO.refl _ | exact LeO.none _ | refine LeO.ite ?_ ?_ | refine LeO.bind ?_ (fun _ => ?_))
      | exact ih0 _ _ _ | exact ih1 _ _ _ _ _ | exact LeO.none _ | refine LeO.ite ?_ ?_ | refine LeO.bind ?_ (fun _ => ?_)
mutual
def basculeref22_Text.l0 : Nat → List Int → ByteArray → ByteArray → Int → Option (ByteArray)
  | 0, _, _, _, _ => none
  | k + 1, x1, x5, x6, x7 => if x7 < 2 then (if 0 ≤ x7 then (if x7 < (x1.length : Int) then (basculeref22_Text.l1 k x1 x5 x6 x7 (rd x1 x7) (⟨#[]⟩ : ByteArray) 0) else (none)) else (none)) else (some x5)
def basculeref22_Text.l1 : Nat → List Int → ByteArray → ByteArray → Int → Int → ByteArray → Int → Option (ByteArray)
  | 0, _, _, _, _, _, _, _ => none
  | k + 1, x1, x5, x6, x7, x8, x9, x10 => if x10 < 4 then (if 0 ≤ (Int.tmod x8 16) then (if (Int.tmod x8 16) ≤ (wrap64 ((Int.tmod x8 16) + 1)) then (if (wrap64 ((Int.tmod x8 16) + 1)) ≤ (x6.size : Int) then (if (x6.extract ((Int.tmod x8 16) : Int).toNat ((wrap64 ((Int.tmod x8 16) + 1)) : Int).toNat).size + x9.size ≤ 9223372036854775807 then (basculeref22_Text.l1 k x1 x5 x6 x7 (wrap64 (Int.tdiv x8 16)) ((x6.extract ((Int.tmod x8 16) : Int).toNat ((wrap64 ((Int.tmod x8 16) + 1)) : Int).toNat) ++ x9) (wrap64 (x10 + 1))) else (none)) else (none)) else (none)) else (none)) else (if x5.size + x9.size ≤ 9223372036854775807 then (basculeref22_Text.l0 k x1 (x5 ++ x9) x6 (wrap64 (x7 + 1))) else (none))
end
def basculeref22_Text.f (k : Nat) (a0_0 : ByteArray) (a0_1 : Int) (a0_2 : Int) (a0_3 : Int) (a0_4 : Int) (a0_5 : Int) (a0_6 : Int) (a0_7 : Bool) (l1 : List Int) : Option (ByteArray) := if a0_4 = 1 then (if 0 < (l1.length : Int) then (some (strOfNums (([(wrap64 (48 + (rd l1 0))) % 256] : List Int)))) else (none)) else (if a0_4 = 8 then (basculeref22_Text.l0 k l1 (⟨#[]⟩ : ByteArray) (⟨#[48, 49, 50, 51, 52, 53, 54, 55, 56, 57, 97, 98, 99, 100, 101, 102]⟩ : ByteArray) 0) else ((basculeref22_Digits.f a0_0 a0_1 a0_2 a0_3 a0_4 a0_5 a0_6 a0_7 l1).bind fun bt326 => ((basculeref22_point.f k bt326.1 bt326.2 a0_5).bind fun t330 => (some t330))))
theorem basculeref22_Text.mono_l : ∀ k, (∀ y0 y1 y2 y3, LeO (basculeref22_Text.l0 k y0 y1 y2 y3) (basculeref22_Text.l0 (k + 1) y0 y1 y2 y3)) ∧ (∀ y0 y1 y2 y3 y4 y5 y6, LeO (basculeref22_Text.l1 k y0 y1 y2 y3 y4 y5 y6) (basculeref22_Text.l1 (k + 1) y0 y1 y2 y3 y4 y5 y6))
  | 0 => ⟨fun _ _ _ _ r h => by simp [basculeref22_Text.l0] at h, fun _ _ _ _ _ _ _ r h => by simp [basculeref22_Text.l1] at h⟩
  | k + 1 => by
    obtain ⟨ih0, ih1⟩ := basculeref22_Text.mono_l k
    refine ⟨?_, ?_⟩
    · intro y0 y1 y2 y3
      unfold basculeref22_Text.l0
      repeat' first
      | (with_reducible first | exact ih0 _ _ _ _ | exact ih1 _ _ _ _ _ _ _ | exact basculeref22_point.mono _ _ _ _ | exact LeO.refl _ | exact LeO.none _ | refine LeO.ite ?_ ?_ | refine LeO.bind ?_ (fun _ => ?_))
      | exact ih0 _ _ _ _ | exact ih1 _ _ _ _ _ _ _ | exact basculeref22_point.mono _ _ _ _ | exact LeO.none _ | refine LeO.ite ?_ ?_ | refine LeO.bind ?_ (fun _ => ?_)
    · intro y0 y1 y2 y3 y4 y5 y6
      unfold basculeref22_Text.l1
      repeat' first
      | (with_reducible first | exact ih0 _ _ _ _ | exact ih1 _ _ _ _ _ _ _ | exact basculeref22_point.mono _ _ _ _ | exact LeO.refl _ | exact LeO.none _ | refine LeO.ite ?_ ?_ | refine LeO.bind ?_ (fun _ => ?_))
      | exact ih0 _ _ _ _ | exact ih1 _ _ _ _ _ _ _ | exact basculeref22_point.mono _ _ _ _ | exact LeO.none _ | refine LeO.ite ?_ ?_ | refine LeO.bind ?_ (fun _ => ?_)
theorem basculeref22_Text.mono : ∀ a0 a1 a2 a3 a4 a5 a6 a7 a8 k, LeO (basculeref22_Text.f k a0 a1 a2 a3 a4 a5 a6 a7 a8) (basculeref22_Text.f (k + 1) a0 a1 a2 a3 a4 a5 a6 a7 a8) := by
  intro a0 a1 a2 a3 a4 a5 a6 a7 a8 k
  obtain ⟨ih0, ih1⟩ := basculeref22_Text.mono_l k
  unfold basculeref22_Text.f
  repeat' first
      | (with_reducible first | exact ih0 _ _ _ _ | exact ih1 _ _ _ _ _ _ _ | exact basculeref22_point.mono _ _ _ _ | exact LeO.refl _ | exact LeO.none _ | refine LeO.ite ?_ ?_ | refine LeO.bind ?_ (fun _ => ?_))
      | exact ih0 _ _ _ _ | exact ih1 _ _ _ _ _ _ _ | exact basculeref22_point.mono _ _ _ _ | exact LeO.none _ | refine LeO.ite ?_ ?_ | refine LeO.bind ?_ (fun _ => ?_)
end Go.Proofs.YtmkekhjbbapngaaGreatDoor.Q
set_option linter.all false
namespace Go.Proofs.YtmkekhjbbapngaaGreatDoor.Q
open Go.RowKit YtmkekhjbbapngaaGreatDoorW.PrintWords Go.Proofs.YtmkekhjbbapngaaGreatDoor.Val
theorem digL_len_eq (u : Nat) (h : u ≠ 0) : (digL u).length = Lib.nDigits u := by
  induction u using Nat.strongRecOn with
  | ind u ih =>
    rw [digL_pos h, List.length_cons]
    by_cases h10 : u < 10
    · rw [show u / 10 = 0 by omega, digL_zero, Lib.nDigits, dif_pos h10]; rfl
    · rw [ih (u / 10) (by omega) (by omega)]
      conv => rhs; rw [Lib.nDigits]
      rw [dif_neg h10]
theorem lt_digL (u : Nat) : u < 10 ^ (digL u).length := by
  by_cases h : u = 0
  · subst h; rw [digL_zero]; decide
  · rw [digL_len_eq u h]; exact Lib.lt_pow_nDigits u
end Go.Proofs.YtmkekhjbbapngaaGreatDoor.Q
