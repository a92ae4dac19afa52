/- What the proof of ValueOrders leans on: PureValueOrders. -/
import Derived.Test.YtmkekhjbbapngaaGreatDoorSValueOrdersPLaw22
import Derived.Test.YtmkekhjbbapngaaGreatDoorSValueOrdersQx29
set_option linter.unusedVariables false
set_option linter.unusedSimpArgs false
namespace Go.Proofs.YtmkekhjbbapngaaGreatDoor.Q
open Go.RowKit Go.Proofs.YtmkekhjbbapngaaGreatDoor.Val Go.Proofs.YtmkekhjbbapngaaGreatDoorW.PrintWords
theorem orders_text (a : Nat) (sc : Int) (ha : a ≤ 4294967295) (h0 : 0 ≤ sc) (h9 : sc ≤ 9) :
    value_Text.f ⟨#[97]⟩ 1 3 0 4 sc 0 false [wrap64 (Int.tdiv (a : Int) 65536), Int.tmod (a : Int) 65536] = some (mkB (pointL false a sc.toNat), 0) := by
  have e1 : wrap64 (Int.tdiv (a : Int) 65536) = ((a / 65536 : Nat) : Int) := by
    rw [Int.tdiv_eq_ediv_of_nonneg (by omega)]
    unfold wrap64
    omega
  have e2 : Int.tmod (a : Int) 65536 = ((a % 65536 : Nat) : Int) := by
    rw [Int.tmod_eq_emod_of_nonneg (by omega)]
    omega
  rw [e1, e2]
  have hm : mayB ⟨#[97]⟩ 1 3 0 4 sc 0 false [((a / 65536 : Nat) : Int), ((a % 65536 : Nat) : Int)] = true := by
    rw [may_row1 4 sc _ (by omega) h0 h9]
    unfold bad
    simp only [List.any_cons, List.any_nil, Bool.or_false]
    have h1 : decide (((a / 65536 : Nat) : Int) < 0) = false := decide_eq_false (by omega)
    have h2 : decide ((65535 : Int) < ((a / 65536 : Nat) : Int)) = false := decide_eq_false (by omega)
    have h3 : decide (((a % 65536 : Nat) : Int) < 0) = false := decide_eq_false (by omega)
    have h4 : decide ((65535 : Int) < ((a % 65536 : Nat) : Int)) = false := decide_eq_false (by omega)
    rw [h1, h2, h3, h4]
    rfl
  rw [text_num1 4 sc _ (by omega) (by simp) hm]
  have hn : numOf 4 [((a / 65536 : Nat) : Int), ((a % 65536 : Nat) : Int)] = (false, a) := by
    unfold numOf
    rw [show sgn 4 = false from rfl, Bool.false_and, if_neg (by decide)]
    have : numX (ordW 4 [((a / 65536 : Nat) : Int), ((a % 65536 : Nat) : Int)]) = a := by
      show (0 * 65536 + ((a / 65536 : Nat) : Int).toNat) * 65536 + ((a % 65536 : Nat) : Int).toNat = a
      rw [Int.toNat_natCast, Int.toNat_natCast]
      omega
    rw [this]
  rw [hn]
end Go.Proofs.YtmkekhjbbapngaaGreatDoor.Q
namespace Go.Proofs.YtmkekhjbbapngaaGreatDoor.Pure
open Go.RowKit Go.Proofs.YtmkekhjbbapngaaGreatDoor.Q Go.Proofs.YtmkekhjbbapngaaGreatDoor.Val Go.Proofs.YtmkekhjbbapngaaGreatDoorW.PrintWords
theorem ValueOrders : basculelaw22_ValueOrders.Pure := by
  intro a b sc _ _ _
  refine ⟨10, ?_⟩
  unfold basculelaw22_ValueOrders.f
  have yes : basculelaw22_ValueOrders.j0 10 a b sc true = some true := rfl
  by_cases h1 : a < 0
  · rw [if_pos h1]; exact yes
  rw [if_neg h1]
  by_cases h2 : b < a
  · rw [if_pos h2]; exact yes
  rw [if_neg h2]
  by_cases h3 : b > 4294967295
  · rw [if_pos h3]; exact yes
  rw [if_neg h3]
  by_cases h4 : sc < 0
  · rw [if_pos h4]; exact yes
  rw [if_neg h4]
  by_cases h5 : sc > 9
  · rw [decide_eq_true h5]; exact yes
  rw [decide_eq_false h5]
  obtain ⟨x, rfl⟩ := Int.eq_ofNat_of_zero_le (show 0 ≤ a by omega)
  obtain ⟨y, rfl⟩ := Int.eq_ofNat_of_zero_le (show 0 ≤ b by omega)
  unfold basculelaw22_ValueOrders.j0 basculelaw22_row.f
  simp only [Bool.false_eq_true, if_false, Option.bind_some]
  rw [orders_text x sc (by omega) (by omega) (by omega), orders_text y sc (by omega) (by omega) (by omega)]
  simp only [Option.bind_some]
  rw [awake_eq 6]
  simp only [Option.bind_some, if_true, mkB_size, mkB_toList]
  have hmono := pt_mono x y sc.toNat (by omega)
  have hord := pt_order x y sc.toNat
  generalize hp : pointL false x sc.toNat = p at *
  generalize hq : pointL false y sc.toNat = q at *
  by_cases hl : (p.length : Int) < (q.length : Int)
  · rw [if_pos hl]
    have hpq : p ≠ q := fun h => by rw [h] at hl; omega
    have hxy : x ≠ y := fun h => hpq (by rw [← hp, ← hq, h])
    have e1 : (p == q) = false := beq_eq_false_iff_ne.2 hpq
    have e2 : ((x : Int) == (y : Int)) = false := beq_eq_false_iff_ne.2 (by omega)
    rw [e1, e2]; rfl
  · rw [if_neg hl]
    have hlen : p.length = q.length := by omega
    rw [if_pos (by omega)]
    obtain ⟨-, hinj⟩ := hord hlen
    have hless : Op.bytesLess q p = false := by
      have := (pt_order y x sc.toNat (by rw [hp, hq, hlen])).1
      rw [hp, hq] at this
      rw [this]
      exact decide_eq_false (by omega)
    rw [hless]
    simp only [Bool.false_eq_true, if_false]
    by_cases hxy : x = y
    · have e1 : (p == q) = true := by rw [hinj.2 hxy]; exact beq_self_eq_true q
      have e2 : ((x : Int) == (y : Int)) = true := by rw [hxy]; exact beq_self_eq_true _
      rw [e1, e2]; rfl
    · have e1 : (p == q) = false := beq_eq_false_iff_ne.2 (fun h => hxy (hinj.1 h))
      have e2 : ((x : Int) == (y : Int)) = false := beq_eq_false_iff_ne.2 (by omega)
      rw [e1, e2]; rfl
end Go.Proofs.YtmkekhjbbapngaaGreatDoor.Pure
