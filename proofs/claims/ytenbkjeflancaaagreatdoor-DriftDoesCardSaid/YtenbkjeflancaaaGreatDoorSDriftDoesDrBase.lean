/- What the proof of DriftDoes leans on: DrBase. -/
import Derived.Test.YtenbkjeflancaaaGreatDoorSDriftDoesValT
import Derived.Test.YtenbkjeflancaaaGreatDoorSDriftDoesValD
import Derived.Test.YtenbkjeflancaaaGreatDoorSDriftDoesQx5
import Derived.WalkMore
import Derived.Deep.DeepFit
import Derived.Outline
import Derived.Lib.Hide
import Derived.IntWalk
set_option linter.unusedVariables false
set_option linter.unusedSimpArgs false
namespace Go.Proofs.YtenbkjeflancaaaGreatDoor.Val
open Go.RowKit Go.Proofs.YtenbkjeflancaaaGreatDoorW.PrintWords Go.Proofs.YtenbkjeflancaaaGreatDoor.Q
theorem check1_eq (n : ByteArray) (u f a kd s d : Int) (wr : Bool) : ∃ i er : Int, table_Check.f 6 [(⟨n, u, f, a, kd, s, d, wr⟩ : S23)] = some (i, er) ∧ (er != 0) = !rowB n u f a kd s d wr := by
  have hf : Tab.findB [] n = false := rfl
  have e : nextE [] n u f a kd s d wr = if rowB n u f a kd s d wr then 0 else if namedB n then 220 else 210 := by
    unfold nextE rowB
    rw [hf]
    cases namedB n <;> cases Tab.rangeB u f a kd s d wr <;> rfl
  cases hr : rowB n u f a kd s d wr
  · refine ⟨1, if namedB n then 220 else 210, ?_, by cases namedB n <;> rfl⟩
    show (table_next.f 5 [] n u f a kd s d wr).bind _ = _
    rw [next_eq 2 [] (by simp), e, hr]
    cases namedB n <;> simp [wrap64]
  · refine ⟨0, 0, ?_, rfl⟩
    show (table_next.f 5 [] n u f a kd s d wr).bind _ = _
    rw [next_eq 2 [] (by simp), e, hr]
    have w1 : wrap64 (0 + 1) = 1 := by unfold wrap64; decide
    simp only [if_true, Option.bind_some, w1]
    show (if (1 : Int) < 1 then _ else some ((0 : Int), (0 : Int))) = _
    rw [if_neg (by decide)]
theorem check1_calls (n : ByteArray) (u f a kd s d : Int) (wr : Bool) (g : Nat) (w : World) (hL : Laid w) (hb : w.heap[g]? = some (.cells #[.string n, .int .i64 u, .int .i64 f, .int .i64 a, .int .i64 kd, .int .i64 s, .int .i64 d, .bool wr] 23 (0, 0))) :
    Calls Tryz.prog 14 #[.slice (some ⟨g, 0, none⟩) 1 1] w fun e w' => ∃ i er : Int, e = .returned (.tuple #[.int .i64 i, .int .i64 er]) ∧ ((er != 0) = !rowB n u f a kd s d wr) ∧ Below w.heap.size w w' := by
  obtain ⟨i, er, he, hz⟩ := check1_eq n u f a kd s d wr
  have hr : Kd.C k23 w (some ⟨g, 0, none⟩) ([(⟨n, u, f, a, kd, s, d, wr⟩ : S23)] : List S23).length [(⟨n, u, f, a, kd, s, d, wr⟩ : S23)] := by
    refine ⟨rfl, by simp, fun _ => ⟨⟨g, 0, none⟩, rfl, fun j p hp => ?_⟩⟩
    obtain ⟨rfl, rfl⟩ : j = 0 ∧ p = ⟨n, u, f, a, kd, s, d, wr⟩ := by
      cases j with
      | zero => exact ⟨rfl, (Option.some.inj hp).symm⟩
      | succ j => simp at hp
    refine ⟨[.string n, .int .i64 u, .int .i64 f, .int .i64 a, .int .i64 kd, .int .i64 s, .int .i64 d, .bool wr], rfl, ⟨[.string n], [.int .i64 u, .int .i64 f, .int .i64 a, .int .i64 kd, .int .i64 s, .int .i64 d, .bool wr], rfl, rfl, [.int .i64 u], [.int .i64 f, .int .i64 a, .int .i64 kd, .int .i64 s, .int .i64 d, .bool wr], rfl, rfl, [.int .i64 f], [.int .i64 a, .int .i64 kd, .int .i64 s, .int .i64 d, .bool wr], rfl, rfl, [.int .i64 a], [.int .i64 kd, .int .i64 s, .int .i64 d, .bool wr], rfl, rfl, [.int .i64 kd], [.int .i64 s, .int .i64 d, .bool wr], rfl, rfl, [.int .i64 s], [.int .i64 d, .bool wr], rfl, rfl, [.int .i64 d], [.bool wr], rfl, rfl, rfl⟩, ?_⟩
    intro i x hx
    have hi : i < 8 := (List.getElem?_eq_some_iff.1 hx).1
    have hc := blk_cell hb i
    have e : (⟨g, 0, none⟩ : Addr).add (0 * k23.sz + i) = ⟨g, i, none⟩ := by simp [Addr.add]; intro h; exact h.symm
    show w.cell? ((⟨g, 0, none⟩ : Addr).add (0 * k23.sz + i)) = _
    rw [e, hc]
    simpa using hx
  refine (table_Check.calls 6 (some ⟨g, 0, none⟩) 1 _ i er w hr (Nat.le_refl _) hL he).mono ?_
  rintro e w' ⟨rfl, hb⟩
  exact ⟨i, er, rfl, hz, hb⟩
theorem name_a : namedB ⟨#[97]⟩ = true := by decide +kernel
theorem aw_row : rowB ⟨#[97]⟩ 1 3 0 2 0 5 false = true := by
  unfold rowB
  rw [name_a, Bool.true_and]
  decide +kernel
theorem aw_may (x : Int) (h0 : 0 ≤ x) (h1 : x ≤ 65535) : mayB ⟨#[97]⟩ 1 3 0 2 0 5 false [x] = true := by
  unfold mayB
  rw [aw_row]
  have e : ([x] : List Int).any (bad (mostOf 2)) = false := by
    have : mostOf 2 = 65535 := by decide
    rw [this]
    unfold bad
    simp
    omega
  rw [e]
  show (true && (decide (((1 : Nat) : Int) = nOf 2) && !false)) = true
  decide +kernel
theorem aw_num (x : Int) (h0 : 0 ≤ x) (h1 : x ≤ 65535) : numOf 2 [x] = (false, x.toNat) := by
  have e : ordW 2 [x] = [x] := rfl
  have e2 : sgn 2 = false := by decide
  unfold numOf
  rw [e2, e]
  simp [numX]
theorem aw_ap (x y : Int) (hx : 0 ≤ x) (hx' : x ≤ 65535) (hy : 0 ≤ y) (hy' : y ≤ 65535) : apartR ⟨#[97]⟩ 1 3 0 2 0 5 false [x] [y] = farB (false, x.toNat) (false, y.toNat) 5 := by
  unfold apartR
  rw [aw_may x hx hx', aw_may y hy hy', aw_num x hx hx', aw_num y hy hy']
  rfl
theorem aw_ap1 : apartR ⟨#[97]⟩ 1 3 0 2 0 5 false [10] [14] = false := by
  rw [aw_ap _ _ (by decide) (by decide) (by decide) (by decide)]; decide +kernel
theorem aw_ap2 : apartR ⟨#[97]⟩ 1 3 0 2 0 5 false [10] [15] = true := by
  rw [aw_ap _ _ (by decide) (by decide) (by decide) (by decide)]; decide +kernel
theorem aw_dec (x : Nat) (h1 : 10 ≤ x) (h2 : x < 20) : textR ⟨#[97]⟩ 1 3 0 2 0 5 false [(x : Int)] = ⟨#[49, UInt8.ofNat (48 + x % 10)]⟩ := by
  unfold textR
  rw [aw_may _ (by omega) (by omega), if_pos rfl]
  unfold textL
  rw [if_neg (by decide), if_neg (by decide), aw_num _ (by omega) (by omega)]
  unfold pointL
  have e : Lib.decDigits x = [49, UInt8.ofNat (48 + x % 10)] := by
    have d1 : ∀ u : Nat, u < 10 → Lib.decDigits u = [UInt8.ofNat (48 + u)] := fun u h => by rw [Lib.decDigits, dif_pos h]
    rw [Lib.decDigits, dif_neg (by omega), show x / 10 = 1 by omega, d1 1 (by decide)]
    rfl
  simp [e]
theorem aw_t1 : textR ⟨#[97]⟩ 1 3 0 2 0 5 false [10] = ⟨#[49, 48]⟩ := aw_dec 10 (by decide) (by decide)
theorem aw_t2 : textR ⟨#[97]⟩ 1 3 0 2 0 5 false [15] = ⟨#[49, 53]⟩ := aw_dec 15 (by decide) (by decide)
end Go.Proofs.YtenbkjeflancaaaGreatDoor.Val
