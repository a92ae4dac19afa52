/- PureValueApart -/
import Derived.Test.YtmkekhjbbapngaaGreatDoorSValueApartPReck
import Derived.Test.YtmkekhjbbapngaaGreatDoorSValueApartPRef22
import Derived.Test.YtmkekhjbbapngaaGreatDoorSValueApartQx29
set_option linter.all false
namespace Go.Proofs.YtmkekhjbbapngaaGreatDoor.Q
open Go.RowKit Go.Proofs.YtmkekhjbbapngaaGreatDoor.Val YtmkekhjbbapngaaGreatDoorW.PrintWords
theorem awake_evA : Ev (fun k => basculelaw22_awake.f k) true := ⟨3, fun k hk => by
  obtain ⟨j, rfl⟩ : ∃ j, k = j + 3 := ⟨k - 3, by omega⟩
  exact awake_eq j⟩
theorem few_fA (l : List Int) : basculelaw22_few.f l = some (decide ((l.length : Int) ≤ 100)) := rfl
theorem digits_f {n : ByteArray} {u f a kd s d : Int} {wr : Bool} {l : List Int} (h : mayB n u f a kd s d wr l = true) (h1 : kd ≠ 1) (h8 : kd ≠ 8) : basculeref22_Digits.f n u f a kd s d wr l = some (digL (numOf kd l).2, (numOf kd l).1) := by
  have hall := may_all h
  have hm : l.any (bad 65535) = false ∧ (l.length = 1 ∨ l.length = 2 ∨ l.length = 4) ∧ (trn kd = true → l.length = 2) := by
    have hmo : mostOf kd = 65535 := by unfold mostOf; rw [if_neg h1]
    refine ⟨?_, ?_, ?_⟩
    · rw [List.any_eq_false]
      intro x hx
      have := hall x hx
      rw [hmo] at this
      unfold bad
      simp
      omega
    · rcases may_num h h1 h8 with ⟨-, x, rfl, -⟩ | ⟨-, x, y, rfl, -⟩ | ⟨-, x, y, z, v, rfl, -⟩
      · exact .inl rfl
      · exact .inr (.inl rfl)
      · exact .inr (.inr rfl)
    · intro ht
      rcases may_num h h1 h8 with ⟨hk, x, rfl, -⟩ | ⟨-, x, y, rfl, -⟩ | ⟨hk, x, y, z, v, rfl, -⟩
      · rcases hk with rfl | rfl <;> cases ht
      · rfl
      · rcases hk with rfl | rfl <;> cases ht
  show digitsO n u f a kd s d wr l = _
  unfold digitsO
  rw [if_pos hm]
theorem big64 : (18446744073709551616 : Nat) + 18446744073709551616 < 10 ^ 100 := by decide
theorem farB_comm (p q : Bool × Nat) (d : Int) : farB p q d = farB q p d := by
  unfold farB
  rw [Nat.add_comm p.2 q.2, Nat.max_comm, Nat.min_comm]
  have : (p.1 != q.1) = (q.1 != p.1) := by cases p.1 <;> cases q.1 <;> rfl
  rw [this]
theorem apart22_ev (n : ByteArray) (u f a kd s d : Int) (wr : Bool) (l1 l2 : List Int) (hm1 : mayB n u f a kd s d wr l1 = true) (hm2 : mayB n u f a kd s d wr l2 = true) (hl : l1.length ≤ 1000) :
    Ev (fun k => basculeref22_Apart.f k n u f a kd s d wr l1 l2) (apartR n u f a kd s d wr l1 l2) := by
  obtain ⟨hk, hs, hd, hp⟩ := row_facts (may_row hm1)
  unfold apartR
  rw [hm1, hm2]
  simp only [Bool.and_self, if_true]
  have hsame : d = 0 → Ev (fun k => basculeref22_Apart.j0 k l1 l2 true n u f a kd s d wr) (if d = 0 then !decide (l1 = l2) else farB (numOf kd l1) (numOf kd l2) d) := by
    intro h0
    rw [if_pos h0]
    refine Ev.step (fun k => rfl) ?_
    exact Ev.bind (ints_ev l1 l2 (by omega)) (Ev.ret _)
  by_cases h1 : kd = 1
  · refine Ev.pos h1 (hsame (hp (.inl h1)).2)
  refine Ev.neg h1 ?_
  by_cases h8 : kd = 8
  · refine Ev.pos h8 (hsame (hp (.inr h8)).2)
  refine Ev.neg h8 ?_
  by_cases h0 : d = 0
  · rw [show (d == 0) = true from beq_iff_eq.2 h0]
    exact hsame h0
  rw [beq_eq_false_iff_ne.2 h0, if_neg h0]
  have hx := num_lt hm1 h1 h8
  have hy := num_lt hm2 h1 h8
  have f1 := digits_f hm1 h1 h8
  have f2 := digits_f hm2 h1 h8
  have hb := big64
  refine Ev.step (fun k => rfl) ?_
  refine Ev.fst f1 (Ev.fst f2 ?_)
  obtain ⟨D, rfl⟩ := Int.eq_ofNat_of_zero_le hd.1
  have tD : Ev (fun k => basculeref22_times.f k ([] : List Int) 10 (D : Int)) (digL D) := by
    have := times_ev 10 0 D (by decide) (by decide) (by omega) (by omega)
    rw [digL_zero, Nat.zero_mul, Nat.zero_add] at this
    exact this
  unfold farB
  generalize numOf kd l1 = p at *
  generalize numOf kd l2 = q at *
  obtain ⟨b, x⟩ := p
  obtain ⟨c, y⟩ := q
  simp only at hx hy ⊢
  cases hbc : (b != c)
  · refine Ev.neg (by simp) ?_
    refine Ev.fst (less_f x y (by omega) (by omega)) ?_
    simp only [Bool.false_eq_true, if_false]
    by_cases hxy : x < y
    · refine Ev.pos (decide_eq_true hxy) ?_
      refine Ev.bind (minus_ev y x (by omega) (by omega)) (Ev.bind tD (Ev.fst (less_f _ _ (by omega) (by omega)) (Ev.ret' ?_)))
      rw [Nat.max_eq_right (by omega), Nat.min_eq_left (by omega), Bool.eq_iff_iff]
      simp
      try omega
    · refine Ev.neg (by simpa using hxy) ?_
      refine Ev.bind (minus_ev x y (by omega) (by omega)) (Ev.bind tD (Ev.fst (less_f _ _ (by omega) (by omega)) (Ev.ret' ?_)))
      rw [Nat.max_eq_left (by omega), Nat.min_eq_right (by omega), Bool.eq_iff_iff]
      simp
      try omega
  · refine Ev.pos rfl ?_
    simp only [if_true]
    refine Ev.bind (plus_ev x y (by omega)) (Ev.bind tD (Ev.fst (less_f _ _ (by omega) (by omega)) (Ev.ret' ?_)))
    rw [Bool.eq_iff_iff]
    simp
    omega
end Go.Proofs.YtmkekhjbbapngaaGreatDoor.Q
namespace Go.Proofs.YtmkekhjbbapngaaGreatDoor.Pure
open Go.RowKit Go.Proofs.YtmkekhjbbapngaaGreatDoor.Q Go.Proofs.YtmkekhjbbapngaaGreatDoor.Val YtmkekhjbbapngaaGreatDoorW.PrintWords
attribute [local irreducible] basculelaw22_awake.f value_Apart.f basculeref22_Apart.f basculeref22_May.f basculeref22_Row.f
theorem ValueApart : basculelaw22_ValueApart.Pure := by
  intro n u f a kd s d wr l1 l2 _ _ _ _ _ _ _ _ _ _ _ _
  refine Ev.rounds ?_
  have hend : Ev (fun k => basculelaw22_ValueApart.j0 k l1 l2 true n u f a kd s d wr) true := by
    refine Ev.step (fun k => rfl) ?_
    exact Ev.ret _
  refine Ev.fst (few_fA l1) ?_
  by_cases h1 : ¬ (l1.length : Int) ≤ 100
  · exact Ev.neg (by simpa using h1) hend
  replace h1 := Decidable.not_not.1 h1
  refine Ev.pos (decide_eq_true h1) (Ev.fst (few_fA l2) ?_)
  by_cases h2 : ¬ (l2.length : Int) ≤ 100
  · rw [decide_eq_false h2]
    exact hend
  replace h2 := Decidable.not_not.1 h2
  rw [decide_eq_true h2]
  have hA : ∀ x y : List Int, x.length ≤ 1000000 → y.length ≤ 1000000 → value_Apart.f n u f a kd s d wr x y = some (apartR n u f a kd s d wr x y, if mayB n u f a kd s d wr x && mayB n u f a kd s d wr y then 0 else 1) := by
    intro x y hx hy
    unfold value_Apart.f
    rw [if_pos ⟨hx, hy⟩]
  have hno : ∀ x y, (mayB n u f a kd s d wr x && mayB n u f a kd s d wr y) = false → apartR n u f a kd s d wr x y = false := by
    intro x y h
    unfold apartR
    rw [h]; rfl
  have m1 : ∀ l, rowB n u f a kd s d wr = true → (decide ((l.length : Int) = nOf kd) && !(l.any (bad (mostOf kd)))) = mayB n u f a kd s d wr l := by
    intro l hr; unfold mayB; rw [hr, Bool.true_and]
  refine Ev.step (fun k => rfl) ?_
  refine Ev.fst (hA l1 l2 (by omega) (by omega)) (Ev.fst (hA l2 l1 (by omega) (by omega)) (Ev.bind (row22_ev n u f a kd s d wr) ?_))
  have hbad : (mayB n u f a kd s d wr l1 && mayB n u f a kd s d wr l2) = false → Ev (fun k => basculelaw22_ValueApart.j1 k l1 l2 (apartR n u f a kd s d wr l1 l2) (if mayB n u f a kd s d wr l1 && mayB n u f a kd s d wr l2 then 0 else 1) (apartR n u f a kd s d wr l2 l1) (if mayB n u f a kd s d wr l2 && mayB n u f a kd s d wr l1 then 0 else 1) true n u f a kd s d wr) true := by
    intro h
    rw [hno l1 l2 h, hno l2 l1 (by rw [Bool.and_comm]; exact h), Bool.and_comm (mayB n u f a kd s d wr l2), h]
    refine Ev.step (fun k => rfl) ?_
    refine Ev.bind awake_evA ?_
    refine Ev.pos rfl ?_
    refine Ev.pos rfl (Ev.pos rfl (Ev.neg (by simp) (Ev.ret' rfl)))
  cases hr : rowB n u f a kd s d wr
  · refine Ev.neg (by simp) (hbad ?_)
    unfold mayB
    rw [hr]; rfl
  · refine Ev.pos rfl (Ev.bind (may22_ev n u f a kd s d wr l1 (by omega)) ?_)
    rw [m1 l1 hr]
    cases g1 : mayB n u f a kd s d wr l1
    · rw [g1] at hbad
      exact Ev.neg (by simp) (hbad rfl)
    · refine Ev.pos rfl (Ev.bind (may22_ev n u f a kd s d wr l2 (by omega)) ?_)
      rw [m1 l2 hr]
      cases g2 : mayB n u f a kd s d wr l2
      · rw [g1, g2] at hbad
        exact hbad rfl
      · have hself : apartR n u f a kd s d wr l1 l1 = false := by
          obtain ⟨hk, hs, hd, hp⟩ := row_facts hr
          unfold apartR
          rw [g1]
          simp only [Bool.and_self, if_true]
          by_cases h0 : d = 0
          · rw [if_pos h0]; simp
          · rw [if_neg h0]
            unfold farB
            simp
            omega
        have hcomm : apartR n u f a kd s d wr l2 l1 = apartR n u f a kd s d wr l1 l2 := by
          unfold apartR
          rw [g1, g2, farB_comm]
          have : decide (l2 = l1) = decide (l1 = l2) := by rw [Bool.eq_iff_iff]; simp; exact eq_comm
          rw [this]
        refine Ev.step (fun k => rfl) ?_
        refine Ev.fst (hA l1 l1 (by omega) (by omega)) (Ev.bind awake_evA ?_)
        rw [g1, hself, hcomm]
        refine Ev.pos rfl ?_
        refine Ev.pos rfl (Ev.pos rfl (Ev.pos rfl (Ev.pos (by simp) (Ev.neg (by simp) ?_))))
        exact Ev.bind (apart22_ev n u f a kd s d wr l1 l2 g1 g2 (by omega)) (Ev.ret' (by simp))
end Go.Proofs.YtmkekhjbbapngaaGreatDoor.Pure
