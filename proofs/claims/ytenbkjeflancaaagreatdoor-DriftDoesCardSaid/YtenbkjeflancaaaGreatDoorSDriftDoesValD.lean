/- What the proof of DriftDoes leans on: ValD. -/
import Derived.Test.YtenbkjeflancaaaGreatDoorSDriftDoesPOf
import Derived.Test.YtenbkjeflancaaaGreatDoorSDriftDoesValE
import Derived.Test.YtenbkjeflancaaaGreatDoorSDriftDoesPReck
import Derived.Test.YtenbkjeflancaaaGreatDoorSDriftDoesPRef22
import Derived.Test.YtenbkjeflancaaaGreatDoorSDriftDoesQx19
set_option linter.unusedVariables false
set_option linter.unusedSimpArgs false
namespace Go.Proofs.YtenbkjeflancaaaGreatDoor.Val
open Go.RowKit Go.Proofs.YtenbkjeflancaaaGreatDoor.Q Go.Proofs.YtenbkjeflancaaaGreatDoorW.PrintWords Go.Proofs.YtenbkjeflancaaaGreatDoorW.PrintMore
def farB (p q : Bool × Nat) (d : Int) : Bool :=
  if p.1 != q.1 then (decide (18446744073709551616 ≤ p.2 + q.2) || decide (d ≤ ((p.2 + q.2 : Nat) : Int))) else decide (d ≤ ((max p.2 q.2 - min p.2 q.2 : Nat) : Int))
def apartR (n : ByteArray) (u f a kd s d : Int) (wr : Bool) (l1 l2 : List Int) : Bool :=
  if mayB n u f a kd s d wr l1 && mayB n u f a kd s d wr l2 then (if d = 0 then !decide (l1 = l2) else farB (numOf kd l1) (numOf kd l2) d) else false
theorem drop_R (l : List Int) (i : Nat) (h : i < l.length) : l.drop i = rd l (i : Int) :: l.drop (i + 1) := by
  rw [List.drop_eq_getElem_cons h]
  unfold rd
  rw [Int.toNat_natCast, List.getD_eq_getElem?_getD, List.getElem?_eq_getElem h]; rfl
theorem equal_go (x y : List Int) (hl : x.length = y.length) (hb : x.length ≤ 1000000) : ∀ (m i k : Nat), i + m = x.length → slices_Equal_int_int.l0 (k + m + 1) x y (x.length : Int) (i : Int) = some (decide (x.drop i = y.drop i))
  | 0, i, k, h => by
    show (if (i : Int) < (x.length : Int) then _ else some true) = _
    rw [if_neg (by omega), List.drop_eq_nil_of_le (by omega), List.drop_eq_nil_of_le (by omega)]; rfl
  | m + 1, i, k, h => by
    show (if (i : Int) < (x.length : Int) then (if 0 ≤ (i : Int) then (if (i : Int) < (x.length : Int) then (if (i : Int) < (y.length : Int) then (if rd x (i : Int) = rd y (i : Int) then slices_Equal_int_int.l0 (k + m + 1) x y (x.length : Int) (wrap64 ((i : Int) + 1)) else some false) else none) else none) else none) else some true) = _
    rw [if_pos (by omega), if_pos (by omega), if_pos (by omega), if_pos (by omega)]
    have hw : wrap64 ((i : Int) + 1) = ((i + 1 : Nat) : Int) := by unfold wrap64; omega
    rw [hw, equal_go x y hl hb m (i + 1) k (by omega), drop_R x i (by omega), drop_R y i (by omega)]
    by_cases he : rd x (i : Int) = rd y (i : Int)
    · rw [if_pos he]
      congr 1
      rw [decide_eq_decide, List.cons.injEq]
      exact ⟨fun h => ⟨he, h⟩, fun h => h.2⟩
    · rw [if_neg he]
      congr 1
      exact (decide_eq_false (fun h => he (List.cons.inj h).1)).symm
theorem equal_eq (x y : List Int) (hb : x.length ≤ 9) : slices_Equal_int_int.f 10 x y = some (decide (x = y)) := by
  unfold slices_Equal_int_int.f
  by_cases hl : x.length = y.length
  · rw [if_pos (by omega)]
    have := equal_go x y hl (by omega) x.length 0 (9 - x.length) (by omega)
    rw [show 9 - x.length + x.length + 1 = 10 by omega] at this
    exact this
  · rw [if_neg (by omega)]
    congr 1
    exact (decide_eq_false (fun h => hl (by rw [h]))).symm
theorem may_short {n : ByteArray} {u f a kd s d : Int} {wr : Bool} {l : List Int} (h : mayB n u f a kd s d wr l = true) : l.length ≤ 4 := by
  have := may_len h
  unfold nOf at this
  have hw := Tab.wordsOf_small kd
  split at this <;> omega
theorem apr_eq (n : ByteArray) (u f a kd s d : Int) (wr : Bool) (l1 l2 : List Int) (h1 : l1.length ≤ 1000000) (h2 : l2.length ≤ 1000000) :
    apr.f 11 n u f a kd s d wr l1 l2 = some (apartR n u f a kd s d wr l1 l2, if mayB n u f a kd s d wr l1 && mayB n u f a kd s d wr l2 then 0 else 1) := by
  unfold apr.f value_may.f apartR
  rw [if_pos h1, if_pos h2]
  cases m1 : mayB n u f a kd s d wr l1
  · rfl
  cases m2 : mayB n u f a kd s d wr l2
  · rfl
  simp only [if_true, Option.bind_some, Bool.and_self]
  unfold apr.j0
  simp only [show ((0 : Int) != 0) = false from rfl, Bool.false_eq_true, if_false]
  by_cases hd : d = 0
  · rw [if_pos hd, if_pos hd, equal_eq _ _ (by have := may_short m1; omega)]
    rfl
  · rw [if_neg hd, if_neg hd]
    obtain ⟨-, -, ⟨d0, d9⟩, hp⟩ := row_facts (may_row m1)
    have k1 : kd ≠ 1 := fun h => hd (hp (.inl h)).2
    have k8 : kd ≠ 8 := fun h => hd (hp (.inr h)).2
    rw [of_all m1 k1 k8, of_all m2 k1 k8]
    have x1 := num_lt m1 k1 k8
    have x2 := num_lt m2 k1 k8
    generalize numOf kd l1 = p at *
    generalize numOf kd l2 = q at *
    obtain ⟨b, x⟩ := p
    obtain ⟨c, y⟩ := q
    simp only [Option.bind_some] at x1 x2 ⊢
    have wd : IntKind.u64.wrap d = d := by rw [IntKind.wrap_u64]; omega
    rw [wd]
    unfold farB
    simp only
    cases hbc : (b != c)
    · simp only [Bool.false_eq_true, if_false]
      have hm : mx (x : Int) (y : Int) - mn (x : Int) (y : Int) = ((max x y - min x y : Nat) : Int) := by
        unfold mx mn
        rw [Nat.max_def, Nat.min_def]
        split <;> split <;> split <;> omega
      rw [hm]
      have : max x y < 18446744073709551616 := by rw [Nat.max_def]; split <;> omega
      have e : IntKind.u64.wrap ((max x y - min x y : Nat) : Int) = ((max x y - min x y : Nat) : Int) := by
        rw [IntKind.wrap_u64]
        generalize max x y = X at *
        generalize min x y = Y at *
        omega
      rw [e]
    · simp only [if_true]
      by_cases ho : 18446744073709551616 ≤ x + y
      · rw [if_pos (by rw [IntKind.wrap_u64]; omega), decide_eq_true ho]; rfl
      · have e : IntKind.u64.wrap ((x : Int) + (y : Int)) = ((x + y : Nat) : Int) := by rw [IntKind.wrap_u64]; omega
        rw [e, if_neg (by omega), decide_eq_false ho, Bool.false_or]
theorem apart_calls (n : ByteArray) (u f a kd s d : Int) (wr : Bool) (A1 : Option Addr) (c1 : Nat) (l1 : List Int) (A2 : Option Addr) (c2 : Nat) (l2 : List Int) (w : World) (hL : Laid w) (hr1 : Kd.C (Kd.int .i64) w A1 l1.length l1) (hc1 : l1.length ≤ c1) (hr2 : Kd.C (Kd.int .i64) w A2 l2.length l2) (hc2 : l2.length ≤ c2) (h1 : l1.length ≤ 1000000) (h2 : l2.length ≤ 1000000) :
    Calls Tryz.prog 17 #[.agg #[.string n, .int .i64 u, .int .i64 f, .int .i64 a, .int .i64 kd, .int .i64 s, .int .i64 d, .bool wr], .slice A1 l1.length c1, .slice A2 l2.length c2] w fun e w' => e = .returned (.tuple #[.bool (apartR n u f a kd s d wr l1 l2), .int .i64 (if mayB n u f a kd s d wr l1 && mayB n u f a kd s d wr l2 then 0 else 1)]) ∧ Below w.heap.size w w' :=
  apr.calls 11 n u f a kd s d wr A1 c1 l1 A2 c2 l2 _ _ w hr1 hc1 hr2 hc2 hL (apr_eq n u f a kd s d wr l1 l2 h1 h2)
end Go.Proofs.YtenbkjeflancaaaGreatDoor.Val
set_option linter.unusedVariables false
set_option linter.unusedSimpArgs false
namespace Go.Proofs.YtenbkjeflancaaaGreatDoor.Q
open Go.RowKit Go.Proofs.YtenbkjeflancaaaGreatDoor.Val Go.Proofs.YtenbkjeflancaaaGreatDoorW.PrintWords
theorem digits_f {n : ByteArray} {u f a kd s d : Int} {wr : Bool} {l : List Int} (h : mayB n u f a kd s d wr l = true) (h1 : kd ≠ 1) (h8 : kd ≠ 8) : basculeref22_Digits.f n u f a kd s d wr l = some (digL (numOf kd l).2, (numOf kd l).1) := by
  have hall := may_all h
  have hm : l.any (bad 65535) = false ∧ (l.length = 1 ∨ l.length = 2 ∨ l.length = 4) ∧ (trn kd = true → l.length = 2) := by
    have hmo : mostOf kd = 65535 := by unfold mostOf; rw [if_neg h1]
    refine ⟨?_, ?_, ?_⟩
    · rw [List.any_eq_false]
      intro x hx
      have := hall x hx
      rw [hmo] at this
      unfold bad
      simp
      omega
    · rcases may_num h h1 h8 with ⟨-, x, rfl, -⟩ | ⟨-, x, y, rfl, -⟩ | ⟨-, x, y, z, v, rfl, -⟩
      · exact .inl rfl
      · exact .inr (.inl rfl)
      · exact .inr (.inr rfl)
    · intro ht
      rcases may_num h h1 h8 with ⟨hk, x, rfl, -⟩ | ⟨-, x, y, rfl, -⟩ | ⟨hk, x, y, z, v, rfl, -⟩
      · rcases hk with rfl | rfl <;> cases ht
      · rfl
      · rcases hk with rfl | rfl <;> cases ht
  show digitsO n u f a kd s d wr l = _
  unfold digitsO
  rw [if_pos hm]
theorem big64 : (18446744073709551616 : Nat) + 18446744073709551616 < 10 ^ 100 := by decide
theorem apart22_ev (n : ByteArray) (u f a kd s d : Int) (wr : Bool) (l1 l2 : List Int) (hm1 : mayB n u f a kd s d wr l1 = true) (hm2 : mayB n u f a kd s d wr l2 = true) (hl : l1.length ≤ 1000) :
    Ev (fun k => basculeref22_Apart.f k n u f a kd s d wr l1 l2) (apartR n u f a kd s d wr l1 l2) := by
  obtain ⟨hk, hs, hd, hp⟩ := row_facts (may_row hm1)
  unfold apartR
  rw [hm1, hm2]
  simp only [Bool.and_self, if_true]
  have hsame : d = 0 → Ev (fun k => basculeref22_Apart.j0 k l1 l2 true n u f a kd s d wr) (if d = 0 then !decide (l1 = l2) else farB (numOf kd l1) (numOf kd l2) d) := by
    intro h0
    rw [if_pos h0]
    refine Ev.step (fun k => rfl) ?_
    exact Ev.bind (ints_ev l1 l2 (by omega)) (Ev.ret _)
  by_cases h1 : kd = 1
  · refine Ev.pos h1 (hsame (hp (.inl h1)).2)
  refine Ev.neg h1 ?_
  by_cases h8 : kd = 8
  · refine Ev.pos h8 (hsame (hp (.inr h8)).2)
  refine Ev.neg h8 ?_
  by_cases h0 : d = 0
  · rw [show (d == 0) = true from beq_iff_eq.2 h0]
    exact hsame h0
  rw [beq_eq_false_iff_ne.2 h0, if_neg h0]
  have hx := num_lt hm1 h1 h8
  have hy := num_lt hm2 h1 h8
  have f1 := digits_f hm1 h1 h8
  have f2 := digits_f hm2 h1 h8
  have hb := big64
  refine Ev.step (fun k => rfl) ?_
  refine Ev.fst f1 (Ev.fst f2 ?_)
  obtain ⟨D, rfl⟩ := Int.eq_ofNat_of_zero_le hd.1
  have tD : Ev (fun k => basculeref22_times.f k ([] : List Int) 10 (D : Int)) (digL D) := by
    have := times_ev 10 0 D (by decide) (by decide) (by omega) (by omega)
    rw [digL_zero, Nat.zero_mul, Nat.zero_add] at this
    exact this
  unfold farB
  generalize numOf kd l1 = p at *
  generalize numOf kd l2 = q at *
  obtain ⟨b, x⟩ := p
  obtain ⟨c, y⟩ := q
  simp only at hx hy ⊢
  cases hbc : (b != c)
  · refine Ev.neg (by simp) ?_
    refine Ev.fst (less_f x y (by omega) (by omega)) ?_
    simp only [Bool.false_eq_true, if_false]
    by_cases hxy : x < y
    · refine Ev.pos (decide_eq_true hxy) ?_
      refine Ev.bind (minus_ev y x (by omega) (by omega)) (Ev.bind tD (Ev.fst (less_f _ _ (by omega) (by omega)) (Ev.ret' ?_)))
      rw [Nat.max_eq_right (by omega), Nat.min_eq_left (by omega), Bool.eq_iff_iff]
      simp
      try omega
    · refine Ev.neg (by simpa using hxy) ?_
      refine Ev.bind (minus_ev x y (by omega) (by omega)) (Ev.bind tD (Ev.fst (less_f _ _ (by omega) (by omega)) (Ev.ret' ?_)))
      rw [Nat.max_eq_left (by omega), Nat.min_eq_right (by omega), Bool.eq_iff_iff]
      simp
      try omega
  · refine Ev.pos rfl ?_
    simp only [if_true]
    refine Ev.bind (plus_ev x y (by omega)) (Ev.bind tD (Ev.fst (less_f _ _ (by omega) (by omega)) (Ev.ret' ?_)))
    rw [Bool.eq_iff_iff]
    simp
    omega
end Go.Proofs.YtenbkjeflancaaaGreatDoor.Q
