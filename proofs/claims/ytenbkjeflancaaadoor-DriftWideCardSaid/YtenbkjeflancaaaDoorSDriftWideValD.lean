/- What the proof of DriftWide leans on: ValD. -/
import Derived.Test.YtenbkjeflancaaaDoorSDriftWidePOf
import Derived.Test.YtenbkjeflancaaaDoorSDriftWideValE
set_option linter.unusedVariables false
set_option linter.unusedSimpArgs false
namespace Go.Proofs.YtenbkjeflancaaaDoor.Val
open Go.RowKit Go.Proofs.YtenbkjeflancaaaDoor.Q Go.Proofs.YtenbkjeflancaaaDoorW.PrintWords Go.Proofs.YtenbkjeflancaaaDoorW.PrintMore
def farB (p q : Bool × Nat) (d : Int) : Bool :=
  if p.1 != q.1 then (decide (18446744073709551616 ≤ p.2 + q.2) || decide (d ≤ ((p.2 + q.2 : Nat) : Int))) else decide (d ≤ ((max p.2 q.2 - min p.2 q.2 : Nat) : Int))
def apartR (n : ByteArray) (u f a kd s d : Int) (wr : Bool) (l1 l2 : List Int) : Bool :=
  if mayB n u f a kd s d wr l1 && mayB n u f a kd s d wr l2 then (if d = 0 then !decide (l1 = l2) else farB (numOf kd l1) (numOf kd l2) d) else false
theorem drop_R (l : List Int) (i : Nat) (h : i < l.length) : l.drop i = rd l (i : Int) :: l.drop (i + 1) := by
  rw [List.drop_eq_getElem_cons h]
  unfold rd
  rw [Int.toNat_natCast, List.getD_eq_getElem?_getD, List.getElem?_eq_getElem h]; rfl
theorem equal_go (x y : List Int) (hl : x.length = y.length) (hb : x.length ≤ 1000000) : ∀ (m i k : Nat), i + m = x.length → slices_Equal_int_int.l0 (k + m + 1) x y (x.length : Int) (i : Int) = some (decide (x.drop i = y.drop i))
  | 0, i, k, h => by
    show (if (i : Int) < (x.length : Int) then _ else some true) = _
    rw [if_neg (by omega), List.drop_eq_nil_of_le (by omega), List.drop_eq_nil_of_le (by omega)]; rfl
  | m + 1, i, k, h => by
    show (if (i : Int) < (x.length : Int) then (if 0 ≤ (i : Int) then (if (i : Int) < (x.length : Int) then (if (i : Int) < (y.length : Int) then (if rd x (i : Int) = rd y (i : Int) then slices_Equal_int_int.l0 (k + m + 1) x y (x.length : Int) (wrap64 ((i : Int) + 1)) else some false) else none) else none) else none) else some true) = _
    rw [if_pos (by omega), if_pos (by omega), if_pos (by omega), if_pos (by omega)]
    have hw : wrap64 ((i : Int) + 1) = ((i + 1 : Nat) : Int) := by unfold wrap64; omega
    rw [hw, equal_go x y hl hb m (i + 1) k (by omega), drop_R x i (by omega), drop_R y i (by omega)]
    by_cases he : rd x (i : Int) = rd y (i : Int)
    · rw [if_pos he]
      congr 1
      rw [decide_eq_decide, List.cons.injEq]
      exact ⟨fun h => ⟨he, h⟩, fun h => h.2⟩
    · rw [if_neg he]
      congr 1
      exact (decide_eq_false (fun h => he (List.cons.inj h).1)).symm
theorem equal_eq (x y : List Int) (hb : x.length ≤ 9) : slices_Equal_int_int.f 10 x y = some (decide (x = y)) := by
  unfold slices_Equal_int_int.f
  by_cases hl : x.length = y.length
  · rw [if_pos (by omega)]
    have := equal_go x y hl (by omega) x.length 0 (9 - x.length) (by omega)
    rw [show 9 - x.length + x.length + 1 = 10 by omega] at this
    exact this
  · rw [if_neg (by omega)]
    congr 1
    exact (decide_eq_false (fun h => hl (by rw [h]))).symm
theorem may_short {n : ByteArray} {u f a kd s d : Int} {wr : Bool} {l : List Int} (h : mayB n u f a kd s d wr l = true) : l.length ≤ 4 := by
  have := may_len h
  unfold nOf at this
  have hw := Tab.wordsOf_small kd
  split at this <;> omega
theorem apr_eq (n : ByteArray) (u f a kd s d : Int) (wr : Bool) (l1 l2 : List Int) (h1 : l1.length ≤ 1000000) (h2 : l2.length ≤ 1000000) :
    apr.f 11 n u f a kd s d wr l1 l2 = some (apartR n u f a kd s d wr l1 l2, if mayB n u f a kd s d wr l1 && mayB n u f a kd s d wr l2 then 0 else 1) := by
  unfold apr.f value_may.f apartR
  rw [if_pos h1, if_pos h2]
  cases m1 : mayB n u f a kd s d wr l1
  · rfl
  cases m2 : mayB n u f a kd s d wr l2
  · rfl
  simp only [if_true, Option.bind_some, Bool.and_self]
  unfold apr.j0
  simp only [show ((0 : Int) != 0) = false from rfl, Bool.false_eq_true, if_false]
  by_cases hd : d = 0
  · rw [if_pos hd, if_pos hd, equal_eq _ _ (by have := may_short m1; omega)]
    rfl
  · rw [if_neg hd, if_neg hd]
    obtain ⟨-, -, ⟨d0, d9⟩, hp⟩ := row_facts (may_row m1)
    have k1 : kd ≠ 1 := fun h => hd (hp (.inl h)).2
    have k8 : kd ≠ 8 := fun h => hd (hp (.inr h)).2
    rw [of_all m1 k1 k8, of_all m2 k1 k8]
    have x1 := num_lt m1 k1 k8
    have x2 := num_lt m2 k1 k8
    generalize numOf kd l1 = p at *
    generalize numOf kd l2 = q at *
    obtain ⟨b, x⟩ := p
    obtain ⟨c, y⟩ := q
    simp only [Option.bind_some] at x1 x2 ⊢
    have wd : IntKind.u64.wrap d = d := by rw [IntKind.wrap_u64]; omega
    rw [wd]
    unfold farB
    simp only
    cases hbc : (b != c)
    · simp only [Bool.false_eq_true, if_false]
      have hm : mx (x : Int) (y : Int) - mn (x : Int) (y : Int) = ((max x y - min x y : Nat) : Int) := by
        unfold mx mn
        rw [Nat.max_def, Nat.min_def]
        split <;> split <;> split <;> omega
      rw [hm]
      have : max x y < 18446744073709551616 := by rw [Nat.max_def]; split <;> omega
      have e : IntKind.u64.wrap ((max x y - min x y : Nat) : Int) = ((max x y - min x y : Nat) : Int) := by
        rw [IntKind.wrap_u64]
        generalize max x y = X at *
        generalize min x y = Y at *
        omega
      rw [e]
    · simp only [if_true]
      by_cases ho : 18446744073709551616 ≤ x + y
      · rw [if_pos (by rw [IntKind.wrap_u64]; omega), decide_eq_true ho]; rfl
      · have e : IntKind.u64.wrap ((x : Int) + (y : Int)) = ((x + y : Nat) : Int) := by rw [IntKind.wrap_u64]; omega
        rw [e, if_neg (by omega), decide_eq_false ho, Bool.false_or]
theorem apart_calls (n : ByteArray) (u f a kd s d : Int) (wr : Bool) (A1 : Option Addr) (c1 : Nat) (l1 : List Int) (A2 : Option Addr) (c2 : Nat) (l2 : List Int) (w : World) (hL : Laid w) (hr1 : Kd.C (Kd.int .i64) w A1 l1.length l1) (hc1 : l1.length ≤ c1) (hr2 : Kd.C (Kd.int .i64) w A2 l2.length l2) (hc2 : l2.length ≤ c2) (h1 : l1.length ≤ 1000000) (h2 : l2.length ≤ 1000000) :
    Calls Tryd.prog 12 #[.agg #[.string n, .int .i64 u, .int .i64 f, .int .i64 a, .int .i64 kd, .int .i64 s, .int .i64 d, .bool wr], .slice A1 l1.length c1, .slice A2 l2.length c2] w fun e w' => e = .returned (.tuple #[.bool (apartR n u f a kd s d wr l1 l2), .int .i64 (if mayB n u f a kd s d wr l1 && mayB n u f a kd s d wr l2 then 0 else 1)]) ∧ Below w.heap.size w w' :=
  apr.calls 11 n u f a kd s d wr A1 c1 l1 A2 c2 l2 _ _ w hr1 hc1 hr2 hc2 hL (apr_eq n u f a kd s d wr l1 l2 h1 h2)
end Go.Proofs.YtenbkjeflancaaaDoor.Val
