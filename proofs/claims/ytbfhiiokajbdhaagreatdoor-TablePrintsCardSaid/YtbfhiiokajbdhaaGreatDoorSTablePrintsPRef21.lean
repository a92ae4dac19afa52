/- What the proof of TablePrints leans on: PRef21. -/
import Derived.Test.YtbfhiiokajbdhaaGreatDoorSTablePrintsPRefN
import Derived.Test.YtbfhiiokajbdhaaGreatDoorSTablePrintsPTab
import Derived.Test.YtbfhiiokajbdhaaGreatDoorSTablePrintsPCheck
import Derived.Test.YtbfhiiokajbdhaaGreatDoorSTablePrintsQx11
import Derived.Test.YtbfhiiokajbdhaaGreatDoorSTablePrintsQx13
set_option linter.unusedVariables false
set_option linter.unusedSimpArgs false
namespace Go.Proofs.YtbfhiiokajbdhaaGreatDoor.Q
open Go.RowKit Go.Proofs.YtbfhiiokajbdhaaGreatDoorW.PrintWords Go.Proofs.YtbfhiiokajbdhaaGreatDoor.Val
theorem drop_at (l : List UInt8) (i : Nat) (h : i < l.length) : ∃ b, l[i]? = some b ∧ l.drop i = b :: l.drop (i + 1) := by
  refine ⟨l[i], List.getElem?_eq_getElem h, ?_⟩
  rw [List.drop_eq_getElem_cons h]
theorem blanks_from (s : ByteArray) (hs : s.size ≤ 1000000) (d : Nat) : ∀ i : Nat, s.size - i = d → i ≤ s.size → Ev (fun k => basculeref21_name.l0 k s (i : Int)) (!Top.hasAny (s.data.toList.drop i) [32, 9, 10]) := by
  have hl := Lib.size_eq s
  induction d with
  | zero =>
    intro i hd hi
    refine Ev.step (fun k => rfl) ?_
    rw [List.drop_eq_nil_of_le (by omega)]
    exact Ev.neg (by omega) (Ev.ret _)
  | succ d ih =>
    intro i hd hi
    obtain ⟨b, hb, hdrop⟩ := drop_at s.data.toList i (by omega)
    refine Ev.step (fun k => rfl) ?_
    refine Ev.pos (by omega) (Ev.pos (by omega) ?_)
    rw [bt_list s i b hb, hdrop]
    have e : Top.hasAny (b :: s.data.toList.drop (i + 1)) [32, 9, 10] = ((b == 32 || (b == 9 || b == 10)) || Top.hasAny (s.data.toList.drop (i + 1)) [32, 9, 10]) := by
      unfold Top.hasAny
      rw [List.any_cons]
      congr 1
      rw [List.contains_cons, List.contains_cons, List.contains_cons, List.contains_nil, Bool.or_false]
    have ne : ∀ c : UInt8, b ≠ c → ¬ (b.toNat : Int) = (c.toNat : Int) := fun c h e => h (UInt8.toNat_inj.1 (by omega))
    rw [e]
    by_cases h1 : b = 32
    · subst h1; exact Ev.pos rfl (Ev.ret _)
    refine Ev.neg (ne 32 h1) ?_
    by_cases h2 : b = 9
    · subst h2; exact Ev.pos rfl (Ev.ret _)
    refine Ev.neg (ne 9 h2) ?_
    by_cases h3 : b = 10
    · subst h3; exact Ev.pos rfl (Ev.ret _)
    refine Ev.neg (ne 10 h3) ?_
    rw [beq_eq_false_iff_ne.2 h1, beq_eq_false_iff_ne.2 h2, beq_eq_false_iff_ne.2 h3, wrap_i i (by omega)]
    exact ih (i + 1) (by omega) (by omega)
theorem name21_ev (s : ByteArray) : Ev (fun k => basculeref21_name.f k s) (namedB s) := by
  have hend : Ev (fun k => basculeref21_name.j0 k s true) false := Ev.step (fun k => rfl) (Ev.ret _)
  unfold namedB
  by_cases h : (s.size : Int) > 200
  · rw [decide_eq_false (show ¬ s.size ≤ 200 by omega), Bool.false_and]
    exact Ev.pos h hend
  · rw [decide_eq_true (show s.size ≤ 200 by omega), Bool.true_and]
    refine Ev.neg h (Ev.bind (name_ev s) ?_)
    cases hn : Top.isName s
    · exact Ev.neg (by simp) hend
    · have hl := Lib.size_eq s
      have hne : s.data.toList ≠ [] := by
        intro e
        unfold Top.isName at hn
        rw [e] at hn
        cases hn
      have h0 : 0 < s.data.toList.length := List.length_pos_iff.2 hne
      obtain ⟨b, hb, hdrop⟩ := drop_at s.data.toList 0 h0
      rw [List.drop_zero] at hdrop
      have hbt := bt_list s 0 b hb
      rw [Bool.true_and]
      refine Ev.pos rfl (Ev.pos (by omega) ?_)
      have e0 : bt s 0 = (b.toNat : Int) := hbt
      rw [e0]
      have htk : (s.data.toList.take 1 == [36]) = (b == 36) := by
        rw [hdrop]
        simp
      rw [htk]
      by_cases h36 : b = 36
      · subst h36
        rw [show ((36 : UInt8) == 36) = true from rfl, Bool.not_true, Bool.and_false]
        exact Ev.pos rfl hend
      · have hn36 : ¬ (b.toNat : Int) = 36 := fun e => h36 (UInt8.toNat_inj.1 (by show b.toNat = 36; omega))
        refine Ev.neg hn36 ?_
        have h35 : b ≠ 35 := by
          intro e
          subst e
          unfold Top.isName at hn
          rw [hasAny_two, hdrop] at hn
          simp at hn
        have hn35 : ((b.toNat : Int) == 35) = false := beq_eq_false_iff_ne.2 (fun e => h35 (UInt8.toNat_inj.1 (by show b.toNat = 35; omega)))
        rw [hn35, beq_eq_false_iff_ne.2 h36, Bool.not_false, Bool.and_true]
        refine Ev.step (fun k => rfl) ?_
        have := blanks_from s (by omega) s.size 0 (by omega) (by omega)
        rw [List.drop_zero] at this
        exact this
theorem error_from (l : List S34) (hl : l.length ≤ 1000000) (n : ByteArray) (u f a kd s d : Int) (wr : Bool) (m : Nat) : ∀ i : Nat, l.length - i = m → i ≤ l.length → Ev (fun k => basculeref21_Error.l0 k l (i : Int) n u f a kd s d wr) (if Tab.findAt n.toList i (l.drop i) < 0 then (if Tab.rangeB u f a kd s d wr then (if (l.length : Int) ≥ 64 then 6 else 0) else 220) else 210) := by
  induction m with
  | zero =>
    intro i hm hi
    rw [List.drop_eq_nil_of_le (by omega), if_pos (show Tab.findAt n.toList i [] < 0 from by show (-1 : Int) < 0; decide)]
    refine Ev.step (fun k => rfl) ?_
    refine Ev.neg (by omega) ?_
    refine Ev.some ?_
    cases Tab.rangeB u f a kd s d wr
    · exact Ev.neg (by simp) (Ev.ret _)
    · refine Ev.pos rfl ?_
      rw [if_pos rfl]
      by_cases h : (l.length : Int) ≥ 64
      · rw [if_pos h, if_pos h]; exact Ev.ret _
      · rw [if_neg h, if_neg h]; exact Ev.ret _
  | succ m ih =>
    intro i hm hi
    have hlt : i < l.length := by omega
    rw [Tab.drop_T l i hlt]
    refine Ev.step (fun k => rfl) ?_
    refine Ev.pos (by omega) ?_
    refine Ev.pos (by omega) ?_
    by_cases h : (rd_T34 l (i : Int)).f0.toList = n.toList
    · have e : Tab.findAt n.toList i (rd_T34 l (i : Int) :: l.drop (i + 1)) = (i : Int) := by unfold Tab.findAt; rw [if_pos (beq_iff_eq.2 h)]
      rw [e, if_neg (by omega)]
      exact Ev.pos h (Ev.ret _)
    · have e : Tab.findAt n.toList i (rd_T34 l (i : Int) :: l.drop (i + 1)) = Tab.findAt n.toList (i + 1) (l.drop (i + 1)) := by
        rw [Tab.findAt, if_neg (fun e => h (beq_iff_eq.1 e))]
      rw [e]
      refine Ev.neg h ?_
      have := ih (i + 1) (by omega) (by omega)
      rw [show wrap64 ((i : Int) + 1) = ((i + 1 : Nat) : Int) by rw [w64 (by omega) (by omega)]; rfl]
      exact this
theorem error21_ev (l : List S34) (hl : l.length ≤ 1000000) (n : ByteArray) (u f a kd s d : Int) (wr : Bool) : Ev (fun k => basculeref21_Error.f k l n u f a kd s d wr) (nextE l n u f a kd s d wr) := by
  refine Ev.bind (name21_ev n) ?_
  have hf := error_from l hl n u f a kd s d wr l.length 0 (by omega) (by omega)
  rw [List.drop_zero] at hf
  unfold nextE Tab.findB
  cases namedB n
  · refine Ev.neg (by simp) (Ev.ret' ?_)
    simp
  · refine Ev.pos rfl ?_
    by_cases h : Tab.findAt n.toList 0 l < 0
    · rw [if_pos h] at hf
      rw [decide_eq_true h]
      exact hf
    · rw [if_neg h] at hf
      rw [decide_eq_false h]
      exact hf
theorem check_from (l : List S34) (hl : l.length ≤ 1000000) : ∀ (m i : Nat), i + m = l.length → Ev (fun k => basculeref21_Check.l0 k l (i : Int)) (chkFrom l m i) := by
  intro m
  induction m with
  | zero =>
    intro i hi
    refine Ev.step (fun k => rfl) ?_
    exact Ev.neg (by omega) (Ev.ret _)
  | succ m ih =>
    intro i hi
    refine Ev.step (fun k => rfl) ?_
    refine Ev.pos (by omega) ?_
    refine Ev.pos (by omega) ?_
    refine Ev.pos (by omega) ?_
    rw [Int.toNat_natCast]
    refine Ev.bind (error21_ev (l.take i) (by rw [List.length_take]; omega) _ _ _ _ _ _ _ _) ?_
    unfold chkFrom
    show Ev _ (if nxE (l.take i) (rd_T34 l (i : Int)) = 0 then _ else _)
    have w1 : wrap64 ((i : Int) + 1) = ((i + 1 : Nat) : Int) := by rw [w64 (by omega) (by omega)]; rfl
    by_cases h : nxE (l.take i) (rd_T34 l (i : Int)) = 0
    · rw [if_pos h]
      refine Ev.pos h ?_
      rw [w1]
      exact ih (i + 1) (by omega)
    · rw [if_neg h]
      refine Ev.neg h (Ev.ret' ?_)
      rw [w1]
      rfl
theorem check21_ev (l : List S34) (hl : l.length ≤ 1000000) : Ev (fun k => basculeref21_Check.f k l) (chk l) := check_from l hl l.length 0 (by omega)
end Go.Proofs.YtbfhiiokajbdhaaGreatDoor.Q
