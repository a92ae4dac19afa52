/- What the proof of DriftDoes leans on: PRef22. -/
import Derived.Test.YtenbkjeflancaaaGreatDoorSDriftDoesPRef9
import Derived.Test.YtenbkjeflancaaaGreatDoorSDriftDoesPTab
import Derived.Test.YtenbkjeflancaaaGreatDoorSDriftDoesValM
import Derived.Test.YtenbkjeflancaaaGreatDoorSDriftDoesQx7
import Derived.Test.YtenbkjeflancaaaGreatDoorSDriftDoesQx14
set_option linter.unusedVariables false
set_option linter.unusedSimpArgs false
namespace Go.Proofs.YtenbkjeflancaaaGreatDoor.Q
open Go.RowKit Go.Proofs.YtenbkjeflancaaaGreatDoorW.PrintWords Go.Proofs.YtenbkjeflancaaaGreatDoor.Val
theorem drop_at (l : List UInt8) (i : Nat) (h : i < l.length) : ∃ b, l[i]? = some b ∧ l.drop i = b :: l.drop (i + 1) := by
  refine ⟨l[i], List.getElem?_eq_getElem h, ?_⟩
  rw [List.drop_eq_getElem_cons h]
theorem blanks_from (s : ByteArray) (hs : s.size ≤ 1000000) (d : Nat) : ∀ i : Nat, s.size - i = d → i ≤ s.size → Ev (fun k => basculeref21_name.l0 k s (i : Int)) (!Top.hasAny (s.data.toList.drop i) [32, 9, 10]) := by
  have hl := Lib.size_eq s
  induction d with
  | zero =>
    intro i hd hi
    refine Ev.step (fun k => rfl) ?_
    rw [List.drop_eq_nil_of_le (by omega)]
    exact Ev.neg (by omega) (Ev.ret _)
  | succ d ih =>
    intro i hd hi
    obtain ⟨b, hb, hdrop⟩ := drop_at s.data.toList i (by omega)
    refine Ev.step (fun k => rfl) ?_
    refine Ev.pos (by omega) (Ev.pos (by omega) ?_)
    rw [bt_list s i b hb, hdrop]
    have e : Top.hasAny (b :: s.data.toList.drop (i + 1)) [32, 9, 10] = ((b == 32 || (b == 9 || b == 10)) || Top.hasAny (s.data.toList.drop (i + 1)) [32, 9, 10]) := by
      unfold Top.hasAny
      rw [List.any_cons]
      congr 1
      rw [List.contains_cons, List.contains_cons, List.contains_cons, List.contains_nil, Bool.or_false]
    have ne : ∀ c : UInt8, b ≠ c → ¬ (b.toNat : Int) = (c.toNat : Int) := fun c h e => h (UInt8.toNat_inj.1 (by omega))
    rw [e]
    by_cases h1 : b = 32
    · subst h1; exact Ev.pos rfl (Ev.ret _)
    refine Ev.neg (ne 32 h1) ?_
    by_cases h2 : b = 9
    · subst h2; exact Ev.pos rfl (Ev.ret _)
    refine Ev.neg (ne 9 h2) ?_
    by_cases h3 : b = 10
    · subst h3; exact Ev.pos rfl (Ev.ret _)
    refine Ev.neg (ne 10 h3) ?_
    rw [beq_eq_false_iff_ne.2 h1, beq_eq_false_iff_ne.2 h2, beq_eq_false_iff_ne.2 h3, wrap_i i (by omega)]
    exact ih (i + 1) (by omega) (by omega)
theorem name21_ev (s : ByteArray) : Ev (fun k => basculeref21_name.f k s) (namedB s) := by
  have hend : Ev (fun k => basculeref21_name.j0 k s true) false := Ev.step (fun k => rfl) (Ev.ret _)
  unfold namedB
  by_cases h : (s.size : Int) > 200
  · rw [decide_eq_false (show ¬ s.size ≤ 200 by omega), Bool.false_and]
    exact Ev.pos h hend
  · rw [decide_eq_true (show s.size ≤ 200 by omega), Bool.true_and]
    refine Ev.neg h (Ev.bind (name_ev s) ?_)
    cases hn : Top.isName s
    · exact Ev.neg (by simp) hend
    · have hl := Lib.size_eq s
      have hne : s.data.toList ≠ [] := by
        intro e
        unfold Top.isName at hn
        rw [e] at hn
        cases hn
      have h0 : 0 < s.data.toList.length := List.length_pos_iff.2 hne
      obtain ⟨b, hb, hdrop⟩ := drop_at s.data.toList 0 h0
      rw [List.drop_zero] at hdrop
      have hbt := bt_list s 0 b hb
      rw [Bool.true_and]
      refine Ev.pos rfl (Ev.pos (by omega) ?_)
      have e0 : bt s 0 = (b.toNat : Int) := hbt
      rw [e0]
      have htk : (s.data.toList.take 1 == [36]) = (b == 36) := by
        rw [hdrop]
        simp
      rw [htk]
      by_cases h36 : b = 36
      · subst h36
        rw [show ((36 : UInt8) == 36) = true from rfl, Bool.not_true, Bool.and_false]
        exact Ev.pos rfl hend
      · have hn36 : ¬ (b.toNat : Int) = 36 := fun e => h36 (UInt8.toNat_inj.1 (by show b.toNat = 36; omega))
        refine Ev.neg hn36 ?_
        have h35 : b ≠ 35 := by
          intro e
          subst e
          unfold Top.isName at hn
          rw [hasAny_two, hdrop] at hn
          simp at hn
        have hn35 : ((b.toNat : Int) == 35) = false := beq_eq_false_iff_ne.2 (fun e => h35 (UInt8.toNat_inj.1 (by show b.toNat = 35; omega)))
        rw [hn35, beq_eq_false_iff_ne.2 h36, Bool.not_false, Bool.and_true]
        refine Ev.step (fun k => rfl) ?_
        have := blanks_from s (by omega) s.size 0 (by omega) (by omega)
        rw [List.drop_zero] at this
        exact this
theorem row22_ev (n : ByteArray) (u f a kd s d : Int) (wr : Bool) : Ev (fun k => basculeref22_Row.f k n u f a kd s d wr) (rowB n u f a kd s d wr) := by
  have he : Ev (fun k => basculeref21_Error.f k ([] : List S23) n u f a kd s d wr) (if rowB n u f a kd s d wr then 0 else if namedB n then 220 else 210) := by
    refine Ev.bind (name21_ev n) ?_
    unfold rowB
    cases namedB n
    · exact Ev.neg (by simp) (Ev.ret _)
    · refine Ev.pos rfl (Ev.step (fun k => rfl) (Ev.neg (by simp) ?_))
      refine Ev.some ?_
      cases Tab.rangeB u f a kd s d wr
      · exact Ev.neg (by simp) (Ev.ret _)
      · exact Ev.pos rfl (Ev.neg (by simp) (Ev.ret _))
  refine Ev.bind he ?_
  refine Ev.ret' ?_
  cases rowB n u f a kd s d wr
  · cases namedB n <;> rfl
  · rfl
theorem words21_ev (kd : Int) : Ev (fun k => basculeref21_Words.f k kd) (Tab.wordsOf kd) := by
  unfold Tab.wordsOf
  by_cases h1 : kd = 1
  · subst h1; exact Ev.pos rfl (Ev.ret _)
  · refine Ev.neg h1 ?_
    rw [if_neg h1]
    have hj : ∀ b, Ev (fun k => basculeref21_Words.j0 k kd b) (if b = true then 1 else if kd = 9 then 4 else if kd = 10 then 4 else 2) := by
      intro b
      cases b
      · refine Ev.step (fun k => rfl) ?_
        show Ev (fun k => if kd = 9 then some 4 else if kd = 10 then some 4 else some 2) (if kd = 9 then 4 else if kd = 10 then 4 else 2)
        refine Ev.congr (f := fun _ => some (if kd = 9 then 4 else if kd = 10 then 4 else 2)) (fun k => ?_) (Ev.ret _)
        by_cases h9 : kd = 9
        · rw [if_pos h9, if_pos h9]
        · rw [if_neg h9, if_neg h9]
          by_cases h10 : kd = 10
          · rw [if_pos h10, if_pos h10]
          · rw [if_neg h10, if_neg h10]
      · refine Ev.step (fun k => rfl) ?_
        exact Ev.ret _
    by_cases h2 : kd = 2
    · rw [if_pos h2]
      refine Ev.pos h2 ?_
      have := hj (kd == 2)
      rw [h2] at this ⊢
      exact this
    · rw [if_neg h2]
      refine Ev.neg h2 ?_
      have := hj (kd == 3)
      by_cases h3 : kd = 3
      · rw [if_pos h3]; rw [h3] at this ⊢; exact this
      · rw [if_neg h3]; rw [beq_eq_false_iff_ne.2 h3] at this ⊢; exact this
theorem drop_rd (l : List Int) (i : Nat) (h : i < l.length) : l.drop i = rd l (i : Int) :: l.drop (i + 1) := by
  rw [List.drop_eq_getElem_cons h]
  unfold rd
  rw [Int.toNat_natCast, List.getD_eq_getElem?_getD, List.getElem?_eq_getElem h]; rfl
theorem bits_from (l : List Int) (hl : l.length ≤ 1000000) (d : Nat) : ∀ i : Nat, l.length - i = d → i ≤ l.length → Ev (fun k => basculeref01_Bits.l0 k l (i : Int)) (!(l.drop i).any (bad 1)) := by
  induction d with
  | zero =>
    intro i hd hi
    refine Ev.step (fun k => rfl) ?_
    rw [List.drop_eq_nil_of_le (by omega)]
    exact Ev.neg (by omega) (Ev.ret _)
  | succ d ih =>
    intro i hd hi
    have hdrop := drop_rd l i (by omega)
    have ih := ih (i + 1) (by omega) (by omega)
    rw [← wrap_i i (by omega)] at ih
    refine Ev.step (fun k => rfl) ?_
    refine Ev.pos (by omega) (Ev.pos (by omega) ?_)
    rw [hdrop, List.any_cons]
    generalize rd l (i : Int) = x at *
    by_cases h0 : x = 0
    · subst h0; exact Ev.pos rfl ih
    · refine Ev.neg h0 ?_
      by_cases h1 : x = 1
      · subst h1; exact Ev.pos rfl ih
      · refine Ev.neg h1 (Ev.ret' ?_)
        have : bad 1 x = true := by unfold bad; simp; omega
        rw [this]; rfl
theorem is01_f (x : Int) : basculeref01_Is.f x = some (!bad 65535 x) := by
  unfold basculeref01_Is.f bad
  by_cases h : x ≥ 0
  · rw [if_pos h, decide_eq_false (show ¬ x < 0 by omega), Bool.false_or]
    congr 1
    rw [Bool.eq_iff_iff]; simp
  · rw [if_neg h, decide_eq_true (show x < 0 by omega)]; rfl
theorem may_from (n : ByteArray) (u f a kd s d : Int) (wr : Bool) (l : List Int) (hl : l.length ≤ 1000000) (m : Nat) : ∀ i : Nat, l.length - i = m → i ≤ l.length → Ev (fun k => basculeref22_May.l0 k l (i : Int) n u f a kd s d wr) (!((l.drop i).any (bad 65535)) && decide ((l.length : Int) = Tab.wordsOf kd)) := by
  induction m with
  | zero =>
    intro i hd hi
    refine Ev.step (fun k => rfl) ?_
    rw [List.drop_eq_nil_of_le (by omega)]
    refine Ev.neg (by omega) (Ev.bind (words21_ev kd) (Ev.ret' ?_))
    show _ = decide _
    rw [Bool.eq_iff_iff]; simp
  | succ m ih =>
    intro i hd hi
    have hdrop := drop_rd l i (by omega)
    have ih := ih (i + 1) (by omega) (by omega)
    rw [← wrap_i i (by omega)] at ih
    refine Ev.step (fun k => rfl) ?_
    refine Ev.pos (by omega) (Ev.pos (by omega) ?_)
    rw [hdrop, List.any_cons]
    refine Ev.fst (is01_f _) ?_
    cases bad 65535 (rd l (i : Int))
    · exact Ev.pos rfl ih
    · exact Ev.neg (by simp) (Ev.ret _)
theorem may22_ev (n : ByteArray) (u f a kd s d : Int) (wr : Bool) (l : List Int) (hl : l.length ≤ 1000000) : Ev (fun k => basculeref22_May.f k n u f a kd s d wr l) (decide ((l.length : Int) = nOf kd) && !(l.any (bad (mostOf kd)))) := by
  unfold nOf mostOf
  by_cases h1 : kd = 1
  · rw [if_pos h1, if_pos h1]
    refine Ev.pos h1 ?_
    by_cases hn : (l.length : Int) = 1
    · rw [decide_eq_true hn, Bool.true_and]
      refine Ev.pos hn (Ev.bind (a := !l.any (bad 1)) ?_ (Ev.ret _))
      have := bits_from l hl l.length 0 (by omega) (by omega)
      rw [List.drop_zero] at this
      exact this
    · rw [decide_eq_false hn, Bool.false_and]
      exact Ev.neg hn (Ev.ret _)
  · rw [if_neg h1, if_neg h1]
    refine Ev.neg h1 ?_
    have := may_from n u f a kd s d wr l hl l.length 0 (by omega) (by omega)
    rw [List.drop_zero, Bool.and_comm] at this
    exact this
theorem ints_from (a b : List Int) (hl : a.length ≤ 1000000000) (hab : a.length = b.length) (m : Nat) : ∀ i : Nat, a.length - i = m → i ≤ a.length → Ev (fun k => basculeref01_Ints.l0 k a b (i : Int)) (decide (a.drop i = b.drop i)) := by
  induction m with
  | zero =>
    intro i hd hi
    refine Ev.step (fun k => rfl) ?_
    rw [List.drop_eq_nil_of_le (by omega), List.drop_eq_nil_of_le (by omega)]
    exact Ev.neg (by omega) (Ev.ret _)
  | succ m ih =>
    intro i hd hi
    have h1 := drop_rd a i (by omega)
    have h2 := drop_rd b i (by omega)
    have ih := ih (i + 1) (by omega) (by omega)
    rw [← wrap_i i (by omega)] at ih
    refine Ev.step (fun k => rfl) ?_
    refine Ev.pos (by omega) (Ev.pos (by omega) (Ev.pos (by omega) ?_))
    rw [h1, h2]
    by_cases h : rd a (i : Int) = rd b (i : Int)
    · refine Ev.pos h ?_
      have e : decide (rd a (i : Int) :: a.drop (i + 1) = rd b (i : Int) :: b.drop (i + 1)) = decide (a.drop (i + 1) = b.drop (i + 1)) := by
        rw [Bool.eq_iff_iff]; simp [h]
      rw [e]
      exact ih
    · refine Ev.neg h (Ev.ret' ?_)
      symm
      rw [decide_eq_false_iff_not]
      intro e
      exact h (List.cons.inj e).1
theorem ints_ev (a b : List Int) (hl : a.length ≤ 1000000000) : Ev (fun k => basculeref01_Ints.f k a b) (decide (a = b)) := by
  by_cases h : (a.length : Int) = (b.length : Int)
  · refine Ev.pos h ?_
    have := ints_from a b hl (by omega) a.length 0 (by omega) (by omega)
    rw [List.drop_zero, List.drop_zero] at this
    exact this
  · refine Ev.neg h (Ev.ret' ?_)
    symm
    rw [decide_eq_false_iff_not]
    intro e
    exact h (by rw [e])
end Go.Proofs.YtenbkjeflancaaaGreatDoor.Q
