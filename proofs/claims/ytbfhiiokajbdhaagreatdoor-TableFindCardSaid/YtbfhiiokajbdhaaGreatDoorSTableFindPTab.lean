/- What the proof of TableFind leans on: PTab. -/
import Derived.Test.YtbfhiiokajbdhaaGreatDoorSTableFindTabA
import Derived.Test.YtbfhiiokajbdhaaGreatDoorSTableFindQx4
import Derived.Test.YtbfhiiokajbdhaaGreatDoorSTableFindQx5
set_option linter.unusedVariables false
set_option linter.unusedSimpArgs false
namespace Go.Proofs.YtbfhiiokajbdhaaGreatDoor.Q
open Go.RowKit Go.Proofs.YtbfhiiokajbdhaaGreatDoorW.PrintWords
theorem within_eq (a b c : Int) : table_within.f a b c = some (decide (b ≤ a) && decide (a ≤ c)) := by
  unfold table_within.f
  by_cases h : a ≥ b
  · rw [if_pos h, decide_eq_true (show b ≤ a from h)]; rfl
  · rw [if_neg h, decide_eq_false (show ¬ b ≤ a from h)]; rfl
theorem words_eq (k : Nat) (a : Int) : table_Words.f (k + 2) a = some (if Tab.kindB a then (Tab.wordsOf a, 0) else (0, 1)) := by
  by_cases h1 : a = 1
  · subst h1; rfl
  by_cases h2 : a = 2
  · subst h2; rfl
  by_cases h3 : a = 3
  · subst h3; rfl
  by_cases h4 : a = 4
  · subst h4; rfl
  by_cases h5 : a = 5
  · subst h5; rfl
  by_cases h6 : a = 6
  · subst h6; rfl
  by_cases h7 : a = 7
  · subst h7; rfl
  by_cases h8 : a = 8
  · subst h8; rfl
  by_cases h9 : a = 9
  · subst h9; rfl
  by_cases h10 : a = 10
  · subst h10; rfl
  have hk : Tab.kindB a = false := by
    unfold Tab.kindB
    by_cases h : 1 ≤ a
    · rw [decide_eq_true h, decide_eq_false (by omega)]; rfl
    · rw [decide_eq_false h]; rfl
  rw [hk]
  have e3 : (a == 3) = false := beq_eq_false_iff_ne.2 h3
  have e8 : (a == 8) = false := beq_eq_false_iff_ne.2 h8
  unfold table_Words.f
  rw [if_neg h1, if_neg h2, e3]
  simp only [table_Words.j0, table_Words.j1, e8, if_neg h4, if_neg h5, if_neg h6, if_neg h7, if_neg h9, if_neg h10]
  simp
theorem mx1 (a : Int) (h0 : 0 ≤ a) (h4 : a ≤ 4) : wrap64 (65536 - mx a 1) = 65536 - max a 1 := by
  have e : mx a 1 = max a 1 := by unfold mx; rw [Int.max_def]; split <;> split <;> omega
  rw [e]
  unfold wrap64
  rw [Int.max_def]
  split <;> omega
theorem j0_eq (k : Nat) (x3 : Int) (x5 x6 : Bool) (n : ByteArray) (u f a kd s d : Int) (wr : Bool) :
    table_ranged.j0 (k + 1) x3 x5 x6 n u f a kd s d wr = some (x6 && ((decide (0 ≤ a) && decide (a ≤ wrap64 (65536 - mx x3 1))) && ((decide (0 ≤ s) && decide (s ≤ 9)) && ((decide (0 ≤ d) && decide (d ≤ 1000000000)) && ((!(x5 || kd == 8) || (s == 0 && d == 0)) && (!wr || (f == 1 || f == 3))))))) := by
  show (if x6 = true then _ else _) = _
  simp only [within_eq, Option.bind_some]
  generalize (decide (0 ≤ a) && decide (a ≤ wrap64 (65536 - mx x3 1))) = c1
  generalize (decide (0 ≤ s) && decide (s ≤ 9)) = c2
  generalize (decide (0 ≤ d) && decide (d ≤ 1000000000)) = c3
  by_cases h8 : kd = 8 <;> by_cases hs : s = 0 <;> by_cases hd : d = 0 <;> by_cases hf : f = 1 <;> cases x6 <;> cases c1 <;> cases c2 <;> cases c3 <;> cases x5 <;> cases wr <;> simp [h8, hs, hd, hf]
  all_goals (have e1 : (kd == 8) = false := beq_eq_false_iff_ne.2 h8)
  all_goals (have e2 : (f == 1) = false := beq_eq_false_iff_ne.2 hf)
  all_goals simp [e1, e2]
theorem ranged_eq (k : Nat) (n : ByteArray) (u f a kd s d : Int) (wr : Bool) : table_ranged.f (k + 2) n u f a kd s d wr = some (Tab.rangeB u f a kd s d wr) := by
  have e : table_ranged.f (k + 2) n u f a kd s d wr = some (Tab.kindB kd && ((decide (1 ≤ u) && decide (u ≤ 247)) && ((decide (1 ≤ f) && decide (f ≤ 4)) && (((kd == 1) == decide (f ≤ 2)) && ((decide (0 ≤ a) && decide (a ≤ wrap64 (65536 - mx (Tab.wordsOf kd) 1))) && ((decide (0 ≤ s) && decide (s ≤ 9)) && ((decide (0 ≤ d) && decide (d ≤ 1000000000)) && ((!(kd == 1 || kd == 8) || (s == 0 && d == 0)) && (!wr || (f == 1 || f == 3)))))))))) := by
    unfold table_ranged.f
    rw [words_eq]
    cases Tab.kindB kd
    · simp [j0_eq]
    · simp only [Option.bind_some, within_eq, if_true, if_pos, j0_eq]
      cases (decide (1 ≤ u) && decide (u ≤ 247)) <;> cases (decide (1 ≤ f) && decide (f ≤ 4)) <;> simp
  rw [e]
  congr 1
  obtain ⟨w0, w4⟩ := Tab.wordsOf_small kd
  rw [mx1 _ w0 w4]
  unfold Tab.rangeB
  cases hk : Tab.kindB kd
  · simp
  · by_cases hu : 1 ≤ u ∧ u ≤ 247
    · by_cases hf : 1 ≤ f ∧ f ≤ 4
      · have eu : (decide (1 ≤ u) && decide (u ≤ 247)) = true := by simp [hu]
        have ef : (decide (1 ≤ f) && decide (f ≤ 4)) = true := by simp [hf]
        have e1 : decide (u < 1) = false := decide_eq_false (by omega)
        have e2 : decide (247 < u) = false := decide_eq_false (by omega)
        have e3 : decide (f < 1) = false := decide_eq_false (by omega)
        have e4 : decide (4 < f) = false := decide_eq_false (by omega)
        have e5 : decide (f ≤ 2) = decide (f < 3) := by congr 1; apply propext; omega
        have e6 : (!wr || (f == 1 || f == 3)) = !(wr && (Int.tmod f 2 == 0)) := by
          rcases (by omega : f = 1 ∨ f = 2 ∨ f = 3 ∨ f = 4) with h | h | h | h <;> subst h <;> cases wr <;> decide
        rw [eu, ef, e1, e2, e3, e4, e5, e6]
        simp only [Bool.true_and, Bool.not_false, Bool.and_assoc]
        congr 1
        congr 1
        congr 1
        by_cases hs : 0 ≤ s
        · by_cases hd : 0 ≤ d
          · have e7 : (!(kd == 1 || kd == 8) || (s == 0 && d == 0)) = !((kd == 1 || kd == 8) && decide (0 < s + d)) := by
              have : (s == 0 && d == 0) = !decide (0 < s + d) := by
                by_cases h : s = 0 ∧ d = 0
                · obtain ⟨rfl, rfl⟩ := h; decide
                · have : decide (0 < s + d) = true := decide_eq_true (by omega)
                  rw [this]
                  by_cases h0 : s = 0
                  · have : d ≠ 0 := by omega
                    simp [this]
                  · simp [h0]
              rw [this]
              cases (kd == 1 || kd == 8) <;> simp
            rw [e7]
          · simp [hd]
        · simp [hs]
      · rcases (by omega : f < 1 ∨ 4 < f) with h | h
        · have h2 : ¬ 1 ≤ f := by omega
          simp [h, h2]
        · have h2 : ¬ f ≤ 4 := by omega
          simp [h, h2]
    · rcases (by omega : u < 1 ∨ 247 < u) with h | h
      · have h2 : ¬ 1 ≤ u := by omega
        simp [h, h2]
      · have h2 : ¬ u ≤ 247 := by omega
        simp [h, h2]
def namedB (a : ByteArray) : Bool := decide (a.size ≤ 200) && (Top.isName a && (!(Top.hasAny a.data.toList [32, 9, 10]) && !(a.data.toList.take 1 == [36])))
theorem hp_eq (a : ByteArray) : strings_HasPrefix.f a ⟨#[36]⟩ = some (a.data.toList.take 1 == [36]) := by
  unfold strings_HasPrefix.f stringslite_HasPrefix.f
  have e1 : ((⟨#[36]⟩ : ByteArray).size : Int) = 1 := rfl
  have e2 : (⟨#[36]⟩ : ByteArray).toList = [36] := by rw [Lib.toList_data]
  rw [e1, e2]
  by_cases h : (a.size : Int) ≥ 1
  · rw [if_pos h, if_pos (by omega), if_pos (by omega)]
    rw [Lib.toList_data, ByteArray.data_extract, Array.toList_extract]
    simp
  · rw [if_neg h]
    have : a.data.toList = [] := by
      have := Lib.size_eq a
      exact List.eq_nil_of_length_eq_zero (by omega)
    rw [this]; rfl
theorem named_eq (a : ByteArray) : table_named.f a = some (namedB a) := by
  unfold table_named.f namedB
  by_cases hs : (a.size : Int) ≤ 200
  · rw [if_pos hs, decide_eq_true (show a.size ≤ 200 by omega), Bool.true_and]
    unfold topic_Name.f
    cases Top.isName a
    · rfl
    · have hc : strings_ContainsAny.f a ⟨#[32, 9, 10]⟩ = some (Top.hasAny a.data.toList [32, 9, 10]) := by
        unfold strings_ContainsAny.f
        rw [if_pos ⟨by decide, by omega, by decide, by decide⟩]
      simp only [if_true, Option.bind_some, hc, hp_eq, Bool.true_and]
      cases Top.hasAny a.data.toList [32, 9, 10] <;> simp
  · rw [if_neg hs, decide_eq_false (show ¬ a.size ≤ 200 by omega)]; rfl
def rowB (n : ByteArray) (u f a kd s d : Int) (wr : Bool) : Bool := namedB n && Tab.rangeB u f a kd s d wr
def nextE (l : List S34) (n : ByteArray) (u f a kd s d : Int) (wr : Bool) : Int :=
  if Tab.findB l n || !namedB n then 210 else if Tab.rangeB u f a kd s d wr then (if (l.length : Int) ≥ 64 then 6 else 0) else 220
theorem next_eq (k : Nat) (l : List S34) (hl : l.length ≤ 4611686018427387904) (n : ByteArray) (u f a kd s d : Int) (wr : Bool) : table_next.f (k + 3) l n u f a kd s d wr = some (nextE l n u f a kd s d wr) := by
  unfold table_next.f nextE table_Find.f
  rw [if_pos hl, named_eq]
  simp only [Option.bind_some]
  have hj : ∀ b, table_next.j0 (k + 3) l b n u f a kd s d wr = some (if b then 210 else if Tab.rangeB u f a kd s d wr then (if (l.length : Int) ≥ 64 then 6 else 0) else 220) := by
    intro b
    show (if b = true then some 210 else (table_ranged.f (k + 2) n u f a kd s d wr).bind fun t => if t = true then (if (l.length : Int) ≥ 64 then some 6 else some 0) else some 220) = _
    rw [ranged_eq]
    cases b
    · simp only [Bool.false_eq_true, if_false, Option.bind_some]
      cases Tab.rangeB u f a kd s d wr
      · rfl
      · simp only [if_true]
        split <;> rfl
    · rfl
  cases Tab.findB l n
  · simp only [Bool.false_eq_true, if_false, hj, Bool.false_or]
  · simp only [if_true, hj, Bool.true_or]
end Go.Proofs.YtbfhiiokajbdhaaGreatDoor.Q
