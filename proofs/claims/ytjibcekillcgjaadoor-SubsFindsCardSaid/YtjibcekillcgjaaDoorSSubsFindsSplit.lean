/- What the proof of SubsFinds leans on: Split. -/
import Derived.Lib.IndexMore
import Derived.Lib.IndexBytes
set_option linter.unusedVariables false
set_option linter.unusedSimpArgs false
namespace Go.Proofs.YtjibcekillcgjaaDoor.Top
def splitB : List UInt8 → List (List UInt8)
  | [] => [[]]
  | b :: l => if b = 47 then [] :: splitB l else match splitB l with
    | h :: t => (b :: h) :: t
    | [] => [[b]]
theorem splitB_ne (l : List UInt8) : splitB l ≠ [] := by
  cases l with
  | nil => simp [splitB]
  | cons b l =>
    rw [splitB]
    split
    · simp
    · split <;> simp
def first47 : List UInt8 → List UInt8 × List UInt8 × Bool
  | [] => ([], [], false)
  | b :: l => if b = 47 then ([], l, true) else (b :: (first47 l).1, (first47 l).2.1, (first47 l).2.2)
def withLast : List (List UInt8) → List (List UInt8 × Bool)
  | [] => []
  | [x] => [(x, true)]
  | x :: y :: r => (x, false) :: withLast (y :: r)
def lvl (l : List UInt8) : List (List UInt8 × Bool) := withLast (splitB l)
theorem cut_first (l : List UInt8) : Lib.cut l [47] = first47 l := by
  have key : ∀ l : List UInt8, (Lib.indexByte l 47 = -1 ∧ first47 l = (l, [], false)) ∨ ∃ i : Nat, Lib.indexByte l 47 = i ∧ first47 l = (l.take i, l.drop (i + 1), true) := by
    intro l
    induction l with
    | nil => exact .inl ⟨rfl, rfl⟩
    | cons b l ih =>
      by_cases hb : b = 47
      · subst hb
        exact .inr ⟨0, by rw [Lib.indexByte]; simp, by rw [first47]; simp⟩
      · have hb' : (b == 47) = false := beq_eq_false_iff_ne.2 hb
        rcases ih with ⟨h1, h2⟩ | ⟨i, h1, h2⟩
        · refine .inl ⟨by rw [Lib.indexByte, hb', h1]; simp, ?_⟩
          rw [first47, if_neg hb, h2]
        · refine .inr ⟨i + 1, ?_, ?_⟩
          · rw [Lib.indexByte, hb', h1]
            have : ((i : Int) == -1) = false := beq_eq_false_iff_ne.2 (by omega)
            simp only [Bool.false_eq_true, if_false, this]
            omega
          · rw [first47, if_neg hb, h2]; simp
  unfold Lib.cut
  rw [Lib.index_one]
  rcases key l with ⟨h1, h2⟩ | ⟨i, h1, h2⟩
  · rw [h1, h2]; simp
  · rw [h1, h2, if_pos (by omega)]; simp
theorem splitB_first (l : List UInt8) : (first47 l).2.2 = true ∧ splitB l = (first47 l).1 :: splitB (first47 l).2.1 ∨ (first47 l).2.2 = false ∧ (first47 l).1 = l ∧ (first47 l).2.1 = [] ∧ splitB l = [l] := by
  induction l with
  | nil => exact .inr ⟨rfl, rfl, rfl, rfl⟩
  | cons b l ih =>
    by_cases hb : b = 47
    · subst hb
      exact .inl ⟨by rw [first47]; simp, by rw [first47, splitB]; simp⟩
    · rcases ih with ⟨h1, h2⟩ | ⟨h1, h2, h3, h4⟩
      · refine .inl ⟨by rw [first47, if_neg hb]; exact h1, ?_⟩
        rw [splitB, if_neg hb, first47, if_neg hb, h2]
      · refine .inr ⟨by rw [first47, if_neg hb]; exact h1, by rw [first47, if_neg hb, h2], by rw [first47, if_neg hb, h3], ?_⟩
        rw [splitB, if_neg hb, h4]
theorem first47_short (l : List UInt8) : (first47 l).1.length ≤ l.length ∧ ((first47 l).2.2 = true → (first47 l).1.length + 1 + (first47 l).2.1.length = l.length) := by
  induction l with
  | nil => simp [first47]
  | cons b l ih =>
    rw [first47]
    split
    · simp; omega
    · simp only [List.length_cons]
      exact ⟨by omega, fun h => by have := ih.2 h; omega⟩
theorem lvl_step (l : List UInt8) : (first47 l).2.2 = true ∧ lvl l = ((first47 l).1, false) :: lvl (first47 l).2.1 ∨ (first47 l).2.2 = false ∧ (first47 l).1 = l ∧ lvl l = [(l, true)] := by
  rcases splitB_first l with ⟨h1, h2⟩ | ⟨h1, h2, _, h4⟩
  · refine .inl ⟨h1, ?_⟩
    unfold lvl
    rw [h2]
    cases hs : splitB (first47 l).2.1 with
    | nil => exact absurd hs (splitB_ne _)
    | cons x r => rfl
  · exact .inr ⟨h1, h2, by unfold lvl; rw [h4]; rfl⟩
theorem lvl_short : ∀ (n : Nat) (l : List UInt8), l.length ≤ n → ∀ x ∈ lvl l, x.1.length ≤ l.length := by
  intro n
  induction n with
  | zero =>
    intro l hl x hx
    obtain rfl : l = [] := List.eq_nil_of_length_eq_zero (by omega)
    simp [lvl, splitB, withLast] at hx
    subst hx
    simp
  | succ n ih =>
    intro l hl x hx
    have hs := first47_short l
    rcases lvl_step l with ⟨h1, h2⟩ | ⟨h1, h2, h3⟩
    · rw [h2] at hx
      have := hs.2 h1
      rcases List.mem_cons.1 hx with rfl | hx
      · simp; omega
      · have := ih _ (by omega) x hx; omega
    · rw [h3] at hx
      simp at hx
      subst hx
      simp
end Go.Proofs.YtjibcekillcgjaaDoor.Top
