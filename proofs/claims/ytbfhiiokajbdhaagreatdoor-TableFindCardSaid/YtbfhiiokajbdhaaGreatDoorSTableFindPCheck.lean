/- What the proof of TableFind leans on: PCheck. -/
import Derived.Test.YtbfhiiokajbdhaaGreatDoorSTableFindPTab
import Derived.Test.YtbfhiiokajbdhaaGreatDoorSTableFindQx12
set_option linter.unusedVariables false
set_option linter.unusedSimpArgs false
namespace Go.Proofs.YtbfhiiokajbdhaaGreatDoor.Q
open Go.RowKit Go.Proofs.YtbfhiiokajbdhaaGreatDoor.Val Go.Proofs.YtbfhiiokajbdhaaGreatDoorW.PrintWords
def nxE (l : List S34) (r : S34) : Int := nextE l r.f0 r.f1 r.f2 r.f3 r.f4 r.f5 r.f6 r.f7
def chkFrom (l : List S34) : Nat → Nat → Int × Int
  | 0, _ => (0, 0)
  | m + 1, i => if nxE (l.take i) (rd_T34 l (i : Int)) = 0 then chkFrom l m (i + 1) else ((i : Int) + 1, nxE (l.take i) (rd_T34 l (i : Int)))
def chk (l : List S34) : Int × Int := chkFrom l l.length 0
theorem chk_go (l : List S34) (hl : l.length ≤ 1000000) : ∀ (m i k : Nat), i + m = l.length → table_Check.l0 (k + m + 4) l l (l.length : Int) (i : Int) = some (chkFrom l m i) := by
  intro m
  induction m with
  | zero =>
    intro i k hi
    show (if (i : Int) < (l.length : Int) then _ else some ((0 : Int), (0 : Int))) = _
    rw [if_neg (by omega)]
    rfl
  | succ m ih =>
    intro i k hi
    show (if (i : Int) < (l.length : Int) then (if 0 ≤ (i : Int) then (if (i : Int) < (l.length : Int) then (if (i : Int) ≤ (l.length : Int) then ((table_next.f (k + m + 4) (l.take ((i : Int)).toNat) ((rd_T34 l (i : Int)).f0) ((rd_T34 l (i : Int)).f1) ((rd_T34 l (i : Int)).f2) ((rd_T34 l (i : Int)).f3) ((rd_T34 l (i : Int)).f4) ((rd_T34 l (i : Int)).f5) ((rd_T34 l (i : Int)).f6) ((rd_T34 l (i : Int)).f7)).bind fun t150 => (if t150 = 0 then (table_Check.l0 (k + m + 4) l l (l.length : Int) (wrap64 ((i : Int) + 1))) else (some (wrap64 ((i : Int) + 1), t150)))) else none) else none) else none) else _) = _
    rw [if_pos (by omega), if_pos (by omega), if_pos (by omega), if_pos (by omega), Int.toNat_natCast]
    have hn := next_eq (k + m + 1) (l.take i) (by rw [List.length_take]; omega) (rd_T34 l (i : Int)).f0 (rd_T34 l (i : Int)).f1 (rd_T34 l (i : Int)).f2 (rd_T34 l (i : Int)).f3 (rd_T34 l (i : Int)).f4 (rd_T34 l (i : Int)).f5 (rd_T34 l (i : Int)).f6 (rd_T34 l (i : Int)).f7
    rw [show k + m + 1 + 3 = k + m + 4 by omega] at hn
    rw [hn]
    have w1 : wrap64 ((i : Int) + 1) = ((i + 1 : Nat) : Int) := by unfold wrap64; omega
    simp only [Option.bind_some, w1]
    show (if nxE (l.take i) (rd_T34 l (i : Int)) = 0 then _ else _) = some (if nxE (l.take i) (rd_T34 l (i : Int)) = 0 then _ else _)
    split
    · exact ih (i + 1) k (by omega)
    · rfl
theorem check_eq (l : List S34) (hl : l.length ≤ 1000000) (k : Nat) : table_Check.f (k + l.length + 4) l = some (chk l) := chk_go l hl l.length 0 k (by omega)
theorem chk_all (l : List S34) : ∀ m i : Nat, i + m = l.length → (chkFrom l m i).2 = 0 → ∀ j : Nat, i ≤ j → j < l.length → nxE (l.take j) (rd_T34 l (j : Int)) = 0 := by
  intro m
  induction m with
  | zero => intro i hi _ j h1 h2; omega
  | succ m ih =>
    intro i hi h j h1 h2
    unfold chkFrom at h
    split at h
    · rename_i h0
      rcases Nat.lt_or_ge i j with h3 | h3
      · exact ih (i + 1) (by omega) h j h3 h2
      · obtain rfl : j = i := by omega
        exact h0
    · rename_i h0
      exact absurd h h0
theorem nx_ok (l : List S34) (r : S34) (h : nxE l r = 0) : rowB r.f0 r.f1 r.f2 r.f3 r.f4 r.f5 r.f6 r.f7 = true ∧ Tab.findB l r.f0 = false ∧ l.length < 64 := by
  unfold nxE nextE at h
  unfold rowB
  by_cases h1 : (Tab.findB l r.f0 || !namedB r.f0) = true
  · rw [if_pos h1] at h
    exact absurd h (by decide)
  · rw [if_neg h1] at h
    have h1 : (Tab.findB l r.f0 || !namedB r.f0) = false := by simpa using h1
    rw [Bool.or_eq_false_iff] at h1
    by_cases h2 : Tab.rangeB r.f1 r.f2 r.f3 r.f4 r.f5 r.f6 r.f7 = true
    · rw [if_pos h2] at h
      by_cases h3 : (l.length : Int) ≥ 64
      · rw [if_pos h3] at h
        exact absurd h (by decide)
      · have h4 : namedB r.f0 = true := by simpa using h1.2
        exact ⟨by rw [h4, h2]; rfl, h1.1, by omega⟩
    · rw [if_neg h2] at h
      exact absurd h (by decide)
end Go.Proofs.YtbfhiiokajbdhaaGreatDoor.Q
