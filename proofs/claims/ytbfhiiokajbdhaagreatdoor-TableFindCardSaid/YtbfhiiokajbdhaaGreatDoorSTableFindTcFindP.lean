/- What the proof of TableFind leans on: TcFindP. -/
import Derived.Test.YtbfhiiokajbdhaaGreatDoorSTableFindPTb
import Derived.Test.YtbfhiiokajbdhaaGreatDoorSTableFindPEv
import Derived.Test.YtbfhiiokajbdhaaGreatDoorSTableFindPrintT
import Derived.Lib.ItoaLen
import Derived.Test.YtbfhiiokajbdhaaGreatDoorSTableFindTcChecks
set_option linter.unusedVariables false
set_option linter.unusedSimpArgs false
set_option maxRecDepth 100000
namespace Go.Proofs.YtbfhiiokajbdhaaGreatDoor.Q
open Go.RowKit Go.Proofs.YtbfhiiokajbdhaaGreatDoorW.PrintWords Go.Proofs.YtbfhiiokajbdhaaGreatDoor.Val Go.Proofs.YtbfhiiokajbdhaaGreatDoor.Fl
theorem rd_get (l : List S34) (i : Nat) (h : i < l.length) : rd_T34 l (i : Int) = l[i] := by
  unfold rd_T34
  rw [Int.toNat_natCast, List.getD_eq_getElem?_getD, List.getElem?_eq_getElem h]
  rfl
theorem findAt_none (n : List UInt8) : ∀ (l : List S34) (k : Nat), (∀ r ∈ l, r.f0.toList ≠ n) → Tab.findAt n k l = -1
  | [], _, _ => rfl
  | r :: l, k, h => by
    unfold Tab.findAt
    rw [if_neg (fun e => h r (by simp) (beq_iff_eq.1 e))]
    exact findAt_none n l (k + 1) (fun x hx => h x (by simp [hx]))
theorem findAt_neg (n : List UInt8) : ∀ (l : List S34) (k : Nat), Tab.findAt n k l < 0 → ∀ r ∈ l, r.f0.toList ≠ n
  | [], _, _ => fun r hr => by cases hr
  | r :: l, k, h => by
    unfold Tab.findAt at h
    by_cases e : (r.f0.toList == n) = true
    · rw [if_pos e] at h; omega
    · rw [if_neg e] at h
      intro x hx
      rcases List.mem_cons.1 hx with rfl | hx
      · exact fun e' => e (beq_iff_eq.2 e')
      · exact findAt_neg n l (k + 1) h x hx
theorem findAt_at (n : List UInt8) : ∀ (l : List S34) (i k : Nat) (hi : i < l.length), l[i].f0.toList = n → (∀ r ∈ l.take i, r.f0.toList ≠ n) → Tab.findAt n k l = ((k + i : Nat) : Int)
  | [], i, _, hi, _, _ => absurd hi (Nat.not_lt_zero _)
  | r :: l, 0, k, hi, he, _ => by
    unfold Tab.findAt
    have he' : r.f0.toList = n := he
    rw [if_pos (beq_iff_eq.2 he')]
    rfl
  | r :: l, i + 1, k, hi, he, hn => by
    unfold Tab.findAt
    rw [if_neg (fun e => hn r (by simp) (beq_iff_eq.1 e)), findAt_at n l i (k + 1) (by simpa using hi) (by simpa using he) (fun x hx => hn x (by simp [hx]))]
    omega
theorem find_self (l : List S34) (h : (chk l).2 = 0) (i : Nat) (hi : i < l.length) : Tab.findB l (l[i]).f0 = true ∧ Tab.findR l (l[i]).f0 = l[i] := by
  have hx := chk_all l l.length 0 (by omega) h i (by omega) hi
  rw [rd_get l i hi] at hx
  have hf := (nx_ok _ _ hx).2.1
  have hneg : Tab.findAt (l[i]).f0.toList 0 (l.take i) < 0 := by
    unfold Tab.findB at hf
    simpa using hf
  have ha := findAt_at (l[i]).f0.toList l i 0 hi rfl (findAt_neg _ _ _ hneg)
  rw [Nat.zero_add] at ha
  unfold Tab.findB Tab.findR
  rw [ha, decide_eq_false (by omega), if_neg (by omega), rd_get l i hi]
  exact ⟨rfl, rfl⟩
theorem chk_of (l : List S34) (h : ∀ j : Nat, j < l.length → nxE (l.take j) (rd_T34 l (j : Int)) = 0) : chk l = (0, 0) := by
  have go : ∀ m i : Nat, i + m = l.length → chkFrom l m i = (0, 0) := by
    intro m
    induction m with
    | zero => intro i _; rfl
    | succ m ih =>
      intro i hi
      unfold chkFrom
      rw [if_pos (h i (by omega))]
      exact ih (i + 1) (by omega)
  exact go l.length 0 (by omega)
theorem chk_take (l : List S34) (h : (chk l).2 = 0) (i : Nat) (hi : i ≤ l.length) : chk (l.take i) = (0, 0) := by
  refine chk_of _ (fun j hj => ?_)
  rw [List.length_take] at hj
  have hx := chk_all l l.length 0 (by omega) h j (by omega) (by omega)
  rw [rd_get l j (by omega)] at hx
  rw [rd_get (l.take i) j (by rw [List.length_take]; exact hj), List.take_take, Nat.min_eq_left (by omega), List.getElem_take]
  exact hx
theorem nx_alone (l : List S34) (r : S34) (h : nxE l r = 0) : nxE [] r = 0 := by
  obtain ⟨h1, -, -⟩ := nx_ok l r h
  unfold rowB at h1
  rw [Bool.and_eq_true] at h1
  unfold nxE nextE
  rw [h1.1, h1.2]
  rfl
theorem chk_one (l : List S34) (h : (chk l).2 = 0) (i : Nat) (hi : i < l.length) : chk [l[i]] = (0, 0) := by
  refine chk_of _ (fun j hj => ?_)
  obtain rfl : j = 0 := by simpa using hj
  have hx := chk_all l l.length 0 (by omega) h i (by omega) hi
  rw [rd_get l i hi] at hx
  rw [rd_get [l[i]] 0 (by simp)]
  exact nx_alone _ _ hx
theorem one_slice (l : List S34) (i : Nat) (hi : i < l.length) : (l.take (i + 1)).drop i = [l[i]] := by
  rw [List.take_succ_eq_append_getElem hi, List.drop_append_of_le_length (by rw [List.length_take]; omega), List.drop_eq_nil_of_le (by rw [List.length_take]; omega)]
  rfl
theorem chk_bad : ∀ (l : List S34) (m i : Nat), i + m = l.length → (chkFrom l m i).2 ≠ 0 → 1 ≤ (chkFrom l m i).1 ∧ (chkFrom l m i).1 ≤ (l.length : Int) := by
  intro l m
  induction m with
  | zero => intro i _ h; exact absurd rfl h
  | succ m ih =>
    intro i hi h
    unfold chkFrom at h ⊢
    split
    · rename_i h0
      rw [if_pos h0] at h
      exact ih (i + 1) (by omega) h
    · exact ⟨show (1 : Int) ≤ (i : Int) + 1 by omega, show (i : Int) + 1 ≤ (l.length : Int) by omega⟩
theorem findB_any (l : List S34) (n : ByteArray) : Tab.findB l n = l.any (fun r => r.f0.toList == n.toList) := by
  unfold Tab.findB
  by_cases h : Tab.findAt n.toList 0 l < 0
  · rw [decide_eq_true h]
    have := findAt_neg _ _ _ h
    symm
    show _ = false
    rw [List.any_eq_false]
    intro r hr
    simpa using this r hr
  · rw [decide_eq_false h]
    symm
    show _ = true
    rw [List.any_eq_true]
    apply Classical.byContradiction
    intro hc
    refine h ?_
    rw [findAt_none n.toList l 0 (fun r hr e => hc ⟨r, hr, beq_iff_eq.2 e⟩)]
    decide
end Go.Proofs.YtbfhiiokajbdhaaGreatDoor.Q
