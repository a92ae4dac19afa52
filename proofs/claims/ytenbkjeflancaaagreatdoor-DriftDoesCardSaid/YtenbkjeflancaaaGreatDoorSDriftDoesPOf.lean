/- What the proof of DriftDoes leans on: POf. -/
import Derived.Test.YtenbkjeflancaaaGreatDoorSDriftDoesValM
import Derived.Test.YtenbkjeflancaaaGreatDoorSDriftDoesPVal
import Derived.Test.YtenbkjeflancaaaGreatDoorSDriftDoesValH
set_option linter.unusedVariables false
set_option linter.unusedSimpArgs false
namespace Go.Proofs.YtenbkjeflancaaaGreatDoor.Val
open Go.RowKit Go.Proofs.YtenbkjeflancaaaGreatDoor.Q Go.Proofs.YtenbkjeflancaaaGreatDoorW.PrintWords
def padL (x sc : Nat) : List UInt8 := List.replicate (sc + 1 - (Lib.decDigits x).length) 48 ++ Lib.decDigits x
def ptL (P : List UInt8) (sc : Nat) : List UInt8 := P.take (P.length - sc) ++ (46 :: P.drop (P.length - sc))
def pointL (b : Bool) (x sc : Nat) : List UInt8 :=
  (if b then [45] else []) ++ (if sc = 0 then Lib.decDigits x else ptL (padL x sc) sc)
def textL (kd s : Int) (l : List Int) : List UInt8 :=
  if kd = 1 then [UInt8.ofNat (48 + (rd l 0).toNat)] else if kd = 8 then hex4 (rd l 0).toNat ++ hex4 (rd l 1).toNat else pointL (numOf kd l).1 (numOf kd l).2 s.toNat
def textR (n : ByteArray) (u f a kd s d : Int) (wr : Bool) (l : List Int) : ByteArray := if mayB n u f a kd s d wr l then ⟨(textL kd s l).toArray⟩ else ⟨#[]⟩
theorem may_row {n : ByteArray} {u f a kd s d : Int} {wr : Bool} {l : List Int} (h : mayB n u f a kd s d wr l = true) : rowB n u f a kd s d wr = true := by
  unfold mayB at h
  simp only [Bool.and_eq_true] at h
  exact h.1
theorem may_len {n : ByteArray} {u f a kd s d : Int} {wr : Bool} {l : List Int} (h : mayB n u f a kd s d wr l = true) : (l.length : Int) = nOf kd := by
  unfold mayB at h
  simp only [Bool.and_eq_true] at h
  exact of_decide_eq_true h.2.1
theorem may_all {n : ByteArray} {u f a kd s d : Int} {wr : Bool} {l : List Int} (h : mayB n u f a kd s d wr l = true) : ∀ x ∈ l, 0 ≤ x ∧ x ≤ mostOf kd := by
  unfold mayB at h
  simp only [Bool.and_eq_true, Bool.not_eq_true'] at h
  intro x hx
  have := List.any_eq_false.1 h.2.2 x hx
  unfold bad at this
  simp only [Bool.or_eq_true, decide_eq_true_eq, not_or] at this
  omega
theorem row_facts {n : ByteArray} {u f a kd s d : Int} {wr : Bool} (h : rowB n u f a kd s d wr = true) : (1 ≤ kd ∧ kd ≤ 10) ∧ (0 ≤ s ∧ s ≤ 9) ∧ (0 ≤ d ∧ d ≤ 1000000000) ∧ ((kd = 1 ∨ kd = 8) → s = 0 ∧ d = 0) := by
  have hk := rowB_kind h
  unfold Tab.kindB at hk
  unfold rowB Tab.rangeB at h
  simp only [Bool.and_eq_true, Bool.not_eq_true', decide_eq_true_eq, decide_eq_false_iff_not, Bool.and_eq_false_iff, Bool.or_eq_false_iff, beq_eq_false_iff_ne] at h hk
  obtain ⟨-, -, -, -, -, -, -, -, -, hs0, hs9, hd0, hd9, hp, -⟩ := h
  refine ⟨hk, ⟨hs0, hs9⟩, ⟨hd0, hd9⟩, fun hk18 => ?_⟩
  rcases hp with ⟨h1, h8⟩ | hp
  · rcases hk18 with h | h
    · exact absurd h h1
    · exact absurd h h8
  · omega
theorem list1 {l : List Int} (h : l.length = 1) : ∃ x, l = [x] := by
  match l, h with
  | [x], _ => exact ⟨x, rfl⟩
theorem list2 {l : List Int} (h : l.length = 2) : ∃ x y, l = [x, y] := by
  match l, h with
  | [x, y], _ => exact ⟨x, y, rfl⟩
theorem list4 {l : List Int} (h : l.length = 4) : ∃ x y z v, l = [x, y, z, v] := by
  match l, h with
  | [x, y, z, v], _ => exact ⟨x, y, z, v, rfl⟩
theorem may_num {n : ByteArray} {u f a kd s d : Int} {wr : Bool} {l : List Int} (h : mayB n u f a kd s d wr l = true) (h1 : kd ≠ 1) (h8 : kd ≠ 8) :
    ((kd = 2 ∨ kd = 3) ∧ ∃ x, l = [x] ∧ (0 ≤ x ∧ x ≤ 65535)) ∨ ((kd = 4 ∨ kd = 5 ∨ kd = 6 ∨ kd = 7) ∧ ∃ x y, l = [x, y] ∧ (0 ≤ x ∧ x ≤ 65535) ∧ (0 ≤ y ∧ y ≤ 65535)) ∨ ((kd = 9 ∨ kd = 10) ∧ ∃ x y z v, l = [x, y, z, v] ∧ (0 ≤ x ∧ x ≤ 65535) ∧ (0 ≤ y ∧ y ≤ 65535) ∧ (0 ≤ z ∧ z ≤ 65535) ∧ (0 ≤ v ∧ v ≤ 65535)) := by
  obtain ⟨⟨k1, k10⟩, -⟩ := row_facts (may_row h)
  have hl := may_len h
  have ha := may_all h
  have hm : mostOf kd = 65535 := by unfold mostOf; rw [if_neg h1]
  rw [hm] at ha
  unfold nOf at hl
  rw [if_neg h1] at hl
  rcases (by omega : (kd = 2 ∨ kd = 3) ∨ (kd = 4 ∨ kd = 5 ∨ kd = 6 ∨ kd = 7) ∨ (kd = 9 ∨ kd = 10)) with hk | hk | hk
  · have : Tab.wordsOf kd = 1 := by rcases hk with rfl | rfl <;> rfl
    obtain ⟨x, rfl⟩ := list1 (l := l) (by omega)
    exact .inl ⟨hk, x, rfl, ha x (by simp)⟩
  · have : Tab.wordsOf kd = 2 := by rcases hk with rfl | rfl | rfl | rfl <;> rfl
    obtain ⟨x, y, rfl⟩ := list2 (l := l) (by omega)
    exact .inr (.inl ⟨hk, x, y, rfl, ha x (by simp), ha y (by simp)⟩)
  · have : Tab.wordsOf kd = 4 := by rcases hk with rfl | rfl <;> rfl
    obtain ⟨x, y, z, v, rfl⟩ := list4 (l := l) (by omega)
    exact .inr (.inr ⟨hk, x, y, z, v, rfl, ha x (by simp), ha y (by simp), ha z (by simp), ha v (by simp)⟩)
theorem of_all {n : ByteArray} {u f a kd s d : Int} {wr : Bool} {l : List Int} (h : mayB n u f a kd s d wr l = true) (h1 : kd ≠ 1) (h8 : kd ≠ 8) :
    value_of.f 10 n u f a kd s d wr l = some ((numOf kd l).1, ((numOf kd l).2 : Int)) := by
  rcases may_num h h1 h8 with ⟨hk, x, rfl, hx⟩ | ⟨hk, x, y, rfl, hx, hy⟩ | ⟨hk, x, y, z, v, rfl, hx, hy, hz, hv⟩
  · exact of_eq1 0 x n u f a kd s d wr hx.1 hx.2 (by rcases hk with rfl | rfl <;> rfl)
  · exact of_eq2 0 x y n u f a kd s d wr hx.1 hx.2 hy.1 hy.2
  · exact of_eq4 0 x y z v n u f a kd s d wr hx.1 hx.2 hy.1 hy.2 hz.1 hz.2 hv.1 hv.2 (by rcases hk with rfl | rfl <;> rfl)
theorem numX_go (l : List Int) : ∀ acc : Nat, (∀ x ∈ l, 0 ≤ x ∧ x ≤ 65535) → l.foldl (fun x w => x * 65536 + w.toNat) acc < (acc + 1) * 65536 ^ l.length := by
  induction l with
  | nil => intro acc _; simp
  | cons w l ih =>
    intro acc h
    have h0 := h w (by simp)
    have := ih (acc * 65536 + w.toNat) (fun x hx => h x (by simp [hx]))
    rw [List.foldl_cons, List.length_cons, Nat.pow_succ, Nat.mul_comm (65536 ^ l.length) 65536, ← Nat.mul_assoc]
    refine Nat.lt_of_lt_of_le this (Nat.mul_le_mul_right _ (by omega))
theorem numX_lt (l : List Int) (h : ∀ x ∈ l, 0 ≤ x ∧ x ≤ 65535) : numX l < 65536 ^ l.length := by
  have := numX_go l 0 h
  rw [Nat.zero_add, Nat.one_mul] at this
  exact this
theorem ordW_len (kd : Int) (l : List Int) : (ordW kd l).length = l.length := by unfold ordW; split <;> simp
theorem ordW_mem (kd : Int) (l : List Int) (x : Int) : x ∈ ordW kd l ↔ x ∈ l := by unfold ordW; split <;> simp
theorem numOf_lt (kd : Int) (l : List Int) (h : ∀ x ∈ l, 0 ≤ x ∧ x ≤ 65535) : (numOf kd l).2 < 65536 ^ l.length := by
  have h1 := numX_lt (ordW kd l) (fun x hx => h x ((ordW_mem kd l x).1 hx))
  rw [ordW_len] at h1
  have e : (2 : Nat) ^ (16 * l.length) = 65536 ^ l.length := by rw [Nat.pow_mul]
  unfold numOf
  split
  · rename_i hc
    simp only [Bool.and_eq_true, decide_eq_true_eq] at hc
    have : 0 < (2 : Nat) ^ (16 * l.length - 1) := Nat.pow_pos (by decide)
    show 2 ^ (16 * l.length) - _ < _
    rw [e]
    omega
  · exact h1
theorem num_lt {n : ByteArray} {u f a kd s d : Int} {wr : Bool} {l : List Int} (h : mayB n u f a kd s d wr l = true) (h1 : kd ≠ 1) (h8 : kd ≠ 8) : (numOf kd l).2 < 18446744073709551616 := by
  have ha := may_all h
  have hm : mostOf kd = 65535 := by unfold mostOf; rw [if_neg h1]
  rw [hm] at ha
  refine Nat.lt_of_lt_of_le (numOf_lt kd l ha) ?_
  have hl : l.length ≤ 4 := by
    rcases may_num h h1 h8 with ⟨-, x, rfl, -⟩ | ⟨-, x, y, rfl, -⟩ | ⟨-, x, y, z, v, rfl, -⟩ <;> simp
  exact Nat.le_trans (Nat.pow_le_pow_right (by decide) hl) (by decide)
end Go.Proofs.YtenbkjeflancaaaGreatDoor.Val
set_option linter.unusedVariables false
set_option linter.unusedSimpArgs false
namespace Go.Proofs.YtenbkjeflancaaaGreatDoor.Val
open Go.RowKit
def fixD : Nat → Nat → List UInt8
  | 0, _ => []
  | n + 1, u => fixD n (u / 10) ++ [UInt8.ofNat (48 + u % 10)]
theorem fixD_zero : ∀ n u, u < 10 ^ n → fixD (n + 1) u = 48 :: fixD n u
  | 0, u, hu => by simp at hu; subst hu; rfl
  | n + 1, u, hu => by
    rw [Nat.pow_succ] at hu
    rw [fixD, fixD_zero n (u / 10) (by omega)]
    rfl
theorem fixD_pad : ∀ m n u, u < 10 ^ n → List.replicate m 48 ++ fixD n u = fixD (m + n) u
  | 0, n, u, hu => by simp
  | m + 1, n, u, hu => by
    rw [List.replicate_succ, List.cons_append, fixD_pad m n u hu, show m + 1 + n = (m + n) + 1 by omega]
    refine (fixD_zero (m + n) u (Nat.lt_of_lt_of_le hu (Nat.pow_le_pow_right (by decide) (by omega)))).symm
theorem dec_fix (u : Nat) : Lib.decDigits u = fixD (Lib.nDigits u) u := by
  induction u using Nat.strongRecOn with
  | _ u ih =>
    by_cases h : u < 10
    · rw [Lib.decDigits, dif_pos h, Lib.nDigits_small h, fixD, fixD, Nat.mod_eq_of_lt h]; rfl
    · rw [Lib.decDigits, dif_neg h, Lib.nDigits_big h, fixD, ih (u / 10) (by omega)]
theorem dec_len' (u : Nat) : (Lib.decDigits u).length = Lib.nDigits u := Lib.decDigits_length u
def wid (x sc : Nat) : Nat := max (Lib.nDigits x) (sc + 1)
theorem pad_fix (x sc : Nat) : padL x sc = fixD (wid x sc) x := by
  unfold padL wid
  rw [dec_len', dec_fix, fixD_pad _ _ _ (Lib.lt_pow_nDigits x)]
  congr 1
  rw [Nat.max_def]
  split <;> omega
end Go.Proofs.YtenbkjeflancaaaGreatDoor.Val
