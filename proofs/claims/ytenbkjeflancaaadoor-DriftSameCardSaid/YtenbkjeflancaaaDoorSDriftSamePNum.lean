/- What the proof of DriftSame leans on: PNum. -/
import Derived.Test.YtenbkjeflancaaaDoorSDriftSamePOf
set_option linter.unusedVariables false
set_option linter.unusedSimpArgs false
namespace Go.Proofs.YtenbkjeflancaaaDoor.Val
open Go.RowKit
def fixD : Nat → Nat → List UInt8
  | 0, _ => []
  | n + 1, u => fixD n (u / 10) ++ [UInt8.ofNat (48 + u % 10)]
theorem fixD_len : ∀ n u, (fixD n u).length = n
  | 0, _ => rfl
  | n + 1, u => by rw [fixD, List.length_append, fixD_len n]; rfl
theorem dig_lt (a b : Nat) (ha : a < 10) (hb : b < 10) : (UInt8.ofNat (48 + a) < UInt8.ofNat (48 + b)) ↔ a < b := by
  rw [UInt8.lt_iff_toNat_lt, UInt8.toNat_ofNat', UInt8.toNat_ofNat']
  omega
theorem dig_inj (a b : Nat) (ha : a < 10) (hb : b < 10) : (UInt8.ofNat (48 + a) = UInt8.ofNat (48 + b)) ↔ a = b := by
  rw [← UInt8.toNat_inj, UInt8.toNat_ofNat', UInt8.toNat_ofNat']
  omega
theorem fixD_inj : ∀ n u v, u < 10 ^ n → v < 10 ^ n → (fixD n u = fixD n v ↔ u = v)
  | 0, u, v, hu, hv => by simp at hu hv; simp [fixD, hu, hv]
  | n + 1, u, v, hu, hv => by
    rw [Nat.pow_succ] at hu hv
    rw [fixD, fixD]
    constructor
    · intro h
      obtain ⟨h1, h2⟩ := List.append_inj' h rfl
      have := (fixD_inj n (u / 10) (v / 10) (by omega) (by omega)).1 h1
      have := (dig_inj (u % 10) (v % 10) (by omega) (by omega)).1 (List.cons.inj h2).1
      omega
    · rintro rfl; rfl
theorem less_snoc : ∀ (p q : List UInt8) (c d : UInt8), p.length = q.length → Op.bytesLess (p ++ [c]) (q ++ [d]) = (Op.bytesLess p q || (decide (p = q) && decide (c < d)))
  | [], [], c, d, _ => by simp [Op.bytesLess]
  | a :: p, b :: q, c, d, h => by
    have ih := less_snoc p q c d (by simpa using h)
    show (decide (a < b) || (a == b && Op.bytesLess (p ++ [c]) (q ++ [d]))) = (((decide (a < b)) || (a == b && Op.bytesLess p q)) || _)
    rw [ih]
    by_cases hab : a = b
    · subst hab
      have e : decide (a :: p = a :: q) = decide (p = q) := by rw [decide_eq_decide]; simp
      rw [e]
      simp
    · have e : decide (a :: p = b :: q) = false := decide_eq_false (fun h => hab (List.cons.inj h).1)
      have e2 : (a == b) = false := beq_eq_false_iff_ne.2 hab
      rw [e, e2]
      simp
theorem fixD_less : ∀ n u v, u < 10 ^ n → v < 10 ^ n → Op.bytesLess (fixD n u) (fixD n v) = decide (u < v)
  | 0, u, v, hu, hv => by simp at hu hv; subst hu; subst hv; rfl
  | n + 1, u, v, hu, hv => by
    rw [Nat.pow_succ] at hu hv
    rw [fixD, fixD, less_snoc _ _ _ _ (by rw [fixD_len, fixD_len]), fixD_less n _ _ (by omega) (by omega)]
    have e1 : decide (fixD n (u / 10) = fixD n (v / 10)) = decide (u / 10 = v / 10) := by rw [decide_eq_decide]; exact fixD_inj n _ _ (by omega) (by omega)
    have e2 : decide (UInt8.ofNat (48 + u % 10) < UInt8.ofNat (48 + v % 10)) = decide (u % 10 < v % 10) := by rw [decide_eq_decide]; exact dig_lt _ _ (by omega) (by omega)
    rw [e1, e2, ← Bool.decide_and, ← Bool.decide_or, decide_eq_decide]
    omega
theorem fixD_zero : ∀ n u, u < 10 ^ n → fixD (n + 1) u = 48 :: fixD n u
  | 0, u, hu => by simp at hu; subst hu; rfl
  | n + 1, u, hu => by
    rw [Nat.pow_succ] at hu
    rw [fixD, fixD_zero n (u / 10) (by omega)]
    rfl
theorem fixD_pad : ∀ m n u, u < 10 ^ n → List.replicate m 48 ++ fixD n u = fixD (m + n) u
  | 0, n, u, hu => by simp
  | m + 1, n, u, hu => by
    rw [List.replicate_succ, List.cons_append, fixD_pad m n u hu, show m + 1 + n = (m + n) + 1 by omega]
    refine (fixD_zero (m + n) u (Nat.lt_of_lt_of_le hu (Nat.pow_le_pow_right (by decide) (by omega)))).symm
theorem dec_fix (u : Nat) : Lib.decDigits u = fixD (Lib.nDigits u) u := by
  induction u using Nat.strongRecOn with
  | _ u ih =>
    by_cases h : u < 10
    · rw [Lib.decDigits, dif_pos h, Lib.nDigits_small h, fixD, fixD, Nat.mod_eq_of_lt h]; rfl
    · rw [Lib.decDigits, dif_neg h, Lib.nDigits_big h, fixD, ih (u / 10) (by omega)]
theorem dec_len' (u : Nat) : (Lib.decDigits u).length = Lib.nDigits u := Lib.decDigits_length u
def wid (x sc : Nat) : Nat := max (Lib.nDigits x) (sc + 1)
theorem pad_fix (x sc : Nat) : padL x sc = fixD (wid x sc) x := by
  unfold padL wid
  rw [dec_len', dec_fix, fixD_pad _ _ _ (Lib.lt_pow_nDigits x)]
  congr 1
  rw [Nat.max_def]
  split <;> omega
theorem lt_wid (x sc : Nat) : x < 10 ^ wid x sc := Nat.lt_of_lt_of_le (Lib.lt_pow_nDigits x) (Nat.pow_le_pow_right (by decide) (Nat.le_max_left _ _))
theorem ins_less : ∀ (p q : List UInt8) (j : Nat) (c : UInt8), p.length = q.length → Op.bytesLess (p.take j ++ c :: p.drop j) (q.take j ++ c :: q.drop j) = Op.bytesLess p q
  | p, q, 0, c, h => by
    simp only [List.take_zero, List.drop_zero, List.nil_append, Op.bytesLess]
    simp
  | [], [], j + 1, c, h => by simp [Op.bytesLess]
  | a :: p, b :: q, j + 1, c, h => by
    have ih := ins_less p q j c (by simpa using h)
    show (decide (a < b) || (a == b && Op.bytesLess (p.take j ++ c :: p.drop j) (q.take j ++ c :: q.drop j))) = _
    rw [ih]
    rfl
theorem ins_inj : ∀ (p q : List UInt8) (j : Nat) (c : UInt8), p.length = q.length → (p.take j ++ c :: p.drop j = q.take j ++ c :: q.drop j ↔ p = q)
  | p, q, j, c, h => by
    constructor
    · intro he
      obtain ⟨h1, h2⟩ := List.append_inj he (by rw [List.length_take, List.length_take, h])
      rw [← List.take_append_drop j p, ← List.take_append_drop j q, h1, (List.cons.inj h2).2]
    · rintro rfl; rfl
theorem pt_len (b : Bool) (x sc : Nat) : (pointL b x sc).length = (if b then 1 else 0) + (if sc = 0 then Lib.nDigits x else wid x sc + 1) := by
  unfold pointL ptL
  by_cases h : sc = 0
  · rw [if_pos h, if_pos h, List.length_append, dec_len']
    cases b <;> rfl
  · rw [if_neg h, if_neg h, List.length_append, List.length_append, List.length_cons, List.length_take, List.length_drop, pad_fix, fixD_len]
    have : sc + 1 ≤ wid x sc := Nat.le_max_right _ _
    cases b
    · simp only [Bool.false_eq_true, if_false, List.length_nil]; omega
    · simp only [if_true, List.length_cons, List.length_nil]; omega
theorem pt_order (x y sc : Nat) (h : (pointL false x sc).length = (pointL false y sc).length) :
    Op.bytesLess (pointL false x sc) (pointL false y sc) = decide (x < y) ∧ (pointL false x sc = pointL false y sc ↔ x = y) := by
  rw [pt_len, pt_len] at h
  unfold pointL ptL
  simp only [Bool.false_eq_true, if_false, List.nil_append] at h ⊢
  by_cases hs : sc = 0
  · rw [if_pos hs, if_pos hs] at h
    rw [if_pos hs, if_pos hs, dec_fix, dec_fix y]
    have e : Lib.nDigits x = Lib.nDigits y := by omega
    rw [e]
    have hx := Lib.lt_pow_nDigits x
    rw [e] at hx
    exact ⟨fixD_less _ _ _ hx (Lib.lt_pow_nDigits y), fixD_inj _ _ _ hx (Lib.lt_pow_nDigits y)⟩
  · rw [if_neg hs, if_neg hs] at h
    rw [if_neg hs, if_neg hs, pad_fix, pad_fix, fixD_len, fixD_len]
    have e : wid x sc = wid y sc := by omega
    rw [e]
    have hx := lt_wid x sc
    rw [e] at hx
    rw [ins_less _ _ _ _ (by rw [fixD_len, fixD_len]), ins_inj _ _ _ _ (by rw [fixD_len, fixD_len])]
    exact ⟨fixD_less _ _ _ hx (lt_wid y sc), fixD_inj _ _ _ hx (lt_wid y sc)⟩
end Go.Proofs.YtenbkjeflancaaaDoor.Val
