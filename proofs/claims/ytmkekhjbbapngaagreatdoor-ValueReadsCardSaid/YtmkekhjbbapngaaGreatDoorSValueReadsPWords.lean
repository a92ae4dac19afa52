/- PWords -/
import Derived.Test.YtmkekhjbbapngaaGreatDoorSValueReadsPVal
import Derived.Test.YtmkekhjbbapngaaGreatDoorSValueReadsQx14
import Derived.Test.YtmkekhjbbapngaaGreatDoorSValueReadsQx13
set_option linter.all false
namespace Go.Proofs.YtmkekhjbbapngaaGreatDoor.Q
open Go.RowKit YtmkekhjbbapngaaGreatDoorW.PrintWords YtmkekhjbbapngaaGreatDoorW.PrintMore
def digW (n : Int) (v : Nat) : List Int :=
  if n = 1 then [((v % 65536 : Nat) : Int)] else if n = 2 then [((v / 65536 % 65536 : Nat) : Int), ((v % 65536 : Nat) : Int)]
  else [((v / 65536 / 65536 / 65536 % 65536 : Nat) : Int), ((v / 65536 / 65536 % 65536 : Nat) : Int), ((v / 65536 % 65536 : Nat) : Int), ((v % 65536 : Nat) : Int)]
def topN (kd : Int) (b : Bool) : Nat :=
  if sgn kd then 2 ^ (16 * (Tab.wordsOf kd).toNat) / 2 - 1 + (if b then 1 else 0) else 2 ^ (16 * (Tab.wordsOf kd).toNat) - 1
def wordsN (kd : Int) (b : Bool) (x : Nat) : List Int × Bool :=
  if (!sgn kd && b) = true then ([], false) else if topN kd b < x then ([], false)
  else (ordW kd (digW (Tab.wordsOf kd) (if b then (18446744073709551616 - x) % 18446744073709551616 else x)), true)
theorem and16 (v : Nat) (h : v < 18446744073709551616) : wrap64 (Go.bits .and .u64 (v : Int) 65535) = ((v % 65536 : Nat) : Int) := by
  have e := bits_and_u64_nat v 65535 h (by omega)
  rw [show v &&& 65535 = v % 65536 from Nat.and_two_pow_sub_one_eq_mod v 16] at e
  rw [show (65535 : Int) = ((65535 : Nat) : Int) from rfl, e]
  unfold wrap64
  omega
theorem w_step (k v i : Nat) (l : List Int) (n : ByteArray) (u f a kd s d : Int) (wr : Bool) (hv : v < 18446744073709551616) (hi : i < l.length) (hl : l.length ≤ 10) :
    value_words.l0 (k + 1) (v : Int) l (i : Int) n u f a kd s d wr = value_words.l0 k ((v / 65536 : Nat) : Int) (l.set i ((v % 65536 : Nat) : Int)) ((i : Int) - 1) n u f a kd s d wr := by
  show (if (i : Int) ≥ 0 then (if 0 ≤ (i : Int) then (if (i : Int) < (l.length : Int) then _ else none) else none) else _) = _
  rw [if_pos (by omega), if_pos (by omega), if_pos (by omega), and16 v hv]
  have hw : wrap64 ((i : Int) - 1) = (i : Int) - 1 := by unfold wrap64; omega
  rw [hw, Int.toNat_natCast]
  rfl
theorem w_end (k : Nat) (v : Int) (l : List Int) (n : ByteArray) (u f a kd s d : Int) (wr : Bool) :
    value_words.l0 (k + 1) v l (-1) n u f a kd s d wr = ((value_turned.f kd).bind fun t213 => (if t213 = true then ((slices_Reverse_int_int.f k l).bind fun t214 => (some (t214, true))) else (some (l, true)))) := by
  show (if (-1 : Int) ≥ 0 then _ else _) = _
  rw [if_neg (by decide)]
theorem w_j1_1 (k v : Nat) (n : ByteArray) (u f a kd s d : Int) (wr : Bool) (hv : v < 18446744073709551616) (ht : trn kd = false) :
    value_words.j1 (k + 6) 1 (v : Int) n u f a kd s d wr = some (ordW kd (digW 1 v), true) := by
  show (if (0 : Int) ≤ 1 then (if (1 : Int).toNat ≤ 35184372088832 then value_words.l0 (k + 5) (v : Int) (List.replicate (1 : Int).toNat 0) (wrap64 (1 - 1)) n u f a kd s d wr else none) else none) = _
  rw [if_pos (by decide), if_pos (by decide)]
  have hw : wrap64 (1 - 1) = ((0 : Nat) : Int) := by unfold wrap64; decide
  rw [hw, w_step (k + 4) v 0 _ n u f a kd s d wr hv (by simp) (by simp)]
  rw [show (((0 : Nat) : Int) - 1) = -1 from rfl, w_end (k + 3), turned_eq, ht]
  unfold ordW
  rw [ht]
  rfl
theorem w_j1_2 (k v : Nat) (n : ByteArray) (u f a kd s d : Int) (wr : Bool) (hv : v < 18446744073709551616) :
    value_words.j1 (k + 6) 2 (v : Int) n u f a kd s d wr = some (ordW kd (digW 2 v), true) := by
  show (if (0 : Int) ≤ 2 then (if (2 : Int).toNat ≤ 35184372088832 then value_words.l0 (k + 5) (v : Int) (List.replicate (2 : Int).toNat 0) (wrap64 (2 - 1)) n u f a kd s d wr else none) else none) = _
  rw [if_pos (by decide), if_pos (by decide)]
  have hw : wrap64 (2 - 1) = ((1 : Nat) : Int) := by unfold wrap64; decide
  rw [hw, w_step (k + 4) v 1 _ n u f a kd s d wr hv (by simp) (by simp)]
  rw [show (((1 : Nat) : Int) - 1) = ((0 : Nat) : Int) from rfl, w_step (k + 3) (v / 65536) 0 _ n u f a kd s d wr (by omega) (by simp) (by simp)]
  rw [show (((0 : Nat) : Int) - 1) = -1 from rfl, w_end (k + 2), turned_eq]
  have e : ((List.replicate (2 : Int).toNat (0 : Int)).set 1 ((v % 65536 : Nat) : Int)).set 0 ((v / 65536 % 65536 : Nat) : Int) = digW 2 v := rfl
  rw [e]
  unfold ordW
  cases trn kd
  · rfl
  · simp only [Option.bind_some, if_true]
    show (slices_Reverse_int_int.f (k + 2) [((v / 65536 % 65536 : Nat) : Int), ((v % 65536 : Nat) : Int)]).bind _ = _
    rw [rev2]
    rfl
theorem w_j1_4 (k v : Nat) (n : ByteArray) (u f a kd s d : Int) (wr : Bool) (hv : v < 18446744073709551616) (ht : trn kd = false) :
    value_words.j1 (k + 6) 4 (v : Int) n u f a kd s d wr = some (ordW kd (digW 4 v), true) := by
  show (if (0 : Int) ≤ 4 then (if (4 : Int).toNat ≤ 35184372088832 then value_words.l0 (k + 5) (v : Int) (List.replicate (4 : Int).toNat 0) (wrap64 (4 - 1)) n u f a kd s d wr else none) else none) = _
  rw [if_pos (by decide), if_pos (by decide)]
  have hw : wrap64 (4 - 1) = ((3 : Nat) : Int) := by unfold wrap64; decide
  rw [hw, w_step (k + 4) v 3 _ n u f a kd s d wr hv (by simp) (by simp)]
  rw [show (((3 : Nat) : Int) - 1) = ((2 : Nat) : Int) from rfl, w_step (k + 3) (v / 65536) 2 _ n u f a kd s d wr (by omega) (by simp) (by simp)]
  rw [show (((2 : Nat) : Int) - 1) = ((1 : Nat) : Int) from rfl, w_step (k + 2) (v / 65536 / 65536) 1 _ n u f a kd s d wr (by omega) (by simp) (by simp)]
  rw [show (((1 : Nat) : Int) - 1) = ((0 : Nat) : Int) from rfl, w_step (k + 1) (v / 65536 / 65536 / 65536) 0 _ n u f a kd s d wr (by omega) (by simp) (by simp)]
  rw [show (((0 : Nat) : Int) - 1) = -1 from rfl, w_end k, turned_eq, ht]
  unfold ordW
  rw [ht]
  rfl
theorem neg_wrap (x : Nat) (h : x < 18446744073709551616) : IntKind.u64.wrap (-(x : Int)) = (((18446744073709551616 - x) % 18446744073709551616 : Nat) : Int) := by
  rw [IntKind.wrap_u64]; omega
theorem w_j0 (k : Nat) (kd m : Int) (hm : m = 1 ∧ trn kd = false ∨ m = 2 ∨ m = 4 ∧ trn kd = false) (most : Int) (n : ByteArray) (u f a s d : Int) (wr b : Bool) (x : Nat) (hx : x < 18446744073709551616) :
    value_words.j0 (k + 7) m most n u f a kd s d wr b (x : Int) = some (if most < (x : Int) then ([], false) else (ordW kd (digW m (if b then (18446744073709551616 - x) % 18446744073709551616 else x)), true)) := by
  have hj : ∀ v : Nat, v < 18446744073709551616 → value_words.j1 (k + 6) m (v : Int) n u f a kd s d wr = some (ordW kd (digW m v), true) := by
    intro v hv
    rcases hm with ⟨rfl, ht⟩ | rfl | ⟨rfl, ht⟩
    · exact w_j1_1 k v n u f a kd s d wr hv ht
    · exact w_j1_2 k v n u f a kd s d wr hv
    · exact w_j1_4 k v n u f a kd s d wr hv ht
  show (if (x : Int) > most then some ([], false) else (if b = true then value_words.j1 (k + 6) m (IntKind.u64.wrap (-(x : Int))) n u f a kd s d wr else value_words.j1 (k + 6) m (x : Int) n u f a kd s d wr)) = _
  by_cases h : most < (x : Int)
  · rw [if_pos h, if_pos h]
  · rw [if_neg h, if_neg h]
    cases b
    · exact hj x hx
    · rw [if_pos rfl, neg_wrap x hx]
      exact hj _ (Nat.mod_lt _ (by decide))
theorem words_eqN (k : Nat) (kd : Int) (hk : kd = 2 ∨ kd = 3 ∨ kd = 4 ∨ kd = 5 ∨ kd = 6 ∨ kd = 7 ∨ kd = 9 ∨ kd = 10) (n : ByteArray) (u f a s d : Int) (wr b : Bool) (x : Nat) (hx : x < 18446744073709551616) :
    value_words.f (k + 7) n u f a kd s d wr b (x : Int) = some (wordsN kd b x) := by
  have hkB : Tab.kindB kd = true := by rcases hk with rfl | rfl | rfl | rfl | rfl | rfl | rfl | rfl <;> rfl
  unfold value_words.f
  rw [show k + 7 = (k + 5) + 2 from rfl, words_eq, hkB, sign_eq]
  simp only [if_true, Option.bind_some]
  unfold wordsN topN
  have fin : ∀ (m most : Int) (M : Nat), (m = 1 ∧ trn kd = false ∨ m = 2 ∨ m = 4 ∧ trn kd = false) → most = (M : Int) → value_words.j0 (k + 5 + 2) m most n u f a kd s d wr b (x : Int) = some (if M < x then ([], false) else (ordW kd (digW m (if b then (18446744073709551616 - x) % 18446744073709551616 else x)), true)) := by
    intro m most M hm hM
    rw [show k + 5 + 2 = k + 7 from rfl, w_j0 k kd m hm most n u f a s d wr b x hx, hM]
    by_cases h : M < x
    · rw [if_pos (by omega), if_pos h]
    · rw [if_neg (by omega), if_neg h]
  have w1 : wrap64 (64 - wrap64 (16 * 1)) = 48 := by unfold wrap64; decide
  have w2 : wrap64 (64 - wrap64 (16 * 2)) = 32 := by unfold wrap64; decide
  have w4 : wrap64 (64 - wrap64 (16 * 4)) = 0 := by unfold wrap64; decide
  have s1 : shr .u64 18446744073709551615 48 = 65535 := by unfold shr; decide
  have s2 : shr .u64 18446744073709551615 32 = 4294967295 := by unfold shr; decide
  have s4 : shr .u64 18446744073709551615 0 = 18446744073709551615 := by unfold shr; decide
  rcases hk with rfl | rfl | rfl | rfl | rfl | rfl | rfl | rfl
  · rw [show Tab.wordsOf 2 = 1 from rfl, w1, s1, if_pos (by decide), show sgn 2 = false from rfl]
    cases b
    · simp only [Bool.false_eq_true, if_false, Bool.not_false, Bool.and_false]
      exact fin 1 65535 _ (.inl ⟨rfl, rfl⟩) rfl
    · rfl
  · rw [show Tab.wordsOf 3 = 1 from rfl, w1, s1, if_pos (by decide), show sgn 3 = true from rfl]
    cases b
    · simp only [if_true, Bool.false_eq_true, if_false, Bool.not_true, Bool.and_false]
      exact fin 1 (65535 / 2) _ (.inl ⟨rfl, rfl⟩) rfl
    · simp only [if_true, Bool.false_eq_true, if_false, Bool.not_true, Bool.false_and]
      exact fin 1 (65535 / 2 + 1) _ (.inl ⟨rfl, rfl⟩) rfl
  · rw [show Tab.wordsOf 4 = 2 from rfl, w2, s2, if_pos (by decide), show sgn 4 = false from rfl]
    cases b
    · simp only [Bool.false_eq_true, if_false, Bool.not_false, Bool.and_false]
      exact fin 2 4294967295 _ (.inr (.inl rfl)) rfl
    · rfl
  · rw [show Tab.wordsOf 5 = 2 from rfl, w2, s2, if_pos (by decide), show sgn 5 = true from rfl]
    cases b
    · simp only [if_true, Bool.false_eq_true, if_false, Bool.not_true, Bool.and_false]
      exact fin 2 (4294967295 / 2) _ (.inr (.inl rfl)) rfl
    · simp only [if_true, Bool.false_eq_true, if_false, Bool.not_true, Bool.false_and]
      exact fin 2 (4294967295 / 2 + 1) _ (.inr (.inl rfl)) rfl
  · rw [show Tab.wordsOf 6 = 2 from rfl, w2, s2, if_pos (by decide), show sgn 6 = false from rfl]
    cases b
    · simp only [Bool.false_eq_true, if_false, Bool.not_false, Bool.and_false]
      exact fin 2 4294967295 _ (.inr (.inl rfl)) rfl
    · rfl
  · rw [show Tab.wordsOf 7 = 2 from rfl, w2, s2, if_pos (by decide), show sgn 7 = true from rfl]
    cases b
    · simp only [if_true, Bool.false_eq_true, if_false, Bool.not_true, Bool.and_false]
      exact fin 2 (4294967295 / 2) _ (.inr (.inl rfl)) rfl
    · simp only [if_true, Bool.false_eq_true, if_false, Bool.not_true, Bool.false_and]
      exact fin 2 (4294967295 / 2 + 1) _ (.inr (.inl rfl)) rfl
  · rw [show Tab.wordsOf 9 = 4 from rfl, w4, s4, if_pos (by decide), show sgn 9 = false from rfl]
    cases b
    · simp only [Bool.false_eq_true, if_false, Bool.not_false, Bool.and_false]
      exact fin 4 18446744073709551615 _ (.inr (.inr ⟨rfl, rfl⟩)) rfl
    · rfl
  · rw [show Tab.wordsOf 10 = 4 from rfl, w4, s4, if_pos (by decide), show sgn 10 = true from rfl]
    cases b
    · simp only [if_true, Bool.false_eq_true, if_false, Bool.not_true, Bool.and_false]
      exact fin 4 (18446744073709551615 / 2) _ (.inr (.inr ⟨rfl, rfl⟩)) rfl
    · simp only [if_true, Bool.false_eq_true, if_false, Bool.not_true, Bool.false_and]
      exact fin 4 (18446744073709551615 / 2 + 1) _ (.inr (.inr ⟨rfl, rfl⟩)) rfl
end Go.Proofs.YtmkekhjbbapngaaGreatDoor.Q
