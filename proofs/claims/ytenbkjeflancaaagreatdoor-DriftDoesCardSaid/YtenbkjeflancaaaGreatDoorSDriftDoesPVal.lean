/- What the proof of DriftDoes leans on: PVal. -/
import Derived.Test.YtenbkjeflancaaaGreatDoorSDriftDoesPTab
import Derived.Test.YtenbkjeflancaaaGreatDoorSDriftDoesQx10
import Derived.Laws.Bits64b
set_option linter.unusedVariables false
set_option linter.unusedSimpArgs false
namespace Go.Proofs.YtenbkjeflancaaaGreatDoor.Q
open Go.RowKit Go.Proofs.YtenbkjeflancaaaGreatDoorW.PrintWords
def sgn (kd : Int) : Bool := kd == 3 || (kd == 5 || (kd == 7 || kd == 10))
def trn (kd : Int) : Bool := kd == 6 || kd == 7
def numX (l : List Int) : Nat := l.foldl (fun x w => x * 65536 + w.toNat) 0
def ordW (kd : Int) (l : List Int) : List Int := if trn kd then l.reverse else l
def numOf (kd : Int) (l : List Int) : Bool × Nat :=
  if sgn kd && decide (2 ^ (16 * l.length - 1) ≤ numX (ordW kd l)) then (true, 2 ^ (16 * l.length) - numX (ordW kd l)) else (false, numX (ordW kd l))
theorem sign_eq (kd : Int) : value_sign.f kd = some (sgn kd) := by
  unfold value_sign.f sgn
  by_cases h3 : kd = 3
  · subst h3; rfl
  by_cases h5 : kd = 5
  · subst h5; rfl
  by_cases h7 : kd = 7
  · subst h7; rfl
  rw [if_neg h3, if_neg h5, if_neg h7, beq_eq_false_iff_ne.2 h3, beq_eq_false_iff_ne.2 h5, beq_eq_false_iff_ne.2 h7]; rfl
theorem turned_eq (kd : Int) : value_turned.f kd = some (trn kd) := by
  unfold value_turned.f trn
  by_cases h6 : kd = 6
  · subst h6; rfl
  rw [if_neg h6, beq_eq_false_iff_ne.2 h6]; rfl
theorem or_add (x w : Nat) (hx : x < 281474976710656) (hw : w < 65536) : Go.bits .or .u64 (IntKind.u64.wrap ((x : Int) * 65536)) (IntKind.u64.wrap (w : Int)) = ((x * 65536 + w : Nat) : Int) := by
  have e1 : IntKind.u64.wrap ((x : Int) * 65536) = ((x * 65536 : Nat) : Int) := by rw [IntKind.wrap_u64]; omega
  have e2 : IntKind.u64.wrap (w : Int) = (w : Int) := by rw [IntKind.wrap_u64]; omega
  rw [e1, e2, bits_or_u64_nat _ _ (by omega) (by omega)]
  congr 1
  have := Nat.shiftLeft_add_eq_or_of_lt (i := 16) (b := w) (by omega) x
  rw [Nat.shiftLeft_eq] at this
  exact this.symm
theorem of_step (k : Nat) (x5 L : List Int) (acc i : Nat) (n : ByteArray) (u f a kd s d : Int) (wr : Bool) (hacc : acc < 281474976710656) (hi : i < L.length) (hl : L.length ≤ 100) (h0 : 0 ≤ rd L (i : Int)) (h1 : rd L (i : Int) ≤ 65535) :
    value_of.l0 (k + 1) x5 (acc : Int) L (L.length : Int) (i : Int) n u f a kd s d wr = value_of.l0 k x5 ((acc * 65536 + (rd L (i : Int)).toNat : Nat) : Int) L (L.length : Int) ((i + 1 : Nat) : Int) n u f a kd s d wr := by
  have hw : wrap64 ((i : Int) + 1) = ((i + 1 : Nat) : Int) := by unfold wrap64; omega
  have ho := or_add acc (rd L (i : Int)).toNat hacc (by omega)
  rw [Int.toNat_of_nonneg h0] at ho
  show (if (i : Int) < (L.length : Int) then _ else _) = _
  rw [if_pos (by omega), if_pos (by omega), if_pos (by omega), ho, hw]
theorem of_end (k : Nat) (x5 L : List Int) (acc : Int) (n : ByteArray) (u f a kd s d : Int) (wr : Bool) :
    value_of.l0 (k + 1) x5 acc L (L.length : Int) (L.length : Int) n u f a kd s d wr = ((value_sign.f kd).bind fun t151 => (if t151 = true then (if 0 ≤ (wrap64 ((wrap64 (16 * (x5.length : Int))) - 1)) then (if (shr .u64 acc (wrap64 ((wrap64 (16 * (x5.length : Int))) - 1))) = 1 then (if 0 ≤ (wrap64 (64 - (wrap64 (16 * (x5.length : Int))))) then (some (true, shr .u64 (shl .u64 (IntKind.u64.wrap (-acc)) (wrap64 (64 - (wrap64 (16 * (x5.length : Int)))))) (wrap64 (64 - (wrap64 (16 * (x5.length : Int))))))) else (none)) else (some (false, acc))) else (none)) else (some (false, acc)))) := by
  show (if (L.length : Int) < (L.length : Int) then _ else _) = _
  rw [if_neg (by omega)]
theorem of_tail1 (x5 : List Int) (hl : x5.length = 1) (x : Nat) (hx : x < 65536) (kd : Int) : ((value_sign.f kd).bind fun t151 => (if t151 = true then (if 0 ≤ (wrap64 ((wrap64 (16 * (x5.length : Int))) - 1)) then (if (shr .u64 (x : Int) (wrap64 ((wrap64 (16 * (x5.length : Int))) - 1))) = 1 then (if 0 ≤ (wrap64 (64 - (wrap64 (16 * (x5.length : Int))))) then (some (true, shr .u64 (shl .u64 (IntKind.u64.wrap (-(x : Int))) (wrap64 (64 - (wrap64 (16 * (x5.length : Int)))))) (wrap64 (64 - (wrap64 (16 * (x5.length : Int))))))) else (none)) else (some (false, (x : Int)))) else (none)) else (some (false, (x : Int))))) =
    some (if sgn kd && decide (32768 ≤ x) then (true, ((65536 - x : Nat) : Int)) else (false, (x : Int))) := by
  have e1 : wrap64 (16 * (x5.length : Int)) = 16 := by rw [hl]; unfold wrap64; decide
  have e2 : wrap64 (16 - 1) = 15 := by unfold wrap64; decide
  have e3 : wrap64 (64 - 16) = 48 := by unfold wrap64; decide
  rw [sign_eq, e1, e2, e3]
  simp only [Option.bind_some]
  have s1 : shr .u64 (x : Int) 15 = (x : Int) / 32768 := rfl
  rw [s1]
  cases sgn kd
  · simp
  · rw [if_pos rfl, if_pos (by omega)]
    by_cases h : 32768 ≤ x
    · rw [if_pos (by omega), if_pos (by omega), decide_eq_true h, Bool.true_and, if_pos rfl]
      have s2 : shr .u64 (shl .u64 (IntKind.u64.wrap (-(x : Int))) 48) 48 = (IntKind.u64.wrap (IntKind.u64.wrap (-(x : Int)) * 281474976710656)) / 281474976710656 := rfl
      rw [s2, IntKind.wrap_u64, IntKind.wrap_u64]
      congr 2
      omega
    · rw [if_neg (by omega), decide_eq_false h, Bool.true_and]; rfl
theorem of_tail2 (x5 : List Int) (hl : x5.length = 2) (x : Nat) (hx : x < 4294967296) (kd : Int) : ((value_sign.f kd).bind fun t151 => (if t151 = true then (if 0 ≤ (wrap64 ((wrap64 (16 * (x5.length : Int))) - 1)) then (if (shr .u64 (x : Int) (wrap64 ((wrap64 (16 * (x5.length : Int))) - 1))) = 1 then (if 0 ≤ (wrap64 (64 - (wrap64 (16 * (x5.length : Int))))) then (some (true, shr .u64 (shl .u64 (IntKind.u64.wrap (-(x : Int))) (wrap64 (64 - (wrap64 (16 * (x5.length : Int)))))) (wrap64 (64 - (wrap64 (16 * (x5.length : Int))))))) else (none)) else (some (false, (x : Int)))) else (none)) else (some (false, (x : Int))))) =
    some (if sgn kd && decide (2147483648 ≤ x) then (true, ((4294967296 - x : Nat) : Int)) else (false, (x : Int))) := by
  have e1 : wrap64 (16 * (x5.length : Int)) = 32 := by rw [hl]; unfold wrap64; decide
  have e2 : wrap64 (32 - 1) = 31 := by unfold wrap64; decide
  have e3 : wrap64 (64 - 32) = 32 := by unfold wrap64; decide
  rw [sign_eq, e1, e2, e3]
  simp only [Option.bind_some]
  have s1 : shr .u64 (x : Int) 31 = (x : Int) / 2147483648 := rfl
  rw [s1]
  cases sgn kd
  · simp
  · rw [if_pos rfl, if_pos (by omega)]
    by_cases h : 2147483648 ≤ x
    · rw [if_pos (by omega), if_pos (by omega), decide_eq_true h, Bool.true_and, if_pos rfl]
      have s2 : shr .u64 (shl .u64 (IntKind.u64.wrap (-(x : Int))) 32) 32 = (IntKind.u64.wrap (IntKind.u64.wrap (-(x : Int)) * 4294967296)) / 4294967296 := rfl
      rw [s2, IntKind.wrap_u64, IntKind.wrap_u64]
      congr 2
      omega
    · rw [if_neg (by omega), decide_eq_false h, Bool.true_and]; rfl
theorem of_tail4 (x5 : List Int) (hl : x5.length = 4) (x : Nat) (hx : x < 18446744073709551616) (kd : Int) : ((value_sign.f kd).bind fun t151 => (if t151 = true then (if 0 ≤ (wrap64 ((wrap64 (16 * (x5.length : Int))) - 1)) then (if (shr .u64 (x : Int) (wrap64 ((wrap64 (16 * (x5.length : Int))) - 1))) = 1 then (if 0 ≤ (wrap64 (64 - (wrap64 (16 * (x5.length : Int))))) then (some (true, shr .u64 (shl .u64 (IntKind.u64.wrap (-(x : Int))) (wrap64 (64 - (wrap64 (16 * (x5.length : Int)))))) (wrap64 (64 - (wrap64 (16 * (x5.length : Int))))))) else (none)) else (some (false, (x : Int)))) else (none)) else (some (false, (x : Int))))) =
    some (if sgn kd && decide (9223372036854775808 ≤ x) then (true, ((18446744073709551616 - x : Nat) : Int)) else (false, (x : Int))) := by
  have e1 : wrap64 (16 * (x5.length : Int)) = 64 := by rw [hl]; unfold wrap64; decide
  have e2 : wrap64 (64 - 1) = 63 := by unfold wrap64; decide
  have e3 : wrap64 (64 - 64) = 0 := by unfold wrap64; decide
  rw [sign_eq, e1, e2, e3]
  simp only [Option.bind_some]
  have s1 : shr .u64 (x : Int) 63 = (x : Int) / 9223372036854775808 := rfl
  rw [s1]
  cases sgn kd
  · simp
  · rw [if_pos rfl, if_pos (by omega)]
    by_cases h : 9223372036854775808 ≤ x
    · rw [if_pos (by omega), if_pos (by omega), decide_eq_true h, Bool.true_and, if_pos rfl]
      have s2 : shr .u64 (shl .u64 (IntKind.u64.wrap (-(x : Int))) 0) 0 = (IntKind.u64.wrap (IntKind.u64.wrap (-(x : Int)) * 1)) / 1 := rfl
      rw [s2, IntKind.wrap_u64, IntKind.wrap_u64]
      congr 2
      omega
    · rw [if_neg (by omega), decide_eq_false h, Bool.true_and]; rfl
theorem rev2 (k : Nat) (a b : Int) : slices_Reverse_int_int.f (k + 2) [a, b] = some [b, a] := by
  have w1 : wrap64 (([a, b] : List Int).length - 1 : Int) = 1 := by simp [wrap64]
  have w2 : wrap64 ((0 : Int) + 1) = 1 := by simp [wrap64]
  have w3 : wrap64 ((1 : Int) - 1) = 0 := by simp [wrap64]
  unfold slices_Reverse_int_int.f
  rw [w1]
  show (if (0 : Int) < 1 then _ else _) = _
  rw [if_pos (by decide), if_pos (by decide), if_pos (by simp), if_pos (by decide), if_pos (by simp), w2, w3]
  show (if (1 : Int) < 0 then _ else some _) = _
  rw [if_neg (by decide)]
  rfl
theorem numOf_of (kd : Int) (l : List Int) (X half full : Nat) (hX : numX (ordW kd l) = X) (hh : 2 ^ (16 * l.length - 1) = half) (hf : 2 ^ (16 * l.length) = full) :
    some (if (sgn kd && decide (half ≤ X)) = true then (true, ((full - X : Nat) : Int)) else (false, (X : Int))) = some ((numOf kd l).1, ((numOf kd l).2 : Int)) := by
  unfold numOf
  rw [hX, hh, hf]
  split <;> rfl
theorem of_eq1 (k : Nat) (x : Int) (n : ByteArray) (u f a kd s d : Int) (wr : Bool) (h0 : 0 ≤ x) (h1 : x ≤ 65535) (ht : trn kd = false) :
    value_of.f (k + 10) n u f a kd s d wr [x] = some ((numOf kd [x]).1, ((numOf kd [x]).2 : Int)) := by
  unfold value_of.f slices_Clone_int_int.f
  rw [if_pos (by simp)]
  simp only [Option.bind_some, turned_eq, ht, Bool.false_eq_true, if_false]
  show value_of.l0 (k + 9) [x] ((0 : Nat) : Int) [x] (([x] : List Int).length : Int) ((0 : Nat) : Int) n u f a kd s d wr = _
  rw [of_step (k + 8) [x] [x] 0 0 n u f a kd s d wr (by omega) (by simp) (by simp) h0 h1]
  rw [show ((0 + 1 : Nat) : Int) = (([x] : List Int).length : Int) from rfl]
  rw [of_end (k + 7), show rd [x] ((0 : Nat) : Int) = x from rfl, of_tail1 [x] rfl _ (by omega)]
  have e : numX (ordW kd [x]) = 0 * 65536 + x.toNat := by unfold ordW; rw [ht]; rfl
  exact numOf_of kd [x] _ _ _ e (by show (2 : Nat) ^ (16 * 1 - 1) = 32768; decide) (by show (2 : Nat) ^ (16 * 1) = 65536; decide)
theorem of_eq2 (k : Nat) (x y : Int) (n : ByteArray) (u f a kd s d : Int) (wr : Bool) (hx0 : 0 ≤ x) (hx1 : x ≤ 65535) (hy0 : 0 ≤ y) (hy1 : y ≤ 65535) :
    value_of.f (k + 10) n u f a kd s d wr [x, y] = some ((numOf kd [x, y]).1, ((numOf kd [x, y]).2 : Int)) := by
  have main : ∀ (p q : Int), 0 ≤ p → p ≤ 65535 → 0 ≤ q → q ≤ 65535 → value_of.j0 (k + 10) [p, q] n u f a kd s d wr = some (if sgn kd && decide (2147483648 ≤ p.toNat * 65536 + q.toNat) then (true, ((4294967296 - (p.toNat * 65536 + q.toNat) : Nat) : Int)) else (false, ((p.toNat * 65536 + q.toNat : Nat) : Int))) := by
    intro p q p0 p1 q0 q1
    show value_of.l0 (k + 9) [p, q] ((0 : Nat) : Int) [p, q] (([p, q] : List Int).length : Int) ((0 : Nat) : Int) n u f a kd s d wr = _
    rw [of_step (k + 8) [p, q] [p, q] 0 0 n u f a kd s d wr (by omega) (by simp) (by simp) p0 p1]
    have r1 : rd [p, q] ((0 : Nat) : Int) = p := rfl
    have r2 : rd [p, q] ((0 + 1 : Nat) : Int) = q := rfl
    rw [r1, of_step (k + 7) [p, q] [p, q] _ (0 + 1) n u f a kd s d wr (by omega) (by simp) (by simp) q0 q1, r2]
    rw [show ((0 + 1 + 1 : Nat) : Int) = (([p, q] : List Int).length : Int) from rfl]
    rw [of_end (k + 6), of_tail2 [p, q] rfl _ (by omega)]
    simp only [Nat.zero_mul, Nat.zero_add]
  unfold value_of.f slices_Clone_int_int.f
  rw [if_pos (by simp)]
  simp only [Option.bind_some, turned_eq]
  cases ht : trn kd
  · simp only [Bool.false_eq_true, if_false]
    rw [main x y hx0 hx1 hy0 hy1]
    have e : numX (ordW kd [x, y]) = x.toNat * 65536 + y.toNat := by unfold ordW; rw [ht]; show (0 * 65536 + x.toNat) * 65536 + y.toNat = _; omega
    exact numOf_of kd [x, y] _ _ _ e (by show (2 : Nat) ^ (16 * 2 - 1) = 2147483648; decide) (by show (2 : Nat) ^ (16 * 2) = 4294967296; decide)
  · simp only [if_true, rev2 (k + 8), Option.bind_some]
    rw [main y x hy0 hy1 hx0 hx1]
    have e : numX (ordW kd [x, y]) = y.toNat * 65536 + x.toNat := by unfold ordW; rw [ht]; show (0 * 65536 + y.toNat) * 65536 + x.toNat = _; omega
    exact numOf_of kd [x, y] _ _ _ e (by show (2 : Nat) ^ (16 * 2 - 1) = 2147483648; decide) (by show (2 : Nat) ^ (16 * 2) = 4294967296; decide)
theorem of_eq4 (k : Nat) (x y z v : Int) (n : ByteArray) (u f a kd s d : Int) (wr : Bool) (hx0 : 0 ≤ x) (hx1 : x ≤ 65535) (hy0 : 0 ≤ y) (hy1 : y ≤ 65535) (hz0 : 0 ≤ z) (hz1 : z ≤ 65535) (hv0 : 0 ≤ v) (hv1 : v ≤ 65535) (ht : trn kd = false) :
    value_of.f (k + 10) n u f a kd s d wr [x, y, z, v] = some ((numOf kd [x, y, z, v]).1, ((numOf kd [x, y, z, v]).2 : Int)) := by
  unfold value_of.f slices_Clone_int_int.f
  rw [if_pos (by simp)]
  simp only [Option.bind_some, turned_eq, ht, Bool.false_eq_true, if_false]
  show value_of.l0 (k + 9) [x, y, z, v] ((0 : Nat) : Int) [x, y, z, v] (([x, y, z, v] : List Int).length : Int) ((0 : Nat) : Int) n u f a kd s d wr = _
  rw [of_step (k + 8) [x, y, z, v] [x, y, z, v] 0 0 n u f a kd s d wr (by omega) (by simp) (by simp) hx0 hx1]
  have r1 : rd [x, y, z, v] ((0 : Nat) : Int) = x := rfl
  have r2 : rd [x, y, z, v] ((0 + 1 : Nat) : Int) = y := rfl
  have r3 : rd [x, y, z, v] ((0 + 1 + 1 : Nat) : Int) = z := rfl
  have r4 : rd [x, y, z, v] ((0 + 1 + 1 + 1 : Nat) : Int) = v := rfl
  rw [r1, of_step (k + 7) [x, y, z, v] [x, y, z, v] _ (0 + 1) n u f a kd s d wr (by omega) (by simp) (by simp) hy0 hy1, r2]
  rw [of_step (k + 6) [x, y, z, v] [x, y, z, v] _ (0 + 1 + 1) n u f a kd s d wr (by omega) (by simp) (by simp) hz0 hz1, r3]
  rw [of_step (k + 5) [x, y, z, v] [x, y, z, v] _ (0 + 1 + 1 + 1) n u f a kd s d wr (by omega) (by simp) (by simp) hv0 hv1, r4]
  rw [show ((0 + 1 + 1 + 1 + 1 : Nat) : Int) = (([x, y, z, v] : List Int).length : Int) from rfl]
  rw [of_end (k + 4), of_tail4 [x, y, z, v] rfl _ (by omega)]
  have e : numX (ordW kd [x, y, z, v]) = (((0 * 65536 + x.toNat) * 65536 + y.toNat) * 65536 + z.toNat) * 65536 + v.toNat := by unfold ordW; rw [ht]; rfl
  exact numOf_of kd [x, y, z, v] _ _ _ e (by show (2 : Nat) ^ (16 * 4 - 1) = 9223372036854775808; decide) (by show (2 : Nat) ^ (16 * 4) = 18446744073709551616; decide)
end Go.Proofs.YtenbkjeflancaaaGreatDoor.Q
