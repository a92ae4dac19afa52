/- PFull -/
import Derived.Test.YtmkekhjbbapngaaGreatDoorSValueReadsPInv
import Derived.Test.YtmkekhjbbapngaaGreatDoorSValueReadsQx28
set_option linter.all false
namespace Go.Proofs.YtmkekhjbbapngaaGreatDoor.Val
open Go.RowKit Go.Proofs.YtmkekhjbbapngaaGreatDoor.Q YtmkekhjbbapngaaGreatDoorW.PrintWords
def dg (c : UInt8) : Int := ((c.toNat - 48 : Nat) : Int)
def isDg (c : UInt8) : Prop := 48 ≤ c.toNat ∧ c.toNat ≤ 57
theorem dg_ok {c : UInt8} (h : isDg c) : 0 ≤ dg c ∧ dg c ≤ 9 := by unfold dg; unfold isDg at h; omega
theorem dg_ch {c : UInt8} (h : isDg c) : UInt8.ofNat (48 + (dg c).toNat) = c := by
 unfold dg
 unfold isDg at h
 rw [← UInt8.toNat_inj, UInt8.toNat_ofNat', Int.toNat_natCast]
 omega
theorem fix_of : ∀ r : List UInt8, (∀ c ∈ r, isDg c) → r.reverse = fixD r.length (valD (r.map dg))
 | [], _ => rfl
 | c :: r, h => by
  have ih := fix_of r (fun x hx => h x (List.mem_cons_of_mem _ hx))
  have hc := h c (List.mem_cons_self ..)
  have h9 := dg_ok hc
  rw [List.reverse_cons, List.length_cons, List.map_cons, valD, fixD, ih]
  have e1 : ((dg c).toNat + 10 * valD (r.map dg)) / 10 = valD (r.map dg) := by omega
  have e2 : ((dg c).toNat + 10 * valD (r.map dg)) % 10 = (dg c).toNat := by omega
  rw [e1, e2, dg_ch hc]
theorem val_lt (r : List UInt8) (h : ∀ c ∈ r, isDg c) : valD (r.map dg) < 10 ^ r.length := by
 have := valD_lt (r.map dg) (fun x hx => by
  obtain ⟨c, hc, rfl⟩ := List.mem_map.1 hx
  exact dg_ok (h c hc))
 rwa [List.length_map] at this
theorem nd_le (x n : Nat) (h1 : 1 ≤ n) (h : x < 10 ^ n) : Lib.nDigits x ≤ n := by
 apply Decidable.byContradiction
 intro hn
 have h2 := nDig_ge x (by omega)
 have h3 : 10 ^ n ≤ 10 ^ (Lib.nDigits x - 1) := Nat.pow_le_pow_right (by decide) (by omega)
 omega
theorem nd_ge (x n : Nat) (h : 10 ^ n ≤ x) : n + 1 ≤ Lib.nDigits x := by
 apply Decidable.byContradiction
 intro hn
 have h2 := Lib.lt_pow_nDigits x
 have h3 : 10 ^ Lib.nDigits x ≤ 10 ^ n := Nat.pow_le_pow_right (by decide) (by omega)
 omega
theorem nd_pos (x : Nat) : 1 ≤ Lib.nDigits x := by rw [Lib.nDigits]; split <;> omega
theorem inv_point (t : List UInt8) (s : Int) (hs : 0 ≤ s) (h : (plainP t s).2.2 = true) : ∃ m x A B, t = pointL m x s.toNat ∧ (m = true → x ≠ 0) ∧ t = (if m then [45] else []) ++ (A ++ (if s > 0 then 46 :: B else [])) ∧ (∀ c ∈ A ++ B, isDg c) ∧ B.length = s.toNat ∧ x = valD ((A ++ B).reverse.map dg) := by
 obtain ⟨m, A, B, ht, hb, hz, -, hB, hB0⟩ := plain_inv t s h
 obtain ⟨hA, hd, hh⟩ := bad_no A B hb
 have hBl : B.length = s.toNat := by
  by_cases h0 : s > 0
  ·
   have := hB h0; omega
  ·
   rw [hB0 h0]; simp; omega
 have hd' : ∀ c ∈ A ++ B, isDg c := hd
 have hdr : ∀ c ∈ (A ++ B).reverse, isDg c := fun c hc => hd' c (List.mem_reverse.1 hc)
 have hf := fix_of (A ++ B).reverse hdr
 have hv := val_lt (A ++ B).reverse hdr
 rw [List.reverse_reverse, List.length_reverse] at hf
 rw [List.length_reverse] at hv
 have hAl : 1 ≤ A.length := List.length_pos_iff.2 hA
 have hl : (A ++ B).length = A.length + s.toNat := by rw [List.length_append, hBl]
 refine ⟨m, valD ((A ++ B).reverse.map dg), A, B, ?_, ?_, ht, hd', hBl, rfl⟩
 ·
  generalize valD ((A ++ B).reverse.map dg) = x at *
  have hle := nd_le x _ (by omega) hv
  have hw : wid x s.toNat = (A ++ B).length := by
   unfold wid
   by_cases h1 : A.length = 1
   ·
    rw [Nat.max_eq_right (by omega)]; omega
   ·
    have hge : 10 ^ ((A ++ B).length - 1) ≤ x := by
     apply Decidable.byContradiction
     intro hn
     have := fixD_zero ((A ++ B).length - 1) x (by omega)
     rw [show (A ++ B).length - 1 + 1 = (A ++ B).length by omega, ← hf] at this
     refine hh (by omega) ?_
     cases A with
     | nil => exact absurd rfl hA
     | cons c A =>
      rw [List.cons_append] at this
      rw [(List.cons.inj this).1]
      rfl
    have := nd_ge x _ hge
    rw [Nat.max_eq_left (by omega)]; omega
  rw [ht]
  unfold pointL
  congr 1
  by_cases h0 : s > 0
  ·
   rw [if_pos h0, if_neg (by omega), pad_fix, hw, ← hf]
   unfold ptL
   rw [hl, show A.length + s.toNat - s.toNat = A.length by omega, List.take_left, List.drop_left]
  ·
   have hs0 : s = 0 := by omega
   subst hs0
   have hBn := hB0 h0
   subst hBn
   rw [if_neg h0, if_pos (by decide), dec_fix]
   rw [List.append_nil] at hf hw ⊢
   unfold wid at hw
   have := nd_pos x
   rw [show Lib.nDigits x = A.length by rw [← hw]; rw [Nat.max_eq_left (by simpa using this)]]
   exact hf
 ·
  intro hm hx
  rw [hx] at hf
  subst hm
  rw [Bool.true_and] at hz
  rw [hf] at hz
  obtain ⟨k, -, -, e, h0⟩ := drop_zero (A ++ B).length 0 (Nat.pow_pos (by decide))
  rw [e, h0 rfl] at hz
  cases hz
theorem parse_val (M : Nat) : ∀ (l : List UInt8) (acc v : Nat), Lib.parseUintM M acc l = .ok v → v = l.foldl (fun a c => a * 10 + (c.toNat - 48)) acc
 | [], acc, v, h => by
  rw [Lib.parseUintM] at h
  cases h
  rfl
 | c :: r, acc, v, h => by
  rw [Lib.parseUintM] at h
  split at h
  ·
   split at h
   ·
    cases h
   ·
    split at h
    ·
     cases h
    ·
     exact parse_val M r _ v h
  ·
   cases h
theorem fold_fix : ∀ n u acc : Nat, u < 10 ^ n → (fixD n u).foldl (fun a c => a * 10 + (c.toNat - 48)) acc = acc * 10 ^ n + u
 | 0, u, acc, h => by simp at h; subst h; simp [fixD]
 | n + 1, u, acc, h => by
  rw [Nat.pow_succ] at h
  rw [fixD, List.foldl_append, fold_fix n (u / 10) acc (by omega)]
  have e : (UInt8.ofNat (48 + u % 10)).toNat = 48 + u % 10 := by rw [UInt8.toNat_ofNat']; omega
  show (acc * 10 ^ n + u / 10) * 10 + ((UInt8.ofNat (48 + u % 10)).toNat - 48) = _
  rw [e, Nat.add_mul, Nat.pow_succ, Nat.mul_assoc]
  omega
theorem parse_only (k x v : Nat) (hx : x < 10 ^ k) (h : Lib.parseUintB 64 (48 :: fixD k x) = .ok v) : v = x := by
 unfold Lib.parseUintB at h
 rw [if_neg (by simp)] at h
 have := parse_val _ _ _ _ h
 rw [this]
 show (fixD k x).foldl (fun a c => a * 10 + (c.toNat - 48)) ((0 : Nat) * 10 + ((48 : UInt8).toNat - 48)) = x
 rw [fold_fix k x _ hx]
 have e : (48 : UInt8).toNat = 48 := rfl
 rw [e]
 simp
theorem numX_dig (n v P : Nat) (hn : (n = 1 ∧ P = 65536) ∨ (n = 2 ∧ P = 4294967296) ∨ (n = 4 ∧ P = 18446744073709551616)) : numX (digW (n : Int) v) = v % P := by
 rcases hn with ⟨rfl, rfl⟩ | ⟨rfl, rfl⟩ | ⟨rfl, rfl⟩
 ·
  show 0 * 65536 + ((v % 65536 : Nat) : Int).toNat = _
  rw [Int.toNat_natCast]; omega
 ·
  show (0 * 65536 + ((v / 65536 % 65536 : Nat) : Int).toNat) * 65536 + ((v % 65536 : Nat) : Int).toNat = _
  rw [Int.toNat_natCast, Int.toNat_natCast]; omega
 ·
  show (((0 * 65536 + ((v / 65536 / 65536 / 65536 % 65536 : Nat) : Int).toNat) * 65536 + ((v / 65536 / 65536 % 65536 : Nat) : Int).toNat) * 65536 + ((v / 65536 % 65536 : Nat) : Int).toNat) * 65536 + ((v % 65536 : Nat) : Int).toNat = _
  rw [Int.toNat_natCast, Int.toNat_natCast, Int.toNat_natCast, Int.toNat_natCast]; omega
theorem digW_ok (n : Int) (v : Nat) : ∀ x ∈ digW n v, 0 ≤ x ∧ x ≤ 65535 := by
 intro x hx
 unfold digW at hx
 split at hx
 ·
  rw [List.mem_singleton] at hx; omega
 ·
  split at hx
  ·
   simp only [List.mem_cons, List.not_mem_nil, or_false] at hx
   rcases hx with rfl | rfl <;> omega
  ·
   simp only [List.mem_cons, List.not_mem_nil, or_false] at hx
   rcases hx with rfl | rfl | rfl | rfl <;> omega
theorem digW_len (n : Nat) (v : Nat) (hn : n = 1 ∨ n = 2 ∨ n = 4) : (digW (n : Int) v).length = n := by
 rcases hn with rfl | rfl | rfl <;> rfl
theorem words_full {n : ByteArray} {u f a kd s d : Int} {wr : Bool} (hr : rowB n u f a kd s d wr = true) (h1 : kd ≠ 1) (h8 : kd ≠ 8) (b : Bool) (x : Nat) (hx : x < 18446744073709551616) (hb : b = true → x ≠ 0) (hw : (wordsN kd b x).2 = true) :
  mayB n u f a kd s d wr (wordsN kd b x).1 = true ∧ numOf kd (wordsN kd b x).1 = (b, x) := by
 obtain ⟨⟨k1, k10⟩, -⟩ := row_facts hr
 obtain ⟨m, P, hn, hwk⟩ : ∃ m P : Nat, ((m = 1 ∧ P = 65536) ∨ (m = 2 ∧ P = 4294967296) ∨ (m = 4 ∧ P = 18446744073709551616)) ∧ Tab.wordsOf kd = (m : Int) := by
  rcases (by omega : (kd = 2 ∨ kd = 3) ∨ (kd = 4 ∨ kd = 5 ∨ kd = 6 ∨ kd = 7) ∨ (kd = 9 ∨ kd = 10)) with hk | hk | hk
  ·
   exact ⟨1, 65536, .inl ⟨rfl, rfl⟩, by rcases hk with rfl | rfl <;> rfl⟩
  ·
   exact ⟨2, 4294967296, .inr (.inl ⟨rfl, rfl⟩), by rcases hk with rfl | rfl | rfl | rfl <;> rfl⟩
  ·
   exact ⟨4, 18446744073709551616, .inr (.inr ⟨rfl, rfl⟩), by rcases hk with rfl | rfl <;> rfl⟩
 have hm124 : m = 1 ∨ m = 2 ∨ m = 4 := by omega
 have hP : (2 : Nat) ^ (16 * m) = P := by rcases hn with ⟨rfl, rfl⟩ | ⟨rfl, rfl⟩ | ⟨rfl, rfl⟩ <;> decide
 have hH : (2 : Nat) ^ (16 * m - 1) = P / 2 := by rcases hn with ⟨rfl, rfl⟩ | ⟨rfl, rfl⟩ | ⟨rfl, rfl⟩ <;> decide
 obtain ⟨v, hv⟩ : ∃ v, v = (if b then (18446744073709551616 - x) % 18446744073709551616 else x) := ⟨_, rfl⟩
 have hl : ∀ l, l = ordW kd (digW (m : Int) v) → mayB n u f a kd s d wr l = true ∧ ordW kd l = digW (m : Int) v ∧ l.length = m := by
  intro l hl
  have hlen : l.length = m := by rw [hl, ordW_len, digW_len m v hm124]
  refine ⟨?_, by rw [hl, ord_ord], hlen⟩
  unfold mayB nOf mostOf
  rw [hr, if_neg h1, if_neg h1, hwk, hlen, decide_eq_true rfl, Bool.true_and, Bool.true_and]
  have : l.any (bad 65535) = false := by
   rw [List.any_eq_false]
   intro y hy
   rw [hl, ordW_mem] at hy
   have := digW_ok (m : Int) v y hy
   unfold bad
   simp
   omega
  rw [this]; rfl
 unfold wordsN at hw ⊢
 rw [hwk] at hw ⊢
 by_cases c1 : (!sgn kd && b) = true
 ·
  rw [if_pos c1] at hw; cases hw
 rw [if_neg c1] at hw ⊢
 by_cases c2 : topN kd b < x
 ·
  rw [if_pos c2] at hw; cases hw
 rw [if_neg c2]
 rw [← hv]
 show mayB n u f a kd s d wr (ordW kd (digW (m : Int) v)) = true ∧ numOf kd (ordW kd (digW (m : Int) v)) = (b, x)
 obtain ⟨g1, g2, g3⟩ := hl _ rfl
 refine ⟨g1, ?_⟩
 unfold numOf
 rw [g2, g3, numX_dig m v P hn, hP, hH]
 unfold topN at c2
 rw [hwk, Int.toNat_natCast, hP] at c2
 have hdiv : 18446744073709551616 % P = 0 ∧ P % 2 = 0 ∧ 2 ≤ P ∧ P ≤ 18446744073709551616 := by rcases hn with ⟨-, rfl⟩ | ⟨-, rfl⟩ | ⟨-, rfl⟩ <;> decide
 cases b
 ·
  simp only [Bool.false_eq_true, if_false] at hv c2
  subst hv
  cases hsg : sgn kd
  ·
   rw [hsg] at c2
   simp only [Bool.false_eq_true, if_false] at c2
   rw [Bool.false_and, if_neg (by decide), Nat.mod_eq_of_lt (by omega)]
  ·
   rw [hsg] at c2
   simp only [if_true] at c2
   rw [Nat.mod_eq_of_lt (by omega), decide_eq_false (by omega), Bool.and_false, if_neg (by decide)]
 ·
  have hsg : sgn kd = true := by
   cases h : sgn kd
   ·
    rw [h] at c1; exact absurd rfl c1
   ·
    rfl
  rw [hsg] at c2 ⊢
  simp only [if_true] at hv c2
  have hx0 := hb rfl
  have hvP : v % P = P - x := by
   rw [Nat.mod_eq_of_lt (by omega)] at hv
   rw [hv]
   rcases hn with ⟨-, rfl⟩ | ⟨-, rfl⟩ | ⟨-, rfl⟩ <;> omega
  rw [hvP, decide_eq_true (by omega), Bool.true_and, if_pos rfl]
  congr 1
  omega
theorem parse_lt (M : Nat) : ∀ (l : List UInt8) (acc v : Nat), acc ≤ M → Lib.parseUintM M acc l = .ok v → v ≤ M
 | [], acc, v, ha, h => by
  rw [Lib.parseUintM] at h
  cases h
  exact ha
 | c :: r, acc, v, ha, h => by
  rw [Lib.parseUintM] at h
  split at h
  ·
   split at h
   ·
    cases h
   ·
    split at h
    ·
     cases h
    ·
     rename_i h1
     exact parse_lt M r _ v (by omega) h
  ·
   cases h
theorem words_lt64 {l : List UInt8} {v : Nat} (h : Lib.parseUintB 64 l = .ok v) : v < 18446744073709551616 := by
 unfold Lib.parseUintB at h
 split at h
 ·
  cases h
 ·
  have := parse_lt _ _ _ _ (Nat.zero_le _) h
  have e : (2 : Nat) ^ 64 - 1 = 18446744073709551615 := by decide
  omega
theorem words_why {n : ByteArray} {u f a kd s d : Int} {wr : Bool} {t : ByteArray} (hr : rowB n u f a kd s d wr = true) (hE : wordsE n u f a kd s d wr t ≠ 0) :
  wordsE n u f a kd s d wr t = if kd ≠ 8 ∧ (plainP t.data.toList s).2.2 = true then 220 else 4 := by
 by_cases h8 : kd = 8
 ·
  rw [if_neg (fun h => h.1 h8)]
  unfold wordsE wordsRE at hE ⊢
  rw [hr] at hE ⊢
  simp only [if_true, if_pos h8] at hE ⊢
  cases hx : hexPB t.data.toList with
  | ok v =>
   rw [hx] at hE
   simp only at hE ⊢
   rcases fin_or n u f a kd s d wr [((v / 65536 : Nat) : Int), ((v % 65536 : Nat) : Int)] t with ⟨-, -, -, h4⟩ | ⟨-, h4⟩
   ·
    rw [h4] at hE; exact absurd rfl hE
   ·
    exact h4
  | range => rfl
  | _ => rfl
 ·
  cases hp : (plainP t.data.toList s).2.2
  ·
   rw [if_neg (fun h => by cases h.2)]
   exact words_plain n u f a kd s d wr t hr h8 hp
  ·
   rw [if_pos ⟨h8, rfl⟩]
   obtain ⟨-, hs, -⟩ := row_facts hr
   obtain ⟨m, x, -, -, ht, hm, -⟩ := inv_point t.data.toList s hs.1 hp
   obtain ⟨k, hk, hb⟩ := plain_back m x s.toNat hm
   rw [Int.toNat_of_nonneg hs.1, ← ht] at hb
   unfold wordsE wordsRE at hE ⊢
   rw [hr, hb] at hE ⊢
   simp only [if_true, if_neg h8] at hE ⊢
   cases hd : Lib.parseUintB 64 (48 :: fixD k x) with
   | ok v =>
    have hvx := parse_only k x v hk hd
    subst hvx
    rw [hd] at hE
    simp only at hE ⊢
    by_cases h1 : kd = 1
    ·
     rw [if_pos h1] at hE ⊢
     by_cases hbb : (m || decide (1 < v)) = true
     ·
      rw [if_pos hbb]
     ·
      rw [if_neg hbb] at hE; exact absurd rfl hE
    ·
     rw [if_neg h1] at hE ⊢
     cases hw : (wordsN kd m v).2
     ·
      rfl
     ·
      rw [hw] at hE
      simp only [if_true] at hE
      exfalso
      have hlt : v < 18446744073709551616 := by
       have := words_lt64 hd
       exact this
      obtain ⟨q1, q2⟩ := words_full hr h1 h8 m v hlt hm hw
      apply hE
      unfold finE
      rw [q1, Bool.true_and]
      have : (textR n u f a kd s d wr (wordsN kd m v).1).toList = t.toList := by
       unfold textR textL
       rw [q1, if_pos rfl, if_neg h1, if_neg h8, q2, Lib.toList_data, Lib.toList_data, ht]
      rw [decide_eq_true this]
      rfl
   | range => rfl
   | _ => rfl
end Go.Proofs.YtmkekhjbbapngaaGreatDoor.Val