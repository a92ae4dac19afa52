/- What the proof of ValueBack leans on: PBack2. -/
import Derived.Test.YtmkekhjbbapngaaGreatDoorSValueBackPBack
set_option linter.unusedVariables false
set_option linter.unusedSimpArgs false
namespace Go.Proofs.YtmkekhjbbapngaaGreatDoor.Val
open Go.RowKit Go.Proofs.YtmkekhjbbapngaaGreatDoor.Q Go.Proofs.YtmkekhjbbapngaaGreatDoorW.PrintWords
theorem dig_num (L : List Int) (h : ∀ x ∈ L, 0 ≤ x ∧ x ≤ 65535) (hl : L.length = 1 ∨ L.length = 2 ∨ L.length = 4) : digW (L.length : Int) (numX L) = L := by
  rcases hl with hl | hl | hl
  · obtain ⟨x, rfl⟩ := list1 hl
    have h0 := h x (by simp)
    show [(((0 * 65536 + x.toNat) % 65536 : Nat) : Int)] = [x]
    congr 1
    omega
  · obtain ⟨x, y, rfl⟩ := list2 hl
    have h0 := h x (by simp)
    have h1 := h y (by simp)
    show [(((((0 * 65536 + x.toNat) * 65536 + y.toNat) / 65536) % 65536 : Nat) : Int), ((((0 * 65536 + x.toNat) * 65536 + y.toNat) % 65536 : Nat) : Int)] = [x, y]
    congr 1
    · omega
    · congr 1
      omega
  · obtain ⟨x, y, z, v, rfl⟩ := list4 hl
    have h0 := h x (by simp)
    have h1 := h y (by simp)
    have h2 := h z (by simp)
    have h3 := h v (by simp)
    show [((((((0 * 65536 + x.toNat) * 65536 + y.toNat) * 65536 + z.toNat) * 65536 + v.toNat) / 65536 / 65536 / 65536 % 65536 : Nat) : Int), ((((((0 * 65536 + x.toNat) * 65536 + y.toNat) * 65536 + z.toNat) * 65536 + v.toNat) / 65536 / 65536 % 65536 : Nat) : Int), ((((((0 * 65536 + x.toNat) * 65536 + y.toNat) * 65536 + z.toNat) * 65536 + v.toNat) / 65536 % 65536 : Nat) : Int), ((((((0 * 65536 + x.toNat) * 65536 + y.toNat) * 65536 + z.toNat) * 65536 + v.toNat) % 65536 : Nat) : Int)] = [x, y, z, v]
    congr 1
    · omega
    · congr 1
      · omega
      · congr 1
        · omega
        · congr 1
          omega
theorem dig_neg (n P X : Nat) (hn : (n = 1 ∧ P = 65536) ∨ (n = 2 ∧ P = 4294967296) ∨ (n = 4 ∧ P = 18446744073709551616)) (hX : X < P) : digW (n : Int) ((18446744073709551616 - (P - X)) % 18446744073709551616) = digW (n : Int) X := by
  rcases hn with ⟨rfl, rfl⟩ | ⟨rfl, rfl⟩ | ⟨rfl, rfl⟩
  · show [((_ % 65536 : Nat) : Int)] = [((_ % 65536 : Nat) : Int)]
    congr 1
    omega
  · show [((_ / 65536 % 65536 : Nat) : Int), ((_ % 65536 : Nat) : Int)] = [((_ / 65536 % 65536 : Nat) : Int), ((_ % 65536 : Nat) : Int)]
    congr 1
    · omega
    · congr 1
      omega
  · congr 1
    omega
theorem ord_ord (kd : Int) (l : List Int) : ordW kd (ordW kd l) = l := by
  unfold ordW
  cases trn kd <;> simp
theorem wordsN_back (kd : Int) (l : List Int) (n P : Nat) (hn : (n = 1 ∧ P = 65536) ∨ (n = 2 ∧ P = 4294967296) ∨ (n = 4 ∧ P = 18446744073709551616)) (hw : Tab.wordsOf kd = n) (hl : l.length = n) (ha : ∀ x ∈ l, 0 ≤ x ∧ x ≤ 65535) :
    wordsN kd (numOf kd l).1 (numOf kd l).2 = (l, true) ∧ ((numOf kd l).1 = true → (numOf kd l).2 ≠ 0) := by
  have hP : (2 : Nat) ^ (16 * n) = P := by rcases hn with ⟨rfl, rfl⟩ | ⟨rfl, rfl⟩ | ⟨rfl, rfl⟩ <;> decide
  have hH : (2 : Nat) ^ (16 * n - 1) = P / 2 := by rcases hn with ⟨rfl, rfl⟩ | ⟨rfl, rfl⟩ | ⟨rfl, rfl⟩ <;> decide
  have hT : (2 : Nat) ^ (16 * (Tab.wordsOf kd).toNat) = P := by rw [hw, Int.toNat_natCast, hP]
  have hP2 : P % 2 = 0 ∧ 2 ≤ P := by rcases hn with ⟨-, rfl⟩ | ⟨-, rfl⟩ | ⟨-, rfl⟩ <;> decide
  have hX : numX (ordW kd l) < P := by
    have := numX_lt (ordW kd l) (fun x hx => ha x ((ordW_mem kd l x).1 hx))
    rw [ordW_len, hl, show (65536 : Nat) = 2 ^ 16 from rfl, ← Nat.pow_mul, hP] at this
    exact this
  have hd : digW (n : Int) (numX (ordW kd l)) = ordW kd l := by
    have := dig_num (ordW kd l) (fun x hx => ha x ((ordW_mem kd l x).1 hx)) (by rw [ordW_len, hl]; rcases hn with ⟨rfl, -⟩ | ⟨rfl, -⟩ | ⟨rfl, -⟩ <;> simp)
    rw [ordW_len, hl] at this
    exact this
  unfold numOf
  rw [hl, hP, hH]
  generalize numX (ordW kd l) = X at *
  by_cases hc : (sgn kd && decide (P / 2 ≤ X)) = true
  · rw [if_pos hc]
    simp only [Bool.and_eq_true, decide_eq_true_eq] at hc
    refine ⟨?_, fun _ => by show P - X ≠ 0; omega⟩
    show wordsN kd true (P - X) = _
    unfold wordsN topN
    rw [hT, hc.1, hw]
    simp only [Bool.not_true, Bool.false_and, Bool.false_eq_true, if_false, if_true]
    rw [if_neg (by omega), dig_neg n P X hn hX, hd, ord_ord]
  · rw [if_neg hc]
    refine ⟨?_, fun h => by cases h⟩
    show wordsN kd false X = _
    unfold wordsN topN
    rw [hT, hw]
    simp only [Bool.and_false, Bool.false_eq_true, if_false]
    rw [if_neg ?_, hd, ord_ord]
    cases hs : sgn kd
    · rw [if_neg (by decide)]; omega
    · rw [hs, Bool.true_and, decide_eq_true_eq] at hc
      rw [if_pos rfl]
      omega
theorem hexD_hx (d : Nat) (h : d < 16) : hexD (hx d).toNat = some d := by
  have H : ∀ i : Fin 16, hexD (hx i.1).toNat = some i.1 := by decide +kernel
  exact H ⟨d, h⟩
theorem hexP_hx (acc d : Nat) (r : List UInt8) (h : d < 16) (ha : acc < 268435456) : hexP acc (hx d :: r) = hexP (acc * 16 + d) r := by
  rw [hexP, hexD_hx d h]
  show (if 4294967295 < acc * 16 + d then _ else _) = _
  rw [if_neg (by omega)]
theorem hexPB_hex4 (x y : Nat) (hx_ : x < 65536) (hy : y < 65536) : hexPB (hex4 x ++ hex4 y) = .ok (x * 65536 + y) := by
  rw [hex4_eq x hx_, hex4_eq y hy]
  unfold hexPB
  rw [if_neg (by simp)]
  show hexP 0 (hx (x / 4096) :: hx (x / 256 % 16) :: hx (x / 16 % 16) :: hx (x % 16) :: hx (y / 4096) :: hx (y / 256 % 16) :: hx (y / 16 % 16) :: hx (y % 16) :: []) = _
  rw [hexP_hx _ _ _ (by omega) (by omega), hexP_hx _ _ _ (by omega) (by omega), hexP_hx _ _ _ (by omega) (by omega), hexP_hx _ _ _ (by omega) (by omega), hexP_hx _ _ _ (by omega) (by omega), hexP_hx _ _ _ (by omega) (by omega), hexP_hx _ _ _ (by omega) (by omega), hexP_hx _ _ _ (by omega) (by omega)]
  rw [hexP]
  congr 1
  omega
theorem words_back {n : ByteArray} {u f a kd s d : Int} {wr : Bool} {l : List Int} (h : mayB n u f a kd s d wr l = true) : wordsRE n u f a kd s d wr (textR n u f a kd s d wr l) = (l, 0) := by
  have hr := may_row h
  obtain ⟨⟨k1, k10⟩, ⟨s0, s9⟩, -, hs18⟩ := row_facts hr
  have hfin : finL n u f a kd s d wr l (textR n u f a kd s d wr l) = l ∧ finE n u f a kd s d wr l (textR n u f a kd s d wr l) = 0 := by
    unfold finL finE
    rw [h, decide_eq_true rfl]
    exact ⟨rfl, rfl⟩
  have ht : (textR n u f a kd s d wr l).data.toList = textL kd s l := by
    unfold textR
    rw [h, if_pos rfl]
  unfold wordsRE
  rw [hr, if_pos rfl, ht]
  have hl := may_len h
  have ha := may_all h
  by_cases h8 : kd = 8
  · rw [if_pos h8]
    have hl2 : l.length = 2 := by subst h8; simp [nOf, Tab.wordsOf] at hl; omega
    obtain ⟨x, y, rfl⟩ := list2 hl2
    have hm : mostOf kd = 65535 := by unfold mostOf; rw [if_neg (by omega)]
    rw [hm] at ha
    have hx := ha x (by simp)
    have hy := ha y (by simp)
    have e : textL kd s [x, y] = hex4 x.toNat ++ hex4 y.toNat := by
      unfold textL
      rw [if_neg (by omega), if_pos h8]
      rfl
    rw [e, hexPB_hex4 _ _ (by omega) (by omega)]
    have e1 : (((x.toNat * 65536 + y.toNat) / 65536 : Nat) : Int) = x := by omega
    have e2 : (((x.toNat * 65536 + y.toNat) % 65536 : Nat) : Int) = y := by omega
    simp only [e1, e2]
    rw [hfin.1, hfin.2]
  · rw [if_neg h8]
    by_cases h1 : kd = 1
    · have hl1 : l.length = 1 := by subst h1; simp [nOf] at hl; omega
      obtain ⟨x, rfl⟩ := list1 hl1
      have hx := ha x (by simp)
      have hm : mostOf kd = 1 := by unfold mostOf; rw [if_pos h1]
      rw [hm] at hx
      have hs : s = 0 := (hs18 (Or.inl h1)).1
      subst h1 hs
      rcases (by omega : x = 0 ∨ x = 1) with rfl | rfl
      · have e : plainP (textL 1 0 [0]) 0 = ([48], false, true) := by decide +kernel
        rw [e]
        rfl
      · have e : plainP (textL 1 0 [1]) 0 = ([48, 49], false, true) := by decide +kernel
        rw [e]
        rfl
    · have e : textL kd s l = pointL (numOf kd l).1 (numOf kd l).2 s.toNat := by
        unfold textL
        rw [if_neg h1, if_neg h8]
      have hn : ∃ m P : Nat, ((m = 1 ∧ P = 65536) ∨ (m = 2 ∧ P = 4294967296) ∨ (m = 4 ∧ P = 18446744073709551616)) ∧ Tab.wordsOf kd = (m : Int) ∧ l.length = m := by
        rcases may_num h h1 h8 with ⟨hk, x, rfl, -⟩ | ⟨hk, x, y, rfl, -⟩ | ⟨hk, x, y, z, v, rfl, -⟩
        · exact ⟨1, _, Or.inl ⟨rfl, rfl⟩, by rcases hk with rfl | rfl <;> rfl, rfl⟩
        · exact ⟨2, _, Or.inr (Or.inl ⟨rfl, rfl⟩), by rcases hk with rfl | rfl | rfl | rfl <;> rfl, rfl⟩
        · exact ⟨4, _, Or.inr (Or.inr ⟨rfl, rfl⟩), by rcases hk with rfl | rfl <;> rfl, rfl⟩
      obtain ⟨m, P, hmP, hw, hlm⟩ := hn
      have hm : mostOf kd = 65535 := by unfold mostOf; rw [if_neg h1]
      rw [hm] at ha
      obtain ⟨hback, hne⟩ := wordsN_back kd l m P hmP hw hlm ha
      have h64 := num_lt h h1 h8
      obtain ⟨q, hq, hp⟩ := plain_back (numOf kd l).1 (numOf kd l).2 s.toNat hne
      rw [Int.toNat_of_nonneg s0] at hp
      rw [e, hp]
      simp only [if_true, parse_dig q _ hq h64, if_neg h1, hback, hfin.1, hfin.2]
end Go.Proofs.YtmkekhjbbapngaaGreatDoor.Val
