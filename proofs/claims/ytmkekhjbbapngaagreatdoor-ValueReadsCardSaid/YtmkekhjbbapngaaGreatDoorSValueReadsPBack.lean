/- PBack -/
import Derived.Test.YtmkekhjbbapngaaGreatDoorSValueReadsValW
set_option linter.all false
namespace Go.Proofs.YtmkekhjbbapngaaGreatDoor.Val
open Go.RowKit Go.Proofs.YtmkekhjbbapngaaGreatDoor.Q YtmkekhjbbapngaaGreatDoorW.PrintWords
theorem fixD_dig : ∀ n u, ∀ c ∈ fixD n u, 48 ≤ c.toNat ∧ c.toNat ≤ 57
  | 0, u, c, h => by simp [fixD] at h
  | n + 1, u, c, h => by
    rw [fixD, List.mem_append] at h
    rcases h with h | h
    · exact fixD_dig n _ c h
    · rw [List.mem_singleton] at h
      subst h
      rw [UInt8.toNat_ofNat']
      omega
theorem dig_digs (c : UInt8) (h : 48 ≤ c.toNat ∧ c.toNat ≤ 57) : digs.contains c = true := by
  have H : ∀ i : Fin 256, 48 ≤ i.1 → i.1 ≤ 57 → digs.contains (UInt8.ofNat i.1) = true := by decide +kernel
  have := H ⟨c.toNat, c.toNat_lt⟩ h.1 h.2
  simpa using this
theorem dropWhile_all {α : Type} (p : α → Bool) : ∀ l : List α, (∀ c ∈ l, p c = true) → l.dropWhile p = []
  | [], _ => rfl
  | a :: l, h => by
    rw [List.dropWhile_cons, if_pos (h a (by simp))]
    exact dropWhile_all p l (fun c hc => h c (by simp [hc]))
theorem trim_digs (l : List UInt8) (h : ∀ c ∈ l, 48 ≤ c.toNat ∧ c.toNat ≤ 57) : Lib.trimS l digs = [] := by
  unfold Lib.trimS Lib.trimRightS Lib.trimLeftS
  have e : l.reverse.dropWhile (fun x => digs.contains x) = [] := dropWhile_all _ _ (fun c hc => dig_digs c (h c (List.mem_reverse.1 hc)))
  rw [e]
  rfl
theorem fixD_head (n u : Nat) (h : u < 10 ^ (n + 1)) (h2 : 10 ^ n ≤ u) : ∃ c r, fixD (n + 1) u = c :: r ∧ c ≠ 48 := by
  induction n generalizing u with
  | zero =>
    simp at h h2
    refine ⟨_, _, rfl, fun e => ?_⟩
    rw [← UInt8.toNat_inj, UInt8.toNat_ofNat'] at e
    have : (48 : UInt8).toNat = 48 := rfl
    omega
  | succ n ih =>
    have e1 : (10 : Nat) ^ (n + 1 + 1) = 10 ^ (n + 1) * 10 := Nat.pow_succ ..
    have e2 : (10 : Nat) ^ (n + 1) = 10 ^ n * 10 := Nat.pow_succ ..
    obtain ⟨c, r, e, hc⟩ := ih (u / 10) (by omega) (by omega)
    refine ⟨c, r ++ [UInt8.ofNat (48 + u % 10)], ?_, hc⟩
    rw [fixD, e]
    rfl
theorem drop_zero : ∀ n u, u < 10 ^ n → ∃ m, m ≤ n ∧ u < 10 ^ m ∧ Lib.trimLeftS (fixD n u) [48] = fixD m u ∧ (u = 0 → m = 0)
  | 0, u, h => ⟨0, Nat.le_refl _, h, rfl, fun _ => rfl⟩
  | n + 1, u, h => by
    by_cases h2 : u < 10 ^ n
    · obtain ⟨m, hm, hu, e, hz⟩ := drop_zero n u h2
      refine ⟨m, by omega, hu, ?_, hz⟩
      rw [fixD_zero n u h2]
      exact e
    · obtain ⟨c, r, e, hc⟩ := fixD_head n u h (by omega)
      refine ⟨n + 1, Nat.le_refl _, h, ?_, fun h0 => ?_⟩
      · rw [e]
        unfold Lib.trimLeftS
        rw [List.dropWhile_cons]
        have : List.contains [48] c = false := by
          simp only [List.contains_cons, List.contains_nil, Bool.or_false]
          exact beq_eq_false_iff_ne.2 hc
        rw [this]
        rfl
      · subst h0
        exact absurd (Nat.pow_pos (by decide)) h2
theorem rest_ok (b : Bool) (n u : Nat) (A B : List UInt8) (hAB : A ++ B = fixD n u) (hu : u < 10 ^ n) (hA : A ≠ []) (hz : 1 < A.length → 10 ^ (n - 1) ≤ u) (hn : 1 ≤ n) (hb : b = true → u ≠ 0) :
    ∃ m, u < 10 ^ m ∧ restP b A B = (48 :: fixD m u, b, true) := by
  obtain ⟨m, hm, hum, e, hz0⟩ := drop_zero n u hu
  refine ⟨m, hum, ?_⟩
  have hbad : badP A B = false := by
    unfold badP
    have e1 : A.isEmpty = false := by cases A with
      | nil => exact absurd rfl hA
      | cons _ _ => rfl
    rw [hAB, trim_digs _ (fixD_dig n u), e1]
    show (false || (!true || (decide (1 < A.length) && A.head? == some 48))) = false
    rw [Bool.false_or, Bool.not_true, Bool.false_or]
    by_cases h1 : 1 < A.length
    · rw [decide_eq_true h1, Bool.true_and]
      obtain ⟨n', rfl⟩ : ∃ n', n = n' + 1 := ⟨n - 1, by omega⟩
      obtain ⟨c, r, hc, hne⟩ := fixD_head n' u hu (by simpa using hz h1)
      cases A with
      | nil => exact absurd rfl hA
      | cons a A' =>
        rw [hc] at hAB
        have : a = c := (List.cons.inj hAB).1
        subst this
        exact beq_eq_false_iff_ne.2 (fun h => hne (Option.some.inj h))
    · rw [decide_eq_false h1]; rfl
  unfold restP
  rw [hbad, hAB, e]
  simp only [Bool.false_eq_true, if_false]
  have hk : (b && (fixD m u).isEmpty) = false := by
    cases b
    · rfl
    · have hu0 := hb rfl
      cases m with
      | zero => simp at hum; exact absurd hum hu0
      | succ m =>
        have := fixD_len (m + 1) u
        cases hf : fixD (m + 1) u with
        | nil => rw [hf] at this; simp at this
        | cons _ _ => rfl
  rw [hk]
  rfl
theorem cutP_false (l : List UInt8) (h : (45 : UInt8) ∉ l) : cutP l = (false, l) := by
  unfold cutP
  split
  · exact absurd (by simp) h
  · rfl
theorem index_dot : ∀ (A B : List UInt8), (46 : UInt8) ∉ A → Lib.index (A ++ 46 :: B) [46] = (A.length : Int)
  | [], B, _ => by
    show (if List.isPrefixOf [46] (46 :: B) then (0 : Int) else _) = _
    rw [if_pos (by simp [List.isPrefixOf])]; rfl
  | a :: A, B, h => by
    have ha : a ≠ 46 := fun e => h (by rw [e]; simp)
    have ih := index_dot A B (fun hh => h (by simp [hh]))
    show (if List.isPrefixOf [46] (a :: (A ++ 46 :: B)) then (0 : Int) else if Lib.index (A ++ 46 :: B) [46] == -1 then -1 else Lib.index (A ++ 46 :: B) [46] + 1) = _
    rw [if_neg (by simp [List.isPrefixOf, Ne.symm ha]), ih, if_neg (by simp)]
    simp
theorem cut_dot (A B : List UInt8) (h : (46 : UInt8) ∉ A) : Lib.cut (A ++ 46 :: B) [46] = (A, B, true) := by
  unfold Lib.cut
  rw [index_dot A B h, if_pos (by omega), Int.toNat_natCast]
  simp
theorem nDig_ge (u : Nat) (h : 1 < Lib.nDigits u) : 10 ^ (Lib.nDigits u - 1) ≤ u := by
  induction u using Nat.strongRecOn with
  | _ u ih =>
    by_cases h10 : u < 10
    · rw [Lib.nDigits_small h10] at h; omega
    · rw [Lib.nDigits_big h10]
      by_cases h2 : 1 < Lib.nDigits (u / 10)
      · have := ih (u / 10) (by omega) h2
        obtain ⟨n, hn⟩ : ∃ n, Lib.nDigits (u / 10) = n + 1 := ⟨Lib.nDigits (u / 10) - 1, by omega⟩
        rw [hn] at this ⊢
        simp only [Nat.add_sub_cancel] at this ⊢
        rw [Nat.pow_succ]
        omega
      · have : Lib.nDigits (u / 10) - 1 = 0 := by omega
        rw [Nat.add_sub_cancel]
        have h3 : Lib.nDigits (u / 10) ≤ 1 := by omega
        refine Nat.le_trans (Nat.pow_le_pow_right (by decide) h3) (by omega)
theorem plain_back (b : Bool) (u sc : Nat) (hb : b = true → u ≠ 0) : ∃ m, u < 10 ^ m ∧ plainP (pointL b u sc) (sc : Int) = (48 :: fixD m u, b, true) := by
  have hno : (45 : UInt8) ∉ pointL false u sc := by
    intro h
    unfold pointL ptL at h
    simp only [Bool.false_eq_true, if_false, List.nil_append] at h
    split at h
    · rw [dec_fix] at h
      have := fixD_dig _ _ _ h
      exact absurd this.1 (by decide)
    · rw [pad_fix, List.mem_append, List.mem_cons] at h
      rcases h with h | h | h
      · exact absurd (fixD_dig _ _ _ (List.mem_of_mem_take h)).1 (by decide)
      · exact absurd h (by decide)
      · exact absurd (fixD_dig _ _ _ (List.mem_of_mem_drop h)).1 (by decide)
  have hcut : cutP (pointL b u sc) = (b, pointL false u sc) := by
    cases b
    · exact cutP_false _ hno
    · rfl
  unfold plainP
  rw [hcut]
  simp only
  by_cases hs : sc = 0
  · subst hs
    rw [if_neg (by omega)]
    have e : pointL false u 0 = fixD (Lib.nDigits u) u := by
      unfold pointL
      rw [if_pos rfl, dec_fix]; rfl
    rw [e]
    have hn1 : 1 ≤ Lib.nDigits u := by
      by_cases h : u < 10
      · rw [Lib.nDigits_small h]; exact Nat.le_refl _
      · rw [Lib.nDigits_big h]; omega
    refine rest_ok b (Lib.nDigits u) u _ [] (List.append_nil _) (Lib.lt_pow_nDigits u) (fun h => by have := fixD_len (Lib.nDigits u) u; rw [h, List.length_nil] at this; omega) (fun h => ?_) hn1 hb
    rw [fixD_len] at h
    exact nDig_ge u (by omega)
  · rw [if_pos (by omega)]
    have hw : sc + 1 ≤ wid u sc := Nat.le_max_right _ _
    have e : pointL false u sc = (fixD (wid u sc) u).take (wid u sc - sc) ++ 46 :: (fixD (wid u sc) u).drop (wid u sc - sc) := by
      unfold pointL ptL
      rw [if_neg hs, pad_fix, fixD_len]; rfl
    rw [e, cut_dot _ _ (fun h => absurd (fixD_dig _ _ _ (List.mem_of_mem_take h)).1 (by decide))]
    simp only [List.length_drop, fixD_len]
    rw [show wid u sc - (wid u sc - sc) = sc by omega, decide_eq_true rfl]
    simp only [Bool.and_self, if_true]
    refine rest_ok b (wid u sc) u _ _ (List.take_append_drop _ _) (lt_wid u sc) (fun h => ?_) (fun h => ?_) (by omega) hb
    · have := congrArg List.length h
      rw [List.length_take, fixD_len] at this
      simp at this
      omega
    · rw [List.length_take, fixD_len] at h
      have hwn : wid u sc = Lib.nDigits u := by
        unfold wid at h ⊢
        rw [Nat.max_def] at h ⊢
        split at h <;> split <;> omega
      rw [hwn]
      exact nDig_ge u (by rw [← hwn]; omega)
end Go.Proofs.YtmkekhjbbapngaaGreatDoor.Val
set_option linter.all false
namespace Go.Proofs.YtmkekhjbbapngaaGreatDoor.Val
open Go.RowKit Go.Proofs.YtmkekhjbbapngaaGreatDoor.Q YtmkekhjbbapngaaGreatDoorW.PrintWords
theorem ord_ord (kd : Int) (l : List Int) : ordW kd (ordW kd l) = l := by
  unfold ordW
  cases trn kd <;> simp
end Go.Proofs.YtmkekhjbbapngaaGreatDoor.Val
