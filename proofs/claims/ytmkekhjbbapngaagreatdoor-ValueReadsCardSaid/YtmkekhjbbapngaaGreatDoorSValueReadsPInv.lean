/- PInv -/
import Derived.Test.YtmkekhjbbapngaaGreatDoorSValueReadsPBack
set_option linter.all false
namespace Go.Proofs.YtmkekhjbbapngaaGreatDoor.Val
open Go.RowKit Go.Proofs.YtmkekhjbbapngaaGreatDoor.Q YtmkekhjbbapngaaGreatDoorW.PrintWords
theorem split_dot : ∀ l : List UInt8, (46 : UInt8) ∈ l → ∃ A B, l = A ++ 46 :: B ∧ (46 : UInt8) ∉ A
 | [], h => by simp at h
 | c :: l, h => by
  by_cases hc : c = 46
  ·
   subst hc
   exact ⟨[], l, rfl, by simp⟩
  ·
   have h2 : (46 : UInt8) ∈ l := by
    rcases List.mem_cons.1 h with h | h
    ·
     exact absurd h.symm hc
    ·
     exact h
   obtain ⟨A, B, rfl, hA⟩ := split_dot l h2
   refine ⟨c :: A, B, rfl, ?_⟩
   rw [List.mem_cons, not_or]
   exact ⟨fun e => hc e.symm, hA⟩
theorem index_no : ∀ l : List UInt8, (46 : UInt8) ∉ l → Lib.index l [46] = -1
 | [], _ => rfl
 | c :: l, h => by
  rw [List.mem_cons, not_or] at h
  have ih := index_no l h.2
  show (if List.isPrefixOf [46] (c :: l) then (0 : Int) else if Lib.index l [46] == -1 then -1 else Lib.index l [46] + 1) = _
  rw [if_neg (by simp [List.isPrefixOf, h.1]), ih]
  rfl
theorem cut_no (l : List UInt8) (h : (46 : UInt8) ∉ l) : (Lib.cut l [46]).2.2 = false := by
 unfold Lib.cut
 rw [index_no l h]
 rfl
theorem dropWhile_nil {α : Type} (p : α → Bool) : ∀ l : List α, l.dropWhile p = [] → ∀ c ∈ l, p c = true
 | [], _, c, hc => by simp at hc
 | a :: l, h, c, hc => by
  rw [List.dropWhile_cons] at h
  by_cases ha : p a = true
  ·
   rw [if_pos ha] at h
   rcases List.mem_cons.1 hc with rfl | hc
   ·
    exact ha
   ·
    exact dropWhile_nil p l h c hc
  ·
   rw [if_neg ha] at h
   simp at h
theorem digs_dig (c : UInt8) (h : digs.contains c = true) : 48 ≤ c.toNat ∧ c.toNat ≤ 57 := by
 have H : ∀ i : Fin 256, digs.contains (UInt8.ofNat i.1) = true → 48 ≤ i.1 ∧ i.1 ≤ 57 := by decide +kernel
 have := H ⟨c.toNat, c.toNat_lt⟩
 simp only [UInt8.ofNat_toNat] at this
 exact this h
theorem trim_nil (l : List UInt8) (h : Lib.trimS l digs = []) : ∀ c ∈ l, 48 ≤ c.toNat ∧ c.toNat ≤ 57 := by
 unfold Lib.trimS Lib.trimRightS Lib.trimLeftS at h
 have h1 := dropWhile_nil _ _ h
 have h2 : l.reverse.dropWhile (fun x => digs.contains x) = [] := by
  cases hd : l.reverse.dropWhile (fun x => digs.contains x) with
  | nil => rfl
  | cons a r =>
   rw [hd] at h1
   have ha : digs.contains a = true := h1 a (by simp)
   have := List.head_dropWhile_not (p := fun x => digs.contains x) (l := l.reverse) (by rw [hd]; simp)
   simp only [hd, List.head_cons] at this
   rw [ha] at this
   cases this
 intro c hc
 exact digs_dig c (dropWhile_nil _ _ h2 c (List.mem_reverse.2 hc))
theorem bad_no (A B : List UInt8) (h : badP A B = false) : A ≠ [] ∧ (∀ c ∈ A ++ B, 48 ≤ c.toNat ∧ c.toNat ≤ 57) ∧ (1 < A.length → A.head? ≠ some 48) := by
 unfold badP at h
 simp only [Bool.or_eq_false_iff, Bool.not_eq_false', List.isEmpty_iff, Bool.and_eq_false_iff, decide_eq_false_iff_not, beq_eq_false_iff_ne] at h
 obtain ⟨h1, h2, h3⟩ := h
 refine ⟨fun e => ?_, trim_nil _ h2, fun hl => ?_⟩
 ·
  rw [e] at h1; cases h1
 ·
  rcases h3 with h3 | h3
  ·
   exact absurd hl h3
  ·
   exact h3
theorem cutP_inv (t : List UInt8) : t = (if (cutP t).1 then [45] else []) ++ (cutP t).2 := by
 unfold cutP
 split <;> rfl
theorem rest_inv (m : Bool) (A B : List UInt8) (h : (restP m A B).2.2 = true) : badP A B = false ∧ (m && (Lib.trimLeftS (A ++ B) [48]).isEmpty) = false ∧ restP m A B = (48 :: Lib.trimLeftS (A ++ B) [48], m, true) := by
 unfold restP at h ⊢
 cases hb : badP A B
 ·
  rw [hb] at h
  simp only [Bool.false_eq_true, if_false] at h ⊢
  cases hk : (m && (Lib.trimLeftS (A ++ B) [48]).isEmpty)
  ·
   simp
  ·
   rw [hk] at h
   cases h
 ·
  rw [hb] at h
  cases h
theorem plain_inv (t : List UInt8) (s : Int) (h : (plainP t s).2.2 = true) :
  ∃ m A B, t = (if m then [45] else []) ++ (A ++ (if s > 0 then 46 :: B else [])) ∧ badP A B = false ∧ (m && (Lib.trimLeftS (A ++ B) [48]).isEmpty) = false ∧ plainP t s = (48 :: Lib.trimLeftS (A ++ B) [48], m, true) ∧ (s > 0 → (B.length : Int) = s) ∧ (¬ s > 0 → B = []) := by
 have hc := cutP_inv t
 unfold plainP at h ⊢
 generalize cutP t = mr at *
 obtain ⟨m, r⟩ := mr
 simp only at h hc ⊢
 by_cases hs : s > 0
 ·
  simp only [if_pos hs] at h ⊢
  by_cases hd : (46 : UInt8) ∈ r
  ·
   obtain ⟨A, B, rfl, hA⟩ := split_dot r hd
   rw [cut_dot A B hA] at h ⊢
   simp only [Bool.true_and] at h ⊢
   by_cases hl : (B.length : Int) = s
   ·
    rw [decide_eq_true hl] at h ⊢
    simp only [if_true] at h ⊢
    obtain ⟨h1, h2, h3⟩ := rest_inv m A B h
    exact ⟨m, A, B, hc, h1, h2, h3, fun _ => hl, fun h => absurd hs h⟩
   ·
    rw [decide_eq_false hl] at h
    cases h
  ·
   rw [cut_no r hd] at h
   cases h
 ·
  simp only [if_neg hs] at h ⊢
  obtain ⟨h1, h2, h3⟩ := rest_inv m r [] h
  refine ⟨m, r, [], ?_, h1, h2, h3, fun h => absurd h hs, fun _ => rfl⟩
  rw [List.append_nil]
  exact hc
theorem parse_ge (M : Nat) : ∀ (l : List UInt8) (acc v : Nat), Lib.parseUintM M acc l = .ok v → acc * 10 ^ l.length ≤ v
 | [], acc, v, h => by
  rw [Lib.parseUintM] at h
  cases h
  simp
 | c :: r, acc, v, h => by
  rw [Lib.parseUintM] at h
  split at h
  ·
   split at h
   ·
    cases h
   ·
    split at h
    ·
     cases h
    ·
     have ih := parse_ge M r _ v h
     rw [List.length_cons, Nat.pow_succ, Nat.mul_comm (10 ^ r.length) 10, ← Nat.mul_assoc]
     exact Nat.le_trans (Nat.mul_le_mul_right _ (Nat.le_add_right _ _)) ih
  ·
   cases h
theorem plain_bit (t : List UInt8) (v : Nat) (h : (plainP t 0).2.2 = true) (hm : (plainP t 0).2.1 = false) (hp : Lib.parseUintB 64 (plainP t 0).1 = .ok v) (hv : v ≤ 1) : t = [UInt8.ofNat (48 + v)] := by
 obtain ⟨m, A, B, ht, hb, -, e, -, hB⟩ := plain_inv t 0 h
 rw [e] at hm hp
 simp only at hm hp
 subst hm
 have hB := hB (by decide)
 subst hB
 simp only [Bool.false_eq_true, if_false, List.nil_append, List.append_nil, show ¬ ((0 : Int) > 0) by decide] at ht hp
 obtain ⟨hA, hd, hz⟩ := bad_no A [] hb
 rw [List.append_nil] at hd
 subst ht
 have e64 : (2 : Nat) ^ 64 - 1 = 18446744073709551615 := by decide
 unfold Lib.parseUintB at hp
 rw [if_neg (by simp), e64, Lib.parseUintM, if_pos (by decide), if_neg (by decide), if_neg (by decide)] at hp
 cases t with
 | nil => exact absurd rfl hA
 | cons c r =>
  have hc := hd c (by simp)
  by_cases h48 : c = 48
  ·
   subst h48
   have hr : r = [] := by
    cases r with
    | nil => rfl
    | cons _ _ => exact absurd rfl (hz (by simp))
   subst hr
   unfold Lib.trimLeftS at hp
   rw [List.dropWhile_cons, if_pos (by decide), List.dropWhile_nil, Lib.parseUintM] at hp
   cases hp
   rfl
  ·
   have hc48 : c.toNat ≠ 48 := fun e => h48 (UInt8.toNat_inj.1 e)
   unfold Lib.trimLeftS at hp
   rw [List.dropWhile_cons, if_neg (by simp [h48]), Lib.parseUintM, if_pos hc] at hp
   rw [if_neg (by decide), if_neg (by simp; omega)] at hp
   have hg := parse_ge _ _ _ _ hp
   cases r with
   | nil =>
    rw [Lib.parseUintM] at hp
    cases hp
    congr 1
    rw [← UInt8.toNat_inj, UInt8.toNat_ofNat']
    simp
    omega
   | cons b r =>
    exfalso
    rw [List.length_cons, Nat.pow_succ] at hg
    have : 0 < 10 ^ r.length := Nat.pow_pos (by decide)
    have h2 : 1 * (1 * 10) ≤ ((48 - 48) * 10 + (c.toNat - 48)) * (10 ^ r.length * 10) := Nat.mul_le_mul (by omega) (Nat.mul_le_mul_right _ this)
    simp at hg h2
    omega
end Go.Proofs.YtmkekhjbbapngaaGreatDoor.Val
set_option linter.all false
namespace Go.Proofs.YtmkekhjbbapngaaGreatDoor.Val
open Go.RowKit Go.Proofs.YtmkekhjbbapngaaGreatDoor.Q YtmkekhjbbapngaaGreatDoorW.PrintWords
theorem fin_or (n : ByteArray) (u f a kd s d : Int) (wr : Bool) (l : List Int) (t : ByteArray) :
  (mayB n u f a kd s d wr l = true ∧ textR n u f a kd s d wr l = t ∧ finL n u f a kd s d wr l t = l ∧ finE n u f a kd s d wr l t = 0) ∨ (finL n u f a kd s d wr l t = [] ∧ finE n u f a kd s d wr l t = 4) := by
 unfold finL finE
 by_cases h : (mayB n u f a kd s d wr l && decide ((textR n u f a kd s d wr l).toList = t.toList)) = true
 ·
  left
  rw [if_pos h, if_pos h]
  simp only [Bool.and_eq_true, decide_eq_true_eq] at h
  refine ⟨h.1, ?_, rfl, rfl⟩
  have := h.2
  rw [Lib.toList_data, Lib.toList_data] at this
  exact ByteArray.ext (Array.toList_inj.1 this)
 ·
  right
  rw [if_neg h, if_neg h]
  exact ⟨rfl, rfl⟩
theorem may_bit {n : ByteArray} {u f a s d : Int} {wr : Bool} (v : Nat) (hr : rowB n u f a 1 s d wr = true) (hv : v ≤ 1) : mayB n u f a 1 s d wr [(v : Int)] = true := by
 unfold mayB
 rw [hr]
 rcases (by omega : v = 0 ∨ v = 1) with rfl | rfl <;> decide
theorem words_cases (n : ByteArray) (u f a kd s d : Int) (wr : Bool) (t : ByteArray) :
  (∃ l, wordsRE n u f a kd s d wr t = (l, 0) ∧ mayB n u f a kd s d wr l = true ∧ textR n u f a kd s d wr l = t ∧ (kd ≠ 8 → (plainP t.data.toList s).2.2 = true)) ∨ (∃ e, e ≠ 0 ∧ wordsRE n u f a kd s d wr t = ([], e)) := by
 unfold wordsRE
 cases hr : rowB n u f a kd s d wr
 ·
  right; exact ⟨1, by decide, rfl⟩
 ·
  simp only [if_true]
  by_cases h8 : kd = 8
  ·
   rw [if_pos h8]
   cases hexPB t.data.toList with
   | ok v =>
    simp only
    rcases fin_or n u f a kd s d wr [((v / 65536 : Nat) : Int), ((v % 65536 : Nat) : Int)] t with ⟨h1, h2, h3, h4⟩ | ⟨h3, h4⟩
    ·
     left; exact ⟨_, by rw [h3, h4], h1, h2, fun h => absurd h8 h⟩
    ·
     right; exact ⟨4, by decide, by rw [h3, h4]⟩
   | range => right; exact ⟨4, by decide, rfl⟩
   | _ => right; exact ⟨4, by decide, rfl⟩
  ·
   rw [if_neg h8]
   cases hp : (plainP t.data.toList s).2.2
   ·
    right; exact ⟨4, by decide, rfl⟩
   ·
    simp only [if_true]
    cases hd : Lib.parseUintB 64 (plainP t.data.toList s).1 with
    | ok v =>
     simp only
     by_cases h1 : kd = 1
     ·
      rw [if_pos h1]
      by_cases hb : ((plainP t.data.toList s).2.1 || decide (1 < v)) = true
      ·
       rw [if_pos hb]; right; exact ⟨220, by decide, rfl⟩
      ·
       rw [if_neg hb]
       left
       simp only [Bool.or_eq_true, decide_eq_true_eq, not_or] at hb
       subst h1
       have hs : s = 0 := ((row_facts hr).2.2.2 (Or.inl rfl)).1
       subst hs
       have hm := may_bit (n := n) (u := u) (f := f) (a := a) (s := 0) (d := d) (wr := wr) v hr (by omega)
       refine ⟨_, rfl, hm, ?_, fun _ => trivial⟩
       have ht := plain_bit t.data.toList v hp (by simpa using hb.1) hd (by omega)
       unfold textR
       rw [hm, if_pos rfl]
       have e : textL 1 0 [(v : Int)] = t.data.toList := by
        rw [ht]
        show [UInt8.ofNat (48 + (v : Int).toNat)] = _
        rw [Int.toNat_natCast]
       rw [e]
     ·
      rw [if_neg h1]
      cases hw : (wordsN kd (plainP t.data.toList s).2.1 v).2
      ·
       right; exact ⟨220, by decide, rfl⟩
      ·
       simp only [if_true]
       rcases fin_or n u f a kd s d wr (wordsN kd (plainP t.data.toList s).2.1 v).1 t with ⟨g1, g2, g3, g4⟩ | ⟨g3, g4⟩
       ·
        left; exact ⟨_, by rw [g3, g4], g1, g2, fun _ => trivial⟩
       ·
        right; exact ⟨4, by decide, by rw [g3, g4]⟩
    | range => right; exact ⟨220, by decide, rfl⟩
    | _ => right; exact ⟨220, by decide, rfl⟩
theorem words_plain (n : ByteArray) (u f a kd s d : Int) (wr : Bool) (t : ByteArray) (hr : rowB n u f a kd s d wr = true) (h8 : kd ≠ 8) (ht : (plainP t.data.toList s).2.2 = false) : wordsE n u f a kd s d wr t = 4 := by
 unfold wordsE wordsRE
 rw [hr, if_pos rfl, if_neg h8, ht]
 rfl
end Go.Proofs.YtmkekhjbbapngaaGreatDoor.Val