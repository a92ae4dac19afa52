/- What the proof of TablePrints leans on: PPr. -/
import Derived.Test.YtbfhiiokajbdhaaGreatDoorSTablePrintsPTb
import Derived.Test.YtbfhiiokajbdhaaGreatDoorSTablePrintsPEv
import Derived.Test.YtbfhiiokajbdhaaGreatDoorSTablePrintsPrintT
import Derived.Lib.ItoaLen
set_option linter.unusedVariables false
set_option linter.unusedSimpArgs false
namespace Go.Proofs.YtbfhiiokajbdhaaGreatDoor.Fl
open Go.RowKit Go.Proofs.YtbfhiiokajbdhaaGreatDoor.Q Go.Proofs.YtbfhiiokajbdhaaGreatDoor.Val Go.Proofs.YtbfhiiokajbdhaaGreatDoorW.PrintWords
theorem dec_small (u : Nat) (h : u < 10) : Lib.decDigits u = [UInt8.ofNat (48 + u)] := by rw [Lib.decDigits, dif_pos h]
theorem dec_big (u : Nat) (h : ¬ u < 10) : Lib.decDigits u = Lib.decDigits (u / 10) ++ [UInt8.ofNat (48 + u % 10)] := by rw [Lib.decDigits, dif_neg h]
theorem digit_nat (d : Nat) (h : d < 10) : (UInt8.ofNat (48 + d)).toNat = 48 + d := by
  rw [UInt8.toNat_ofNat']
  omega
theorem dec_facts10 (u : Nat) : Lib.decDigits u ≠ [] ∧ (∀ c ∈ Lib.decDigits u, 48 ≤ c.toNat ∧ c.toNat ≤ 57) ∧ decV (Lib.decDigits u) = u := by
  induction u using Nat.strongRecOn with
  | _ u ih =>
    by_cases h : u < 10
    · rw [dec_small u h]
      have := digit_nat u h
      refine ⟨by simp, fun c hc => ?_, ?_⟩
      · obtain rfl := List.mem_singleton.1 hc
        omega
      · show 0 * 10 + ((UInt8.ofNat (48 + u)).toNat - 48) = u
        omega
    · obtain ⟨h1, h2, h3⟩ := ih (u / 10) (by omega)
      have hd := digit_nat (u % 10) (by omega)
      rw [dec_big u h]
      refine ⟨by simp, fun c hc => ?_, ?_⟩
      · rcases List.mem_append.1 hc with hc | hc
        · exact h2 c hc
        · obtain rfl := List.mem_singleton.1 hc
          omega
      · unfold decV at h3 ⊢
        rw [List.foldl_append, h3]
        show u / 10 * 10 + ((UInt8.ofNat (48 + u % 10)).toNat - 48) = u
        omega
theorem nDigits_le (u : Nat) : ∀ k : Nat, 1 ≤ k → u < 10 ^ k → (Lib.decDigits u).length ≤ k := by
  induction u using Nat.strongRecOn with
  | _ u ih =>
    intro k hk hu
    by_cases h : u < 10
    · rw [dec_small u h]; exact hk
    · rw [dec_big u h, List.length_append, List.length_singleton]
      match k, hk with
      | 1, _ => simp at hu; omega
      | k + 2, _ =>
        have := ih (u / 10) (by omega) (k + 1) (by omega) (by rw [Nat.div_lt_iff_lt_mul (by decide), ← Nat.pow_succ]; exact hu)
        omega
theorem itoa_dec (n : Int) (h : 0 ≤ n) : (itoaS n).data.toList = Lib.decDigits n.toNat := by
  obtain ⟨u, rfl⟩ : ∃ u : Nat, n = u := ⟨n.toNat, by omega⟩
  show (Lib.itoa (u : Int)).toArray.toList = _
  rw [Lib.itoa_nonneg]
  rfl
theorem digs_has (c : UInt8) (h : 48 ≤ c.toNat ∧ c.toNat ≤ 57) : digs.contains c = true := by
  have H : ∀ i : Fin 256, 48 ≤ i.1 → i.1 ≤ 57 → digs.contains (UInt8.ofNat i.1) = true := by decide +kernel
  have := H ⟨c.toNat, UInt8.toNat_lt c⟩ h.1 h.2
  simpa using this
theorem drop_all (p : UInt8 → Bool) : ∀ l : List UInt8, (∀ c ∈ l, p c = true) → l.dropWhile p = []
  | [], _ => rfl
  | c :: l, h => by
    rw [List.dropWhile_cons, if_pos (h c (by simp))]
    exact drop_all p l (fun d hd => h d (by simp [hd]))
theorem trim_all2 (l : List UInt8) (h : ∀ c ∈ l, digs.contains c = true) : Lib.trimS l digs = [] := by
  unfold Lib.trimS Lib.trimLeftS Lib.trimRightS
  have e : l.reverse.dropWhile (digs.contains ·) = [] := drop_all _ _ (fun c hc => h c (List.mem_reverse.1 hc))
  rw [e]
  rfl
theorem num_back (n : Int) (h0 : 0 ≤ n) (h1 : n < 10000000000) : numB (itoaS n) = true ∧ numV (itoaS n) = n := by
  have hd := itoa_dec n h0
  obtain ⟨f1, f2, f3⟩ := dec_facts10 n.toNat
  have fl := nDigits_le n.toNat 10 (by omega) (by omega)
  unfold numB numV
  rw [Lib.toList_data, Lib.size_eq, hd]
  refine ⟨?_, ?_⟩
  · rw [trim_all2 _ (fun c hc => digs_has c (f2 c hc)), decide_eq_true fl]
    cases h : Lib.decDigits n.toNat with
    | nil => exact absurd h f1
    | cons => rfl
  · rw [f3]; omega
theorem words_join : ∀ (r : List (List UInt8)) (x : List UInt8), x ≠ [] → (32 : UInt8) ∉ x → (∀ y ∈ r, y ≠ [] ∧ (32 : UInt8) ∉ y) → Wd.wordsGo [] (x ++ Lib.joinTail [32] r) = x :: r
  | [], x, h0, h1, _ => by
    have := Wd.wordsGo_no x [] [] h1
    rw [List.append_nil] at this
    have e : Lib.joinTail [32] [] = [] := rfl
    rw [e, List.append_nil, this]
    simp [Wd.wordsGo, h0]
  | y :: r, x, h0, h1, h2 => by
    have e : Lib.joinTail [32] (y :: r) = 32 :: (y ++ Lib.joinTail [32] r) := rfl
    have hy := h2 y (by simp)
    rw [e, Wd.wordsGo_no x [] _ h1]
    show Wd.wordsGo ([] ++ x) (32 :: (y ++ Lib.joinTail [32] r)) = _
    rw [List.nil_append]
    have e2 : Wd.wordsGo x (32 :: (y ++ Lib.joinTail [32] r)) = x :: Wd.wordsGo [] (y ++ Lib.joinTail [32] r) := by simp [Wd.wordsGo, h0]
    rw [e2, words_join r y hy.1 hy.2 (fun z hz => h2 z (by simp [hz]))]
def bodyL (r : S34) : List UInt8 := r.f0.data.toList ++ Lib.joinTail [32] [(itoaS r.f1).data.toList, (itoaS r.f2).data.toList, (itoaS r.f3).data.toList, (itoaS r.f4).data.toList, (itoaS r.f5).data.toList, (itoaS r.f6).data.toList, if r.f7 then [119] else [114]]
theorem line_body (r : S34) : lineL r = bodyL r ++ [10] := by
  unfold lineL strsOf bodyL
  rw [List.map_cons, Lib.join_cons]
  cases r.f7 <;> rfl
structure Rowy (r : S34) : Prop where
  ne : r.f0.data.toList ≠ []
  n32 : (32 : UInt8) ∉ r.f0.data.toList
  n10 : (10 : UInt8) ∉ r.f0.data.toList
  n35 : (35 : UInt8) ∉ r.f0.data.toList
  p1 : 0 ≤ r.f1 ∧ r.f1 < 10000000000
  p2 : 0 ≤ r.f2 ∧ r.f2 < 10000000000
  p3 : 0 ≤ r.f3 ∧ r.f3 < 10000000000
  p4 : 0 ≤ r.f4 ∧ r.f4 < 10000000000
  p5 : 0 ≤ r.f5 ∧ r.f5 < 10000000000
  p6 : 0 ≤ r.f6 ∧ r.f6 < 10000000000
theorem hasAny_no {l cs : List UInt8} (h : Top.hasAny l cs = false) {c : UInt8} (hc : c ∈ cs) : c ∉ l := by
  intro hm
  unfold Top.hasAny at h
  rw [List.any_eq_false] at h
  exact h c hm (by simpa using hc)
theorem rowy (r : S34) (h : rowB r.f0 r.f1 r.f2 r.f3 r.f4 r.f5 r.f6 r.f7 = true) : Rowy r := by
  unfold rowB Tab.rangeB Tab.kindB namedB Top.isName at h
  simp only [Bool.and_eq_true, decide_eq_true_eq, Bool.not_eq_true', decide_eq_false_iff_not] at h
  obtain ⟨⟨-, ⟨he, -, hw⟩, ha, -⟩, h1, h2, h3, h4, ⟨h5, h6⟩, -, h7, h8, h9, h10, h11, h12, -⟩ := h
  refine ⟨?_, hasAny_no ha (by simp), hasAny_no ha (by simp), hasAny_no hw (by decide), ?_, ?_, ?_, ?_, ?_, ?_⟩
  · intro e; rw [e] at he; exact absurd he (by decide)
  all_goals omega
theorem itoa_word (n : Int) (h : 0 ≤ n ∧ n < 10000000000) : (itoaS n).data.toList ≠ [] ∧ (32 : UInt8) ∉ (itoaS n).data.toList ∧ (10 : UInt8) ∉ (itoaS n).data.toList := by
  rw [itoa_dec n h.1]
  obtain ⟨f1, f2, -⟩ := dec_facts10 n.toNat
  exact ⟨f1, fun hm => absurd (f2 _ hm).1 (by decide), fun hm => absurd (f2 _ hm).1 (by decide)⟩
theorem words_line (r : S34) (h : Rowy r) : (Wd.wordsGo [] (bodyL r)).map mk = strsOf r := by
  unfold bodyL
  rw [words_join _ _ h.ne h.n32]
  · unfold strsOf
    simp only [List.map_cons, List.map_nil, mk_data]
    cases r.f7 <;> rfl
  · intro y hy
    simp only [List.mem_cons, List.not_mem_nil, or_false] at hy
    rcases hy with rfl | rfl | rfl | rfl | rfl | rfl | rfl
    · exact ⟨(itoa_word _ h.p1).1, (itoa_word _ h.p1).2.1⟩
    · exact ⟨(itoa_word _ h.p2).1, (itoa_word _ h.p2).2.1⟩
    · exact ⟨(itoa_word _ h.p3).1, (itoa_word _ h.p3).2.1⟩
    · exact ⟨(itoa_word _ h.p4).1, (itoa_word _ h.p4).2.1⟩
    · exact ⟨(itoa_word _ h.p5).1, (itoa_word _ h.p5).2.1⟩
    · exact ⟨(itoa_word _ h.p6).1, (itoa_word _ h.p6).2.1⟩
    · cases r.f7 <;> exact ⟨by simp, by decide⟩
theorem body_no (r : S34) (h : Rowy r) : (10 : UInt8) ∉ bodyL r := by
  have e7 : (10 : UInt8) ∉ (if r.f7 then [119] else [114] : List UInt8) := by cases r.f7 <;> decide
  unfold bodyL Lib.joinTail
  simp only [List.map_cons, List.map_nil, List.flatten_cons, List.flatten_nil, List.mem_append, List.mem_singleton, not_or, List.append_nil]
  exact ⟨h.n10, ⟨by decide, (itoa_word _ h.p1).2.2⟩, ⟨by decide, (itoa_word _ h.p2).2.2⟩, ⟨by decide, (itoa_word _ h.p3).2.2⟩, ⟨by decide, (itoa_word _ h.p4).2.2⟩, ⟨by decide, (itoa_word _ h.p5).2.2⟩, ⟨by decide, (itoa_word _ h.p6).2.2⟩, by decide, e7⟩
theorem lines_back : ∀ (l : List S34), (∀ r ∈ l, Rowy r) → Wd.linesGo [] (linesL l) = l.map bodyL ++ [[]]
  | [], _ => rfl
  | r :: l, h => by
    have e : linesL (r :: l) = bodyL r ++ (10 :: linesL l) := by
      show lineL r ++ linesL l = _
      rw [line_body, List.append_assoc]
      rfl
    rw [e, Wd.linesGo_no (bodyL r) [] _ (body_no r (h r (by simp))), List.nil_append]
    have e2 : Wd.linesGo (bodyL r) (10 :: linesL l) = bodyL r :: Wd.linesGo [] (linesL l) := by simp [Wd.linesGo]
    rw [e2, lines_back l (fun x hx => h x (by simp [hx]))]
    rfl
theorem wds_back (l : List S34) (h : ∀ r ∈ l, Rowy r) : wdsL (linesL l) = l.map strsOf ++ [[]] := by
  unfold wdsL
  rw [lines_back l h, List.map_append, List.map_map]
  congr 1
  apply List.map_congr_left
  intro r hr
  exact words_line r (h r hr)
theorem row_back (r : S34) (h : Rowy r) : rowOf (strsOf r) = some r := by
  have n1 := num_back r.f1 h.p1.1 h.p1.2
  have n2 := num_back r.f2 h.p2.1 h.p2.2
  have n3 := num_back r.f3 h.p3.1 h.p3.2
  have n4 := num_back r.f4 h.p4.1 h.p4.2
  have n5 := num_back r.f5 h.p5.1 h.p5.2
  have n6 := num_back r.f6 h.p6.1 h.p6.2
  have e0 : rowOf (strsOf r) = rdFrom (strsOf r) 0 zeroR := if_pos rfl
  rw [e0]
  unfold strsOf
  obtain ⟨f0, f1, f2, f3, f4, f5, f6, f7⟩ := r
  simp only at n1 n2 n3 n4 n5 n6
  cases f7 <;> simp [rdFrom, rd1, n1, n2, n3, n4, n5, n6, Lib.toList_data]
theorem skip_back (r : S34) (h : Rowy r) : skipB (strsOf r) = false := by
  have hne := h.ne
  have h35 := h.n35
  show (bt r.f0 0 == 35) = false
  have hl := List.length_pos_iff.2 hne
  have := bt_list r.f0 0 (r.f0.data.toList[0]'hl) (List.getElem?_eq_getElem hl)
  rw [show ((0 : Nat) : Int) = 0 from rfl] at this
  rw [this]
  refine beq_eq_false_iff_ne.2 (fun e => h35 ?_)
  have e2 : r.f0.data.toList[0]'hl = 35 := UInt8.toNat_inj.1 (by show _ = 35; omega)
  rw [← e2]
  exact List.getElem_mem hl
theorem goW_back (l : List S34) (h : ∀ r ∈ l, Rowy r) (hn : ∀ j : Nat, j < l.length → nxE (l.take j) (rd_T34 l (j : Int)) = 0) : ∀ (m i : Nat), i + m = l.length → ∀ n, goW ((l.drop i).map strsOf ++ [[]]) n (l.take i) = (l, 0, 0) := by
  intro m
  induction m with
  | zero =>
    intro i hi n
    rw [List.drop_eq_nil_of_le (by omega), List.take_of_length_le (by omega)]
    rfl
  | succ m ih =>
    intro i hi n
    have hlt : i < l.length := by omega
    have hm : rd_T34 l (i : Int) ∈ l := by
      unfold rd_T34
      rw [Int.toNat_natCast, List.getD_eq_getElem?_getD, List.getElem?_eq_getElem hlt]
      exact List.getElem_mem hlt
    have hr := h _ hm
    have ht : l.take (i + 1) = l.take i ++ [rd_T34 l (i : Int)] := by
      unfold rd_T34
      rw [List.take_succ_eq_append_getElem hlt, Int.toNat_natCast, List.getD_eq_getElem?_getD, List.getElem?_eq_getElem hlt]
      rfl
    have hx := hn i hlt
    rw [Tab.drop_T l i hlt, List.map_cons, List.cons_append]
    unfold goW
    rw [skip_back _ hr, row_back _ hr]
    simp only [Bool.false_eq_true, if_false]
    rw [if_pos (show nextE _ _ _ _ _ _ _ _ _ = 0 from hx), ← ht]
    exact ih (i + 1) (by omega) (n + 1)
theorem back_ok (l : List S34) (h : (chk l).2 = 0) : goW (wdsL (linesL l)) 0 [] = (l, 0, 0) := by
  have hR : ∀ r ∈ l, Rowy r := fun r hr => rowy r (chk_rows l h r hr)
  rw [wds_back l hR]
  have := goW_back l hR (fun j hj => chk_all l l.length 0 (by omega) h j (by omega) hj) l.length 0 (by omega) 0
  rw [List.drop_zero, List.take_zero] at this
  exact this
end Go.Proofs.YtbfhiiokajbdhaaGreatDoor.Fl
