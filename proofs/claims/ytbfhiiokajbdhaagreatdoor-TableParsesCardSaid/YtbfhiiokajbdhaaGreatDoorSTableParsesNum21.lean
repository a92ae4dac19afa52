/- What the proof of TableParses leans on: Num21. -/
import Derived.Test.YtbfhiiokajbdhaaGreatDoorSTableParsesPMk
import Derived.Test.YtbfhiiokajbdhaaGreatDoorSTableParsesPEv
import Derived.Test.YtbfhiiokajbdhaaGreatDoorSTableParsesQx7
set_option linter.unusedVariables false
set_option linter.unusedSimpArgs false
set_option maxRecDepth 100000
namespace Go.Proofs.YtbfhiiokajbdhaaGreatDoor.Fl
open Go.RowKit Go.Proofs.YtbfhiiokajbdhaaGreatDoorW.PrintWords Go.Proofs.YtbfhiiokajbdhaaGreatDoor.Q Go.Proofs.YtbfhiiokajbdhaaGreatDoor.Val
theorem drop_at2 (l : List UInt8) (i : Nat) (h : i < l.length) : ∃ b, l[i]? = some b ∧ l.drop i = b :: l.drop (i + 1) := by
  refine ⟨l[i], List.getElem?_eq_getElem h, ?_⟩
  rw [List.drop_eq_getElem_cons h]
def isDg (b : UInt8) : Bool := decide (48 ≤ b.toNat) && decide (b.toNat ≤ 57)
def refN (s : ByteArray) : Int × Bool := if numB s then (numV s, true) else (0, false)
theorem dg_has (b : UInt8) (h : isDg b = true) : digs.contains b = true := by
  have H : ∀ i : Fin 256, isDg (UInt8.ofNat i.1) = true → digs.contains (UInt8.ofNat i.1) = true := by decide +kernel
  have := H ⟨b.toNat, UInt8.toNat_lt b⟩ (by simpa using h)
  simpa using this
theorem dropWhile_all {α : Type} (p : α → Bool) : ∀ l : List α, (∀ c ∈ l, p c = true) → l.dropWhile p = []
  | [], _ => rfl
  | a :: l, h => by
    rw [List.dropWhile_cons, if_pos (h a (by simp))]
    exact dropWhile_all p l (fun c hc => h c (by simp [hc]))
theorem trim_all (l : List UInt8) (h : ∀ c ∈ l, isDg c = true) : Lib.trimS l digs = [] := by
  unfold Lib.trimS Lib.trimRightS Lib.trimLeftS
  have e : l.reverse.dropWhile (fun x => digs.contains x) = [] := dropWhile_all _ _ (fun c hc => dg_has c (h c (List.mem_reverse.1 hc)))
  rw [e]
  rfl
theorem numB_eq (s : ByteArray) : numB s = (!s.data.toList.isEmpty && (decide (s.size ≤ 10) && s.data.toList.all isDg)) := by
  unfold numB
  rw [ByteArray.toList_eq]
  congr 2
  cases h : s.data.toList.all isDg
  · cases h2 : (Lib.trimS s.data.toList digs).isEmpty
    · rfl
    · exfalso
      rw [List.isEmpty_iff] at h2
      have h3 := trim_nil _ h2
      have : s.data.toList.all isDg = true := List.all_eq_true.2 (fun c hc => by
        have := h3 c hc
        unfold isDg
        rw [decide_eq_true this.1, decide_eq_true this.2]; rfl)
      rw [this] at h
      cases h
  · rw [trim_all _ (fun c hc => List.all_eq_true.1 h c hc)]
    rfl
theorem dec_lt : ∀ (l : List UInt8) (a : Nat), (∀ c ∈ l, isDg c = true) → l.foldl (fun n b => n * 10 + (b.toNat - 48)) a < (a + 1) * 10 ^ l.length
  | [], a, _ => by simp
  | b :: l, a, h => by
    have hb := h b (by simp)
    unfold isDg at hb
    simp only [Bool.and_eq_true, decide_eq_true_eq] at hb
    have := dec_lt l (a * 10 + (b.toNat - 48)) (fun c hc => h c (by simp [hc]))
    rw [List.foldl_cons, List.length_cons, Nat.pow_succ]
    refine Nat.lt_of_lt_of_le this ?_
    rw [Nat.mul_comm (10 ^ l.length) 10, ← Nat.mul_assoc]
    exact Nat.mul_le_mul_right _ (by omega)
theorem dec_snoc (l : List UInt8) (b : UInt8) : decV (l ++ [b]) = decV l * 10 + (b.toNat - 48) := by
  unfold decV
  rw [List.foldl_append]
  rfl
theorem number_from (s : ByteArray) (hs : s.size ≤ 1000000) (d : Nat) : ∀ i : Nat, s.size - i = d → i ≤ s.size → i ≤ 10 → (∀ c ∈ s.data.toList.take i, isDg c = true) →
    Ev (fun k => basculeref21_number.l0 k s ((decV (s.data.toList.take i) : Nat) : Int) (i : Int)) (if (decide (s.size ≤ 10) && (s.data.toList.drop i).all isDg) = true then (numV s, s.toList != []) else (0, false)) := by
  have hl := Lib.size_eq s
  induction d with
  | zero =>
    intro i hd hi h10 hp
    refine Ev.step (fun k => rfl) ?_
    rw [List.drop_eq_nil_of_le (by omega), decide_eq_true (show s.size ≤ 10 by omega), if_pos (by rfl), List.take_of_length_le (by omega)]
    exact Ev.neg (by omega) (Ev.ret _)
  | succ d ih =>
    intro i hd hi h10 hp
    obtain ⟨b, hb, hdrop⟩ := drop_at2 s.data.toList i (by omega)
    have hbt := bt_list s i b hb
    have htk : s.data.toList.take (i + 1) = s.data.toList.take i ++ [b] := by
      rw [List.take_add_one, hb]; rfl
    refine Ev.step (fun k => rfl) ?_
    refine Ev.pos (by omega) (Ev.pos (by omega) ?_)
    rw [hbt, hdrop, List.all_cons]
    by_cases h1 : (b.toNat : Int) < 48
    · have e : isDg b = false := by unfold isDg; rw [decide_eq_false (show ¬ 48 ≤ b.toNat by omega)]; rfl
      rw [e, Bool.false_and, Bool.and_false, if_neg (by decide)]
      exact Ev.pos h1 (Ev.ret _)
    refine Ev.neg h1 ?_
    by_cases h2 : (b.toNat : Int) > 57
    · have e : isDg b = false := by unfold isDg; rw [decide_eq_false (show ¬ b.toNat ≤ 57 by omega), Bool.and_false]
      rw [e, Bool.false_and, Bool.and_false, if_neg (by decide)]
      exact Ev.pos h2 (Ev.ret _)
    refine Ev.neg h2 ?_
    have e : isDg b = true := by unfold isDg; rw [decide_eq_true (show 48 ≤ b.toNat by omega), decide_eq_true (show b.toNat ≤ 57 by omega)]; rfl
    rw [e, Bool.true_and]
    by_cases h3 : (i : Int) > 9
    · rw [decide_eq_false (show ¬ s.size ≤ 10 by omega), Bool.false_and, if_neg (by decide)]
      exact Ev.pos h3 (Ev.ret _)
    refine Ev.neg h3 ?_
    have hlt := dec_lt (s.data.toList.take i) 0 hp
    have hp10 : 10 ^ (s.data.toList.take i).length ≤ 10 ^ 9 := Nat.pow_le_pow_right (by decide) (by rw [List.length_take]; omega)
    have hv : decV (s.data.toList.take i) < 1000000000 := by
      unfold decV
      rw [Nat.zero_add, Nat.one_mul] at hlt
      exact Nat.lt_of_lt_of_le hlt hp10
    have hI := ih (i + 1) (by omega) (by omega) (by omega) (by
      rw [htk]
      intro c hc
      rcases List.mem_append.1 hc with hc | hc
      · exact hp c hc
      · rw [List.mem_singleton.1 hc]; exact e)
    rw [htk, dec_snoc] at hI
    generalize decV (s.data.toList.take i) = v at *
    have hbl := b.toNat_lt
    have w2 : wrap64 (10 * (v : Int)) = 10 * (v : Int) := by unfold wrap64; omega
    have w1 : wrap64 (wrap64 (10 * (v : Int)) + (((b.toNat : Int) - 48) % 256)) = ((v * 10 + (b.toNat - 48) : Nat) : Int) := by rw [w2]; unfold wrap64; omega
    have w3 : wrap64 ((i : Int) + 1) = ((i + 1 : Nat) : Int) := by unfold wrap64; omega
    rw [w1, w3]
    exact hI
theorem number_ev (s : ByteArray) (hs : s.size ≤ 1000000) : Ev (fun k => basculeref21_number.f k s) (refN s) := by
  have h := number_from s hs s.size 0 (by omega) (by omega) (by omega) (by intro c hc; simp at hc)
  rw [List.drop_zero, List.take_zero] at h
  have e : refN s = (if (decide (s.size ≤ 10) && s.data.toList.all isDg) = true then (numV s, s.toList != []) else (0, false)) := by
    unfold refN
    rw [numB_eq, ByteArray.toList_eq]
    cases hd : s.data.toList with
    | nil =>
      have : s.size = 0 := by rw [Lib.size_eq, hd]; rfl
      rw [this]
      unfold numV decV
      rw [hd]
      rfl
    | cons b r =>
      cases (decide (s.size ≤ 10) && (b :: r).all isDg) <;> rfl
  rw [e]
  exact h
theorem split_no (k : Nat) (x0 : ByteArray) (x3 : List ByteArray) (x4 : ByteArray) (x5 : Int) : basculeref21_split.j1 (k + 1) x0 x3 x4 x5 false = if x4.toList = ([] : List UInt8) then (basculeref21_split.l0 k x0 x3 (⟨#[]⟩ : ByteArray) (wrap64 (x5 + 1))) else (if x3.length < 8796093022208 then (basculeref21_split.l0 k x0 (x3 ++ [x4]) (⟨#[]⟩ : ByteArray) (wrap64 (x5 + 1))) else (none)) := by
  rw [basculeref21_split.j1, if_neg (by decide)]
theorem split_yes (k : Nat) (x0 : ByteArray) (x3 : List ByteArray) (x4 : ByteArray) (x5 : Int) (h0 : 0 ≤ x5) (h1 : x5 + 1 ≤ x0.size) (h2 : x0.size ≤ 1000000) (h3 : x4.size ≤ 1000000) : basculeref21_split.j1 (k + 1) x0 x3 x4 x5 true = basculeref21_split.l0 k x0 x3 (x4 ++ (x0.extract (x5 : Int).toNat ((x5 + 1) : Int).toNat)) (x5 + 1) := by
  have w1 : wrap64 (x5 + 1) = x5 + 1 := by unfold wrap64; omega
  have hs : (x0.extract x5.toNat (x5 + 1).toNat).size ≤ 1000000 := by
    rw [Lib.size_eq, Wd.ext_piece]
    unfold Lib.pieceU
    rw [List.length_take]
    omega
  rw [basculeref21_split.j1, if_pos rfl, if_pos h0, w1, if_pos (by omega), if_pos h1, if_pos (by omega)]
theorem split_from (s : ByteArray) (hs : s.size ≤ 1000000) (d : Nat) : ∀ (i : Nat) (out : List ByteArray) (c : List UInt8), s.size - i = d → i ≤ s.size → out.length ≤ i → c.length ≤ i →
    Ev (fun k => basculeref21_split.l0 k s out (mk c) (i : Int)) (out ++ (Wd.wordsGo c (s.data.toList.drop i)).map mk) := by
  have hl := Lib.size_eq s
  have tl : ∀ c : List UInt8, (mk c).toList = c := fun c => by rw [ByteArray.toList_eq, data_mk]
  have ms : ∀ c : List UInt8, (mk c).size = c.length := fun c => by rw [Lib.size_eq, data_mk]
  induction d with
  | zero =>
    intro i out c hd hi ho hc
    rw [List.drop_eq_nil_of_le (by omega)]
    have w1 : wrap64 ((i : Int) + 1) = ((i + 1 : Nat) : Int) := by unfold wrap64; omega
    have hend : ∀ (o : List ByteArray) (x : ByteArray), Ev (fun k => basculeref21_split.l0 k s o x ((i + 1 : Nat) : Int)) o := fun o x => Ev.step (fun k => rfl) (Ev.neg (by omega) (Ev.ret _))
    refine Ev.step (fun k => rfl) ?_
    refine Ev.pos (by omega) (Ev.neg (by omega) ?_)
    refine Ev.step (fun k => split_no k s out (mk c) i) ?_
    rw [w1]
    unfold Wd.wordsGo
    by_cases h : c = []
    · rw [if_pos h, List.map_nil, List.append_nil]
      exact Ev.pos (by rw [tl]; exact h) (hend _ _)
    · rw [if_neg h]
      refine Ev.neg (by rw [tl]; exact h) ?_
      refine Ev.pos (by omega) ?_
      exact hend _ _
  | succ d ih =>
    intro i out c hd hi ho hc
    obtain ⟨b, hb, hdrop⟩ := drop_at2 s.data.toList i (by omega)
    have hbt := bt_list s i b hb
    have w1 : wrap64 ((i : Int) + 1) = ((i + 1 : Nat) : Int) := by unfold wrap64; omega
    refine Ev.step (fun k => rfl) ?_
    refine Ev.pos (by omega) (Ev.pos (by omega) (Ev.pos (by omega) ?_))
    rw [hbt, hdrop]
    unfold Wd.wordsGo
    by_cases h : b = 32
    · rw [if_pos h]
      have e : ((b.toNat : Int) != 32) = false := by rw [h]; rfl
      rw [e]
      refine Ev.step (fun k => split_no k s out (mk c) i) ?_
      rw [w1]
      by_cases hc0 : c = []
      · rw [if_pos hc0]
        refine Ev.pos (by rw [tl]; exact hc0) ?_
        exact ih (i + 1) out [] (by omega) (by omega) (by omega) (by simp)
      · rw [if_neg hc0]
        refine Ev.neg (by rw [tl]; exact hc0) ?_
        refine Ev.pos (by omega) ?_
        have := ih (i + 1) (out ++ [mk c]) [] (by omega) (by omega) (by rw [List.length_append]; simp; omega) (by simp)
        rw [List.append_assoc] at this
        exact this
    · rw [if_neg h]
      have e : ((b.toNat : Int) != 32) = true := bne_iff_ne.2 (fun e => h (UInt8.toNat_inj.1 (by show b.toNat = 32; omega)))
      rw [e]
      have hx : s.extract (((i : Nat) : Int)).toNat (((i : Nat) : Int) + 1).toNat = mk [b] := by
        rw [Int.toNat_natCast, show (((i : Nat) : Int) + 1).toNat = i + 1 by omega]
        apply ByteArray.ext
        apply Array.toList_inj.1
        rw [Wd.ext_piece, data_mk]
        unfold Lib.pieceU
        rw [hdrop, show i + 1 - i = 1 by omega]
        rfl
      have hap : mk c ++ mk [b] = mk (c ++ [b]) := by
        apply ByteArray.ext
        rw [ByteArray.data_append]
        simp [mk]
      refine Ev.step (fun k => split_yes k s out (mk c) i (by omega) (by omega) hs (by rw [ms]; omega)) ?_
      rw [hx, hap]
      exact ih (i + 1) out (c ++ [b]) (by omega) (by omega) (by omega) (by simp; omega)
theorem wordsGo_len : ∀ (l cur : List UInt8), (Wd.wordsGo cur l).length ≤ l.length + 1
  | [], cur => by
    unfold Wd.wordsGo
    split <;> simp
  | c :: l, cur => by
    unfold Wd.wordsGo
    have h1 := wordsGo_len l []
    have h2 := wordsGo_len l (cur ++ [c])
    rw [List.length_cons]
    split
    · split
      · omega
      · rw [List.length_cons]; omega
    · omega
theorem split_ev (s : ByteArray) (hs : s.size ≤ 1000000) : Ev (fun k => basculeref21_split.f k s) (wordsOf s) := by
  have := split_from s hs s.size 0 [] [] (by omega) (by omega) (by simp) (by simp)
  rw [List.drop_zero, List.nil_append, ← words_mk] at this
  exact this
end Go.Proofs.YtbfhiiokajbdhaaGreatDoor.Fl
