/- What the proof of TableFind leans on: PWd. -/
import Derived.Lib.FieldsP
import Derived.Lib.SplitLaws
import Derived.Lib.DecodeN
import Derived.Lib.IndexLaws
set_option linter.unusedVariables false
set_option linter.unusedSimpArgs false
namespace Go.Proofs.YtbfhiiokajbdhaaGreatDoor.Wd
open Go Go.Lib
def wordsGo : List UInt8 → List UInt8 → List (List UInt8)
  | cur, [] => if cur = [] then [] else [cur]
  | cur, c :: l => if c = 32 then (if cur = [] then wordsGo [] l else cur :: wordsGo [] l) else wordsGo (cur ++ [c]) l
theorem wordsGo_no : ∀ (xs cur l : List UInt8), (32 : UInt8) ∉ xs → wordsGo cur (xs ++ l) = wordsGo (cur ++ xs) l
  | [], cur, l, _ => by simp
  | x :: xs, cur, l, h => by
    rw [List.mem_cons, not_or] at h
    show (if x = 32 then _ else wordsGo (cur ++ [x]) (xs ++ l)) = _
    rw [if_neg (fun e => h.1 e.symm), wordsGo_no xs _ l h.2]
    simp
theorem dec_facts (n b0 b1 b2 b3 : Nat) (hn : 1 ≤ n) (h0 : b0 < 256) (h1 : b1 < 256) (h2 : b2 < 256) (h3 : b3 < 256) :
    1 ≤ (decodeN n b0 b1 b2 b3).2 ∧ (decodeN n b0 b1 b2 b3).2 ≤ n ∧ (decodeN n b0 b1 b2 b3).2 ≤ 4 ∧ ((decodeN n b0 b1 b2 b3).1 = 32 ↔ b0 = 32) ∧ (b0 = 32 → (decodeN n b0 b1 b2 b3).2 = 1) ∧
    (2 ≤ (decodeN n b0 b1 b2 b3).2 → b1 ≠ 32) ∧ (3 ≤ (decodeN n b0 b1 b2 b3).2 → b2 ≠ 32) ∧ (4 ≤ (decodeN n b0 b1 b2 b3).2 → b3 ≠ 32) := by
  unfold decodeN
  repeat' split
  all_goals (refine ⟨?_, ?_, ?_, ?_, ?_, ?_, ?_, ?_⟩ <;> first | (intro h; simp only at h ⊢; omega) | (simp only; omega) | (constructor <;> intro h <;> simp only at h ⊢ <;> omega) | (intro h; rfl) | exact Iff.rfl | (intro h; exfalso; simp only at h; omega) | (intro h; exfalso; revert h; decide))
theorem get_list (s : ByteArray) (i : Nat) : (s.get! i) = s.data.toList.getD i default := by
  show s.data[i]! = _
  rw [List.getD_eq_getElem?_getD]
  by_cases h : i < s.data.size
  · rw [getElem!_pos s.data i h, Array.getElem?_toList, Array.getElem?_eq_getElem h]
    rfl
  · rw [getElem!_neg s.data i h, Array.getElem?_toList, Array.getElem?_eq_none (by omega)]
    rfl
theorem take_no (l : List UInt8) (pos k : Nat) (hk : k ≤ 4) (h0 : 1 ≤ k → l.getD pos default ≠ 32) (h1 : 2 ≤ k → l.getD (pos + 1) default ≠ 32) (h2 : 3 ≤ k → l.getD (pos + 2) default ≠ 32) (h3 : 4 ≤ k → l.getD (pos + 3) default ≠ 32) : (32 : UInt8) ∉ (l.drop pos).take k := by
  intro hm
  obtain ⟨j, hj, he⟩ := List.mem_iff_getElem.1 hm
  rw [List.length_take, List.length_drop] at hj
  have hg : l.getD (pos + j) default = 32 := by
    rw [List.getElem_take, List.getElem_drop] at he
    rw [List.getD_eq_getElem?_getD, List.getElem?_eq_getElem (by omega)]
    exact he
  rcases (by omega : j = 0 ∨ j = 1 ∨ j = 2 ∨ j = 3) with rfl | rfl | rfl | rfl
  · exact h0 (by omega) hg
  · exact h1 (by omega) hg
  · exact h2 (by omega) hg
  · exact h3 (by omega) hg
def P32 : Nat → Bool := fun c => c == 32
theorem spansP_eq (s : ByteArray) : ∀ (f pos : Nat) (st : Option Nat) (acc : List (Nat × Nat)), s.size ≤ pos + f → pos ≤ s.size → (∀ a, st = some a → a < pos) →
    (closeSpans s (spansFromP P32 s f pos st acc)).map (fun p => pieceU s.data.toList p.1 p.2) = acc.map (fun p => pieceU s.data.toList p.1 p.2) ++ wordsGo (openPiece s.data.toList st pos) (s.data.toList.drop pos) := by
  intro f
  have hend : ∀ (pos : Nat) (st : Option Nat) (acc : List (Nat × Nat)), pos = s.size → (∀ a, st = some a → a < pos) → (closeSpans s (acc, st)).map (fun p => pieceU s.data.toList p.1 p.2) = acc.map (fun p => pieceU s.data.toList p.1 p.2) ++ wordsGo (openPiece s.data.toList st pos) (s.data.toList.drop pos) := by
    rintro pos st acc rfl hst
    have hd : s.data.toList.drop s.size = [] := List.drop_eq_nil_of_le (by rw [← size_eq]; exact Nat.le_refl _)
    rw [hd]
    cases st with
    | none => simp [closeSpans, openPiece, wordsGo]
    | some a =>
      have ha := hst a rfl
      have hne := pieceU_ne s.data.toList a s.size ha (by rw [← size_eq]; exact Nat.le_refl _)
      simp [closeSpans, openPiece, wordsGo, hne]
  induction f with
  | zero => intro pos st acc h hp hst; exact hend pos st acc (by omega) hst
  | succ f ih =>
    intro pos st acc h hp hst
    by_cases hlt : pos < s.size
    · unfold spansFromP
      rw [if_pos hlt]
      have hL := size_eq s
      have hdl := decode_at s pos
      have F := dec_facts (s.size - pos) (s.get! pos).toNat (s.get! (pos + 1)).toNat (s.get! (pos + 2)).toNat (s.get! (pos + 3)).toNat (by omega) (UInt8.toNat_lt _) (UInt8.toNat_lt _) (UInt8.toNat_lt _) (UInt8.toNat_lt _)
      rw [← hdl] at F
      obtain ⟨f1, f2, f4, f5, f6, f7, f8, f9⟩ := F
      generalize Utf8.decode s pos = d at *
      obtain ⟨c, n⟩ := d
      simp only at f1 f2 f4 f5 f6 f7 f8 f9 ⊢
      have ne : ∀ i, (s.get! i).toNat ≠ 32 → s.data.toList.getD i default ≠ 32 := by
        intro i hi e
        rw [get_list s i, e] at hi
        exact hi rfl
      have hsplit : s.data.toList.drop pos = (s.data.toList.drop pos).take n ++ s.data.toList.drop (pos + n) := by
        rw [← List.drop_drop, List.take_append_drop]
      by_cases hc : c = 32
      · have hb0 := f5.1 hc
        have hn := f6 hb0
        subst hn
        rw [if_pos (by unfold P32; rw [hc]; rfl)]
        have hd : s.data.toList.drop pos = 32 :: s.data.toList.drop (pos + 1) := by
          rw [List.drop_eq_getElem_cons (by omega)]
          have : s.data.toList[pos]'(by omega) = 32 := by
            have hg := get_list s pos
            rw [List.getD_eq_getElem?_getD, List.getElem?_eq_getElem (by omega)] at hg
            rw [← UInt8.toNat_inj]
            have : (s.get! pos).toNat = 32 := hb0
            rw [hg] at this
            exact this
          rw [this]
        rw [hd]
        cases st with
        | none =>
          have := ih (pos + 1) none acc (by omega) (by omega) (fun a h => by cases h)
          rw [this]
          simp [openPiece, wordsGo]
        | some a =>
          have ha := hst a rfl
          have hne := pieceU_ne s.data.toList a pos ha (by omega)
          have := ih (pos + 1) none (acc ++ [(a, pos)]) (by omega) (by omega) (fun a h => by cases h)
          rw [this]
          simp [openPiece, wordsGo, hne]
      · rw [if_neg (by unfold P32; simpa using hc)]
        have hb0 : (s.get! pos).toNat ≠ 32 := fun e => hc (f5.2 e)
        have hno := take_no s.data.toList pos n f4 (fun _ => ne _ hb0) (fun h => ne _ (f7 h)) (fun h => ne _ (f8 h)) (fun h => ne _ (f9 h))
        rw [hsplit, wordsGo_no _ _ _ hno]
        cases st with
        | none =>
          have := ih (pos + n) (some pos) acc (by omega) (by omega) (fun a h => by cases h; omega)
          rw [this]
          have e : openPiece s.data.toList (some pos) (pos + n) = [] ++ (s.data.toList.drop pos).take n := by simp [openPiece, pieceU]
          rw [e]
          rfl
        | some a =>
          have ha := hst a rfl
          have := ih (pos + n) (some a) acc (by omega) (by omega) (fun b h => by cases h; omega)
          rw [this]
          have e : openPiece s.data.toList (some a) (pos + n) = openPiece s.data.toList (some a) pos ++ (s.data.toList.drop pos).take n := (pieceU_grow s.data.toList a pos n (by omega)).symm
          rw [e]
    · have he : pos = s.size := by omega
      rw [spansFromP_end P32 s (f + 1) pos st acc hlt]
      exact hend pos st acc he hst
theorem ext_piece (s : ByteArray) (a b : Nat) : (s.extract a b).data.toList = pieceU s.data.toList a b := by
  unfold pieceU
  rw [ByteArray.data_extract, Array.toList_extract, List.extract_eq_take_drop]
theorem words_plain (s : ByteArray) : (goFieldsP (fun c => c == 32) s).map (·.data.toList) = wordsGo [] s.data.toList := by
  have := spansP_eq s s.size 0 none [] (by omega) (by omega) (fun a h => by cases h)
  unfold goFieldsP spansOfP
  rw [List.map_map]
  simp only [List.map_nil, List.nil_append, List.drop_zero] at this
  have e : ((fun x : ByteArray => x.data.toList) ∘ fun x : Nat × Nat => s.extract x.1 x.2) = fun p => pieceU s.data.toList p.1 p.2 := by
    funext p
    exact ext_piece s p.1 p.2
  rw [e]
  exact this
theorem wordsGo_ok : ∀ (l cur : List UInt8) (w : List UInt8), w ∈ wordsGo cur l → w ≠ [] ∧ w.length ≤ cur.length + l.length ∧ ((32 : UInt8) ∉ cur → (32 : UInt8) ∉ w)
  | [], cur, w, h => by
    unfold wordsGo at h
    split at h
    · simp at h
    · rename_i hc
      obtain rfl := List.mem_singleton.1 h
      exact ⟨hc, by simp, id⟩
  | c :: l, cur, w, h => by
    unfold wordsGo at h
    split at h
    · split at h
      · obtain ⟨h1, h2, h3⟩ := wordsGo_ok l [] w h
        exact ⟨h1, by simp at h2 ⊢; omega, fun _ => h3 (by simp)⟩
      · rename_i hc
        rcases List.mem_cons.1 h with rfl | h
        · exact ⟨hc, by simp, id⟩
        · obtain ⟨h1, h2, h3⟩ := wordsGo_ok l [] w h
          exact ⟨h1, by simp at h2 ⊢; omega, fun _ => h3 (by simp)⟩
    · rename_i hc
      obtain ⟨h1, h2, h3⟩ := wordsGo_ok l (cur ++ [c]) w h
      refine ⟨h1, by simp at h2 ⊢; omega, fun hn => h3 ?_⟩
      rw [List.mem_append, List.mem_singleton, not_or]
      exact ⟨hn, fun e => hc e.symm⟩
theorem word_ok (s x : ByteArray) (h : x ∈ goFieldsP (fun c => c == 32) s) : 0 < x.size ∧ x.size ≤ s.size := by
  have hm : x.data.toList ∈ wordsGo [] s.data.toList := by rw [← words_plain]; exact List.mem_map_of_mem h
  obtain ⟨h1, h2, -⟩ := wordsGo_ok _ _ _ hm
  have := List.length_pos_iff.2 h1
  have e1 := size_eq x
  have e2 := size_eq s
  simp only [List.length_nil] at h2
  omega
def linesGo : List UInt8 → List UInt8 → List (List UInt8)
  | cur, [] => [cur]
  | cur, c :: l => if c = 10 then cur :: linesGo [] l else linesGo (cur ++ [c]) l
theorem linesGo_no : ∀ (xs cur l : List UInt8), (10 : UInt8) ∉ xs → linesGo cur (xs ++ l) = linesGo (cur ++ xs) l
  | [], cur, l, _ => by simp
  | x :: xs, cur, l, h => by
    rw [List.mem_cons, not_or] at h
    show (if x = 10 then _ else linesGo (cur ++ [x]) (xs ++ l)) = _
    rw [if_neg (fun e => h.1 e.symm), linesGo_no xs _ l h.2]
    simp
theorem lines_one (l : List UInt8) (h : index l [10] = -1) : linesGo [] l = [l] := by
  have hn : (10 : UInt8) ∉ l := by
    intro hm
    obtain ⟨j, hj, he⟩ := List.mem_iff_getElem.1 hm
    rw [index_one] at h
    exact indexByte_none h j (by rw [List.getElem?_eq_getElem hj, he])
  have := linesGo_no l [] [] hn
  rw [List.append_nil] at this
  rw [this]
  simp [linesGo]
theorem splitK_lines : ∀ (k : Nat) (l : List UInt8), count l [10] ≤ k → splitK [10] 0 k l = linesGo [] l
  | 0, l, h => by
    have hi : index l [10] = -1 := by
      rcases index_spec l [10] with ⟨h1, _⟩ | ⟨i, h1, _⟩
      · exact h1
      · rw [count_hit (by simp) h1] at h; omega
    rw [lines_one l hi]
    rfl
  | k + 1, l, h => by
    unfold splitK
    rcases index_spec l [10] with ⟨h1, _⟩ | ⟨i, h1, _⟩
    · rw [if_pos (beq_iff_eq.2 h1), lines_one l h1]
    · have hne : ¬ ((index l [10] == -1) = true) := fun e => by have := beq_iff_eq.1 e; omega
      have hc := count_hit (sub := [10]) (by simp) h1
      rw [if_neg hne, h1]
      have e0 : ((i : Int)).toNat = i := rfl
      rw [e0, Nat.add_zero, splitK_lines k _ (by rw [List.length_cons, List.length_nil] at hc ⊢; omega)]
      have h2 := h1
      rw [index_one] at h2
      obtain ⟨h3, h4⟩ := indexByte_some h2
      have hi : i < l.length := (List.getElem?_eq_some_iff.1 h3).1
      have hx : l[i]'hi = 10 := (List.getElem?_eq_some_iff.1 h3).2
      have hno : (10 : UInt8) ∉ l.take i := by
        intro hm
        obtain ⟨j, hj, he⟩ := List.mem_iff_getElem.1 hm
        rw [List.length_take] at hj
        rw [List.getElem_take] at he
        exact h4 j (by omega) (by rw [List.getElem?_eq_getElem (by omega), he])
      have hl : l = l.take i ++ 10 :: l.drop (i + 1) := by
        have := (List.take_append_drop i l).symm
        rw [List.drop_eq_getElem_cons hi, hx] at this
        exact this
      have := linesGo_no (l.take i) [] (10 :: l.drop (i + 1)) hno
      rw [← hl] at this
      rw [this]
      simp [linesGo]
theorem lines_plain (s : ByteArray) : (splitB ⟨#[10]⟩ 0 (countB s ⟨#[10]⟩) s).map (·.data.toList) = linesGo [] s.data.toList := by
  rw [splitB_data]
  exact splitK_lines _ _ (Nat.le_refl _)
theorem linesGo_size : ∀ (l cur x : List UInt8), x ∈ linesGo cur l → x.length ≤ cur.length + l.length
  | [], cur, x, h => by
    obtain rfl := List.mem_singleton.1 h
    simp
  | c :: l, cur, x, h => by
    unfold linesGo at h
    split at h
    · rcases List.mem_cons.1 h with rfl | h
      · simp
      · have := linesGo_size l [] x h
        simp at this ⊢
        omega
    · have := linesGo_size l (cur ++ [c]) x h
      simp at this ⊢
      omega
theorem linesGo_len : ∀ (l cur : List UInt8), (linesGo cur l).length ≤ l.length + 1
  | [], cur => by simp [linesGo]
  | c :: l, cur => by
    unfold linesGo
    split
    · have := linesGo_len l []
      simp at this ⊢
      omega
    · have := linesGo_len l (cur ++ [c])
      simp at this ⊢
      omega
theorem line_ok (s x : ByteArray) (h : x ∈ splitB ⟨#[10]⟩ 0 (countB s ⟨#[10]⟩) s) : x.size ≤ s.size := by
  have hm : x.data.toList ∈ linesGo [] s.data.toList := by rw [← lines_plain]; exact List.mem_map_of_mem h
  have h2 := linesGo_size _ _ _ hm
  have e1 := size_eq x
  have e2 := size_eq s
  simp only [List.length_nil] at h2
  omega
theorem lines_len (s : ByteArray) : (splitB ⟨#[10]⟩ 0 (countB s ⟨#[10]⟩) s).length ≤ s.size + 1 := by
  have := linesGo_len s.data.toList []
  rw [← lines_plain, List.length_map] at this
  rw [size_eq s]
  exact this
end Go.Proofs.YtbfhiiokajbdhaaGreatDoor.Wd
