/- What the proof of TableParses leans on: PureTableParses. -/
import Derived.Test.YtbfhiiokajbdhaaGreatDoorSTableParsesPTb
import Derived.Test.YtbfhiiokajbdhaaGreatDoorSTableParsesNum21
import Derived.Test.YtbfhiiokajbdhaaGreatDoorSTableParsesRowH
import Derived.Test.YtbfhiiokajbdhaaGreatDoorSTableParsesPRef21
import Derived.Test.YtbfhiiokajbdhaaGreatDoorSTableParsesQx11
import Derived.Test.YtbfhiiokajbdhaaGreatDoorSTableParsesQx12
set_option linter.unusedVariables false
set_option linter.unusedSimpArgs false
set_option maxRecDepth 100000
namespace Go.Proofs.YtbfhiiokajbdhaaGreatDoor.Fl
open Go.RowKit Go.Proofs.YtbfhiiokajbdhaaGreatDoorW.PrintWords Go.Proofs.YtbfhiiokajbdhaaGreatDoor.Q Go.Proofs.YtbfhiiokajbdhaaGreatDoor.Val
theorem goW_len2 : ∀ (L : List (List ByteArray)) (i : Nat) (acc : List S34), (goW L i acc).1.length ≤ acc.length + L.length ∧ 0 ≤ (goW L i acc).2.1 ∧ (goW L i acc).2.1 ≤ i + L.length
  | [], i, acc => ⟨Nat.le_refl _, Int.le_refl 0, show (0 : Int) ≤ (i : Int) + (0 : Nat) by omega⟩
  | ws :: L, i, acc => by
    unfold goW
    rw [List.length_cons]
    by_cases hs : skipB ws = true
    · rw [if_pos hs]
      have := goW_len2 L (i + 1) acc
      omega
    · rw [if_neg hs]
      cases rowOf ws with
      | none => exact ⟨Nat.zero_le _, show (0 : Int) ≤ (i : Int) + 1 by omega, show (i : Int) + 1 ≤ _ by omega⟩
      | some r =>
        simp only
        generalize nextE acc r.f0 r.f1 r.f2 r.f3 r.f4 r.f5 r.f6 r.f7 = q
        by_cases hq : q = 0
        · rw [if_pos hq]
          have := goW_len2 L (i + 1) (acc ++ [r])
          rw [List.length_append, List.length_singleton] at this
          omega
        · rw [if_neg hq]
          exact ⟨Nat.zero_le _, show (0 : Int) ≤ (i : Int) + 1 by omega, show (i : Int) + 1 ≤ _ by omega⟩
theorem wdsL_len2 (l : List UInt8) : (wdsL l).length ≤ l.length + 1 := by
  unfold wdsL
  rw [List.length_map]
  exact Wd.linesGo_len l []
theorem rows_ev2 (l : List S34) (hl : l.length ≤ 1000000) : Ev (fun k => basculeref21_Rows.f k l l) true := by
  refine ⟨l.length + 1, fun k hk => ?_⟩
  have := rows_self l hl (k - (l.length + 1))
  rwa [show k - (l.length + 1) + l.length + 1 = k by omega] at this
theorem words_ext (s : ByteArray) (a b : Nat) : wordsOf (s.extract a b) = (Wd.wordsGo [] (Lib.pieceU s.data.toList a b)).map mk := by
  rw [words_mk, Wd.ext_piece]
theorem parse_line (s : ByteArray) (hs : s.size ≤ 900000) (acc : List S34) (fr n i : Nat) (hfr : fr ≤ i) (hi : i ≤ s.size) (hn : n ≤ i) (hacc : acc.length ≤ i) (L : List (List ByteArray))
    (cont : ∀ acc' : List S34, acc'.length ≤ i + 1 → Ev (fun k => basculeref21_Parse.l0 k s acc' ((i + 1 : Nat) : Int) ((n + 1 + 1 : Nat) : Int) ((i + 1 : Nat) : Int)) (goW L (n + 1) acc')) :
    Ev (fun k => basculeref21_Parse.j1 k s acc (fr : Int) ((n + 1 : Nat) : Int) (i : Int) false) (goW (wordsOf (s.extract fr i) :: L) n acc) := by
  have w1 : wrap64 ((i : Int) + 1) = ((i + 1 : Nat) : Int) := by unfold wrap64; omega
  have w2 : wrap64 (((n + 1 : Nat) : Int) + 1) = ((n + 1 + 1 : Nat) : Int) := by unfold wrap64; omega
  refine Ev.step (fun k => by rw [basculeref21_Parse.j1, if_neg (by decide), if_pos (by omega), if_pos (by omega), if_pos (by omega)]) ?_
  rw [Int.toNat_natCast, Int.toNat_natCast]
  have hx : (s.extract fr i).size ≤ 900000 := by
    rw [Lib.size_eq, Wd.ext_piece]
    unfold Lib.pieceU
    rw [List.length_take]
    omega
  refine Ev.bind (split_ev (s.extract fr i) (by omega)) ?_
  have hok := fun x hx' => Wd.word_ok (s.extract fr i) x hx'
  have hlen : (wordsOf (s.extract fr i)).length ≤ 1000000 := by
    rw [words_mk, List.length_map]
    refine Nat.le_trans (wordsGo_len _ _) ?_
    rw [← Lib.size_eq]
    omega
  rw [show Lib.goFieldsP (fun c => c == 32) (s.extract fr i) = wordsOf (s.extract fr i) from rfl] at hok
  generalize wordsOf (s.extract fr i) = ws at *
  cases ws with
  | nil =>
    refine Ev.neg (by simp) ?_
    refine Ev.step (fun k => by rw [basculeref21_Parse.j2, if_neg (by decide)]) ?_
    rw [w1, w2]
    exact cont acc (by omega)
  | cons x xs =>
    refine Ev.pos (by rw [List.length_cons]; omega) (Ev.pos (by rw [List.length_cons]; omega) ?_)
    rw [show rdOf ByteArray.empty (x :: xs) 0 = x from rfl]
    have hx0 := hok x (by simp)
    refine Ev.pos (by omega) ?_
    show Ev _ (if (bt x 0 == 35) = true then _ else _)
    by_cases h35 : bt x 0 = 35
    · rw [if_pos (beq_iff_eq.2 h35)]
      have e : (bt x 0 != 35) = false := by rw [h35]; rfl
      rw [e]
      refine Ev.step (fun k => by rw [basculeref21_Parse.j2, if_neg (by decide)]) ?_
      rw [w1, w2]
      exact cont acc (by omega)
    · rw [if_neg (fun e => h35 (beq_iff_eq.1 e))]
      have e : (bt x 0 != 35) = true := bne_iff_ne.2 h35
      rw [e]
      refine Ev.step (fun k => by rw [basculeref21_Parse.j2, if_pos rfl]) ?_
      have hr : basculeref21_row.f (x :: xs) = some _ := if_pos ⟨hlen, List.all_eq_true.2 (fun y hy => decide_eq_true (Nat.le_trans (hok y hy).2 (Nat.le_trans hx (by decide))))⟩
      refine Ev.fst hr ?_
      unfold rrB rrS
      cases hro : rowOf (x :: xs) with
      | none =>
        refine Ev.neg (by simp) ?_
        exact Ev.ret _
      | some r =>
        refine Ev.pos rfl ?_
        refine Ev.bind (error21_ev acc (by omega) _ _ _ _ _ _ _ _) ?_
        show Ev _ (if nextE acc r.f0 r.f1 r.f2 r.f3 r.f4 r.f5 r.f6 r.f7 = 0 then _ else _)
        by_cases hE : nextE acc r.f0 r.f1 r.f2 r.f3 r.f4 r.f5 r.f6 r.f7 = 0
        · rw [if_pos hE]
          refine Ev.pos hE ?_
          refine Ev.pos (by omega) ?_
          rw [w1, w2]
          exact cont (acc ++ [r]) (by rw [List.length_append]; simp; omega)
        · rw [if_neg hE]
          refine Ev.neg hE ?_
          exact Ev.ret _
theorem parse_from (s : ByteArray) (hs : s.size ≤ 900000) (d : Nat) : ∀ (i fr n : Nat) (acc : List S34), s.size - i = d → i ≤ s.size → fr ≤ i → n ≤ i → acc.length ≤ i →
    Ev (fun k => basculeref21_Parse.l0 k s acc (fr : Int) ((n + 1 : Nat) : Int) (i : Int)) (goW ((Wd.linesGo (Lib.pieceU s.data.toList fr i) (s.data.toList.drop i)).map fun x => (Wd.wordsGo [] x).map mk) n acc) := by
  have hl := Lib.size_eq s
  induction d with
  | zero =>
    intro i fr n acc hd hi hfr hn hacc
    rw [List.drop_eq_nil_of_le (by omega)]
    refine Ev.step (fun k => rfl) ?_
    refine Ev.pos (by omega) (Ev.neg (by omega) ?_)
    have h := parse_line s hs acc fr n i hfr hi hn hacc [] (fun acc' _ => Ev.step (fun k => rfl) (Ev.neg (by omega) (Ev.ret _)))
    rw [words_ext] at h
    exact h
  | succ d ih =>
    intro i fr n acc hd hi hfr hn hacc
    obtain ⟨b, hb, hdrop⟩ := drop_at s.data.toList i (by omega)
    have hbt := bt_list s i b hb
    refine Ev.step (fun k => rfl) ?_
    refine Ev.pos (by omega) (Ev.pos (by omega) (Ev.pos (by omega) ?_))
    rw [hbt, hdrop]
    unfold Wd.linesGo
    by_cases h : b = 10
    · rw [if_pos h]
      have e : ((b.toNat : Int) != 10) = false := by rw [h]; rfl
      rw [e, List.map_cons, ← words_ext]
      refine parse_line s hs acc fr n i hfr hi hn hacc _ (fun acc' ha => ?_)
      have hI := ih (i + 1) (i + 1) (n + 1) acc' (by omega) (by omega) (by omega) (by omega) ha
      have ep : Lib.pieceU s.data.toList (i + 1) (i + 1) = [] := by unfold Lib.pieceU; simp
      rw [ep] at hI
      exact hI
    · rw [if_neg h]
      have e : ((b.toNat : Int) != 10) = true := bne_iff_ne.2 (fun e => h (UInt8.toNat_inj.1 (by show b.toNat = 10; omega)))
      rw [e]
      refine Ev.step (fun k => by rw [basculeref21_Parse.j1, if_pos rfl]) ?_
      have w1 : wrap64 ((i : Int) + 1) = ((i + 1 : Nat) : Int) := by unfold wrap64; omega
      rw [w1]
      clear w1
      have hI := ih (i + 1) fr n acc (by omega) (by omega) (by omega) (by omega) (by omega)
      have ep : Lib.pieceU s.data.toList fr (i + 1) = Lib.pieceU s.data.toList fr i ++ [b] := by
        rw [← Lib.pieceU_grow s.data.toList fr i 1 hfr, hdrop]
        rfl
      rw [ep] at hI
      exact hI
theorem parse21_ev (s : ByteArray) (hs : s.size ≤ 900000) : Ev (fun k => basculeref21_Parse.f k s) (goW (wdsL s.data.toList) 0 []) := by
  have h := parse_from s hs s.size 0 0 0 [] (by omega) (by omega) (by omega) (by omega) (by simp)
  rw [List.drop_zero] at h
  exact h
theorem tableParses_pure : basculelaw21_TableParses.Pure := by
  intro a0 _
  have hev : Ev (fun k => basculelaw21_TableParses.f k a0) true := by
    by_cases h : (a0.size : Int) > 5000
    · exact Ev.pos h (Ev.ret _)
    · refine Ev.neg h ?_
      refine Ev.fst (pf a0 (by omega)) ?_
      refine Ev.bind (parse21_ev a0 (by omega)) ?_
      refine Ev.fst awake_true ?_
      refine Ev.pos rfl ?_
      have hlen := (goW_len2 (wdsL a0.data.toList) 0 []).1
      have hwl := wdsL_len2 a0.data.toList
      have hsz := Lib.size_eq a0
      generalize goW (wdsL a0.data.toList) 0 [] = q at *
      refine Ev.bind (rows_ev2 q.1 (by simp at hlen; omega)) ?_
      refine Ev.pos rfl (Ev.pos rfl (Ev.ret' ?_))
      simp
  exact hev.rounds
end Go.Proofs.YtbfhiiokajbdhaaGreatDoor.Fl
namespace Go.Proofs.YtbfhiiokajbdhaaGreatDoor.Pure
theorem TableParses : Go.Proofs.YtbfhiiokajbdhaaGreatDoor.Q.basculelaw21_TableParses.Pure := Go.Proofs.YtbfhiiokajbdhaaGreatDoor.Fl.tableParses_pure
end Go.Proofs.YtbfhiiokajbdhaaGreatDoor.Pure
