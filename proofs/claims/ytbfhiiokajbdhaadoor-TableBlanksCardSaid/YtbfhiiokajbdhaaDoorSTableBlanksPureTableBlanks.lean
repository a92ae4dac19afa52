/- What the proof of TableBlanks leans on: PureTableBlanks. -/
import Derived.Test.YtbfhiiokajbdhaaDoorSTableBlanksPTb
import Derived.Test.YtbfhiiokajbdhaaDoorSTableBlanksQx7
set_option linter.unusedVariables false
set_option linter.unusedSimpArgs false
namespace Go.Proofs.YtbfhiiokajbdhaaDoor.Fl
open Go.RowKit Go.Proofs.YtbfhiiokajbdhaaDoor.Q Go.Proofs.YtbfhiiokajbdhaaDoor.Val Go.Proofs.YtbfhiiokajbdhaaDoorW.PrintWords
def ex1 (c : UInt8) : List UInt8 := if c = 10 ∨ c = 32 then [32, 32, c] else [c]
def expand (l : List UInt8) : List UInt8 := l.flatMap ex1
def exp2 (l : List UInt8) : List UInt8 := l.flatMap fun c => if c = 32 then [32, 32, 32] else [c]
def cm : List UInt8 := [32, 32, 35, 32, 120, 10]
def rep (n : Nat) : List UInt8 := (List.replicate n cm).flatten
theorem exp2_app (a b : List UInt8) : exp2 (a ++ b) = exp2 a ++ exp2 b := by unfold exp2; rw [List.flatMap_append]
theorem lines_more : ∀ (t cur : List UInt8), Wd.linesGo (exp2 cur) (expand t ++ [32, 32]) = (Wd.linesGo cur t).map fun ln => exp2 ln ++ [32, 32]
  | [], cur => by
    show Wd.linesGo (exp2 cur) [32, 32] = [exp2 cur ++ [32, 32]]
    simp [Wd.linesGo]
  | c :: t, cur => by
    have e : expand (c :: t) = ex1 c ++ expand t := rfl
    rw [e]
    by_cases h : c = 10
    · subst h
      have ih := lines_more t []
      have e0 : exp2 [] = [] := rfl
      rw [e0] at ih
      have e1 : ex1 10 = [32, 32, 10] := rfl
      rw [e1]
      have e2 : Wd.linesGo cur (10 :: t) = cur :: Wd.linesGo [] t := by simp [Wd.linesGo]
      rw [e2, List.map_cons, ← ih]
      simp [Wd.linesGo]
    · have e2 : Wd.linesGo cur (c :: t) = Wd.linesGo (cur ++ [c]) t := by simp [Wd.linesGo, h]
      rw [e2, ← lines_more t (cur ++ [c]), exp2_app]
      by_cases h2 : c = 32
      · subst h2
        have e1 : ex1 32 = [32, 32, 32] := rfl
        have e3 : exp2 [32] = [32, 32, 32] := rfl
        rw [e1, e3]
        simp [Wd.linesGo]
      · have e1 : ex1 c = [c] := by unfold ex1; rw [if_neg (by simp [h, h2])]
        have e3 : exp2 [c] = [c] := by simp [exp2, h2]
        rw [e1, e3]
        simp [Wd.linesGo, h]
theorem words_more : ∀ (l cur : List UInt8), Wd.wordsGo cur (exp2 l ++ [32, 32]) = Wd.wordsGo cur l
  | [], cur => by
    show Wd.wordsGo cur [32, 32] = Wd.wordsGo cur []
    by_cases h : cur = [] <;> simp [Wd.wordsGo, h]
  | c :: l, cur => by
    by_cases h : c = 32
    · subst h
      have e : exp2 (32 :: l) = 32 :: 32 :: 32 :: exp2 l := rfl
      have ih := words_more l []
      rw [e]
      by_cases hc : cur = [] <;> simp [Wd.wordsGo, hc, ih]
    · have e : exp2 (c :: l) = c :: exp2 l := by simp [exp2, h]
      rw [e]
      have ih := words_more l (cur ++ [c])
      simp [Wd.wordsGo, h, ih]
theorem lines_rep : ∀ (n : Nat) (l : List UInt8), Wd.linesGo [] (rep n ++ l) = List.replicate n [32, 32, 35, 32, 120] ++ Wd.linesGo [] l
  | 0, l => rfl
  | n + 1, l => by
    have e : rep (n + 1) ++ l = 32 :: 32 :: 35 :: 32 :: 120 :: 10 :: (rep n ++ l) := rfl
    rw [e, List.replicate_succ, List.cons_append, ← lines_rep n l]
    simp [Wd.linesGo]
def cW : List ByteArray := [mk [35], mk [120]]
theorem wds_more (a : Nat) (t : List UInt8) : wdsL (rep a ++ (expand t ++ [32, 32])) = List.replicate a cW ++ wdsL t := by
  unfold wdsL
  have h := lines_more t []
  have e0 : exp2 [] = [] := rfl
  rw [e0] at h
  rw [lines_rep, h, List.map_append, List.map_replicate, List.map_map]
  have e1 : (List.map mk (Wd.wordsGo [] [32, 32, 35, 32, 120])) = cW := by decide +kernel
  rw [e1]
  congr 1
  apply List.map_congr_left
  intro x _
  show List.map mk (Wd.wordsGo [] (exp2 x ++ [32, 32])) = _
  rw [words_more]
theorem goW_skip : ∀ (a i : Nat) (L : List (List ByteArray)) (acc : List S36), goW (List.replicate a cW ++ L) i acc = goW L (i + a) acc
  | 0, _, _, _ => rfl
  | a + 1, i, L, acc => by
    rw [List.replicate_succ, List.cons_append]
    have e : skipB cW = true := by decide +kernel
    show goW (cW :: (List.replicate a cW ++ L)) i acc = _
    unfold goW
    rw [if_pos e, goW_skip a (i + 1) L acc, show i + 1 + a = i + (a + 1) by omega]
    cases L <;> rfl
theorem goW_shift (a : Nat) : ∀ (L : List (List ByteArray)) (i : Nat) (acc : List S36), goW L (i + a) acc = ((goW L i acc).1, (if (goW L i acc).2.2 = 0 then (goW L i acc).2.1 else (goW L i acc).2.1 + a), (goW L i acc).2.2)
  | [], i, acc => rfl
  | ws :: L, i, acc => by
    unfold goW
    have e1 : i + a + 1 = i + 1 + a := by omega
    by_cases hs : skipB ws = true
    · rw [if_pos hs, if_pos hs, e1]
      exact goW_shift a L (i + 1) acc
    · rw [if_neg hs, if_neg hs]
      cases rowOf ws with
      | none =>
        show (([] : List S36), ((i + a : Nat) : Int) + 1, (4 : Int)) = ([], (if (4 : Int) = 0 then (i : Int) + 1 else (i : Int) + 1 + a), 4)
        rw [if_neg (by decide), show ((i + a : Nat) : Int) + 1 = (i : Int) + 1 + a by omega]
      | some r =>
        simp only
        generalize nextE acc r.f0 r.f1 r.f2 r.f3 r.f4 r.f5 r.f6 r.f7 = q
        by_cases hq : q = 0
        · rw [if_pos hq, if_pos hq, e1]
          exact goW_shift a L (i + 1) _
        · rw [if_neg hq, if_neg hq]
          simp only
          rw [if_neg hq, show ((i + a : Nat) : Int) + 1 = (i : Int) + 1 + a by omega]
theorem goW_len : ∀ (L : List (List ByteArray)) (i : Nat) (acc : List S36), (goW L i acc).1.length ≤ acc.length + L.length ∧ 0 ≤ (goW L i acc).2.1 ∧ (goW L i acc).2.1 ≤ i + L.length
  | [], i, acc => ⟨Nat.le_refl _, Int.le_refl 0, show (0 : Int) ≤ (i : Int) + (0 : Nat) by omega⟩
  | ws :: L, i, acc => by
    unfold goW
    rw [List.length_cons]
    by_cases hs : skipB ws = true
    · rw [if_pos hs]
      have := goW_len L (i + 1) acc
      omega
    · rw [if_neg hs]
      cases rowOf ws with
      | none => exact ⟨Nat.zero_le _, show (0 : Int) ≤ (i : Int) + 1 by omega, show (i : Int) + 1 ≤ _ by omega⟩
      | some r =>
        simp only
        generalize nextE acc r.f0 r.f1 r.f2 r.f3 r.f4 r.f5 r.f6 r.f7 = q
        by_cases hq : q = 0
        · rw [if_pos hq]
          have := goW_len L (i + 1) (acc ++ [r])
          rw [List.length_append, List.length_singleton] at this
          omega
        · rw [if_neg hq]
          exact ⟨Nat.zero_le _, show (0 : Int) ≤ (i : Int) + 1 by omega, show (i : Int) + 1 ≤ _ by omega⟩
theorem wdsL_len (l : List UInt8) : (wdsL l).length ≤ l.length + 1 := by
  unfold wdsL
  rw [List.length_map]
  exact Wd.linesGo_len l []
theorem mk_app (a b : List UInt8) : mk a ++ mk b = mk (a ++ b) := by
  apply ByteArray.ext
  rw [ByteArray.data_append]
  simp [mk]
theorem mk_size (l : List UInt8) : (mk l).size = l.length := by
  rw [Lib.size_eq, data_mk]
theorem rep_len (n : Nat) : (rep n).length = 6 * n := by
  unfold rep
  rw [List.length_flatten, List.map_replicate, List.sum_replicate_nat]
  show n * 6 = _
  omega
theorem rep_succ (n : Nat) : rep (n + 1) = rep n ++ cm := by
  unfold rep
  rw [List.replicate_succ', List.flatten_append]
  simp
theorem ex1_len (c : UInt8) : (ex1 c).length ≤ 3 := by unfold ex1; split <;> simp
theorem expand_len : ∀ l : List UInt8, (expand l).length ≤ 3 * l.length
  | [] => Nat.le_refl _
  | c :: l => by
    have e : expand (c :: l) = ex1 c ++ expand l := rfl
    rw [e, List.length_append, List.length_cons]
    have := ex1_len c
    have := expand_len l
    omega
theorem expand_snoc (l : List UInt8) (c : UInt8) : expand (l ++ [c]) = expand l ++ ex1 c := by
  unfold expand
  rw [List.flatMap_append]
  simp
theorem bt_list (s : ByteArray) (i : Nat) (h : i < s.data.toList.length) : bt s (i : Int) = (s.data.toList[i].toNat : Int) := by
  unfold bt
  rw [dif_pos (by rw [Lib.size_eq]; exact h)]
  rfl
theorem ext_one (s : ByteArray) (i : Nat) (h : i < s.data.toList.length) : s.extract i (i + 1) = mk [s.data.toList[i]] := by
  rw [← mk_data (s.extract i (i + 1)), Wd.ext_piece]
  unfold Lib.pieceU
  rw [List.drop_eq_getElem_cons h, show i + 1 - i = 1 by omega]
  rfl
theorem l0_go (x0 : ByteArray) (a : Nat) (ha : a ≤ 20) : ∀ (m i K : Nat), i + m = a → basculelaw21_TableBlanks.l0 (K + m + 1) x0 (a : Int) (mk (rep i)) (i : Int) = basculelaw21_TableBlanks.l1 K x0 (a : Int) (mk (rep a)) 0 := by
  intro m
  induction m with
  | zero =>
    intro i K h
    obtain rfl : i = a := by omega
    rw [basculelaw21_TableBlanks.l0, if_neg (by omega)]
  | succ m ih =>
    intro i K h
    have w1 : wrap64 ((i : Int) + 1) = ((i + 1 : Nat) : Int) := by unfold wrap64; omega
    have hr := rep_len i
    have e : mk (rep i) ++ (⟨#[32, 32, 35, 32, 120, 10]⟩ : ByteArray) = mk (rep (i + 1)) := by
      rw [rep_succ]
      exact mk_app (rep i) cm
    rw [show K + (m + 1) + 1 = (K + m + 1) + 1 by omega, basculelaw21_TableBlanks.l0, if_pos (by omega), if_pos (by rw [mk_size]; omega), w1, e]
    exact ih (i + 1) K (by omega)
theorem l1_go (x0 : ByteArray) (hx : x0.data.toList.length ≤ 2000) (a : Nat) (ha : a ≤ 20) : ∀ (m i K : Nat), i + m = x0.data.toList.length → basculelaw21_TableBlanks.l1 (K + m + 1) x0 (a : Int) (mk (rep a ++ expand (x0.data.toList.take i))) (i : Int) = basculelaw21_TableBlanks.l1 (K + 1) x0 (a : Int) (mk (rep a ++ expand x0.data.toList)) (x0.data.toList.length : Int) := by
  intro m
  induction m with
  | zero =>
    intro i K h
    obtain rfl : i = x0.data.toList.length := by omega
    rw [List.take_of_length_le (Nat.le_refl _)]
  | succ m ih =>
    intro i K h
    have hi : i < x0.data.toList.length := by omega
    have w1 : wrap64 ((i : Int) + 1) = ((i + 1 : Nat) : Int) := by unfold wrap64; omega
    have hr := rep_len a
    have he := expand_len (x0.data.toList.take i)
    rw [List.length_take] at he
    have hs := Lib.size_eq x0
    have ht : expand (x0.data.toList.take (i + 1)) = expand (x0.data.toList.take i) ++ ex1 x0.data.toList[i] := by
      rw [List.take_succ_eq_append_getElem hi, expand_snoc]
    have hl : (rep a ++ expand (x0.data.toList.take i)).length ≤ 7000 := by rw [List.length_append]; omega
    have hE := ih (i + 1) K (by omega)
    rw [ht, ← List.append_assoc] at hE
    rw [show K + (m + 1) + 1 = (K + m + 1) + 1 by omega, basculelaw21_TableBlanks.l1, if_pos (by omega), if_pos (by omega), w1, bt_list x0 i hi, Int.toNat_natCast, Int.toNat_natCast, ext_one x0 i hi]
    generalize x0.data.toList[i] = c at *
    generalize rep a ++ expand (x0.data.toList.take i) = P at *
    have s1 : (mk [c]).size = 1 := mk_size [c]
    have s2 : (mk P).size ≤ 7000 := by rw [mk_size]; exact hl
    have e2 : mk P ++ (⟨#[32, 32]⟩ : ByteArray) = mk (P ++ [32, 32]) := mk_app P [32, 32]
    have s3 : (mk (P ++ [32, 32])).size ≤ 7002 := by rw [mk_size, List.length_append]; simp; exact hl
    by_cases h10 : c = 10
    · have e : ((c.toNat : Int) = 10) := by rw [h10]; rfl
      have e1 : ex1 c = [32, 32, c] := if_pos (.inl h10)
      rw [if_pos e, if_pos (by omega), if_pos (by omega), if_pos (by omega), e2, if_pos (by omega), mk_app]
      rw [e1] at hE
      rw [List.append_assoc]
      exact hE
    · have n10 : ¬ ((c.toNat : Int) = 10) := fun e => h10 (UInt8.toNat_inj.1 (by show c.toNat = 10; omega))
      rw [if_neg n10]
      by_cases h32 : c = 32
      · have e : ((c.toNat : Int) = 32) := by rw [h32]; rfl
        have e1 : ex1 c = [32, 32, c] := if_pos (.inr h32)
        rw [if_pos e, if_pos (by omega), if_pos (by omega), if_pos (by omega), e2, if_pos (by omega), mk_app]
        rw [e1] at hE
        rw [List.append_assoc]
        exact hE
      · have n32 : ¬ ((c.toNat : Int) = 32) := fun e => h32 (UInt8.toNat_inj.1 (by show c.toNat = 32; omega))
        have e1 : ex1 c = [c] := if_neg (by simp [h10, h32])
        rw [if_neg n32, if_pos (by omega), if_pos (by omega), if_pos (by omega), mk_app]
        rw [e1] at hE
        exact hE
theorem l1_end (x0 : ByteArray) (hx : x0.data.toList.length ≤ 2000) (a : Nat) (ha : a ≤ 20) : ∃ K, basculelaw21_TableBlanks.l1 (K + 1) x0 (a : Int) (mk (rep a ++ expand x0.data.toList)) (x0.data.toList.length : Int) = some true := by
  have hs := Lib.size_eq x0
  have hr := rep_len a
  have he := expand_len x0.data.toList
  have hl : (rep a ++ expand x0.data.toList).length ≤ 7000 := by rw [List.length_append]; omega
  have e2 : mk (rep a ++ expand x0.data.toList) ++ (⟨#[32, 32]⟩ : ByteArray) = mk (rep a ++ (expand x0.data.toList ++ [32, 32])) := by
    rw [← List.append_assoc]
    exact mk_app (rep a ++ expand x0.data.toList) [32, 32]
  have s2 : (mk (rep a ++ (expand x0.data.toList ++ [32, 32]))).size ≤ 1000000 := by rw [← e2, ByteArray.size_append, mk_size]; show _ + 2 ≤ _; omega
  have g := goW_shift a (wdsL x0.data.toList) 0 []
  have gl := goW_len (wdsL x0.data.toList) 0 []
  have wl := wdsL_len x0.data.toList
  have gs := goW_skip a 0 (wdsL x0.data.toList) []
  have p2 := pf _ s2
  rw [data_mk, wds_more, gs, g] at p2
  have p1 := pf x0 (by omega)
  generalize goW (wdsL x0.data.toList) 0 [] = q at *
  obtain ⟨R, n, E⟩ := q
  simp only [List.length_nil] at gl
  refine ⟨R.length + 1, ?_⟩
  have hR := rows_self R (by omega) 0
  rw [show 0 + R.length + 1 = R.length + 1 by omega] at hR
  rw [basculelaw21_TableBlanks.l1, if_neg (by omega), p1, Option.bind_some, e2, if_pos (by rw [mk_size]; omega), p2, Option.bind_some, awake_true]
  simp only at gl ⊢
  have wn : wrap64 (n + (a : Int)) = n + a := by unfold wrap64; omega
  by_cases hE : E = 0
  · subst hE
    simp [hR]
  · simp [hE, hR, wn]
theorem tableBlanks_pure : basculelaw21_TableBlanks.Pure := by
  intro a0 a1 _ _
  have hs := Lib.size_eq a0
  unfold basculelaw21_TableBlanks.f
  by_cases h1 : (a0.size : Int) > 2000
  · exact ⟨1, by rw [if_pos h1, basculelaw21_TableBlanks.j0, if_pos rfl]⟩
  · by_cases h2 : a1 < 0
    · exact ⟨1, by rw [if_neg h1, if_pos h2, basculelaw21_TableBlanks.j0, if_pos rfl]⟩
    · by_cases h3 : a1 > 20
      · exact ⟨1, by rw [if_neg h1, if_neg h2, decide_eq_true h3, basculelaw21_TableBlanks.j0, if_pos rfl]⟩
      · obtain ⟨a, rfl⟩ : ∃ a : Nat, a1 = a := ⟨a1.toNat, by omega⟩
        have hx : a0.data.toList.length ≤ 2000 := by omega
        obtain ⟨K, hK⟩ := l1_end a0 hx a (by omega)
        have hb := l1_go a0 hx a (by omega) a0.data.toList.length 0 K (by omega)
        have ha := l0_go a0 a (by omega) a 0 (K + a0.data.toList.length + 1) (by omega)
        refine ⟨K + a0.data.toList.length + 1 + a + 1 + 1, ?_⟩
        rw [if_neg h1, if_neg h2, decide_eq_false h3, basculelaw21_TableBlanks.j0, if_neg (by decide)]
        have e0 : mk (rep 0) = (⟨#[]⟩ : ByteArray) := rfl
        have e1 : mk (rep a ++ expand (a0.data.toList.take 0)) = mk (rep a) := by
          rw [List.take_zero]
          show mk (rep a ++ []) = _
          rw [List.append_nil]
        rw [e0] at ha
        rw [e1] at hb
        exact ha.trans (hb.trans hK)
end Go.Proofs.YtbfhiiokajbdhaaDoor.Fl
namespace Go.Proofs.YtbfhiiokajbdhaaDoor.Pure
theorem TableBlanks : Go.Proofs.YtbfhiiokajbdhaaDoor.Q.basculelaw21_TableBlanks.Pure := Go.Proofs.YtbfhiiokajbdhaaDoor.Fl.tableBlanks_pure
end Go.Proofs.YtbfhiiokajbdhaaDoor.Pure
