/- What the proof of SubsFinds leans on: PRef12. -/
import Derived.Test.YtjibcekillcgjaaDoorSSubsFindsPRef09
import Derived.Test.YtjibcekillcgjaaDoorSSubsFindsQx6
import Derived.Test.YtjibcekillcgjaaDoorSSubsFindsQx5
set_option linter.unusedSimpArgs false
namespace Go.Proofs.YtjibcekillcgjaaDoor.Q
open Go.RowKit Go.Proofs.YtjibcekillcgjaaDoorW.PrintWords
set_option linter.unusedVariables false
theorem wrap_i (i : Nat) (h : i ≤ 1000000000) : wrap64 ((i : Int) + 1) = ((i + 1 : Nat) : Int) := by rw [w64 (by omega) (by omega)]; omega
theorem has_from (s : ByteArray) (c : UInt8) (hs : s.size ≤ 1000000) (d : Nat) : ∀ i : Nat, s.size - i = d → i ≤ s.size → Ev (fun k => basculeref12_has.l0 k s (c.toNat : Int) (i : Int)) ((s.data.toList.drop i).contains c) := by
  have hl := Lib.size_eq s
  induction d with
  | zero =>
    intro i hd hi
    refine Ev.step (fun k => rfl) ?_
    rw [List.drop_eq_nil_of_le (by omega)]
    exact Ev.neg (by omega) (Ev.ret _)
  | succ d ih =>
    intro i hd hi
    have hlt : i < s.data.toList.length := by omega
    obtain ⟨b, hb⟩ : ∃ b, s.data.toList[i]? = some b := ⟨_, List.getElem?_eq_getElem hlt⟩
    have hdrop : s.data.toList.drop i = b :: s.data.toList.drop (i + 1) := by
      rw [List.drop_eq_getElem_cons hlt]
      rw [List.getElem?_eq_getElem hlt] at hb
      rw [Option.some.inj hb]
    refine Ev.step (fun k => rfl) ?_
    refine Ev.pos (by omega) (Ev.pos (by omega) ?_)
    rw [bt_list s i b hb, hdrop, List.contains_cons, wrap_i i (by omega)]
    by_cases hbc : b = c
    · subst hbc
      refine Ev.pos rfl (Ev.ret' (by simp))
    · have hne : ¬ (b.toNat : Int) = (c.toNat : Int) := fun e => hbc (UInt8.toNat_inj.1 (by omega))
      refine Ev.neg hne ?_
      have : (c == b) = false := beq_eq_false_iff_ne.2 (fun e => hbc e.symm)
      rw [this, Bool.false_or]
      exact ih (i + 1) (by omega) (by omega)
theorem has_ev (s : ByteArray) (c : UInt8) (hs : s.size ≤ 1000000) : Ev (fun k => basculeref12_has.f k s (c.toNat : Int)) (s.data.toList.contains c) := by
  have := has_from s c hs s.size 0 (by omega) (by omega)
  rw [List.drop_zero] at this
  exact this
theorem hasAny_two (l : List UInt8) : Top.hasAny l Top.wild = (l.contains 43 || l.contains 35) := by
  unfold Top.hasAny Top.wild
  induction l with
  | nil => rfl
  | cons b l ih =>
    have e : List.contains [43, 35] b = (((43 : UInt8) == b) || ((35 : UInt8) == b)) := by
      rw [List.contains_cons, List.contains_cons, List.contains_nil, Bool.or_false, Bool.beq_comm (a := b) (b := 43), Bool.beq_comm (a := b) (b := 35)]
    rw [List.any_cons, ih, e, List.contains_cons, List.contains_cons]
    cases ((43 : UInt8) == b) <;> cases ((35 : UInt8) == b) <;> cases (l.contains 43) <;> cases (l.contains 35) <;> rfl
theorem toList_nil (s : ByteArray) : (s.toList = ([] : List UInt8)) ↔ s.data.toList.isEmpty = true := by rw [Lib.toList_data]; exact List.isEmpty_iff.symm
theorem name_ev (s : ByteArray) : Ev (fun k => basculeref12_Name.f k s) (Top.isName s) := by
  show Ev (fun k => if s.toList = ([] : List UInt8) then some false else (basculeref09_Is.f k s).bind fun t127 => _) _
  unfold Top.isName
  by_cases h0 : s.data.toList.isEmpty = true
  · rw [h0]
    exact Ev.pos ((toList_nil s).2 h0) (Ev.ret _)
  · refine Ev.neg (fun e => h0 ((toList_nil s).1 e)) (Ev.bind (is_ev s) ?_)
    have h0' : s.data.toList.isEmpty = false := by simpa using h0
    rw [h0', Bool.not_false, Bool.true_and]
    cases hU : Top.isU s
    · exact Ev.neg (by simp) (Ev.ret _)
    · have hsz := Top.isU_size s hU
      refine Ev.pos rfl (Ev.bind (has_ev s 43 (by omega)) ?_)
      rw [hasAny_two, Bool.true_and]
      cases h43 : s.data.toList.contains 43
      · refine Ev.neg (by simp) (Ev.bind (has_ev s 35 (by omega)) ?_)
        exact Ev.ret _
      · exact Ev.pos rfl (Ev.ret _)
def mk (l : List UInt8) : ByteArray := ⟨l.toArray⟩
theorem mk_toList (l : List UInt8) : (mk l).toList = l := by rw [Lib.toList_data]; rfl
theorem extract_mk (s : ByteArray) (a b : Nat) : s.extract a b = mk ((s.data.toList.drop a).take (b - a)) := by
  rw [Lib.extract_eq]; rfl
def glue (a : List UInt8) : List (List UInt8) → List (List UInt8)
  | [] => [a]
  | h :: t => (a ++ h) :: t
theorem levels_from (s : ByteArray) (hs : s.size ≤ 1000000) (d : Nat) : ∀ (i fr : Nat) (out : List ByteArray), s.size - i = d → fr ≤ i → i ≤ s.size → out.length ≤ i →
    Ev (fun k => basculeref12_Levels.l0 k s out (fr : Int) (i : Int)) (out ++ (glue ((s.data.toList.drop fr).take (i - fr)) (Top.splitB (s.data.toList.drop i))).map mk) := by
  have hl := Lib.size_eq s
  induction d with
  | zero =>
    intro i fr out hd hf hi ho
    refine Ev.step (fun k => rfl) ?_
    refine Ev.pos (by omega) (Ev.pos (by omega) (Ev.pos (by omega) (Ev.pos (by omega) (Ev.pos (by omega) ?_))))
    rw [List.drop_eq_nil_of_le (by omega : s.data.toList.length ≤ i), wrap_i i (by omega)]
    refine Ev.step (fun k => rfl) ?_
    refine Ev.neg (by omega) (Ev.ret' ?_)
    rw [Int.toNat_natCast, Int.toNat_natCast, extract_mk]
    simp [Top.splitB, glue]
  | succ d ih =>
    intro i fr out hd hf hi ho
    have hlt : i < s.data.toList.length := by omega
    obtain ⟨b, hb⟩ : ∃ b, s.data.toList[i]? = some b := ⟨_, List.getElem?_eq_getElem hlt⟩
    have hdrop : s.data.toList.drop i = b :: s.data.toList.drop (i + 1) := by
      rw [List.drop_eq_getElem_cons hlt]
      rw [List.getElem?_eq_getElem hlt] at hb
      rw [Option.some.inj hb]
    refine Ev.step (fun k => rfl) ?_
    refine Ev.pos (by omega) (Ev.neg (by omega) (Ev.pos (by omega) (Ev.pos (by omega) ?_)))
    rw [bt_list s i b hb, hdrop, wrap_i i (by omega), Top.splitB]
    by_cases hbc : b = 47
    · subst hbc
      refine Ev.pos rfl (Ev.pos (by omega) (Ev.pos (by omega) (Ev.pos (by omega) ?_)))
      rw [if_pos rfl, Int.toNat_natCast, Int.toNat_natCast, extract_mk]
      have := ih (i + 1) (i + 1) (out ++ [mk ((s.data.toList.drop fr).take (i - fr))]) (by omega) (Nat.le_refl _) (by omega) (by simp; omega)
      rw [Nat.sub_self, List.take_zero, List.append_assoc] at this
      cases hsp : Top.splitB (s.data.toList.drop (i + 1)) with
      | nil => exact absurd hsp (Top.splitB_ne _)
      | cons h t =>
        rw [hsp] at this
        simpa [glue] using this
    · have hne : ¬ (b.toNat : Int) = 47 := fun e => hbc (UInt8.toNat_inj.1 (by show b.toNat = 47; omega))
      refine Ev.neg hne ?_
      rw [if_neg hbc]
      have := ih (i + 1) fr out (by omega) (by omega) (by omega) (by omega)
      have htake : (s.data.toList.drop fr).take (i + 1 - fr) = (s.data.toList.drop fr).take (i - fr) ++ [b] := by
        rw [show i + 1 - fr = (i - fr) + 1 by omega, List.take_add_one, List.getElem?_drop, show fr + (i - fr) = i by omega, hb]; rfl
      rw [htake] at this
      cases hsp : Top.splitB (s.data.toList.drop (i + 1)) with
      | nil => exact absurd hsp (Top.splitB_ne _)
      | cons h t =>
        rw [hsp] at this
        simpa [glue] using this
theorem levels_ev (s : ByteArray) (hs : s.size ≤ 1000000) : Ev (fun k => basculeref12_Levels.f k s) ((Top.splitB s.data.toList).map mk) := by
  have := levels_from s hs s.size 0 0 [] (by omega) (by omega) (by omega) (by simp)
  cases hsp : Top.splitB s.data.toList with
  | nil => exact absurd hsp (Top.splitB_ne _)
  | cons h t =>
    simp only [List.drop_zero, Nat.sub_self, List.take_zero, hsp, List.nil_append] at this
    show Ev (fun k => basculeref12_Levels.l0 k s [] 0 0) _
    simpa [glue] using this
theorem rd_mk (L : List (List UInt8)) (i : Nat) (p : List UInt8) (h : L[i]? = some p) : rdOf ByteArray.empty (L.map mk) (i : Int) = mk p := by
  unfold rdOf
  rw [Int.toNat_natCast, List.getD_eq_getElem?_getD, List.getElem?_map, h]; rfl
theorem splitB_len (l : List UInt8) : (Top.splitB l).length ≤ l.length + 1 := by
  induction l with
  | nil => simp [Top.splitB]
  | cons b l ih =>
    rw [Top.splitB]
    split
    · simp; omega
    · cases h : Top.splitB l with
      | nil => simp
      | cons x t => rw [h] at ih; simp at ih ⊢; omega
theorem takes_from (F N : List (List UInt8)) (hF : F.length ≤ 1000001) (d : Nat) : ∀ i : Nat, F.length - i = d → i ≤ F.length → i ≤ N.length →
    Ev (fun k => basculeref12_Takes.l0 k (F.map mk) (N.map mk) (i : Int)) (Top.takesL (F.drop i) (N.drop i)) := by
  induction d with
  | zero =>
    intro i hd hi hn
    refine Ev.step (fun k => rfl) ?_
    rw [List.drop_eq_nil_of_le (by omega : F.length ≤ i)]
    refine Ev.neg (by rw [List.length_map]; omega) (Ev.ret' ?_)
    rw [List.length_map, List.length_map, Top.takesL]
    cases hr : N.drop i with
    | nil =>
      have := List.drop_eq_nil_iff.1 hr
      exact beq_iff_eq.2 (by omega)
    | cons q t =>
      have : i < N.length := Nat.lt_of_not_le (fun h => by rw [List.drop_eq_nil_of_le h] at hr; cases hr)
      exact beq_eq_false_iff_ne.2 (by omega)
  | succ d ih =>
    intro i hd hi hn
    have hlt : i < F.length := by omega
    obtain ⟨p, hp⟩ : ∃ p, F[i]? = some p := ⟨_, List.getElem?_eq_getElem hlt⟩
    have hdrop : F.drop i = p :: F.drop (i + 1) := by
      rw [List.drop_eq_getElem_cons hlt]
      rw [List.getElem?_eq_getElem hlt] at hp
      rw [Option.some.inj hp]
    rw [hdrop]
    refine Ev.step (fun k => rfl) ?_
    refine Ev.pos (by rw [List.length_map]; omega) (Ev.pos (by omega) ?_)
    rw [rd_mk F i p hp, mk_toList, wrap_i i (by omega)]
    by_cases h35 : p = [35]
    · subst h35
      rw [Top.takesL_hash]
      exact Ev.pos rfl (Ev.ret _)
    · refine Ev.neg h35 ?_
      by_cases hn2 : i < N.length
      · obtain ⟨q, hq⟩ : ∃ q, N[i]? = some q := ⟨_, List.getElem?_eq_getElem hn2⟩
        have hdrop2 : N.drop i = q :: N.drop (i + 1) := by
          rw [List.drop_eq_getElem_cons hn2]
          rw [List.getElem?_eq_getElem hn2] at hq
          rw [Option.some.inj hq]
        rw [hdrop2]
        refine Ev.neg (by rw [List.length_map]; omega) ?_
        by_cases h43 : p = [43]
        · rw [Top.takesL_go _ _ _ _ h35 (.inl h43)]
          exact Ev.pos h43 (ih (i + 1) (by omega) (by omega) (by omega))
        · refine Ev.neg h43 (Ev.pos (by rw [List.length_map]; omega) ?_)
          rw [rd_mk N i q hq, mk_toList]
          by_cases hpq : p = q
          · rw [Top.takesL_go _ _ _ _ h35 (.inr hpq)]
            exact Ev.pos hpq (ih (i + 1) (by omega) (by omega) (by omega))
          · rw [Top.takesL_no _ _ _ _ h35 (fun h => h.elim h43 hpq)]
            exact Ev.neg hpq (Ev.ret _)
      · rw [List.drop_eq_nil_of_le (by omega : N.length ≤ i), Top.takesL_nil _ _ h35]
        exact Ev.pos (by rw [List.length_map]; omega) (Ev.ret _)
theorem first_wild (f : List UInt8) (hne : f ≠ []) (hok : (Top.lvl f).any Top.badL = false) (p : List UInt8) (hp : (Top.splitB f)[0]? = some p) :
    Top.hasAny (f.take 1) Top.wild = (p == [43] || p == [35]) := by
  cases f with
  | nil => exact absurd rfl hne
  | cons b r =>
    have hw : Top.hasAny ((b :: r).take 1) Top.wild = (b == 43 || b == 35) := by
      rw [hasAny_two]
      simp only [List.take_succ_cons, List.take_zero, List.contains_cons, List.contains_nil, Bool.or_false]
      rw [Bool.beq_comm (a := 43) (b := b), Bool.beq_comm (a := 35) (b := b)]
    rw [hw]
    have hbad : ∀ l, (p, l) ∈ Top.lvl (b :: r) → Top.badL (p, l) = false := fun l hl => by
      have := List.any_eq_false.1 hok (p, l) hl
      simpa using this
    by_cases hb : b = 47
    · subst hb
      rw [Top.splitB, if_pos rfl] at hp
      simp at hp
      subst hp
      rfl
    · obtain ⟨h, t, hsp⟩ : ∃ h t, Top.splitB r = h :: t := by
        cases hs : Top.splitB r with
        | nil => exact absurd hs (Top.splitB_ne _)
        | cons h t => exact ⟨h, t, rfl⟩
      have hsp2 : Top.splitB (b :: r) = (b :: h) :: t := by rw [Top.splitB, if_neg hb, hsp]
      rw [hsp2] at hp
      simp at hp
      subst hp
      obtain ⟨l, hl⟩ : ∃ l, (b :: h, l) ∈ Top.lvl (b :: r) := by
        unfold Top.lvl
        rw [hsp2]
        cases t with
        | nil => exact ⟨true, by simp [Top.withLast]⟩
        | cons y z => exact ⟨false, by simp [Top.withLast]⟩
      have hbl := hbad l hl
      unfold Top.badL at hbl
      rw [hasAny_two, List.contains_cons, List.contains_cons] at hbl
      by_cases h43 : b = 43
      · subst h43
        cases h with
        | nil => rfl
        | cons y z => simp at hbl
      · by_cases h35 : b = 35
        · subst h35
          cases h with
          | nil => rfl
          | cons y z => simp at hbl
        · have e1 : (b == 43) = false := beq_eq_false_iff_ne.2 h43
          have e2 : (b == 35) = false := beq_eq_false_iff_ne.2 h35
          rw [e1, e2]
          simp [h43, h35]
theorem takes_ev (f n : ByteArray) (hf : Top.isFilter f = true) (hn : Top.isName n = true) : Ev (fun k => basculeref12_Takes.f k f n) (Top.takesF f.data.toList n.data.toList) := by
  have hF := hf; have hN := hn
  unfold Top.isFilter at hF
  unfold Top.isName at hN
  simp only [Bool.and_eq_true, Bool.not_eq_true'] at hF hN
  have hsf := Top.isU_size f hF.2.1
  have hsn := Top.isU_size n hN.2.1
  have hlf := Lib.size_eq f; have hln := Lib.size_eq n
  have hfne : f.data.toList ≠ [] := fun e => by rw [e] at hF; exact absurd hF.1 (by simp)
  obtain ⟨b, r, hbr⟩ : ∃ b r, n.data.toList = b :: r := by
    cases h : n.data.toList with
    | nil => rw [h] at hN; exact absurd hN.1 (by simp)
    | cons b r => exact ⟨b, r, rfl⟩
  obtain ⟨p, t, hpt⟩ : ∃ p t, Top.splitB f.data.toList = p :: t := by
    cases hs : Top.splitB f.data.toList with
    | nil => exact absurd hs (Top.splitB_ne _)
    | cons h t => exact ⟨h, t, rfl⟩
  have hfw := first_wild f.data.toList hfne hF.2.2 p (by rw [hpt]; rfl)
  have hgo : Ev (fun k => basculeref12_Takes.j0 k ((Top.splitB f.data.toList).map mk) ((Top.splitB n.data.toList).map mk) false) (Top.takesL (Top.splitB f.data.toList) (Top.splitB n.data.toList)) := by
    refine Ev.step (fun k => rfl) ?_
    exact takes_from (Top.splitB f.data.toList) (Top.splitB n.data.toList) (by have := splitB_len f.data.toList; omega) _ 0 rfl (Nat.zero_le _) (Nat.zero_le _)
  have hstop : Ev (fun k => basculeref12_Takes.j0 k ((Top.splitB f.data.toList).map mk) ((Top.splitB n.data.toList).map mk) true) false := Ev.step (fun k => rfl) (Ev.ret _)
  have hb0 : bt n 0 = (b.toNat : Int) := bt_list n 0 b (by rw [hbr]; rfl)
  have hn1 : 1 ≤ n.size := by rw [hln, hbr]; simp
  have hr0 : rdOf ByteArray.empty ((Top.splitB f.data.toList).map mk) 0 = mk p := rd_mk _ 0 p (by rw [hpt]; rfl)
  have hl0 : 0 < ((Top.splitB f.data.toList).map mk).length := by rw [hpt]; simp
  show Ev (fun k => (basculeref12_Levels.f k f).bind fun t146 => (basculeref12_Levels.f k n).bind fun t149 => _) _
  refine Ev.bind (levels_ev f (by omega)) (Ev.bind (levels_ev n (by omega)) ?_)
  refine Ev.pos (by omega) ?_
  rw [hb0]
  unfold Top.takesF Top.dollar
  rw [hfw, hbr, List.head?_cons, ← hbr]
  by_cases h36 : b = 36
  · subst h36
    refine Ev.pos rfl (Ev.pos (by omega) ?_)
    rw [hr0, mk_toList]
    by_cases h43 : p = [43]
    · refine Ev.pos h43 ?_
      rw [h43]
      exact hstop
    · refine Ev.neg h43 ?_
      rw [beq_eq_false_iff_ne.2 h43]
      cases h35 : (p == [35])
      · exact hgo
      · exact hstop
  · have hne : ¬ (b.toNat : Int) = 36 := fun e => h36 (UInt8.toNat_inj.1 (by show b.toNat = 36; omega))
    have e36 : (some b == some (36 : UInt8)) = false := beq_eq_false_iff_ne.2 (fun e => h36 (Option.some.inj e))
    refine Ev.neg hne ?_
    rw [e36, Bool.false_and, Bool.not_false, Bool.true_and]
    exact hgo
end Go.Proofs.YtjibcekillcgjaaDoor.Q
