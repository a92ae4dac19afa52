/- What the proof of SubsAgain leans on: PRef12. -/
import Derived.Test.YtjibcekillcgjaaDoorSSubsAgainPRef09
import Derived.Test.YtjibcekillcgjaaDoorSSubsAgainQx6
import Derived.Test.YtjibcekillcgjaaDoorSSubsAgainQx5
set_option linter.unusedSimpArgs false
namespace Go.Proofs.YtjibcekillcgjaaDoor.Q
open Go.RowKit Go.Proofs.YtjibcekillcgjaaDoorW.PrintWords
set_option linter.unusedVariables false
theorem wrap_i (i : Nat) (h : i ≤ 1000000000) : wrap64 ((i : Int) + 1) = ((i + 1 : Nat) : Int) := by rw [w64 (by omega) (by omega)]; omega
theorem has_from (s : ByteArray) (c : UInt8) (hs : s.size ≤ 1000000) (d : Nat) : ∀ i : Nat, s.size - i = d → i ≤ s.size → Ev (fun k => basculeref12_has.l0 k s (c.toNat : Int) (i : Int)) ((s.data.toList.drop i).contains c) := by
  have hl := Lib.size_eq s
  induction d with
  | zero =>
    intro i hd hi
    refine Ev.step (fun k => rfl) ?_
    rw [List.drop_eq_nil_of_le (by omega)]
    exact Ev.neg (by omega) (Ev.ret _)
  | succ d ih =>
    intro i hd hi
    have hlt : i < s.data.toList.length := by omega
    obtain ⟨b, hb⟩ : ∃ b, s.data.toList[i]? = some b := ⟨_, List.getElem?_eq_getElem hlt⟩
    have hdrop : s.data.toList.drop i = b :: s.data.toList.drop (i + 1) := by
      rw [List.drop_eq_getElem_cons hlt]
      rw [List.getElem?_eq_getElem hlt] at hb
      rw [Option.some.inj hb]
    refine Ev.step (fun k => rfl) ?_
    refine Ev.pos (by omega) (Ev.pos (by omega) ?_)
    rw [bt_list s i b hb, hdrop, List.contains_cons, wrap_i i (by omega)]
    by_cases hbc : b = c
    · subst hbc
      refine Ev.pos rfl (Ev.ret' (by simp))
    · have hne : ¬ (b.toNat : Int) = (c.toNat : Int) := fun e => hbc (UInt8.toNat_inj.1 (by omega))
      refine Ev.neg hne ?_
      have : (c == b) = false := beq_eq_false_iff_ne.2 (fun e => hbc e.symm)
      rw [this, Bool.false_or]
      exact ih (i + 1) (by omega) (by omega)
theorem has_ev (s : ByteArray) (c : UInt8) (hs : s.size ≤ 1000000) : Ev (fun k => basculeref12_has.f k s (c.toNat : Int)) (s.data.toList.contains c) := by
  have := has_from s c hs s.size 0 (by omega) (by omega)
  rw [List.drop_zero] at this
  exact this
theorem hasAny_two (l : List UInt8) : Top.hasAny l Top.wild = (l.contains 43 || l.contains 35) := by
  unfold Top.hasAny Top.wild
  induction l with
  | nil => rfl
  | cons b l ih =>
    have e : List.contains [43, 35] b = (((43 : UInt8) == b) || ((35 : UInt8) == b)) := by
      rw [List.contains_cons, List.contains_cons, List.contains_nil, Bool.or_false, Bool.beq_comm (a := b) (b := 43), Bool.beq_comm (a := b) (b := 35)]
    rw [List.any_cons, ih, e, List.contains_cons, List.contains_cons]
    cases ((43 : UInt8) == b) <;> cases ((35 : UInt8) == b) <;> cases (l.contains 43) <;> cases (l.contains 35) <;> rfl
theorem toList_nil (s : ByteArray) : (s.toList = ([] : List UInt8)) ↔ s.data.toList.isEmpty = true := by rw [Lib.toList_data]; exact List.isEmpty_iff.symm
def mk (l : List UInt8) : ByteArray := ⟨l.toArray⟩
theorem mk_toList (l : List UInt8) : (mk l).toList = l := by rw [Lib.toList_data]; rfl
theorem mk_size (l : List UInt8) : (mk l).size = l.length := by show l.toArray.size = _; simp
theorem mk_data (l : List UInt8) : (mk l).data.toList = l := rfl
theorem extract_mk (s : ByteArray) (a b : Nat) : s.extract a b = mk ((s.data.toList.drop a).take (b - a)) := by
  rw [Lib.extract_eq]; rfl
def glue (a : List UInt8) : List (List UInt8) → List (List UInt8)
  | [] => [a]
  | h :: t => (a ++ h) :: t
theorem levels_from (s : ByteArray) (hs : s.size ≤ 1000000) (d : Nat) : ∀ (i fr : Nat) (out : List ByteArray), s.size - i = d → fr ≤ i → i ≤ s.size → out.length ≤ i →
    Ev (fun k => basculeref12_Levels.l0 k s out (fr : Int) (i : Int)) (out ++ (glue ((s.data.toList.drop fr).take (i - fr)) (Top.splitB (s.data.toList.drop i))).map mk) := by
  have hl := Lib.size_eq s
  induction d with
  | zero =>
    intro i fr out hd hf hi ho
    refine Ev.step (fun k => rfl) ?_
    refine Ev.pos (by omega) (Ev.pos (by omega) (Ev.pos (by omega) (Ev.pos (by omega) (Ev.pos (by omega) ?_))))
    rw [List.drop_eq_nil_of_le (by omega : s.data.toList.length ≤ i), wrap_i i (by omega)]
    refine Ev.step (fun k => rfl) ?_
    refine Ev.neg (by omega) (Ev.ret' ?_)
    rw [Int.toNat_natCast, Int.toNat_natCast, extract_mk]
    simp [Top.splitB, glue]
  | succ d ih =>
    intro i fr out hd hf hi ho
    have hlt : i < s.data.toList.length := by omega
    obtain ⟨b, hb⟩ : ∃ b, s.data.toList[i]? = some b := ⟨_, List.getElem?_eq_getElem hlt⟩
    have hdrop : s.data.toList.drop i = b :: s.data.toList.drop (i + 1) := by
      rw [List.drop_eq_getElem_cons hlt]
      rw [List.getElem?_eq_getElem hlt] at hb
      rw [Option.some.inj hb]
    refine Ev.step (fun k => rfl) ?_
    refine Ev.pos (by omega) (Ev.neg (by omega) (Ev.pos (by omega) (Ev.pos (by omega) ?_)))
    rw [bt_list s i b hb, hdrop, wrap_i i (by omega), Top.splitB]
    by_cases hbc : b = 47
    · subst hbc
      refine Ev.pos rfl (Ev.pos (by omega) (Ev.pos (by omega) (Ev.pos (by omega) ?_)))
      rw [if_pos rfl, Int.toNat_natCast, Int.toNat_natCast, extract_mk]
      have := ih (i + 1) (i + 1) (out ++ [mk ((s.data.toList.drop fr).take (i - fr))]) (by omega) (Nat.le_refl _) (by omega) (by simp; omega)
      rw [Nat.sub_self, List.take_zero, List.append_assoc] at this
      cases hsp : Top.splitB (s.data.toList.drop (i + 1)) with
      | nil => exact absurd hsp (Top.splitB_ne _)
      | cons h t =>
        rw [hsp] at this
        simpa [glue] using this
    · have hne : ¬ (b.toNat : Int) = 47 := fun e => hbc (UInt8.toNat_inj.1 (by show b.toNat = 47; omega))
      refine Ev.neg hne ?_
      rw [if_neg hbc]
      have := ih (i + 1) fr out (by omega) (by omega) (by omega) (by omega)
      have htake : (s.data.toList.drop fr).take (i + 1 - fr) = (s.data.toList.drop fr).take (i - fr) ++ [b] := by
        rw [show i + 1 - fr = (i - fr) + 1 by omega, List.take_add_one, List.getElem?_drop, show fr + (i - fr) = i by omega, hb]; rfl
      rw [htake] at this
      cases hsp : Top.splitB (s.data.toList.drop (i + 1)) with
      | nil => exact absurd hsp (Top.splitB_ne _)
      | cons h t =>
        rw [hsp] at this
        simpa [glue] using this
theorem levels_ev (s : ByteArray) (hs : s.size ≤ 1000000) : Ev (fun k => basculeref12_Levels.f k s) ((Top.splitB s.data.toList).map mk) := by
  have := levels_from s hs s.size 0 0 [] (by omega) (by omega) (by omega) (by simp)
  cases hsp : Top.splitB s.data.toList with
  | nil => exact absurd hsp (Top.splitB_ne _)
  | cons h t =>
    simp only [List.drop_zero, Nat.sub_self, List.take_zero, hsp, List.nil_append] at this
    show Ev (fun k => basculeref12_Levels.l0 k s [] 0 0) _
    simpa [glue] using this
theorem rd_mk (L : List (List UInt8)) (i : Nat) (p : List UInt8) (h : L[i]? = some p) : rdOf ByteArray.empty (L.map mk) (i : Int) = mk p := by
  unfold rdOf
  rw [Int.toNat_natCast, List.getD_eq_getElem?_getD, List.getElem?_map, h]; rfl
theorem splitB_len (l : List UInt8) : (Top.splitB l).length ≤ l.length + 1 := by
  induction l with
  | nil => simp [Top.splitB]
  | cons b l ih =>
    rw [Top.splitB]
    split
    · simp; omega
    · cases h : Top.splitB l with
      | nil => simp
      | cons x t => rw [h] at ih; simp at ih ⊢; omega
theorem splitB_mem : ∀ (l p : List UInt8), p ∈ Top.splitB l → p.length ≤ l.length := by
  intro l
  induction l with
  | nil => intro p hp; simp [Top.splitB] at hp; subst hp; simp
  | cons b l ih =>
    intro p hp
    rw [Top.splitB] at hp
    split at hp
    · rcases List.mem_cons.1 hp with rfl | hp
      · simp
      · have := ih p hp; simp; omega
    · cases h : Top.splitB l with
      | nil => exact absurd h (Top.splitB_ne _)
      | cons x t =>
        rw [h] at hp ih
        rcases List.mem_cons.1 hp with rfl | hp
        · have := ih x (by simp); simp; omega
        · have := ih p (by simp [hp]); simp; omega
theorem filter_from (L : List (List UInt8)) (hL : L.length ≤ 1000001) (hm : ∀ p ∈ L, p.length ≤ 1000000) (d : Nat) : ∀ i : Nat, L.length - i = d → i ≤ L.length →
    Ev (fun k => basculeref12_Filter.l0 k (L.map mk) (i : Int)) (!((Top.withLast (L.drop i)).any Top.badL)) := by
  induction d with
  | zero =>
    intro i hd hi
    refine Ev.step (fun k => rfl) ?_
    rw [List.drop_eq_nil_of_le (by omega)]
    exact Ev.neg (by rw [List.length_map]; omega) (Ev.ret _)
  | succ d ih =>
    intro i hd hi
    have hlt : i < L.length := by omega
    obtain ⟨p, hp⟩ : ∃ p, L[i]? = some p := ⟨_, List.getElem?_eq_getElem hlt⟩
    have hdrop : L.drop i = p :: L.drop (i + 1) := by
      rw [List.drop_eq_getElem_cons hlt]
      rw [List.getElem?_eq_getElem hlt] at hp
      rw [Option.some.inj hp]
    have hpl := hm p (List.mem_of_getElem? hp)
    have hlast : Top.withLast (L.drop i) = (p, decide (i = L.length - 1)) :: Top.withLast (L.drop (i + 1)) := by
      rw [hdrop]
      cases hr : L.drop (i + 1) with
      | nil =>
        have : L.length ≤ i + 1 := List.drop_eq_nil_iff.1 hr
        rw [decide_eq_true (by omega)]; rfl
      | cons q t =>
        have : i + 1 < L.length := Nat.lt_of_not_le (fun h => by rw [List.drop_eq_nil_of_le h] at hr; cases hr)
        rw [decide_eq_false (by omega)]; rfl
    rw [hlast, List.any_cons]
    have hnext : Ev (fun k => basculeref12_Filter.l0 k (L.map mk) (wrap64 ((i : Int) + 1))) (!((Top.withLast (L.drop (i + 1))).any Top.badL)) := by
      rw [wrap_i i (by omega)]
      exact ih (i + 1) (by omega) (by omega)
    have hyes : Top.badL (p, decide (i = L.length - 1)) = false → Ev (fun k => basculeref12_Filter.l0 k (L.map mk) (wrap64 ((i : Int) + 1))) (!(Top.badL (p, decide (i = L.length - 1)) || (Top.withLast (L.drop (i + 1))).any Top.badL)) := fun h => by
      rw [h, Bool.false_or]; exact hnext
    have hj2 : (p == [43]) = false → (p == [35] && decide (i = L.length - 1)) = false → Ev (fun k => basculeref12_Filter.j2 k (L.map mk) (i : Int) false) (!(Top.badL (p, decide (i = L.length - 1)) || (Top.withLast (L.drop (i + 1))).any Top.badL)) := fun h1 h2 => by
      have hb : Top.badL (p, decide (i = L.length - 1)) = Top.hasAny p Top.wild := by unfold Top.badL; simp only [h1, h2, Bool.not_false, Bool.true_and]
      refine Ev.step (fun k => rfl) ?_
      refine Ev.pos (by rw [List.length_map]; omega) ?_
      rw [rd_mk L i p hp]
      refine Ev.bind (has_ev (mk p) 43 (by rw [mk_size]; omega)) ?_
      rw [mk_data, hb, hasAny_two]
      cases h43 : p.contains 43
      · refine Ev.neg (by simp) (Ev.bind (has_ev (mk p) 35 (by rw [mk_size]; omega)) ?_)
        rw [mk_data]
        cases h35 : p.contains 35
        · refine Ev.neg (by simp) ?_
          have := hnext
          simpa using this
        · exact Ev.pos rfl (Ev.ret' (by simp))
      · exact Ev.pos rfl (Ev.ret' (by simp))
    have hj2t : Top.badL (p, decide (i = L.length - 1)) = false → Ev (fun k => basculeref12_Filter.j2 k (L.map mk) (i : Int) true) (!(Top.badL (p, decide (i = L.length - 1)) || (Top.withLast (L.drop (i + 1))).any Top.badL)) := fun h => Ev.step (fun k => rfl) (hyes h)
    refine Ev.step (fun k => rfl) ?_
    refine Ev.pos (by rw [List.length_map]; omega) (Ev.pos (by omega) ?_)
    rw [rd_mk L i p hp, mk_toList]
    by_cases h43 : p = [43]
    · refine Ev.pos h43 (hj2t ?_)
      rw [h43]; rfl
    · have n43 : (p == [43]) = false := beq_eq_false_iff_ne.2 h43
      refine Ev.neg h43 ?_
      by_cases h35 : p = [35]
      · refine Ev.pos h35 ?_
        have hlen : ((L.map mk).length : Int) = (L.length : Int) := by rw [List.length_map]
        rw [hlen, w64 (by omega) (by omega)]
        by_cases hil : i = L.length - 1
        · have : ((i : Int) == (L.length : Int) - 1) = true := beq_iff_eq.2 (by omega)
          rw [this]
          refine hj2t ?_
          rw [h35, decide_eq_true hil]; rfl
        · have : ((i : Int) == (L.length : Int) - 1) = false := beq_eq_false_iff_ne.2 (by omega)
          rw [this]
          exact hj2 n43 (by rw [decide_eq_false hil, Bool.and_false])
      · refine Ev.neg h35 (hj2 n43 ?_)
        rw [beq_eq_false_iff_ne.2 h35, Bool.false_and]
theorem filter_ev (s : ByteArray) : Ev (fun k => basculeref12_Filter.f k s) (Top.isFilter s) := by
  show Ev (fun k => if s.toList = ([] : List UInt8) then basculeref12_Filter.j0 k s true else (basculeref09_Is.f k s).bind fun t136 => _) _
  have hno : Ev (fun k => basculeref12_Filter.j0 k s true) false := Ev.step (fun k => rfl) (Ev.ret _)
  unfold Top.isFilter
  by_cases h0 : s.data.toList.isEmpty = true
  · rw [h0]
    exact Ev.pos ((toList_nil s).2 h0) hno
  · refine Ev.neg (fun e => h0 ((toList_nil s).1 e)) (Ev.bind (is_ev s) ?_)
    have h0' : s.data.toList.isEmpty = false := by simpa using h0
    rw [h0', Bool.not_false, Bool.true_and]
    cases hU : Top.isU s
    · exact hno
    · have hsz := Top.isU_size s hU
      have hl := Lib.size_eq s
      rw [Bool.true_and, Bool.not_true]
      refine Ev.step (fun k => rfl) ?_
      refine Ev.bind (levels_ev s (by omega)) ?_
      exact filter_from (Top.splitB s.data.toList) (by have := splitB_len s.data.toList; omega) (fun p hp => by have := splitB_mem _ p hp; omega) _ 0 rfl (Nat.zero_le _)
end Go.Proofs.YtjibcekillcgjaaDoor.Q
