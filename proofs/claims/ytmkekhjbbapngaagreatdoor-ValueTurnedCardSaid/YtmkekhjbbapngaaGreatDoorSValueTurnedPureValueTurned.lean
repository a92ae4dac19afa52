/- What the proof of ValueTurned leans on: PureValueTurned. -/
import Derived.Test.YtmkekhjbbapngaaGreatDoorSValueTurnedPLaw22
import Derived.Test.YtmkekhjbbapngaaGreatDoorSValueTurnedPSound
import Derived.Test.YtmkekhjbbapngaaGreatDoorSValueTurnedPEv
import Derived.Test.YtmkekhjbbapngaaGreatDoorSValueTurnedQT
set_option linter.unusedVariables false
set_option linter.unusedSimpArgs false
namespace Go.Proofs.YtmkekhjbbapngaaGreatDoor.Q
open Go.RowKit Go.Proofs.YtmkekhjbbapngaaGreatDoor.Val Go.Proofs.YtmkekhjbbapngaaGreatDoorW.PrintWords
theorem awake_evT : Ev (fun k => basculelaw22_awake.f k) true := ⟨3, fun k hk => by
  obtain ⟨j, rfl⟩ : ∃ j, k = j + 3 := ⟨k - 3, by omega⟩
  exact awake_eq j⟩
theorem is01_fT (x : Int) : basculeref01_Is.f x = some (decide (0 ≤ x) && decide (x ≤ 65535)) := by
  unfold basculeref01_Is.f
  by_cases h : x ≥ 0
  · rw [if_pos h, decide_eq_true (show 0 ≤ x from h), Bool.true_and]
  · rw [if_neg h, decide_eq_false (show ¬ 0 ≤ x from h)]; rfl
theorem row_fT (kd s : Int) : basculelaw22_row.f kd s 0 = some (⟨#[97]⟩, 1, 3, 0, kd, s, 0, false) := rfl
def pairK (hi lo : Int) : Prop := (hi = 4 ∧ lo = 6) ∨ (hi = 5 ∧ lo = 7)
theorem pair_num {hi lo : Int} (h : pairK hi lo) (l : List Int) : numOf lo l.reverse = numOf hi l := by
  rcases h with ⟨rfl, rfl⟩ | ⟨rfl, rfl⟩ <;> (unfold numOf ordW trn sgn; simp)
theorem pair_text {hi lo : Int} (h : pairK hi lo) (s : Int) (l : List Int) : textL lo s l.reverse = textL hi s l := by
  have e := pair_num h l
  unfold textL
  rw [e]
  rcases h with ⟨rfl, rfl⟩ | ⟨rfl, rfl⟩ <;> rfl
theorem pair_may {hi lo : Int} (h : pairK hi lo) (s : Int) (h0 : 0 ≤ s) (h9 : s ≤ 9) (l : List Int) : mayB ⟨#[97]⟩ 1 3 0 lo s 0 false l.reverse = mayB ⟨#[97]⟩ 1 3 0 hi s 0 false l := by
  have hk : Tab.wordsOf hi = 2 ∧ Tab.wordsOf lo = 2 := by rcases h with ⟨rfl, rfl⟩ | ⟨rfl, rfl⟩ <;> exact ⟨rfl, rfl⟩
  unfold pairK at h
  rw [may_row1 lo s _ (by omega) h0 h9, may_row1 hi s _ (by omega) h0 h9, hk.1, hk.2, List.length_reverse, List.any_reverse]
theorem pair_textR {hi lo : Int} (h : pairK hi lo) (s : Int) (h0 : 0 ≤ s) (h9 : s ≤ 9) (l : List Int) : textR ⟨#[97]⟩ 1 3 0 lo s 0 false l.reverse = textR ⟨#[97]⟩ 1 3 0 hi s 0 false l := by
  unfold textR
  rw [pair_may h s h0 h9, pair_text h]
theorem pair_wordsN {hi lo : Int} (h : pairK hi lo) (b : Bool) (x : Nat) : wordsN lo b x = ((wordsN hi b x).1.reverse, (wordsN hi b x).2) := by
  have hs : sgn lo = sgn hi := by rcases h with ⟨rfl, rfl⟩ | ⟨rfl, rfl⟩ <;> rfl
  have hw : Tab.wordsOf lo = Tab.wordsOf hi := by rcases h with ⟨rfl, rfl⟩ | ⟨rfl, rfl⟩ <;> rfl
  have ht : trn lo = true ∧ trn hi = false := by rcases h with ⟨rfl, rfl⟩ | ⟨rfl, rfl⟩ <;> exact ⟨rfl, rfl⟩
  unfold wordsN topN ordW
  rw [hs, hw, ht.1, ht.2]
  by_cases h1 : (!sgn hi && b) = true
  · rw [if_pos h1, if_pos h1]; rfl
  · rw [if_neg h1, if_neg h1]
    generalize (if sgn hi = true then 2 ^ (16 * (Tab.wordsOf hi).toNat) / 2 - 1 + (if b = true then 1 else 0) else 2 ^ (16 * (Tab.wordsOf hi).toNat) - 1) = q
    by_cases h2 : q < x
    · rw [if_pos h2, if_pos h2]; rfl
    · rw [if_neg h2, if_neg h2]; rfl
theorem pair_fin {hi lo : Int} (h : pairK hi lo) (s : Int) (h0 : 0 ≤ s) (h9 : s ≤ 9) (l : List Int) (t : ByteArray) :
    finL ⟨#[97]⟩ 1 3 0 lo s 0 false l.reverse t = (finL ⟨#[97]⟩ 1 3 0 hi s 0 false l t).reverse ∧ finE ⟨#[97]⟩ 1 3 0 lo s 0 false l.reverse t = finE ⟨#[97]⟩ 1 3 0 hi s 0 false l t := by
  unfold finL finE
  rw [pair_may h s h0 h9, pair_textR h s h0 h9]
  by_cases hc : (mayB ⟨#[97]⟩ 1 3 0 hi s 0 false l && decide ((textR ⟨#[97]⟩ 1 3 0 hi s 0 false l).toList = t.toList)) = true
  · rw [if_pos hc, if_pos hc, if_pos hc]; exact ⟨rfl, rfl⟩
  · rw [if_neg hc, if_neg hc, if_neg hc]; exact ⟨rfl, rfl⟩
theorem pair_words {hi lo : Int} (h : pairK hi lo) (s : Int) (h0 : 0 ≤ s) (h9 : s ≤ 9) (t : ByteArray) :
    wordsRE ⟨#[97]⟩ 1 3 0 lo s 0 false t = ((wordsRE ⟨#[97]⟩ 1 3 0 hi s 0 false t).1.reverse, (wordsRE ⟨#[97]⟩ 1 3 0 hi s 0 false t).2) := by
  have r1 : rowB ⟨#[97]⟩ 1 3 0 hi s 0 false = true := row_num hi s (by unfold pairK at h; omega) h0 h9
  have r2 : rowB ⟨#[97]⟩ 1 3 0 lo s 0 false = true := row_num lo s (by unfold pairK at h; omega) h0 h9
  have n1 : ¬ lo = 8 ∧ ¬ hi = 8 ∧ ¬ lo = 1 ∧ ¬ hi = 1 := by unfold pairK at h; omega
  unfold wordsRE
  rw [r1, r2]
  simp only [if_true, if_neg n1.1, if_neg n1.2.1, if_neg n1.2.2.1, if_neg n1.2.2.2]
  by_cases hp : (plainP t.data.toList s).2.2 = true
  · rw [if_pos hp, if_pos hp]
    cases hq : Lib.parseUintB 64 (plainP t.data.toList s).1 with
    | ok v =>
      simp only
      rw [pair_wordsN h]
      by_cases hw : (wordsN hi (plainP t.data.toList s).2.1 v).2 = true
      · rw [if_pos hw, if_pos hw]
        obtain ⟨e1, e2⟩ := pair_fin h s h0 h9 (wordsN hi (plainP t.data.toList s).2.1 v).1 t
        rw [e1, e2]
      · rw [if_neg hw, if_neg hw]; rfl
    | range => rfl
    | _ => rfl
  · rw [if_neg hp, if_neg hp]; rfl
end Go.Proofs.YtmkekhjbbapngaaGreatDoor.Q
namespace Go.Proofs.YtmkekhjbbapngaaGreatDoor.Pure
open Go.RowKit Go.Proofs.YtmkekhjbbapngaaGreatDoor.Q Go.Proofs.YtmkekhjbbapngaaGreatDoor.Val Go.Proofs.YtmkekhjbbapngaaGreatDoorW.PrintWords
attribute [local irreducible] basculelaw22_awake.f value_Words.f value_Text.f basculelaw22_row.f
theorem ValueTurned : basculelaw22_ValueTurned.Pure := by
  intro sg s a b t _ _ _ _
  refine Ev.rounds ?_
  have hend : Ev (fun k => basculelaw22_ValueTurned.j0 k sg s a b t true) true := by
    refine Ev.step (fun k => rfl) ?_
    exact Ev.ret _
  refine Ev.fst (is01_fT a) ?_
  by_cases ha : ¬ (0 ≤ a ∧ a ≤ 65535)
  · have : (decide (0 ≤ a) && decide (a ≤ 65535)) = false := by
      rw [Bool.eq_false_iff]; simpa using ha
    rw [this]
    exact Ev.neg (by simp) hend
  replace ha := Decidable.not_not.1 ha
  rw [decide_eq_true ha.1, decide_eq_true ha.2]
  refine Ev.pos rfl (Ev.fst (is01_fT b) ?_)
  by_cases hb : ¬ (0 ≤ b ∧ b ≤ 65535)
  · have : (decide (0 ≤ b) && decide (b ≤ 65535)) = false := by
      rw [Bool.eq_false_iff]; simpa using hb
    rw [this]
    exact Ev.neg (by simp) hend
  replace hb := Decidable.not_not.1 hb
  rw [decide_eq_true hb.1, decide_eq_true hb.2]
  refine Ev.pos rfl ?_
  by_cases h0 : s < 0
  · exact Ev.pos h0 hend
  refine Ev.neg h0 ?_
  by_cases h9 : s > 9
  · exact Ev.pos h9 hend
  refine Ev.neg h9 ?_
  by_cases ht : (t.size : Int) > 100
  · rw [decide_eq_true ht]; exact hend
  rw [decide_eq_false ht]
  replace h0 : 0 ≤ s := by omega
  replace h9 : s ≤ 9 := by omega
  have main : ∀ hi lo, pairK hi lo → Ev (fun k => basculelaw22_ValueTurned.j1 k s a b t hi lo) true := by
    intro hi lo hk
    have hk' := hk
    unfold pairK at hk'
    have hrow : ∀ kd, basculelaw22_row.f kd s 0 = some (⟨#[97]⟩, 1, 3, 0, kd, s, 0, false) := fun kd => row_fT kd s
    have hm : mayB ⟨#[97]⟩ 1 3 0 hi s 0 false [a, b] = true := by
      rw [may_row1 hi s _ (by omega) h0 h9]
      have hw : Tab.wordsOf hi = 2 := by rcases hk with ⟨rfl, rfl⟩ | ⟨rfl, rfl⟩ <;> rfl
      rw [hw]
      have e1 : bad 65535 a = false := by unfold bad; simp; omega
      have e2 : bad 65535 b = false := by unfold bad; simp; omega
      simp [e1, e2]
    have hm2 := pair_may hk s h0 h9 [a, b]
    rw [hm] at hm2
    have T1 := text_num1 hi s [a, b] (by omega) (by simp) hm
    have T2 := text_num1 lo s [b, a] (by omega) (by simp) hm2
    have en := pair_num hk [a, b]
    rw [show ([a, b] : List Int).reverse = [b, a] from rfl] at en
    rw [en] at T2
    have W1 : value_Words.f ⟨#[97]⟩ 1 3 0 hi s 0 false t = some (wordsR ⟨#[97]⟩ 1 3 0 hi s 0 false t, wordsE ⟨#[97]⟩ 1 3 0 hi s 0 false t) := by
      unfold value_Words.f
      rw [if_pos (by omega)]
    have W2 : value_Words.f ⟨#[97]⟩ 1 3 0 lo s 0 false t = some ((wordsR ⟨#[97]⟩ 1 3 0 hi s 0 false t).reverse, wordsE ⟨#[97]⟩ 1 3 0 hi s 0 false t) := by
      unfold value_Words.f
      rw [if_pos (by omega)]
      unfold wordsR wordsE
      rw [pair_words hk s h0 h9]
    have hc := words_cases ⟨#[97]⟩ 1 3 0 hi s 0 false t
    refine Ev.step (fun k => rfl) ?_
    refine Ev.fst (hrow hi) ?_
    refine Ev.fst T1 ?_
    refine Ev.fst (hrow lo) ?_
    refine Ev.fst T2 ?_
    refine Ev.fst (hrow hi) ?_
    refine Ev.fst W1 ?_
    refine Ev.fst (hrow lo) ?_
    refine Ev.fst W2 ?_
    refine Ev.pos rfl ?_
    refine Ev.pos rfl ?_
    refine Ev.pos rfl ?_
    refine Ev.pos rfl ?_
    refine Ev.pos (by simp) (Ev.bind awake_evT (Ev.pos rfl ?_))
    rcases hc with ⟨l, e, hml, -, -⟩ | ⟨x, hx, e⟩
    · have e1 : wordsR ⟨#[97]⟩ 1 3 0 hi s 0 false t = l := by unfold wordsR; rw [e]
      have e2 : wordsE ⟨#[97]⟩ 1 3 0 hi s 0 false t = 0 := by unfold wordsE; rw [e]
      have hl2 : l.length = 2 := by
        have := Val.may_len hml
        unfold nOf at this
        have hw : Tab.wordsOf hi = 2 := by rcases hk with ⟨rfl, rfl⟩ | ⟨rfl, rfl⟩ <;> rfl
        rw [hw, if_neg (by omega)] at this
        omega
      obtain ⟨p, q, rfl⟩ := list2 hl2
      rw [e1, e2]
      refine Ev.congr (f := fun _ => some true) (fun k => ?_) (Ev.ret _)
      simp [rd]
    · have e2 : wordsE ⟨#[97]⟩ 1 3 0 hi s 0 false t = x := by unfold wordsE; rw [e]
      rw [e2]
      exact Ev.neg hx (Ev.ret _)
  cases sg
  · refine Ev.step (fun k => rfl) ?_
    exact main 4 6 (.inl ⟨rfl, rfl⟩)
  · refine Ev.step (fun k => rfl) ?_
    exact main 5 7 (.inr ⟨rfl, rfl⟩)
end Go.Proofs.YtmkekhjbbapngaaGreatDoor.Pure
