/- What the proof of TableChecks leans on: TcChecks. -/
import Derived.Test.YtbfhiiokajbdhaaGreatDoorSTableChecksPTb
import Derived.Test.YtbfhiiokajbdhaaGreatDoorSTableChecksPRef21
import Derived.Test.YtbfhiiokajbdhaaGreatDoorSTableChecksRowsS
import Derived.Test.YtbfhiiokajbdhaaGreatDoorSTableChecksQx14
set_option linter.unusedVariables false
set_option linter.unusedSimpArgs false
set_option maxRecDepth 100000
namespace Go.Proofs.YtbfhiiokajbdhaaGreatDoor.Q
open Go.RowKit Go.Proofs.YtbfhiiokajbdhaaGreatDoorW.PrintWords Go.Proofs.YtbfhiiokajbdhaaGreatDoor.Val
theorem few_from (l : List S34) (hl : l.length ≤ 100) : ∀ (m i : Nat), i + m = l.length → ∃ b, Ev (fun k => basculelaw21_few.l0 k l (i : Int)) b := by
  intro m
  induction m with
  | zero =>
    intro i hi
    exact ⟨true, Ev.step (fun k => rfl) (Ev.neg (by omega) (Ev.ret _))⟩
  | succ m ih =>
    intro i hi
    by_cases h : ((rd_T34 l (i : Int)).f0.size : Int) > 300
    · refine ⟨false, ?_⟩
      refine Ev.step (fun k => rfl) ?_
      refine Ev.pos (by omega) ?_
      refine Ev.pos (by omega) ?_
      exact Ev.pos h (Ev.ret _)
    · obtain ⟨b, hb⟩ := ih (i + 1) (by omega)
      refine ⟨b, ?_⟩
      refine Ev.step (fun k => rfl) ?_
      refine Ev.pos (by omega) ?_
      refine Ev.pos (by omega) ?_
      refine Ev.neg h ?_
      rw [show wrap64 ((i : Int) + 1) = ((i + 1 : Nat) : Int) by rw [w64 (by omega) (by omega)]; rfl]
      exact hb
theorem few21_ev (l : List S34) : ∃ b, Ev (fun k => basculelaw21_few.f k l) b ∧ (b = true → l.length ≤ 100) := by
  by_cases h : (l.length : Int) > 100
  · exact ⟨false, Ev.pos h (Ev.ret _), fun e => by cases e⟩
  · obtain ⟨b, hb⟩ := few_from l (by omega) l.length 0 (by omega)
    exact ⟨b, Ev.neg h hb, fun _ => by omega⟩
theorem check_ev (l : List S34) (hl : l.length ≤ 1000000) : Ev (fun k => table_Check.f k l) (chk l) := by
  refine ⟨l.length + 4, fun k hk => ?_⟩
  have := check_eq l hl (k - (l.length + 4))
  rwa [show k - (l.length + 4) + l.length + 4 = k by omega] at this
def wordsV (a : Int) : Int × Int := if Tab.kindB a then (Tab.wordsOf a, 0) else (0, 1)
theorem wordsT_ev (a : Int) : Ev (fun k => table_Words.f k a) (wordsV a) := by
  refine ⟨2, fun k hk => ?_⟩
  have := words_eq (k - 2) a
  rwa [show k - 2 + 2 = k by omega] at this
theorem kind21 (a : Int) : basculeref21_Kind.f a = some (Tab.kindB a) := by
  unfold basculeref21_Kind.f Tab.kindB
  by_cases h : a ≥ 1
  · rw [if_pos h, decide_eq_true (show 1 ≤ a from h), Bool.true_and]
  · rw [if_neg h, decide_eq_false (show ¬ 1 ≤ a from h), Bool.false_and]
theorem tc_j2 (a : Int) : Ev (fun k => basculelaw21_TableChecks.j2 k a (wordsV a).1 (wordsV a).2 false) true := by
  refine Ev.step (fun k => rfl) ?_
  refine Ev.fst (kind21 a) ?_
  unfold wordsV
  cases Tab.kindB a
  · refine Ev.neg (by simp) ?_
    refine Ev.fst Fl.awake_true ?_
    exact Ev.ret _
  · refine Ev.pos rfl ?_
    refine Ev.fst Fl.awake_true ?_
    refine Ev.bind (words21_ev a) ?_
    exact Ev.pos rfl (Ev.ret _)
theorem tc_end (l : List S34) (a1 : Int) (a2 : ByteArray) (q1 q2 : Int) (b : Bool) (i : Int) (r : S34) :
    Ev (fun k => basculelaw21_TableChecks.j1 k l a1 a2 q1 q2 q1 q2 (wordsV a1).1 (wordsV a1).2 b b i false r.f0 r.f1 r.f2 r.f3 r.f4 r.f5 r.f6 r.f7 r.f0 r.f1 r.f2 r.f3 r.f4 r.f5 r.f6 r.f7) true := by
  refine Ev.step (fun k => rfl) ?_
  refine Ev.pos rfl ?_
  refine Ev.pos rfl ?_
  refine Ev.neg (by simp) ?_
  rw [show (b != b) = false by cases b <;> rfl]
  exact tc_j2 a1
theorem tc_found (l : List S34) (a1 : Int) (a2 : ByteArray) (q1 q2 : Int) (i : Int) (r : S34) :
    Ev (fun k => basculelaw21_TableChecks.l0 k l a1 a2 q1 q2 q1 q2 (wordsV a1).1 (wordsV a1).2 true true i r.f0 r.f1 r.f2 r.f3 r.f4 r.f5 r.f6 r.f7 r.f0 r.f1 r.f2 r.f3 r.f4 r.f5 r.f6 r.f7) true := by
  refine Ev.step (fun k => rfl) ?_
  by_cases h : i < (l.length : Int)
  · exact Ev.pos h (tc_end l a1 a2 q1 q2 true i r)
  · exact Ev.neg h (tc_end l a1 a2 q1 q2 true i r)
theorem tc_loop (l : List S34) (hl : l.length ≤ 1000000) (a1 : Int) (a2 : ByteArray) (q1 q2 : Int) : ∀ (m i : Nat), i + m = l.length → Tab.findAt a2.toList 0 l = Tab.findAt a2.toList i (l.drop i) →
    Ev (fun k => basculelaw21_TableChecks.l0 k l a1 a2 q1 q2 q1 q2 (wordsV a1).1 (wordsV a1).2 (Tab.findB l a2) false (i : Int) (Tab.findR l a2).f0 (Tab.findR l a2).f1 (Tab.findR l a2).f2 (Tab.findR l a2).f3 (Tab.findR l a2).f4 (Tab.findR l a2).f5 (Tab.findR l a2).f6 (Tab.findR l a2).f7 (⟨#[]⟩ : ByteArray) 0 0 0 0 0 0 false) true := by
  intro m
  induction m with
  | zero =>
    intro i hi hf
    rw [List.drop_eq_nil_of_le (by omega)] at hf
    have hn : Tab.findAt a2.toList 0 l < 0 := by rw [hf]; show (-1 : Int) < 0; decide
    have e1 : Tab.findB l a2 = false := by unfold Tab.findB; rw [decide_eq_true hn]; rfl
    have e2 : Tab.findR l a2 = z34 := by unfold Tab.findR; rw [if_pos hn]
    rw [e1, e2]
    refine Ev.step (fun k => rfl) ?_
    refine Ev.neg (by omega) ?_
    exact tc_end l a1 a2 q1 q2 false i z34
  | succ m ih =>
    intro i hi hf
    have hlt : i < l.length := by omega
    have w1 : wrap64 ((i : Int) + 1) = ((i + 1 : Nat) : Int) := by rw [w64 (by omega) (by omega)]; rfl
    rw [Tab.drop_T l i hlt] at hf
    refine Ev.step (fun k => rfl) ?_
    refine Ev.pos (by omega) ?_
    refine Ev.step (fun k => rfl) ?_
    refine Ev.pos (by omega) ?_
    by_cases h : (rd_T34 l (i : Int)).f0.toList = a2.toList
    · refine Ev.pos h ?_
      have hf2 : Tab.findAt a2.toList 0 l = (i : Int) := by rw [hf]; unfold Tab.findAt; rw [if_pos (beq_iff_eq.2 h)]
      have e1 : Tab.findB l a2 = true := by unfold Tab.findB; rw [hf2, decide_eq_false (by omega)]; rfl
      have e2 : Tab.findR l a2 = rd_T34 l (i : Int) := by unfold Tab.findR; rw [hf2, if_neg (by omega)]
      rw [e1, e2, w1]
      exact tc_found l a1 a2 q1 q2 _ _
    · refine Ev.neg h ?_
      rw [w1]
      refine ih (i + 1) (by omega) ?_
      rw [hf, Tab.findAt, if_neg (fun e => h (beq_iff_eq.1 e))]
theorem tableChecks_ev (l : List S34) (a1 : Int) (a2 : ByteArray) : Ev (fun k => basculelaw21_TableChecks.f k l a1 a2) true := by
  obtain ⟨b, hb, hl⟩ := few21_ev l
  refine Ev.bind hb ?_
  cases b with
  | false => exact Ev.neg (by simp) (Ev.ret _)
  | true =>
    have hl := hl rfl
    refine Ev.pos rfl ?_
    refine Ev.bind (check_ev l (by omega)) ?_
    refine Ev.bind (check21_ev l (by omega)) ?_
    refine Ev.bind (wordsT_ev a1) ?_
    refine Ev.fst (show table_Find.f l a2 = some _ from if_pos (by omega)) ?_
    exact tc_loop l (by omega) a1 a2 (chk l).1 (chk l).2 l.length 0 (by omega) rfl
end Go.Proofs.YtbfhiiokajbdhaaGreatDoor.Q
namespace Go.Proofs.YtbfhiiokajbdhaaGreatDoor.Card
open Go.RowKit Go.Proofs.YtbfhiiokajbdhaaGreatDoorW.PrintWords Go.Proofs.YtbfhiiokajbdhaaGreatDoor.Q
theorem tableChecks_calls (A : Option Addr) (c : Nat) (l : List S34) (a1 : Int) (a2 : ByteArray) (w : World) (hL : Val.Laid w) (hr : Kd.C k34 w A l.length l) (hc : l.length ≤ c) (hm : l.length ≤ 9223372036854775807) (hx : ∀ x ∈ l, rowWf x) (h2 : a2.size ≤ 140737488351232) :
    Calls Tryz.prog 4 #[.slice A l.length c, .int .i64 a1, .string a2] w fun e w' => e = .returned (.bool true) ∧ Below w.heap.size w w' := by
  obtain ⟨k, hk⟩ := (tableChecks_ev l a1 a2).rounds
  exact basculelaw21_TableChecks.calls k A c l a1 a2 true w hr hc hL hk
end Go.Proofs.YtbfhiiokajbdhaaGreatDoor.Card
