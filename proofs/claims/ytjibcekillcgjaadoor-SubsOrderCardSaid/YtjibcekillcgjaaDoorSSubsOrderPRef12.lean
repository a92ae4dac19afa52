/- What the proof of SubsOrder leans on: PRef12. -/
import Derived.Test.YtjibcekillcgjaaDoorSSubsOrderPRef09
import Derived.Test.YtjibcekillcgjaaDoorSSubsOrderQx6
import Derived.Test.YtjibcekillcgjaaDoorSSubsOrderQx5
set_option linter.unusedSimpArgs false
namespace Go.Proofs.YtjibcekillcgjaaDoor.Q
open Go.RowKit Go.Proofs.YtjibcekillcgjaaDoorW.PrintWords
set_option linter.unusedVariables false
theorem wrap_i (i : Nat) (h : i ≤ 1000000000) : wrap64 ((i : Int) + 1) = ((i + 1 : Nat) : Int) := by rw [w64 (by omega) (by omega)]; omega
theorem has_from (s : ByteArray) (c : UInt8) (hs : s.size ≤ 1000000) (d : Nat) : ∀ i : Nat, s.size - i = d → i ≤ s.size → Ev (fun k => basculeref12_has.l0 k s (c.toNat : Int) (i : Int)) ((s.data.toList.drop i).contains c) := by
  have hl := Lib.size_eq s
  induction d with
  | zero =>
    intro i hd hi
    refine Ev.step (fun k => rfl) ?_
    rw [List.drop_eq_nil_of_le (by omega)]
    exact Ev.neg (by omega) (Ev.ret _)
  | succ d ih =>
    intro i hd hi
    have hlt : i < s.data.toList.length := by omega
    obtain ⟨b, hb⟩ : ∃ b, s.data.toList[i]? = some b := ⟨_, List.getElem?_eq_getElem hlt⟩
    have hdrop : s.data.toList.drop i = b :: s.data.toList.drop (i + 1) := by
      rw [List.drop_eq_getElem_cons hlt]
      rw [List.getElem?_eq_getElem hlt] at hb
      rw [Option.some.inj hb]
    refine Ev.step (fun k => rfl) ?_
    refine Ev.pos (by omega) (Ev.pos (by omega) ?_)
    rw [bt_list s i b hb, hdrop, List.contains_cons, wrap_i i (by omega)]
    by_cases hbc : b = c
    · subst hbc
      refine Ev.pos rfl (Ev.ret' (by simp))
    · have hne : ¬ (b.toNat : Int) = (c.toNat : Int) := fun e => hbc (UInt8.toNat_inj.1 (by omega))
      refine Ev.neg hne ?_
      have : (c == b) = false := beq_eq_false_iff_ne.2 (fun e => hbc e.symm)
      rw [this, Bool.false_or]
      exact ih (i + 1) (by omega) (by omega)
theorem has_ev (s : ByteArray) (c : UInt8) (hs : s.size ≤ 1000000) : Ev (fun k => basculeref12_has.f k s (c.toNat : Int)) (s.data.toList.contains c) := by
  have := has_from s c hs s.size 0 (by omega) (by omega)
  rw [List.drop_zero] at this
  exact this
theorem hasAny_two (l : List UInt8) : Top.hasAny l Top.wild = (l.contains 43 || l.contains 35) := by
  unfold Top.hasAny Top.wild
  induction l with
  | nil => rfl
  | cons b l ih =>
    have e : List.contains [43, 35] b = (((43 : UInt8) == b) || ((35 : UInt8) == b)) := by
      rw [List.contains_cons, List.contains_cons, List.contains_nil, Bool.or_false, Bool.beq_comm (a := b) (b := 43), Bool.beq_comm (a := b) (b := 35)]
    rw [List.any_cons, ih, e, List.contains_cons, List.contains_cons]
    cases ((43 : UInt8) == b) <;> cases ((35 : UInt8) == b) <;> cases (l.contains 43) <;> cases (l.contains 35) <;> rfl
theorem toList_nil (s : ByteArray) : (s.toList = ([] : List UInt8)) ↔ s.data.toList.isEmpty = true := by rw [Lib.toList_data]; exact List.isEmpty_iff.symm
theorem name_ev (s : ByteArray) : Ev (fun k => basculeref12_Name.f k s) (Top.isName s) := by
  show Ev (fun k => if s.toList = ([] : List UInt8) then some false else (basculeref09_Is.f k s).bind fun t127 => _) _
  unfold Top.isName
  by_cases h0 : s.data.toList.isEmpty = true
  · rw [h0]
    exact Ev.pos ((toList_nil s).2 h0) (Ev.ret _)
  · refine Ev.neg (fun e => h0 ((toList_nil s).1 e)) (Ev.bind (is_ev s) ?_)
    have h0' : s.data.toList.isEmpty = false := by simpa using h0
    rw [h0', Bool.not_false, Bool.true_and]
    cases hU : Top.isU s
    · exact Ev.neg (by simp) (Ev.ret _)
    · have hsz := Top.isU_size s hU
      refine Ev.pos rfl (Ev.bind (has_ev s 43 (by omega)) ?_)
      rw [hasAny_two, Bool.true_and]
      cases h43 : s.data.toList.contains 43
      · refine Ev.neg (by simp) (Ev.bind (has_ev s 35 (by omega)) ?_)
        exact Ev.ret _
      · exact Ev.pos rfl (Ev.ret _)
end Go.Proofs.YtjibcekillcgjaaDoor.Q
