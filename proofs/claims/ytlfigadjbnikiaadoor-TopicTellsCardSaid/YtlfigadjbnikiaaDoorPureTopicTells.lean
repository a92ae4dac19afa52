/- TopicTells, plain: names, filters, and which takes which are told as the document says. -/
import Derived.Test.YtlfigadjbnikiaaDoorPLaw12
import Derived.Test.YtlfigadjbnikiaaDoorQx5
set_option linter.unusedSimpArgs false
namespace Go.Proofs.YtlfigadjbnikiaaDoor.Pure
open Go.RowKit Go.Proofs.YtlfigadjbnikiaaDoor.Q Go.Proofs.YtlfigadjbnikiaaDoorW.PrintWords
set_option linter.unusedVariables false

attribute [local irreducible] topic_Matches.f topic_Name.f topic_Filter.f basculelaw12_awake.f
theorem TopicTells : basculelaw12_TopicTells.Pure := by
  intro f n _ _
  have hend : Ev (fun k => basculelaw12_TopicTells.j0 k f n true) true := Ev.step (fun k => rfl) (Ev.ret _)
  have hgo : Ev (fun k => basculelaw12_TopicTells.j0 k f n false) true := by
    refine Ev.step (fun k => rfl) ?_
    have hM := mat_f f n
    have hN := nam_f n
    have hF := fil_f f
    have eN : (((if Top.isName n then 0 else 120 : Int)) == 0) = Top.isName n := by cases Top.isName n <;> rfl
    have eF : (((if Top.isFilter f then 0 else 121 : Int)) == 0) = Top.isFilter f := by cases Top.isFilter f <;> rfl
    refine Ev.fst hM ?_
    refine Ev.fst hN ?_
    refine Ev.bind (name_ev n) ?_
    rw [eN]
    refine Ev.neg (by simp) ?_
    refine Ev.fst hF ?_
    refine Ev.bind (filter_ev f) ?_
    rw [eF, bne_self_eq_false]
    refine Ev.step (fun k => rfl) ?_
    refine Ev.bind (filter_ev f) ?_
    unfold Top.matchB Top.matchE
    cases hf : Top.isFilter f
    · refine Ev.neg (by simp) ?_
      refine Ev.fst awake_f ?_
      refine Ev.pos rfl ?_
      refine Ev.pos rfl ?_
      refine Ev.neg (by simp) ?_
      rw [hf] at hF
      refine Ev.fst hF ?_
      exact Ev.ret _
    · refine Ev.pos rfl (Ev.bind (name_ev n) ?_)
      cases hn : Top.isName n
      · refine Ev.neg (by simp) ?_
        refine Ev.fst awake_f ?_
        refine Ev.pos rfl ?_
        refine Ev.pos rfl ?_
        refine Ev.neg (by simp) ?_
        rw [hn] at hN
        refine Ev.fst hN ?_
        exact Ev.ret _
      · refine Ev.pos rfl ?_
        refine Ev.fst awake_f ?_
        refine Ev.pos rfl ?_
        refine Ev.pos rfl ?_
        refine Ev.bind (takes_ev f n hf hn) ?_
        exact Ev.ret' (by simp)
  refine Ev.rounds ?_
  have hs := small_f
  refine Ev.fst (hs f) ?_
  by_cases h1 : (f.size : Int) ≤ 500
  · refine Ev.pos (decide_eq_true h1) ?_
    refine Ev.fst (hs n) ?_
    cases decide ((n.size : Int) ≤ 500)
    · exact hend
    · exact hgo
  · exact Ev.neg (by simpa using h1) hend

end Go.Proofs.YtlfigadjbnikiaaDoor.Pure
