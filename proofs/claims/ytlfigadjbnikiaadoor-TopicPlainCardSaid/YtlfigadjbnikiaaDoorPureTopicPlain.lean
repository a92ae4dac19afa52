/- TopicPlain, plain: a name is a filter that takes itself alone; '#' takes every name that does not begin with '$'. -/
import Derived.Test.YtlfigadjbnikiaaDoorPLaw12
import Derived.Test.YtlfigadjbnikiaaDoorQx6
set_option linter.unusedVariables false
set_option linter.unusedSimpArgs false
namespace Go.Proofs.YtlfigadjbnikiaaDoor.Pure
open Go.RowKit Go.Proofs.YtlfigadjbnikiaaDoor.Q Go.Proofs.YtlfigadjbnikiaaDoorW.PrintWords

attribute [local irreducible] topic_Matches.f topic_Name.f topic_Filter.f basculelaw12_awake.f basculelaw12_takes.f
theorem TopicPlain : basculelaw12_TopicPlain.Pure := by
  intro f n _ _
  have hend : Ev (fun k => basculelaw12_TopicPlain.j0 k f n true) true := Ev.step (fun k => rfl) (Ev.ret _)
  have hgo : Top.isName f = true → Top.isName n = true → Ev (fun k => basculelaw12_TopicPlain.j0 k f n false) true := by
    intro hf hn
    have Hf := (name_iff f).1 hf
    have Hn := (name_iff n).1 hn
    obtain ⟨c, r, hc⟩ : ∃ c r, f.data.toList = c :: r := by
      cases h : f.data.toList with
      | nil => exact absurd h Hf.1
      | cons c r => exact ⟨c, r, rfl⟩
    have hcw : Top.hasAny [c] Top.wild = false := by
      have := Hf.2.2.2
      rw [hc, show c :: r = [c] ++ r from rfl, hasAny_app, Bool.or_eq_false_iff] at this
      exact this.1
    have hplain : ∀ m : ByteArray, Top.isName m = true → tk f m = decide (f.data.toList = m.data.toList) := fun m hm => by
      have Hm := (name_iff m).1 hm
      rw [tk_of f m _ _ rfl rfl (name_filt Hf) Hm]
      obtain ⟨b, t, hb⟩ : ∃ b t, m.data.toList = b :: t := by
        cases h : m.data.toList with
        | nil => exact absurd h Hm.1
        | cons c r => exact ⟨c, r, rfl⟩
      have hd : Top.dollar f.data.toList m.data.toList = false := by rw [hc, hb, dollar_at, hcw, Bool.and_false]
      unfold Top.takesF
      rw [hd, takesL_plain _ _ (mids _ Hf.2.2.2), Bool.not_false, Bool.true_and]
      by_cases e : f.data.toList = m.data.toList
      · rw [decide_eq_true e, e]; simp
      · rw [decide_eq_false e, decide_eq_false (fun h => e (splitB_inj h))]
    have hhash : tk (⟨#[35]⟩ : ByteArray) f = (c != 36) := by
      rw [tk_of (⟨#[35]⟩ : ByteArray) f [35] (c :: r) rfl hc ⟨by simp, by simp, by decide, by decide⟩ (by rw [← hc]; exact Hf)]
      unfold Top.takesF
      rw [dollar_at]
      have e1 : Top.hasAny [35] Top.wild = true := by decide
      have e2 : Top.splitB [35] = [[35]] := by decide
      rw [e1, e2, Top.takesL_hash, Bool.and_true, Bool.and_true]
      rfl
    refine Ev.step (fun k => rfl) ?_
    refine Ev.fst awake_f ?_
    refine Ev.pos rfl ?_
    refine Ev.fst (fil_f f) ?_
    rw [(filt_iff f).2 (name_filt Hf)]
    refine Ev.pos rfl ?_
    refine Ev.fst (takes_f f n) ?_
    rw [hplain n hn]
    have e : (decide (f.data.toList = n.data.toList) == (f.toList == n.toList)) = true := by
      rw [Lib.toList_data, Lib.toList_data]
      by_cases e : f.data.toList = n.data.toList
      · rw [e]; simp
      · rw [decide_eq_false e, beq_eq_false_iff_ne.2 e]; rfl
    refine Ev.pos e ?_
    refine Ev.fst (takes_f _ f) ?_
    have hsz : 0 < (f.size : Int) := by rw [Lib.size_eq, hc]; simp
    refine Ev.pos hsz ?_
    have hb : bt f 0 = (c.toNat : Int) := bt_list f 0 c (by rw [hc]; rfl)
    rw [hb, hhash]
    have e2 : ((c != 36) == ((c.toNat : Int) != 36)) = true := by
      by_cases h : c = 36
      · subst h; rfl
      · have h2 : ¬ (c.toNat : Int) = 36 := fun e => h (UInt8.toNat_inj.1 (by show c.toNat = 36; omega))
        rw [bne_iff_ne.2 h, bne_iff_ne.2 h2]; rfl
    refine Ev.pos e2 ?_
    refine Ev.fst (takes_f f f) ?_
    rw [hplain f hf]
    exact Ev.ret' (by simp)
  refine Ev.rounds ?_
  refine Ev.fst (small_f f) ?_
  cases decide ((f.size : Int) ≤ 500)
  · exact Ev.neg (by simp) hend
  refine Ev.pos rfl ?_
  refine Ev.fst (small_f n) ?_
  cases decide ((n.size : Int) ≤ 500)
  · exact Ev.neg (by simp) hend
  refine Ev.pos rfl ?_
  refine Ev.bind (name_ev f) ?_
  cases hf : Top.isName f
  · exact Ev.neg (by simp) hend
  refine Ev.pos rfl ?_
  refine Ev.bind (name_ev n) ?_
  cases hn : Top.isName n
  · exact hend
  · exact hgo hf hn

end Go.Proofs.YtlfigadjbnikiaaDoor.Pure
