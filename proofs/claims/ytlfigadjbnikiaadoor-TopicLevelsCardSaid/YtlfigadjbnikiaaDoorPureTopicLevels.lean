/- TopicLevels, plain: one level more on either side changes nothing, and '/#' takes what was taken and all below it. -/
import Derived.Test.YtlfigadjbnikiaaDoorPLaw12
import Derived.Test.YtlfigadjbnikiaaDoorQx7
set_option linter.unusedVariables false
set_option linter.unusedSimpArgs false
namespace Go.Proofs.YtlfigadjbnikiaaDoor.Pure
open Go.RowKit Go.Proofs.YtlfigadjbnikiaaDoor.Q Go.Proofs.YtlfigadjbnikiaaDoorW.PrintWords

attribute [local irreducible] topic_Matches.f topic_Name.f topic_Filter.f basculelaw12_awake.f basculelaw12_takes.f

theorem app_data (a b : ByteArray) : (a ++ b).data.toList = a.data.toList ++ b.data.toList := by simp

theorem lv_go (f n s : ByteArray) (sf : f.data.toList.length ≤ 500) (sn : n.data.toList.length ≤ 500) (ss : s.data.toList.length ≤ 500)
    (hf : Top.isFilter f = true) (hn : Top.isName n = true) (hl : f.data.toList.getLast? ≠ some 35) (h47 : (47 : UInt8) ∉ s.data.toList)
    (hns : NameL (n.data.toList ++ 47 :: s.data.toList)) :
    (tk ((f ++ (⟨#[47]⟩ : ByteArray)) ++ s) ((n ++ (⟨#[47]⟩ : ByteArray)) ++ s) = tk f n) ∧ (tk (f ++ (⟨#[47, 43]⟩ : ByteArray)) ((n ++ (⟨#[47]⟩ : ByteArray)) ++ s) = tk f n) ∧
    (tk f n = true → tk (f ++ (⟨#[47, 35]⟩ : ByteArray)) n = true ∧ tk (f ++ (⟨#[47, 35]⟩ : ByteArray)) ((n ++ (⟨#[47]⟩ : ByteArray)) ++ s) = true) := by
  have Hf := (filt_iff f).1 hf
  have Hn := (name_iff n).1 hn
  have ef : ∀ x : ByteArray, ((f ++ (⟨#[47]⟩ : ByteArray)) ++ x).data.toList = f.data.toList ++ 47 :: x.data.toList := fun x => by rw [app_data, app_data, List.append_assoc]; rfl
  have en : ((n ++ (⟨#[47]⟩ : ByteArray)) ++ s).data.toList = n.data.toList ++ 47 :: s.data.toList := by rw [app_data, app_data, List.append_assoc]; rfl
  have e43 : (f ++ (⟨#[47, 43]⟩ : ByteArray)).data.toList = f.data.toList ++ 47 :: [43] := by rw [app_data]
  have e35 : (f ++ (⟨#[47, 35]⟩ : ByteArray)).data.toList = f.data.toList ++ 47 :: [35] := by rw [app_data]
  have tk0 := tk_of f n _ _ rfl rfl Hf Hn
  have mid := all_mid f.data.toList Hf.2.2.2 hl
  obtain ⟨c, r, hc⟩ : ∃ c r, f.data.toList = c :: r := by
    cases h : f.data.toList with
    | nil => exact absurd h Hf.1
    | cons c r => exact ⟨c, r, rfl⟩
  obtain ⟨b, t, hb⟩ : ∃ b t, n.data.toList = b :: t := by
    cases h : n.data.toList with
    | nil => exact absurd h Hn.1
    | cons c r => exact ⟨c, r, rfl⟩
  have hok := hns.2.2.1
  rw [okQ_slash, Bool.and_eq_true] at hok
  have hw := hns.2.2.2
  rw [hasAny_47, Bool.or_eq_false_iff] at hw
  have hsp : ∀ x : List UInt8, (47 : UInt8) ∉ x → Top.splitB (f.data.toList ++ 47 :: x) = Top.splitB f.data.toList ++ [x] := fun x hx => by rw [splitB_app, splitB_one x hx]
  have hspn : Top.splitB (n.data.toList ++ 47 :: s.data.toList) = Top.splitB n.data.toList ++ [s.data.toList] := by rw [splitB_app, splitB_one _ h47]
  have hfil : ∀ x : List UInt8, (47 : UInt8) ∉ x → x.length ≤ 500 → okQ x = true → (Mid x ∨ x = [35]) → FiltL (f.data.toList ++ 47 :: x) := fun x hx hlen hq hm => by
    refine ⟨by simp, by rw [List.length_append, List.length_cons]; omega, by rw [okQ_slash, Hf.2.2.1, hq]; rfl, ?_⟩
    unfold Top.lvl
    rw [hsp x hx]
    exact (good_snoc _ x).2 ⟨mid, hm⟩
  have hdol : ∀ x y : List UInt8, Top.dollar (f.data.toList ++ x) (n.data.toList ++ y) = Top.dollar f.data.toList n.data.toList := fun x y => by
    rw [hc, hb, List.cons_append, List.cons_append, dollar_at, dollar_at]
  have hdol2 : ∀ x : List UInt8, Top.dollar (f.data.toList ++ x) n.data.toList = Top.dollar f.data.toList n.data.toList := fun x => by
    have := hdol x []
    rwa [List.append_nil] at this
  have s43 : (47 : UInt8) ∉ ([43] : List UInt8) := by decide
  have s35 : (47 : UInt8) ∉ ([35] : List UInt8) := by decide
  have hms : Mid s.data.toList := .inr hw.2
  have hne := fun p hp => mid_ne p (mid p hp)
  refine ⟨?_, ?_, ?_⟩
  · rw [tk0, tk_of _ _ _ _ (ef s) en (hfil _ h47 ss hok.2 (.inl hms)) hns]
    unfold Top.takesF
    rw [hdol, hsp _ h47, hspn, takesL_snoc _ _ (mid_ne _ hms) (.inr rfl) _ _ hne]
  · rw [tk0, tk_of _ _ _ _ e43 en (hfil _ s43 (by simp) (by decide) (.inl (.inl rfl))) hns]
    unfold Top.takesF
    rw [hdol, hsp _ s43, hspn, takesL_snoc _ _ (by decide) (.inl rfl) _ _ hne]
  · intro h
    rw [tk0] at h
    unfold Top.takesF at h
    rw [Bool.and_eq_true] at h
    refine ⟨?_, ?_⟩
    · rw [tk_of _ _ _ _ e35 rfl (hfil _ s35 (by simp) (by decide) (.inr rfl)) Hn]
      unfold Top.takesF
      have := takesL_all [] _ _ h.2
      rw [List.append_nil] at this
      rw [hdol2, hsp _ s35, h.1, this]; rfl
    · rw [tk_of _ _ _ _ e35 en (hfil _ s35 (by simp) (by decide) (.inr rfl)) hns]
      unfold Top.takesF
      rw [hdol, hsp _ s35, hspn, h.1, takesL_all _ _ _ h.2]; rfl

theorem TopicLevels : basculelaw12_TopicLevels.Pure := by
  intro f n s _ _ _
  have hend : Ev (fun k => basculelaw12_TopicLevels.j0 k f n s true) true := Ev.step (fun k => rfl) (Ev.ret _)
  have hgo : f.data.toList.length ≤ 500 → n.data.toList.length ≤ 500 → s.data.toList.length ≤ 500 → Top.isFilter f = true → Top.isName n = true → f.data.toList.getLast? ≠ some 35 → (47 : UInt8) ∉ s.data.toList →
      Ev (fun k => basculelaw12_TopicLevels.l0 k f n s (s.size : Int)) true := by
    intro sf sn ss hf hn hl h47
    have zf := Lib.size_eq f; have zn := Lib.size_eq n; have zs := Lib.size_eq s
    have s47 : (⟨#[47]⟩ : ByteArray).size = 1 := rfl
    refine Ev.step (fun k => rfl) ?_
    refine Ev.neg (by omega) ?_
    refine Ev.pos (by omega) ?_
    refine Ev.pos (by rw [ByteArray.size_append, s47]; omega) ?_
    refine Ev.bind (name_ev _) ?_
    cases hns : Top.isName ((n ++ (⟨#[47]⟩ : ByteArray)) ++ s)
    · refine Ev.neg (by simp) ?_
      refine Ev.fst awake_f ?_
      exact Ev.ret _
    have Hns := (name_iff _).1 hns
    have en : ((n ++ (⟨#[47]⟩ : ByteArray)) ++ s).data.toList = n.data.toList ++ 47 :: s.data.toList := by rw [app_data, app_data, List.append_assoc]; rfl
    rw [en] at Hns
    obtain ⟨h1, h2, h3⟩ := lv_go f n s sf sn ss hf hn hl h47 Hns
    refine Ev.pos rfl ?_
    refine Ev.fst (takes_f _ _) ?_
    refine Ev.pos (by omega) ?_
    refine Ev.pos (by rw [ByteArray.size_append, s47]; omega) ?_
    refine Ev.fst (takes_f _ _) ?_
    rw [h1, bne_self_eq_false]
    refine Ev.neg (by simp) ?_
    refine Ev.pos (by omega) ?_
    refine Ev.fst (takes_f _ _) ?_
    rw [h2, bne_self_eq_false]
    refine Ev.step (fun k => rfl) ?_
    refine Ev.fst awake_f ?_
    refine Ev.pos rfl ?_
    cases ht : tk f n
    · exact Ev.neg (by simp) (Ev.ret _)
    obtain ⟨h4, h5⟩ := h3 ht
    refine Ev.pos rfl ?_
    refine Ev.pos (by omega) ?_
    refine Ev.fst (takes_f _ _) ?_
    rw [h4]
    refine Ev.pos rfl ?_
    refine Ev.fst (takes_f _ _) ?_
    rw [h5]
    exact Ev.ret _
  have hloop : f.data.toList.length ≤ 500 → n.data.toList.length ≤ 500 → s.data.toList.length ≤ 500 → Top.isFilter f = true → Top.isName n = true → f.data.toList.getLast? ≠ some 35 →
      ∀ d i : Nat, s.size - i = d → i ≤ s.size → (47 : UInt8) ∉ s.data.toList.take i → Ev (fun k => basculelaw12_TopicLevels.l0 k f n s (i : Int)) true := by
    intro sf sn ss hf hn hl d
    have zs := Lib.size_eq s
    induction d with
    | zero =>
      intro i hd hi h47
      have : i = s.size := by omega
      subst this
      exact hgo sf sn ss hf hn hl (by rw [List.take_of_length_le (by omega)] at h47; exact h47)
    | succ d ih =>
      intro i hd hi h47
      obtain ⟨b, hb⟩ : ∃ b, s.data.toList[i]? = some b := ⟨_, List.getElem?_eq_getElem (show i < s.data.toList.length by omega)⟩
      refine Ev.step (fun k => rfl) ?_
      refine Ev.pos (by omega) ?_
      refine Ev.pos (by omega) ?_
      rw [bt_list s i b hb, wrap_i i (by omega)]
      by_cases h : b = 47
      · subst h; exact Ev.pos rfl (Ev.ret _)
      · refine Ev.neg (fun e => h (UInt8.toNat_inj.1 (by show b.toNat = 47; omega))) ?_
        refine ih (i + 1) (by omega) (by omega) ?_
        rw [List.take_add_one, hb]
        intro hm
        rcases List.mem_append.1 hm with hm | hm
        · exact h47 hm
        · exact h (List.mem_singleton.1 hm).symm
  refine Ev.rounds ?_
  have zf := Lib.size_eq f; have zn := Lib.size_eq n; have zs := Lib.size_eq s
  refine Ev.fst (small_f f) ?_
  cases h1 : decide ((f.size : Int) ≤ 500)
  · exact Ev.neg (by simp) hend
  refine Ev.pos rfl ?_
  refine Ev.fst (small_f n) ?_
  cases h2 : decide ((n.size : Int) ≤ 500)
  · exact Ev.neg (by simp) hend
  refine Ev.pos rfl ?_
  refine Ev.fst (small_f s) ?_
  cases h3 : decide ((s.size : Int) ≤ 500)
  · exact Ev.neg (by simp) hend
  replace h1 := of_decide_eq_true h1; replace h2 := of_decide_eq_true h2; replace h3 := of_decide_eq_true h3
  refine Ev.pos rfl ?_
  refine Ev.bind (filter_ev f) ?_
  cases hf : Top.isFilter f
  · exact Ev.neg (by simp) hend
  refine Ev.pos rfl ?_
  refine Ev.bind (name_ev n) ?_
  cases hn : Top.isName n
  · exact Ev.neg (by simp) hend
  have Hf := (filt_iff f).1 hf
  have hf0 : 1 ≤ f.size := by rw [zf]; exact Nat.pos_of_ne_zero (fun e => Hf.1 (List.length_eq_zero_iff.1 e))
  have hw : wrap64 ((f.size : Int) - 1) = ((f.size - 1 : Nat) : Int) := by rw [w64 (by omega) (by omega)]; omega
  obtain ⟨b, hb⟩ : ∃ b, f.data.toList[f.size - 1]? = some b := ⟨_, List.getElem?_eq_getElem (show f.size - 1 < f.data.toList.length by omega)⟩
  have hlast : f.data.toList.getLast? = some b := by rw [List.getLast?_eq_getElem?, ← zf, hb]
  rw [hw, bt_list f _ b hb]
  refine Ev.pos rfl ?_
  refine Ev.pos (by omega) ?_
  refine Ev.pos (by omega) ?_
  by_cases h35 : b = 35
  · subst h35; exact hend
  · have : ((b.toNat : Int) == 35) = false := beq_eq_false_iff_ne.2 (fun e => h35 (UInt8.toNat_inj.1 (by show b.toNat = 35; omega)))
    rw [this]
    refine Ev.step (fun k => rfl) ?_
    exact hloop (by omega) (by omega) (by omega) hf hn (by rw [hlast]; exact fun e => h35 (Option.some.inj e)) s.size 0 rfl (Nat.zero_le _) (by simp)

end Go.Proofs.YtlfigadjbnikiaaDoor.Pure
