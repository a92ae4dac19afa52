/- TopicDollar, plain: a level more ahead of both changes nothing, and a wild sign ahead takes no name that begins with '$'. -/
import Derived.Test.YtlfigadjbnikiaaDoorPLaw12
import Derived.Test.YtlfigadjbnikiaaDoorQx9
set_option linter.unusedVariables false
set_option linter.unusedSimpArgs false
namespace Go.Proofs.YtlfigadjbnikiaaDoor.Pure
open Go.RowKit Go.Proofs.YtlfigadjbnikiaaDoor.Q Go.Proofs.YtlfigadjbnikiaaDoorW.PrintWords

attribute [local irreducible] topic_Matches.f topic_Name.f topic_Filter.f basculelaw12_awake.f basculelaw12_takes.f

theorem app_dat (a b : ByteArray) : (a ++ b).data.toList = a.data.toList ++ b.data.toList := by simp
theorem app_47 (a b : ByteArray) : ((a ++ (⟨#[47]⟩ : ByteArray)) ++ b).data.toList = a.data.toList ++ 47 :: b.data.toList := by rw [app_dat, app_dat, List.append_assoc]; rfl

theorem pre_both (u f n : List UInt8) (hu : u ≠ []) (lu : u.length ≤ 501) (ou : okQ u = true) (wu : Top.hasAny u Top.wild = false) (hu47 : (47 : UInt8) ∉ u) (lf : f.length ≤ 500) (ln : n.length ≤ 500) (Hf : FiltL f) (Hn : NameL n) :
    FiltL (u ++ 47 :: f) ∧ NameL (u ++ 47 :: n) ∧ Top.dollar (u ++ 47 :: f) (u ++ 47 :: n) = false ∧ Top.takesL (Top.splitB (u ++ 47 :: f)) (Top.splitB (u ++ 47 :: n)) = Top.takesL (Top.splitB f) (Top.splitB n) := by
  have sp : ∀ x : List UInt8, Top.splitB (u ++ 47 :: x) = [u] ++ Top.splitB x := fun x => by rw [splitB_app, splitB_one u hu47]
  have mu : Mid u := .inr wu
  obtain ⟨c, r, hc⟩ : ∃ c r, u = c :: r := by
    cases h : u with
    | nil => exact absurd h hu
    | cons c r => exact ⟨c, r, rfl⟩
  have hcw : Top.hasAny [c] Top.wild = false := by
    have := wu
    rw [hc, show c :: r = [c] ++ r from rfl, hasAny_app, Bool.or_eq_false_iff] at this
    exact this.1
  refine ⟨⟨by simp, by rw [List.length_append, List.length_cons]; omega, by rw [okQ_slash, ou, Hf.2.2.1]; rfl, ?_⟩, ⟨by simp, by rw [List.length_append, List.length_cons]; omega, by rw [okQ_slash, ou, Hn.2.2.1]; rfl, by rw [hasAny_47, wu, Hn.2.2.2]; rfl⟩, ?_, ?_⟩
  · unfold Top.lvl
    rw [sp]
    exact good_app [u] _ (fun p hp => by rw [List.mem_singleton.1 hp]; exact mu) (Top.splitB_ne f) Hf.2.2.2
  · rw [hc, List.cons_append, List.cons_append, dollar_at, hcw, Bool.and_false]
  · rw [sp, sp]
    exact Top.takesL_go _ _ _ _ (mid_ne u mu) (.inr rfl)

theorem TopicDollar : basculelaw12_TopicDollar.Pure := by
  intro f n s _ _ _
  have hend : Ev (fun k => basculelaw12_TopicDollar.j0 k f n s true) true := Ev.step (fun k => rfl) (Ev.ret _)
  have zf := Lib.size_eq f; have zn := Lib.size_eq n; have zs := Lib.size_eq s
  have s47 : (⟨#[47]⟩ : ByteArray).size = 1 := rfl
  have s36 : (⟨#[36]⟩ : ByteArray).size = 1 := rfl
  have hgo : f.data.toList.length ≤ 500 → n.data.toList.length ≤ 500 → s.data.toList.length ≤ 500 → Top.isFilter f = true → Top.isName n = true → Top.isName s = true → n.data.toList.head? ≠ some 36 → (47 : UInt8) ∉ s.data.toList →
      Ev (fun k => basculelaw12_TopicDollar.l0 k f n s (s.size : Int)) true := by
    intro sf sn ss hf hn hs hn36 h47
    have Hf := (filt_iff f).1 hf
    have Hn := (name_iff n).1 hn
    have Hs := (name_iff s).1 hs
    obtain ⟨c, r, hc⟩ : ∃ c r, s.data.toList = c :: r := by
      cases h : s.data.toList with
      | nil => exact absurd h Hs.1
      | cons c r => exact ⟨c, r, rfl⟩
    have tk0 : tk f n = Top.takesL (Top.splitB f.data.toList) (Top.splitB n.data.toList) := by
      rw [tk_of f n _ _ rfl rfl Hf Hn]
      unfold Top.takesF Top.dollar
      rw [beq_eq_false_iff_ne.2 hn36]; rfl
    obtain ⟨F1, N1, D1, T1⟩ := pre_both s.data.toList _ _ Hs.1 (by omega) Hs.2.2.1 Hs.2.2.2 h47 sf sn Hf Hn
    have e1 : tk ((s ++ (⟨#[47]⟩ : ByteArray)) ++ f) ((s ++ (⟨#[47]⟩ : ByteArray)) ++ n) = tk f n := by
      rw [tk0, tk_of _ _ _ _ (app_47 s f) (app_47 s n) F1 N1]
      unfold Top.takesF
      rw [D1, T1]; rfl
    have d36 : ∀ x : ByteArray, ((((⟨#[36]⟩ : ByteArray) ++ s) ++ (⟨#[47]⟩ : ByteArray)) ++ x).data.toList = (36 :: s.data.toList) ++ 47 :: x.data.toList := fun x => by rw [app_47, app_dat]; rfl
    have w36 : Top.hasAny (36 :: s.data.toList) Top.wild = false := by
      rw [show 36 :: s.data.toList = [36] ++ s.data.toList from rfl, hasAny_app, Hs.2.2.2]; rfl
    have o36 : okQ (36 :: s.data.toList) = true := by
      have := okQ_app 1 [36] s.data.toList (by simp) (by decide)
      rw [show 36 :: s.data.toList = [36] ++ s.data.toList from rfl, this, Hs.2.2.1]
    obtain ⟨F2, N2, D2, T2⟩ := pre_both (36 :: s.data.toList) _ _ (by simp) (by rw [List.length_cons]; omega) o36 w36 (by rw [List.mem_cons]; exact fun h => h.elim (by decide) h47) sf sn Hf Hn
    have e2 : tk ((((⟨#[36]⟩ : ByteArray) ++ s) ++ (⟨#[47]⟩ : ByteArray)) ++ f) ((((⟨#[36]⟩ : ByteArray) ++ s) ++ (⟨#[47]⟩ : ByteArray)) ++ n) = tk f n := by
      rw [tk0, tk_of _ _ _ _ (d36 f) (d36 n) F2 N2]
      unfold Top.takesF
      rw [D2, T2]; rfl
    have dp : ((⟨#[43, 47]⟩ : ByteArray) ++ f).data.toList = [43] ++ 47 :: f.data.toList := by rw [app_dat]; rfl
    have e3 : tk ((⟨#[43, 47]⟩ : ByteArray) ++ f) ((((⟨#[36]⟩ : ByteArray) ++ s) ++ (⟨#[47]⟩ : ByteArray)) ++ n) = false := by
      unfold tk
      rw [dp, d36 n]
      have : Top.takesF ([43] ++ 47 :: f.data.toList) (36 :: s.data.toList ++ 47 :: n.data.toList) = false := by
        unfold Top.takesF
        rw [List.cons_append, List.cons_append, dollar_at]
        rfl
      rw [this, Bool.and_false, Bool.and_false]
    have e4 : c ≠ 36 → tk ((⟨#[43, 47]⟩ : ByteArray) ++ f) ((s ++ (⟨#[47]⟩ : ByteArray)) ++ n) = tk f n := fun h36 => by
      have spf : Top.splitB ([43] ++ 47 :: f.data.toList) = [[43]] ++ Top.splitB f.data.toList := by rw [splitB_app]; rfl
      have spn : Top.splitB (s.data.toList ++ 47 :: n.data.toList) = [s.data.toList] ++ Top.splitB n.data.toList := by rw [splitB_app, splitB_one _ h47]
      rw [tk0, tk_of _ _ _ _ dp (app_47 s n) ⟨by simp, by simp only [List.length_append, List.length_cons, List.length_nil]; omega, by rw [okQ_slash, Hf.2.2.1]; decide, by
        unfold Top.lvl
        rw [spf]
        exact good_app [[43]] _ (fun p hp => .inl (List.mem_singleton.1 hp)) (Top.splitB_ne _) Hf.2.2.2⟩ N1]
      unfold Top.takesF
      have hd : Top.dollar ([43] ++ 47 :: f.data.toList) (s.data.toList ++ 47 :: n.data.toList) = false := by
        rw [hc, List.cons_append, List.cons_append, dollar_at, beq_eq_false_iff_ne.2 h36, Bool.false_and]
      rw [hd, spf, spn]
      exact Top.takesL_go _ _ _ _ (by decide) (.inl rfl)
    refine Ev.step (fun k => rfl) ?_
    refine Ev.neg (by omega) ?_
    refine Ev.fst (takes_f _ _) ?_
    refine Ev.pos (by omega) ?_
    refine Ev.pos (by rw [ByteArray.size_append, s47]; omega) ?_
    refine Ev.pos (by rw [ByteArray.size_append, s47]; omega) ?_
    refine Ev.fst (takes_f _ _) ?_
    rw [e1, bne_self_eq_false]
    refine Ev.neg (by simp) ?_
    refine Ev.pos (by omega) ?_
    refine Ev.pos (by rw [ByteArray.size_append, s36]; omega) ?_
    refine Ev.pos (by rw [ByteArray.size_append, ByteArray.size_append, s36, s47]; omega) ?_
    refine Ev.pos (by rw [ByteArray.size_append, ByteArray.size_append, s36, s47]; omega) ?_
    refine Ev.fst (takes_f _ _) ?_
    rw [e2, bne_self_eq_false]
    refine Ev.step (fun k => rfl) ?_
    refine Ev.fst awake_f ?_
    refine Ev.pos rfl ?_
    refine Ev.pos (by omega) ?_
    refine Ev.pos (by omega) ?_
    refine Ev.pos (by rw [ByteArray.size_append, s36]; omega) ?_
    refine Ev.pos (by rw [ByteArray.size_append, ByteArray.size_append, s36, s47]; omega) ?_
    refine Ev.fst (takes_f _ _) ?_
    rw [e3]
    refine Ev.neg (by simp) ?_
    have hs1 : 1 ≤ s.size := by rw [zs, hc]; simp
    have hb : bt s 0 = (c.toNat : Int) := bt_list s 0 c (by rw [hc]; rfl)
    refine Ev.pos (by omega) ?_
    rw [hb]
    by_cases h36 : c = 36
    · subst h36; exact Ev.pos rfl (Ev.ret _)
    refine Ev.neg (fun e => h36 (UInt8.toNat_inj.1 (by show c.toNat = 36; omega))) ?_
    refine Ev.pos (by omega) ?_
    refine Ev.pos (by rw [ByteArray.size_append, s47]; omega) ?_
    refine Ev.fst (takes_f _ _) ?_
    rw [e4 h36]
    exact Ev.ret' (by simp)
  have hloop : f.data.toList.length ≤ 500 → n.data.toList.length ≤ 500 → s.data.toList.length ≤ 500 → Top.isFilter f = true → Top.isName n = true → Top.isName s = true → n.data.toList.head? ≠ some 36 →
      ∀ d i : Nat, s.size - i = d → i ≤ s.size → (47 : UInt8) ∉ s.data.toList.take i → Ev (fun k => basculelaw12_TopicDollar.l0 k f n s (i : Int)) true := by
    intro sf sn ss hf hn hs hl d
    induction d with
    | zero =>
      intro i hd hi h47
      have : i = s.size := by omega
      subst this
      exact hgo sf sn ss hf hn hs hl (by rw [List.take_of_length_le (by omega)] at h47; exact h47)
    | succ d ih =>
      intro i hd hi h47
      obtain ⟨b, hb⟩ : ∃ b, s.data.toList[i]? = some b := ⟨_, List.getElem?_eq_getElem (show i < s.data.toList.length by omega)⟩
      refine Ev.step (fun k => rfl) ?_
      refine Ev.pos (by omega) ?_
      refine Ev.pos (by omega) ?_
      rw [bt_list s i b hb, wrap_i i (by omega)]
      by_cases h : b = 47
      · subst h; exact Ev.pos rfl (Ev.ret _)
      · refine Ev.neg (fun e => h (UInt8.toNat_inj.1 (by show b.toNat = 47; omega))) ?_
        refine ih (i + 1) (by omega) (by omega) ?_
        rw [List.take_add_one, hb]
        intro hm
        rcases List.mem_append.1 hm with hm | hm
        · exact h47 hm
        · exact h (List.mem_singleton.1 hm).symm
  refine Ev.rounds ?_
  refine Ev.fst (small_f f) ?_
  cases h1 : decide ((f.size : Int) ≤ 500)
  · exact Ev.neg (by simp) hend
  refine Ev.pos rfl ?_
  refine Ev.fst (small_f n) ?_
  cases h2 : decide ((n.size : Int) ≤ 500)
  · exact Ev.neg (by simp) hend
  refine Ev.pos rfl ?_
  refine Ev.fst (small_f s) ?_
  cases h3 : decide ((s.size : Int) ≤ 500)
  · exact Ev.neg (by simp) hend
  replace h1 := of_decide_eq_true h1; replace h2 := of_decide_eq_true h2; replace h3 := of_decide_eq_true h3
  refine Ev.pos rfl ?_
  by_cases q1 : f.toList = ([] : List UInt8)
  · exact Ev.pos q1 hend
  refine Ev.neg q1 ?_
  by_cases q2 : n.toList = ([] : List UInt8)
  · exact Ev.pos q2 hend
  refine Ev.neg q2 ?_
  by_cases q3 : s.toList = ([] : List UInt8)
  · exact Ev.pos q3 hend
  refine Ev.neg q3 ?_
  refine Ev.fst (fil_f f) ?_
  cases hf : Top.isFilter f
  · exact Ev.neg (by decide) hend
  refine Ev.pos rfl ?_
  refine Ev.fst (nam_f n) ?_
  cases hn : Top.isName n
  · exact Ev.neg (by decide) hend
  refine Ev.pos rfl ?_
  refine Ev.fst (nam_f s) ?_
  cases hs : Top.isName s
  · exact Ev.neg (by decide) hend
  refine Ev.pos rfl ?_
  have Hn := (name_iff n).1 hn
  obtain ⟨b, t, hb⟩ : ∃ c r, n.data.toList = c :: r := by
    cases h : n.data.toList with
    | nil => exact absurd h Hn.1
    | cons c r => exact ⟨c, r, rfl⟩
  have hn1 : 1 ≤ n.size := by rw [zn, hb]; simp
  refine Ev.pos (by omega) ?_
  have hbt : bt n 0 = (b.toNat : Int) := bt_list n 0 b (by rw [hb]; rfl)
  rw [hbt]
  by_cases h36 : b = 36
  · subst h36; exact hend
  · have : ((b.toNat : Int) == 36) = false := beq_eq_false_iff_ne.2 (fun e => h36 (UInt8.toNat_inj.1 (by show b.toNat = 36; omega)))
    rw [this]
    refine Ev.step (fun k => rfl) ?_
    exact hloop (by omega) (by omega) (by omega) hf hn hs (by rw [hb]; exact fun e => h36 (Option.some.inj e)) s.size 0 rfl (Nat.zero_le _) (by simp)

end Go.Proofs.YtlfigadjbnikiaaDoor.Pure
