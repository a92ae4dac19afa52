/- TopicWider, plain: a name with one level made '+' takes just the names that differ there at most. -/
import Derived.Test.YtlfigadjbnikiaaDoorPLaw12
import Derived.Test.YtlfigadjbnikiaaDoorQx8
set_option linter.unusedVariables false
set_option linter.unusedSimpArgs false
namespace Go.Proofs.YtlfigadjbnikiaaDoor.Pure
open Go.RowKit Go.Proofs.YtlfigadjbnikiaaDoor.Q Go.Proofs.YtlfigadjbnikiaaDoorW.PrintWords

attribute [local irreducible] topic_Matches.f topic_Name.f topic_Filter.f basculelaw12_awake.f basculelaw12_takes.f

/-- Levels with the one at place i made '+'; the first stands at place k. -/
def wid (i : Nat) : Nat → List (List UInt8) → List (List UInt8)
  | _, [] => []
  | k, p :: F => (if k = i then [43] else p) :: wid i (k + 1) F
/-- Are levels alike but at place i? -/
def eqB (i : Nat) : Nat → List (List UInt8) → List (List UInt8) → Bool
  | _, [], [] => true
  | k, p :: F, q :: N => (decide (k = i) || decide (p = q)) && eqB i (k + 1) F N
  | _, _, _ => false

theorem wid_len (i : Nat) : ∀ (F : List (List UInt8)) (k : Nat), (wid i k F).length = F.length := by
  intro F
  induction F with
  | nil => intro k; rfl
  | cons p F ih => intro k; rw [wid, List.length_cons, List.length_cons, ih]
theorem wid_get (i : Nat) : ∀ (F : List (List UInt8)) (k j : Nat) (p : List UInt8), F[j]? = some p → (wid i k F)[j]? = some (if k + j = i then [43] else p) := by
  intro F
  induction F with
  | nil => intro k j p h; cases h
  | cons q F ih =>
    intro k j p h
    cases j with
    | zero => rw [wid]; simp at h ⊢; rw [h]
    | succ j => rw [wid]; simp at h ⊢; rw [ih (k + 1) j p h, show k + 1 + j = k + (j + 1) by omega]
theorem wid_past (i : Nat) : ∀ (F : List (List UInt8)) (k : Nat), i < k → wid i k F = F := by
  intro F
  induction F with
  | nil => intro k _; rfl
  | cons p F ih => intro k h; rw [wid, if_neg (by omega), ih (k + 1) (by omega)]
theorem wid_mem (i : Nat) : ∀ (F : List (List UInt8)) (k : Nat) (p : List UInt8), p ∈ wid i k F → p = [43] ∨ p ∈ F := by
  intro F
  induction F with
  | nil => intro k p h; cases h
  | cons q F ih =>
    intro k p h
    rw [wid] at h
    rcases List.mem_cons.1 h with h | h
    · by_cases hk : k = i
      · rw [if_pos hk] at h; exact .inl h
      · rw [if_neg hk] at h; exact .inr (by rw [h]; simp)
    · exact (ih (k + 1) p h).imp id (List.mem_cons_of_mem _)
theorem wid_join (i : Nat) : ∀ (F : List (List UInt8)) (k : Nat), (join (wid i k F)).length ≤ (join F).length + 1 := by
  intro F
  induction F with
  | nil => intro k; simp [wid, join]
  | cons p F ih =>
    intro k
    rw [wid]
    by_cases hF : F = []
    · subst hF
      show (if k = i then [43] else p).length ≤ p.length + 1
      split <;> simp
    · have hw : wid i (k + 1) F ≠ [] := fun e => hF (List.length_eq_zero_iff.1 (by rw [← wid_len i F (k + 1), e]; rfl))
      rw [join_cons _ _ hF, join_cons _ _ hw, List.length_append, List.length_append, List.length_cons, List.length_cons]
      by_cases hk : k = i
      · rw [if_pos hk, wid_past i F (k + 1) (by omega), List.length_singleton]; omega
      · rw [if_neg hk]; have := ih (k + 1); omega
theorem join_app (A B : List (List UInt8)) (hA : A ≠ []) (hB : B ≠ []) : join (A ++ B) = join A ++ 47 :: join B := by
  induction A with
  | nil => exact absurd rfl hA
  | cons p A ih =>
    by_cases h : A = []
    · subst h; rw [List.singleton_append, join_cons _ _ hB]; rfl
    · rw [List.cons_append, join_cons _ _ (by simp [h]), ih h, join_cons _ _ h, List.append_assoc]; rfl
theorem join_take (L : List (List UInt8)) (k : Nat) : (join (L.take k)).length ≤ (join L).length := by
  by_cases hA : L.take k = []
  · rw [hA]; exact Nat.zero_le _
  by_cases hB : L.drop k = []
  · have := List.take_append_drop k L
    rw [hB, List.append_nil] at this
    rw [this]; exact Nat.le_refl _
  · have := join_app _ _ hA hB
    rw [List.take_append_drop] at this
    rw [this, List.length_append]; omega

theorem takesL_wid (i : Nat) : ∀ (F : List (List UInt8)) (k : Nat) (N : List (List UInt8)), (∀ p ∈ F, Top.hasAny p Top.wild = false) → Top.takesL (wid i k F) N = eqB i k F N := by
  intro F
  induction F with
  | nil => intro k N _; cases N <;> rfl
  | cons p F ih =>
    intro k N h
    have hp := h p (by simp)
    have h35 : p ≠ [35] := by rintro rfl; revert hp; decide
    have h43 : p ≠ [43] := by rintro rfl; revert hp; decide
    rw [wid]
    have hh : (if k = i then [43] else p) ≠ [35] := by
      split
      · decide
      · exact h35
    cases N with
    | nil => rw [Top.takesL_nil _ _ hh]; rfl
    | cons q N =>
      have hr := ih (k + 1) N (fun r hr => h r (by simp [hr]))
      rw [eqB]
      by_cases hk : k = i
      · rw [if_pos hk, Top.takesL_go _ _ _ _ (by decide) (.inl rfl), hr, decide_eq_true hk]; rfl
      · rw [if_neg hk, decide_eq_false hk, Bool.false_or]
        by_cases hpq : p = q
        · rw [Top.takesL_go _ _ _ _ h35 (.inr hpq), hr, decide_eq_true hpq]; rfl
        · rw [Top.takesL_no _ _ _ _ h35 (fun e => e.elim h43 hpq), decide_eq_false hpq]; rfl
theorem eqB_len (i : Nat) : ∀ (F : List (List UInt8)) (k : Nat) (N : List (List UInt8)), F.length ≠ N.length → eqB i k F N = false := by
  intro F
  induction F with
  | nil => intro k N h; cases N with
    | nil => exact absurd rfl h
    | cons q N => rfl
  | cons p F ih => intro k N h; cases N with
    | nil => rfl
    | cons q N => rw [eqB, ih (k + 1) N (fun e => h (by rw [List.length_cons, List.length_cons, e])), Bool.and_false]

theorem ba_ext {a b : ByteArray} (h : a.data.toList = b.data.toList) : a = b := ByteArray.ext (Array.toList_inj.1 h)
theorem mk_47 (a b : List UInt8) : (mk a ++ (⟨#[47]⟩ : ByteArray)) ++ mk b = mk (a ++ 47 :: b) := by
  apply ba_ext
  simp [mk_data, mk]

theorem TopicWider : basculelaw12_TopicWider.Pure := by
  intro f n x2 _ _ _
  have hend : Ev (fun k => basculelaw12_TopicWider.j0 k f n x2 true) true := Ev.step (fun k => rfl) (Ev.ret _)
  have hend1 : ∀ L, Ev (fun k => basculelaw12_TopicWider.j1 k n x2 L true) true := fun L => Ev.step (fun k => rfl) (Ev.ret _)
  have zf := Lib.size_eq f; have zn := Lib.size_eq n
  have s47 : (⟨#[47]⟩ : ByteArray).size = 1 := rfl
  have s43 : (⟨#[43]⟩ : ByteArray).size = 1 := rfl
  have hgo : f.data.toList.length ≤ 500 → n.data.toList.length ≤ 500 → Top.isName f = true → Top.isName n = true → ∀ i : Nat, x2 = (i : Int) → i < (Top.splitB f.data.toList).length →
      Ev (fun k => basculelaw12_TopicWider.l0 k n x2 ((Top.splitB f.data.toList).map mk) (⟨#[]⟩ : ByteArray) 0) true := by
    intro sf sn hf hn i hx hi
    subst hx
    have Hf := (name_iff f).1 hf
    have Hn := (name_iff n).1 hn
    obtain ⟨b, t, hb⟩ : ∃ c r, n.data.toList = c :: r := by
      cases h : n.data.toList with
      | nil => exact absurd h Hn.1
      | cons c r => exact ⟨c, r, rfl⟩
    have hn1 : 1 ≤ n.size := by rw [zn, hb]; simp
    have hbt : bt n 0 = (b.toNat : Int) := bt_list n 0 b (by rw [hb]; rfl)
    have hFl := splitB_len f.data.toList
    have hNl := splitB_len n.data.toList
    have hFm := splitB_mem f.data.toList
    have hjoin := join_split f.data.toList
    have h47 := splitB_no47 f.data.toList
    have hmids := mids _ Hf.2.2.2
    have hoks := okQ_join (Top.splitB f.data.toList)
    rw [hjoin, Hf.2.2.1] at hoks
    have hF0 := Top.splitB_ne f.data.toList
    generalize Top.splitB f.data.toList = F at *
    generalize hN : Top.splitB n.data.toList = N at *
    -- the filter
    generalize hG : wid i 0 F = G
    have hGl : G.length = F.length := by rw [← hG, wid_len]
    have hG0 : G ≠ [] := fun e => hF0 (List.length_eq_zero_iff.1 (by rw [← hGl, e]; rfl))
    have hGj : (join G).length ≤ 501 := by have := wid_join i F 0; rw [hG, hjoin] at this; omega
    have hGm : ∀ p ∈ G, p = [43] ∨ p ∈ F := fun p hp => wid_mem i F 0 p (by rw [hG]; exact hp)
    have hG47 : ∀ p ∈ G, (47 : UInt8) ∉ p := fun p hp => (hGm p hp).elim (fun e => by rw [e]; decide) (h47 p)
    have hsp : Top.splitB (join G) = G := split_join G hG0 hG47
    have hGmid : ∀ p ∈ G, Mid p := fun p hp => (hGm p hp).elim .inl (fun h => .inr (hmids p h))
    obtain ⟨p0, hp0⟩ : ∃ p, F[0]? = some p := ⟨_, List.getElem?_eq_getElem (show 0 < F.length by omega)⟩
    have hG0' := wid_get i F 0 0 p0 hp0
    rw [hG] at hG0'
    obtain ⟨g0, G', hGc⟩ : ∃ g0 G', G = g0 :: G' := by
      cases G with
      | nil => exact absurd rfl hG0
      | cons x y => exact ⟨x, y, rfl⟩
    have hg0 : g0 = if i = 0 then [43] else p0 := by
      rw [hGc] at hG0'
      have := Option.some.inj hG0'
      rw [this]
      by_cases h0 : i = 0
      · rw [if_pos h0, if_pos (by omega)]
      · rw [if_neg h0, if_neg (by omega)]
    have hp0w := hmids p0 (List.mem_of_getElem? hp0)
    have hjn : ∃ c r, join G = c :: r ∧ Top.hasAny [c] Top.wild = decide (i = 0) := by
      by_cases h0 : i = 0
      · rw [if_pos h0] at hg0
        rw [decide_eq_true h0, hGc, hg0]
        cases G' with
        | nil => exact ⟨43, [], rfl, by decide⟩
        | cons x y => exact ⟨43, _, rfl, by decide⟩
      · rw [if_neg h0] at hg0
        have hG'0 : G' ≠ [] := fun e => by rw [hGc, e] at hGl; simp at hGl; omega
        rw [decide_eq_false h0, hGc, hg0, join_cons _ _ hG'0]
        cases p0 with
        | nil => exact ⟨47, _, rfl, by decide⟩
        | cons c r =>
          refine ⟨c, _, rfl, ?_⟩
          rw [show c :: r = [c] ++ r from rfl, hasAny_app, Bool.or_eq_false_iff] at hp0w
          exact hp0w.1
    have HG : FiltL (join G) := by
      obtain ⟨c, r, hc, _⟩ := hjn
      refine ⟨by rw [hc]; simp, by omega, ?_, ?_⟩
      · rw [okQ_join, List.all_eq_true]
        intro p hp
        rcases hGm p hp with e | h
        · rw [e]; decide
        · exact List.all_eq_true.1 hoks.symm p h
      · unfold Top.lvl
        rw [hsp]
        exact good_all G hGmid
    have htk : tk (mk (join G)) n = (!((b == 36) && decide (i = 0)) && eqB i 0 F N) := by
      obtain ⟨c, r, hc, hw⟩ := hjn
      rw [tk_of _ n _ _ (mk_data _) rfl HG Hn]
      unfold Top.takesF
      have hd : Top.dollar (join G) n.data.toList = (b == 36 && decide (i = 0)) := by rw [hc, hb, dollar_at, hw]
      rw [hd, hsp, hN, ← hG, takesL_wid i F 0 N hmids]
    have hGfil : Top.isFilter (mk (join G)) = true := (filt_iff _).2 (by rw [mk_data]; exact HG)
    -- the last comparison
    have hfin : ∀ same : Bool, tk (mk (join G)) n = same → Ev (fun k => (basculelaw12_awake.f).bind fun t222 => (if t222 = true then ((topic_Filter.f (mk (join G))).bind fun t223 => (if t223 = 0 then ((basculelaw12_takes.f (mk (join G)) n).bind fun t224 => (some (t224 == same))) else (some false))) else (some false))) true := by
      intro same h
      refine Ev.fst awake_f ?_
      refine Ev.pos rfl ?_
      refine Ev.fst (fil_f _) ?_
      rw [hGfil]
      refine Ev.pos rfl ?_
      refine Ev.fst (takes_f _ _) ?_
      rw [h]
      exact Ev.ret' (by simp)
    have hno : tk (mk (join G)) n = false → ∀ d k : Nat, F.length - k = d → k ≤ F.length →
        Ev (fun j => basculelaw12_TopicWider.l1 j n (i : Int) (F.map mk) (mk (join G)) (N.map mk) false (k : Int)) true := by
      intro ht d
      induction d with
      | zero =>
        intro k hd hk
        refine Ev.step (fun j => rfl) ?_
        refine Ev.neg (by rw [List.length_map]; omega) ?_
        exact hfin false ht
      | succ d ih =>
        intro k hd hk
        refine Ev.step (fun j => rfl) ?_
        refine Ev.pos (by rw [List.length_map]; omega) ?_
        by_cases hkn : k < N.length
        · refine Ev.pos (by rw [List.length_map]; omega) ?_
          refine Ev.neg (by simp) ?_
          rw [wrap_i k (by omega)]
          exact ih (k + 1) (by omega) (by omega)
        · refine Ev.neg (by rw [List.length_map]; omega) ?_
          exact hfin false ht
    have hyes : F.length = N.length → ∀ d k : Nat, F.length - k = d → k ≤ F.length → tk (mk (join G)) n = eqB i k (F.drop k) (N.drop k) →
        Ev (fun j => basculelaw12_TopicWider.l1 j n (i : Int) (F.map mk) (mk (join G)) (N.map mk) true (k : Int)) true := by
      intro hlen d
      induction d with
      | zero =>
        intro k hd hk ht
        refine Ev.step (fun j => rfl) ?_
        refine Ev.neg (by rw [List.length_map]; omega) ?_
        rw [List.drop_eq_nil_of_le (by omega), List.drop_eq_nil_of_le (by omega)] at ht
        exact hfin true ht
      | succ d ih =>
        intro k hd hk ht
        obtain ⟨p, hp⟩ : ∃ p, F[k]? = some p := ⟨_, List.getElem?_eq_getElem (show k < F.length by omega)⟩
        obtain ⟨q, hq⟩ : ∃ p, N[k]? = some p := ⟨_, List.getElem?_eq_getElem (show k < N.length by omega)⟩
        have dF : F.drop k = p :: F.drop (k + 1) := by
          rw [List.drop_eq_getElem_cons (show k < F.length by omega)]
          rw [List.getElem?_eq_getElem (show k < F.length by omega)] at hp
          rw [Option.some.inj hp]
        have dN : N.drop k = q :: N.drop (k + 1) := by
          rw [List.drop_eq_getElem_cons (show k < N.length by omega)]
          rw [List.getElem?_eq_getElem (show k < N.length by omega)] at hq
          rw [Option.some.inj hq]
        rw [dF, dN, eqB] at ht
        refine Ev.step (fun j => rfl) ?_
        refine Ev.pos (by rw [List.length_map]; omega) ?_
        refine Ev.pos (by rw [List.length_map]; omega) ?_
        rw [wrap_i k (by omega)]
        refine Ev.pos rfl ?_
        by_cases hki : k = i
        · rw [decide_eq_true hki, Bool.true_or, Bool.true_and] at ht
          exact Ev.pos (by rw [hki]) (ih (k + 1) (by omega) (by omega) ht)
        · refine Ev.neg (by omega) ?_
          refine Ev.pos (by omega) ?_
          rw [rd_mk F k p hp, rd_mk N k q hq, mk_toList, mk_toList]
          rw [decide_eq_false hki, Bool.false_or] at ht
          by_cases hpq : p = q
          · rw [hpq, beq_self_eq_true]
            rw [decide_eq_true hpq, Bool.true_and] at ht
            exact ih (k + 1) (by omega) (by omega) ht
          · rw [beq_eq_false_iff_ne.2 hpq]
            rw [decide_eq_false hpq, Bool.false_and] at ht
            exact hno ht d (k + 1) (by omega) (by omega)
    -- the filter is put together
    have hput : ∀ d k : Nat, F.length - k = d → k ≤ F.length →
        Ev (fun j => basculelaw12_TopicWider.l0 j n (i : Int) (F.map mk) (mk (join (G.take k))) (k : Int)) true := by
      intro d
      induction d with
      | zero =>
        intro k hd hk
        have hkl : k = F.length := by omega
        rw [List.take_of_length_le (by omega)]
        refine Ev.step (fun j => rfl) ?_
        refine Ev.neg (by rw [List.length_map]; omega) ?_
        refine Ev.bind (levels_ev n (by omega)) ?_
        rw [hN]
        by_cases hlen : F.length = N.length
        · refine Ev.pos (by rw [List.length_map, List.length_map]; omega) ?_
          by_cases h0 : i = 0
          · refine Ev.pos (by omega) ?_
            refine Ev.pos (by omega) ?_
            rw [hbt]
            by_cases h36 : b = 36
            · have e : (!((b.toNat : Int) == 36)) = false := by rw [h36]; rfl
              rw [e]
              refine Ev.step (fun j => rfl) ?_
              refine hno ?_ F.length 0 rfl (Nat.zero_le _)
              rw [htk, h36, decide_eq_true h0]; rfl
            · have e : (!((b.toNat : Int) == 36)) = true := by
                rw [beq_eq_false_iff_ne.2 (fun e => h36 (UInt8.toNat_inj.1 (by show b.toNat = 36; omega)))]; rfl
              rw [e]
              refine Ev.step (fun j => rfl) ?_
              refine hyes hlen F.length 0 rfl (Nat.zero_le _) ?_
              rw [htk, beq_eq_false_iff_ne.2 h36]; rfl
          · refine Ev.neg (by omega) ?_
            refine Ev.step (fun j => rfl) ?_
            refine hyes hlen F.length 0 rfl (Nat.zero_le _) ?_
            rw [htk, decide_eq_false h0, Bool.and_false]; rfl
        · refine Ev.neg (by rw [List.length_map, List.length_map]; omega) ?_
          refine Ev.step (fun j => rfl) ?_
          refine hno ?_ F.length 0 rfl (Nat.zero_le _)
          rw [htk, eqB_len i F 0 N hlen, Bool.and_false]
      | succ d ih =>
        intro k hd hk
        obtain ⟨p, hp⟩ : ∃ p, F[k]? = some p := ⟨_, List.getElem?_eq_getElem (show k < F.length by omega)⟩
        have hpl := hFm p (List.mem_of_getElem? hp)
        have hg := wid_get i F 0 k p hp
        rw [hG, Nat.zero_add] at hg
        have hjt := join_take G k
        have htk1 : G.take (k + 1) = G.take k ++ [if k = i then [43] else p] := by rw [List.take_add_one, hg]; rfl
        have hnext := ih (k + 1) (by omega) (by omega)
        rw [htk1] at hnext
        have e43 : (⟨#[43]⟩ : ByteArray) = mk [43] := rfl
        refine Ev.step (fun j => rfl) ?_
        refine Ev.pos (by rw [List.length_map]; omega) ?_
        rw [wrap_i k (by omega), rd_mk F k p hp, e43]
        by_cases hk0 : k = 0
        · subst hk0
          refine Ev.neg (by omega) ?_
          by_cases hki : 0 = i
          · refine Ev.pos (by omega) ?_
            refine Ev.pos (by rw [mk_size]; omega) ?_
            rw [if_pos hki] at hnext
            exact hnext
          · refine Ev.neg (by omega) ?_
            refine Ev.pos (by omega) ?_
            refine Ev.pos (by rw [mk_size, mk_size]; omega) ?_
            rw [if_neg hki] at hnext
            have e : mk (join (G.take 0)) ++ mk p = mk (join (G.take 0 ++ [p])) := ba_ext (by simp [mk, join])
            rw [e]
            exact hnext
        · have htn : G.take k ≠ [] := fun e => by have := congrArg List.length e; rw [List.length_take, List.length_nil] at this; omega
          rw [join_snoc _ _ htn] at hnext
          refine Ev.pos (by omega) ?_
          refine Ev.pos (by rw [mk_size]; omega) ?_
          by_cases hki : k = i
          · refine Ev.pos (by omega) ?_
            refine Ev.pos (by rw [ByteArray.size_append, mk_size, s47]; omega) ?_
            rw [if_pos hki] at hnext
            rw [mk_47]
            exact hnext
          · refine Ev.neg (by omega) ?_
            refine Ev.pos (by omega) ?_
            refine Ev.pos (by rw [ByteArray.size_append, mk_size, mk_size, s47]; omega) ?_
            rw [if_neg hki] at hnext
            rw [mk_47]
            exact hnext
    exact hput F.length 0 rfl (Nat.zero_le _)
  refine Ev.rounds ?_
  refine Ev.fst (small_f f) ?_
  cases h1 : decide ((f.size : Int) ≤ 500)
  · exact Ev.neg (by simp) hend
  refine Ev.pos rfl ?_
  refine Ev.fst (small_f n) ?_
  cases h2 : decide ((n.size : Int) ≤ 500)
  · exact Ev.neg (by simp) hend
  replace h1 := of_decide_eq_true h1; replace h2 := of_decide_eq_true h2
  refine Ev.pos rfl ?_
  refine Ev.bind (name_ev f) ?_
  cases hf : Top.isName f
  · exact Ev.neg (by simp) hend
  refine Ev.pos rfl ?_
  refine Ev.bind (name_ev n) ?_
  cases hn : Top.isName n
  · exact hend
  refine Ev.step (fun k => rfl) ?_
  refine Ev.bind (levels_ev f (by omega)) ?_
  by_cases hneg : x2 < 0
  · exact Ev.pos hneg (hend1 _)
  refine Ev.neg hneg ?_
  by_cases hge : x2 ≥ (((Top.splitB f.data.toList).map mk).length : Int)
  · rw [decide_eq_true hge]; exact hend1 _
  · rw [decide_eq_false hge]
    refine Ev.step (fun k => rfl) ?_
    rw [List.length_map] at hge
    exact hgo (by omega) (by omega) hf hn x2.toNat (by omega) (by omega)

end Go.Proofs.YtlfigadjbnikiaaDoor.Pure
