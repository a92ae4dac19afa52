/- Levels, plain: what names and filters are by their levels, and which takes which. -/
import Derived.Test.YtlfigadjbnikiaaDoorPOk
set_option linter.unusedVariables false
set_option linter.unusedSimpArgs false
namespace Go.Proofs.YtlfigadjbnikiaaDoor.Q
open Go.RowKit Go.Proofs.YtlfigadjbnikiaaDoorW.PrintWords

theorem splitB_app (a b : List UInt8) : Top.splitB (a ++ 47 :: b) = Top.splitB a ++ Top.splitB b := by
  induction a with
  | nil => simp [Top.splitB]
  | cons c a ih =>
    rw [List.cons_append, Top.splitB, Top.splitB, ih]
    by_cases hc : c = 47
    · rw [if_pos hc, if_pos hc]; rfl
    · rw [if_neg hc, if_neg hc]
      cases h : Top.splitB a with
      | nil => exact absurd h (Top.splitB_ne a)
      | cons x t => rfl

theorem splitB_one (s : List UInt8) (h : (47 : UInt8) ∉ s) : Top.splitB s = [s] := by
  induction s with
  | nil => rfl
  | cons c s ih =>
    rw [Top.splitB, if_neg (fun e => h (by rw [e]; simp)), ih (fun hm => h (List.mem_cons_of_mem _ hm))]

/-- Levels put together. -/
def join : List (List UInt8) → List UInt8
  | [] => []
  | [p] => p
  | p :: q :: r => p ++ 47 :: join (q :: r)

theorem join_cons (p : List UInt8) (L : List (List UInt8)) (h : L ≠ []) : join (p :: L) = p ++ 47 :: join L := by
  cases L with
  | nil => exact absurd rfl h
  | cons q r => rfl

theorem join_split (l : List UInt8) : join (Top.splitB l) = l := by
  induction l with
  | nil => rfl
  | cons c l ih =>
    rw [Top.splitB]
    by_cases hc : c = 47
    · rw [if_pos hc, join_cons _ _ (Top.splitB_ne l), ih, hc]; rfl
    · rw [if_neg hc]
      cases h : Top.splitB l with
      | nil => exact absurd h (Top.splitB_ne l)
      | cons x t =>
        rw [h] at ih
        cases t with
        | nil => show c :: x = _; rw [← ih]; rfl
        | cons y z =>
          rw [join_cons _ _ (by simp)] at ih
          show join ((c :: x) :: y :: z) = _
          rw [join_cons _ _ (by simp), ← ih]; rfl

theorem splitB_inj {a b : List UInt8} (h : Top.splitB a = Top.splitB b) : a = b := by rw [← join_split a, ← join_split b, h]

theorem split_join (L : List (List UInt8)) (h0 : L ≠ []) (h : ∀ p ∈ L, (47 : UInt8) ∉ p) : Top.splitB (join L) = L := by
  induction L with
  | nil => exact absurd rfl h0
  | cons p L ih =>
    by_cases hL : L = []
    · subst hL; exact splitB_one p (h p (by simp))
    · rw [join_cons p L hL, splitB_app, splitB_one p (h p (by simp)), ih hL (fun q hq => h q (List.mem_cons_of_mem _ hq))]; rfl

theorem splitB_no47 (l : List UInt8) : ∀ p ∈ Top.splitB l, (47 : UInt8) ∉ p := by
  induction l with
  | nil => intro p hp; simp [Top.splitB] at hp; subst hp; simp
  | cons c l ih =>
    intro p hp
    rw [Top.splitB] at hp
    by_cases hc : c = 47
    · rw [if_pos hc] at hp
      rcases List.mem_cons.1 hp with rfl | hp
      · simp
      · exact ih p hp
    · rw [if_neg hc] at hp
      cases h : Top.splitB l with
      | nil => exact absurd h (Top.splitB_ne l)
      | cons x t =>
        rw [h] at hp ih
        rcases List.mem_cons.1 hp with rfl | hp
        · intro hm
          rcases List.mem_cons.1 hm with e | hm
          · exact hc e.symm
          · exact ih x (by simp) hm
        · exact ih p (List.mem_cons_of_mem _ hp)

theorem hasAny_app (a b : List UInt8) : Top.hasAny (a ++ b) Top.wild = (Top.hasAny a Top.wild || Top.hasAny b Top.wild) := by
  unfold Top.hasAny; rw [List.any_append]
theorem hasAny_47 (a b : List UInt8) : Top.hasAny (a ++ 47 :: b) Top.wild = (Top.hasAny a Top.wild || Top.hasAny b Top.wild) := by
  rw [show a ++ 47 :: b = a ++ ([47] ++ b) from rfl, hasAny_app, hasAny_app]
  rfl

theorem okQ_join (L : List (List UInt8)) : okQ (join L) = L.all okQ := by
  induction L with
  | nil => rfl
  | cons p L ih =>
    by_cases hL : L = []
    · subst hL; simp [join]
    · rw [join_cons p L hL, okQ_slash, ih, List.all_cons]
theorem hasAny_join (L : List (List UInt8)) : Top.hasAny (join L) Top.wild = L.any fun p => Top.hasAny p Top.wild := by
  induction L with
  | nil => rfl
  | cons p L ih =>
    by_cases hL : L = []
    · subst hL; simp [join]
    · rw [join_cons p L hL, hasAny_47, ih, List.any_cons]

/-- A level that may stand anywhere in a filter. -/
def Mid (p : List UInt8) : Prop := p = [43] ∨ Top.hasAny p Top.wild = false
theorem bad_mid (p : List UInt8) : Top.badL (p, false) = false ↔ Mid p := by
  unfold Top.badL Mid
  by_cases h : p = [43]
  · simp [h]
  · have : (p == [43]) = false := beq_eq_false_iff_ne.2 h
    simp [this, h]
theorem bad_last (p : List UInt8) : Top.badL (p, true) = false ↔ Mid p ∨ p = [35] := by
  unfold Top.badL Mid
  by_cases h : p = [43]
  · simp [h]
  · have : (p == [43]) = false := beq_eq_false_iff_ne.2 h
    by_cases h2 : p = [35]
    · simp [h2]
    · have h3 : (p == [35]) = false := beq_eq_false_iff_ne.2 h2
      simp [this, h, h3, h2]
theorem withLast_snoc (F : List (List UInt8)) (x : List UInt8) : Top.withLast (F ++ [x]) = F.map (fun p => (p, false)) ++ [(x, true)] := by
  induction F with
  | nil => rfl
  | cons p F ih =>
    cases F with
    | nil => rfl
    | cons q r => show (p, false) :: Top.withLast ((q :: r) ++ [x]) = _; rw [ih]; rfl

theorem good_snoc (F : List (List UInt8)) (x : List UInt8) : (Top.withLast (F ++ [x])).any Top.badL = false ↔ (∀ p ∈ F, Mid p) ∧ (Mid x ∨ x = [35]) := by
  rw [withLast_snoc, List.any_append, Bool.or_eq_false_iff, ← bad_last x]
  constructor
  · rintro ⟨h1, h2⟩
    refine ⟨fun p hp => (bad_mid p).1 ?_, by simpa using h2⟩
    have := List.any_eq_false.1 h1 (p, false) (List.mem_map.2 ⟨p, hp, rfl⟩)
    simpa using this
  · rintro ⟨h1, h2⟩
    refine ⟨List.any_eq_false.2 (fun y hy => ?_), by simpa using h2⟩
    obtain ⟨p, hp, rfl⟩ := List.mem_map.1 hy
    rw [(bad_mid p).2 (h1 p hp)]; simp

theorem snoc_of (L : List (List UInt8)) (h : L ≠ []) : ∃ F x, L = F ++ [x] := ⟨L.dropLast, L.getLast h, (List.dropLast_concat_getLast h).symm⟩

theorem good_all (L : List (List UInt8)) (h : ∀ p ∈ L, Mid p) : (Top.withLast L).any Top.badL = false := by
  by_cases h0 : L = []
  · subst h0; rfl
  · obtain ⟨F, x, rfl⟩ := snoc_of L h0
    exact (good_snoc F x).2 ⟨fun p hp => h p (by simp [hp]), .inl (h x (by simp))⟩
theorem good_app (G L : List (List UInt8)) (hG : ∀ p ∈ G, Mid p) (h : L ≠ []) (hL : (Top.withLast L).any Top.badL = false) : (Top.withLast (G ++ L)).any Top.badL = false := by
  obtain ⟨F, x, rfl⟩ := snoc_of L h
  have := (good_snoc F x).1 hL
  rw [← List.append_assoc]
  exact (good_snoc (G ++ F) x).2 ⟨fun p hp => (List.mem_append.1 hp).elim (hG p) (this.1 p), this.2⟩

theorem join_snoc (F : List (List UInt8)) (x : List UInt8) (h : F ≠ []) : join (F ++ [x]) = join F ++ 47 :: x := by
  induction F with
  | nil => exact absurd rfl h
  | cons p F ih =>
    by_cases hF : F = []
    · subst hF; rfl
    · rw [List.cons_append, join_cons _ _ (by simp), ih hF, join_cons _ _ hF, List.append_assoc]; rfl
theorem join_last (F : List (List UInt8)) (x : List UInt8) (hx : x ≠ []) : (join (F ++ [x])).getLast? = x.getLast? := by
  by_cases hF : F = []
  · subst hF; rfl
  · rw [join_snoc F x hF]
    obtain ⟨G, y, rfl⟩ : ∃ G y, x = G ++ [y] := ⟨x.dropLast, x.getLast hx, (List.dropLast_concat_getLast hx).symm⟩
    rw [show join F ++ 47 :: (G ++ [y]) = (join F ++ 47 :: G) ++ [y] by simp, List.getLast?_concat, List.getLast?_concat]

/-- A filter whose last sign is not '#' has levels only that may stand anywhere. -/
theorem all_mid (l : List UInt8) (hg : (Top.lvl l).any Top.badL = false) (hl : l.getLast? ≠ some 35) : ∀ p ∈ Top.splitB l, Mid p := by
  obtain ⟨F, x, hs⟩ := snoc_of (Top.splitB l) (Top.splitB_ne l)
  unfold Top.lvl at hg
  rw [hs] at hg ⊢
  have h := (good_snoc F x).1 hg
  have hx : x ≠ [35] := fun e => hl (by
    have := join_split l
    rw [hs] at this
    rw [← this, e, join_last F [35] (by simp)]; rfl)
  intro p hp
  rcases List.mem_append.1 hp with hp | hp
  · exact h.1 p hp
  · rw [List.mem_singleton.1 hp]; exact h.2.resolve_right hx

theorem mid_ne (p : List UInt8) (h : Mid p) : p ≠ [35] := by
  rintro rfl
  rcases h with h | h
  · cases h
  · revert h; decide

theorem takesL_plain (F : List (List UInt8)) : ∀ N : List (List UInt8), (∀ p ∈ F, Top.hasAny p Top.wild = false) → Top.takesL F N = decide (F = N) := by
  induction F with
  | nil => intro N _; cases N <;> simp [Top.takesL]
  | cons p F ih =>
    intro N h
    have hp := h p (by simp)
    have h35 : p ≠ [35] := by rintro rfl; revert hp; decide
    have h43 : p ≠ [43] := by rintro rfl; revert hp; decide
    cases N with
    | nil => rw [Top.takesL_nil _ _ h35]; simp
    | cons q N =>
      by_cases hpq : p = q
      · rw [Top.takesL_go _ _ _ _ h35 (.inr hpq), ih N (fun r hr => h r (by simp [hr]))]; simp [hpq]
      · rw [Top.takesL_no _ _ _ _ h35 (fun e => e.elim h43 hpq)]; simp [hpq]

theorem takesL_snoc (x s : List UInt8) (hx : x ≠ [35]) (hxs : x = [43] ∨ x = s) (F : List (List UInt8)) : ∀ N : List (List UInt8), (∀ p ∈ F, p ≠ [35]) → Top.takesL (F ++ [x]) (N ++ [s]) = Top.takesL F N := by
  induction F with
  | nil =>
    intro N _
    cases N with
    | nil => show Top.takesL [x] [s] = _; rw [Top.takesL_go _ _ _ _ hx hxs]
    | cons m N =>
      show Top.takesL [x] (m :: (N ++ [s])) = _
      have e : Top.takesL [] (m :: N) = false := rfl
      rw [e]
      by_cases hm : x = [43] ∨ x = m
      · rw [Top.takesL_go _ _ _ _ hx hm]; cases N <;> rfl
      · rw [Top.takesL_no _ _ _ _ hx hm]
  | cons p F ih =>
    intro N h
    have hp := h p (by simp)
    cases N with
    | nil =>
      show Top.takesL (p :: (F ++ [x])) [s] = _
      rw [Top.takesL_nil _ _ hp]
      by_cases hm : p = [43] ∨ p = s
      · rw [Top.takesL_go _ _ _ _ hp hm]
        cases F with
        | nil => exact Top.takesL_nil _ _ hx
        | cons q r => exact Top.takesL_nil _ _ (h q (by simp))
      · rw [Top.takesL_no _ _ _ _ hp hm]
    | cons m N =>
      show Top.takesL (p :: (F ++ [x])) (m :: (N ++ [s])) = _
      by_cases hm : p = [43] ∨ p = m
      · rw [Top.takesL_go _ _ _ _ hp hm, Top.takesL_go _ _ _ _ hp hm, ih N (fun q hq => h q (by simp [hq]))]
      · rw [Top.takesL_no _ _ _ _ hp hm, Top.takesL_no _ _ _ _ hp hm]

theorem takesL_all (M : List (List UInt8)) (F : List (List UInt8)) : ∀ N : List (List UInt8), Top.takesL F N = true → Top.takesL (F ++ [[35]]) (N ++ M) = true := by
  induction F with
  | nil => intro N h; exact Top.takesL_hash _ _
  | cons p F ih =>
    intro N h
    by_cases hp : p = [35]
    · rw [hp]; exact Top.takesL_hash _ _
    · cases N with
      | nil => rw [Top.takesL_nil _ _ hp] at h; cases h
      | cons m N =>
        by_cases hm : p = [43] ∨ p = m
        · rw [Top.takesL_go _ _ _ _ hp hm] at h
          show Top.takesL (p :: (F ++ [[35]])) (m :: (N ++ M)) = true
          rw [Top.takesL_go _ _ _ _ hp hm]; exact ih N h
        · rw [Top.takesL_no _ _ _ _ hp hm] at h; cases h

/-- What a name is. -/
def NameL (l : List UInt8) : Prop := l ≠ [] ∧ l.length ≤ 65535 ∧ okQ l = true ∧ Top.hasAny l Top.wild = false
/-- What a filter is. -/
def FiltL (l : List UInt8) : Prop := l ≠ [] ∧ l.length ≤ 65535 ∧ okQ l = true ∧ (Top.lvl l).any Top.badL = false
theorem name_iff (s : ByteArray) : Top.isName s = true ↔ NameL s.data.toList := by
  unfold Top.isName NameL
  rw [isU_list]
  cases h : s.data.toList <;> simp [and_assoc]
theorem filt_iff (s : ByteArray) : Top.isFilter s = true ↔ FiltL s.data.toList := by
  unfold Top.isFilter FiltL
  rw [isU_list]
  cases h : s.data.toList <;> simp [and_assoc]

theorem mids (l : List UInt8) (h : Top.hasAny l Top.wild = false) : ∀ p ∈ Top.splitB l, Top.hasAny p Top.wild = false := by
  have := hasAny_join (Top.splitB l)
  rw [join_split, h] at this
  intro p hp
  have := List.any_eq_false.1 this.symm p hp
  simpa using this
theorem name_filt {l : List UInt8} (h : NameL l) : FiltL l := ⟨h.1, h.2.1, h.2.2.1, good_all _ (fun p hp => .inr (mids l h.2.2.2 p hp))⟩

theorem dollar_at (b : UInt8) (c : UInt8) (r t : List UInt8) : Top.dollar (c :: r) (b :: t) = (b == 36 && Top.hasAny [c] Top.wild) := by
  unfold Top.dollar
  show ((some b == some (36 : UInt8)) && _) = _
  congr 1

end Go.Proofs.YtlfigadjbnikiaaDoor.Q
