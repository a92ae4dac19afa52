/- What the proof of SubsFinds leans on: Sb0. -/
import Derived.Test.YtjibcekillcgjaaDoorSSubsFindsRt0
set_option linter.unusedVariables false
set_option linter.unusedSimpArgs false
set_option linter.unusedSectionVars false
namespace Go.Proofs.YtjibcekillcgjaaDoor.Mp
open Go Go.RowKit
section
variable {α : Type} [DecidableEq α]
theorem Apart.nodup {β : Type} {L : List (α × β)} (h : Apart L) : L.Nodup := List.Pairwise.imp (fun hne e => hne (by rw [e])) h
theorem Apart.perm {β : Type} {L L' : List (α × β)} (h : Apart L) (hp : L.Perm L') : Apart L' := (hp.pairwise_iff (fun {_ _} hne => Ne.symm hne)).1 h
theorem perm_apart {β : Type} {L L' : List (α × β)} (h : Apart L) (h' : Apart L') (hm : ∀ x, x ∈ L ↔ x ∈ L') : L.Perm L' := (List.perm_ext_iff_of_nodup h.nodup h'.nodup).2 hm
theorem getL_some {β : Type} : ∀ {L : List (α × β)} {a : α} {v : β}, Apart L → (a, v) ∈ L → getL L a = some v
  | [], _, _, _, h => by cases h
  | p :: l, a, v, hA, h => by
    obtain ⟨h1, h2⟩ := List.pairwise_cons.1 hA
    unfold getL
    rcases List.mem_cons.1 h with h | h
    · rw [← h, if_pos rfl]
    · rw [if_neg (fun e => h1 _ h e), getL_some h2 h]
theorem getL_perm {β : Type} {L L' : List (α × β)} (h : Apart L) (hp : L.Perm L') (a : α) : getL L a = getL L' a := by
  cases hg : getL L' a with
  | some v => exact getL_some h (hp.mem_iff.2 (getL_mem hg))
  | none =>
    cases hg2 : getL L a with
    | none => rfl
    | some v =>
      rw [getL_some (h.perm hp) (hp.mem_iff.1 (getL_mem hg2))] at hg
      cases hg
structure AsP (L es : List (α × (Int × Int))) (n : Int) : Prop where
  perm : L.Perm es
  apart : Apart L
  srt : es.Pairwise fun p q => p.2.2 < q.2.2
  top : ∀ p ∈ es, 0 < p.2.2 ∧ p.2.2 ≤ n
def setP (es : List (α × (Int × Int))) (a : α) (q : Int) : List (α × (Int × Int)) := es.map fun p => if p.1 = a then (a, (q, p.2.2)) else p
variable {L es : List (α × (Int × Int))} {n : Int}
theorem AsP.nil : AsP ([] : List (α × (Int × Int))) [] 0 := ⟨List.Perm.refl _, by simp [Apart], by simp, fun p hp => by simp at hp⟩
theorem AsP.apart' (h : AsP L es n) : Apart es := h.apart.perm h.perm
theorem AsP.get (h : AsP L es n) (a : α) : getL L a = getL es a := getL_perm h.apart h.perm a
theorem AsP.len (h : AsP L es n) : L.length = es.length := h.perm.length_eq
theorem setP_pairwise (es : List (α × (Int × Int))) (a : α) (q : Int) (R : α × (Int × Int) → α × (Int × Int) → Prop) (hR : ∀ x y x' y' : α × (Int × Int), x.1 = x'.1 → x.2.2 = x'.2.2 → y.1 = y'.1 → y.2.2 = y'.2.2 → R x y → R x' y') (h : es.Pairwise R) : (setP es a q).Pairwise R := by
  unfold setP
  rw [List.pairwise_map]
  refine List.Pairwise.imp (fun {x y} hxy => hR x y _ _ ?_ ?_ ?_ ?_ hxy) h
  all_goals (split <;> first | rfl | (rename_i e; exact e))
theorem mem_setP {a : α} {q : Int} {x : α × (Int × Int)} : x ∈ setP es a q ↔ (∃ p ∈ es, p.1 = a ∧ x = (a, (q, p.2.2))) ∨ (x ∈ es ∧ x.1 ≠ a) := by
  unfold setP
  rw [List.mem_map]
  constructor
  · rintro ⟨p, hp, e⟩
    by_cases he : p.1 = a
    · rw [if_pos he] at e
      exact .inl ⟨p, hp, he, e.symm⟩
    · rw [if_neg he] at e
      subst e
      exact .inr ⟨hp, he⟩
  · rintro (⟨p, hp, he, rfl⟩ | ⟨hx, hn⟩)
    · exact ⟨p, hp, by rw [if_pos he]⟩
    · exact ⟨x, hx, by rw [if_neg hn]⟩
theorem AsP.again (h : AsP L es n) {a : α} {q q0 pl : Int} (hg : getL es a = some (q0, pl)) : AsP (putL L a (q, pl)) (setP es a q) n := by
  have hA := h.apart'
  have hm := getL_mem hg
  have hsA : Apart (setP es a q) := setP_pairwise es a q (fun p q => p.1 ≠ q.1) (fun x y x' y' h1 _ h2 _ hne => by rw [← h1, ← h2]; exact hne) hA
  refine ⟨perm_apart h.apart.put hsA (fun x => ?_), h.apart.put, setP_pairwise es a q _ (fun x y x' y' _ h1 _ h2 hlt => by rw [← h1, ← h2]; exact hlt) h.srt, fun p hp => ?_⟩
  · rw [mem_putL h.apart, mem_setP, h.perm.mem_iff]
    constructor
    · rintro (rfl | ⟨hx, hn⟩)
      · exact .inl ⟨_, hm, rfl, rfl⟩
      · exact .inr ⟨hx, hn⟩
    · rintro (⟨p, hp, he, rfl⟩ | ⟨hx, hn⟩)
      · have e1 := getL_some hA (show (p.1, p.2) ∈ es from hp)
        rw [he, hg] at e1
        injection e1 with e1
        exact .inl (by rw [← e1])
      · exact .inr ⟨hx, hn⟩
  · rcases mem_setP.1 hp with ⟨p', hp', -, rfl⟩ | ⟨hx, -⟩
    · exact h.top p' hp'
    · exact h.top p hx
theorem AsP.more (h : AsP L es n) {a : α} {q : Int} (hn : 0 ≤ n) (hg : getL es a = none) : AsP (putL L a (q, n + 1)) (es ++ [(a, (q, n + 1))]) (n + 1) := by
  have hno : ∀ p ∈ es, p.1 ≠ a := fun p hp e => by
    have := getL_some h.apart' (show (p.1, p.2) ∈ es from hp)
    rw [e, hg] at this
    cases this
  have hA' : Apart (es ++ [(a, (q, n + 1))]) := List.pairwise_append.2 ⟨h.apart', List.pairwise_singleton _ _, fun x hx y hy => by
    rw [List.mem_singleton] at hy
    subst hy
    exact hno x hx⟩
  refine ⟨perm_apart h.apart.put hA' (fun x => ?_), h.apart.put, ?_, fun p hp => ?_⟩
  · rw [mem_putL h.apart, h.perm.mem_iff, List.mem_append, List.mem_singleton]
    constructor
    · rintro (rfl | ⟨hx, -⟩)
      · exact .inr rfl
      · exact .inl hx
    · rintro (hx | rfl)
      · exact .inr ⟨hx, hno x hx⟩
      · exact .inl rfl
  · refine List.pairwise_append.2 ⟨h.srt, List.pairwise_singleton _ _, fun x hx y hy => ?_⟩
    rw [List.mem_singleton] at hy
    subst hy
    have := (h.top x hx).2
    show x.2.2 < n + 1
    omega
  · rcases List.mem_append.1 hp with hp | hp
    · have := h.top p hp
      omega
    · rw [List.mem_singleton] at hp
      subst hp
      show 0 < n + 1 ∧ n + 1 ≤ n + 1
      omega
theorem AsP.del (h : AsP L es n) (a : α) : AsP (delL L a) (delL es a) n :=
  ⟨h.perm.filter _, h.apart.del a, List.Pairwise.filter _ h.srt, fun p hp => h.top p (mem_delL.1 hp).1⟩
end
end Go.Proofs.YtjibcekillcgjaaDoor.Mp
