/- What the proof of SubsOrder leans on: SbQ. -/
import Derived.Test.YtjibcekillcgjaaDoorSSubsOrderSbO
set_option linter.unusedVariables false
set_option linter.unusedSimpArgs false
namespace Go.Proofs.YtjibcekillcgjaaDoor.Sb
open Go Go.RowKit Go.ChangeMaps Go.MapKept Go.Proofs.YtjibcekillcgjaaDoorW.PrintWords Go.Proofs.YtjibcekillcgjaaDoor.Q Go.Proofs.YtjibcekillcgjaaDoor.Mp Go.Proofs.YtjibcekillcgjaaDoor.Top Go.Proofs.YtjibcekillcgjaaDoor.Fm
def keyO (o : OpT) : Key := (o.f1, o.f2)
abbrev St := List Ent × Int
def stepA (s : St) (o : OpT) : St := (addF s.1 s.2 (keyO o) o.f3, addN s.1 s.2 (keyO o) o.f3)
def addAll (l : List OpT) : St := l.foldl stepA ([], 0)
theorem addAll_snoc (l : List OpT) (o : OpT) : addAll (l ++ [o]) = stepA (addAll l) o := by
  unfold addAll
  rw [List.foldl_append]
  rfl
theorem okay_fold : ∀ (l : List OpT) (s : St) (i : Nat), Okay s.1 s.2 i → Okay (l.foldl stepA s).1 (l.foldl stepA s).2 (i + l.length)
  | [], s, i, h => h
  | o :: l, s, i, h => by
    have := okay_fold l (stepA s o) (i + 1) (h.add _ _)
    rw [List.foldl_cons, List.length_cons, show i + (l.length + 1) = i + 1 + l.length by omega]
    exact this
theorem okay_all (l : List OpT) : Okay (addAll l).1 (addAll l).2 l.length := by
  have := okay_fold l ([], 0) 0 Okay.nil
  rw [Nat.zero_add] at this
  exact this
def ApartO (l : List OpT) : Prop := l.Pairwise fun a b => keyO a ≠ keyO b
theorem mem_fold : ∀ (l : List OpT) (s : St), ApartO l → (∀ p ∈ s.1, ∀ o ∈ l, p.1 ≠ keyO o) → ∀ k q, (∃ pl, (k, (q, pl)) ∈ (l.foldl stepA s).1) ↔ (∃ pl, (k, (q, pl)) ∈ s.1) ∨ ∃ o ∈ l, goodB (keyO o) o.f3 = true ∧ k = keyO o ∧ q = o.f3
  | [], s, _, _, k, q => by simp
  | o :: l, s, hA, hs, k, q => by
    obtain ⟨h1, h2⟩ := List.pairwise_cons.1 hA
    have hno : ∀ p ∈ s.1, p.1 ≠ keyO o := fun p hp => hs p hp o List.mem_cons_self
    have hg : getL s.1 (keyO o) = none := getL_none hno
    have hst : (stepA s o).1 = if goodB (keyO o) o.f3 = true then s.1 ++ [(keyO o, (o.f3, s.2 + 1))] else s.1 := by
      show addF s.1 s.2 (keyO o) o.f3 = _
      unfold addF
      rw [hg]
      rfl
    have ih := mem_fold l (stepA s o) h2 (fun p hp o' ho' => by
      rw [hst] at hp
      split at hp
      · rcases List.mem_append.1 hp with hp | hp
        · exact hs p hp o' (List.mem_cons_of_mem _ ho')
        · rw [List.mem_singleton.1 hp]; exact h1 o' ho'
      · exact hs p hp o' (List.mem_cons_of_mem _ ho')) k q
    rw [List.foldl_cons, ih, hst]
    by_cases hgd : goodB (keyO o) o.f3 = true
    · rw [if_pos hgd]
      constructor
      · rintro (⟨pl, hp⟩ | ⟨o', ho', h⟩)
        · rcases List.mem_append.1 hp with hp | hp
          · exact .inl ⟨pl, hp⟩
          · have e := List.mem_singleton.1 hp
            injection e with e1 e2
            injection e2 with e2 e3
            exact .inr ⟨o, List.mem_cons_self, hgd, e1, e2⟩
        · exact .inr ⟨o', List.mem_cons_of_mem _ ho', h⟩
      · rintro (⟨pl, hp⟩ | ⟨o', ho', h⟩)
        · exact .inl ⟨pl, List.mem_append_left _ hp⟩
        · rcases List.mem_cons.1 ho' with rfl | ho'
          · exact .inl ⟨s.2 + 1, by rw [h.2.1, h.2.2]; simp⟩
          · exact .inr ⟨o', ho', h⟩
    · rw [if_neg hgd]
      constructor
      · rintro (h | ⟨o', ho', h⟩)
        · exact .inl h
        · exact .inr ⟨o', List.mem_cons_of_mem _ ho', h⟩
      · rintro (h | ⟨o', ho', h⟩)
        · exact .inl h
        · rcases List.mem_cons.1 ho' with rfl | ho'
          · exact absurd h.1 hgd
          · exact .inr ⟨o', ho', h⟩
theorem mem_all {l : List OpT} (hA : ApartO l) (k : Key) (q : Int) : (∃ pl, (k, (q, pl)) ∈ (addAll l).1) ↔ ∃ o ∈ l, goodB (keyO o) o.f3 = true ∧ k = keyO o ∧ q = o.f3 := by
  have := mem_fold l ([], 0) hA (fun p hp => by simp at hp) k q
  unfold addAll
  simpa using this
def opAt (l : List OpT) (n : Nat) : OpT := rd_T28 l (n : Int)
def yops (l : List OpT) (b i : Nat) : List OpT := (List.range i).map fun j => opAt l ((j + b) % l.length)
theorem yops_succ (l : List OpT) (b i : Nat) : yops l b (i + 1) = yops l b i ++ [opAt l ((i + b) % l.length)] := by
  unfold yops
  rw [List.range_succ, List.map_append]
  rfl
theorem yops_len (l : List OpT) (b i : Nat) : (yops l b i).length = i := by
  unfold yops
  rw [List.length_map, List.length_range]
theorem mod_case {n b j : Nat} (hb : b < n) (hj : j < n) : (j + b) % n = if j + b < n then j + b else j + b - n := by
  split
  · exact Nat.mod_eq_of_lt ‹_›
  · rw [Nat.mod_eq_sub_mod (by omega), Nat.mod_eq_of_lt (by omega)]
theorem opAt_get {l : List OpT} {n : Nat} (h : n < l.length) : opAt l n = l[n] := rd_get l n h
theorem yops_mem {l : List OpT} {b : Nat} (hb : b < l.length) (o : OpT) : o ∈ yops l b l.length ↔ o ∈ l := by
  unfold yops
  rw [List.mem_map]
  constructor
  · rintro ⟨j, hj, rfl⟩
    exact rd_mem l _ (Nat.mod_lt _ (by omega))
  · intro ho
    obtain ⟨i, hi, rfl⟩ := List.getElem_of_mem ho
    by_cases h : b ≤ i
    · refine ⟨i - b, List.mem_range.2 (by omega), ?_⟩
      rw [show i - b + b = i by omega, Nat.mod_eq_of_lt hi]
      exact opAt_get hi
    · refine ⟨i + l.length - b, List.mem_range.2 (by omega), ?_⟩
      rw [show i + l.length - b + b = i + l.length by omega, Nat.add_mod_right, Nat.mod_eq_of_lt hi]
      exact opAt_get hi
theorem apart_at {l : List OpT} (hA : ApartO l) {i j : Nat} (hi : i < l.length) (hj : j < l.length) (hne : i ≠ j) : keyO (opAt l i) ≠ keyO (opAt l j) := by
  rw [opAt_get hi, opAt_get hj]
  rcases Nat.lt_or_gt_of_ne hne with h | h
  · exact List.pairwise_iff_getElem.1 hA i j hi hj h
  · exact fun e => List.pairwise_iff_getElem.1 hA j i hj hi h e.symm
theorem yops_apart {l : List OpT} {b : Nat} (hb : b < l.length) (hA : ApartO l) : ApartO (yops l b l.length) := by
  unfold yops ApartO
  rw [List.pairwise_map]
  refine List.Pairwise.imp_of_mem ?_ (List.pairwise_lt_range (n := l.length))
  intro i j hi hj hij
  have hi := List.mem_range.1 hi
  have hj := List.mem_range.1 hj
  refine apart_at hA (Nat.mod_lt _ (by omega)) (Nat.mod_lt _ (by omega)) ?_
  rw [mod_case hb hi, mod_case hb hj]
  split <;> split <;> omega
theorem same_both {l : List OpT} {b : Nat} (hb : b < l.length) (hA : ApartO l) (k : Key) (q : Int) : (∃ pl, (k, (q, pl)) ∈ (addAll l).1) ↔ ∃ pl, (k, (q, pl)) ∈ (addAll (yops l b l.length)).1 := by
  rw [mem_all hA, mem_all (yops_apart hb hA)]
  constructor
  · rintro ⟨o, ho, h⟩
    exact ⟨o, (yops_mem hb o).2 ho, h⟩
  · rintro ⟨o, ho, h⟩
    exact ⟨o, (yops_mem hb o).1 ho, h⟩
theorem ApartO.snoc {l : List OpT} {i : Nat} (h : ApartO (l.take i)) (hi : i < l.length) (hn : ∀ k, k < i → keyO (opAt l k) ≠ keyO (opAt l i)) : ApartO (l.take (i + 1)) := by
  unfold ApartO at *
  rw [List.take_succ_eq_append_getElem hi]
  refine List.pairwise_append.2 ⟨h, List.pairwise_singleton _ _, ?_⟩
  intro a ha b hb
  rw [List.mem_singleton.1 hb]
  obtain ⟨k, hk, rfl⟩ := List.getElem_of_mem ha
  rw [List.length_take] at hk
  have := hn k (by omega)
  rw [opAt_get (by omega), opAt_get hi] at this
  rw [List.getElem_take]
  exact this
def wantF (ws : List WantT) (c : ByteArray) : List WantT := ws.filter fun w => !decide (w.f0 = c)
theorem find_gone {es : List Ent} {name c : ByteArray} {ws : List WantT} (h : FindIs es name ws) : FindIs (goneF es c) name (wantF ws c) := by
  refine ⟨h.1.filter _, fun w => ?_⟩
  unfold wantF
  rw [List.mem_filter, h.2 w]
  have hg : ∀ p, p ∈ goneF es c ↔ p ∈ es ∧ p.1.1 ≠ c := fun p => by
    unfold goneF ownB
    rw [List.mem_filter]
    refine and_congr_right (fun _ => ?_)
    by_cases e : p.1.1 = c
    · rw [decide_eq_true e]; simp [e]
    · rw [decide_eq_false e]; simp [e]
  constructor
  · rintro ⟨⟨⟨p, hp, ht, hc, hq⟩, h2⟩, hne⟩
    have hne' : w.f0 ≠ c := fun e => by rw [decide_eq_true e] at hne; cases hne
    exact ⟨⟨p, (hg p).2 ⟨hp, by rw [hc]; exact hne'⟩, ht, hc, hq⟩, fun p hp => h2 p ((hg p).1 hp).1⟩
  · rintro ⟨⟨p, hp, ht, hc, hq⟩, h2⟩
    have hp' := (hg p).1 hp
    have hne : w.f0 ≠ c := by rw [← hc]; exact hp'.2
    refine ⟨⟨⟨p, hp'.1, ht, hc, hq⟩, fun p2 hp2 ht2 hc2 => h2 p2 ((hg p2).2 ⟨hp2, by rw [hc2]; exact hne⟩) ht2 hc2⟩, by rw [decide_eq_false hne]; rfl⟩
end Go.Proofs.YtjibcekillcgjaaDoor.Sb
