/- What the proof of RetainKeeps leans on: Rt0. -/
import Derived.Test.YtdchcdagjnaicaaDoorSRetainKeepsMp
import Derived.Sort.Walk0
set_option linter.unusedVariables false
set_option linter.unusedSimpArgs false
namespace Go.Proofs.YtdchcdagjnaicaaDoor.Mp
open Go Go.RowKit
def ltS (a b : ByteArray) : Bool := Op.bytesLess a.toList b.toList
theorem ltS_eq (a b : ByteArray) : ltS a b = decide (a.data.toList < b.data.toList) := by
  unfold ltS
  rw [Go.Proofs.bytesLess_eq, Lib.toList_data, Lib.toList_data]
theorem ltS_irrefl (a : ByteArray) : ltS a a = false := by
  rw [ltS_eq]
  exact decide_eq_false (List.lt_irrefl _)
theorem ltS_trans {a b c : ByteArray} (h : ltS a b = true) (h' : ltS b c = true) : ltS a c = true := by
  rw [ltS_eq] at *
  exact decide_eq_true (List.lt_trans (of_decide_eq_true h) (of_decide_eq_true h'))
theorem ba_inj {a b : ByteArray} (h : a.data.toList = b.data.toList) : a = b := by
  apply ByteArray.ext
  exact Array.toList_inj.1 h
theorem ltS_total {a b : ByteArray} (h : ltS a b = false) (h' : ltS b a = false) : a = b := by
  rw [ltS_eq] at *
  exact ba_inj (List.le_antisymm (List.not_lt.1 (of_decide_eq_false h')) (List.not_lt.1 (of_decide_eq_false h)))
theorem ltS_ne {a b : ByteArray} (h : ltS a b = true) : a ≠ b := fun e => by
  rw [e, ltS_irrefl] at h
  cases h
theorem ltS_asymm {a b : ByteArray} (h : ltS a b = true) : ltS b a = false := by
  cases h2 : ltS b a
  · rfl
  · have := ltS_trans h h2
    rw [ltS_irrefl] at this
    cases this
section
variable {β : Type} (f : β → ByteArray)
def Srt (l : List β) : Prop := l.Pairwise fun x y => ltS (f x) (f y) = true
def KeyD (l : List β) : Prop := l.Pairwise fun x y => f x ≠ f y
def putS : List β → β → List β
  | [], m => [m]
  | x :: r, m => if ltS (f m) (f x) = true then m :: x :: r else if f x = f m then m :: r else x :: putS r m
def delS (l : List β) (t : ByteArray) : List β := l.filter fun x => !decide (f x = t)
def getS : List β → ByteArray → Option β
  | [], _ => none
  | x :: r, t => if f x = t then some x else getS r t
variable {f}
theorem Srt.keys {l : List β} (h : Srt f l) : KeyD f l := List.Pairwise.imp (fun h => ltS_ne h) h
theorem Srt.filter {l : List β} (h : Srt f l) (p : β → Bool) : Srt f (l.filter p) := List.Pairwise.filter p h
theorem mem_putS : ∀ {l : List β} {m x : β}, Srt f l → (x ∈ putS f l m ↔ x = m ∨ (x ∈ l ∧ f x ≠ f m))
  | [], m, x, _ => by simp [putS]
  | y :: r, m, x, h => by
    obtain ⟨h1, h2⟩ := List.pairwise_cons.1 h
    unfold putS
    by_cases hlt : ltS (f m) (f y) = true
    · rw [if_pos hlt]
      have hne : ∀ z ∈ y :: r, f z ≠ f m := by
        intro z hz e
        rcases List.mem_cons.1 hz with rfl | hz
        · exact ltS_ne hlt e.symm
        · exact ltS_ne (ltS_trans hlt (h1 z hz)) e.symm
      constructor
      · intro hx
        rcases List.mem_cons.1 hx with hx | hx
        · exact .inl hx
        · exact .inr ⟨hx, hne x hx⟩
      · rintro (rfl | ⟨hx, _⟩)
        · exact List.mem_cons_self
        · exact List.mem_cons_of_mem _ hx
    · rw [if_neg hlt]
      by_cases he : f y = f m
      · rw [if_pos he]
        have hne : ∀ z ∈ r, f z ≠ f m := fun z hz e => ltS_ne (h1 z hz) (he.trans e.symm)
        constructor
        · intro hx
          rcases List.mem_cons.1 hx with hx | hx
          · exact .inl hx
          · exact .inr ⟨List.mem_cons_of_mem _ hx, hne x hx⟩
        · rintro (rfl | ⟨hx, hn⟩)
          · exact List.mem_cons_self
          · rcases List.mem_cons.1 hx with rfl | hx
            · exact absurd he hn
            · exact List.mem_cons_of_mem _ hx
      · rw [if_neg he]
        rw [List.mem_cons, mem_putS h2, List.mem_cons]
        constructor
        · rintro (rfl | rfl | ⟨hx, hn⟩)
          · exact .inr ⟨.inl rfl, he⟩
          · exact .inl rfl
          · exact .inr ⟨.inr hx, hn⟩
        · rintro (rfl | ⟨rfl | hx, hn⟩)
          · exact .inr (.inl rfl)
          · exact .inl rfl
          · exact .inr (.inr ⟨hx, hn⟩)
theorem Srt.put : ∀ {l : List β} {m : β}, Srt f l → Srt f (putS f l m)
  | [], m, _ => by simp [putS, Srt]
  | y :: r, m, h => by
    obtain ⟨h1, h2⟩ := List.pairwise_cons.1 h
    unfold putS
    by_cases hlt : ltS (f m) (f y) = true
    · rw [if_pos hlt]
      refine List.pairwise_cons.2 ⟨fun z hz => ?_, h⟩
      rcases List.mem_cons.1 hz with rfl | hz
      · exact hlt
      · exact ltS_trans hlt (h1 z hz)
    · rw [if_neg hlt]
      by_cases he : f y = f m
      · rw [if_pos he]
        exact List.pairwise_cons.2 ⟨fun z hz => by rw [← he]; exact h1 z hz, h2⟩
      · rw [if_neg he]
        refine List.pairwise_cons.2 ⟨fun z hz => ?_, Srt.put h2⟩
        rcases (mem_putS h2).1 hz with rfl | ⟨hz, _⟩
        · cases hq : ltS (f y) (f z)
          · exact absurd (ltS_total hq (by simpa using hlt)) he
          · rfl
        · exact h1 z hz
theorem Srt.del {l : List β} (h : Srt f l) (t : ByteArray) : Srt f (delS f l t) := h.filter _
theorem mem_delS {l : List β} {t : ByteArray} {x : β} : x ∈ delS f l t ↔ x ∈ l ∧ f x ≠ t := by
  unfold delS
  rw [List.mem_filter]
  simp
theorem getS_some : ∀ {l : List β} {t : ByteArray} {x : β}, getS f l t = some x → x ∈ l ∧ f x = t
  | [], _, _, h => by cases h
  | y :: r, t, x, h => by
    unfold getS at h
    split at h
    · rename_i e
      cases h
      exact ⟨List.mem_cons_self, e⟩
    · have := getS_some h
      exact ⟨List.mem_cons_of_mem _ this.1, this.2⟩
theorem getS_of : ∀ {l : List β} {x : β}, KeyD f l → x ∈ l → getS f l (f x) = some x
  | [], _, _, h => by simp at h
  | y :: r, x, hk, h => by
    obtain ⟨h1, h2⟩ := List.pairwise_cons.1 hk
    unfold getS
    rcases List.mem_cons.1 h with rfl | h
    · rw [if_pos rfl]
    · rw [if_neg (h1 x h), getS_of h2 h]
theorem KeyD.nodup {l : List β} (h : KeyD f l) : l.Nodup := List.Pairwise.imp (fun hne e => hne (by rw [e])) h
theorem perm_of {l l' : List β} (h : KeyD f l) (h' : KeyD f l') (hm : ∀ x, x ∈ l ↔ x ∈ l') : l.Perm l' := (List.perm_ext_iff_of_nodup h.nodup h'.nodup).2 hm
theorem KeyD.perm {l l' : List β} (h : KeyD f l) (hp : l.Perm l') : KeyD f l' := (hp.pairwise_iff (fun {_ _} hne => Ne.symm hne)).1 h
theorem srt_eq : ∀ {l l' : List β}, Srt f l → Srt f l' → l.Perm l' → l = l'
  | [], l', _, _, hp => (List.nil_perm.1 hp).symm
  | x :: r, [], _, _, hp => by simp at hp
  | x :: r, y :: r', h, h', hp => by
    obtain ⟨h1, h2⟩ := List.pairwise_cons.1 h
    obtain ⟨h1', h2'⟩ := List.pairwise_cons.1 h'
    have e : x = y := by
      have hx : x ∈ y :: r' := hp.mem_iff.1 List.mem_cons_self
      have hy : y ∈ x :: r := hp.mem_iff.2 List.mem_cons_self
      rcases List.mem_cons.1 hx with e | hx
      · exact e
      · rcases List.mem_cons.1 hy with e | hy
        · exact e.symm
        · have a := h1 y hy
          have b := h1' x hx
          rw [ltS_asymm a] at b
          cases b
    subst e
    rw [srt_eq h2 h2' ((List.perm_cons x).1 hp)]
end
section
variable {α β : Type} [DecidableEq α]
theorem mem_putL : ∀ {L : List (α × β)} {a : α} {v : β} {p : α × β}, Apart L → (p ∈ putL L a v ↔ p = (a, v) ∨ (p ∈ L ∧ p.1 ≠ a))
  | [], a, v, p, _ => by simp [putL]
  | q :: l, a, v, p, h => by
    obtain ⟨h1, h2⟩ := List.pairwise_cons.1 h
    unfold putL
    by_cases he : q.1 = a
    · rw [if_pos he]
      constructor
      · intro hp
        rcases List.mem_cons.1 hp with hp | hp
        · exact .inl hp
        · exact .inr ⟨List.mem_cons_of_mem _ hp, fun e => h1 p hp (he.trans e.symm)⟩
      · rintro (rfl | ⟨hp, hn⟩)
        · exact List.mem_cons_self
        · rcases List.mem_cons.1 hp with rfl | hp
          · exact absurd he hn
          · exact List.mem_cons_of_mem _ hp
    · rw [if_neg he, List.mem_cons, mem_putL h2, List.mem_cons]
      constructor
      · rintro (rfl | rfl | ⟨hp, hn⟩)
        · exact .inr ⟨.inl rfl, he⟩
        · exact .inl rfl
        · exact .inr ⟨.inr hp, hn⟩
      · rintro (rfl | ⟨rfl | hp, hn⟩)
        · exact .inr (.inl rfl)
        · exact .inl rfl
        · exact .inr (.inr ⟨hp, hn⟩)
theorem mem_delL {L : List (α × β)} {a : α} {p : α × β} : p ∈ delL L a ↔ p ∈ L ∧ p.1 ≠ a := by
  unfold delL
  rw [List.mem_filter]
  simp
theorem Apart.put : ∀ {L : List (α × β)} {a : α} {v : β}, Apart L → Apart (putL L a v)
  | [], a, v, _ => by simp [putL, Apart]
  | q :: l, a, v, h => by
    obtain ⟨h1, h2⟩ := List.pairwise_cons.1 h
    unfold putL
    by_cases he : q.1 = a
    · rw [if_pos he]
      exact List.pairwise_cons.2 ⟨fun p hp e => h1 p hp (he.trans e), h2⟩
    · rw [if_neg he]
      refine List.pairwise_cons.2 ⟨fun p hp => ?_, Apart.put h2⟩
      rcases (mem_putL h2).1 hp with rfl | ⟨hp, _⟩
      · exact he
      · exact h1 p hp
theorem Apart.del {L : List (α × β)} (h : Apart L) (a : α) : Apart (delL L a) := List.Pairwise.filter _ h
end
structure AsS {β : Type} (f : β → ByteArray) (L : List (ByteArray × β)) (st : List β) : Prop where
  own : ∀ p ∈ L, p.1 = f p.2
  perm : (L.map (·.2)).Perm st
  srt : Srt f st
  apart : Apart L
section
variable {β : Type} {f : β → ByteArray} {L : List (ByteArray × β)} {st : List β}
theorem AsS.nil : AsS f [] ([] : List β) := ⟨fun p hp => by simp at hp, List.Perm.refl _, by simp [Srt], by simp [Apart]⟩
theorem AsS.mem (h : AsS f L st) {x : β} : x ∈ st ↔ (f x, x) ∈ L := by
  rw [← h.perm.mem_iff, List.mem_map]
  constructor
  · rintro ⟨p, hp, rfl⟩
    rw [← h.own p hp]
    exact hp
  · intro hx
    exact ⟨_, hx, rfl⟩
theorem AsS.len (h : AsS f L st) : L.length = st.length := by
  have := h.perm.length_eq
  simpa using this
theorem AsS.get (h : AsS f L st) (t : ByteArray) : getL L t = getS f st t := by
  cases hg : getL L t with
  | none =>
    cases hs : getS f st t with
    | none => rfl
    | some x =>
      obtain ⟨h1, h2⟩ := getS_some hs
      exact absurd h2 (getL_no hg _ (h.mem.1 h1))
  | some x =>
    have hm := getL_mem hg
    have he : t = f x := h.own _ hm
    subst he
    exact (getS_of h.srt.keys (h.mem.2 hm)).symm
theorem AsS.put (h : AsS f L st) (m : β) : AsS f (putL L (f m) m) (putS f st m) := by
  have ho : ∀ p ∈ putL L (f m) m, p.1 = f p.2 := by
    intro p hp
    rcases (mem_putL h.apart).1 hp with rfl | ⟨hp, _⟩
    · rfl
    · exact h.own p hp
  have hS := h.srt.put (m := m)
  have hA := h.apart.put (a := f m) (v := m)
  have hk : KeyD f ((putL L (f m) m).map (·.2)) := by
    unfold KeyD
    rw [List.pairwise_map]
    exact List.Pairwise.imp_of_mem (R := fun p q : ByteArray × β => p.1 ≠ q.1) (S := fun p q => f p.2 ≠ f q.2) (fun {a b} ha hb hne e => hne (by rw [ho a ha, ho b hb, e])) hA
  refine ⟨ho, perm_of hk hS.keys (fun x => ?_), hS, hA⟩
  rw [mem_putS h.srt, List.mem_map]
  constructor
  · rintro ⟨p, hp, rfl⟩
    rcases (mem_putL h.apart).1 hp with rfl | ⟨hp, hn⟩
    · exact .inl rfl
    · refine .inr ⟨h.perm.mem_iff.1 (List.mem_map.2 ⟨p, hp, rfl⟩), ?_⟩
      rw [← h.own p hp]
      exact hn
  · rintro (rfl | ⟨hx, hn⟩)
    · exact ⟨_, (mem_putL h.apart).2 (.inl rfl), rfl⟩
    · exact ⟨_, (mem_putL h.apart).2 (.inr ⟨h.mem.1 hx, hn⟩), rfl⟩
theorem AsS.del (h : AsS f L st) (t : ByteArray) : AsS f (delL L t) (delS f st t) := by
  have ho : ∀ p ∈ delL L t, p.1 = f p.2 := fun p hp => h.own p (mem_delL.1 hp).1
  have hA := h.apart.del t
  have hS := h.srt.del t
  have hk : KeyD f ((delL L t).map (·.2)) := by
    unfold KeyD
    rw [List.pairwise_map]
    exact List.Pairwise.imp_of_mem (R := fun p q : ByteArray × β => p.1 ≠ q.1) (S := fun p q => f p.2 ≠ f q.2) (fun {a b} ha hb hne e => hne (by rw [ho a ha, ho b hb, e])) hA
  refine ⟨ho, perm_of hk hS.keys (fun x => ?_), hS, hA⟩
  rw [mem_delS, List.mem_map]
  constructor
  · rintro ⟨p, hp, rfl⟩
    obtain ⟨hp, hn⟩ := mem_delL.1 hp
    refine ⟨h.perm.mem_iff.1 (List.mem_map.2 ⟨p, hp, rfl⟩), ?_⟩
    rw [← h.own p hp]
    exact hn
  · rintro ⟨hx, hn⟩
    exact ⟨_, mem_delL.2 ⟨h.mem.1 hx, hn⟩, rfl⟩
end
end Go.Proofs.YtdchcdagjnaicaaDoor.Mp
