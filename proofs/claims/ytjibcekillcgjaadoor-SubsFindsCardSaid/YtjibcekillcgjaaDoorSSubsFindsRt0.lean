/- What the proof of SubsFinds leans on: Rt0. -/
import Derived.Test.YtjibcekillcgjaaDoorSSubsFindsMp
import Derived.Sort.Walk0
set_option linter.unusedVariables false
set_option linter.unusedSimpArgs false
namespace Go.Proofs.YtjibcekillcgjaaDoor.Mp
open Go Go.RowKit
def ltS (a b : ByteArray) : Bool := Op.bytesLess a.toList b.toList
theorem ltS_eq (a b : ByteArray) : ltS a b = decide (a.data.toList < b.data.toList) := by
  unfold ltS
  rw [Go.Proofs.bytesLess_eq, Lib.toList_data, Lib.toList_data]
theorem ltS_irrefl (a : ByteArray) : ltS a a = false := by
  rw [ltS_eq]
  exact decide_eq_false (List.lt_irrefl _)
theorem ltS_trans {a b c : ByteArray} (h : ltS a b = true) (h' : ltS b c = true) : ltS a c = true := by
  rw [ltS_eq] at *
  exact decide_eq_true (List.lt_trans (of_decide_eq_true h) (of_decide_eq_true h'))
theorem ba_inj {a b : ByteArray} (h : a.data.toList = b.data.toList) : a = b := by
  apply ByteArray.ext
  exact Array.toList_inj.1 h
theorem ltS_total {a b : ByteArray} (h : ltS a b = false) (h' : ltS b a = false) : a = b := by
  rw [ltS_eq] at *
  exact ba_inj (List.le_antisymm (List.not_lt.1 (of_decide_eq_false h')) (List.not_lt.1 (of_decide_eq_false h)))
theorem ltS_ne {a b : ByteArray} (h : ltS a b = true) : a ≠ b := fun e => by
  rw [e, ltS_irrefl] at h
  cases h
theorem ltS_asymm {a b : ByteArray} (h : ltS a b = true) : ltS b a = false := by
  cases h2 : ltS b a
  · rfl
  · have := ltS_trans h h2
    rw [ltS_irrefl] at this
    cases this
section
variable {β : Type} (f : β → ByteArray)
def Srt (l : List β) : Prop := l.Pairwise fun x y => ltS (f x) (f y) = true
def KeyD (l : List β) : Prop := l.Pairwise fun x y => f x ≠ f y
variable {f}
theorem Srt.keys {l : List β} (h : Srt f l) : KeyD f l := List.Pairwise.imp (fun h => ltS_ne h) h
theorem KeyD.nodup {l : List β} (h : KeyD f l) : l.Nodup := List.Pairwise.imp (fun hne e => hne (by rw [e])) h
theorem KeyD.perm {l l' : List β} (h : KeyD f l) (hp : l.Perm l') : KeyD f l' := (hp.pairwise_iff (fun {_ _} hne => Ne.symm hne)).1 h
theorem srt_eq : ∀ {l l' : List β}, Srt f l → Srt f l' → l.Perm l' → l = l'
  | [], l', _, _, hp => (List.nil_perm.1 hp).symm
  | x :: r, [], _, _, hp => by simp at hp
  | x :: r, y :: r', h, h', hp => by
    obtain ⟨h1, h2⟩ := List.pairwise_cons.1 h
    obtain ⟨h1', h2'⟩ := List.pairwise_cons.1 h'
    have e : x = y := by
      have hx : x ∈ y :: r' := hp.mem_iff.1 List.mem_cons_self
      have hy : y ∈ x :: r := hp.mem_iff.2 List.mem_cons_self
      rcases List.mem_cons.1 hx with e | hx
      · exact e
      · rcases List.mem_cons.1 hy with e | hy
        · exact e.symm
        · have a := h1 y hy
          have b := h1' x hx
          rw [ltS_asymm a] at b
          cases b
    subst e
    rw [srt_eq h2 h2' ((List.perm_cons x).1 hp)]
end
section
variable {α β : Type} [DecidableEq α]
theorem mem_putL : ∀ {L : List (α × β)} {a : α} {v : β} {p : α × β}, Apart L → (p ∈ putL L a v ↔ p = (a, v) ∨ (p ∈ L ∧ p.1 ≠ a))
  | [], a, v, p, _ => by simp [putL]
  | q :: l, a, v, p, h => by
    obtain ⟨h1, h2⟩ := List.pairwise_cons.1 h
    unfold putL
    by_cases he : q.1 = a
    · rw [if_pos he]
      constructor
      · intro hp
        rcases List.mem_cons.1 hp with hp | hp
        · exact .inl hp
        · exact .inr ⟨List.mem_cons_of_mem _ hp, fun e => h1 p hp (he.trans e.symm)⟩
      · rintro (rfl | ⟨hp, hn⟩)
        · exact List.mem_cons_self
        · rcases List.mem_cons.1 hp with rfl | hp
          · exact absurd he hn
          · exact List.mem_cons_of_mem _ hp
    · rw [if_neg he, List.mem_cons, mem_putL h2, List.mem_cons]
      constructor
      · rintro (rfl | rfl | ⟨hp, hn⟩)
        · exact .inr ⟨.inl rfl, he⟩
        · exact .inl rfl
        · exact .inr ⟨.inr hp, hn⟩
      · rintro (rfl | ⟨rfl | hp, hn⟩)
        · exact .inr (.inl rfl)
        · exact .inl rfl
        · exact .inr (.inr ⟨hp, hn⟩)
theorem mem_delL {L : List (α × β)} {a : α} {p : α × β} : p ∈ delL L a ↔ p ∈ L ∧ p.1 ≠ a := by
  unfold delL
  rw [List.mem_filter]
  simp
theorem Apart.put : ∀ {L : List (α × β)} {a : α} {v : β}, Apart L → Apart (putL L a v)
  | [], a, v, _ => by simp [putL, Apart]
  | q :: l, a, v, h => by
    obtain ⟨h1, h2⟩ := List.pairwise_cons.1 h
    unfold putL
    by_cases he : q.1 = a
    · rw [if_pos he]
      exact List.pairwise_cons.2 ⟨fun p hp e => h1 p hp (he.trans e), h2⟩
    · rw [if_neg he]
      refine List.pairwise_cons.2 ⟨fun p hp => ?_, Apart.put h2⟩
      rcases (mem_putL h2).1 hp with rfl | ⟨hp, _⟩
      · exact he
      · exact h1 p hp
theorem Apart.del {L : List (α × β)} (h : Apart L) (a : α) : Apart (delL L a) := List.Pairwise.filter _ h
end
section
variable {β : Type} {f : β → ByteArray} {L : List (ByteArray × β)} {st : List β}
end
end Go.Proofs.YtjibcekillcgjaaDoor.Mp
