/- What the proof of SubsFinds leans on: Mp. -/
import Derived.Maps.OwnSet
import Derived.Maps.OwnOps
import Derived.Maps.RangeWalk
import Derived.Below
set_option linter.unusedVariables false
set_option linter.unusedSimpArgs false
namespace Go.Proofs.YtjibcekillcgjaaDoor.Mp
open Go Go.RowKit Go.ChangeMaps Go.MapKept
open Go.Maps (Keyed)
section
variable {α β : Type} [DecidableEq α]
def getL : List (α × β) → α → Option β
  | [], _ => none
  | p :: l, a => if p.1 = a then some p.2 else getL l a
def lookV {β : Type} (mv : β → Value) (z : Value) : Option β → Value
  | some v => mv v
  | none => z
def putL : List (α × β) → α → β → List (α × β)
  | [], a, v => [(a, v)]
  | p :: l, a, v => if p.1 = a then (a, v) :: l else p :: putL l a v
def delL (l : List (α × β)) (a : α) : List (α × β) := l.filter fun p => !decide (p.1 = a)
def Apart (l : List (α × β)) : Prop := l.Pairwise fun p q => p.1 ≠ q.1
theorem getL_none : ∀ {l : List (α × β)} {a : α}, (∀ p ∈ l, p.1 ≠ a) → getL l a = none
  | [], _, _ => rfl
  | p :: l, a, h => by
    unfold getL
    rw [if_neg (h p (by simp))]
    exact getL_none (fun q hq => h q (by simp [hq]))
theorem getL_at : ∀ {l : List (α × β)} {j : Nat} {p : α × β}, Apart l → l[j]? = some p → getL l p.1 = some p.2
  | [], _, _, _, h => by simp at h
  | q :: l, 0, p, _, h => by
    obtain rfl : q = p := by simpa using h
    unfold getL
    rw [if_pos rfl]
  | q :: l, j + 1, p, ha, h => by
    obtain ⟨h1, h2⟩ := List.pairwise_cons.1 ha
    have hj : l[j]? = some p := by simpa using h
    unfold getL
    rw [if_neg (h1 p (List.mem_of_getElem? hj))]
    exact getL_at h2 hj
theorem getL_mem : ∀ {l : List (α × β)} {a : α} {v : β}, getL l a = some v → (a, v) ∈ l
  | [], _, _, h => by cases h
  | p :: l, a, v, h => by
    unfold getL at h
    split at h
    · rename_i e
      cases h
      rw [← e]
      exact List.mem_cons_self
    · exact List.mem_cons_of_mem _ (getL_mem h)
theorem putL_none : ∀ {l : List (α × β)} {a : α} {v : β}, (∀ p ∈ l, p.1 ≠ a) → putL l a v = l ++ [(a, v)]
  | [], _, _, _ => rfl
  | p :: l, a, v, h => by
    unfold putL
    rw [if_neg (h p (by simp)), putL_none (fun q hq => h q (by simp [hq]))]
    rfl
theorem putL_at : ∀ {l : List (α × β)} {j : Nat} {p : α × β} {v : β}, Apart l → l[j]? = some p → putL l p.1 v = l.set j (p.1, v)
  | [], _, _, _, _, h => by simp at h
  | q :: l, 0, p, v, _, h => by
    obtain rfl : q = p := by simpa using h
    unfold putL
    rw [if_pos rfl]
    rfl
  | q :: l, j + 1, p, v, ha, h => by
    obtain ⟨h1, h2⟩ := List.pairwise_cons.1 ha
    have hj : l[j]? = some p := by simpa using h
    unfold putL
    rw [if_neg (h1 p (List.mem_of_getElem? hj)), putL_at h2 hj]
    rfl
theorem delL_none {l : List (α × β)} {a : α} (h : ∀ p ∈ l, p.1 ≠ a) : delL l a = l := by
  unfold delL
  exact List.filter_eq_self.2 (fun p hp => by rw [decide_eq_false (h p hp)]; rfl)
theorem filter_erase {γ δ : Type} [DecidableEq δ] (f : γ → δ) : ∀ {l : List γ} {j : Nat} {p : γ}, l.Pairwise (fun x y => f x ≠ f y) → l[j]? = some p → l.filter (fun x => !decide (f x = f p)) = l.eraseIdx j
  | [], _, _, _, h => by simp at h
  | q :: l, 0, p, ha, h => by
    obtain rfl : q = p := by simpa using h
    obtain ⟨h1, h2⟩ := List.pairwise_cons.1 ha
    rw [List.filter_cons, if_neg (by rw [decide_eq_true rfl]; decide)]
    exact List.filter_eq_self.2 (fun x hx => by rw [decide_eq_false (fun e => h1 x hx e.symm)]; rfl)
  | q :: l, j + 1, p, ha, h => by
    obtain ⟨h1, h2⟩ := List.pairwise_cons.1 ha
    have hj : l[j]? = some p := by simpa using h
    rw [List.filter_cons, if_pos (by rw [decide_eq_false (h1 p (List.mem_of_getElem? hj))]; rfl), filter_erase f h2 hj]
    rfl
theorem delL_at {l : List (α × β)} {j : Nat} {p : α × β} (ha : Apart l) (h : l[j]? = some p) : delL l p.1 = l.eraseIdx j := filter_erase (fun q : α × β => q.1) ha h
theorem getL_put (l : List (α × β)) (a b : α) (v : β) : getL (putL l a v) b = if a = b then some v else getL l b := by
  induction l with
  | nil => rfl
  | cons p l ih =>
    unfold putL
    by_cases h : p.1 = a
    · rw [if_pos h]
      unfold getL
      by_cases hb : a = b
      · rw [if_pos hb, if_pos hb]
      · rw [if_neg hb, if_neg hb, if_neg (by rw [h]; exact hb)]
    · rw [if_neg h]
      unfold getL
      rw [ih]
      by_cases hb : p.1 = b
      · rw [if_pos hb, if_pos hb, if_neg (fun e => h (by rw [hb, e]))]
      · rw [if_neg hb, if_neg hb]
end
structure KT (P : Program) (k : TypeId) {α : Type} (mk : α → Value) (ok : α → Prop) : Prop where
  K : Keyed P k
  inj : ∀ {a b : α}, mk a = mk b → a = b
  key : ∀ {a : α}, ok a → ∃ l, keyOf P k (mk a) = some l
section
variable {α β : Type} (mk : α → Value) (mv : β → Value) (ok : α → Prop)
def MapAt (W : World) (b : Nat) (L : List (α × β)) : Prop :=
  ∃ es clock, W.heap[b]? = some (.map es clock) ∧ Stamped es clock ∧ es.toList.map (fun e => (e.key, e.val)) = L.map (fun p => (mk p.1, mv p.2)) ∧ ∀ p ∈ L, ok p.1
def RangeAt (W : World) (b r : Nat) (L left : List (α × β)) : Prop :=
  ∃ es clock since seen c0, W.heap[b]? = some (.map es clock) ∧ Stamped es clock ∧ es.toList.map (fun e => (e.key, e.val)) = L.map (fun p => (mk p.1, mv p.2)) ∧ (∀ p ∈ L, ok p.1) ∧
    W.heap[r]? = some (.mapIter (some b) since seen c0) ∧ (∀ x ∈ es.toList, x.born < since) ∧ since ≤ c0 ∧ since ≤ clock ∧ (leftOf es seen).toList.map (fun e => (e.key, e.val)) = left.map (fun p => (mk p.1, mv p.2))
end
section
variable {α β : Type} {mk : α → Value} {mv : β → Value} {ok : α → Prop} {W W' : World} {b r : Nat} {L left : List (α × β)}
theorem MapAt.lt (h : MapAt mk mv ok W b L) : b < W.heap.size := by
  obtain ⟨es, clock, hb, _⟩ := h
  exact (Array.getElem?_eq_some_iff.1 hb).1
theorem MapAt.same (h : MapAt mk mv ok W b L) (e : W'.heap[b]? = W.heap[b]?) : MapAt mk mv ok W' b L := by
  obtain ⟨es, clock, hb, h2⟩ := h
  exact ⟨es, clock, e.trans hb, h2⟩
theorem MapAt.below (h : MapAt mk mv ok W b L) (hb : Below W.heap.size W W') : MapAt mk mv ok W' b L := h.same (hb.block b h.lt)
theorem MapAt.grown (h : MapAt mk mv ok W b L) {row : Option Nat} (hg : W.grownBy W' row) (hne : some b ≠ row) : MapAt mk mv ok W' b L := h.same (hg.block b h.lt hne)
theorem MapAt.made (W : World) : MapAt mk mv ok (W.alloc (.map #[] 0)) W.heap.size [] :=
  ⟨#[], 0, (MapKept.heap_alloc W _).1, stamped_empty 0, rfl, fun p hp => by simp at hp⟩
theorem pair_at {es : Array MapEntry} {L : List (α × β)} (h : es.toList.map (fun e => (e.key, e.val)) = L.map (fun p => (mk p.1, mv p.2))) {j : Nat} {e : MapEntry} (he : es.toList[j]? = some e) : ∃ p, L[j]? = some p ∧ e.key = mk p.1 ∧ e.val = mv p.2 := by
  have := congrArg (fun l => l[j]?) h
  simp only [List.getElem?_map, he, Option.map_some] at this
  cases hp : L[j]? with
  | none => rw [hp] at this; cases this
  | some p =>
    rw [hp] at this
    simp only [Option.map_some, Option.some.injEq, Prod.mk.injEq] at this
    exact ⟨p, rfl, this.1, this.2⟩
theorem pair_back {es : Array MapEntry} {L : List (α × β)} (h : es.toList.map (fun e => (e.key, e.val)) = L.map (fun p => (mk p.1, mv p.2))) {p : α × β} (hp : p ∈ L) : ∃ e ∈ es.toList, e.key = mk p.1 ∧ e.val = mv p.2 := by
  have hm : (mk p.1, mv p.2) ∈ es.toList.map (fun e => (e.key, e.val)) := by rw [h]; exact List.mem_map.2 ⟨p, hp, rfl⟩
  obtain ⟨e, he, hq⟩ := List.mem_map.1 hm
  simp only [Prod.mk.injEq] at hq
  exact ⟨e, he, hq.1, hq.2⟩
theorem len_eq {es : Array MapEntry} {L : List (α × β)} (h : es.toList.map (fun e => (e.key, e.val)) = L.map (fun p => (mk p.1, mv p.2))) : es.size = L.length := by
  have := congrArg List.length h
  simpa using this
theorem apart_of {es : Array MapEntry} {clock : Nat} {L : List (α × β)} (h : es.toList.map (fun e => (e.key, e.val)) = L.map (fun p => (mk p.1, mv p.2))) (hs : Stamped es clock) : Apart L := by
  have h3 : (es.toList.map (·.key)).Nodup := hs.2.2
  have e1 : es.toList.map (·.key) = L.map (fun p => mk p.1) := by
    have := congrArg (List.map Prod.fst) h
    simpa [List.map_map, Function.comp_def] using this
  rw [e1, List.Nodup, List.pairwise_map] at h3
  exact h3.imp (fun hne e => hne (by rw [e]))
theorem MapAt.apart (h : MapAt mk mv ok W b L) : Apart L := by
  obtain ⟨es, clock, hb, hs, hm, _⟩ := h
  exact apart_of hm hs
theorem MapAt.oks (h : MapAt mk mv ok W b L) : ∀ p ∈ L, ok p.1 := by
  obtain ⟨es, clock, hb, hs, hm, h⟩ := h
  exact h
variable {P : Program} {k : TypeId} (T : KT P k mk ok)
include T
theorem keys_of {es : Array MapEntry} {L : List (α × β)} (h : es.toList.map (fun e => (e.key, e.val)) = L.map (fun p => (mk p.1, mv p.2))) (hok : ∀ p ∈ L, ok p.1) : ∀ e ∈ es.toList, ∃ l, keyOf P k e.key = some l := by
  intro e he
  obtain ⟨j, hj⟩ := List.getElem?_of_mem he
  obtain ⟨p, hp, h1, h2⟩ := pair_at h hj
  rw [h1]
  exact T.key (hok p (List.mem_of_getElem? hp))
variable [DecidableEq α] {t e : TypeId} (ht : P.underlying t = some (.map k e))
include ht
theorem MapAt.look (h : MapAt mk mv ok W b L) {a : α} (ha : ok a) (c : Bool) {z : Value} (hz : (zeroValue e).run P W = .ok z W) :
    (Instr.lookup t (.map (some b)) (mk a) c).run P W = .ok (if c then .tuple #[lookV mv z (getL L a), .bool (getL L a).isSome] else lookV mv z (getL L a)) W := by
  obtain ⟨es, clock, hb, hs, hm, hok⟩ := h
  obtain ⟨l, hl⟩ := T.key ha
  have hap := apart_of hm hs
  rcases T.K.find W hl es.toList (keys_of T hm hok) with ⟨h1, h2⟩ | ⟨j, e0, h1, h2, h3⟩
  · have hn : getL L a = none := getL_none (fun p hp e1 => by
      obtain ⟨e0, he, hk, _⟩ := pair_back hm hp
      exact h2 e0 he (by rw [hk, e1]))
    rw [hn]
    simp [Instr.lookup, run_underlying ht, MapKept.run_getObj_map hb, T.K.check W _ hl, h1, hz, Result.andThen, lookV]
  · obtain ⟨p, hp, hk, hv⟩ := pair_at hm h2
    obtain rfl : p.1 = a := T.inj (hk.symm.trans h3)
    rw [getL_at hap hp]
    simp [Instr.lookup, run_underlying ht, MapKept.run_getObj_map hb, T.K.check W _ hl, h1, hv, Result.andThen, lookV]
theorem MapAt.put (h : MapAt mk mv ok W b L) {a : α} (ha : ok a) (v : β) : ∃ W', (Instr.mapUpdate t (.map (some b)) (mk a) (mv v)).run P W = .ok () W' ∧ MapAt mk mv ok W' b (putL L a v) ∧ W.grownBy W' (some b) ∧ W'.heap.size = W.heap.size := by
  obtain ⟨es, clock, hb, hs, hm, hok⟩ := h
  obtain ⟨l, hl⟩ := T.key ha
  have hap := apart_of hm hs
  have hg : ∀ o, W.grownBy (setBlock W b o) (some b) := fun o => ⟨rfl, rfl, rfl, by simp [setBlock], fun i _ hi => heap_setBlock_other hb _ (fun e => hi (by rw [e]))⟩
  rcases T.K.find W hl es.toList (keys_of T hm hok) with ⟨h1, h2⟩ | ⟨j, e0, h1, h2, h3⟩
  · have hn : ∀ p ∈ L, p.1 ≠ a := fun p hp e1 => by
      obtain ⟨e0, he, hk, _⟩ := pair_back hm hp
      exact h2 e0 he (by rw [hk, e1])
    refine ⟨setBlock W b (.map (es.push ⟨mk a, mv v, clock⟩) (clock + 1)), ?_, ⟨_, _, heap_setBlock_same hb _, stamped_push hs h2, ?_, ?_⟩, hg _, by simp [setBlock]⟩
    · simp [Instr.mapUpdate, run_underlying ht, MapKept.run_getObj_map hb, T.K.check W false hl, h1, MapKept.run_setObj_map _ hb, Result.andThen, setBlock]
    · rw [putL_none hn, Array.toList_push, List.map_append, List.map_append, hm]
      rfl
    · rw [putL_none hn]
      intro p hp
      rcases List.mem_append.1 hp with hp | hp
      · exact hok p hp
      · rw [List.mem_singleton.1 hp]; exact ha
  · obtain ⟨p, hp, hk, hv⟩ := pair_at hm h2
    obtain rfl : p.1 = a := T.inj (hk.symm.trans h3)
    have hj : es[j]? = some e0 := by simpa using h2
    have hjl : j < es.toList.length := (List.getElem?_eq_some_iff.1 h2).1
    have hlist : (es.modify j (fun e' => { e' with key := mk p.1, val := mv v })).toList = es.toList.set j { e0 with key := mk p.1, val := mv v } := by rw [Array.toList_modify, modify_eq_set _ _ _ _ h2]
    refine ⟨setBlock W b (.map (es.modify j (fun e' => { e' with key := mk p.1, val := mv v })) clock), ?_, ⟨_, _, heap_setBlock_same hb _, stamped_modify hs _ _ (fun _ _ => rfl) (fun e' _ he' => by rw [hj] at he'; cases he'; exact h3.symm), ?_, ?_⟩, hg _, by simp [setBlock]⟩
    · simp [Instr.mapUpdate, run_underlying ht, MapKept.run_getObj_map hb, T.K.check W false hl, h1, hj, h3, T.K.stays W hl, MapKept.run_setObj_map _ hb, Result.andThen, setBlock]
    · rw [hlist, putL_at hap hp, List.map_set, List.map_set, hm]
    · rw [putL_at hap hp]
      intro q hq
      rcases List.mem_or_eq_of_mem_set hq with hq | hq
      · exact hok q hq
      · rw [hq]; exact ha
theorem MapAt.drop (h : MapAt mk mv ok W b L) {a : α} (ha : ok a) (ty : TypeId) : ∃ W', (Builtin.delete_ #[t, k] ty #[.map (some b), mk a]).run P W = .ok (.tuple #[]) W' ∧ MapAt mk mv ok W' b (delL L a) ∧ W.grownBy W' (some b) ∧ W'.heap.size = W.heap.size := by
  obtain ⟨es, clock, hb, hs, hm, hok⟩ := h
  obtain ⟨l, hl⟩ := T.key ha
  have hap := apart_of hm hs
  have hg : ∀ o, W.grownBy (setBlock W b o) (some b) := fun o => ⟨rfl, rfl, rfl, by simp [setBlock], fun i _ hi => heap_setBlock_other hb _ (fun e => hi (by rw [e]))⟩
  have hsub : ∀ p ∈ delL L a, ok p.1 := fun p hp => hok p (List.mem_filter.1 hp).1
  rcases T.K.find W hl es.toList (keys_of T hm hok) with ⟨h1, h2⟩ | ⟨j, e0, h1, h2, h3⟩
  · have hn : ∀ p ∈ L, p.1 ≠ a := fun p hp e1 => by
      obtain ⟨e0, he, hk, _⟩ := pair_back hm hp
      exact h2 e0 he (by rw [hk, e1])
    refine ⟨setBlock W b (.map es clock), ?_, ⟨_, _, heap_setBlock_same hb _, hs, ?_, hsub⟩, hg _, by simp [setBlock]⟩
    · simp [Builtin.delete_, run_underlying ht, MapKept.run_getObj_map hb, T.K.check W _ hl, h1, MapKept.run_setObj_map _ hb, Result.andThen, setBlock]
    · rw [delL_none hn, hm]
  · obtain ⟨p, hp, hk, hv⟩ := pair_at hm h2
    obtain rfl : p.1 = a := T.inj (hk.symm.trans h3)
    have hjl : j < es.toList.length := (List.getElem?_eq_some_iff.1 h2).1
    have hjs : j < es.size := by simpa using hjl
    have hsubl : (es.eraseIdxIfInBounds j).toList = es.toList.eraseIdx j := by
      unfold Array.eraseIdxIfInBounds
      rw [dif_pos hjs]
      simp
    refine ⟨setBlock W b (.map (es.eraseIdxIfInBounds j) clock), ?_, ⟨_, _, heap_setBlock_same hb _, stamped_erase hs j, ?_, hsub⟩, hg _, by simp [setBlock]⟩
    · simp [Builtin.delete_, run_underlying ht, MapKept.run_getObj_map hb, T.K.check W _ hl, h1, MapKept.run_setObj_map _ hb, Result.andThen, setBlock]
    · rw [hsubl, delL_at hap hp, map_eraseIdx, map_eraseIdx, hm]
omit T [DecidableEq α] in
omit T [DecidableEq α] in
theorem MapAt.range (h : MapAt mk mv ok W b L) : ∃ W', (Instr.range t (.map (some b))).run P W = .ok (.pointer (some ⟨W.heap.size, 0, none⟩)) W' ∧ RangeAt mk mv ok W' b W.heap.size L L ∧ W.grownBy W' none ∧ W'.heap.size = W.heap.size + 1 := by
  have hlt := h.lt
  obtain ⟨es, clock, hb, hs, hm, hok⟩ := h
  refine ⟨_, run_range_map W t k e b es clock ht hb, ⟨es, clock, clock, #[], clock, ((MapKept.heap_alloc W _).2 b hlt).trans hb, hs, hm, hok, (MapKept.heap_alloc W _).1, hs.1, Nat.le_refl _, Nat.le_refl _, ?_⟩, World.grownBy_alloc W _ none, by simp⟩
  have e0 : (leftOf es #[]).toList = es.toList := by
    unfold leftOf
    rw [Array.toList_filter]
    exact List.filter_eq_self.2 (fun x _ => by simp)
  rw [e0]
  exact hm
end
section
variable {α β : Type} {mk : α → Value} {mv : β → Value} {ok : α → Prop} {W W' : World} {b r : Nat} {L left : List (α × β)}
theorem RangeAt.map (h : RangeAt mk mv ok W b r L left) : MapAt mk mv ok W b L := by
  obtain ⟨es, clock, since, seen, c0, hb, hs, hm, hok, _⟩ := h
  exact ⟨es, clock, hb, hs, hm, hok⟩
theorem RangeAt.lt (h : RangeAt mk mv ok W b r L left) : r < W.heap.size := by
  obtain ⟨es, clock, since, seen, c0, hb, hs, hm, hok, hr, _⟩ := h
  exact (Array.getElem?_eq_some_iff.1 hr).1
theorem RangeAt.same (h : RangeAt mk mv ok W b r L left) (e : W'.heap[b]? = W.heap[b]?) (e' : W'.heap[r]? = W.heap[r]?) : RangeAt mk mv ok W' b r L left := by
  obtain ⟨es, clock, since, seen, c0, hb, hs, hm, hok, hr, h2⟩ := h
  exact ⟨es, clock, since, seen, c0, e.trans hb, hs, hm, hok, e'.trans hr, h2⟩
theorem RangeAt.below (h : RangeAt mk mv ok W b r L left) (hb : Below W.heap.size W W') : RangeAt mk mv ok W' b r L left := h.same (hb.block b h.map.lt) (hb.block r h.lt)
theorem RangeAt.grown (h : RangeAt mk mv ok W b r L left) {row : Option Nat} (hg : W.grownBy W' row) (h1 : some b ≠ row) (h2 : some r ≠ row) : RangeAt mk mv ok W' b r L left := h.same (hg.block b h.map.lt h1) (hg.block r h.lt h2)
theorem left_push {es : Array MapEntry} {seen : Array Nat} (hnd : (es.toList.map (·.born)).Nodup) {j : Nat} {e : MapEntry} (h : (leftOf es seen).toList[j]? = some e) : (leftOf es (seen.push e.born)).toList = (leftOf es seen).toList.eraseIdx j := by
  have hL : ∀ s : Array Nat, (leftOf es s).toList = es.toList.filter fun x => !s.contains x.born := fun s => by unfold leftOf; rw [Array.toList_filter]
  have hp : (leftOf es seen).toList.Pairwise (fun x y => x.born ≠ y.born) := by
    rw [hL]
    rw [List.Nodup, List.pairwise_map] at hnd
    exact hnd.filter _
  rw [← filter_erase (fun x : MapEntry => x.born) hp h, hL, hL, List.filter_filter]
  refine List.filter_congr (fun x _ => ?_)
  rw [Array.contains_push]
  cases hx : seen.contains x.born
  · by_cases hb : x.born = e.born
    · simp [hb]
    · simp [hb]
  · simp
theorem RangeAt.next {P : Program} (h : RangeAt mk mv ok W b r L left) (ty : TypeId) :
    (left = [] ∧ (Instr.next (.pointer (some ⟨r, 0, none⟩)) false ty).run P W = .ok (.tuple #[.bool false]) W) ∨
    ∃ j p W', left[j]? = some p ∧ (Instr.next (.pointer (some ⟨r, 0, none⟩)) false ty).run P W = .ok (.tuple #[.bool true, mk p.1, mv p.2]) W' ∧ RangeAt mk mv ok W' b r L (left.eraseIdx j) ∧ W.grownBy W' (some r) ∧ W'.heap.size = W.heap.size ∧
      (Instr.entry (.pointer (some ⟨r, 0, none⟩))).run P W' = .ok (.tuple #[mk p.1, mv p.2]) W' := by
  obtain ⟨es, clock, since, seen, c0, hb, hs, hm, hok, hr, hold, hsc, hsk, hleft⟩ := h
  have hne : r ≠ b := fun e => by rw [e, hb] at hr; cases hr
  rcases run_next_at (P := P) W ty r b since c0 seen es clock hr hb hold hsc with ⟨h0, hrun⟩ | ⟨e, he, w1, hal, hrun⟩
  · refine .inl ⟨?_, hrun⟩
    have := len_eq hleft
    rw [h0] at this
    exact List.eq_nil_of_length_eq_zero this.symm
  · obtain ⟨j, hj⟩ := List.getElem?_of_mem he
    obtain ⟨p, hp, hk, hv⟩ := pair_at hleft hj
    have hem : e ∈ es.toList := (mem_left he).1
    have hr1 : w1.heap[r]? = some (.mapIter (some b) since seen c0) := by rcases hal with rfl | rfl <;> exact hr
    have hb1 : w1.heap[b]? = some (.map es clock) := by rcases hal with rfl | rfl <;> exact hb
    have hset := heap_set (o' := .mapIter (some b) since (seen.push e.born) clock) hr1
    have hb' : (setBlock w1 r (.mapIter (some b) since (seen.push e.born) clock)).heap[b]? = some (.map es clock) := (hset.2 b (fun e1 => hne e1.symm)).trans hb1
    rw [hk, hv] at hrun
    refine .inr ⟨j, p, _, hp, hrun, ⟨es, clock, since, seen.push e.born, clock, hb', hs, hm, hok, hset.1, hold, hsk, hsk, ?_⟩, ?_, ?_, ?_⟩
    · rw [left_push hs.2.1 hj, map_eraseIdx, map_eraseIdx, hleft]
    · rcases hal with rfl | rfl <;> exact ⟨rfl, rfl, rfl, by simp [setBlock], fun i _ hi => hset.2 i (fun e1 => hi (by rw [e1]))⟩
    · rcases hal with rfl | rfl <;> simp [setBlock]
    · have := run_entry_at (P := P) _ r b since seen es clock e hset.1 hb' hem hs.2.1
      rw [hk, hv] at this
      exact this
end
section
variable {α β : Type} [DecidableEq α] {mk : α → Value} {mv : β → Value} {ok : α → Prop} {P : Program} (w : World) {ops : Array Oper} {rest : List Oper} {o : Oper} {a : Act} {Q : Exit → Act → World → Prop}
theorem wpList_look (hg : o.guard = none) (m x : Operand) (t : TypeId) (c : Bool) (hop : o.op = Op.lookup t m x c) (k e : TypeId) (T : KT P k mk ok) (ht : P.underlying t = some (.map k e)) (z : Value) (hz : (zeroValue e).run P w = .ok z w) (b : Nat) (L : List (α × β))
    (hm : a.eval m = .map (some b)) (h : MapAt mk mv ok w b L) (y : α) (hx : a.eval x = mk y) (hy : ok y) (V : Value) (hV : (if c then .tuple #[lookV mv z (getL L y), .bool (getL L y).isSome] else lookV mv z (getL L y)) = V)
    (hK : wpList P ops Q rest (a.put o.dst V) w) : wpList P ops Q (o :: rest) a w := by
  refine wpList_plain hg fun K' hK' => ?_
  have hrun := h.look T ht hy c hz
  rw [hV] at hrun
  unfold Oper.wp
  simp [execOp, hop, hm, hx, hrun, Result.andThen]
  exact hK' _ _ hK
theorem wpList_put (hg : o.guard = none) (m x v : Operand) (t : TypeId) (hop : o.op = Op.mapUpdate t m x v) (k e : TypeId) (T : KT P k mk ok) (ht : P.underlying t = some (.map k e)) (b : Nat) (L : List (α × β))
    (hm : a.eval m = .map (some b)) (h : MapAt mk mv ok w b L) (y : α) (u : β) (hx : a.eval x = mk y) (hy : ok y) (hv : a.eval v = mv u)
    (hK : ∀ w', MapAt mk mv ok w' b (putL L y u) → w.grownBy w' (some b) → w'.heap.size = w.heap.size → wpList P ops Q rest (a.put o.dst undef) w') : wpList P ops Q (o :: rest) a w := by
  refine wpList_plain hg fun K' hK' => ?_
  obtain ⟨w', hrun, r1, r2, r3⟩ := h.put T ht hy u
  unfold Oper.wp
  simp [execOp, hop, hm, hx, hv, hrun, Result.andThen]
  exact hK' _ _ (hK w' r1 r2 r3)
theorem wpList_drop (hg : o.guard = none) (m x : Operand) (t k : TypeId) (hop : o.op = Op.call { callee := Callee.builtin Builtin.delete, args := #[m, x], argTypes := #[t, k] }) (e : TypeId) (T : KT P k mk ok) (ht : P.underlying t = some (.map k e)) (b : Nat) (L : List (α × β))
    (hm : a.eval m = .map (some b)) (h : MapAt mk mv ok w b L) (y : α) (hx : a.eval x = mk y) (hy : ok y)
    (hK : ∀ w', MapAt mk mv ok w' b (delL L y) → w.grownBy w' (some b) → w'.heap.size = w.heap.size → wpList P ops Q rest (a.put o.dst (.tuple #[])) w') : wpList P ops Q (o :: rest) a w := by
  refine wpList_plain hg fun K' hK' => ?_
  obtain ⟨w', hrun, r1, r2, r3⟩ := h.drop T ht hy o.type
  unfold Oper.wp
  simp [execOp, hop, resolve, invoke, builtin, hm, hx, hrun, Result.andThen]
  exact hK' _ _ (hK w' r1 r2 r3)
omit [DecidableEq α] in
omit [DecidableEq α] in
theorem wpList_range (hg : o.guard = none) (m : Operand) (t : TypeId) (hop : o.op = Op.range t m) (k e : TypeId) (ht : P.underlying t = some (.map k e)) (b : Nat) (L : List (α × β))
    (hm : a.eval m = .map (some b)) (h : MapAt mk mv ok w b L)
    (hK : ∀ w', RangeAt mk mv ok w' b w.heap.size L L → w.grownBy w' none → w'.heap.size = w.heap.size + 1 → wpList P ops Q rest (a.put o.dst (.pointer (some ⟨w.heap.size, 0, none⟩))) w') : wpList P ops Q (o :: rest) a w := by
  refine wpList_plain hg fun K' hK' => ?_
  obtain ⟨w', hrun, r1, r2, r3⟩ := h.range ht
  unfold Oper.wp
  simp [execOp, hop, hm, hrun, Result.andThen]
  exact hK' _ _ (hK w' r1 r2 r3)
omit [DecidableEq α] in
theorem wpList_mapstep (hg : o.guard = none) (it : Operand) (hop : o.op = Op.next it false) (b r : Nat) (L left : List (α × β)) (hit : a.eval it = .pointer (some ⟨r, 0, none⟩)) (h : RangeAt mk mv ok w b r L left)
    (hDone : left = [] → wpList P ops Q rest (a.put o.dst (.tuple #[.bool false])) w)
    (hMore : ∀ (j : Nat) (x : α) (c : β) (w' : World), left[j]? = some (x, c) → RangeAt mk mv ok w' b r L (left.eraseIdx j) → w.grownBy w' (some r) → w'.heap.size = w.heap.size → (Instr.entry (.pointer (some ⟨r, 0, none⟩))).run P w' = .ok (.tuple #[mk x, mv c]) w' → wpList P ops Q rest (a.put o.dst (.tuple #[.bool true, mk x, mv c])) w') :
    wpList P ops Q (o :: rest) a w := by
  refine wpList_plain hg fun K' hK' => ?_
  unfold Oper.wp
  rcases h.next (P := P) o.type with ⟨h0, hrun⟩ | ⟨j, p, w', hp, hrun, hr, hgr, hsz, hen⟩
  · simp [execOp, hop, hit, hrun, Result.andThen]
    exact hK' _ _ (hDone h0)
  · simp [execOp, hop, hit, hrun, Result.andThen]
    exact hK' _ _ (hMore j p.1 p.2 w' hp hr hgr hsz hen)
end
end Go.Proofs.YtjibcekillcgjaaDoor.Mp
