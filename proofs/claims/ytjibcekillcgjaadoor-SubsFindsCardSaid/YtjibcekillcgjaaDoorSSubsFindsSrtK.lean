/- What the proof of SubsFinds leans on: SrtK. -/
import Derived.Shelf.SlSortCmp.WholeK
import Derived.Shelf.SlSortCmp.NoneTotal
import Derived.Test.YtjibcekillcgjaaDoorSSubsFindsWWords
import Derived.Test.YtjibcekillcgjaaDoorSSubsFindsWMore
set_option linter.unusedVariables false
set_option linter.unusedSimpArgs false
namespace Go.Proofs.YtjibcekillcgjaaDoor.Srt
open Go Go.RowKit Go.Proofs Go.Proofs.YtjibcekillcgjaaDoorW.PrintWords
open Go.Sort (grow SWO PermIn SortedIn putCells mapBlock putRow Holds flatK HoldsK putRowK size_flatK get_flatK)
section
variable {α : Type} [Inhabited α] (enc : α → List Value) (k : Nat) (hk : ∀ x, (enc x).length = k)
include hk
theorem flat_at (ys : List α) (j t : Nat) (hj : j < ys.length) (ht : t < k) : (flatK enc k ys.toArray).toList[j * k + t]? = (enc ys[j])[t]? := by
  have h0 : 0 < k := by omega
  have hlt : j * k + t < ys.toArray.size * k := by
    have : (j + 1) * k ≤ ys.length * k := Nat.mul_le_mul_right k hj
    rw [Nat.succ_mul] at this
    simp only [List.size_toArray]
    omega
  have hs : j * k + t < (flatK enc k ys.toArray).size := by rw [size_flatK]; exact hlt
  have hg := get_flatK enc k ys.toArray (j * k + t) hlt
  have e1 : (j * k + t) / k = j := by rw [Nat.mul_comm, Nat.mul_add_div h0, Nat.div_eq_of_lt ht]; rfl
  have e2 : (j * k + t) % k = t := by rw [Nat.mul_comm, Nat.mul_add_mod, Nat.mod_eq_of_lt ht]
  rw [e1, e2] at hg
  rw [Array.getElem?_toList, Array.getElem?_eq_getElem hs]
  rw [getElem!_pos (flatK enc k ys.toArray) (j * k + t) hs] at hg
  rw [hg]
  have hj' : j < ys.toArray.size := by simpa using hj
  rw [getElem!_pos ys.toArray j hj']
  have e3 : ys.toArray[j] = ys[j] := by simp
  rw [e3, getElem!_pos (enc ys[j]) t (by rw [hk]; exact ht), List.getElem?_eq_getElem (by rw [hk]; exact ht)]
theorem flat_reps {R : α → List Value → Prop} (hR : ∀ x, R x (enc x)) (ys : List α) : Reps R k ys (flatK enc k ys.toArray).toList := by
  refine ⟨by rw [Array.length_toList, size_flatK]; simp, fun j p hp => ?_⟩
  obtain ⟨hj, rfl⟩ := List.getElem?_eq_some_iff.1 hp
  have e : ((flatK enc k ys.toArray).toList.drop (j * k)).take k = enc ys[j] := by
    apply List.ext_getElem?
    intro t
    rcases Nat.lt_or_ge t k with ht | ht
    · rw [List.getElem?_take, if_pos ht, List.getElem?_drop, flat_at enc k hk ys j t hj ht]
    · rw [List.getElem?_take, if_neg (by omega), List.getElem?_eq_none (by rw [hk]; exact ht)]
  rw [e]
  exact hR _
theorem flat_of {R : α → List Value → Prop} (hR : ∀ x cs, R x cs → cs = enc x) {xs : List α} {inner : List Value} (h : Reps R k xs inner) : inner = (flatK enc k xs.toArray).toList := by
  have hl : (flatK enc k xs.toArray).toList.length = xs.length * k := by rw [Array.length_toList, size_flatK]; simp
  apply List.ext_getElem?
  intro q
  rcases Nat.lt_or_ge q (xs.length * k) with hq | hq
  · have h0 : 0 < k := by
      rcases Nat.eq_zero_or_pos k with h | h
      · rw [h] at hq; simp at hq
      · exact h
    have hj : q / k < xs.length := (Nat.div_lt_iff_lt_mul h0).2 hq
    have ht : q % k < k := Nat.mod_lt _ h0
    have e : q / k * k + q % k = q := by rw [Nat.mul_comm]; exact Nat.div_add_mod q k
    have h1 := flat_at enc k hk xs (q / k) (q % k) hj ht
    rw [e] at h1
    have h2 := hR _ _ (h.2 (q / k) _ (List.getElem?_eq_getElem hj))
    rw [h1, ← h2, List.getElem?_take, if_pos ht, List.getElem?_drop, e]
  · rw [List.getElem?_eq_none (by rw [h.1]; exact hq), List.getElem?_eq_none (by rw [hl]; exact hq)]
end
theorem putRow_at (W : World) (g : Nat) {cur : Array Value} {e : TypeId} (hg : W.heap[g]? = some (.cells cur e (0, 0))) (F : Array Value) : (putRow id W g 0 F).heap[g]? = some (.cells (putCells id 0 F cur) e (0, 0)) := by
  unfold putRow mapBlock
  simp [Array.getElem?_modify, hg, Go.Sort.onCells]
theorem putRow_off (W : World) (g k : Nat) (hk : k ≠ g) (F : Array Value) : (putRow id W g 0 F).heap[k]? = W.heap[k]? := by
  unfold putRow mapBlock
  simp [Array.getElem?_modify, Ne.symm hk]
theorem sort_frm {α : Type} [Inhabited α] (enc : α → List Value) (k : Nat) (W : World) (blk m : Nat) (dk : Array α) (os : Array Obj) : W.heap.size ≤ (sortWorldK enc k W blk 0 m dk os).heap.size ∧ ∀ i, i < W.heap.size → i ≠ blk → (sortWorldK enc k W blk 0 m dk os).heap[i]? = W.heap[i]? := by
  have hszp : (putRow id (Go.Sort.ahead W m) blk 0 (flatK enc k dk)).heap.size = W.heap.size := by simp [putRow, mapBlock, Go.Sort.ahead]
  refine ⟨?_, fun i hi hne => ?_⟩
  · show W.heap.size ≤ (grow (putRow id (Go.Sort.ahead W m) blk 0 (flatK enc k dk)) os).heap.size
    rw [Go.Sort.size_grow, hszp]
    omega
  · show (grow (putRow id (Go.Sort.ahead W m) blk 0 (flatK enc k dk)) os).heap[i]? = _
    rw [Go.Sort.heap_grow_old _ _ (by rw [hszp]; exact hi), putRow_off _ _ _ hne]
    rfl
theorem put_take (F cur : Array Value) (h : F.size ≤ cur.size) : (putCells id 0 F cur).toList.take F.size = F.toList := by
  unfold putCells
  apply List.ext_getElem?
  intro t
  rw [List.getElem?_take]
  rcases Nat.lt_or_ge t F.size with ht | ht
  · rw [if_pos ht]
    have hc : t < cur.size := by omega
    simp [ht, hc]
  · rw [if_neg (by omega), List.getElem?_eq_none (by simpa using ht)]
theorem sort_calls {P : Program} {ρ : Go.Shelf.Ren} {α : Type} [Inhabited α] (L : SlLaysF0.n6 P ρ) (d : Kd α) (enc : α → List Value) (hk : ∀ x, (enc x).length = d.sz) (hopen : ∀ {w : World} {base : Nat} {ok : Nat → Prop} {x : α} {cs : List Value}, d.M w base ok x cs → cs = enc x) (hmk : ∀ (w : World) (base : Nat) (ok : Nat → Prop) (x : α), d.M w base ok x (enc x))
    (aE : ∀ w, (isAgg (ρ.t 24)).run P w = .ok true w) (zE : ∀ w, (Go.sizeOf (ρ.t 24)).run P w = .ok d.sz w) (h1 : ∀ x, ∀ v ∈ enc x, v.oneCell' = true) (cf : α → α → Int) (hO : SWO (ltOf cf)) (g : Nat) (cb : Array Value)
    (eg : ∀ args w, (callFunc g args).run P w = .ok (.enter g args) w) {e base : Nat} {ok : Nat → Prop} {W : World} {v : Value} {xs : List α} (h : d.R e W base ok v xs) (hlen : xs.length < 4611686018427387904)
    (hcmp : ∀ blk size, v.ownBlock = some blk → CmpLays P g cb enc d.sz cf blk 0 size W) :
    Calls P (ρ.f 6) #[v, .func (.func g) #[] cb] W fun e' W' => e' = .returned (.tuple #[]) ∧ ∃ ys, xs.Perm ys ∧ ys.Pairwise (fun x y => ltOf cf y x = false) ∧ d.R e W' base ok v ys ∧ W.grownBy W' v.ownBlock := by
  cases hx : xs with
  | nil =>
    subst hx
    obtain ⟨A, c, rfl⟩ := Kd.R_slice h
    refine (AnyF.slices_SortFunc_none L A c _ W).mono ?_
    rintro e' W' ⟨rfl, rfl⟩
    exact ⟨rfl, [], List.Perm.refl _, List.Pairwise.nil, h, ⟨rfl, rfl, rfl, Nat.le_refl _, fun _ _ _ => rfl⟩⟩
  | cons x0 r0 =>
    rw [← hx]
    have hpos : 0 < xs.length := by rw [hx]; simp
    obtain ⟨h0, inner, ⟨hil, hown⟩, hreps⟩ := h
    rcases hown with ⟨rfl, hz⟩ | ⟨gb, cap, cur, rfl, hbase, hheap, hcap, hmax, hsize, htake⟩
    · omega
    have hin : inner = (flatK enc d.sz xs.toArray).toList := flat_of enc d.sz hk (R := d.M W base _) (fun x cs hp => hopen hp) hreps
    have hlt : gb < W.heap.size := (Array.getElem?_eq_some_iff.1 hheap).1
    have hH : HoldsK enc d.sz W gb 0 xs.toArray := by
      intro j hj
      rw [Nat.zero_add]
      refine ⟨?_, blk_frozen hheap j⟩
      rw [blk_cell hheap j]
      rw [size_flatK] at hj
      have hj' : j < xs.length * d.sz := by simpa using hj
      have e1 : cur[j]? = inner[j]? := by
        rw [← htake, List.getElem?_take, if_pos hj', Array.getElem?_toList]
      rw [e1, hin, Array.getElem?_toList, Array.getElem?_eq_getElem (by rw [size_flatK]; exact hj), getElem!_pos _ _ (by rw [size_flatK]; exact hj)]
      rfl
    have hsz : xs.toArray.size = xs.length := by simp
    have hcon := AnyQ.slices_SortFunc L d.sz aE zE enc hk h1 cf hO g cb gb 0 cap xs.toArray W eg (hcmp gb _ rfl) hH hlt (by rw [hsz]; exact hlen)
    rw [hsz] at hcon
    refine hcon.mono ?_
    rintro e' W' ⟨rfl, d', n, os, hperm, hsorted, rfl⟩
    have hd' : d'.size = xs.length := by rw [hperm.1, hsz]
    have hds : d'.toList.toArray = d' := by simp
    have hp : xs.Perm d'.toList := by
      have := hperm.2.2
      have e1 : d'.extract 0 xs.length = d' := by rw [← hd']; simp
      have e2 : xs.toArray.extract 0 xs.length = xs.toArray := by rw [← hsz]; simp
      rw [e1, e2] at this
      exact this.symm
    have hl' : d'.toList.length = xs.length := Array.length_toList.trans hd'
    have hFs : (flatK enc d.sz d').size = xs.length * d.sz := by rw [size_flatK, hd']
    have hcs : (flatK enc d.sz d').size ≤ cur.size := by rw [hFs, hsize]; exact Nat.mul_le_mul_right _ hcap
    have hA : (Go.Sort.ahead W n).heap[gb]? = some (.cells cur e (0, 0)) := hheap
    have hB := putRow_at (Go.Sort.ahead W n) gb hA (flatK enc d.sz d')
    have hszp : (putRow id (Go.Sort.ahead W n) gb 0 (flatK enc d.sz d')).heap.size = W.heap.size := by simp [putRow, mapBlock, Go.Sort.ahead]
    have hC : (sortWorldK enc d.sz W gb 0 n d' os).heap[gb]? = some (.cells (putCells id 0 (flatK enc d.sz d') cur) e (0, 0)) := by
      show (grow (putRow id (Go.Sort.ahead W n) gb 0 (flatK enc d.sz d')) os).heap[gb]? = _
      rw [Go.Sort.heap_grow_old _ _ (by rw [hszp]; exact hlt)]
      exact hB
    refine ⟨rfl, d'.toList, hp, ?_, ⟨h0, (flatK enc d.sz d').toList, ⟨?_, .inr ⟨gb, cap, _, ?_, hbase, hC, ?_, hmax, ?_, ?_⟩⟩, ?_⟩, ⟨rfl, rfl, rfl, ?_, ?_⟩⟩
    · rw [List.pairwise_iff_getElem]
      intro i j hi hj hij
      have := hsorted i j (Nat.zero_le _) hij (by rw [← hd']; simpa using hj)
      have hi' : i < d'.size := by simpa using hi
      have hj' : j < d'.size := by simpa using hj
      rw [getElem!_pos d' i hi', getElem!_pos d' j hj'] at this
      simpa using this
    · rw [hl']; exact Array.length_toList.trans hFs
    · rw [hl']
    · rw [hl']; exact hcap
    · rw [← hsize]; simp [putCells]
    · rw [hl', ← hFs]
      exact put_take _ _ hcs
    · have := flat_reps enc d.sz hk (R := d.M (sortWorldK enc d.sz W gb 0 n d' os) base (fun k => ok k ∧ some k ≠ (Value.slice (some ⟨gb, 0, none⟩) xs.length cap).ownBlock)) (fun x => hmk _ _ _ x) d'.toList
      rw [hds] at this
      exact this
    · show W.heap.size ≤ (grow (putRow id (Go.Sort.ahead W n) gb 0 (flatK enc d.sz d')) os).heap.size
      rw [Go.Sort.size_grow, hszp]
      omega
    · intro i hi hne
      show (grow (putRow id (Go.Sort.ahead W n) gb 0 (flatK enc d.sz d')) os).heap[i]? = _
      rw [Go.Sort.heap_grow_old _ _ (by rw [hszp]; exact hi), putRow_off _ _ _ (fun e => hne (by rw [e]; rfl))]
      rfl
end Go.Proofs.YtjibcekillcgjaaDoor.Srt
