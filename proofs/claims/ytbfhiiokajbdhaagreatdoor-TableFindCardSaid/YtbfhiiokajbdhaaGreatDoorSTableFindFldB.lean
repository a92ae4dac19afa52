/- What the proof of TableFind leans on: FldB. -/
import Derived.Test.YtbfhiiokajbdhaaGreatDoorSTableFindFld
import Derived.Laws.EntriesVeiled
set_option linter.unusedVariables false
set_option linter.unusedSimpArgs false
namespace Go.Proofs.YtbfhiiokajbdhaaGreatDoor.Fl
open Go.RowKit Go.Proofs.YtbfhiiokajbdhaaGreatDoor.Q Go.Proofs.YtbfhiiokajbdhaaGreatDoor.Val Go.Proofs.YtbfhiiokajbdhaaGreatDoorW.PrintWords
abbrev fnV (k : Nat) : Value := .func (.func k) #[] #[]
abbrev fnC (k b : Nat) : Value := .func (.func k) #[] #[.pointer (some ⟨b, 0, none⟩)]
abbrev rdC (b : Nat) : Value := fnC 53 b
abbrev prC (b : Nat) : Value := fnC 56 b
set_option maxHeartbeats 4000000 in
set_option maxRecDepth 1000000 in
theorem number_calls (k : Nat) (W : World) : Calls Tryz.prog 36 #[fnV k] W fun e W' => e = .returned (.agg #[rdC W.heap.size, prC W.heap.size]) ∧ Below W.heap.size W W' ∧ W'.heap[W.heap.size]? = some (.cells #[fnV k] 73 (0, 0)) := by
  go_enter Tryz.func36, Tryz.ntmps36
  go_wp2
  exact bodyPost_ret (v := .agg #[rdC W.heap.size, prC W.heap.size]) (by simp [results, Tryz.results36, go_sem]) rfl ⟨rfl, ((Below.refl W.heap.size W).alloc (Nat.le_refl _) _).alloc (by simp) _, blk_alloc (blk_new W _) _⟩
structure FAt (W : World) (B g : Nat) (b : Nat → Nat) : Prop where
  blk : W.heap[g]? = some (.cells #[fnV 34, fnV 35, rdC (b 1), prC (b 1), rdC (b 2), prC (b 2), rdC (b 3), prC (b 3), rdC (b 4), prC (b 4), rdC (b 5), prC (b 5), rdC (b 6), prC (b 6), fnV 43, fnV 44] 53 (0, 0))
  lo : B ≤ g
  b1 : W.heap[b 1]? = some (.cells #[fnV 37] 73 (0, 0))
  b2 : W.heap[b 2]? = some (.cells #[fnV 38] 73 (0, 0))
  b3 : W.heap[b 3]? = some (.cells #[fnV 39] 73 (0, 0))
  b4 : W.heap[b 4]? = some (.cells #[fnV 40] 73 (0, 0))
  b5 : W.heap[b 5]? = some (.cells #[fnV 41] 73 (0, 0))
  b6 : W.heap[b 6]? = some (.cells #[fnV 42] 73 (0, 0))
theorem FAt.step {W W' : World} {B g : Nat} {b : Nat → Nat} (h : FAt W B g b) (hs : ∀ (k t : Nat) (cs : Array Value), (t = 53 ∨ t = 73) → W.heap[k]? = some (.cells cs t (0, 0)) → W'.heap[k]? = W.heap[k]?) : FAt W' B g b :=
  ⟨(hs _ _ _ (.inl rfl) h.blk).trans h.blk, h.lo, (hs _ _ _ (.inr rfl) h.b1).trans h.b1, (hs _ _ _ (.inr rfl) h.b2).trans h.b2, (hs _ _ _ (.inr rfl) h.b3).trans h.b3, (hs _ _ _ (.inr rfl) h.b4).trans h.b4, (hs _ _ _ (.inr rfl) h.b5).trans h.b5, (hs _ _ _ (.inr rfl) h.b6).trans h.b6⟩
theorem FAt.below {W W' : World} {B g : Nat} {b : Nat → Nat} (h : FAt W B g b) (hb : Below W.heap.size W W') : FAt W' B g b := h.step (fun k t cs _ hk => hb.block k (blk_lt hk))
theorem FAt.grown {W W' : World} {B g r t : Nat} {b : Nat → Nat} {cs : Array Value} (h : FAt W B g b) (hr : W.heap[r]? = some (.cells cs t (0, 0))) (ht : t ≠ 53 ∧ t ≠ 73) (hg : W.grownBy W' (some r)) : FAt W' B g b :=
  h.step (fun k t' cs' hk' hk => hg.block k (blk_lt hk) (fun e => by
    injection e with e
    subst e
    rw [hr] at hk
    injection hk with hk
    injection hk with _ hk
    subst hk
    rcases hk' with h' | h'
    · exact ht.1 h'
    · exact ht.2 h'))
set_option maxHeartbeats 8000000 in
set_option maxRecDepth 1000000 in
theorem fields_calls (W : World) : Calls Tryz.prog 20 #[] W fun e W' => ∃ g b, e = .returned (.slice (some ⟨g, 0, none⟩) 8 8) ∧ FAt W' W.heap.size g b ∧ Below W.heap.size W W' := by
  have cN := number_calls
  go_enter Tryz.func20, Tryz.ntmps20
  go_wp2_with (first
    | (go_at_call 36; refine (cN 42 w5).mono ?_; rintro e w6 ⟨rfl, hb6, h6⟩)
    | (go_at_call 36; refine (cN 41 w4).mono ?_; rintro e w5 ⟨rfl, hb5, h5⟩)
    | (go_at_call 36; refine (cN 40 w3).mono ?_; rintro e w4 ⟨rfl, hb4, h4⟩)
    | (go_at_call 36; refine (cN 39 w2).mono ?_; rintro e w3 ⟨rfl, hb3, h3⟩)
    | (go_at_call 36; refine (cN 38 w1).mono ?_; rintro e w2 ⟨rfl, hb2, h2⟩)
    | (go_at_call 36; refine (cN 37 W).mono ?_; rintro e w1 ⟨rfl, hb1, h1⟩))
  go_ret
  have B2 := hb1.trans (hb2.mono hb1.size)
  have B3 := B2.trans (hb3.mono B2.size)
  have B4 := B3.trans (hb4.mono B3.size)
  have B5 := B4.trans (hb5.mono B4.size)
  have B6 := B5.trans (hb6.mono B5.size)
  have al := fun o => (Below.refl w6.heap.size w6).alloc (Nat.le_refl _) o
  refine ⟨w6.heap.size, fun k => if k = 1 then W.heap.size else if k = 2 then w1.heap.size else if k = 3 then w2.heap.size else if k = 4 then w3.heap.size else if k = 5 then w4.heap.size else w5.heap.size, rfl, ⟨blk_new w6 _, B6.size, ?_, ?_, ?_, ?_, ?_, ?_⟩, B6.alloc B6.size _⟩
  · exact blk_below (blk_below (blk_below (blk_below (blk_below (blk_below h1 hb2) hb3) hb4) hb5) hb6) (al _)
  · exact blk_below (blk_below (blk_below (blk_below (blk_below h2 hb3) hb4) hb5) hb6) (al _)
  · exact blk_below (blk_below (blk_below (blk_below h3 hb4) hb5) hb6) (al _)
  · exact blk_below (blk_below (blk_below h4 hb5) hb6) (al _)
  · exact blk_below (blk_below h5 hb6) (al _)
  · exact blk_below h6 (al _)
end Go.Proofs.YtbfhiiokajbdhaaGreatDoor.Fl
