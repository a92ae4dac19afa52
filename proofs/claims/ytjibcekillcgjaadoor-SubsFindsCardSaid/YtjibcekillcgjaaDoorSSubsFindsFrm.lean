/- What the proof of SubsFinds leans on: Frm. -/
import Derived.Below
import Derived.Laws.AppendOwn
import Derived.Deep.Draws
set_option linter.unusedVariables false
set_option linter.unusedSimpArgs false
namespace Go.Proofs.YtjibcekillcgjaaDoor.Fm
open Go Go.RowKit
structure Frm (S : Nat → Prop) (w W : World) : Prop where
  os : W.os = w.os
  tape : W.tape = w.tape
  output : W.output = w.output
  size : w.heap.size ≤ W.heap.size
  block : ∀ k, k < w.heap.size → ¬ S k → W.heap[k]? = w.heap[k]?
section
variable {S S' : Nat → Prop} {w W W2 : World}
theorem Frm.refl (S : Nat → Prop) (w : World) : Frm S w w := ⟨rfl, rfl, rfl, Nat.le_refl _, fun _ _ _ => rfl⟩
theorem Frm.of_below (h : Below w.heap.size w W) : Frm S w W := ⟨h.os, h.tape, h.output, h.size, fun k hk _ => h.block k hk⟩
theorem Frm.trans (h : Frm S w W) (h' : Frm S W W2) : Frm S w W2 := ⟨h'.os.trans h.os, h'.tape.trans h.tape, h'.output.trans h.output, Nat.le_trans h.size h'.size, fun k hk hn => (h'.block k (Nat.lt_of_lt_of_le hk h.size) hn).trans (h.block k hk hn)⟩
theorem Frm.below (h : Frm S w W) (h' : Below W.heap.size W W2) : Frm S w W2 := h.trans (Frm.of_below h')
theorem Frm.alloc (h : Frm S w W) (o : Obj) : Frm S w (W.alloc o) := h.below ((Below.refl _ _).alloc (Nat.le_refl _) o)
theorem Frm.drew (h : Frm S w W) : Frm S w W.drew := ⟨h.os, h.tape, h.output, h.size, h.block⟩
theorem Frm.drewN (h : Frm S w W) (n : Nat) : Frm S w (W.drewN n) := ⟨h.os, h.tape, h.output, h.size, h.block⟩
theorem Frm.grown {r : Option Nat} (h : Frm S w W) (h' : W.grownBy W2 r) (hr : ∀ k, r = some k → S k ∨ w.heap.size ≤ k) : Frm S w W2 :=
  ⟨h'.os.trans h.os, h'.tape.trans h.tape, h'.output.trans h.output, Nat.le_trans h.size h'.size, fun k hk hn => (h'.block k (Nat.lt_of_lt_of_le hk h.size) (fun e => (hr k e.symm).elim hn (fun h3 => by omega))).trans (h.block k hk hn)⟩
theorem Frm.setCell (h : Frm S w W) {p : Addr} (hp : S p.block ∨ w.heap.size ≤ p.block) (u : Value) : Frm S w (W.setCell p u) := by
  refine ⟨h.os, h.tape, h.output, by rw [World.size_setCell]; exact h.size, fun k hk hn => ?_⟩
  refine (Below.heap_setCell W p u k (fun e => ?_)).trans (h.block k hk hn)
  subst e
  rcases hp with hp | hp
  · exact hn hp
  · omega
theorem Frm.far {B : Nat} {w0 : World} (h : Frm S w W) (hb : Below B w0 w) (hB : B ≤ w.heap.size) (hs : ∀ k, S k → B ≤ k) : Below B w0 W :=
  ⟨h.os.trans hb.os, h.tape.trans hb.tape, h.output.trans hb.output, Nat.le_trans hb.size h.size, fun k hk => (h.block k (by omega) (fun e => by have := hs k e; omega)).trans (hb.block k hk)⟩
theorem Frm.cell (h : Frm S w W) {a : Addr} {v : Value} (hc : w.cell? a = some v) (hn : ¬ S a.block) : W.cell? a = some v := by
  have := h.block a.block (World.block_lt_of_cell? w a hc) hn
  rw [World.cell?_of_block this]
  exact hc
end
end Go.Proofs.YtjibcekillcgjaaDoor.Fm
