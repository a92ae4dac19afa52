/- What the proof of SubsNil leans on: WKept. -/
import Derived.Test.YtjibcekillcgjaaDoorSSubsNilWFoot
namespace Go.Proofs.YtjibcekillcgjaaDoorW.PrintWords
open Go.RowKit
def Kept (w W : World) (S : Nat → Prop) : Prop := w.heap.size ≤ W.heap.size ∧ ∀ i, i < w.heap.size → ¬ S i → W.heap[i]? = w.heap[i]?
section
variable {w W W2 : World} {S S2 S' : Nat → Prop}
theorem Kept.refl (w : World) (S : Nat → Prop) : Kept w w S := ⟨Nat.le_refl _, fun _ _ _ => rfl⟩
theorem Kept.then_ (h : Kept w W S) (k : Kept W W2 S2) (hs : ∀ k, S2 k → S k ∨ w.heap.size ≤ k) : Kept w W2 S :=
  ⟨Nat.le_trans h.1 k.1, fun i hi hn => (k.2 i (Nat.lt_of_lt_of_le hi h.1) (fun h2 => (hs i h2).elim hn (fun h3 => by omega))).trans (h.2 i hi hn)⟩
theorem Kept.of_keep {g : Nat} (h : Kept w W S) (k : KeepBut W W2 g none) (hg : S g ∨ w.heap.size ≤ g) : Kept w W2 S :=
  h.then_ (S2 := fun k => k = g) ⟨k.1, fun i hi hn => k.2 i hi hn (by simp)⟩ (fun k hk => by rw [hk]; exact hg)
theorem cell_kept {a : Addr} {v : Value} (hc : W.cell? a = some v) (hk : Kept W W2 S) (hne : ¬ S a.block) : W2.cell? a = some v := by
  have := hk.2 a.block (World.block_lt_of_cell? W a hc) hne
  simpa [World.cell?, this] using hc
end
namespace Kd
section
variable {α : Type} {d : Kd α} {e base n c : Nat} {ok oki S S2 : Nat → Prop} {w w0 W W1 W2 : World} {v : Value} {A : Option Addr} {xs : List α} {i : Int} {cs : List Value}
theorem R_kept (h : d.R e W base ok v xs) (hk : Kept W W2 S) (hne : ∀ k, ok k → ¬ S k) : d.R e W2 base ok v xs := R_step h (fun k ho hlt => hk.2 k hlt (hne k ho))
theorem Q_kept (h : d.Q e W base ok v xs) (hk : Kept W W2 S) (hne : ∀ k, ok k → ¬ S k) : d.Q e W2 base ok v xs := Q_step h (fun k ho hlt => hk.2 k hlt (hne k ho))
theorem S_kept (h : Kd.S d e W base ok v xs) (hk : Kept W W2 S) (hne : ∀ k, ok k → ¬ S k) : Kd.S d e W2 base ok v xs := S_step h (fun k ho hlt => hk.2 k hlt (hne k ho))
theorem H_kept (h : Kd.H d e W base ok v xs i oki cs) (hk : Kept W W2 S) (hne : ∀ k, ok k → ¬ oki k → ¬ S k) : Kd.H d e W2 base ok v xs i oki cs := H_step h (fun k ho hn hlt => hk.2 k hlt (hne k ho hn))
theorem M_kept {x : α} (h : d.M W base ok x cs) (hk : Kept W W2 S) (hne : ∀ k, ok k → ¬ S k) : d.M W2 base ok x cs := M_step h (fun k ho hlt => hk.2 k hlt (hne k ho))
theorem C_kept_own (h : d.R e W base ok (.slice A n c) xs) (hok : ∀ k, ok k → ¬ S k) : ∀ W', Kept W W' S → d.C W' A n xs := fun W' hk => by
  have h2 := R_reads' (R_kept h hk hok)
  rw [h2.1]
  exact h2.2.2
theorem C_kept_ownQ (h : d.Q e W base ok (.slice A n c) xs) (hok : ∀ k, ok k → ¬ S k) : ∀ W', Kept W W' S → d.C W' A n xs := fun W' hk => by
  have h2 := Q_reads' (Q_kept h hk hok)
  rw [h2.1]
  exact h2.2.2
theorem C_kept_came (hd : Heap d) (h : d.C w0 A n xs) (hb : Below w0.heap.size w0 W) (hS : ∀ k, S k → w0.heap.size ≤ k) : ∀ W', Kept W W' S → d.C W' A n xs := fun W' hk =>
  hd.C (fun k hlt => (hk.2 k (Nat.lt_of_lt_of_le hlt hb.size) (fun h2 => by have := hS k h2; omega)).trans (hb.block k hlt)) h
theorem C_kept_step (h : ∀ W', Kept w W' S → d.C W' A n xs) (hk : Kept w W S) : ∀ W', Kept W W' S → d.C W' A n xs := fun W' hk' => h W' (hk.then_ hk' (fun _ h2 => .inl h2))
theorem C_kept_call (h : ∀ W', Kept w W' S → d.C W' A n xs) (hk : Kept w W S) (hs : ∀ k, S2 k → S k ∨ w.heap.size ≤ k) : ∀ W', Kept W W' S2 → d.C W' A n xs := fun W' hk' => h W' (hk.then_ hk' hs)
theorem C_kept_now (h : ∀ W', Kept w W' S → d.C W' A n xs) (hk : Kept w W S) : d.C W A n xs := h W hk
theorem C_kept_nil : ∀ W', Kept W W' S → d.C W' none ([] : List α).length [] := fun W' _ => C_nil d W'
theorem R_mine (h : d.R e W1 W.heap.size ok v xs) (hle : w.heap.size ≤ W.heap.size) : d.R e W1 W.heap.size (fun k => (S k ∨ w.heap.size ≤ k) ∧ ok k) v xs := R_mono (R_bound h) (fun _ hk => ⟨.inr (Nat.le_trans hle hk.2.1), hk.1⟩)
theorem Q_mine (h : d.Q e W1 W.heap.size ok v xs) (hle : w.heap.size ≤ W.heap.size) : d.Q e W1 W.heap.size (fun k => (S k ∨ w.heap.size ≤ k) ∧ ok k) v xs := Q_mono (Q_bound h) (fun _ hk => ⟨.inr (Nat.le_trans hle hk.2.1), hk.1⟩)
theorem S_mine (h : Kd.S d e W1 W.heap.size ok v xs) (hle : w.heap.size ≤ W.heap.size) : Kd.S d e W1 W.heap.size (fun k => (S k ∨ w.heap.size ≤ k) ∧ ok k) v xs := S_mono (S_bound h) (fun _ hk => ⟨.inr (Nat.le_trans hle hk.2.1), hk.1⟩)
end
end Kd
end Go.Proofs.YtjibcekillcgjaaDoorW.PrintWords
