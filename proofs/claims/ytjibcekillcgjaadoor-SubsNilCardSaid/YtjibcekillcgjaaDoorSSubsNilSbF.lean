/- What the proof of SubsNil leans on: SbF. -/
import Derived.Test.YtjibcekillcgjaaDoorSSubsNilSbD
import Derived.Test.YtjibcekillcgjaaDoorSSubsNilSrtK
import Derived.Test.YtjibcekillcgjaaDoorSSubsNilSrt
import Derived.Deep.LoopGhost
set_option linter.unusedVariables false
set_option linter.unusedSimpArgs false
namespace Go.Proofs.YtjibcekillcgjaaDoor.Sb
open Go Go.RowKit Go.ChangeMaps Go.MapKept Go.Proofs.YtjibcekillcgjaaDoorW.PrintWords Go.Proofs.YtjibcekillcgjaaDoor.Q Go.Proofs.YtjibcekillcgjaaDoor.Mp Go.Proofs.YtjibcekillcgjaaDoor.Top Go.Proofs.YtjibcekillcgjaaDoor.Fm
theorem range_app {α β γ : Type} {mk : α → Value} {mv : β → Value} {okp : α → Prop} {W W' : World} {mb rb : Nat} {L left : List (α × β)} {d : Kd γ} {e : Nat} {v : Value} {xs : List γ} {base : Nat} {ok : Nat → Prop} (h : RangeAt mk mv okp W mb rb L left) (hR : Kd.R d e W base ok v xs) (hg : W.grownBy W' v.ownBlock) : RangeAt mk mv okp W' mb rb L left := by
  have h1 : some mb ≠ v.ownBlock := fun e => by
    obtain ⟨cells, hc⟩ := Kd.R_typed hR mb e.symm
    obtain ⟨es, clock, hb, _⟩ := h.map
    rw [hc] at hb
    cases hb
  have h2 : some rb ≠ v.ownBlock := fun e => by
    obtain ⟨cells, hc⟩ := Kd.R_typed hR rb e.symm
    obtain ⟨es, clock, since, seen, c0, _, _, _, _, hr, _⟩ := h
    rw [hc] at hr
    cases hr
  exact h.grown hg h1 h2
theorem R_next {α β γ : Type} {mk : α → Value} {mv : β → Value} {okp : α → Prop} {W W' : World} {mb rb : Nat} {L left : List (α × β)} {d : Kd γ} {e : Nat} {v : Value} {xs : List γ} {base : Nat} (h : RangeAt mk mv okp W mb rb L left) (hR : Kd.R d e W base (fun _ => True) v xs) (hg : W.grownBy W' (some rb)) : Kd.R d e W' base (fun _ => True) v xs := by
  refine Kd.R_mono (Kd.R_grown (Kd.R_bound hR) hg (fun k hk e => ?_)) (fun _ _ => trivial)
  injection e with e
  subst e
  obtain ⟨_, _, _, q, _, cells, hc⟩ := hk
  obtain ⟨es, clock, since, seen, c0, _, _, _, _, hr, _⟩ := h
  rw [hc] at hr
  cases hr
theorem erase_perm {α : Type} : ∀ {l : List α} {j : Nat} {p : α}, l[j]? = some p → l.Perm (p :: l.eraseIdx j)
  | [], _, _, h => by simp at h
  | q :: l, 0, p, h => by
    obtain rfl : q = p := by simpa using h
    exact List.Perm.refl _
  | q :: l, j + 1, p, h => by
    have hj : l[j]? = some p := by simpa using h
    exact ((erase_perm hj).cons q).trans (List.Perm.swap p q _)
theorem erase_len {α : Type} {l : List α} {j : Nat} {p : α} (h : l[j]? = some p) : (l.eraseIdx j).length + 1 = l.length := by
  obtain ⟨hj, rfl⟩ := List.getElem?_eq_some_iff.1 h
  rw [List.length_eraseIdx, if_pos hj]
  omega
end Go.Proofs.YtjibcekillcgjaaDoor.Sb
