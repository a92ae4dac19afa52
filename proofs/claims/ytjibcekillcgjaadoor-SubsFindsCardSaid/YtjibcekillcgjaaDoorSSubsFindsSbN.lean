/- What the proof of SubsFinds leans on: SbN. -/
import Derived.Test.YtjibcekillcgjaaDoorSSubsFindsSbO
import Derived.Test.YtjibcekillcgjaaDoorSSubsFindsQx6
set_option linter.unusedVariables false
set_option linter.unusedSimpArgs false
namespace Go.Proofs.YtjibcekillcgjaaDoor.Sb
open Go Go.RowKit Go.ChangeMaps Go.MapKept Go.Proofs.YtjibcekillcgjaaDoorW.PrintWords Go.Proofs.YtjibcekillcgjaaDoor.Q Go.Proofs.YtjibcekillcgjaaDoor.Mp Go.Proofs.YtjibcekillcgjaaDoor.Top Go.Proofs.YtjibcekillcgjaaDoor.Fm
theorem name12_calls (n : ByteArray) (w : World) :
    Calls Tryd.prog 15 #[.string n] w fun e w' => e = .returned (.bool (isName n)) ∧ Below w.heap.size w w' := by
  obtain ⟨k, hk⟩ := (name_ev n).rounds
  exact basculeref12_Name.calls k n _ w hk
theorem ownW {e : Nat} {W : World} {base : Nat} {v : Value} {xs : List WantT} {ok : Nat → Prop} (h : Kd.R k48 e W base ok v xs) : Kd.R k48 e W base (fun k => v.ownBlock = some k) v xs := by
  obtain ⟨h0, inner, ho, hr⟩ := h
  exact ⟨fun k hk => hk, inner, ho, hr.imp_ (fun x cs hp => by rw [k48_openM hp]; exact k48_mkM _ _ _ x)⟩
theorem nodup_len {α : Type} [DecidableEq α] : ∀ (xs ys : List α), xs.Nodup → (∀ x ∈ xs, x ∈ ys) → xs.length ≤ ys.length
  | [], ys, _, _ => Nat.zero_le _
  | x :: xs, ys, h, hs => by
    obtain ⟨h1, h2⟩ := List.nodup_cons.1 h
    have hx := hs x List.mem_cons_self
    have := nodup_len xs (ys.erase x) h2 (fun z hz => (List.mem_erase_of_ne (fun e => h1 (by rw [← e]; exact hz))).2 (hs z (List.mem_cons_of_mem _ hz)))
    rw [List.length_erase_of_mem hx] at this
    have hp : 0 < ys.length := List.length_pos_of_mem hx
    rw [List.length_cons]
    omega
theorem bestis_len {D : List Ent} {name : ByteArray} {ws : List WantT} (h : FindIs D name ws) : ws.length ≤ D.length := by
  have hs : (ws.map wcl).Nodup := by
    unfold List.Nodup
    rw [List.pairwise_map]
    exact h.1.keys
  have hsub : ∀ x ∈ ws.map wcl, x ∈ D.map fun p : Ent => p.1.1 := by
    intro x hx
    obtain ⟨w, hw, rfl⟩ := List.mem_map.1 hx
    obtain ⟨⟨p, hp, _, hc, _⟩, _⟩ := (h.2 w).1 hw
    exact List.mem_map.2 ⟨p, hp, hc⟩
  have := nodup_len _ _ hs hsub
  simpa using this
end Go.Proofs.YtjibcekillcgjaaDoor.Sb
