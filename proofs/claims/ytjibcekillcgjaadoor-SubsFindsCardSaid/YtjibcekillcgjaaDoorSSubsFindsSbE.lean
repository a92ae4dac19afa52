/- What the proof of SubsFinds leans on: SbE. -/
import Derived.Test.YtjibcekillcgjaaDoorSSubsFindsSbD
import Derived.Test.YtjibcekillcgjaaDoorSSubsFindsSrtK
import Derived.Test.YtjibcekillcgjaaDoorSSubsFindsSrt
set_option linter.unusedVariables false
set_option linter.unusedSimpArgs false
namespace Go.Proofs.YtjibcekillcgjaaDoor.Sb
open Go Go.RowKit Go.ChangeMaps Go.MapKept Go.Proofs.YtjibcekillcgjaaDoorW.PrintWords Go.Proofs.YtjibcekillcgjaaDoor.Q Go.Proofs.YtjibcekillcgjaaDoor.Mp Go.Proofs.YtjibcekillcgjaaDoor.Top Go.Proofs.YtjibcekillcgjaaDoor.Fm
open Go.Sort (grow SWO)
def cfK (es : List Ent) (x y : KeyS) : Int := cmpI (plc es x.1) (plc es y.1)
theorem ltK (es : List Ent) (x y : KeyS) : ltOf (cfK es) x y = decide (plc es x.1 < plc es y.1) := by
  unfold ltOf cfK cmpI
  by_cases h : plc es x.1 < plc es y.1
  · rw [if_pos h]; simp [h]
  · rw [if_neg h]
    by_cases h2 : plc es y.1 < plc es x.1
    · rw [if_pos h2]; simp [h]
    · rw [if_neg h2]; simp [h]
theorem swoK (es : List Ent) : SWO (ltOf (cfK es)) where
  irrefl x := by rw [ltK]; simp
  trans x y z h1 h2 := by rw [ltK] at *; simp at *; omega
  ntrans x y z h1 h2 := by rw [ltK] at *; simp at *; omega
theorem rise_eq {α : Type} (f : α → Int) : ∀ {a b : List α}, a.Pairwise (fun x y => f x < f y) → b.Pairwise (fun x y => f x < f y) → a.Perm b → a = b
  | [], b, _, _, h => (List.nil_perm.1 h).symm
  | x :: a, [], _, _, h => by have := h.length_eq; simp at this
  | x :: a, y :: b, h1, h2, h => by
    obtain ⟨p1, q1⟩ := List.pairwise_cons.1 h1
    obtain ⟨p2, q2⟩ := List.pairwise_cons.1 h2
    have e : x = y := by
      rcases List.mem_cons.1 (h.mem_iff.1 (List.mem_cons_self (a := x) (l := a))) with h3 | h3
      · exact h3
      · rcases List.mem_cons.1 (h.mem_iff.2 (List.mem_cons_self (a := y) (l := b))) with h4 | h4
        · exact h4.symm
        · have := p1 _ h4
          have := p2 _ h3
          omega
    subst e
    rw [rise_eq f q1 q2 (List.perm_cons x |>.1 h)]
theorem sortK_calls {W : World} {bx xb mb : Nat} {es : List Ent} {n : Int} (hbox : W.heap[bx]? = some (.cells #[.pointer (some ⟨xb, 0, none⟩)] 25 (0, 0))) (hI : IAt W xb mb es n)
    {base : Nat} {ok : Nat → Prop} {v : Value} {acc : List KeyS} (h : Kd.R kK 61 W base ok v acc) (hlen : acc.length < 4611686018427387904) {st : List Key} (hst : st.Pairwise (fun a b => plc es a < plc es b)) (hp : (acc.map (·.1)).Perm st) :
    Calls Tryd.prog 24 #[v, .func (.func 25) #[] #[.pointer (some ⟨bx, 0, none⟩)]] W fun e W' => e = .returned (.tuple #[]) ∧ ∃ ys : List KeyS, ys.map (·.1) = st ∧ Kd.R kK 61 W' base ok v ys ∧ W.grownBy W' v.ownBlock := by
  have hxb := hI.lt
  have hty := Kd.R_typed h
  have hcmp : ∀ blk size, v.ownBlock = some blk → CmpLays Tryd.prog 25 #[.pointer (some ⟨bx, 0, none⟩)] encK 2 (cfK es) blk 0 size W := by
    intro blk size hb m os dk _ x y
    obtain ⟨cells, hc⟩ := hty blk hb
    have n1 : bx ≠ blk := fun e => by rw [e, hc] at hbox; cases hbox
    have n2 : xb ≠ blk := fun e => by have := hI.1; rw [e, hc] at this; cases this
    have n3 : mb ≠ blk := fun e => by
      obtain ⟨_, L, ⟨es', cl, hh, _⟩, _⟩ := hI
      rw [e, hc] at hh
      cases hh
    obtain ⟨hs, hk⟩ := Srt.sort_frm encK 2 W blk m dk os
    have hbox' := (hk bx (blk_lt hbox) n1).trans hbox
    have hI' : IAt (sortWorldK encK 2 W blk 0 m dk os) xb mb es n := by
      obtain ⟨e1, L, e2, e3⟩ := hI
      exact ⟨(hk xb hxb.1 n2).trans e1, L, e2.same (hk mb hxb.2 n3), e3⟩
    exact clos_of _ bx xb mb es n x y hbox' hI'
  have hc := Srt.sort_calls Tryd.sortK kK encK (fun _ => rfl) (fun h => kK_openM h) (fun w b ok x => kK_mkM w b ok x) (fun w => by kernel_rfl) (fun w => by kernel_rfl) (fun x v hv => by simp [encK] at hv; rcases hv with rfl | rfl <;> rfl) (cfK es) (swoK es) 25 #[.pointer (some ⟨bx, 0, none⟩)] (enters_of Tryd.func25 (by kernel_rfl) rfl) h hlen hcmp
  refine hc.mono ?_
  rintro e W' ⟨rfl, ys, hpy, hs, hR, hgr⟩
  refine ⟨rfl, ys, ?_, hR, hgr⟩
  have hpm : (ys.map (·.1)).Perm st := (hpy.symm.map (·.1)).trans hp
  refine rise_eq (plc es) ?_ hst hpm
  have hne : (ys.map (·.1)).Pairwise (fun a b => plc es a ≠ plc es b) := (hpm.symm.pairwise_iff (fun {_ _} h => Ne.symm h)).1 (hst.imp (fun {a b} h => by omega))
  have hle : (ys.map (·.1)).Pairwise (fun a b => ¬ plc es b < plc es a) := by
    rw [List.pairwise_map]
    refine hs.imp (fun {a b} h => ?_)
    rw [ltK] at h
    exact of_decide_eq_false h
  exact (hle.and hne).imp (fun {a b} h => by omega)
end Go.Proofs.YtjibcekillcgjaaDoor.Sb
