/- What the proof of SubsFinds leans on: SbO. -/
import Derived.Test.YtjibcekillcgjaaDoorSSubsFindsSbJ
import Derived.Test.YtjibcekillcgjaaDoorSSubsFindsPRef12
import Derived.Test.YtjibcekillcgjaaDoorSSubsFindsQx3
set_option linter.unusedVariables false
set_option linter.unusedSimpArgs false
namespace Go.Proofs.YtjibcekillcgjaaDoor.Sb
open Go Go.RowKit Go.ChangeMaps Go.MapKept Go.Proofs.YtjibcekillcgjaaDoorW.PrintWords Go.Proofs.YtjibcekillcgjaaDoor.Q Go.Proofs.YtjibcekillcgjaaDoor.Mp Go.Proofs.YtjibcekillcgjaaDoor.Top Go.Proofs.YtjibcekillcgjaaDoor.Fm
abbrev OpT := S28
theorem drop_O (l : List OpT) (i : Nat) (h : i < l.length) : l.drop i = rd_T28 l (i : Int) :: l.drop (i + 1) := by
  rw [List.drop_eq_getElem_cons h]
  unfold rd_T28
  rw [Int.toNat_natCast, List.getD_eq_getElem?_getD, List.getElem?_eq_getElem h]; rfl
theorem rd_get (l : List OpT) (i : Nat) (h : i < l.length) : rd_T28 l (i : Int) = l[i] := by
  unfold rd_T28
  rw [Int.toNat_natCast, List.getD_eq_getElem?_getD, List.getElem?_eq_getElem h]; rfl
theorem rd_mem (l : List OpT) (i : Nat) (h : i < l.length) : rd_T28 l (i : Int) ∈ l := by
  rw [rd_get l i h]
  exact List.getElem_mem h
def fewO (l : List OpT) : Bool := decide (l.length ≤ 100) && l.all fun m => decide (m.f2.size ≤ 100) && decide (m.f1.size ≤ 100)
theorem few_from (l : List OpT) (hl : l.length ≤ 100) : ∀ (m i : Nat), i + m = l.length → Ev (fun k => basculelaw13_few.l0 k l (i : Int)) ((l.drop i).all fun m => decide (m.f2.size ≤ 100) && decide (m.f1.size ≤ 100)) := by
  intro m
  induction m with
  | zero =>
    intro i hi
    rw [List.drop_eq_nil_of_le (by omega)]
    exact Ev.step (fun k => rfl) (Ev.neg (by omega) (Ev.ret _))
  | succ m ih =>
    intro i hi
    have hlt : i < l.length := by omega
    have hI := ih (i + 1) (by omega)
    rw [drop_O l i hlt, List.all_cons]
    refine Ev.step (fun k => rfl) ?_
    refine Ev.pos (by omega) (Ev.pos (by omega) ?_)
    by_cases h0 : ((rd_T28 l (i : Int)).f2.size : Int) > 100
    · rw [decide_eq_false (show ¬ (rd_T28 l (i : Int)).f2.size ≤ 100 by omega), Bool.false_and, Bool.false_and]
      exact Ev.pos h0 (Ev.ret _)
    rw [decide_eq_true (show (rd_T28 l (i : Int)).f2.size ≤ 100 by omega), Bool.true_and]
    refine Ev.neg h0 ?_
    by_cases h1 : ((rd_T28 l (i : Int)).f1.size : Int) > 100
    · rw [decide_eq_false (show ¬ (rd_T28 l (i : Int)).f1.size ≤ 100 by omega), Bool.false_and]
      exact Ev.pos h1 (Ev.ret _)
    rw [decide_eq_true (show (rd_T28 l (i : Int)).f1.size ≤ 100 by omega), Bool.true_and]
    refine Ev.neg h1 ?_
    rw [show wrap64 ((i : Int) + 1) = ((i + 1 : Nat) : Int) by rw [w64 (by omega) (by omega)]; rfl]
    exact hI
theorem few_ev (l : List OpT) : Ev (fun k => basculelaw13_few.f k l) (fewO l) := by
  unfold fewO
  by_cases h : (l.length : Int) > 100
  · rw [decide_eq_false (show ¬ l.length ≤ 100 by omega), Bool.false_and]
    exact Ev.pos h (Ev.ret _)
  · rw [decide_eq_true (show l.length ≤ 100 by omega), Bool.true_and]
    have := few_from l (by omega) l.length 0 (by omega)
    rw [List.drop_zero] at this
    exact Ev.neg h this
theorem few_calls (A : Option Addr) (c : Nat) (l : List OpT) (w : World) (hr : Kd.C k28 w A l.length l) (hc : l.length ≤ c) :
    Calls Tryd.prog 7 #[.slice A l.length c] w fun e w' => e = .returned (.bool (fewO l)) ∧ Below w.heap.size w w' := by
  obtain ⟨k, hk⟩ := (few_ev l).rounds
  refine (basculelaw13_few.calls k A c l _ w hr hc hk).mono ?_
  rintro e w' ⟨rfl, m, rfl⟩
  exact ⟨rfl, pw_below_drewN (Below.refl _ _) m⟩
theorem few_all {l : List OpT} (h : fewO l = true) : l.length ≤ 100 ∧ ∀ m ∈ l, m.f1.size ≤ 100 ∧ m.f2.size ≤ 100 := by
  unfold fewO at h
  rw [Bool.and_eq_true] at h
  refine ⟨of_decide_eq_true h.1, fun m hm => ?_⟩
  have := List.all_eq_true.1 h.2 m hm
  rw [Bool.and_eq_true] at this
  exact ⟨of_decide_eq_true this.2, of_decide_eq_true this.1⟩
theorem cells_O {w : World} {A : Option Addr} {xs : List OpT} (h : Kd.C k28 w A xs.length xs) (i : Nat) (hi : i < xs.length) : ∃ ad : Addr, A = some ad ∧ w.cell? (ad.add (i * 4)) = some (.int .i64 (rd_T28 xs i).f0) ∧ w.cell? ⟨(ad.add (i * 4)).block, (ad.add (i * 4)).off + 1, none⟩ = some (.string (rd_T28 xs i).f1) ∧ w.cell? ⟨(ad.add (i * 4)).block, (ad.add (i * 4)).off + 2, none⟩ = some (.string (rd_T28 xs i).f2) ∧ w.cell? ⟨(ad.add (i * 4)).block, (ad.add (i * 4)).off + 3, none⟩ = some (.int .i64 (rd_T28 xs i).f3) := by
  obtain ⟨ad, e, h0, h1, h2, h3⟩ := at_T28 h (i : Int) (by omega) (by omega)
  rw [Int.toNat_natCast] at h0 h1 h2 h3
  exact ⟨ad, e, h0, h1, h2, h3⟩
structure Okay (es : List Ent) (n : Int) (i : Nat) : Prop where
  len : es.length ≤ i
  n0 : 0 ≤ n
  n1 : n ≤ i
  q0 : ∀ p ∈ es, 0 ≤ p.2.1
  flt : ∀ p ∈ es, isFilter p.1.2 = true
theorem Okay.nil : Okay [] 0 0 := ⟨Nat.le_refl _, Int.le_refl _, Int.le_refl _, fun p hp => by simp at hp, fun p hp => by simp at hp⟩
theorem Okay.mono {es : List Ent} {n : Int} {i j : Nat} (h : Okay es n i) (hj : i ≤ j) : Okay es n j := ⟨Nat.le_trans h.len hj, h.n0, by have := h.n1; omega, h.q0, h.flt⟩
theorem goodB_iff {k : Key} {q : Int} : goodB k q = true ↔ isFilter k.2 = true ∧ 0 ≤ q ∧ q ≤ 2 := by
  unfold goodB badQ
  rw [Bool.and_eq_true, Bool.not_eq_true', Bool.or_eq_false_iff, decide_eq_false_iff_not, decide_eq_false_iff_not]
  exact ⟨fun ⟨a, b, c⟩ => ⟨a, by omega, by omega⟩, fun ⟨a, b, c⟩ => ⟨a, by omega, by omega⟩⟩
theorem Okay.add {es : List Ent} {n : Int} {i : Nat} (h : Okay es n i) (k : Key) (q : Int) : Okay (addF es n k q) (addN es n k q) (i + 1) := by
  unfold addF addN
  by_cases hg : goodB k q = true
  · rw [if_pos hg, if_pos hg]
    obtain ⟨g1, g2, g3⟩ := goodB_iff.1 hg
    by_cases hs : (getL es k).isSome = true
    · rw [if_pos hs, if_pos hs]
      refine ⟨by unfold setP; rw [List.length_map]; exact Nat.le_succ_of_le h.len, h.n0, by have := h.n1; omega, fun p hp => ?_, fun p hp => ?_⟩
      · rcases mem_setP.1 hp with ⟨p', _, _, rfl⟩ | ⟨hp, _⟩
        · exact g2
        · exact h.q0 p hp
      · rcases mem_setP.1 hp with ⟨p', _, _, rfl⟩ | ⟨hp, _⟩
        · exact g1
        · exact h.flt p hp
    · rw [if_neg hs, if_neg hs]
      refine ⟨by rw [List.length_append]; have := h.len; simp; omega, by have := h.n0; omega, by have := h.n1; omega, fun p hp => ?_, fun p hp => ?_⟩
      · rcases List.mem_append.1 hp with hp | hp
        · exact h.q0 p hp
        · rw [List.mem_singleton.1 hp]; exact g2
      · rcases List.mem_append.1 hp with hp | hp
        · exact h.flt p hp
        · rw [List.mem_singleton.1 hp]; exact g1
  · rw [if_neg hg, if_neg hg]
    exact h.mono (Nat.le_succ i)
theorem Okay.filter {es : List Ent} {n : Int} {i : Nat} (h : Okay es n i) (p : Ent → Bool) : Okay (es.filter p) n i :=
  ⟨Nat.le_trans (List.length_filter_le _ _) h.len, h.n0, h.n1, fun x hx => h.q0 x (List.mem_filter.1 hx).1, fun x hx => h.flt x (List.mem_filter.1 hx).1⟩
theorem Okay.drop {es : List Ent} {n : Int} {i : Nat} (h : Okay es n i) (k : Key) : Okay (dropF es k) n i := by
  unfold dropF
  split
  · exact h.filter _
  · exact h
end Go.Proofs.YtjibcekillcgjaaDoor.Sb
