/- What the proof of RetainKeeps leans on: RetF. -/
import Derived.Test.YtdchcdagjnaicaaDoorSRetainKeepsRetE
import Derived.Test.YtdchcdagjnaicaaDoorSRetainKeepsP0
import Derived.Test.YtdchcdagjnaicaaDoorSRetainKeepsQx2
set_option linter.unusedVariables false
set_option linter.unusedSimpArgs false
namespace Go.Proofs.YtdchcdagjnaicaaDoor.Rt
open Go Go.RowKit Go.ChangeMaps Go.MapKept Go.Proofs.YtdchcdagjnaicaaDoorW.PrintWords Go.Proofs.YtdchcdagjnaicaaDoor.Q Go.Proofs.YtdchcdagjnaicaaDoor.Mp Go.Proofs.YtdchcdagjnaicaaDoor.Top
theorem drop_M (l : List Msg) (i : Nat) (h : i < l.length) : l.drop i = rd_T27 l (i : Int) :: l.drop (i + 1) := by
  rw [List.drop_eq_getElem_cons h]
  unfold rd_T27
  rw [Int.toNat_natCast, List.getD_eq_getElem?_getD, List.getElem?_eq_getElem h]; rfl
theorem rd_mem (l : List Msg) (i : Nat) (h : i < l.length) : rd_T27 l (i : Int) ∈ l := by
  unfold rd_T27
  rw [Int.toNat_natCast, List.getD_eq_getElem?_getD, List.getElem?_eq_getElem h]
  exact List.getElem_mem h
def fewM (l : List Msg) : Bool := decide (l.length ≤ 100) && l.all fun m => decide (m.f0.size ≤ 100) && decide (m.f1.size ≤ 1000)
theorem few_from (l : List Msg) (hl : l.length ≤ 100) : ∀ (m i : Nat), i + m = l.length → Ev (fun k => basculelaw14_few.l0 k l (i : Int)) ((l.drop i).all fun m => decide (m.f0.size ≤ 100) && decide (m.f1.size ≤ 1000)) := by
  intro m
  induction m with
  | zero =>
    intro i hi
    rw [List.drop_eq_nil_of_le (by omega)]
    exact Ev.step (fun k => rfl) (Ev.neg (by omega) (Ev.ret _))
  | succ m ih =>
    intro i hi
    have hlt : i < l.length := by omega
    have hI := ih (i + 1) (by omega)
    rw [drop_M l i hlt, List.all_cons]
    refine Ev.step (fun k => rfl) ?_
    refine Ev.pos (by omega) (Ev.pos (by omega) ?_)
    by_cases h0 : ((rd_T27 l (i : Int)).f0.size : Int) > 100
    · rw [decide_eq_false (show ¬ (rd_T27 l (i : Int)).f0.size ≤ 100 by omega), Bool.false_and, Bool.false_and]
      exact Ev.pos h0 (Ev.ret _)
    rw [decide_eq_true (show (rd_T27 l (i : Int)).f0.size ≤ 100 by omega), Bool.true_and]
    refine Ev.neg h0 ?_
    by_cases h1 : ((rd_T27 l (i : Int)).f1.size : Int) > 1000
    · rw [decide_eq_false (show ¬ (rd_T27 l (i : Int)).f1.size ≤ 1000 by omega), Bool.false_and]
      exact Ev.pos h1 (Ev.ret _)
    rw [decide_eq_true (show (rd_T27 l (i : Int)).f1.size ≤ 1000 by omega), Bool.true_and]
    refine Ev.neg h1 ?_
    rw [show wrap64 ((i : Int) + 1) = ((i + 1 : Nat) : Int) by rw [w64 (by omega) (by omega)]; rfl]
    exact hI
theorem few_ev (l : List Msg) : Ev (fun k => basculelaw14_few.f k l) (fewM l) := by
  unfold fewM
  by_cases h : (l.length : Int) > 100
  · rw [decide_eq_false (show ¬ l.length ≤ 100 by omega), Bool.false_and]
    exact Ev.pos h (Ev.ret _)
  · rw [decide_eq_true (show l.length ≤ 100 by omega), Bool.true_and]
    have := few_from l (by omega) l.length 0 (by omega)
    rw [List.drop_zero] at this
    exact Ev.neg h this
theorem few_calls (A : Option Addr) (c : Nat) (l : List Msg) (w : World) (hr : Kd.C k27 w A l.length l) (hc : l.length ≤ c) :
    Calls Tryd.prog 7 #[.slice A l.length c] w fun e w' => e = .returned (.bool (fewM l)) ∧ Below w.heap.size w w' := by
  obtain ⟨k, hk⟩ := (few_ev l).rounds
  refine (basculelaw14_few.calls k A c l _ w hr hc hk).mono ?_
  rintro e w' ⟨rfl, m, rfl⟩
  exact ⟨rfl, pw_below_drewN (Below.refl _ _) m⟩
theorem few_all {l : List Msg} (h : fewM l = true) : l.length ≤ 100 ∧ ∀ m ∈ l, m.f0.size ≤ 100 ∧ m.f1.size ≤ 1000 := by
  unfold fewM at h
  rw [Bool.and_eq_true] at h
  refine ⟨of_decide_eq_true h.1, fun m hm => ?_⟩
  have := List.all_eq_true.1 h.2 m hm
  rw [Bool.and_eq_true] at this
  exact ⟨of_decide_eq_true this.1, of_decide_eq_true this.2⟩
theorem cells_any {w : World} {A : Option Addr} {xs : List Msg} (h : Kd.C k27 w A xs.length xs) (i : Nat) (hi : i < xs.length) : ∃ ad : Addr, A = some ad ∧ w.cell? (ad.add (i * 4)) = some (.string (rd_T27 xs i).f0) ∧ w.cell? ⟨(ad.add (i * 4)).block, (ad.add (i * 4)).off + 1, none⟩ = some (.string (rd_T27 xs i).f1) ∧ w.cell? ⟨(ad.add (i * 4)).block, (ad.add (i * 4)).off + 2, none⟩ = some (.int .i64 (rd_T27 xs i).f2) ∧ w.cell? ⟨(ad.add (i * 4)).block, (ad.add (i * 4)).off + 3, none⟩ = some (.bool (rd_T27 xs i).f3) := by
  obtain ⟨ad, e, h0, h1, h2, h3⟩ := at_T27 h (i : Int) (by omega) (by omega)
  rw [Int.toNat_natCast] at h0 h1 h2 h3
  exact ⟨ad, e, h0, h1, h2, h3⟩
theorem KAt.srt {W : World} {kb mb : Nat} {st : List Msg} (h : KAt W kb mb st) : Srt tpc st := by
  obtain ⟨_, L, _, hA⟩ := h
  exact hA.srt
end Go.Proofs.YtdchcdagjnaicaaDoor.Rt
