/- What the proof of SubsFinds leans on: RowsO. -/
import Derived.Test.YtjibcekillcgjaaDoorProg
import Derived.Test.YtjibcekillcgjaaDoorSSubsFindsQx3
import Derived.Deep.Slices
import Derived.WideShapes
import Derived.RowKit
set_option linter.unusedVariables false
set_option linter.unusedSimpArgs false
set_option maxRecDepth 100000
namespace Go.Proofs.YtjibcekillcgjaaDoor.Card
open Go.RowKit Go.ChangeShapes Go.WideShapes Go.Proofs.YtjibcekillcgjaaDoor.Q Go.Proofs.YtjibcekillcgjaaDoorW.PrintWords
def rowWf (x : S28) : Prop := (Lit.int .i64 x.f0).wf = true ∧ x.f1.size ≤ maxLen ∧ x.f2.size ≤ maxLen ∧ (Lit.int .i64 x.f3).wf = true
def rowCs (x : S28) : List Value := [.int .i64 x.f0, .string x.f1, .string x.f2, .int .i64 x.f3]
instance : Inhabited S28 := ⟨z28⟩
section
variable {H : Type} {enc : TypeId × Value → H} {w : World} {base : Nat} {spare : Nat → Bool} {held : Bool}
theorem row_cells {fuel : Nat} {cs : List Value} {x : DataW H × List MemPlace} (hl : cs.length = 4) (h : DataW.trod enc Tryd.prog w base spare held fuel 28 cs = some x) : ∃ r : S28, cs = rowCs r ∧ rowWf r := by
  have hs := Tryd.underlying28
  obtain ⟨xs, m, _, hx, _, hlen, hall⟩ := DataW.trod_struct hs h
  match cs, hl, xs, hlen with
  | [c0, c1, c2, c3], _, [y0, y1, y2, y3], _ =>
    have hS : Tryd.prog.cellsOf 9 = 1 := by kernel_rfl
    have hI : Tryd.prog.cellsOf 3 = 1 := by kernel_rfl
    have g0 := hall 0 _ rfl
    have g1 := hall 1 _ rfl
    have g2 := hall 2 _ rfl
    have g3 := hall 3 _ rfl
    simp only [hS, hI, List.drop_zero, List.drop_succ_cons, List.take_succ_cons, List.take_zero, List.getElem?_cons_zero, List.getElem?_cons_succ] at g0 g1 g2 g3
    obtain ⟨n, e0, rfl, hn⟩ := DataW.trod_int Tryd.underlying3 g0
    obtain ⟨u, e1, rfl, hu⟩ := DataW.trod_string Tryd.underlying9 g1
    obtain ⟨f, e2, rfl, h2⟩ := DataW.trod_string Tryd.underlying9 g2
    obtain ⟨wr, e3, rfl, h3⟩ := DataW.trod_int Tryd.underlying3 g3
    cases e0; cases e1; cases e2; cases e3
    exact ⟨⟨n, u, f, wr⟩, rfl, hn, hu, h2, h3⟩
set_option maxRecDepth 1000000 in
theorem rowsO_open {r : Reach} {b0 : Nat} {v : Value} {d : DataW H} {p : List MemPlace} (hv : Value.okWide Tryd.prog w r b0 22 v) (h : DataW.Trod enc Tryd.prog w base (fun _ => true) held 22 v d p) :
    ∃ (A : Option Addr) (c : Nat) (l : List S28), v = .slice A l.length c ∧ Kd.C k28 w A l.length l ∧ l.length ≤ c ∧ l.length ≤ 9223372036854775807 ∧ ∀ x ∈ l, rowWf x := by
  obtain ⟨a0, len0, cap0, rfl⟩ := okWide_slice Tryd.underlying22 hv
  obtain ⟨fuel, hf⟩ := h
  rcases Go.Deep.open_slice Tryd.underlying22 hf with ⟨hcs, _⟩ | ⟨a, len, cap, m, n, D, Pl, hcs, _, hl, hm, hmm, _, hrows⟩
  · simp [Value.cells] at hcs
    obtain ⟨rfl, rfl, rfl⟩ := hcs
    exact ⟨none, 0, [], rfl, (Kd.R_reads' (Kd.R_nil k28 28 w 0 (fun _ => True))).2.2, Nat.le_refl _, by simp, by simp⟩
  · simp [Value.cells] at hcs
    obtain ⟨rfl, rfl, rfl⟩ := hcs
    unfold maxLen at hm
    have h8 : Tryd.prog.cellsOf 28 = 4 := by kernel_rfl
    simp only [if_true] at hmm
    have each : ∀ i, i < len0 → ∃ x : S28, rowWf x ∧ ∀ j y, (rowCs x)[j]? = some y → w.cell? ((a.add (i * 4)).add j) = some y := by
      intro i hi
      obtain ⟨cs', h1, h2⟩ := hrows i (by omega)
      rw [h8] at h1
      obtain ⟨_, hlen, hcell⟩ := World.cells?_some h1
      obtain ⟨x, rfl, hw⟩ := row_cells hlen h2
      refine ⟨x, hw, fun j y hy => ?_⟩
      have hj : j < 4 := (List.getElem?_eq_some_iff.1 hy).1
      rw [hcell j hj, hy]
    obtain ⟨X, hX⟩ := Go.Deep.choose_lt each
    have hlen : ((List.range len0).map X).length = len0 := by simp
    refine ⟨some a, cap0, (List.range len0).map X, by rw [hlen], ?_, by rw [hlen]; exact hl, by rw [hlen]; omega, ?_⟩
    · rw [hlen]
      refine ⟨hlen, by omega, fun _ => ⟨a, rfl, fun j x hx => ?_⟩⟩
      have hj : j < len0 := by
        have := (List.getElem?_eq_some_iff.1 hx).1
        rwa [hlen] at this
      have ex : x = X j := by
        rw [List.getElem?_map, List.getElem?_range hj] at hx
        exact (Option.some.inj hx).symm
      subst ex
      refine ⟨rowCs (X j), rfl, k28_mk w (X j), fun i y hy => ?_⟩
      have := (hX j hj).2 i y hy
      rw [Go.Deep.add_add] at this
      exact this
    · intro x hx
      obtain ⟨i, hi, rfl⟩ := List.mem_map.1 hx
      exact (hX i (List.mem_range.1 hi)).1
end
end Go.Proofs.YtjibcekillcgjaaDoor.Card
