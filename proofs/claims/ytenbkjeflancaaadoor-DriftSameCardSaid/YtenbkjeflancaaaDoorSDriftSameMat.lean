/- What the proof of DriftSame leans on: Mat. -/
import Derived.Test.YtenbkjeflancaaaDoorSDriftSameDrF
import Derived.Deep.Matrix
import Derived.WideShapes
set_option linter.unusedVariables false
set_option linter.unusedSimpArgs false
namespace Go.Proofs.YtenbkjeflancaaaDoor.Card
open Go.RowKit Go.ChangeShapes Go.WideShapes Go.Proofs.YtenbkjeflancaaaDoor.Dr Go.Proofs.YtenbkjeflancaaaDoorW.PrintWords
set_option maxRecDepth 1000000 in
theorem rows_open {H : Type} {enc : TypeId × Value → H} {w : World} {base : Nat} {held : Bool} {r : Reach} {b0 : Nat} {v : Value} {d : DataW H} {p : List MemPlace} (hv : Value.okWide Tryd.prog w r b0 24 v) (h : DataW.Trod enc Tryd.prog w base (fun _ => true) held 24 v d p) :
    ∃ (A : Option Addr) (c : Nat) (l : List (List Int)), v = .slice A l.length c ∧ kM.C w A l.length l ∧ l.length ≤ c ∧ l.length ≤ 9223372036854775807 ∧ ∀ x ∈ l, x.length ≤ 9223372036854775807 := by
  obtain ⟨a0, len0, cap0, rfl⟩ := okWide_slice Tryd.underlying24 hv
  obtain ⟨fuel, hf⟩ := h
  rcases Go.Deep.open_int_rows Tryd.underlying24 Tryd.underlying31 Tryd.underlying3 (by kernel_rfl) (by kernel_rfl) hf with ⟨hcs, _⟩ | ⟨a, len, cap, A, L, C, Z, hcs, _, hl, hm, _, hrows⟩
  · simp [Value.cells] at hcs
    obtain ⟨rfl, rfl, rfl⟩ := hcs
    exact ⟨none, 0, [], rfl, (Kd.R_reads' (Kd.R_nil kM 3 w 0 (fun _ => True))).2.2, Nat.le_refl _, by simp, by simp⟩
  · simp [Value.cells] at hcs
    obtain ⟨rfl, rfl, rfl⟩ := hcs
    unfold maxLen at hm hrows
    have hlen : ((List.range len0).map fun i => (Z i).take (L i)).length = len0 := by simp
    refine ⟨some a, cap0, (List.range len0).map fun i => (Z i).take (L i), by rw [hlen], ?_, by rw [hlen]; exact hl, by rw [hlen]; omega, ?_⟩
    · rw [hlen]
      refine ⟨hlen, by omega, fun _ => ⟨a, rfl, fun j x hx => ?_⟩⟩
      have hj : j < len0 := by
        have := (List.getElem?_eq_some_iff.1 hx).1
        rwa [hlen] at this
      have ex : x = (Z j).take (L j) := by
        rw [List.getElem?_map, List.getElem?_range hj] at hx
        exact (Option.some.inj hx).symm
      obtain ⟨hc, h1, h2, h3, h4, h5, h6⟩ := hrows j (by omega)
      have hxl : x.length = L j := by rw [ex, List.length_take]; omega
      have hx0 : ∀ i, i < L j → x.getD i 0 = (Z j).getD i 0 := by
        intro i hi
        rw [ex, List.getD_eq_getElem?_getD, List.getD_eq_getElem?_getD, List.getElem?_take, if_pos hi]
      refine ⟨[.slice (A j) x.length (C j)], rfl, ⟨A j, C j, rfl, by rw [hxl]; exact h1, ?_⟩, ?_⟩
      · refine Kd.C_of_reads (d := (0 : Int)) (h1 := fun _ => rfl) ⟨rfl, by rw [hxl]; omega, fun hpos => ?_⟩
        cases hA : A j with
        | none => have := h5 hA; omega
        | some a' =>
          obtain ⟨_, hcell⟩ := h6 a' hA
          refine ⟨a', rfl, fun i hi => ?_⟩
          rw [hxl] at hi
          show w.cell? (a'.add i) = some (.int .i64 (x.getD i 0))
          rw [hcell i (by omega), hx0 i hi]
      · intro i y hy
        have hi : i = 0 := by have := (List.getElem?_eq_some_iff.1 hy).1; simp at this; omega
        subst hi
        have e : y = .slice (A j) x.length (C j) := by simpa using hy.symm
        have e2 : a.add (j * kM.sz + 0) = a.add j := by show a.add (j * 1 + 0) = _; rw [Nat.mul_one, Nat.add_zero]
        show w.cell? (a.add (j * (Kd.slice 31 (Kd.int .i64)).sz + 0)) = _
        rw [show a.add (j * (Kd.slice 31 (Kd.int .i64)).sz + 0) = a.add j from e2, hc, e, hxl]
    · intro x hx
      obtain ⟨i, hi, rfl⟩ := List.mem_map.1 hx
      have := List.mem_range.1 hi
      obtain ⟨_, h1, h2, _⟩ := hrows i (by omega)
      rw [List.length_take]
      omega
end Go.Proofs.YtenbkjeflancaaaDoor.Card
