/- What the proof of DriftDoes leans on: DrF. -/
import Derived.Test.YtenbkjeflancaaaGreatDoorSDriftDoesDrW
import Derived.Deep.Matrix
import Derived.WideShapes
set_option linter.unusedVariables false
set_option linter.unusedSimpArgs false
namespace Go.Proofs.YtenbkjeflancaaaGreatDoor.Dr
open Go Go.RowKit Go.Proofs.YtenbkjeflancaaaGreatDoorW.PrintWords Go.Proofs.YtenbkjeflancaaaGreatDoor.Val Go.Proofs.YtenbkjeflancaaaGreatDoor.Q Go.Proofs.YtenbkjeflancaaaGreatDoor.Cnt
abbrev kM : Kd (List Int) := Kd.slice 33 (Kd.int .i64)
theorem at_M {w : World} {A : Option Addr} {l : List (List Int)} (h : kM.C w A l.length l) (i : Nat) (hi : i < l.length) :
    ∃ (ad : Addr) (B : Option Addr) (c : Nat), A = some ad ∧ w.cell? (ad.add i) = some (.slice B (l.getD i []).length c) ∧ (l.getD i []).length ≤ c ∧ Kd.C (Kd.int .i64) w B (l.getD i []).length (l.getD i []) := by
  obtain ⟨ad, c, rfl, hs, hr, hcell⟩ := Kd.C_get h [] (i : Int) (by omega) (by omega)
  rw [Int.toNat_natCast] at hr hcell
  obtain ⟨B, c', rfl, hl, hC⟩ := hr
  have := hcell 0 _ rfl
  exact ⟨ad, B, c', rfl, by simpa [Kd.slice] using this, hl, hC⟩
def fewF : List (List Int) → Bool
  | [] => true
  | x :: l => if x.length > 20 then false else fewF l
def fewB (l : List (List Int)) : Bool := if l.length > 200 then false else fewF l
theorem drop_M (l : List (List Int)) (i : Nat) (h : i < l.length) : l.drop i = l.getD i [] :: l.drop (i + 1) := by
  rw [List.drop_eq_getElem_cons h, List.getD_eq_getElem?_getD, List.getElem?_eq_getElem h]; rfl
set_option maxHeartbeats 4000000 in
set_option maxRecDepth 1000000 in
theorem few_calls (A : Option Addr) (c : Nat) (l : List (List Int)) (w : World) (hr : kM.C w A l.length l) (hl : l.length ≤ c) (hlen : l.length ≤ 9223372036854775807) (hw : ∀ x ∈ l, x.length ≤ 9223372036854775807) :
    Calls Tryz.prog 4 #[.slice A l.length c] w fun e w' => e = .returned (.bool (fewB l)) ∧ w' = w := by
  have HR := Lib.hid hr
  clear hr
  obtain ⟨R, hR⟩ : ∃ R, fewB l = R := ⟨_, rfl⟩
  rw [hR]
  unfold fewB at hR
  go_enter Tryz.func4, Tryz.ntmps4
  by_cases h2 : l.length > 200
  · rw [if_pos h2] at hR
    have hlt1 : decide ((l.length : Int) > 200) = true := decide_eq_true (by omega)
    have hlt2 : decide ((200 : Int) < (l.length : Int)) = true := decide_eq_true (by omega)
    go_wp2
    go_ret
    exact ⟨by rw [← hR]; rfl, rfl⟩
  rw [if_neg h2] at hR
  have hlt1 : decide ((l.length : Int) > 200) = false := decide_eq_false (by omega)
  have hlt2 : decide ((200 : Int) < (l.length : Int)) = false := decide_eq_false (by omega)
  go_wp2
  clear hlt1 hlt2
  go_loopg [3] l.length (fun gk v3 wx => ∃ i : Nat, v3 = .int .i64 i ∧ i + gk = l.length ∧ R = fewF (l.drop i) ∧ wx = w)
  case atStart => exact ⟨0, rfl, by omega, by rw [List.drop_zero, hR], rfl⟩
  case round =>
    obtain ⟨i, rfl, hig, he, rfl⟩ := hrel
    cases gk with
    | zero =>
      have hi : i = l.length := by omega
      have hlt1 : decide ((i : Int) < (l.length : Int)) = false := decide_eq_false (by omega)
      go_wp2
      go_ret
      refine ⟨?_, rfl⟩
      rw [he, List.drop_eq_nil_of_le (by omega)]; rfl
    | succ gk =>
      have hi : i < l.length := by omega
      have hlt1 : decide ((i : Int) < (l.length : Int)) = true := decide_eq_true (by omega)
      have hd := drop_M l i hi
      obtain ⟨ad, B, cB, eA, h0, hcB, hC⟩ := at_M HR.out i hi
      subst eA
      have hx : (l.getD i []).length ≤ 9223372036854775807 := by
        rw [List.getD_eq_getElem?_getD, List.getElem?_eq_getElem hi]
        exact hw _ (List.getElem_mem hi)
      have p0 : ((0 : Int) ≤ (i : Int)) = True := eq_true (by omega)
      have p1 : ((i : Int) < (l.length : Int)) = True := eq_true (by omega)
      rw [hd] at he
      unfold fewF at he
      generalize l.getD i [] = x at *
      by_cases ht : x.length > 20
      · rw [if_pos ht] at he
        have q1 : decide ((x.length : Int) > 20) = true := decide_eq_true (by omega)
        have q2 : decide ((20 : Int) < (x.length : Int)) = true := decide_eq_true (by omega)
        go_wp2
        go_ret
        exact ⟨by rw [he]; rfl, rfl⟩
      · rw [if_neg ht] at he
        have q1 : decide ((x.length : Int) > 20) = false := decide_eq_false (by omega)
        have q2 : decide ((20 : Int) < (x.length : Int)) = false := decide_eq_false (by omega)
        have hs1 : IntKind.i64.wrap ((i : Int) + 1) = ((i + 1 : Nat) : Int) := by rw [IntWalk.i64_in _ (by omega)]; rfl
        go_wp2
        go_roundg gk
        case measure => omega
        case rel => exact ⟨i + 1, by first | rfl | (rw [hs1]), by omega, he, rfl⟩
theorem fewF_all : ∀ {l : List (List Int)}, fewF l = true → ∀ x ∈ l, x.length ≤ 20 := by
  intro l
  induction l with
  | nil => intro _ x hx; cases hx
  | cons y l ih =>
    intro h x hx
    unfold fewF at h
    split at h
    · cases h
    · rcases List.mem_cons.1 hx with rfl | hx
      · omega
      · exact ih h x hx
theorem few_all {l : List (List Int)} (h : fewB l = true) : l.length ≤ 200 ∧ ∀ x ∈ l, x.length ≤ 20 := by
  unfold fewB at h
  split at h
  · cases h
  · exact ⟨by omega, fewF_all h⟩
end Go.Proofs.YtenbkjeflancaaaGreatDoor.Dr
set_option linter.unusedVariables false
set_option linter.unusedSimpArgs false
namespace Go.Proofs.YtenbkjeflancaaaGreatDoor.Card
open Go.RowKit Go.ChangeShapes Go.WideShapes Go.Proofs.YtenbkjeflancaaaGreatDoor.Dr Go.Proofs.YtenbkjeflancaaaGreatDoorW.PrintWords
set_option maxRecDepth 1000000 in
theorem rows_open {H : Type} {enc : TypeId × Value → H} {w : World} {base : Nat} {held : Bool} {r : Reach} {b0 : Nat} {v : Value} {d : DataW H} {p : List MemPlace} (hv : Value.okWide Tryz.prog w r b0 24 v) (h : DataW.Trod enc Tryz.prog w base (fun _ => true) held 24 v d p) :
    ∃ (A : Option Addr) (c : Nat) (l : List (List Int)), v = .slice A l.length c ∧ kM.C w A l.length l ∧ l.length ≤ c ∧ l.length ≤ 9223372036854775807 ∧ ∀ x ∈ l, x.length ≤ 9223372036854775807 := by
  obtain ⟨a0, len0, cap0, rfl⟩ := okWide_slice Tryz.underlying24 hv
  obtain ⟨fuel, hf⟩ := h
  rcases Go.Deep.open_int_rows Tryz.underlying24 Tryz.underlying33 Tryz.underlying3 (by kernel_rfl) (by kernel_rfl) hf with ⟨hcs, _⟩ | ⟨a, len, cap, A, L, C, Z, hcs, _, hl, hm, _, hrows⟩
  · simp [Value.cells] at hcs
    obtain ⟨rfl, rfl, rfl⟩ := hcs
    exact ⟨none, 0, [], rfl, (Kd.R_reads' (Kd.R_nil kM 3 w 0 (fun _ => True))).2.2, Nat.le_refl _, by simp, by simp⟩
  · simp [Value.cells] at hcs
    obtain ⟨rfl, rfl, rfl⟩ := hcs
    unfold maxLen at hm hrows
    have hlen : ((List.range len0).map fun i => (Z i).take (L i)).length = len0 := by simp
    refine ⟨some a, cap0, (List.range len0).map fun i => (Z i).take (L i), by rw [hlen], ?_, by rw [hlen]; exact hl, by rw [hlen]; omega, ?_⟩
    · rw [hlen]
      refine ⟨hlen, by omega, fun _ => ⟨a, rfl, fun j x hx => ?_⟩⟩
      have hj : j < len0 := by
        have := (List.getElem?_eq_some_iff.1 hx).1
        rwa [hlen] at this
      have ex : x = (Z j).take (L j) := by
        rw [List.getElem?_map, List.getElem?_range hj] at hx
        exact (Option.some.inj hx).symm
      obtain ⟨hc, h1, h2, h3, h4, h5, h6⟩ := hrows j (by omega)
      have hxl : x.length = L j := by rw [ex, List.length_take]; omega
      have hx0 : ∀ i, i < L j → x.getD i 0 = (Z j).getD i 0 := by
        intro i hi
        rw [ex, List.getD_eq_getElem?_getD, List.getD_eq_getElem?_getD, List.getElem?_take, if_pos hi]
      refine ⟨[.slice (A j) x.length (C j)], rfl, ⟨A j, C j, rfl, by rw [hxl]; exact h1, ?_⟩, ?_⟩
      · refine Kd.C_of_reads (d := (0 : Int)) (h1 := fun _ => rfl) ⟨rfl, by rw [hxl]; omega, fun hpos => ?_⟩
        cases hA : A j with
        | none => have := h5 hA; omega
        | some a' =>
          obtain ⟨_, hcell⟩ := h6 a' hA
          refine ⟨a', rfl, fun i hi => ?_⟩
          rw [hxl] at hi
          show w.cell? (a'.add i) = some (.int .i64 (x.getD i 0))
          rw [hcell i (by omega), hx0 i hi]
      · intro i y hy
        have hi : i = 0 := by have := (List.getElem?_eq_some_iff.1 hy).1; simp at this; omega
        subst hi
        have e : y = .slice (A j) x.length (C j) := by simpa using hy.symm
        have e2 : a.add (j * kM.sz + 0) = a.add j := by show a.add (j * 1 + 0) = _; rw [Nat.mul_one, Nat.add_zero]
        show w.cell? (a.add (j * (Kd.slice 33 (Kd.int .i64)).sz + 0)) = _
        rw [show a.add (j * (Kd.slice 33 (Kd.int .i64)).sz + 0) = a.add j from e2, hc, e, hxl]
    · intro x hx
      obtain ⟨i, hi, rfl⟩ := List.mem_map.1 hx
      have := List.mem_range.1 hi
      obtain ⟨_, h1, h2, _⟩ := hrows i (by omega)
      rw [List.length_take]
      omega
end Go.Proofs.YtenbkjeflancaaaGreatDoor.Card
