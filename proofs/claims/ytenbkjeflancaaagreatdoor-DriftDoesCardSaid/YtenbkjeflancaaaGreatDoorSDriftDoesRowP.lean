/- What the proof of DriftDoes leans on: RowP. -/
import Derived.Test.YtenbkjeflancaaaGreatDoorProg
import Derived.Lib.SmallJoins
import Derived.ChangeMaps5
import Derived.RowKit
set_option linter.unusedVariables false
set_option linter.unusedSimpArgs false
set_option maxRecDepth 100000
namespace Go.Proofs.YtenbkjeflancaaaGreatDoor.Card
open Go.Joins Go.RowKit Go.ChangeShapes Go.WideShapes Go.ChangeAt
section
variable {H : Type} {enc : TypeId × Value → H} {w : World} {base : Nat} {spare : Nat → Bool} {held : Bool}
theorem array8 {α : Type} {cs : Array α} (h : cs.size = 8) : ∃ c0 c1 c2 c3 c4 c5 c6 c7, cs = #[c0, c1, c2, c3, c4, c5, c6, c7] := by
  obtain ⟨l⟩ := cs
  match l, h with
  | [c0, c1, c2, c3, c4, c5, c6, c7], _ => exact ⟨c0, c1, c2, c3, c4, c5, c6, c7, rfl⟩
def rowD (n : ByteArray) (u f a k s d : Int) (wr : Bool) : DataW H := .agg [.lit (.string n.data.toList), .lit (.int .i64 u), .lit (.int .i64 f), .lit (.int .i64 a), .lit (.int .i64 k), .lit (.int .i64 s), .lit (.int .i64 d), .lit (.bool wr)]
theorem row_open {r : Reach} {b0 : Nat} {v : Value} {d : DataW H} {p : List MemPlace} (hv : Value.okWide Tryz.prog w r b0 23 v) (h : DataW.Trod enc Tryz.prog w base spare held 23 v d p) :
    ∃ (n : ByteArray) (u f a k s dd : Int) (wr : Bool), v = .agg #[.string n, .int .i64 u, .int .i64 f, .int .i64 a, .int .i64 k, .int .i64 s, .int .i64 dd, .bool wr] ∧ d = rowD n u f a k s dd wr ∧ p = [] ∧ n.size ≤ maxLen ∧ (Lit.int .i64 u).wf = true ∧ (Lit.int .i64 f).wf = true ∧ (Lit.int .i64 a).wf = true ∧ (Lit.int .i64 k).wf = true ∧ (Lit.int .i64 s).wf = true ∧ (Lit.int .i64 dd).wf = true := by
  have hs := Tryz.underlying23
  obtain ⟨cs, rfl, hsz⟩ := okWide_struct hs hv
  obtain ⟨c0, c1, c2, c3, c4, c5, c6, c7, rfl⟩ := array8 (hsz.trans (show Tryz.prog.cellsOf 23 = 8 by kernel_rfl))
  obtain ⟨fuel, hf⟩ := h
  obtain ⟨xs, m, _, hx, _, hlen, hall⟩ := DataW.trod_struct hs hf
  match xs, hlen with
  | [y0, y1, y2, y3, y4, y5, y6, y7], _ =>
    have hS : Tryz.prog.cellsOf 9 = 1 := by kernel_rfl
    have hI : Tryz.prog.cellsOf 3 = 1 := by kernel_rfl
    have hB : Tryz.prog.cellsOf 4 = 1 := by kernel_rfl
    have g0 := hall 0 _ rfl
    have g1 := hall 1 _ rfl
    have g2 := hall 2 _ rfl
    have g3 := hall 3 _ rfl
    have g4 := hall 4 _ rfl
    have g5 := hall 5 _ rfl
    have g6 := hall 6 _ rfl
    have g7 := hall 7 _ rfl
    simp only [hS, hI, hB, Value.cells, List.drop_zero, List.drop_succ_cons, List.take_succ_cons, List.take_zero, List.getElem?_cons_zero, List.getElem?_cons_succ] at g0 g1 g2 g3 g4 g5 g6 g7
    obtain ⟨n, e0, rfl, hn⟩ := DataW.trod_string Tryz.underlying9 g0
    obtain ⟨u, e1, rfl, h1⟩ := DataW.trod_int Tryz.underlying3 g1
    obtain ⟨f, e2, rfl, h2⟩ := DataW.trod_int Tryz.underlying3 g2
    obtain ⟨a, e3, rfl, h3⟩ := DataW.trod_int Tryz.underlying3 g3
    obtain ⟨k, e4, rfl, h4⟩ := DataW.trod_int Tryz.underlying3 g4
    obtain ⟨s, e5, rfl, h5⟩ := DataW.trod_int Tryz.underlying3 g5
    obtain ⟨dd, e6, rfl, h6⟩ := DataW.trod_int Tryz.underlying3 g6
    obtain ⟨wr, e7, rfl⟩ := DataW.trod_bool Tryz.underlying4 g7
    cases e0; cases e1; cases e2; cases e3; cases e4; cases e5; cases e6; cases e7
    exact ⟨n, u, f, a, k, s, dd, wr, rfl, congrArg Prod.fst hx, congrArg Prod.snd hx, hn, h1, h2, h3, h4, h5, h6⟩
theorem row_shut {n : ByteArray} {u f a k s dd : Int} {wr : Bool} (hn : n.size ≤ maxLen) (h1 : (Lit.int .i64 u).wf = true) (h2 : (Lit.int .i64 f).wf = true) (h3 : (Lit.int .i64 a).wf = true) (h4 : (Lit.int .i64 k).wf = true) (h5 : (Lit.int .i64 s).wf = true) (h6 : (Lit.int .i64 dd).wf = true) :
    DataW.Trod enc Tryz.prog w base spare held 23 (.agg #[.string n, .int .i64 u, .int .i64 f, .int .i64 a, .int .i64 k, .int .i64 s, .int .i64 dd, .bool wr]) (rowD n u f a k s dd wr) [] := by
  have hS : Tryz.prog.cellsOf 9 = 1 := by kernel_rfl
  have hI : Tryz.prog.cellsOf 3 = 1 := by kernel_rfl
  have hB : Tryz.prog.cellsOf 4 = 1 := by kernel_rfl
  have tS : DataW.trod enc Tryz.prog w base spare held 1 9 [.string n] = some (.lit (.string n.data.toList), []) := by simp [DataW.trod, Tryz.underlying9, hn]
  have tI : ∀ z : Int, (Lit.int .i64 z).wf = true → DataW.trod enc Tryz.prog w base spare held 1 3 [.int .i64 z] = some (.lit (.int .i64 z), []) := fun z hz => by simp [DataW.trod, Tryz.underlying3, hz]
  have tB : DataW.trod enc Tryz.prog w base spare held 1 4 [.bool wr] = some (.lit (.bool wr), []) := by simp [DataW.trod, Tryz.underlying4]
  have := trod_struct_mk (enc := enc) (w := w) (base := base) (spare := spare) (held := held) (n := 1) (cs := [.string n, .int .i64 u, .int .i64 f, .int .i64 a, .int .i64 k, .int .i64 s, .int .i64 dd, .bool wr]) (xs := [(.lit (.string n.data.toList), []), (.lit (.int .i64 u), []), (.lit (.int .i64 f), []), (.lit (.int .i64 a), []), (.lit (.int .i64 k), []), (.lit (.int .i64 s), []), (.lit (.int .i64 dd), []), (.lit (.bool wr), [])]) Tryz.underlying23 (by kernel_rfl) (by simp [hS, hI, hB, tS, tB, tI _ h1, tI _ h2, tI _ h3, tI _ h4, tI _ h5, tI _ h6])
  exact ⟨2, this⟩
end
end Go.Proofs.YtenbkjeflancaaaGreatDoor.Card
