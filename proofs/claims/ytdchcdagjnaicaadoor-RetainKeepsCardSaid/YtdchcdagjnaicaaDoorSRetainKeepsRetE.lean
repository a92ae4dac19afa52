/- What the proof of RetainKeeps leans on: RetE. -/
import Derived.Test.YtdchcdagjnaicaaDoorSRetainKeepsRetD
set_option linter.unusedVariables false
set_option linter.unusedSimpArgs false
namespace Go.Proofs.YtdchcdagjnaicaaDoor.Rt
open Go Go.RowKit Go.ChangeMaps Go.MapKept Go.Proofs.YtdchcdagjnaicaaDoorW.PrintWords Go.Proofs.YtdchcdagjnaicaaDoor.Q Go.Proofs.YtdchcdagjnaicaaDoor.Mp Go.Proofs.YtdchcdagjnaicaaDoor.Top
def am1 : Msg := ⟨⟨#[97, 47, 98]⟩, ⟨#[120]⟩, 0, true⟩
def am2 : Msg := ⟨⟨#[97]⟩, ⟨#[121]⟩, 0, true⟩
def am3 : Msg := ⟨⟨#[97]⟩, ⟨#[122]⟩, 0, false⟩
theorem p1 : putB am1 = true := by decide +kernel
theorem p2 : putB am2 = true := by decide +kernel
theorem p3 : putB am3 = false := by decide +kernel
theorem e1 : putE am1 = 0 := by decide +kernel
theorem e2 : putE am2 = 0 := by decide +kernel
theorem e3 : putE am3 = 0 := by decide +kernel
theorem s1 : putF [] am1 = [am1] := by
  unfold putF
  rw [if_pos p1, if_neg (by decide +kernel)]
  rfl
theorem s2 : putF [am1] am2 = [am2, am1] := by
  unfold putF
  rw [if_pos p2, if_neg (by decide +kernel)]
  unfold putS
  rw [if_pos (by decide +kernel)]
theorem s3 : putF [am2, am1] am3 = [am2, am1] := by
  unfold putF
  rw [if_neg (by rw [p3]; decide)]
def fAll : ByteArray := ⟨#[35]⟩
theorem f1 : findS [am2, am1] fAll = [am2, am1] := by
  unfold findS
  rw [if_pos (by decide +kernel), List.filter_cons, if_pos (by decide +kernel), List.filter_cons, if_pos (by decide +kernel)]
  rfl
theorem f2 : findE fAll = 0 := by decide +kernel
theorem cells_at {w : World} {g n : Nat} {xs : List Msg} (h : Kd.C k27 w (some ⟨g, 0, none⟩) n xs) (i : Nat) (hi : i < n) : w.cell? ⟨g, i * 4, none⟩ = some (.string (rd_T27 xs i).f0) ∧ w.cell? ⟨g, i * 4 + 1, none⟩ = some (.string (rd_T27 xs i).f1) ∧ w.cell? ⟨g, i * 4 + 2, none⟩ = some (.int .i64 (rd_T27 xs i).f2) ∧ w.cell? ⟨g, i * 4 + 3, none⟩ = some (.bool (rd_T27 xs i).f3) := by
  obtain ⟨ad, e, h0, h1, h2, h3⟩ := at_T27 h (i : Int) (by omega) (by omega)
  have e' : (⟨g, 0, none⟩ : Addr) = ad := by injection e
  subst e'
  have ea : (⟨g, 0, none⟩ : Addr).add ((i : Int).toNat * 4) = ⟨g, i * 4, none⟩ := by
    rw [Int.toNat_natCast]
    unfold Addr.add
    split
    · rename_i h; rw [h]
    · simp
  rw [ea] at h0 h1 h2 h3
  exact ⟨h0, h1, h2, h3⟩
set_option maxHeartbeats 8000000 in
set_option maxRecDepth 1000000 in
theorem awake_calls (w : World) (hL : Laid w) : Calls Tryd.prog 11 #[] w fun e w' => e = .returned (.bool true) ∧ Below w.heap.size w w' := by
  have cN := new_calls w
  have c1 := fun W (hb : Below w.heap.size w W) hK => put_calls W (w.heap.size + 1) w.heap.size [] am1 (hL.below hb) hK (by unfold okS maxLen; decide)
  have c2 := fun W (hb : Below w.heap.size w W) hK => put_calls W (w.heap.size + 1) w.heap.size [am1] am2 (hL.below hb) hK (by unfold okS maxLen; decide)
  have c3 := fun W (hb : Below w.heap.size w W) hK => put_calls W (w.heap.size + 1) w.heap.size [am2, am1] am3 (hL.below hb) hK (by unfold okS maxLen; decide)
  have c4 := fun W (hb : Below w.heap.size w W) hK => find_calls W (w.heap.size + 1) w.heap.size [am2, am1] fAll (hL.below hb) hK (by decide)
  rw [f1, f2] at c4
  have c5 := fun W hK => count_calls W (w.heap.size + 1) w.heap.size [am2, am1] hK
  unfold PutPost at c1 c2 c3
  rw [p1, e1, s1] at c1
  rw [p2, e2, s2] at c2
  rw [p3, e3, s3] at c3
  unfold fAll at c4
  clear hL
  go_enter Tryd.func11, Tryd.ntmps11
  go_wp2_with (first
    | (go_at_call 8; refine cN.mono ?_; rintro e w1 ⟨rfl, hK1, hb1⟩)
    | (go_at_call 9; first
        | (refine (c1 _ hb1 hK1).mono ?_; rintro e w2 ⟨rfl, hg2, hK2⟩; have hb2 := hb1.grown hg2 hb1.size (fun k e => by injection e with e; omega); clear hg2 c1)
        | (refine (c2 _ hb2 hK2).mono ?_; rintro e w3 ⟨rfl, hg3, hK3⟩; have hb3 := hb2.grown hg3 hb2.size (fun k e => by injection e with e; omega); clear hg3 c2)
        | (refine (c3 _ hb3 hK3).mono ?_; rintro e w4 ⟨rfl, hg4, hK4⟩; have hb4 := hb3.grown hg4 hb3.size (fun k e => by injection e with e; omega); clear hg4 c3))
    | (go_at_call 13; refine (c4 _ hb4 hK4).mono ?_; rintro e w5 ⟨v, rfl, hR, hb5⟩; have hK5 := hK4.below hb5; obtain ⟨g, cap, rfl, -⟩ := Kd.R_form hR (by decide); have hC := (Kd.R_reads' hR).2.2; have q0 : w5.cell? ⟨g, 1, none⟩ = some (.string ⟨#[121]⟩) := (cells_at hC 0 (by decide)).2.1; have q1 : w5.cell? ⟨g, 5, none⟩ = some (.string ⟨#[120]⟩) := (cells_at hC 1 (by decide)).2.1; have hB := hb4.trans (hb5.mono hb4.size); clear hC hR)
    | (go_at_call 17; refine (c5 _ hK5).mono ?_; rintro e w6 ⟨rfl, rfl⟩))
  go_ret
  exact ⟨rfl, hB⟩
end Go.Proofs.YtdchcdagjnaicaaDoor.Rt
