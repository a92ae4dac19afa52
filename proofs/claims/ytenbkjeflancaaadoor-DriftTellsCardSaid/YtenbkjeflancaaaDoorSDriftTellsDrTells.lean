/- What the proof of DriftTells leans on: DrTells. -/
import Derived.Test.YtenbkjeflancaaaDoorSDriftTellsDrF
set_option linter.unusedVariables false
set_option linter.unusedSimpArgs false
namespace Go.Proofs.YtenbkjeflancaaaDoor.Dr
open Go Go.RowKit Go.Proofs.YtenbkjeflancaaaDoorW.PrintWords Go.Proofs.YtenbkjeflancaaaDoor.Val Go.Proofs.YtenbkjeflancaaaDoor.Q Go.Proofs.YtenbkjeflancaaaDoor.Cnt
theorem bw {A w w' : World} (h : Below A.heap.size A w) (hb : Below w.heap.size w w') : Below A.heap.size A w' := h.trans (hb.mono h.size)
set_option maxHeartbeats 8000000 in
set_option maxRecDepth 1000000 in
theorem driftTells_calls (n : ByteArray) (u f a kd s d : Int) (wt : Bool) (A : Option Addr) (c : Nat) (l : List (List Int)) (w : World) (hL : Laid w) (hr : kM.C w A l.length l) (hl : l.length ≤ c) (hlen : l.length ≤ 9223372036854775807) (hw : ∀ x ∈ l, x.length ≤ 9223372036854775807) :
    Calls Tryd.prog 3 #[.agg #[.string n, .int .i64 u, .int .i64 f, .int .i64 a, .int .i64 kd, .int .i64 s, .int .i64 d, .bool wt], .slice A l.length c] w fun e w' => e = .returned (.bool true) ∧ Below w.heap.size w w' := by
  have HB0 := (Below.refl w.heap.size w).alloc (Nat.le_refl _) (.cells #[.string n, .int .i64 u, .int .i64 f, .int .i64 a, .int .i64 kd, .int .i64 s, .int .i64 d, .bool wt] 23 (0, 0))
  have hg0 := blk_new w (.cells #[.string n, .int .i64 u, .int .i64 f, .int .i64 a, .int .i64 kd, .int .i64 s, .int .i64 d, .bool wt] 23 (0, 0))
  have cF := few_calls A c l _ (Kd.C_below hr HB0) hl hlen hw
  have cA := fun w1 (h : Below w.heap.size w w1) => awake_calls w1 (hL.below h)
  have cNo := fun h => new_no n u f a kd s d wt _ (hL.below HB0) h
  have cYes := fun h => new_yes n u f a kd s d wt _ (hL.below HB0) h
  cases hfew : fewB l
  · rw [hfew] at cF
    go_enter Tryd.func3, Tryd.ntmps3
    go_wp2_with (go_at_call 7; refine cF.mono ?_; rintro e w1 ⟨rfl, rfl⟩)
    go_ret
    exact ⟨rfl, HB0⟩
  rw [hfew] at cF
  go_enter Tryd.func3, Tryd.ntmps3
  cases hrow : rowB n u f a kd s d wt
  · go_wp2_with (first | (go_at_call 7; refine cF.mono ?_; rintro e w1 ⟨rfl, rfl⟩) | (go_at_call 8; refine (cNo hrow).mono ?_; rintro e w2 ⟨rfl, hb2⟩) | (go_at_call 9; refine (cA _ (HB0.trans (hb2.mono HB0.size))).mono ?_; rintro e w3 ⟨rfl, hb3⟩))
    go_ret
    exact ⟨rfl, (HB0.trans (hb2.mono HB0.size)).trans (hb3.mono (HB0.trans (hb2.mono HB0.size)).size)⟩
  obtain ⟨hl200, hx20⟩ := few_all hfew
  go_wp2_with (first | (go_at_call 7; refine cF.mono ?_; rintro e w1 ⟨rfl, rfl⟩) | (go_at_call 8; refine (cYes hrow).mono ?_; rintro e w2 ⟨db, rfl, hdb, hb2, hk⟩))
  have HB2 := HB0.trans (hb2.mono HB0.size)
  have hg2 := blk_below hg0 hb2
  have hsz : (w.alloc (.cells #[.string n, .int .i64 u, .int .i64 f, .int .i64 a, .int .i64 kd, .int .i64 s, .int .i64 d, .bool wt] 23 (0, 0))).heap.size = w.heap.size + 1 := by simp
  have hdw : w.heap.size ≤ db := by omega
  have hdg : w.heap.size ≠ db := by omega
  have hdB := blk_lt hk
  obtain ⟨B, hB⟩ : ∃ B, B = w2.heap.size := ⟨_, rfl⟩
  rw [← hB] at hdB
  have hD0 : DAt n u f a kd s d wt B w2 db ⟨false, [], 0, 0⟩ := ⟨_, hk, Kd.R_nil _ _ _ _ _, fun h => by cases h⟩
  have hC0 : Kd.C (Kd.int .i64) w none ([] : List Int).length [] := (Kd.R_reads' (Kd.R_nil (Kd.int .i64) 3 w 0 (fun _ => True))).2.2
  have HR := Lib.hid hr
  clear hr hk cF cNo cYes hg0
  go_loopg [7, 8, 9] l.length (fun gk v7 v8 v9 wx => ∃ (i : Nat) (st : DS) (Al : Option Addr) (cl : Nat), v7 = .slice Al st.base.length cl ∧ v8 = .bool st.has ∧ v9 = .int .i64 i ∧ i + gk = l.length ∧ Below w.heap.size w wx ∧ B ≤ wx.heap.size ∧ DAt n u f a kd s d wt B wx db st ∧ wx.heap[w.heap.size]? = some (.cells #[.string n, .int .i64 u, .int .i64 f, .int .i64 a, .int .i64 kd, .int .i64 s, .int .i64 d, .bool wt] 23 (0, 0)) ∧ st.told ≤ i ∧ st.seen ≤ i ∧ Kd.C (Kd.int .i64) w Al st.base.length st.base ∧ st.base.length ≤ cl ∧ st.base.length ≤ 20)
  case atStart => exact ⟨0, ⟨false, [], 0, 0⟩, none, 0, rfl, rfl, rfl, by omega, HB2, by omega, hD0, hg2, Nat.le_refl _, Nat.le_refl _, hC0, Nat.le_refl _, by simp⟩
  case round =>
    obtain ⟨i, st, Al, cl, rfl, rfl, rfl, hig, hB1, hBx, hD, hg, hto, hse, hCl, hcl, hbl⟩ := hrel
    cases gk with
    | zero =>
      have hi : i = l.length := by omega
      have hlt1 : decide ((i : Int) < (l.length : Int)) = false := decide_eq_false (by omega)
      go_wp2_with (first | (go_at_call 9; refine (cA _ hB1).mono ?_; rintro e w3 ⟨rfl, hb3⟩))
      go_ret
      exact ⟨rfl, bw hB1 hb3⟩
    | succ gk =>
      have hi : i < l.length := by omega
      have hlt1 : decide ((i : Int) < (l.length : Int)) = true := decide_eq_true (by omega)
      obtain ⟨ad, Ax, cx, eA, h0, hcx, hC⟩ := at_M HR.out i hi
      subst eA
      have hx := hx20 (l.getD i []) (by rw [List.getD_eq_getElem?_getD, List.getElem?_eq_getElem hi]; exact List.getElem_mem hi)
      have hlt := World.block_lt_of_cell? w _ h0
      have k0 := (hB1.cell hlt).trans h0
      have p0 : ((0 : Int) ≤ (i : Int)) = True := eq_true (by omega)
      have p1 : ((i : Int) < (l.length : Int)) = True := eq_true (by omega)
      have hs1 : IntKind.i64.wrap ((i : Int) + 1) = ((i + 1 : Nat) : Int) := by rw [IntWalk.i64_in _ (by omega)]; rfl
      generalize l.getD i [] = x at *
      have cT := fun W (h : Below w.heap.size w W) => text_calls n u f a kd s d wt Ax cx x W (hL.below h) (Kd.C_below hC h) hcx (by omega)
      have cP := fun W (h : Below w.heap.size w W) => apart_calls n u f a kd s d wt Al cl st.base Ax cx x W (hL.below h) (Kd.C_below hCl h) hcl (Kd.C_below hC h) hcx (by omega) (by omega)
      cases hm : mayB n u f a kd s d wt x
      · have cX := feed_bad hL hB1 hD (Kd.C_below hC hB1) hcx (by omega) hm
        simp only [hm, Bool.false_eq_true, if_false] at cT
        clear cP
        generalize textR n u f a kd s d wt x = tx at *
        go_wp2_with (first
          | (go_at_call 10; refine cX.mono ?_; rintro e w3 ⟨rfl, hb3, hD3⟩; have hB3 := bw hB1 hb3; have hk3 := blk_below hg hb3; have r0 := blk_cell hk3 0; have r1 := blk_cell hk3 1; have r2 := blk_cell hk3 2; have r3 := blk_cell hk3 3; have r4 := blk_cell hk3 4; have r5 := blk_cell hk3 5; have r6 := blk_cell hk3 6; have r7 := blk_cell hk3 7; have k3 := (hB3.cell hlt).trans h0))
        have cT3 := cT (w3.drewN 1) (pw_below_drewN hB3 1)
        go_region_with (go_at_call 11; refine cT3.mono ?_; rintro e w4 ⟨rfl, hb4⟩)
        all_goals (have hB4 := bw (pw_below_drewN hB3 1) hb4; have hD4 := (hD3.below (pw_below_drewN (Below.refl _ _) 1)).below hb4; have hk4 := blk_below (blk_drewN hk3 1) hb4)
        all_goals go_wp2
        all_goals (
          go_roundg gk
          case measure => omega
          case rel => exact ⟨i + 1, st, Al, cl, rfl, rfl, by first | rfl | (rw [hs1]), by omega, hB4, Nat.le_trans hBx (Nat.le_trans hb3.size hb4.size), hD4, hk4, by omega, by omega, hCl, hcl, hbl⟩)
      · have cX := feed_calls hL hB1 hdw hdB hBx hD (fun W1 h => Kd.C_below hC (below_grown hB1 h hdw)) hcx (by omega) hm (by omega) (by omega)
        simp only [hm, if_true] at cT
        obtain ⟨has, base, told, seen⟩ := st
        have hto' : told ≤ i := hto
        have hse' : seen ≤ i := hse
        cases has
        · have hf : feedB n u f a kd s d wt ⟨false, base, told, seen⟩ x = true := rfl
          have eS : feedS n u f a kd s d wt ⟨false, base, told, seen⟩ x = ⟨true, x, told + 1, seen + 1⟩ := by unfold feedS; rw [if_pos hf]
          rw [hf, eS, if_pos rfl] at cX
          clear cP hf eS
          generalize textR n u f a kd s d wt x = tx at *
          go_wp2_with (first
            | (go_at_call 10; refine cX.mono ?_; rintro e w3 ⟨rfl, hg3, hD3⟩; have hB3 := below_grown hB1 hg3 hdw; have hk3 := (hg3.block _ (blk_lt hg) (fun e => by injection e with e; exact hdg e)).trans hg; have r0 := blk_cell hk3 0; have r1 := blk_cell hk3 1; have r2 := blk_cell hk3 2; have r3 := blk_cell hk3 3; have r4 := blk_cell hk3 4; have r5 := blk_cell hk3 5; have r6 := blk_cell hk3 6; have r7 := blk_cell hk3 7; have k3 := (hB3.cell hlt).trans h0))
          have cT3 := cT (w3.drewN 1) (pw_below_drewN hB3 1)
          go_region_with (go_at_call 11; refine cT3.mono ?_; rintro e w4 ⟨rfl, hb4⟩)
          all_goals (have hB4 := bw (pw_below_drewN hB3 1) hb4; have hD4 := (hD3.below (pw_below_drewN (Below.refl _ _) 1)).below hb4; have hk4 := blk_below (blk_drewN hk3 1) hb4; have k4 := (hB4.cell hlt).trans h0)
          all_goals go_wp2
          all_goals (
            go_roundg gk
            case measure => omega
            case rel => exact ⟨i + 1, ⟨true, x, told + 1, seen + 1⟩, Ax, cx, rfl, rfl, by first | rfl | (rw [hs1]), by omega, hB4, Nat.le_trans hBx (Nat.le_trans hg3.size hb4.size), hD4, hk4, Nat.succ_le_succ hto', Nat.succ_le_succ hse', hC, hcx, hx⟩)
        · have hmb : mayB n u f a kd s d wt base = true := by
            obtain ⟨v, _, _, h3⟩ := hD
            exact (h3 rfl).1
          have hf0 : feedB n u f a kd s d wt ⟨true, base, told, seen⟩ x = apartR n u f a kd s d wt base x := rfl
          have cP' := cP
          simp only [hm, hmb, Bool.and_self, if_true] at cP'
          clear cP
          cases hap : apartR n u f a kd s d wt base x
          all_goals (
            rw [hap] at hf0
            simp only [hap] at cP'
            have eS := show feedS n u f a kd s d wt ⟨true, base, told, seen⟩ x = _ from by unfold feedS; rw [hf0]
            rw [hf0, eS] at cX
            simp only [Bool.false_eq_true, if_true, if_false] at cX
            clear hf0 eS
            generalize textR n u f a kd s d wt x = tx at *
            go_wp2_with (first
              | (go_at_call 10; refine cX.mono ?_; rintro e w3 ⟨rfl, hg3, hD3⟩; have hB3 := below_grown hB1 hg3 hdw; have hk3 := (hg3.block _ (blk_lt hg) (fun e => by injection e with e; exact hdg e)).trans hg; have r0 := blk_cell hk3 0; have r1 := blk_cell hk3 1; have r2 := blk_cell hk3 2; have r3 := blk_cell hk3 3; have r4 := blk_cell hk3 4; have r5 := blk_cell hk3 5; have r6 := blk_cell hk3 6; have r7 := blk_cell hk3 7; have k3 := (hB3.cell hlt).trans h0))
            have cT3 := cT (w3.drewN 1) (pw_below_drewN hB3 1)
            go_region_with (go_at_call 11; refine cT3.mono ?_; rintro e w4 ⟨rfl, hb4⟩)
            all_goals (have hB4 := bw (pw_below_drewN hB3 1) hb4; have hD4 := (hD3.below (pw_below_drewN (Below.refl _ _) 1)).below hb4; have hk4 := blk_below (blk_drewN hk3 1) hb4; have k4 := (hB4.cell hlt).trans h0; have z0 := blk_cell hk4 0; have z1 := blk_cell hk4 1; have z2 := blk_cell hk4 2; have z3 := blk_cell hk4 3; have z4 := blk_cell hk4 4; have z5 := blk_cell hk4 5; have z6 := blk_cell hk4 6; have z7 := blk_cell hk4 7)
            all_goals go_wp2
            all_goals (have cP4 := cP' (w4.drewN 1) (pw_below_drewN hB4 1))
            all_goals go_region_with (go_at_call 12; refine cP4.mono ?_; rintro e w5 ⟨rfl, hb5⟩)
            all_goals (have hB5 := bw (pw_below_drewN hB4 1) hb5; have hD5 := (hD4.below (pw_below_drewN (Below.refl _ _) 1)).below hb5; have hk5 := blk_below (blk_drewN hk4 1) hb5; have k5 := (hB5.cell hlt).trans h0)
            all_goals go_wp2
            all_goals (
              go_roundg gk
              case measure => omega
              case rel => first
                | exact ⟨i + 1, ⟨true, base, told, seen + 1⟩, Al, cl, rfl, rfl, by first | rfl | (rw [hs1]), by omega, hB5, Nat.le_trans hBx (Nat.le_trans hg3.size (Nat.le_trans hb4.size hb5.size)), hD5, hk5, Nat.le_succ_of_le hto', Nat.succ_le_succ hse', hCl, hcl, hbl⟩
                | exact ⟨i + 1, ⟨true, x, told + 1, seen + 1⟩, Ax, cx, rfl, rfl, by first | rfl | (rw [hs1]), by omega, hB5, Nat.le_trans hBx (Nat.le_trans hg3.size (Nat.le_trans hb4.size hb5.size)), hD5, hk5, Nat.succ_le_succ hto', Nat.succ_le_succ hse', hC, hcx, hx⟩))
end Go.Proofs.YtenbkjeflancaaaDoor.Dr
