/- What the proof of DriftSame leans on: DrSame. -/
import Derived.Test.YtenbkjeflancaaaDoorSDriftSameDrF
import Derived.Test.YtenbkjeflancaaaDoorSDriftSameDrBaseS
set_option linter.unusedVariables false
set_option linter.unusedSimpArgs false
namespace Go.Proofs.YtenbkjeflancaaaDoor.Dr
open Go Go.RowKit Go.Proofs.YtenbkjeflancaaaDoorW.PrintWords Go.Proofs.YtenbkjeflancaaaDoor.Val Go.Proofs.YtenbkjeflancaaaDoor.Q Go.Proofs.YtenbkjeflancaaaDoor.Cnt
set_option maxHeartbeats 8000000 in
set_option maxRecDepth 1000000 in
theorem driftSame_calls (n : ByteArray) (u f a kd s d : Int) (wt : Bool) (A : Option Addr) (c : Nat) (l : List (List Int)) (w : World) (hL : Laid w) (hr : kM.C w A l.length l) (hl : l.length ≤ c) (hlen : l.length ≤ 9223372036854775807) (hw : ∀ x ∈ l, x.length ≤ 9223372036854775807) :
    Calls Tryd.prog 4 #[.agg #[.string n, .int .i64 u, .int .i64 f, .int .i64 a, .int .i64 kd, .int .i64 s, .int .i64 d, .bool wt], .slice A l.length c] w fun e w' => e = .returned (.bool true) ∧ Below w.heap.size w w' := by
  have HB0 := (Below.refl w.heap.size w).alloc (Nat.le_refl _) (.cells #[.string n, .int .i64 u, .int .i64 f, .int .i64 a, .int .i64 kd, .int .i64 s, .int .i64 d, .bool wt] 23 (0, 0))
  have hg0 := blk_new w (.cells #[.string n, .int .i64 u, .int .i64 f, .int .i64 a, .int .i64 kd, .int .i64 s, .int .i64 d, .bool wt] 23 (0, 0))
  have cF := few_calls A c l _ (Kd.C_below hr HB0) hl hlen hw
  have cA := fun w1 (h : Below w.heap.size w w1) => awake_calls w1 (hL.below h)
  have cNo := fun h => new_no n u f a kd s d wt _ (hL.below HB0) h
  have cYes := fun h => new_yes n u f a kd s d wt _ (hL.below HB0) h
  cases hfew : fewB l
  · rw [hfew] at cF
    go_enter Tryd.func4, Tryd.ntmps4
    go_wp2_with (go_at_call 7; refine cF.mono ?_; rintro e w1 ⟨rfl, rfl⟩)
    go_ret
    exact ⟨rfl, HB0⟩
  · rw [hfew] at cF
    have r6 := blk_cell hg0 6
    go_enter Tryd.func4, Tryd.ntmps4
    by_cases hd : d = 0
    · subst hd
      cases hrow : rowB n u f a kd s 0 wt
      · go_wp2_with (first | (go_at_call 7; refine cF.mono ?_; rintro e w1 ⟨rfl, rfl⟩) | (go_at_call 8; refine (cNo hrow).mono ?_; rintro e w2 ⟨rfl, hb2⟩) | (go_at_call 9; refine (cA _ (HB0.trans (hb2.mono HB0.size))).mono ?_; rintro e w3 ⟨rfl, hb3⟩))
        go_ret
        exact ⟨rfl, (HB0.trans (hb2.mono HB0.size)).trans (hb3.mono (HB0.trans (hb2.mono HB0.size)).size)⟩
      · obtain ⟨hl200, hx20⟩ := few_all hfew
        go_wp2_with (first | (go_at_call 7; refine cF.mono ?_; rintro e w1 ⟨rfl, rfl⟩) | (go_at_call 8; refine (cYes hrow).mono ?_; rintro e w2 ⟨db, rfl, hdb, hb2, hk⟩))
        have HB2 := HB0.trans (hb2.mono HB0.size)
        have hg2 := blk_below hg0 hb2
        have hsz : (w.alloc (.cells #[.string n, .int .i64 u, .int .i64 f, .int .i64 a, .int .i64 kd, .int .i64 s, .int .i64 0, .bool wt] 23 (0, 0))).heap.size = w.heap.size + 1 := by simp
        have hdw : w.heap.size ≤ db := by omega
        have hdg : w.heap.size ≠ db := by omega
        have hdB := blk_lt hk
        obtain ⟨B, hB⟩ : ∃ B, B = w2.heap.size := ⟨_, rfl⟩
        rw [← hB] at hdB
        have hD0 : DAt n u f a kd s 0 wt B w2 db ⟨false, [], 0, 0⟩ := ⟨_, hk, Kd.R_nil _ _ _ _ _, fun h => by cases h⟩
        have HR := Lib.hid hr
        clear hr hk cF cNo cYes hg0 r6
        go_loopg [7, 8] l.length (fun gk v7 v8 wx => ∃ (i : Nat) (st : DS), v7 = .string (lastT n u f a kd s 0 wt st) ∧ v8 = .int .i64 i ∧ i + gk = l.length ∧ Below w.heap.size w wx ∧ B ≤ wx.heap.size ∧ DAt n u f a kd s 0 wt B wx db st ∧ wx.heap[w.heap.size]? = some (.cells #[.string n, .int .i64 u, .int .i64 f, .int .i64 a, .int .i64 kd, .int .i64 s, .int .i64 0, .bool wt] 23 (0, 0)) ∧ st.told ≤ i ∧ st.seen ≤ i)
        case atStart => exact ⟨0, ⟨false, [], 0, 0⟩, rfl, rfl, by omega, HB2, by omega, hD0, hg2, Nat.le_refl _, Nat.le_refl _⟩
        case round =>
          obtain ⟨i, st, rfl, rfl, hig, hB1, hBx, hD, hg, hto, hse⟩ := hrel
          cases gk with
          | zero =>
            have hi : i = l.length := by omega
            have hlt1 : decide ((i : Int) < (l.length : Int)) = false := decide_eq_false (by omega)
            go_wp2_with (first | (go_at_call 9; refine (cA _ hB1).mono ?_; rintro e w3 ⟨rfl, hb3⟩))
            go_ret
            exact ⟨rfl, hB1.trans (hb3.mono hB1.size)⟩
          | succ gk =>
            have hi : i < l.length := by omega
            have hlt1 : decide ((i : Int) < (l.length : Int)) = true := decide_eq_true (by omega)
            obtain ⟨ad, Ax, cx, eA, h0, hcx, hC⟩ := at_M HR.out i hi
            subst eA
            have hx := hx20 (l.getD i []) (by rw [List.getD_eq_getElem?_getD, List.getElem?_eq_getElem hi]; exact List.getElem_mem hi)
            have hlt := World.block_lt_of_cell? w _ h0
            have k0 := (hB1.cell hlt).trans h0
            have p0 : ((0 : Int) ≤ (i : Int)) = True := eq_true (by omega)
            have p1 : ((i : Int) < (l.length : Int)) = True := eq_true (by omega)
            have hs1 : IntKind.i64.wrap ((i : Int) + 1) = ((i + 1 : Nat) : Int) := by rw [IntWalk.i64_in _ (by omega)]; rfl
            generalize l.getD i [] = x at *
            cases hm : mayB n u f a kd s 0 wt x
            · have cX := feed_bad hL hB1 hD (Kd.C_below hC hB1) hcx (by omega) hm
              go_wp2_with (first | (go_at_call 10; refine cX.mono ?_; rintro e w3 ⟨rfl, hb3, hD3⟩))
              go_roundg gk
              case measure => omega
              case rel => exact ⟨i + 1, st, rfl, by first | rfl | (rw [hs1]), by omega, hB1.trans (hb3.mono hB1.size), Nat.le_trans hBx hb3.size, hD3, blk_below hg hb3, by omega, by omega⟩
            · have cX := feed_calls hL hB1 hdw hdB hBx hD (fun W1 h => Kd.C_below hC (below_grown hB1 h hdw)) hcx (by omega) hm (by omega) (by omega)
              cases hf : feedB n u f a kd s 0 wt st x
              · obtain ⟨has, base, told, seen⟩ := st
                have hh : has = true := by
                  unfold feedB at hf
                  cases has
                  · simp at hf
                  · rfl
                subst hh
                have hto' : told ≤ i := hto
                have hse' : seen ≤ i := hse
                have eS : feedS n u f a kd s 0 wt ⟨true, base, told, seen⟩ x = ⟨true, base, told, seen + 1⟩ := by unfold feedS; rw [hf]; rfl
                have hap : apartR n u f a kd s 0 wt base x = false := by
                  unfold feedB at hf
                  simpa using hf
                have hmb : mayB n u f a kd s 0 wt base = true := by
                  obtain ⟨v, _, _, h3⟩ := hD
                  exact (h3 rfl).1
                have eT := (ap_text n u f a kd s wt base x hrow hmb hm).1 hap
                rw [hf, eS] at cX
                have cL := fun w3 (h3 : Below w.heap.size w w3) (hD : DAt n u f a kd s 0 wt B w3 db ⟨true, base, told, seen + 1⟩) => last_calls hL h3 hD
                have eL : ∀ k m, lastT n u f a kd s 0 wt ⟨true, base, k, m⟩ = textR n u f a kd s 0 wt x := fun k m => by unfold lastT; rw [if_pos rfl, eT]
                have cT := fun W (h : Below w.heap.size w W) => text_calls n u f a kd s 0 wt Ax cx x W (hL.below h) (Kd.C_below hC h) hcx (by omega)
                simp only [eL, hm, if_true] at cL cT ⊢
                have EL := Aside0.mk eL
                clear eL eT hf eS
                generalize textR n u f a kd s 0 wt x = tx at *
                go_wp2_with (first
                  | (go_at_call 10; refine cX.mono ?_; rintro e w3 ⟨rfl, hg3, hD3⟩; have hB3 := below_grown hB1 hg3 hdw; have hk3 := (hg3.block _ (blk_lt hg) (fun e => by injection e with e; exact hdg e)).trans hg)
                  | (go_at_call 13; refine (cL _ hB3 hD3).mono ?_; rintro e w4 ⟨rfl, hb4⟩; have hB4 := hB3.trans (hb4.mono hB3.size); have hD4 := hD3.below hb4; have hk4 := blk_below hk3 hb4; have r0 := blk_cell hk4 0; have r1 := blk_cell hk4 1; have r2 := blk_cell hk4 2; have r3 := blk_cell hk4 3; have r4 := blk_cell hk4 4; have r5 := blk_cell hk4 5; have r6 := blk_cell hk4 6; have r7 := blk_cell hk4 7; have k4 := (hB4.cell hlt).trans h0))
                have cT4 := cT (w4.drewN 1) (pw_below_drewN hB4 1)
                go_region_with (go_at_call 11; refine cT4.mono ?_; rintro e w5 ⟨rfl, hb5⟩)
                all_goals (have hB5 := (pw_below_drewN hB4 1).trans (hb5.mono (pw_below_drewN hB4 1).size); have hD5 := (hD4.below (pw_below_drewN (Below.refl _ _) 1)).below hb5; have hk5 := blk_below (blk_drewN hk4 1) hb5)
                all_goals go_wp2
                all_goals (
                  go_roundg gk
                  case measure => omega
                  case rel => exact ⟨i + 1, ⟨true, base, told, seen + 1⟩, by rw [EL.out], by first | rfl | (rw [hs1]), by omega, hB5, Nat.le_trans hBx (by have := hg3.size; have := hb4.size; have := hb5.size; simp at *; omega), hD5, hk5, Nat.le_succ_of_le hto', Nat.succ_le_succ hse'⟩)
              · have eS : feedS n u f a kd s 0 wt st x = ⟨true, x, st.told + 1, st.seen + 1⟩ := by unfold feedS; rw [if_pos hf]
                rw [hf, eS, if_pos rfl] at cX
                have hne : textR n u f a kd s 0 wt x ≠ lastT n u f a kd s 0 wt st := by
                  obtain ⟨has, base, told, seen⟩ := st
                  unfold lastT
                  cases has
                  · simpa using text_ne n u f a kd s 0 wt x hrow hm
                  · obtain ⟨v, _, _, h3⟩ := hD
                    have hmb := (h3 rfl).1
                    intro he
                    have := (ap_text n u f a kd s wt base x hrow hmb hm).2 (by simpa using he.symm)
                    unfold feedB at hf
                    simp [this] at hf
                have eL : ∀ k m, lastT n u f a kd s 0 wt ⟨true, x, k, m⟩ = textR n u f a kd s 0 wt x := fun k m => by unfold lastT; rw [if_pos rfl]
                have cL := fun w3 (h3 : Below w.heap.size w w3) (hD : DAt n u f a kd s 0 wt B w3 db ⟨true, x, st.told + 1, st.seen + 1⟩) => last_calls hL h3 hD
                have cT := fun W (h : Below w.heap.size w W) => text_calls n u f a kd s 0 wt Ax cx x W (hL.below h) (Kd.C_below hC h) hcx (by omega)
                simp only [eL, hm, if_true] at cL cT
                have EL := Aside0.mk eL
                clear eL hf eS
                generalize textR n u f a kd s 0 wt x = tx at *
                generalize lastT n u f a kd s 0 wt st = ty at *
                have nb1 : (tx.toList == ty.toList) = false := beq_eq_false_iff_ne.2 (fun e => hne (by rw [ByteArray.toList_eq, ByteArray.toList_eq] at e; cases tx; cases ty; simp only [Array.toList_inj] at e; rw [e]))
                go_wp2_with (first
                  | (go_at_call 10; refine cX.mono ?_; rintro e w3 ⟨rfl, hg3, hD3⟩; have hB3 := below_grown hB1 hg3 hdw; have hk3 := (hg3.block _ (blk_lt hg) (fun e => by injection e with e; exact hdg e)).trans hg)
                  | (go_at_call 13; refine (cL _ hB3 hD3).mono ?_; rintro e w4 ⟨rfl, hb4⟩; have hB4 := hB3.trans (hb4.mono hB3.size); have hD4 := hD3.below hb4; have hk4 := blk_below hk3 hb4; have r0 := blk_cell hk4 0; have r1 := blk_cell hk4 1; have r2 := blk_cell hk4 2; have r3 := blk_cell hk4 3; have r4 := blk_cell hk4 4; have r5 := blk_cell hk4 5; have r6 := blk_cell hk4 6; have r7 := blk_cell hk4 7; have k4 := (hB4.cell hlt).trans h0))
                have cT4 := cT (w4.drewN 1) (pw_below_drewN hB4 1)
                go_region_with (go_at_call 11; refine cT4.mono ?_; rintro e w5 ⟨rfl, hb5⟩)
                all_goals (have hB5 := (pw_below_drewN hB4 1).trans (hb5.mono (pw_below_drewN hB4 1).size); have hD5 := (hD4.below (pw_below_drewN (Below.refl _ _) 1)).below hb5; have hk5 := blk_below (blk_drewN hk4 1) hb5)
                all_goals go_wp2
                all_goals (
                  go_roundg gk
                  case measure => omega
                  case rel => exact ⟨i + 1, ⟨true, x, st.told + 1, st.seen + 1⟩, by rw [EL.out], by first | rfl | (rw [hs1]), by omega, hB5, Nat.le_trans hBx (by have := hg3.size; have := hb4.size; have := hb5.size; simp at *; omega), hD5, hk5, Nat.succ_le_succ hto, Nat.succ_le_succ hse⟩)
    · have q0 : decide (d = 0) = false := decide_eq_false hd
      go_wp2_with (first | (go_at_call 7; refine cF.mono ?_; rintro e w1 ⟨rfl, rfl⟩))
      go_ret
      exact ⟨rfl, HB0⟩
end Go.Proofs.YtenbkjeflancaaaDoor.Dr
