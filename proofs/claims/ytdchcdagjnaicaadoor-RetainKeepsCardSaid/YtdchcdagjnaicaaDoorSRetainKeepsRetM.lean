/- What the proof of RetainKeeps leans on: RetM. -/
import Derived.Test.YtdchcdagjnaicaaDoorSRetainKeepsRetL
set_option linter.unusedVariables false
set_option linter.unusedSimpArgs false
namespace Go.Proofs.YtdchcdagjnaicaaDoor.Rt
open Go Go.RowKit Go.ChangeMaps Go.MapKept Go.Proofs.YtdchcdagjnaicaaDoorW.PrintWords Go.Proofs.YtdchcdagjnaicaaDoor.Q Go.Proofs.YtdchcdagjnaicaaDoor.Mp Go.Proofs.YtdchcdagjnaicaaDoor.Top
def KeepRel (w : World) (kb mb rb : Nat) (l : List Msg) (gk : Nat) (v7 : Value) (wx : World) : Prop :=
  ∃ (i : Nat) (st : List Msg), v7 = .int .i64 i ∧ i + gk = l.length ∧ KAt wx kb mb st ∧ RAt wx rb st ∧ Good st ∧ st.length ≤ i ∧ Below w.heap.size w wx
theorem KAt.nocells {W : World} {kb mb : Nat} {st : List Msg} (h : KAt W kb mb st) : ∀ cells, W.heap[mb]? ≠ some (.cells cells 27 (0, 0)) := by
  obtain ⟨h1, L, ⟨es, clock, hb, _⟩, h3⟩ := h
  intro cells e
  rw [hb] at e
  cases e
theorem keepS {W w w' : World} {a : Addr} {v : Value} (h : Below W.heap.size W w ∧ w.cell? a = some v) (hb : Below w.heap.size w w') : Below W.heap.size W w' ∧ w'.cell? a = some v :=
  ⟨h.1.trans (hb.mono h.1.size), cell_later hb h.2⟩
set_option maxHeartbeats 8000000 in
set_option maxRecDepth 1000000 in
theorem keeps_calls (A : Option Addr) (c : Nat) (l : List Msg) (flt : ByteArray) (w : World) (hL : Laid w) (hr : Kd.C k27 w A l.length l) (hc : l.length ≤ c) :
    Calls Tryd.prog 6 #[.slice A l.length c, .string flt] w fun e w' => e = .returned (.bool true) ∧ Below w.heap.size w w' := by
  have cF := few_calls A c l w hr hc
  cases hf : fewM l
  · rw [hf] at cF
    clear hf hL hr hc
    go_enter Tryd.func6, Tryd.ntmps6
    go_wp2_with (go_at_call 7; refine cF.mono ?_; rintro e w1 ⟨rfl, hb1⟩)
    go_ret
    exact ⟨rfl, hb1⟩
  · rw [hf] at cF
    by_cases h100 : 100 < flt.size
    · clear hf hL hr hc
      have hd : decide ((100 : Int) < (flt.size : Int)) = true := decide_eq_true (by omega)
      go_enter Tryd.func6, Tryd.ntmps6
      go_wp2_with (go_at_call 7; refine cF.mono ?_; rintro e w1 ⟨rfl, hb1⟩)
      go_ret
      exact ⟨rfl, hb1⟩
    have hd : decide ((100 : Int) < (flt.size : Int)) = false := decide_eq_false (by omega)
    have hdN : (100 < flt.size) = False := eq_false h100
    obtain ⟨hl, hsz⟩ := few_all hf
    have HF := Lib.hid (And.intro hl hsz)
    have HC := Lib.hid hr
    have HLd := Lib.hid hL
    clear hf hL hr hl hsz hc h100
    have cN := fun W => new_calls W
    go_enter Tryd.func6, Tryd.ntmps6
    go_wp2_with (first
      | (go_at_call 7; refine cF.mono ?_; rintro e w1 ⟨rfl, hb1⟩; clear cF)
      | (go_at_call 8; refine (cN w1).mono ?_; rintro e w2 ⟨rfl, hK2, hb2⟩))
    have hB2 := hb1.trans (hb2.mono hb1.size)
    have hal := (Below.refl w2.heap.size w2).alloc (Nat.le_refl _) (.cells #[.slice none 0 0] 44 (0, 0))
    have hbx := blk_new w2 (.cells #[.slice none 0 0] 44 (0, 0))
    have hB3 := hB2.trans (hal.mono hB2.size)
    have hK3 := hK2.below hal
    have hR3 : RAt (w2.alloc (.cells #[.slice none 0 0] 44 (0, 0))) w2.heap.size [] := ⟨_, hbx, Kd.R_nil _ _ _ _ _⟩
    have hlt := hK2.lt
    have hn0 : w.heap.size ≤ w1.heap.size ∧ w1.heap.size + 1 ≠ w2.heap.size ∧ w1.heap.size ≠ w2.heap.size ∧ w.heap.size ≤ w2.heap.size := ⟨hb1.size, by omega, by omega, hB2.size⟩
    obtain ⟨mb, hmbe⟩ : ∃ x, x = w1.heap.size := ⟨_, rfl⟩
    obtain ⟨rb, hrbe⟩ : ∃ x, x = w2.heap.size := ⟨_, rfl⟩
    rw [← hmbe] at hK3 hn0 ⊢
    rw [← hrbe] at hR3 hn0 ⊢
    have HN := Lib.hid hn0
    clear hn0 hB2 hb1 hb2 hmbe hrbe cN hdN hd hal hbx hK2 hlt
    go_loopg [7] l.length (fun gk v7 wx => KeepRel w (mb + 1) mb rb l gk v7 wx)
    case atStart => exact ⟨0, [], rfl, by omega, hK3, hR3, fun m hm => by simp at hm, Nat.le_refl _, hB3⟩
    case round =>
      obtain ⟨i, st, rfl, hig, hKr, hRr, hG, hsl, hBr⟩ := hrel
      clear hK3 hR3 hB3
      cases gk with
      | zero =>
        have hi : i = l.length := by omega
        have hnl : (i < l.length) = False := eq_false (by omega)
        have hst : st.length ≤ 100 := by have := HF.out.1; omega
        obtain ⟨v, hvb, hvR⟩ := hRr
        obtain ⟨A0, c0, rfl⟩ := Kd.R_slice hvR
        have HQ := Lib.hid (show ∀ wx, Below wr.heap.size wr wx → wx.heap[rb]? = some (.cells #[.slice A0 st.length c0] 44 (0, 0)) ∧ Kd.R k27 27 wx 0 (fun _ => True) (.slice A0 st.length c0) st from fun wx hb => ⟨blk_below hvb hb, Kd.R_below hvR hb⟩)
        have r0 := blk_cell hvb 0
        have HK := Lib.hid (And.intro hKr (And.intro hG hst))
        have cA := fun W (hb : Below wr.heap.size wr W) => all_calls W (mb + 1) mb st (hKr.below hb) (by omega)
        clear hKr hG hst hvb hvR hsl hig
        go_wp2
        have hS : Below wr.heap.size wr wr ∧ wr.cell? ⟨rb, 0, none⟩ = some (.slice A0 st.length c0) := ⟨Below.refl _ _, r0⟩
        go_region_held3 (fun w' => Below wr.heap.size wr w' ∧ w'.cell? ⟨rb, 0, none⟩ = some (.slice A0 st.length c0))
          (first | assumption | exact keepS (by assumption) (by assumption) | exact keepS (by assumption) ((Below.refl _ _).drew))
          (first
            | (go_at_call 15; refine (cA _ ((Below.refl _ _).drew)).mono ?_; rintro e w4 ⟨v4, rfl, hR4, hb4⟩; have hb4' := ((Below.refl wr.heap.size wr).drew).trans hb4; obtain ⟨A4, c4, rfl⟩ := Kd.R_slice hR4; have cR := rows_calls st A4 A0 c4 c0 w4 (Kd.R_reads' hR4).2.2 (Kd.R_reads' hR4).2.1 (Kd.R_reads' (HQ.out w4 hb4').2).2.2 (Kd.R_reads' (HQ.out w4 hb4').2).2.1 (by have := HK.out.2.2; omega))
            | (go_at_call 16; refine cR.mono ?_; rintro e w5 ⟨rfl, hb5⟩))
        rename_i hH
        have hB5 := hBr.trans (hH.1.mono hBr.size)
        have HH := Lib.hid hH.1
        have cI := fun W => filter12_calls flt W
        have cD := find_calls w5 (mb + 1) mb st flt (HLd.out.below hB5) (HK.out.1.below hH.1) (by have := HK.out.2.2; omega)
        have cW := fun W (hb : Below w.heap.size w W) => awake_calls W (HLd.out.below hb)
        unfold findE findS at cD
        clear hS hH hb5 cA r0 hBr hnl
        cases hif : isFilter flt
        · rw [hif] at cI cD
          simp only [Bool.false_eq_true, if_false] at cD
          clear hif
          go_wp2_with (first
            | (go_at_call 13; refine cD.mono ?_; rintro e w6 ⟨v6, rfl, hR6, hb6⟩; obtain ⟨A6, c6, rfl⟩ := Kd.R_slice hR6; have hB6 := hB5.trans (hb6.mono hB5.size))
            | (go_at_call 12; refine (cI w6).mono ?_; rintro e w7 ⟨rfl, hb7⟩; have hB7 := hB6.trans (hb7.mono hB6.size))
            | (go_at_call 11; refine (cW _ hB7).mono ?_; rintro e w8 ⟨rfl, hb8⟩))
          go_ret
          exact ⟨rfl, hB7.trans (hb8.mono hB7.size)⟩
        · have cRF := fun W (hR : RAt W rb st) => rfind_calls W rb st flt hR HK.out.2.1 hif (by have := HK.out.2.2; omega)
          unfold RFPost at cRF
          rw [hif] at cI cD
          simp only [if_true] at cD
          have hfl : (st.filter (takesM flt)).length ≤ 1000000 := Nat.le_trans (List.length_filter_le _ _) (by have := HK.out.2.2; omega)
          clear hif
          go_wp2_with (first
            | (go_at_call 13; refine cD.mono ?_; rintro e w6 ⟨v6, rfl, hR6, hb6⟩; obtain ⟨A6, c6, rfl⟩ := Kd.R_slice hR6; have hB6 := hB5.trans (hb6.mono hB5.size); have hH6 := HH.out.trans (hb6.mono HH.out.size))
            | (go_at_call 12; refine (cI w6).mono ?_; rintro e w7 ⟨rfl, hb7⟩; have hB7 := hB6.trans (hb7.mono hB6.size); have hH7 := hH6.trans (hb7.mono hH6.size))
            | (go_at_call 11; refine (cW _ hB7).mono ?_; rintro e w8 ⟨rfl, hb8⟩; have hB8 := hB7.trans (hb8.mono hB7.size); have hH8 := hH7.trans (hb8.mono hH7.size))
            | (go_at_call 20; refine (cRF w8 ⟨_, (HQ.out w8 hH8).1, (HQ.out w8 hH8).2⟩).mono ?_; rintro e w9 ⟨v9, rfl, hR9, hb9⟩; obtain ⟨A9, c9, rfl⟩ := Kd.R_slice hR9; have hB9 := hB8.trans (hb9.mono hB8.size); have hR69 := Kd.R_below (Kd.R_below (Kd.R_below hR6 hb7) hb8) hb9; have cR := rows_calls (st.filter (takesM flt)) A6 A9 c6 c9 w9 (Kd.R_reads' hR69).2.2 (Kd.R_reads' hR69).2.1 (Kd.R_reads' hR9).2.2 (Kd.R_reads' hR9).2.1 hfl)
            | (go_at_call 16; refine cR.mono ?_; rintro e w10 ⟨rfl, hb10⟩))
          go_ret
          exact ⟨rfl, hB9.trans (hb10.mono hB9.size)⟩
      | succ gk =>
        have hi : i < l.length := by omega
        have hltN : (i < l.length) = True := eq_true hi
        have hC := Kd.C_below HC.out hBr
        obtain ⟨ad, eA, -⟩ := cells_any hC i hi
        subst eA
        obtain ⟨k0, k1, k2, k3⟩ := cells_some hC i hi
        have p0 : ((0 : Int) ≤ (i : Int)) = True := eq_true (by omega)
        have p1 : ((i : Int) < (l.length : Int)) = True := eq_true (by omega)
        have hs1 : IntKind.i64.wrap ((i : Int) + 1) = ((i + 1 : Nat) : Int) := by rw [IntWalk.i64_in _ (by have := HF.out.1; omega)]; rfl
        have hm := HF.out.2 _ (rd_mem l i hi)
        obtain ⟨m, hmm⟩ : ∃ m, rd_T27 l (i : Int) = m := ⟨_, rfl⟩
        rw [hmm] at k0 k1 k2 k3 hm
        have HM := Lib.hid hmm
        have HS := Lib.hid hKr.srt
        have hok : okS m.f0 := by unfold okS maxLen; omega
        have cP := put_calls wr (mb + 1) mb st m (HLd.out.below hBr) hKr hok
        have cR := fun W (hR : RAt W rb st) => rput_calls W rb st m hR HS.out (by have := HF.out.1; omega)
        obtain ⟨st', hst'⟩ : ∃ x, x = putF st m := ⟨_, rfl⟩
        have HP := Lib.hid (show Srt tpc st' ∧ Good st' ∧ st'.length ≤ i + 1 from by rw [hst']; exact ⟨putF_srt HS.out m, Good.put HS.out hG m, by have := putF_len st m; omega⟩)
        have cA := fun W (hK : KAt W (mb + 1) mb st') => at_calls W (mb + 1) mb st' m.f0 hK hok
        have cQ := fun W (hR : RAt W rb st') => rat_calls W rb st' m.f0 hR HP.out.1 (by have := HP.out.2.2; have := HF.out.1; omega)
        have cC := fun W (hK : KAt W (mb + 1) mb st') => count_calls W (mb + 1) mb st' hK
        unfold msgV PutPost at cP
        unfold RefPost at cR
        unfold msgV at cA cQ
        rw [← hst'] at cP cR
        have HRr := Lib.hid (And.intro hRr hKr.nocells)
        clear hmm hC hm hKr hG hsl hRr hok hst'
        generalize putB m = pb at cP cR
        generalize putE m = pe at cP cR
        generalize atR st' m.f0 = ar at cA cQ
        generalize atB st' m.f0 = ab at cA cQ
        go_wp2_with (first
          | (go_at_call 9; refine cP.mono ?_; rintro e w4 ⟨rfl, hg4, hK4⟩; clear cP; have hB4 := hBr.grown hg4 hBr.size (fun k e => by injection e with e; have := HN.out.1; omega); have hR4 := HRr.out.1.grown hg4 (fun e => HN.out.2.2.1 e.symm) HRr.out.2; obtain ⟨q0, q1, q2, q3⟩ := cells_some (Kd.C_below HC.out hB4) i hi; rw [HM.out] at q0 q1 q2 q3)
          | (go_at_call 18; refine (cR w4 hR4).mono ?_; rintro e w5 ⟨rfl, hg5, hR5⟩; clear cR; have hB5 := hB4.grown hg5 hB4.size (fun k e => by injection e with e; have := HN.out.2.2.2; omega); have hK5 := hK4.grown hg5 HN.out.2.1 HN.out.2.2.1; obtain ⟨t0, -, -, -⟩ := cells_some (Kd.C_below HC.out hB5) i hi; rw [HM.out] at t0)
          | (go_at_call 10; refine (cA w5 hK5).mono ?_; rintro e w6 ⟨rfl, hb6⟩; clear cA; have hb6a := hb6.alloc hb6.size (.cells #[.string ar.f0, .string ar.f1, .int .i64 ar.f2, .bool ar.f3] 27 (0, 0)); have hx6 := blk_new w6 (.cells #[.string ar.f0, .string ar.f1, .int .i64 ar.f2, .bool ar.f3] 27 (0, 0)); have hB6 := hB5.trans (hb6a.mono hB5.size); have hR6 := hR5.below hb6a; have hK6 := hK5.below hb6a; obtain ⟨u0, -, -, -⟩ := cells_some (Kd.C_below HC.out hB6) i hi; rw [HM.out] at u0)
          | (go_at_call 19; refine (cQ _ hR6).mono ?_; rintro e w7 ⟨rfl, hb7⟩; clear cQ; have hb7a := hb7.alloc hb7.size (.cells #[.string ar.f0, .string ar.f1, .int .i64 ar.f2, .bool ar.f3] 27 (0, 0)); have hx7 := blk_new w7 (.cells #[.string ar.f0, .string ar.f1, .int .i64 ar.f2, .bool ar.f3] 27 (0, 0)); have hx67 := blk_below hx6 hb7a; have hB7 := hB6.trans (hb7a.mono hB6.size); have hR7 := hR6.below hb7a; have hK7 := hK6.below hb7a))
        generalize w7.alloc (.cells #[.string ar.f0, .string ar.f1, .int .i64 ar.f2, .bool ar.f3] 27 (0, 0)) = wz at hx7 hx67 hB7 hR7 hK7 ⊢
        have HX := Lib.hid (And.intro hK7 (And.intro hR7 hB7))
        obtain ⟨vR, hvb, hvR⟩ := hR7
        obtain ⟨A0, c0, rfl⟩ := Kd.R_slice hvR
        have r0 := blk_cell hvb 0
        have a0 := blk_cell hx67 0
        have a1 := blk_cell hx67 1
        have a2 := blk_cell hx67 2
        have a3 := blk_cell hx67 3
        have z0 := blk_cell hx7 0
        have z1 := blk_cell hx7 1
        have z2 := blk_cell hx7 2
        have z3 := blk_cell hx7 3
        have cZ : ∀ n, Calls Tryd.prog 17 #[.pointer (some ⟨mb + 1, 0, none⟩)] (wz.drewN n) fun e w' => e = .returned (.int .i64 st'.length) ∧ w' = wz.drewN n := fun n => (cC (wz.drewN n) (hK7.below (pw_below_drewN (Below.refl _ _) n))).mono (fun _ _ h => ⟨h.1, h.2.symm⟩)
        clear hvR hvb hx7 hx67 hK4 hK5 hK6 hK7 hR4 hR5 hR6 hb6 hb7 hb6a hb7a hx6 hg4 hg5 hB4 hB5 hB6 hB7 q0 q1 q2 q3 t0 u0 k0 k1 k2 k3 cC
        go_quiet ((go_at_call 17; exact Calls.quiet_of_same (cZ _)))
        go_wp2
        go_roundg gk
        case measure => omega
        case rel =>
          have hbz := pw_below_drewN (Below.refl wz.heap.size wz) nq
          exact ⟨i + 1, st', by first | rfl | (rw [hs1]), by omega, HX.out.1.below hbz, HX.out.2.1.below hbz, HP.out.2.1, HP.out.2.2, HX.out.2.2.trans (hbz.mono HX.out.2.2.size)⟩
end Go.Proofs.YtdchcdagjnaicaaDoor.Rt
