/- What the proof of RetainLast leans on: RetG. -/
import Derived.Test.YtdchcdagjnaicaaDoorSRetainLastRetF
set_option linter.unusedVariables false
set_option linter.unusedSimpArgs false
namespace Go.Proofs.YtdchcdagjnaicaaDoor.Rt
open Go Go.RowKit Go.ChangeMaps Go.MapKept Go.Proofs.YtdchcdagjnaicaaDoorW.PrintWords Go.Proofs.YtdchcdagjnaicaaDoor.Q Go.Proofs.YtdchcdagjnaicaaDoor.Mp Go.Proofs.YtdchcdagjnaicaaDoor.Top
def hitM (m : Msg) (t : ByteArray) : Bool := ((putE m == 0) && m.f3) && (m.f0.toList == t.toList)
theorem hit_iff (m : Msg) (t : ByteArray) : hitM m t = (putB m && decide (m.f0 = t)) := by
  have e : (m.f0.toList == t.toList) = decide (m.f0 = t) := by
    by_cases h : m.f0 = t
    · rw [h, decide_eq_true rfl]; simp
    · rw [decide_eq_false h]
      exact beq_eq_false_iff_ne.2 (fun e => h (ba_inj (by rw [← Lib.toList_data, ← Lib.toList_data]; exact e)))
  unfold hitM
  rw [e]
  congr 1
  unfold putE putB
  cases isName m.f0
  · rfl
  · cases (decide (m.f2 < 0) || decide (2 < m.f2)) <;> simp
def Inv (st : List Msg) (t : ByteArray) (has : Bool) (want : Msg) : Prop := getS tpc st t = if has = true then some want else none
theorem Inv.step {st : List Msg} {t : ByteArray} {has : Bool} {want : Msg} (hs : Srt tpc st) (h : Inv st t has want) (m : Msg) : Inv (putF st m) t (if hitM m t = true then !m.f1.toList.isEmpty else has) (if hitM m t = true then m else want) := by
  unfold Inv at *
  rw [hit_iff]
  unfold putF
  cases hp : putB m
  · simp only [Bool.false_and, Bool.false_eq_true, if_false]
    exact h
  · simp only [Bool.true_and, if_true, decide_eq_true_eq]
    by_cases ht : m.f0 = t
    · rw [if_pos ht, if_pos ht]
      cases he : m.f1.toList.isEmpty
      · simp only [Bool.false_eq_true, if_false, Bool.not_false, if_true]
        rw [getS_put hs, if_pos ht]
      · simp only [if_true, Bool.not_true, Bool.false_eq_true, if_false]
        rw [getS_del hs, if_pos ht]
    · rw [if_neg ht, if_neg ht, ← h]
      cases he : m.f1.toList.isEmpty
      · simp only [Bool.false_eq_true, if_false]
        rw [getS_put hs, if_neg ht]
      · simp only [if_true]
        rw [getS_del hs, if_neg ht]
theorem cells_some {w : World} {ad : Addr} {xs : List Msg} (h : Kd.C k27 w (some ad) xs.length xs) (i : Nat) (hi : i < xs.length) : w.cell? (ad.add (i * 4)) = some (.string (rd_T27 xs i).f0) ∧ w.cell? ⟨(ad.add (i * 4)).block, (ad.add (i * 4)).off + 1, none⟩ = some (.string (rd_T27 xs i).f1) ∧ w.cell? ⟨(ad.add (i * 4)).block, (ad.add (i * 4)).off + 2, none⟩ = some (.int .i64 (rd_T27 xs i).f2) ∧ w.cell? ⟨(ad.add (i * 4)).block, (ad.add (i * 4)).off + 3, none⟩ = some (.bool (rd_T27 xs i).f3) := by
  obtain ⟨ad', e, h⟩ := cells_any h i hi
  injection e with e
  subst e
  exact h
theorem grown_set {A B : World} {g : Nat} (h : A.grownBy B (some g)) (j : Nat) (u : Value) : A.grownBy (B.setCell ⟨g, j, none⟩ u) (some g) := by
  have hs : (B.setCell ⟨g, j, none⟩ u).heap.size = B.heap.size := World.size_setCell _ _ _
  exact ⟨h.os, h.tape, h.output, by rw [hs]; exact h.size, fun b hb hr => (Below.heap_setCell B ⟨g, j, none⟩ u b (fun e => hr (by rw [e]))).trans (h.block b hb hr)⟩
def LastRel (w : World) (kb mb wb : Nat) (l : List Msg) (t : ByteArray) (gk : Nat) (v7 v8 : Value) (wx : World) : Prop :=
  ∃ (i : Nat) (has : Bool) (want : Msg) (st : List Msg), v7 = .bool has ∧ v8 = .int .i64 i ∧ i + gk = l.length ∧ KAt wx kb mb st ∧ Inv st t has want ∧ wx.heap[wb]? = some (.cells #[.string want.f0, .string want.f1, .int .i64 want.f2, .bool want.f3] 27 (0, 0)) ∧ Below w.heap.size w wx
set_option maxHeartbeats 8000000 in
set_option maxRecDepth 1000000 in
theorem last_calls (A : Option Addr) (c : Nat) (l : List Msg) (t : ByteArray) (w : World) (hL : Laid w) (hr : Kd.C k27 w A l.length l) (hc : l.length ≤ c) (ht : okS t) :
    Calls Tryd.prog 3 #[.slice A l.length c, .string t] w fun e w' => e = .returned (.bool true) ∧ Below w.heap.size w w' := by
  have cF := few_calls A c l w hr hc
  cases hf : fewM l
  · rw [hf] at cF
    clear hf hL hr hc ht
    go_enter Tryd.func3, Tryd.ntmps3
    go_wp2_with (go_at_call 7; refine cF.mono ?_; rintro e w1 ⟨rfl, hb1⟩)
    go_ret
    exact ⟨rfl, hb1⟩
  · rw [hf] at cF
    obtain ⟨hl, hsz⟩ := few_all hf
    have HF := Lib.hid (And.intro hl hsz)
    have HC := Lib.hid hr
    have HLd := Lib.hid hL
    have HT := Lib.hid ht
    clear hf hL hr ht hl hsz hc
    have cN := fun W => new_calls W
    go_enter Tryd.func3, Tryd.ntmps3
    go_wp2_with (first
      | (go_at_call 7; refine cF.mono ?_; rintro e w1 ⟨rfl, hb1⟩)
      | (go_at_call 8; refine (cN _).mono ?_; rintro e w2 ⟨rfl, hK2, hb2⟩))
    have hB2 := hb1.trans (hb2.mono hb1.size)
    have hal := (Below.refl w2.heap.size w2).alloc (Nat.le_refl _) (.cells #[.string ⟨#[]⟩, .string ⟨#[]⟩, .int .i64 0, .bool false] 27 (0, 0))
    have hwb0 := blk_new w2 (.cells #[.string ⟨#[]⟩, .string ⟨#[]⟩, .int .i64 0, .bool false] 27 (0, 0))
    have hK3 := hK2.below hal
    have hB3 := hB2.trans (hal.mono hB2.size)
    have hlt := hK2.lt
    have hn0 : w.heap.size ≤ w1.heap.size ∧ w2.heap.size ≠ w1.heap.size + 1 ∧ w2.heap.size ≠ w1.heap.size := ⟨hb1.size, by omega, by omega⟩
    have hW : w.heap.size ≤ w2.heap.size := hB2.size
    obtain ⟨wb, hwbe⟩ : ∃ x, x = w2.heap.size := ⟨_, rfl⟩
    obtain ⟨kb, hkbe⟩ : ∃ x, x = w1.heap.size + 1 := ⟨_, rfl⟩
    obtain ⟨mb, hmbe⟩ : ∃ x, x = w1.heap.size := ⟨_, rfl⟩
    rw [← hwbe] at hwb0 hn0 hW ⊢
    rw [← hkbe] at hK3 hn0 ⊢
    rw [← hmbe] at hK3 hn0
    have HN := Lib.hid hn0
    clear hn0 hlt hal hB2 hb1 hb2 hK2 hwbe hkbe hmbe cN cF
    go_loopg [7, 8] l.length (fun gk v7 v8 wx => LastRel w kb mb wb l t gk v7 v8 wx)
    case atStart => exact ⟨0, false, zM, [], rfl, rfl, by omega, hK3, rfl, hwb0, hB3⟩
    case round =>
      obtain ⟨i, has, want, st, rfl, rfl, hig, hKr, hI, hwb, hBr⟩ := hrel
      have HI := Lib.hid hI
      clear hI hK3 hwb0 hB3
      cases gk with
      | zero =>
        have hi : i = l.length := by omega
        have hlt1 : decide ((i : Int) < (l.length : Int)) = false := decide_eq_false (by omega)
        have cW := fun W (hb : Below w.heap.size w W) => awake_calls W (HLd.out.below hb)
        cases has
        · have hg : getS tpc st t = none := HI.out
          have eR : atR st t = zM := by unfold atR; rw [hg]; rfl
          have eB : atB st t = false := by unfold atB; rw [hg]; rfl
          have cA := at_calls wr kb mb st t hKr HT.out
          rw [eR, eB] at cA
          simp only [msgV, zM] at cA
          clear eR eB hg hwb hKr
          go_wp2_with (first
            | (go_at_call 10; refine cA.mono ?_; rintro e w4 ⟨rfl, hb4⟩; have hB4 := hBr.trans (hb4.mono hBr.size); have hk4 := blk_new w4 (.cells #[.string ⟨#[]⟩, .string ⟨#[]⟩, .int .i64 0, .bool false] 27 (0, 0)); have hB5 := hB4.alloc hB4.size (.cells #[.string ⟨#[]⟩, .string ⟨#[]⟩, .int .i64 0, .bool false] 27 (0, 0)))
            | (go_at_call 11; refine (cW _ hB5).mono ?_; rintro e w6 ⟨rfl, hb6⟩; have hk6 := blk_below hk4 hb6; have q0 := blk_cell hk6 0; have q1 := blk_cell hk6 1; have q2 := blk_cell hk6 2; have q3 := blk_cell hk6 3))
          go_ret
          exact ⟨rfl, hB5.trans (hb6.mono hB5.size)⟩
        · have hg : getS tpc st t = some want := HI.out
          have eR : atR st t = want := by unfold atR; rw [hg]; rfl
          have eB : atB st t = true := by unfold atB; rw [hg]; rfl
          have cA := at_calls wr kb mb st t hKr HT.out
          rw [eR, eB] at cA
          unfold msgV at cA
          have HWB := Lib.hid hwb
          clear eR eB hg hwb hKr
          go_wp2_with (first
            | (go_at_call 10; refine cA.mono ?_; rintro e w4 ⟨rfl, hb4⟩; have hB4 := hBr.trans (hb4.mono hBr.size); have hk4 := blk_new w4 (.cells #[.string want.f0, .string want.f1, .int .i64 want.f2, .bool want.f3] 27 (0, 0)); have hB5 := hB4.alloc hB4.size (.cells #[.string want.f0, .string want.f1, .int .i64 want.f2, .bool want.f3] 27 (0, 0)); have hv4 := blk_alloc (blk_below HWB.out hb4) (.cells #[.string want.f0, .string want.f1, .int .i64 want.f2, .bool want.f3] 27 (0, 0)))
            | (go_at_call 11; refine (cW _ hB5).mono ?_; rintro e w6 ⟨rfl, hb6⟩; have hk6 := blk_below hk4 hb6; have hv6 := blk_below hv4 hb6; have q0 := blk_cell hk6 0; have q1 := blk_cell hk6 1; have q2 := blk_cell hk6 2; have q3 := blk_cell hk6 3; have u0 := blk_cell hv6 0; have u1 := blk_cell hv6 1; have u2 := blk_cell hv6 2; have u3' := blk_cell hv6 3))
          go_ret
          exact ⟨rfl, hB5.trans (hb6.mono hB5.size)⟩
      | succ gk =>
        have hi : i < l.length := by omega
        have hlt1 : decide ((i : Int) < (l.length : Int)) = true := decide_eq_true (by omega)
        have hC := Kd.C_below HC.out hBr
        obtain ⟨ad, eA, -⟩ := cells_any hC i hi
        subst eA
        obtain ⟨k0, k1, k2, k3⟩ := cells_some hC i hi
        have p0 : ((0 : Int) ≤ (i : Int)) = True := eq_true (by omega)
        have p1 : ((i : Int) < (l.length : Int)) = True := eq_true (by omega)
        have hs1 : IntKind.i64.wrap ((i : Int) + 1) = ((i + 1 : Nat) : Int) := by rw [IntWalk.i64_in _ (by have := HF.out.1; omega)]; rfl
        have hm := HF.out.2 _ (rd_mem l i hi)
        obtain ⟨m, hmm⟩ : ∃ m, rd_T27 l (i : Int) = m := ⟨_, rfl⟩
        rw [hmm] at k0 k1 k2 k3 hm
        have HM := Lib.hid hmm
        have HS := Lib.hid hKr.srt
        have cP := put_calls wr kb mb st m (HLd.out.below hBr) hKr (by unfold okS maxLen; omega)
        unfold msgV PutPost at cP
        clear hmm hC hm hKr
        cases h0 : (putE m == 0)
        · have HT2 := Lib.hid (show hitM m t = false by unfold hitM; rw [h0]; rfl)
          go_wp2_with (go_at_call 9; refine cP.mono ?_; rintro e w4 ⟨rfl, hg4, hK4⟩; have hB4 := hBr.grown hg4 hBr.size (fun k e => by injection e with e; have := HN.out.1; omega); obtain ⟨q0, q1, q2, q3⟩ := cells_some (Kd.C_below HC.out hB4) i hi; rw [HM.out] at q0 q1 q2 q3; have hwb4 := (hg4.block wb (blk_lt hwb) (fun e => by injection e with e; exact HN.out.2.2 e)).trans hwb; have hb0 := blk_cell hwb4 0; have hb1' := blk_cell hwb4 1; have hb2' := blk_cell hwb4 2; have hb3' := blk_cell hwb4 3; have qf := fun j => blk_frozen hwb4 j)
          go_roundg gk
          case measure => omega
          case rel =>
            have hI := Inv.step HS.out HI.out m
            rw [HT2.out] at hI
            exact ⟨i + 1, _, _, _, rfl, by first | rfl | (rw [hs1]), by omega, hK4, hI, hwb4, hB4⟩
        · cases h3 : m.f3
          · have HT2 := Lib.hid (show hitM m t = false by unfold hitM; rw [h0, h3]; rfl)
            rw [h3] at k3 cP
            have HX := Lib.hid h3
            go_wp2_with (go_at_call 9; refine cP.mono ?_; rintro e w4 ⟨rfl, hg4, hK4⟩; have hB4 := hBr.grown hg4 hBr.size (fun k e => by injection e with e; have := HN.out.1; omega); obtain ⟨q0, q1, q2, q3⟩ := cells_some (Kd.C_below HC.out hB4) i hi; rw [HM.out] at q0 q1 q2 q3; rw [HX.out] at q3; have hwb4 := (hg4.block wb (blk_lt hwb) (fun e => by injection e with e; exact HN.out.2.2 e)).trans hwb; have hb0 := blk_cell hwb4 0; have hb1' := blk_cell hwb4 1; have hb2' := blk_cell hwb4 2; have hb3' := blk_cell hwb4 3; have qf := fun j => blk_frozen hwb4 j)
            go_roundg gk
            case measure => omega
            case rel =>
              have hI := Inv.step HS.out HI.out m
              rw [HT2.out] at hI
              exact ⟨i + 1, _, _, _, rfl, by first | rfl | (rw [hs1]), by omega, hK4, hI, hwb4, hB4⟩
          · rw [h3] at k3 cP
            have HX := Lib.hid h3
            cases hq : (m.f0.toList == t.toList)
            · have HT2 := Lib.hid (show hitM m t = false by unfold hitM; rw [h0, h3, hq]; rfl)
              clear h3
              go_wp2_with (go_at_call 9; refine cP.mono ?_; rintro e w4 ⟨rfl, hg4, hK4⟩; have hB4 := hBr.grown hg4 hBr.size (fun k e => by injection e with e; have := HN.out.1; omega); obtain ⟨q0, q1, q2, q3⟩ := cells_some (Kd.C_below HC.out hB4) i hi; rw [HM.out] at q0 q1 q2 q3; rw [HX.out] at q3; have hwb4 := (hg4.block wb (blk_lt hwb) (fun e => by injection e with e; exact HN.out.2.2 e)).trans hwb; have hb0 := blk_cell hwb4 0; have hb1' := blk_cell hwb4 1; have hb2' := blk_cell hwb4 2; have hb3' := blk_cell hwb4 3; have qf := fun j => blk_frozen hwb4 j)
              go_roundg gk
              case measure => omega
              case rel =>
                have hI := Inv.step HS.out HI.out m
                rw [HT2.out] at hI
                exact ⟨i + 1, _, _, _, rfl, by first | rfl | (rw [hs1]), by omega, hK4, hI, hwb4, hB4⟩
            · have HT2 := Lib.hid (show hitM m t = true by unfold hitM; rw [h0, h3, hq]; rfl)
              clear h3
              cases he : m.f1.toList.isEmpty
              · have e1 : (m.f1.toList == []) = false := by cases h : m.f1.toList with | nil => rw [h] at he; cases he | cons x l => rfl
                have HE := Lib.hid he
                clear he
                go_wp2_with (go_at_call 9; refine cP.mono ?_; rintro e w4 ⟨rfl, hg4, hK4⟩; have hB4 := hBr.grown hg4 hBr.size (fun k e => by injection e with e; have := HN.out.1; omega); obtain ⟨q0, q1, q2, q3⟩ := cells_some (Kd.C_below HC.out hB4) i hi; rw [HM.out] at q0 q1 q2 q3; rw [HX.out] at q3; have hwb4 := (hg4.block wb (blk_lt hwb) (fun e => by injection e with e; exact HN.out.2.2 e)).trans hwb; have hb0 := blk_cell hwb4 0; have hb1' := blk_cell hwb4 1; have hb2' := blk_cell hwb4 2; have hb3' := blk_cell hwb4 3; have qf := fun j => blk_frozen hwb4 j)
                have hwb5 := blk_set (blk_set (blk_set (blk_set hwb4 0 (.string m.f0)) 1 (.string m.f1)) 2 (.int .i64 m.f2)) 3 (.bool true)
                have hgs := grown_set (grown_set (grown_set (grown_set (grown_below (r := some wb) (Below.refl w4.heap.size w4)) 0 (.string m.f0)) 1 (.string m.f1)) 2 (.int .i64 m.f2)) 3 (.bool true)
                have hK5 := hK4.grown hgs (fun e => HN.out.2.1 e.symm) (fun e => HN.out.2.2 e.symm)
                go_roundg gk
                case measure => omega
                case rel =>
                  have hI := Inv.step HS.out HI.out m
                  rw [HT2.out, HE.out] at hI
                  exact ⟨i + 1, _, m, _, rfl, by first | rfl | (rw [hs1]), by omega, hK5, hI, by rw [HX.out]; exact hwb5, below_set (below_set (below_set (below_set hB4 hW) hW) hW) hW⟩
              · have e1 : m.f1.toList = [] := List.isEmpty_iff.1 he
                have HE := Lib.hid he
                clear he
                go_wp2_with (go_at_call 9; refine cP.mono ?_; rintro e w4 ⟨rfl, hg4, hK4⟩; have hB4 := hBr.grown hg4 hBr.size (fun k e => by injection e with e; have := HN.out.1; omega); obtain ⟨q0, q1, q2, q3⟩ := cells_some (Kd.C_below HC.out hB4) i hi; rw [HM.out] at q0 q1 q2 q3; rw [HX.out] at q3; have hwb4 := (hg4.block wb (blk_lt hwb) (fun e => by injection e with e; exact HN.out.2.2 e)).trans hwb; have hb0 := blk_cell hwb4 0; have hb1' := blk_cell hwb4 1; have hb2' := blk_cell hwb4 2; have hb3' := blk_cell hwb4 3; have qf := fun j => blk_frozen hwb4 j)
                have hwb5 := blk_set (blk_set (blk_set (blk_set hwb4 0 (.string m.f0)) 1 (.string m.f1)) 2 (.int .i64 m.f2)) 3 (.bool true)
                have hgs := grown_set (grown_set (grown_set (grown_set (grown_below (r := some wb) (Below.refl w4.heap.size w4)) 0 (.string m.f0)) 1 (.string m.f1)) 2 (.int .i64 m.f2)) 3 (.bool true)
                have hK5 := hK4.grown hgs (fun e => HN.out.2.1 e.symm) (fun e => HN.out.2.2 e.symm)
                go_roundg gk
                case measure => omega
                case rel =>
                  have hI := Inv.step HS.out HI.out m
                  rw [HT2.out, HE.out] at hI
                  exact ⟨i + 1, _, m, _, rfl, by first | rfl | (rw [hs1]), by omega, hK5, hI, by rw [HX.out]; exact hwb5, below_set (below_set (below_set (below_set hB4 hW) hW) hW) hW⟩
end Go.Proofs.YtdchcdagjnaicaaDoor.Rt
