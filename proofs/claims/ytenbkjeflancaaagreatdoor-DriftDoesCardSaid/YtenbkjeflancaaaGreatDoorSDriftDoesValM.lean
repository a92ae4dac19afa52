/- What the proof of DriftDoes leans on: ValM. -/
import Derived.Test.YtenbkjeflancaaaGreatDoorSDriftDoesPTab
import Derived.Test.YtenbkjeflancaaaGreatDoorSDriftDoesValA
import Derived.Test.YtenbkjeflancaaaGreatDoorSDriftDoesValI
import Derived.Test.YtenbkjeflancaaaGreatDoorSDriftDoesValF
set_option linter.unusedVariables false
set_option linter.unusedSimpArgs false
namespace Go.Proofs.YtenbkjeflancaaaGreatDoor.Val
open Go.RowKit Go.Proofs.YtenbkjeflancaaaGreatDoor.Q Go.Proofs.YtenbkjeflancaaaGreatDoorW.PrintWords
def nOf (kd : Int) : Int := if kd = 1 then 1 else Tab.wordsOf kd
def mostOf (kd : Int) : Int := if kd = 1 then 1 else 65535
def mayB (n : ByteArray) (u f a kd s d : Int) (wr : Bool) (l : List Int) : Bool :=
  rowB n u f a kd s d wr && (decide ((l.length : Int) = nOf kd) && !(l.any (bad (mostOf kd))))
theorem rowB_kind {n : ByteArray} {u f a kd s d : Int} {wr : Bool} (h : rowB n u f a kd s d wr = true) : Tab.kindB kd = true := by
  unfold rowB Tab.rangeB at h
  simp only [Bool.and_eq_true] at h
  exact h.2.2.2.2.2.1
set_option maxHeartbeats 8000000 in
set_option maxRecDepth 1000000 in
theorem may_calls (n : ByteArray) (u f a kd s d : Int) (wr : Bool) (A : Option Addr) (c : Nat) (l : List Int) (w : World) (hL : Laid w) (hr : Kd.C (Kd.int .i64) w A l.length l) (hc : l.length ≤ c) (hlen : l.length ≤ 1000000) :
    Calls Tryz.prog 25 #[.agg #[.string n, .int .i64 u, .int .i64 f, .int .i64 a, .int .i64 kd, .int .i64 s, .int .i64 d, .bool wr], .slice A l.length c] w fun e w' => e = .returned (.int .i64 (if mayB n u f a kd s d wr l then 0 else 1)) ∧ Below w.heap.size w w' := by
  have cR := fun W (hb : Below w.heap.size w W) => value_row.calls 5 n u f a kd s d wr _ W (hL.below hb) (row_eq 0 n u f a kd s d wr)
  unfold mayB
  cases hrow : rowB n u f a kd s d wr
  · rw [hrow] at cR
    go_enter Tryz.func25, Tryz.ntmps25
    go_wp2_with (go_at_call 48; refine (cR _ ((Below.refl _ _).alloc (Nat.le_refl _) _)).mono ?_; rintro e w1 ⟨rfl, hb1⟩)
    go_ret
    exact ⟨rfl, ((Below.refl w.heap.size w).alloc (Nat.le_refl _) _).trans (hb1.mono (by simp))⟩
  · rw [hrow] at cR
    have hk := rowB_kind hrow
    have cW := fun W => table_Words.calls 2 kd (Tab.wordsOf kd) 0 W (by rw [words_eq, hk]; rfl)
    simp only [if_true] at cR
    unfold nOf mostOf
    have HR := Lib.hid hr
    have HC := Lib.hid hc
    have HL := Lib.hid hlen
    clear hr hc hlen hL
    by_cases h1 : kd = 1
    · subst h1
      rw [if_pos rfl, if_pos rfl]
      have hw1 : Tab.wordsOf 1 = 0 := by decide
      rw [hw1] at cW
      clear hk hrow
      by_cases hn : l.length = 1
      · rw [decide_eq_true (show (l.length : Int) = 1 by omega)]
        have e2 : ((l.length : Int) != 1) = false := by rw [hn]; rfl
        have cC := fun (g : Nat) W (hb : Below w.heap.size w W) hcell => anyBad_calls A c l 1 g W (Kd.C_below HR.out hb) HC.out (by have := HL.out; omega) hcell
        clear hn
        cases hany : l.any (bad 1)
        · rw [hany] at cC
          go_enter Tryz.func25, Tryz.ntmps25
          go_wp2_with (first | (go_at_call 48; refine (cR _ ((Below.refl _ _).alloc (Nat.le_refl _) _)).mono ?_; rintro e w1 ⟨rfl, hb1⟩; have hB1 := ((Below.refl w.heap.size w).alloc (Nat.le_refl _) (.cells #[.string n, .int .i64 u, .int .i64 f, .int .i64 a, .int .i64 1, .int .i64 s, .int .i64 d, .bool wr] 23 (0, 0))).trans (hb1.mono (by simp)); have hbk := blk_below (blk_new w (.cells #[.string n, .int .i64 u, .int .i64 f, .int .i64 a, .int .i64 1, .int .i64 s, .int .i64 d, .bool wr] 23 (0, 0))) hb1; have q4 := blk_cell hbk 4) | (go_at_call 49; refine (cW _).mono ?_; rintro e w2 ⟨rfl, ⟨nq, rfl⟩⟩; have hne := Nat.ne_of_lt (blk_lt hbk); have hnb : ((w1.drewN nq).alloc (.cells #[.int .i64 0] 3)).heap[w1.heap.size]? = some (.cells #[.int .i64 0] 3 (0, 0)) := blk_new (w1.drewN nq) _; have m0 := blk_cell hnb 0; have mf := blk_frozen hnb 0; have hbA := blk_alloc (blk_drewN hbk nq) (.cells #[.int .i64 0] 3 (0, 0)); have hbB := blk_far hbA (p := ⟨w1.heap.size, 0, none⟩) hne (.int .i64 65535); have q4b := blk_cell hbB 4; have hnc := blk_set hnb 0 (.int .i64 65535); have m0c := blk_cell hnc 0; have mfc := blk_frozen hnc 0; have hnd := blk_set hnc 0 (.int .i64 1); have m0d := blk_cell hnd 0; have hB3 := (((below_drewN hB1 nq).alloc hB1.size (.cells #[.int .i64 0] 3 (0, 0))).setCell (p := ⟨w1.heap.size, 0, none⟩) hB1.size (.int .i64 65535)).setCell (p := ⟨w1.heap.size, 0, none⟩) hB1.size (.int .i64 1)) | (go_at_call 50; refine (cC _ _ hB3 m0d).mono ?_; rintro e w4 ⟨rfl, rfl⟩))
          go_ret
          exact ⟨rfl, hB3⟩
        · rw [hany] at cC
          go_enter Tryz.func25, Tryz.ntmps25
          go_wp2_with (first | (go_at_call 48; refine (cR _ ((Below.refl _ _).alloc (Nat.le_refl _) _)).mono ?_; rintro e w1 ⟨rfl, hb1⟩; have hB1 := ((Below.refl w.heap.size w).alloc (Nat.le_refl _) (.cells #[.string n, .int .i64 u, .int .i64 f, .int .i64 a, .int .i64 1, .int .i64 s, .int .i64 d, .bool wr] 23 (0, 0))).trans (hb1.mono (by simp)); have hbk := blk_below (blk_new w (.cells #[.string n, .int .i64 u, .int .i64 f, .int .i64 a, .int .i64 1, .int .i64 s, .int .i64 d, .bool wr] 23 (0, 0))) hb1; have q4 := blk_cell hbk 4) | (go_at_call 49; refine (cW _).mono ?_; rintro e w2 ⟨rfl, ⟨nq, rfl⟩⟩; have hne := Nat.ne_of_lt (blk_lt hbk); have hnb : ((w1.drewN nq).alloc (.cells #[.int .i64 0] 3)).heap[w1.heap.size]? = some (.cells #[.int .i64 0] 3 (0, 0)) := blk_new (w1.drewN nq) _; have m0 := blk_cell hnb 0; have mf := blk_frozen hnb 0; have hbA := blk_alloc (blk_drewN hbk nq) (.cells #[.int .i64 0] 3 (0, 0)); have hbB := blk_far hbA (p := ⟨w1.heap.size, 0, none⟩) hne (.int .i64 65535); have q4b := blk_cell hbB 4; have hnc := blk_set hnb 0 (.int .i64 65535); have m0c := blk_cell hnc 0; have mfc := blk_frozen hnc 0; have hnd := blk_set hnc 0 (.int .i64 1); have m0d := blk_cell hnd 0; have hB3 := (((below_drewN hB1 nq).alloc hB1.size (.cells #[.int .i64 0] 3 (0, 0))).setCell (p := ⟨w1.heap.size, 0, none⟩) hB1.size (.int .i64 65535)).setCell (p := ⟨w1.heap.size, 0, none⟩) hB1.size (.int .i64 1)) | (go_at_call 50; refine (cC _ _ hB3 m0d).mono ?_; rintro e w4 ⟨rfl, rfl⟩))
          go_ret
          exact ⟨rfl, hB3⟩
      · rw [decide_eq_false (show ¬ (l.length : Int) = 1 by omega)]
        have e2 : ((l.length : Int) != 1) = true := by simp; omega
        clear hn
        go_enter Tryz.func25, Tryz.ntmps25
        go_wp2_with (first | (go_at_call 48; refine (cR _ ((Below.refl _ _).alloc (Nat.le_refl _) _)).mono ?_; rintro e w1 ⟨rfl, hb1⟩; have hB1 := ((Below.refl w.heap.size w).alloc (Nat.le_refl _) (.cells #[.string n, .int .i64 u, .int .i64 f, .int .i64 a, .int .i64 1, .int .i64 s, .int .i64 d, .bool wr] 23 (0, 0))).trans (hb1.mono (by simp)); have hbk := blk_below (blk_new w (.cells #[.string n, .int .i64 u, .int .i64 f, .int .i64 a, .int .i64 1, .int .i64 s, .int .i64 d, .bool wr] 23 (0, 0))) hb1; have q4 := blk_cell hbk 4) | (go_at_call 49; refine (cW _).mono ?_; rintro e w2 ⟨rfl, ⟨nq, rfl⟩⟩; have hne := Nat.ne_of_lt (blk_lt hbk); have hnb : ((w1.drewN nq).alloc (.cells #[.int .i64 0] 3)).heap[w1.heap.size]? = some (.cells #[.int .i64 0] 3 (0, 0)) := blk_new (w1.drewN nq) _; have m0 := blk_cell hnb 0; have mf := blk_frozen hnb 0; have hbA := blk_alloc (blk_drewN hbk nq) (.cells #[.int .i64 0] 3 (0, 0)); have hbB := blk_far hbA (p := ⟨w1.heap.size, 0, none⟩) hne (.int .i64 65535); have q4b := blk_cell hbB 4; have hnc := blk_set hnb 0 (.int .i64 65535); have m0c := blk_cell hnc 0; have mfc := blk_frozen hnc 0; have hnd := blk_set hnc 0 (.int .i64 1); have m0d := blk_cell hnd 0; have hB3 := (((below_drewN hB1 nq).alloc hB1.size (.cells #[.int .i64 0] 3 (0, 0))).setCell (p := ⟨w1.heap.size, 0, none⟩) hB1.size (.int .i64 65535)).setCell (p := ⟨w1.heap.size, 0, none⟩) hB1.size (.int .i64 1)))
        go_ret
        exact ⟨rfl, hB3⟩
    · have e1 : (kd == 1) = false := beq_eq_false_iff_ne.2 h1
      rw [if_neg h1, if_neg h1]
      clear h1 hk hrow
      generalize Tab.wordsOf kd = m at *
      by_cases hn : (l.length : Int) = m
      · subst hn
        rw [decide_eq_true rfl]
        have e2 : ((l.length : Int) != (l.length : Int)) = false := by simp
        have cC := fun (g : Nat) W (hb : Below w.heap.size w W) hcell => anyBad_calls A c l 65535 g W (Kd.C_below HR.out hb) HC.out (by have := HL.out; omega) hcell
        cases hany : l.any (bad 65535)
        · rw [hany] at cC
          go_enter Tryz.func25, Tryz.ntmps25
          go_wp2_with (first | (go_at_call 48; refine (cR _ ((Below.refl _ _).alloc (Nat.le_refl _) _)).mono ?_; rintro e w1 ⟨rfl, hb1⟩; have hB1 := ((Below.refl w.heap.size w).alloc (Nat.le_refl _) (.cells #[.string n, .int .i64 u, .int .i64 f, .int .i64 a, .int .i64 kd, .int .i64 s, .int .i64 d, .bool wr] 23 (0, 0))).trans (hb1.mono (by simp)); have hbk := blk_below (blk_new w (.cells #[.string n, .int .i64 u, .int .i64 f, .int .i64 a, .int .i64 kd, .int .i64 s, .int .i64 d, .bool wr] 23 (0, 0))) hb1; have q4 := blk_cell hbk 4) | (go_at_call 49; refine (cW _).mono ?_; rintro e w2 ⟨rfl, ⟨nq, rfl⟩⟩; have hne := Nat.ne_of_lt (blk_lt hbk); have hnb : ((w1.drewN nq).alloc (.cells #[.int .i64 0] 3)).heap[w1.heap.size]? = some (.cells #[.int .i64 0] 3 (0, 0)) := blk_new (w1.drewN nq) _; have m0 := blk_cell hnb 0; have mf := blk_frozen hnb 0; have hbA := blk_alloc (blk_drewN hbk nq) (.cells #[.int .i64 0] 3 (0, 0)); have hbB := blk_far hbA (p := ⟨w1.heap.size, 0, none⟩) hne (.int .i64 65535); have q4b := blk_cell hbB 4; have hnc := blk_set hnb 0 (.int .i64 65535); have m0c := blk_cell hnc 0; have mfc := blk_frozen hnc 0; have hB3 := ((below_drewN hB1 nq).alloc hB1.size (.cells #[.int .i64 0] 3 (0, 0))).setCell (p := ⟨w1.heap.size, 0, none⟩) hB1.size (.int .i64 65535) ) | (go_at_call 50; refine (cC _ _ hB3 m0c).mono ?_; rintro e w4 ⟨rfl, rfl⟩))
          go_ret
          exact ⟨rfl, hB3⟩
        · rw [hany] at cC
          go_enter Tryz.func25, Tryz.ntmps25
          go_wp2_with (first | (go_at_call 48; refine (cR _ ((Below.refl _ _).alloc (Nat.le_refl _) _)).mono ?_; rintro e w1 ⟨rfl, hb1⟩; have hB1 := ((Below.refl w.heap.size w).alloc (Nat.le_refl _) (.cells #[.string n, .int .i64 u, .int .i64 f, .int .i64 a, .int .i64 kd, .int .i64 s, .int .i64 d, .bool wr] 23 (0, 0))).trans (hb1.mono (by simp)); have hbk := blk_below (blk_new w (.cells #[.string n, .int .i64 u, .int .i64 f, .int .i64 a, .int .i64 kd, .int .i64 s, .int .i64 d, .bool wr] 23 (0, 0))) hb1; have q4 := blk_cell hbk 4) | (go_at_call 49; refine (cW _).mono ?_; rintro e w2 ⟨rfl, ⟨nq, rfl⟩⟩; have hne := Nat.ne_of_lt (blk_lt hbk); have hnb : ((w1.drewN nq).alloc (.cells #[.int .i64 0] 3)).heap[w1.heap.size]? = some (.cells #[.int .i64 0] 3 (0, 0)) := blk_new (w1.drewN nq) _; have m0 := blk_cell hnb 0; have mf := blk_frozen hnb 0; have hbA := blk_alloc (blk_drewN hbk nq) (.cells #[.int .i64 0] 3 (0, 0)); have hbB := blk_far hbA (p := ⟨w1.heap.size, 0, none⟩) hne (.int .i64 65535); have q4b := blk_cell hbB 4; have hnc := blk_set hnb 0 (.int .i64 65535); have m0c := blk_cell hnc 0; have mfc := blk_frozen hnc 0; have hB3 := ((below_drewN hB1 nq).alloc hB1.size (.cells #[.int .i64 0] 3 (0, 0))).setCell (p := ⟨w1.heap.size, 0, none⟩) hB1.size (.int .i64 65535) ) | (go_at_call 50; refine (cC _ _ hB3 m0c).mono ?_; rintro e w4 ⟨rfl, rfl⟩))
          go_ret
          exact ⟨rfl, hB3⟩
      · have e2 : ((l.length : Int) != m) = true := by simpa using hn
        rw [decide_eq_false hn]
        clear hn
        go_enter Tryz.func25, Tryz.ntmps25
        go_wp2_with (first | (go_at_call 48; refine (cR _ ((Below.refl _ _).alloc (Nat.le_refl _) _)).mono ?_; rintro e w1 ⟨rfl, hb1⟩; have hB1 := ((Below.refl w.heap.size w).alloc (Nat.le_refl _) (.cells #[.string n, .int .i64 u, .int .i64 f, .int .i64 a, .int .i64 kd, .int .i64 s, .int .i64 d, .bool wr] 23 (0, 0))).trans (hb1.mono (by simp)); have hbk := blk_below (blk_new w (.cells #[.string n, .int .i64 u, .int .i64 f, .int .i64 a, .int .i64 kd, .int .i64 s, .int .i64 d, .bool wr] 23 (0, 0))) hb1; have q4 := blk_cell hbk 4) | (go_at_call 49; refine (cW _).mono ?_; rintro e w2 ⟨rfl, ⟨nq, rfl⟩⟩; have hne := Nat.ne_of_lt (blk_lt hbk); have hnb : ((w1.drewN nq).alloc (.cells #[.int .i64 0] 3)).heap[w1.heap.size]? = some (.cells #[.int .i64 0] 3 (0, 0)) := blk_new (w1.drewN nq) _; have m0 := blk_cell hnb 0; have mf := blk_frozen hnb 0; have hbA := blk_alloc (blk_drewN hbk nq) (.cells #[.int .i64 0] 3 (0, 0)); have hbB := blk_far hbA (p := ⟨w1.heap.size, 0, none⟩) hne (.int .i64 65535); have q4b := blk_cell hbB 4; have hnc := blk_set hnb 0 (.int .i64 65535); have m0c := blk_cell hnc 0; have mfc := blk_frozen hnc 0; have hB3 := ((below_drewN hB1 nq).alloc hB1.size (.cells #[.int .i64 0] 3 (0, 0))).setCell (p := ⟨w1.heap.size, 0, none⟩) hB1.size (.int .i64 65535)))
        go_ret
        exact ⟨rfl, hB3⟩
end Go.Proofs.YtenbkjeflancaaaGreatDoor.Val
namespace Go.Proofs.YtenbkjeflancaaaGreatDoor.Q
open Go.RowKit Go.Proofs.YtenbkjeflancaaaGreatDoorW.PrintWords Go.Proofs.YtenbkjeflancaaaGreatDoorW.PrintLast Go.Proofs.YtenbkjeflancaaaGreatDoorW.PrintMore
attribute [local go_sem] max2_int min2_int max_two min_two
set_option linter.unusedVariables false
set_option linter.unusedSimpArgs false
def value_may.f (a0_0 : ByteArray) (a0_1 : Int) (a0_2 : Int) (a0_3 : Int) (a0_4 : Int) (a0_5 : Int) (a0_6 : Int) (a0_7 : Bool) (l1 : List Int) : Option (Int) := if l1.length ≤ 1000000 then some (if Val.mayB a0_0 a0_1 a0_2 a0_3 a0_4 a0_5 a0_6 a0_7 l1 then 0 else 1) else none
theorem value_may.calls (a0_0 : ByteArray) (a0_1 : Int) (a0_2 : Int) (a0_3 : Int) (a0_4 : Int) (a0_5 : Int) (a0_6 : Int) (a0_7 : Bool) (A1 : Option Addr) (c1 : Nat) (l1 : List Int) (r : Int) (w : World) (hr1 : Kd.C (Kd.int .i64) w A1 l1.length l1) (hc1 : l1.length ≤ c1) (hLd_ : Val.Laid w) (h : value_may.f a0_0 a0_1 a0_2 a0_3 a0_4 a0_5 a0_6 a0_7 l1 = some r) :
    Calls Tryz.prog 25 #[.agg #[.string a0_0, .int .i64 a0_1, .int .i64 a0_2, .int .i64 a0_3, .int .i64 a0_4, .int .i64 a0_5, .int .i64 a0_6, .bool a0_7], .slice A1 l1.length c1] w fun e w' => e = .returned (.int .i64 r) ∧ Below w.heap.size w w' := by
  unfold value_may.f at h
  split at h
  · rename_i hc
    obtain rfl := Option.some.inj h
    exact Val.may_calls a0_0 a0_1 a0_2 a0_3 a0_4 a0_5 a0_6 a0_7 A1 c1 l1 w hLd_ hr1 hc1 hc
  · cases h
end Go.Proofs.YtenbkjeflancaaaGreatDoor.Q
