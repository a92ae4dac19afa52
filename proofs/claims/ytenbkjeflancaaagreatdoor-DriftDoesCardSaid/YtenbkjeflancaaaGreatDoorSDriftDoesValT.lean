/- What the proof of DriftDoes leans on: ValT. -/
import Derived.Test.YtenbkjeflancaaaGreatDoorSDriftDoesPOf
import Derived.Test.YtenbkjeflancaaaGreatDoorSDriftDoesValF
import Derived.Test.YtenbkjeflancaaaGreatDoorSDriftDoesWLast
import Derived.Deep.QuietTactic
import Derived.Deep.RegionWith
import Derived.BigQuiet
set_option linter.unusedVariables false
set_option linter.unusedSimpArgs false
namespace Go.Proofs.YtenbkjeflancaaaGreatDoor.Val
open Go.RowKit Go.Proofs.YtenbkjeflancaaaGreatDoor.Q Go.Proofs.YtenbkjeflancaaaGreatDoorW.PrintWords Go.Proofs.YtenbkjeflancaaaGreatDoorW.PrintMore
attribute [local go_sem] max2_int min2_int max_two min_two
theorem zValTa0_ {P_ : Prop} (h_ : P_ := by repeat (first | exact HB1.out | refine below_drewN ?_ _ | refine below_drew1 ?_)) : P_ := h_
theorem zValTa1_ {P_ : Prop} (h_ : P_ := by repeat (first | exact HB2.out | refine below_drewN ?_ _ | refine below_drew1 ?_)) : P_ := h_
theorem dec_len (u : Nat) (h : u < 18446744073709551616) : 1 ≤ (Lib.decDigits u).length ∧ (Lib.decDigits u).length ≤ 20 := by
  by_cases h0 : u = 0
  · subst h0
    rw [Lib.decDigits, dif_pos (by decide)]
    exact ⟨by simp, by simp⟩
  · have := Lib.numDigits_eq u (by omega) h
    rw [Lib.decDigits_length]
    have h1 : 1 ≤ Lib.nDigits u := by
      by_cases h10 : u < 10
      · rw [Lib.nDigits_small h10]; exact Nat.le_refl _
      · rw [Lib.nDigits_big h10]; omega
    split at this <;> omega
theorem rd_ok {l : List Int} {m : Int} (h : ∀ x ∈ l, 0 ≤ x ∧ x ≤ m) (i : Nat) (hi : i < l.length) : 0 ≤ rd l (i : Int) ∧ rd l (i : Int) ≤ m := by
  have e : rd l (i : Int) = l[i] := by unfold rd; rw [Int.toNat_natCast, List.getD_eq_getElem?_getD, List.getElem?_eq_getElem hi]; rfl
  rw [e]
  exact h _ (List.getElem_mem hi)
set_option maxHeartbeats 8000000 in
set_option maxRecDepth 1000000 in
theorem text_no (n : ByteArray) (u f a kd s d : Int) (wr : Bool) (A : Option Addr) (c : Nat) (l : List Int) (w : World) (hL : Laid w) (hr : Kd.C (Kd.int .i64) w A l.length l) (hc : l.length ≤ c) (hlen : l.length ≤ 1000000) (hm : mayB n u f a kd s d wr l = false) :
    Calls Tryz.prog 16 #[.agg #[.string n, .int .i64 u, .int .i64 f, .int .i64 a, .int .i64 kd, .int .i64 s, .int .i64 d, .bool wr], .slice A l.length c] w fun e w' => e = .returned (.tuple #[.string ⟨#[]⟩, .int .i64 1]) ∧ Below w.heap.size w w' := by
  have cM := fun W (hb : Below w.heap.size w W) => may_calls n u f a kd s d wr A c l W (hL.below hb) (Kd.C_below hr hb) hc hlen
  rw [hm] at cM
  clear hr hc hlen hm hL
  go_enter Tryz.func16, Tryz.ntmps16
  go_wp2_with (go_at_call 25; refine (cM _ ((Below.refl _ _).alloc (Nat.le_refl _) _)).mono ?_; rintro e w1 ⟨rfl, hb1⟩; have hB1 := ((Below.refl w.heap.size w).alloc (Nat.le_refl _) (.cells #[.string n, .int .i64 u, .int .i64 f, .int .i64 a, .int .i64 kd, .int .i64 s, .int .i64 d, .bool wr] 23 (0, 0))).trans (hb1.mono (by simp)); have hbk := blk_below (blk_new w (.cells #[.string n, .int .i64 u, .int .i64 f, .int .i64 a, .int .i64 kd, .int .i64 s, .int .i64 d, .bool wr] 23 (0, 0))) hb1; have q0 := blk_cell hbk 0; have q1 := blk_cell hbk 1; have q2 := blk_cell hbk 2; have q3 := blk_cell hbk 3; have q4 := blk_cell hbk 4; have q5 := blk_cell hbk 5; have q6 := blk_cell hbk 6; have q7 := blk_cell hbk 7)
  go_ret2
  exact ⟨rfl, hB1⟩
set_option maxHeartbeats 8000000 in
set_option maxRecDepth 1000000 in
theorem text_bit (n : ByteArray) (u f a s d : Int) (wr : Bool) (A : Option Addr) (c : Nat) (l : List Int) (w : World) (hL : Laid w) (hr : Kd.C (Kd.int .i64) w A l.length l) (hc : l.length ≤ c) (hlen : l.length ≤ 1000000) (hm : mayB n u f a 1 s d wr l = true) :
    Calls Tryz.prog 16 #[.agg #[.string n, .int .i64 u, .int .i64 f, .int .i64 a, .int .i64 1, .int .i64 s, .int .i64 d, .bool wr], .slice A l.length c] w fun e w' => e = .returned (.tuple #[.string ⟨#[UInt8.ofNat (48 + (rd l 0).toNat)]⟩, .int .i64 0]) ∧ Below w.heap.size w w' := by
  have cM := fun W (hb : Below w.heap.size w W) => may_calls n u f a 1 s d wr A c l W (hL.below hb) (Kd.C_below hr hb) hc hlen
  rw [hm] at cM
  have hl : l.length = 1 := by have := may_len hm; unfold nOf at this; rw [if_pos rfl] at this; omega
  have h01 : 0 ≤ rd l 0 ∧ rd l 0 ≤ 1 := rd_ok (may_all hm) 0 (by omega)
  obtain ⟨ad, eA, h00⟩ := Kd.at_int hr 0 (by omega) (by omega)
  subst eA
  have h0 : w.cell? ad = some (.int .i64 (rd l 0)) := h00
  clear h00
  have cI := fun W => itoa1_calls (rd l 0).toNat (by omega) W
  rw [Int.toNat_of_nonneg h01.1] at cI
  have p1 : (0 < l.length) = True := eq_true (by omega)
  have H0 := fun W (hb : Below w.heap.size w W) => (hb.cell (World.block_lt_of_cell? w _ h0)).trans h0
  generalize rd l 0 = x at *
  generalize (⟨#[UInt8.ofNat (48 + x.toNat)]⟩ : ByteArray) = SS at *
  have hx01 : x = 0 ∨ x = 1 := by omega
  simp only [if_true] at cM
  clear hr hc hm hL h0 h01 hl hlen
  go_enter Tryz.func16, Tryz.ntmps16
  go_wp2_with (first | (go_at_call 25; refine (cM _ ((Below.refl _ _).alloc (Nat.le_refl _) _)).mono ?_; rintro e w1 ⟨rfl, hb1⟩; have hB1 := ((Below.refl w.heap.size w).alloc (Nat.le_refl _) (.cells #[.string n, .int .i64 u, .int .i64 f, .int .i64 a, .int .i64 1, .int .i64 s, .int .i64 d, .bool wr] 23 (0, 0))).trans (hb1.mono (by simp)); have hbk := blk_below (blk_new w (.cells #[.string n, .int .i64 u, .int .i64 f, .int .i64 a, .int .i64 1, .int .i64 s, .int .i64 d, .bool wr] 23 (0, 0))) hb1; have q0 := blk_cell hbk 0; have q1 := blk_cell hbk 1; have q2 := blk_cell hbk 2; have q3 := blk_cell hbk 3; have q4 := blk_cell hbk 4; have q5 := blk_cell hbk 5; have q6 := blk_cell hbk 6; have q7 := blk_cell hbk 7; have H1 := H0 _ hB1) | (go_at_call 26; refine (cI _).mono ?_; rintro e w2 ⟨rfl, rfl⟩))
  go_ret2
  exact ⟨rfl, hB1⟩
set_option maxHeartbeats 8000000 in
set_option maxRecDepth 1000000 in
theorem text_num (n : ByteArray) (u f a kd s d : Int) (wr : Bool) (A : Option Addr) (c : Nat) (l : List Int) (w : World) (hL : Laid w) (hr : Kd.C (Kd.int .i64) w A l.length l) (hc : l.length ≤ c) (hlen : l.length ≤ 1000000) (hm : mayB n u f a kd s d wr l = true) (h1 : kd ≠ 1) (h8 : kd ≠ 8) :
    Calls Tryz.prog 16 #[.agg #[.string n, .int .i64 u, .int .i64 f, .int .i64 a, .int .i64 kd, .int .i64 s, .int .i64 d, .bool wr], .slice A l.length c] w fun e w' => e = .returned (.tuple #[.string ⟨(pointL (numOf kd l).1 (numOf kd l).2 s.toNat).toArray⟩, .int .i64 0]) ∧ Below w.heap.size w w' := by
  have cM := fun W (hb : Below w.heap.size w W) => may_calls n u f a kd s d wr A c l W (hL.below hb) (Kd.C_below hr hb) hc hlen
  rw [hm] at cM
  have ho := of_all hm h1 h8
  have hx := num_lt hm h1 h8
  obtain ⟨-, ⟨s0, s9⟩, -, -⟩ := row_facts (may_row hm)
  generalize numOf kd l = bx at *
  obtain ⟨b, xn⟩ := bx
  dsimp only at ho hx ⊢
  have cO := fun W (hb : Below w.heap.size w W) => value_of.calls 10 n u f a kd s d wr A c l b (xn : Int) W (Kd.C_below hr hb) hc ho
  have cF := fun W (hb : Below w.heap.size w W) => fmtUint_calls xn hx W (hL.below hb)
  have e1 : (kd == 1) = false := beq_eq_false_iff_ne.2 h1
  have e8 : (kd == 8) = false := beq_eq_false_iff_ne.2 h8
  clear hr hc hm hL ho hlen h1 h8
  obtain ⟨x, hxe⟩ : ∃ x : Int, x = (xn : Int) := ⟨_, rfl⟩
  rw [← hxe] at cO cF
  have hdl := dec_len xn hx
  clear hxe hx
  unfold pointL
  by_cases hs0 : s = 0
  · subst hs0
    rw [Int.toNat_zero, if_pos rfl]
    generalize Lib.decDigits xn = D at *
    have hD : 1 + (⟨D.toArray⟩ : ByteArray).size ≤ 9223372036854775807 := by
      have : (⟨D.toArray⟩ : ByteArray).size = D.length := by simp [ByteArray.size]
      omega
    have hj : (⟨#[45]⟩ : ByteArray) ++ ⟨D.toArray⟩ = ⟨([45] ++ D).toArray⟩ := by
      apply ByteArray.ext
      rw [ByteArray.data_append]
      simp
    generalize hS : (⟨D.toArray⟩ : ByteArray) = S at *
    have hD2 : ¬ 9223372036854775807 < 1 + S.size := by omega
    cases b
    · go_enter Tryz.func16, Tryz.ntmps16
      go_wp2_with (first | (go_at_call 25; refine (cM _ ((Below.refl _ _).alloc (Nat.le_refl _) _)).mono ?_; rintro e w1 ⟨rfl, hb1⟩; have hB1 := ((Below.refl w.heap.size w).alloc (Nat.le_refl _) (.cells #[.string n, .int .i64 u, .int .i64 f, .int .i64 a, .int .i64 kd, .int .i64 0, .int .i64 d, .bool wr] 23 (0, 0))).trans (hb1.mono (by simp)); have hbk := blk_below (blk_new w (.cells #[.string n, .int .i64 u, .int .i64 f, .int .i64 a, .int .i64 kd, .int .i64 0, .int .i64 d, .bool wr] 23 (0, 0))) hb1; have q0 := blk_cell hbk 0; have q1 := blk_cell hbk 1; have q2 := blk_cell hbk 2; have q3 := blk_cell hbk 3; have q4 := blk_cell hbk 4; have q5 := blk_cell hbk 5; have q6 := blk_cell hbk 6; have q7 := blk_cell hbk 7) | (go_at_call 30; refine (cO _ hB1).mono ?_; rintro e w2 ⟨rfl, hb2⟩; have hB2 := hB1.trans (hb2.mono hB1.size); have hbk2 := blk_below hbk hb2; have hne := Nat.ne_of_lt (blk_lt hbk2); have n2 := blk_new w2 (.cells #[.bool false, .int .u64 x] 66 (0, 0)); have y0 := blk_cell n2 0; have y1 := blk_cell n2 1; have k2 := blk_alloc hbk2 (.cells #[.bool false, .int .u64 x] 66 (0, 0)); have r5 := blk_cell k2 5; have hB3 := hB2.alloc hB2.size (.cells #[.bool false, .int .u64 x] 66 (0, 0))) | (go_at_call 31; refine (cF _ hB3).mono ?_; rintro e w4 ⟨rfl, hb4⟩; have hB4 := hB3.trans (hb4.mono hB3.size); have k4 := blk_below k2 hb4; have n4 := blk_below n2 hb4; have v5 := blk_cell k4 5; have z0 := blk_cell n4 0; have z1 := blk_cell n4 1))
      go_ret2
      exact ⟨by rw [← hS]; rfl, hB4⟩
    · go_enter Tryz.func16, Tryz.ntmps16
      go_wp2_with (first | (go_at_call 25; refine (cM _ ((Below.refl _ _).alloc (Nat.le_refl _) _)).mono ?_; rintro e w1 ⟨rfl, hb1⟩; have hB1 := ((Below.refl w.heap.size w).alloc (Nat.le_refl _) (.cells #[.string n, .int .i64 u, .int .i64 f, .int .i64 a, .int .i64 kd, .int .i64 0, .int .i64 d, .bool wr] 23 (0, 0))).trans (hb1.mono (by simp)); have hbk := blk_below (blk_new w (.cells #[.string n, .int .i64 u, .int .i64 f, .int .i64 a, .int .i64 kd, .int .i64 0, .int .i64 d, .bool wr] 23 (0, 0))) hb1; have q0 := blk_cell hbk 0; have q1 := blk_cell hbk 1; have q2 := blk_cell hbk 2; have q3 := blk_cell hbk 3; have q4 := blk_cell hbk 4; have q5 := blk_cell hbk 5; have q6 := blk_cell hbk 6; have q7 := blk_cell hbk 7) | (go_at_call 30; refine (cO _ hB1).mono ?_; rintro e w2 ⟨rfl, hb2⟩; have hB2 := hB1.trans (hb2.mono hB1.size); have hbk2 := blk_below hbk hb2; have hne := Nat.ne_of_lt (blk_lt hbk2); have n2 := blk_new w2 (.cells #[.bool true, .int .u64 x] 66 (0, 0)); have y0 := blk_cell n2 0; have y1 := blk_cell n2 1; have k2 := blk_alloc hbk2 (.cells #[.bool true, .int .u64 x] 66 (0, 0)); have r5 := blk_cell k2 5; have hB3 := hB2.alloc hB2.size (.cells #[.bool true, .int .u64 x] 66 (0, 0))) | (go_at_call 31; refine (cF _ hB3).mono ?_; rintro e w4 ⟨rfl, hb4⟩; have hB4 := hB3.trans (hb4.mono hB3.size); have k4 := blk_below k2 hb4; have n4 := blk_below n2 hb4; have v5 := blk_cell k4 5; have z0 := blk_cell n4 0; have z1 := blk_cell n4 1))
      go_ret2
      exact ⟨by first | rfl | (rw [if_pos rfl, ← hj]; rfl), hB4⟩
  · obtain ⟨sc, rfl⟩ := Int.eq_ofNat_of_zero_le s0
    have hs : sc ≠ 0 := by omega
    clear hs0
    rw [Int.toNat_natCast, if_neg hs]
    obtain ⟨m, hm⟩ : ∃ m, sc + 1 - (Lib.decDigits xn).length = m := ⟨_, rfl⟩
    have cP := fun W => repeat0_calls m W (by omega)
    unfold padL
    rw [hm]
    generalize Lib.decDigits xn = D at *
    have hS : (⟨D.toArray⟩ : ByteArray).size = D.length := by simp [ByteArray.size]
    have hRp : (⟨(List.replicate m 48).toArray⟩ : ByteArray).size = m := by simp [ByteArray.size]
    obtain ⟨K, hK⟩ : ∃ K, m + D.length - sc = K := ⟨_, rfl⟩
    have hfin : ((⟨(List.replicate m 48).toArray⟩ ++ ⟨D.toArray⟩ : ByteArray).extract 0 K ++ ⟨#[46]⟩) ++ ((⟨(List.replicate m 48).toArray⟩ ++ ⟨D.toArray⟩ : ByteArray).extract K (m + D.length)) = ⟨(ptL (List.replicate m 48 ++ D) sc).toArray⟩ := by
      have hl : (List.replicate m (48 : UInt8) ++ D).length = m + D.length := by simp
      unfold ptL
      rw [hl, hK]
      apply ByteArray.ext
      apply Array.toList_inj.1
      simp only [ByteArray.data_append, ByteArray.data_extract, Array.toList_append, Array.toList_extract, List.extract_eq_take_drop, List.drop_zero, Nat.sub_zero]
      rw [show m + D.length - K = ((List.replicate m (48 : UInt8) ++ D).drop K).length by rw [List.length_drop, hl], List.take_length, List.append_assoc]
      rfl
    have hneg : (⟨#[45]⟩ : ByteArray) ++ ⟨(ptL (List.replicate m 48 ++ D) sc).toArray⟩ = ⟨([45] ++ ptL (List.replicate m 48 ++ D) sc).toArray⟩ := by
      apply ByteArray.ext
      rw [ByteArray.data_append]
      simp
    have hgt : (0 < sc) = True := eq_true (by omega)
    have hmx : (if (sc : Int) + 1 - ((⟨D.toArray⟩ : ByteArray).size : Int) < 0 then (0 : Int) else (sc : Int) + 1 - ((⟨D.toArray⟩ : ByteArray).size : Int)) = (m : Int) := by
      rw [hS]
      split <;> omega
    generalize hSS : (⟨D.toArray⟩ : ByteArray) = S at *
    generalize (⟨(List.replicate m 48).toArray⟩ : ByteArray) = rp at *
    generalize ptL (List.replicate m 48 ++ D) sc = FF at *
    have hS20 : (S.size : Int) ≤ 20 := by omega
    have hm10 : m ≤ 10 := by omega
    have hsc9 : sc ≤ 9 := by omega
    have hK0 : (m : Int) + (S.size : Int) - (sc : Int) = (K : Int) := by omega
    have hKle : K ≤ m + S.size := by omega
    have ovf : ¬ 9223372036854775807 < rp.size + S.size := by omega
    rw [← hS] at hfin
    have HFin := Lib.hid hfin
    have HNeg := Lib.hid hneg
    have HRp := Lib.hid hRp
    clear hfin hneg hs hm hdl hK hS hSS s0 s9
    cases b
    · go_enter Tryz.func16, Tryz.ntmps16
      go_wp2_with (first | (go_at_call 25; refine (cM _ ((Below.refl _ _).alloc (Nat.le_refl _) _)).mono ?_; rintro e w1 ⟨rfl, hb1⟩; have hB1 := ((Below.refl w.heap.size w).alloc (Nat.le_refl _) (.cells #[.string n, .int .i64 u, .int .i64 f, .int .i64 a, .int .i64 kd, .int .i64 (sc : Int), .int .i64 d, .bool wr] 23 (0, 0))).trans (hb1.mono (by simp)); have hbk := blk_below (blk_new w (.cells #[.string n, .int .i64 u, .int .i64 f, .int .i64 a, .int .i64 kd, .int .i64 (sc : Int), .int .i64 d, .bool wr] 23 (0, 0))) hb1; have q0 := blk_cell hbk 0; have q1 := blk_cell hbk 1; have q2 := blk_cell hbk 2; have q3 := blk_cell hbk 3; have q4 := blk_cell hbk 4; have q5 := blk_cell hbk 5; have q6 := blk_cell hbk 6; have q7 := blk_cell hbk 7) | (go_at_call 30; refine (cO _ hB1).mono ?_; rintro e w2 ⟨rfl, hb2⟩; have hB2 := hB1.trans (hb2.mono hB1.size); have hbk2 := blk_below hbk hb2; have hne := Nat.ne_of_lt (blk_lt hbk2); have n2 := blk_new w2 (.cells #[.bool false, .int .u64 x] 66 (0, 0)); have y0 := blk_cell n2 0; have y1 := blk_cell n2 1; have k2 := blk_alloc hbk2 (.cells #[.bool false, .int .u64 x] 66 (0, 0)); have r5 := blk_cell k2 5; have hB3 := hB2.alloc hB2.size (.cells #[.bool false, .int .u64 x] 66 (0, 0))) | (go_at_call 31; refine (cF _ hB3).mono ?_; rintro e w4 ⟨rfl, hb4⟩; have hB4 := hB3.trans (hb4.mono hB3.size); have k4 := blk_below k2 hb4; have n4 := blk_below n2 hb4; have v5 := blk_cell k4 5; have z0 := blk_cell n4 0; have z1 := blk_cell n4 1) | (go_at_call 29; refine (cP _).mono ?_; rintro e w5 ⟨rfl, hb5⟩; have hB5 := hB4.trans (hb5.mono hB4.size); have k5 := blk_below k4 hb5; have n5 := blk_below n4 hb5; have u5 := blk_cell k5 5; have t0 := blk_cell n5 0; have t1 := blk_cell n5 1))
      generalize hP : rp ++ S = P at *
      have hPs : P.size = m + S.size := by rw [← hP, ByteArray.size_append, HRp.out]
      have hk : (P.size : Int) - (sc : Int) = (K : Int) := by omega
      have hz1 : (0 : Int) ≤ (K : Int) := by omega
      have hz2 : (K : Int) ≤ (P.size : Int) := by omega
      have hx1 : (P.extract 0 K).size = K := by rw [ByteArray.size_extract]; omega
      have hx2 : (P.extract K P.size).size = P.size - K := by rw [ByteArray.size_extract]; omega
      have hv1 : ¬ 9223372036854775807 < K + 1 := by omega
      have hv2 : ¬ 9223372036854775807 < K + 1 + (P.size - K) := by omega
      have hfin : (P.extract 0 K ++ ⟨#[46]⟩) ++ P.extract K P.size = ⟨FF.toArray⟩ := by rw [hPs]; exact HFin.out
      clear hPs hK0 hKle hmx ovf
      go_quiet (fail)
      go_wp2
      go_ret2
      exact ⟨by first | rfl | (rw [← HNeg.out]; rfl), below_drewN hB5 nq⟩
    · go_enter Tryz.func16, Tryz.ntmps16
      go_wp2_with (first | (go_at_call 25; refine (cM _ ((Below.refl _ _).alloc (Nat.le_refl _) _)).mono ?_; rintro e w1 ⟨rfl, hb1⟩; have hB1 := ((Below.refl w.heap.size w).alloc (Nat.le_refl _) (.cells #[.string n, .int .i64 u, .int .i64 f, .int .i64 a, .int .i64 kd, .int .i64 (sc : Int), .int .i64 d, .bool wr] 23 (0, 0))).trans (hb1.mono (by simp)); have hbk := blk_below (blk_new w (.cells #[.string n, .int .i64 u, .int .i64 f, .int .i64 a, .int .i64 kd, .int .i64 (sc : Int), .int .i64 d, .bool wr] 23 (0, 0))) hb1; have q0 := blk_cell hbk 0; have q1 := blk_cell hbk 1; have q2 := blk_cell hbk 2; have q3 := blk_cell hbk 3; have q4 := blk_cell hbk 4; have q5 := blk_cell hbk 5; have q6 := blk_cell hbk 6; have q7 := blk_cell hbk 7) | (go_at_call 30; refine (cO _ hB1).mono ?_; rintro e w2 ⟨rfl, hb2⟩; have hB2 := hB1.trans (hb2.mono hB1.size); have hbk2 := blk_below hbk hb2; have hne := Nat.ne_of_lt (blk_lt hbk2); have n2 := blk_new w2 (.cells #[.bool true, .int .u64 x] 66 (0, 0)); have y0 := blk_cell n2 0; have y1 := blk_cell n2 1; have k2 := blk_alloc hbk2 (.cells #[.bool true, .int .u64 x] 66 (0, 0)); have r5 := blk_cell k2 5; have hB3 := hB2.alloc hB2.size (.cells #[.bool true, .int .u64 x] 66 (0, 0))) | (go_at_call 31; refine (cF _ hB3).mono ?_; rintro e w4 ⟨rfl, hb4⟩; have hB4 := hB3.trans (hb4.mono hB3.size); have k4 := blk_below k2 hb4; have n4 := blk_below n2 hb4; have v5 := blk_cell k4 5; have z0 := blk_cell n4 0; have z1 := blk_cell n4 1) | (go_at_call 29; refine (cP _).mono ?_; rintro e w5 ⟨rfl, hb5⟩; have hB5 := hB4.trans (hb5.mono hB4.size); have k5 := blk_below k4 hb5; have n5 := blk_below n4 hb5; have u5 := blk_cell k5 5; have t0 := blk_cell n5 0; have t1 := blk_cell n5 1))
      generalize hP : rp ++ S = P at *
      have hPs : P.size = m + S.size := by rw [← hP, ByteArray.size_append, HRp.out]
      have hk : (P.size : Int) - (sc : Int) = (K : Int) := by omega
      have hz1 : (0 : Int) ≤ (K : Int) := by omega
      have hz2 : (K : Int) ≤ (P.size : Int) := by omega
      have hx1 : (P.extract 0 K).size = K := by rw [ByteArray.size_extract]; omega
      have hx2 : (P.extract K P.size).size = P.size - K := by rw [ByteArray.size_extract]; omega
      have hv1 : ¬ 9223372036854775807 < K + 1 := by omega
      have hv2 : ¬ 9223372036854775807 < K + 1 + (P.size - K) := by omega
      have hfin : (P.extract 0 K ++ ⟨#[46]⟩) ++ P.extract K P.size = ⟨FF.toArray⟩ := by rw [hPs]; exact HFin.out
      have hFs : (⟨FF.toArray⟩ : ByteArray).size = K + 1 + (P.size - K) := by rw [← hfin, ByteArray.size_append, ByteArray.size_append, hx1, hx2]; rfl
      have hv3 : ¬ 9223372036854775807 < 1 + (⟨FF.toArray⟩ : ByteArray).size := by omega
      have hneg := HNeg.out
      clear hPs hK0 hKle hmx ovf
      go_quiet (fail)
      go_wp2
      go_ret2
      exact ⟨by first | rfl | (rw [← HNeg.out]; rfl), below_drewN hB5 nq⟩
set_option maxHeartbeats 16000000 in
set_option maxRecDepth 1000000 in
theorem text_hex (n : ByteArray) (u f a s d : Int) (wr : Bool) (A : Option Addr) (c : Nat) (l : List Int) (w : World) (hL : Laid w) (hr : Kd.C (Kd.int .i64) w A l.length l) (hc : l.length ≤ c) (hlen : l.length ≤ 1000000) (hm : mayB n u f a 8 s d wr l = true) :
    Calls Tryz.prog 16 #[.agg #[.string n, .int .i64 u, .int .i64 f, .int .i64 a, .int .i64 8, .int .i64 s, .int .i64 d, .bool wr], .slice A l.length c] w fun e w' => e = .returned (.tuple #[.string ⟨(hex4 (rd l 0).toNat ++ hex4 (rd l 1).toNat).toArray⟩, .int .i64 0]) ∧ Below w.heap.size w w' := by
  have cM := fun W (hb : Below w.heap.size w W) => may_calls n u f a 8 s d wr A c l W (hL.below hb) (Kd.C_below hr hb) hc hlen
  rw [hm] at cM
  have hl : l.length = 2 := by have := may_len hm; unfold nOf at this; rw [if_neg (by decide)] at this; have e : Tab.wordsOf 8 = 2 := rfl; omega
  have hx01 : 0 ≤ rd l 0 ∧ rd l 0 ≤ 65535 := rd_ok (may_all hm) 0 (by omega)
  have hy01 : 0 ≤ rd l 1 ∧ rd l 1 ≤ 65535 := rd_ok (may_all hm) 1 (by omega)
  obtain ⟨ad, eA, h00⟩ := Kd.at_int hr 0 (by omega) (by omega)
  subst eA
  have h0 : w.cell? ad = some (.int .i64 (rd l 0)) := h00
  obtain ⟨ad', eA', h11⟩ := Kd.at_int hr 1 (by omega) (by omega)
  cases eA'
  have h1 : w.cell? ⟨ad.block, ad.off + 1, none⟩ = some (.int .i64 (rd l 1)) := h11
  clear h00 h11
  have cX := fun W (hb : Below w.heap.size w W) => hex_calls (rd l 0).toNat (by omega) W (hL.below hb)
  have cY := fun W (hb : Below w.heap.size w W) => hex_calls (rd l 1).toNat (by omega) W (hL.below hb)
  rw [Int.toNat_of_nonneg hx01.1] at cX
  rw [Int.toNat_of_nonneg hy01.1] at cY
  have p1 : (0 < l.length) = True := eq_true (by omega)
  have p2 : (1 < l.length) = True := eq_true (by omega)
  have p3 : ((1 : Int) < (l.length : Int)) = True := eq_true (by omega)
  have H0 := fun W (hb : Below w.heap.size w W) => (hb.cell (World.block_lt_of_cell? w _ h0)).trans h0
  have H1 := fun W (hb : Below w.heap.size w W) => (hb.cell (World.block_lt_of_cell? w _ h1)).trans h1
  have hz : ∀ k, k < 65536 → (⟨(hex4 k).toArray⟩ : ByteArray).size = 4 := fun k hk => by rw [hex4_eq k hk]; rfl
  have hzx := hz (rd l 0).toNat (by omega)
  have hzy := hz (rd l 1).toNat (by omega)
  have hap : (⟨(hex4 (rd l 0).toNat).toArray⟩ : ByteArray) ++ ⟨(hex4 (rd l 1).toNat).toArray⟩ = ⟨(hex4 (rd l 0).toNat ++ hex4 (rd l 1).toNat).toArray⟩ := by
    apply ByteArray.ext
    rw [ByteArray.data_append]
    simp
  rw [← hap]
  generalize (⟨(hex4 (rd l 0).toNat).toArray⟩ : ByteArray) = sx at *
  generalize (⟨(hex4 (rd l 1).toNat).toArray⟩ : ByteArray) = sy at *
  generalize rd l 0 = x at *
  generalize rd l 1 = y at *
  simp only [if_true] at cM
  have hov : ¬ 9223372036854775807 < sx.size + sy.size := by omega
  clear hr hc hm hL h0 h1 hl hlen hz hap
  go_enter Tryz.func16, Tryz.ntmps16
  go_wp2_with (go_at_call 25; refine (cM _ ((Below.refl _ _).alloc (Nat.le_refl _) _)).mono ?_; rintro e w1 ⟨rfl, hb1⟩; have hB1 := ((Below.refl w.heap.size w).alloc (Nat.le_refl _) (.cells #[.string n, .int .i64 u, .int .i64 f, .int .i64 a, .int .i64 8, .int .i64 s, .int .i64 d, .bool wr] 23 (0, 0))).trans (hb1.mono (by simp)); have hbk := blk_below (blk_new w (.cells #[.string n, .int .i64 u, .int .i64 f, .int .i64 a, .int .i64 8, .int .i64 s, .int .i64 d, .bool wr] 23 (0, 0))) hb1; have q0 := blk_cell hbk 0; have q1 := blk_cell hbk 1; have q2 := blk_cell hbk 2; have q3 := blk_cell hbk 3; have q4 := blk_cell hbk 4; have q5 := blk_cell hbk 5; have q6 := blk_cell hbk 6; have q7 := blk_cell hbk 7)
  have HB1 := Lib.hid hB1
  have g0 := H0 _ hB1
  have g1 := H1 _ hB1
  clear q0 q1 q2 q3 q4 q5 q6 q7 hB1 hb1 hbk cM
  go_region_with (first
    | (go_at_call_of 27 x; refine (cX _ zValTa0_).mono ?_; rintro e w2 ⟨rfl, hb2⟩; have HB2 := Lib.hid ((show Below w.heap.size w _ from zValTa0_).trans (hb2.mono HB1.out.size)); have k0 := H0 _ HB2.out; have k1 := H1 _ HB2.out; clear hb2)
    | (go_at_call_of 27 y; refine (cY _ zValTa1_).mono ?_; rintro e w3 ⟨rfl, hb3⟩; have HB3 := Lib.hid ((show Below w.heap.size w _ from zValTa1_).trans (hb3.mono HB2.out.size)); clear hb3))
  all_goals go_wp2
  all_goals go_ret2
  all_goals exact ⟨rfl, by repeat (first | exact HB3.out | refine below_drewN ?_ _ | refine below_drew1 ?_)⟩
theorem text_calls (n : ByteArray) (u f a kd s d : Int) (wr : Bool) (A : Option Addr) (c : Nat) (l : List Int) (w : World) (hL : Laid w) (hr : Kd.C (Kd.int .i64) w A l.length l) (hc : l.length ≤ c) (hlen : l.length ≤ 1000000) :
    Calls Tryz.prog 16 #[.agg #[.string n, .int .i64 u, .int .i64 f, .int .i64 a, .int .i64 kd, .int .i64 s, .int .i64 d, .bool wr], .slice A l.length c] w fun e w' => e = .returned (.tuple #[.string (textR n u f a kd s d wr l), .int .i64 (if mayB n u f a kd s d wr l then 0 else 1)]) ∧ Below w.heap.size w w' := by
  unfold textR
  cases hm : mayB n u f a kd s d wr l
  · exact text_no n u f a kd s d wr A c l w hL hr hc hlen hm
  · unfold textL
    by_cases h1 : kd = 1
    · subst h1
      exact text_bit n u f a s d wr A c l w hL hr hc hlen hm
    · by_cases h8 : kd = 8
      · subst h8
        exact text_hex n u f a s d wr A c l w hL hr hc hlen hm
      · simp only [if_true, if_neg h1, if_neg h8]
        exact text_num n u f a kd s d wr A c l w hL hr hc hlen hm h1 h8
end Go.Proofs.YtenbkjeflancaaaGreatDoor.Val
