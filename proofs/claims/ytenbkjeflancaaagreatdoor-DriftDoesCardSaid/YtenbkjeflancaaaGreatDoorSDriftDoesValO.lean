/- What the proof of DriftDoes leans on: ValO. -/
import Derived.Test.YtenbkjeflancaaaGreatDoorSDriftDoesValA
import Derived.Test.YtenbkjeflancaaaGreatDoorSDriftDoesQx15
import Derived.Test.YtenbkjeflancaaaGreatDoorSDriftDoesValF
set_option linter.unusedVariables false
set_option linter.unusedSimpArgs false
namespace Go.Proofs.YtenbkjeflancaaaGreatDoor.Val
open Go.RowKit Go.Proofs.YtenbkjeflancaaaGreatDoor.Q Go.Proofs.YtenbkjeflancaaaGreatDoorW.PrintWords Go.Proofs.YtenbkjeflancaaaGreatDoorW.PrintLast Go.Proofs.YtenbkjeflancaaaGreatDoorW.PrintMore
theorem zValOa0_ {P_ : Prop} (h_ : P_ := by repeat (first | exact Drawn0.refl _ | apply Drawn0.step)) : P_ := h_
theorem znValO_ {X_ : Prop} [Decidable X_] (h_ : ¬ X_ → False := by intro c_; rw [if_neg c_] at H; exact absurd H (by simp)) : X_ := Decidable.byContradiction h_
def ordL (kd : Int) (l : List Int) : List Int := if kd = 6 ∨ kd = 7 then [rd l 1, rd l 0] else l
set_option maxHeartbeats 8000000 in
set_option maxRecDepth 1000000 in
theorem order_id (n : ByteArray) (u f a kd s d : Int) (wr : Bool) (A1 : Option Addr) (n1 c1 : Nat) (w : World) (h6 : kd ≠ 6) (h7 : kd ≠ 7) :
  Calls Tryz.prog 64 #[.agg #[.string n, .int .i64 u, .int .i64 f, .int .i64 a, .int .i64 kd, .int .i64 s, .int .i64 d, .bool wr], .slice A1 n1 c1] w fun e w' => e = .returned (.slice A1 n1 c1) ∧ Below w.heap.size w w' := by
 have e6 : (kd == 6) = false := beq_eq_false_iff_ne.2 h6
 have e7 : (kd == 7) = false := beq_eq_false_iff_ne.2 h7
 clear h6 h7
 have hbk := blk_new w (.cells #[.string n, .int .i64 u, .int .i64 f, .int .i64 a, .int .i64 kd, .int .i64 s, .int .i64 d, .bool wr] 23 (0, 0))
 have q4 := blk_cell hbk 4
 have hB := (Below.refl w.heap.size w).alloc (Nat.le_refl _) (.cells #[.string n, .int .i64 u, .int .i64 f, .int .i64 a, .int .i64 kd, .int .i64 s, .int .i64 d, .bool wr] 23 (0, 0))
 go_enter Tryz.func64, Tryz.ntmps64
 go_wp2
 go_ret
 exact ⟨rfl, hB⟩
set_option maxHeartbeats 8000000 in
set_option maxRecDepth 1000000 in
theorem order_turn6 (n : ByteArray) (u f a s d : Int) (wr : Bool) (A1 : Option Addr) (c1 : Nat) (l : List Int) (w : World) (hr : Kd.C (Kd.int .i64) w A1 l.length l) (hc : l.length ≤ c1) (hl : 2 ≤ l.length) :
  Calls Tryz.prog 64 #[.agg #[.string n, .int .i64 u, .int .i64 f, .int .i64 a, .int .i64 6, .int .i64 s, .int .i64 d, .bool wr], .slice A1 l.length c1] w fun e w' => ∃ v, e = .returned v ∧ Kd.R (Kd.int .i64) 3 w' w.heap.size (fun _ => True) v [rd l 1, rd l 0] ∧ Below w.heap.size w w' := by
 have mk := fun (W : World) (l : List Int) (hl : l.length ≤ 10) (hb : w.heap.size ≤ W.heap.size) => Kd.R_of_own (enc := Value.int .i64) (h1 := fun _ => rfl) (e := 3) (ok := fun _ => True) (own_lit W w.heap.size 3 .i64 l hb (by omega)) (fun _ _ => trivial)
 obtain ⟨ad, e0, hx0⟩ := Kd.at_int hr 0 (by omega) (by omega)
 obtain ⟨ad1, e1, hx1⟩ := Kd.at_int hr 1 (by omega) (by omega)
 subst e0
 obtain rfl : ad = ad1 := by injection e1
 rw [show ((0 : Int)).toNat = 0 from rfl, Addr.add_zero'] at hx0
 rw [show ((1 : Int)).toNat = 1 from rfl] at hx1
 have l0 : (0 < l.length) = True := eq_true (by omega)
 have l1 : (1 < l.length) = True := eq_true (by omega)
 have i1 : (1 < (l.length : Int)) = True := eq_true (by omega)
 have i0 : (0 < (l.length : Int)) = True := eq_true (by omega)
 generalize rd l 0 = y at *
 generalize rd l 1 = x at *
 clear hr hc hl e1
 have hbk := blk_new w (.cells #[.string n, .int .i64 u, .int .i64 f, .int .i64 a, .int .i64 6, .int .i64 s, .int .i64 d, .bool wr] 23 (0, 0))
 have q4 := blk_cell hbk 4
 have hB := (Below.refl w.heap.size w).alloc (Nat.le_refl _) (.cells #[.string n, .int .i64 u, .int .i64 f, .int .i64 a, .int .i64 6, .int .i64 s, .int .i64 d, .bool wr] 23 (0, 0))
 have hx0' := (hB.cell (World.block_lt_of_cell? w _ hx0)).trans hx0
 have hx1' := (hB.cell (World.block_lt_of_cell? w _ hx1)).trans hx1
 simp only [Nat.reduceMul, Nat.reduceEqDiff, Go.Addr.add, ↓reduceIte] at hx1'
 have hR0 := mk _ [x, y] (by simp) hB.size
 rw [show (w.alloc (.cells #[.string n, .int .i64 u, .int .i64 f, .int .i64 a, .int .i64 6, .int .i64 s, .int .i64 d, .bool wr] 23 (0, 0))).heap.size = w.heap.size + 1 by simp] at hR0
 have hR := Kd.R_drew hR0
 have hB2 := below_drew1 (hB.alloc hB.size (.cells #[.int .i64 x, .int .i64 y] 3 (0, 0)))
 clear hx0 hx1 mk
 go_enter Tryz.func64, Tryz.ntmps64
 go_wp2
 all_goals go_region
 all_goals go_wp2
 all_goals (go_ret; exact ⟨_, rfl, hR, hB2⟩)
set_option maxHeartbeats 8000000 in
set_option maxRecDepth 1000000 in
theorem order_turn7 (n : ByteArray) (u f a s d : Int) (wr : Bool) (A1 : Option Addr) (c1 : Nat) (l : List Int) (w : World) (hr : Kd.C (Kd.int .i64) w A1 l.length l) (hc : l.length ≤ c1) (hl : 2 ≤ l.length) :
  Calls Tryz.prog 64 #[.agg #[.string n, .int .i64 u, .int .i64 f, .int .i64 a, .int .i64 7, .int .i64 s, .int .i64 d, .bool wr], .slice A1 l.length c1] w fun e w' => ∃ v, e = .returned v ∧ Kd.R (Kd.int .i64) 3 w' w.heap.size (fun _ => True) v [rd l 1, rd l 0] ∧ Below w.heap.size w w' := by
 have mk := fun (W : World) (l : List Int) (hl : l.length ≤ 10) (hb : w.heap.size ≤ W.heap.size) => Kd.R_of_own (enc := Value.int .i64) (h1 := fun _ => rfl) (e := 3) (ok := fun _ => True) (own_lit W w.heap.size 3 .i64 l hb (by omega)) (fun _ _ => trivial)
 obtain ⟨ad, e0, hx0⟩ := Kd.at_int hr 0 (by omega) (by omega)
 obtain ⟨ad1, e1, hx1⟩ := Kd.at_int hr 1 (by omega) (by omega)
 subst e0
 obtain rfl : ad = ad1 := by injection e1
 rw [show ((0 : Int)).toNat = 0 from rfl, Addr.add_zero'] at hx0
 rw [show ((1 : Int)).toNat = 1 from rfl] at hx1
 have l0 : (0 < l.length) = True := eq_true (by omega)
 have l1 : (1 < l.length) = True := eq_true (by omega)
 have i1 : (1 < (l.length : Int)) = True := eq_true (by omega)
 have i0 : (0 < (l.length : Int)) = True := eq_true (by omega)
 generalize rd l 0 = y at *
 generalize rd l 1 = x at *
 clear hr hc hl e1
 have hbk := blk_new w (.cells #[.string n, .int .i64 u, .int .i64 f, .int .i64 a, .int .i64 7, .int .i64 s, .int .i64 d, .bool wr] 23 (0, 0))
 have q4 := blk_cell hbk 4
 have hB := (Below.refl w.heap.size w).alloc (Nat.le_refl _) (.cells #[.string n, .int .i64 u, .int .i64 f, .int .i64 a, .int .i64 7, .int .i64 s, .int .i64 d, .bool wr] 23 (0, 0))
 have hx0' := (hB.cell (World.block_lt_of_cell? w _ hx0)).trans hx0
 have hx1' := (hB.cell (World.block_lt_of_cell? w _ hx1)).trans hx1
 simp only [Nat.reduceMul, Nat.reduceEqDiff, Go.Addr.add, ↓reduceIte] at hx1'
 have hR0 := mk _ [x, y] (by simp) hB.size
 rw [show (w.alloc (.cells #[.string n, .int .i64 u, .int .i64 f, .int .i64 a, .int .i64 7, .int .i64 s, .int .i64 d, .bool wr] 23 (0, 0))).heap.size = w.heap.size + 1 by simp] at hR0
 have hR := Kd.R_drew hR0
 have hB2 := below_drew1 (hB.alloc hB.size (.cells #[.int .i64 x, .int .i64 y] 3 (0, 0)))
 clear hx0 hx1 mk
 go_enter Tryz.func64, Tryz.ntmps64
 go_wp2
 all_goals go_region
 all_goals go_wp2
 all_goals (go_ret; exact ⟨_, rfl, hR, hB2⟩)
theorem order_calls (n : ByteArray) (u f a kd s d : Int) (wr : Bool) (A1 : Option Addr) (c1 : Nat) (l : List Int) (w : World) (hr : Kd.C (Kd.int .i64) w A1 l.length l) (hc : l.length ≤ c1) (hl : kd = 6 ∨ kd = 7 → 2 ≤ l.length) :
  Calls Tryz.prog 64 #[.agg #[.string n, .int .i64 u, .int .i64 f, .int .i64 a, .int .i64 kd, .int .i64 s, .int .i64 d, .bool wr], .slice A1 l.length c1] w fun e w' => ∃ ax cx, e = .returned (.slice ax (ordL kd l).length cx) ∧ (ordL kd l).length ≤ cx ∧ Kd.C (Kd.int .i64) w' ax (ordL kd l).length (ordL kd l) ∧ Below w.heap.size w w' := by
 have turn : ∀ v w', Kd.R (Kd.int .i64) 3 w' w.heap.size (fun _ => True) v [rd l 1, rd l 0] → kd = 6 ∨ kd = 7 → ∃ ax cx, v = .slice ax (ordL kd l).length cx ∧ (ordL kd l).length ≤ cx ∧ Kd.C (Kd.int .i64) w' ax (ordL kd l).length (ordL kd l) := by
  intro v w' hR hk
  have e : ordL kd l = [rd l 1, rd l 0] := if_pos hk
  rw [e]
  obtain ⟨A, c, h1, h2, h3⟩ := Kd.R_reads hR
  exact ⟨A, c, h1, h2, h3⟩
 by_cases h6 : kd = 6
 ·
  subst h6
  refine (order_turn6 n u f a s d wr A1 c1 l w hr hc (hl (Or.inl rfl))).mono ?_
  rintro e w' ⟨v, rfl, hR, hB⟩
  obtain ⟨ax, cx, rfl, h1, h2⟩ := turn v w' hR (Or.inl rfl)
  exact ⟨ax, cx, rfl, h1, h2, hB⟩
 ·
  by_cases h7 : kd = 7
  ·
   subst h7
   refine (order_turn7 n u f a s d wr A1 c1 l w hr hc (hl (Or.inr rfl))).mono ?_
   rintro e w' ⟨v, rfl, hR, hB⟩
   obtain ⟨ax, cx, rfl, h1, h2⟩ := turn v w' hR (Or.inr rfl)
   exact ⟨ax, cx, rfl, h1, h2, hB⟩
  ·
   have e : ordL kd l = l := if_neg (by omega)
   rw [e]
   refine (order_id n u f a kd s d wr A1 l.length c1 w h6 h7).mono ?_
   rintro e w' ⟨rfl, hB⟩
   exact ⟨A1, c1, rfl, hc, Kd.C_below hr hB, hB⟩
set_option maxHeartbeats 8000000 in
set_option maxRecDepth 1000000 in
theorem trim_read (k : Nat) (A2 : Option Addr) (c2 : Nat) (l0 r : List Int) (w : World) (hr0 : Kd.C (Kd.int .i64) w A2 l0.length l0) (hc0 : l0.length ≤ c2) (h : basculeref22_trim.f k l0 = some r) :
  Calls Tryz.prog 66 #[.slice A2 l0.length c2] w fun e w' => (∃ m, m ≤ l0.length ∧ r = l0.take m) ∧ e = .returned (.slice A2 r.length c2) ∧ Drawn0 w w' := by
 have HR0 := Aside0.mk hr0
 have HC0 := Aside0.mk hc0
 clear hr0 hc0
 have H : (basculeref22_trim.l0 k l0 (l0.length : Int)) = some r := h
 clear h
 have H' := Aside0.mk H
 clear H
 have fin : ∀ x : Int, 0 ≤ x → x ≤ (l0.length : Int) → some (l0.take x.toNat) = some r → (∃ m, m ≤ l0.length ∧ r = l0.take m) ∧ r.length = x.toNat := by
  intro x h0 h1 h
  obtain rfl := Option.some.inj h
  exact ⟨⟨x.toNat, by omega, rfl⟩, by rw [List.length_take]; omega⟩
 have FIN := Aside0.mk fin
 clear fin
 go_enter Tryz.func66, Tryz.ntmps66
 go_wp2
 go_loopg [3] k (fun kq v3 w' => ∃ (x3_1 : Int), v3 = .int .i64 x3_1 ∧ Aside0 (basculeref22_trim.l0 kq l0 x3_1 = some r) ∧ Aside0 (kq ≤ k) ∧ Drawn0 w w')
 case atStart => exact ⟨((l0.length : Int)), (by first | rfl | (simp; done) | (simp [*]; done)), H', ⟨Nat.le_refl _⟩, zValOa0_⟩
 case round =>
  clear H'
  obtain ⟨x3_1, rfl, HA, HK1, ⟨m1, rfl⟩⟩ := hrel
  cases gk with
  | zero => exact absurd HA.out (by simp [basculeref22_trim.l0])
  | succ k1 =>
   have H := HA.out
   clear HA
   simp only [basculeref22_trim.l0] at H
   by_cases c3 : x3_1 > 0
   rotate_left
   ·
    rw [if_neg c3] at H
    have c3b0 : decide (0 < x3_1) = false := decide_eq_false c3
    clear c3
    have c11 : 0 ≤ x3_1 := znValO_
    rw [if_pos c11] at H
    have c11b1 : decide (0 ≤ x3_1) = true := decide_eq_true c11
    have c12 : x3_1 ≤ (l0.length : Int) := znValO_
    rw [if_pos c12] at H
    obtain ⟨hm, hrl⟩ := FIN.out x3_1 c11 c12 H
    have HM := Aside0.mk hm
    have c12b1 : decide (x3_1 ≤ (l0.length : Int)) = true := decide_eq_true c12
    obtain ⟨i013, hi013, _, hsz13, _⟩ := info_parts info3
    have hcut13 := cut_to (P := Tryz.prog) 33 3 .i64 Tryz.underlying33 hi013 A2 l0.length c2 x3_1 c11 c12 HC0.out
    rw [← hrl] at hcut13
    clear hm hrl H hi013 hsz13
    replace c11 := eq_true c11
    replace c12 := eq_true c12
    go_wp2
    repeat (go_quiet (fail); try go_wp2)
    go_ret
    exact ⟨HM.out, rfl, zValOa0_⟩
   rw [if_pos c3] at H
   have c3b0 : decide (0 < x3_1) = true := decide_eq_true c3
   clear c3
   obtain ⟨ji4, hji4⟩ : ∃ j_ : Int, (wrap64 (x3_1 - 1)) = j_ := ⟨_, rfl⟩
   replace H : (if 0 ≤ (ji4) then (if (ji4) < (l0.length : Int) then (if (rd l0 (ji4)) = 0 then (basculeref22_trim.l0 k1 l0 ji4) else (if 0 ≤ x3_1 then (if x3_1 ≤ (l0.length : Int) then (some (l0.take (x3_1 : Int).toNat)) else (none)) else (none))) else (none)) else (none)) = some r := by first | (rw [hji4] at H; exact H) | (simp only [hji4] at H ⊢; exact H)
   have hji4w : (IntKind.i64.wrap (x3_1 - 1)) = ji4 := (i64_w _).trans hji4
   have c5 : 0 ≤ (ji4) := znValO_
   rw [if_pos c5] at H
   have c5b0 : decide (0 ≤ (ji4)) = true := decide_eq_true c5
   have c6 : (ji4) < (l0.length : Int) := znValO_
   rw [if_pos c6] at H
   have c6b0 : decide ((ji4) < (l0.length : Int)) = true := decide_eq_true c6
   obtain ⟨ad288, e288, hx288_0⟩ := Kd.at_int HR0.out (ji4) c5 c6
   cases e288
   replace hx288_0 := (World.cell?_drewN w m1 _).trans hx288_0
   have p288 := eq_true c5
   have q288 := eq_true c6
   clear c5 c6
   by_cases c7 : (rd l0 (ji4)) = 0
   ·
    rw [if_pos c7] at H
    have c7b0 : ((rd l0 (ji4)) == 0) = true := beq_iff_eq.mpr c7
    have c7b1 : ((rd l0 (ji4)) != 0) = false := bne_eq_false_iff_eq.mpr c7
    clear c7
    have H' := Aside0.mk H
    clear H
    go_wp2
    repeat (go_quiet (fail); try go_wp2)
    go_roundg k1
    case measure => have := HK1.out; omega
    case rel => exact ⟨(ji4), (by first | rfl | (simp; done) | (simp only [← hji4] <;> (first | rfl | simp)) | (simp [*]; done)), H', ⟨by have := HK1.out; omega⟩, zValOa0_⟩
   rw [if_neg c7] at H
   have c7b0 : ((rd l0 (ji4)) == 0) = false := beq_eq_false_iff_ne.mpr c7
   have c7b1 : ((rd l0 (ji4)) != 0) = true := bne_iff_ne.mpr c7
   clear c7
   have c8 : 0 ≤ x3_1 := znValO_
   rw [if_pos c8] at H
   have c8b1 : decide (0 ≤ x3_1) = true := decide_eq_true c8
   have c9 : x3_1 ≤ (l0.length : Int) := znValO_
   rw [if_pos c9] at H
   obtain ⟨hm, hrl⟩ := FIN.out x3_1 c8 c9 H
   have HM := Aside0.mk hm
   have HL := Aside0.mk hrl
   have c9b1 : decide (x3_1 ≤ (l0.length : Int)) = true := decide_eq_true c9
   obtain ⟨i010, hi010, _, hsz10, _⟩ := info_parts info3
   have hcut10 := cut_to (P := Tryz.prog) 33 3 .i64 Tryz.underlying33 hi010 (some ad288) l0.length c2 x3_1 c8 c9 HC0.out
   rw [← hrl] at hcut10
   clear hm hrl H hi010 hsz10
   replace c8 := eq_true c8
   replace c9 := eq_true c9
   go_wp2
   repeat (go_quiet (fail); try go_wp2)
   go_ret
   exact ⟨HM.out, rfl, zValOa0_⟩
theorem trim_take (l r : List Int) : ∀ (k : Nat) (x : Int), basculeref22_trim.l0 k l x = some r → ∃ m, m ≤ l.length ∧ r = l.take m
 | 0, x, h => by simp [basculeref22_trim.l0] at h
 | k + 1, x, h => by
  have fin : (if 0 ≤ x then (if x ≤ (l.length : Int) then (some (l.take (x : Int).toNat)) else (none)) else (none)) = some r → ∃ m, m ≤ l.length ∧ r = l.take m := by
   intro h
   split at h
   ·
    split at h
    ·
     exact ⟨x.toNat, by omega, (Option.some.inj h).symm⟩
    ·
     cases h
   ·
    cases h
  rw [basculeref22_trim.l0] at h
  split at h
  ·
   split at h
   ·
    split at h
    ·
     split at h
     ·
      exact trim_take l r k _ h
     ·
      exact fin h
    ·
     cases h
   ·
    cases h
  ·
   exact fin h
theorem trim_C {k : Nat} {A : Option Addr} {c : Nat} {l r : List Int} {w : World} (hr : Kd.C (Kd.int .i64) w A l.length l) (hc : l.length ≤ c) (h : basculeref22_trim.f k l = some r) : Kd.C (Kd.int .i64) w A r.length r ∧ r.length ≤ c := by
 obtain ⟨m, hm, rfl⟩ := trim_take l r k _ h
 exact ⟨Kd.C_take hr hm, by rw [List.length_take]; omega⟩
end Go.Proofs.YtenbkjeflancaaaGreatDoor.Val
