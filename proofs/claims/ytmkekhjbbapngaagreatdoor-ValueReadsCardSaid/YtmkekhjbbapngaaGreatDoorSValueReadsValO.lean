/- ValO -/
import Derived.Test.YtmkekhjbbapngaaGreatDoorSValueReadsQx19
set_option maxRecDepth 1000000
set_option maxHeartbeats 8000000
set_option linter.all false
namespace Go.Proofs.YtmkekhjbbapngaaGreatDoor.Val
open Go.RowKit Go.Proofs.YtmkekhjbbapngaaGreatDoor.Q YtmkekhjbbapngaaGreatDoorW.PrintWords YtmkekhjbbapngaaGreatDoorW.PrintLast YtmkekhjbbapngaaGreatDoorW.PrintMore
def ordL (kd : Int) (l : List Int) : List Int := if kd = 6 ∨ kd = 7 then [rd l 1, rd l 0] else l
theorem order_id (n : ByteArray) (u f a kd s d : Int) (wr : Bool) (A1 : Option Addr) (n1 c1 : Nat) (w : World) (h6 : kd ≠ 6) (h7 : kd ≠ 7) :
    Calls Tryz.prog 64 #[.agg #[.string n, .int .i64 u, .int .i64 f, .int .i64 a, .int .i64 kd, .int .i64 s, .int .i64 d, .bool wr], .slice A1 n1 c1] w fun e w' => e = .returned (.slice A1 n1 c1) ∧ Below w.heap.size w w' := by
  have e6 : (kd == 6) = false := beq_eq_false_iff_ne.2 h6
  have e7 : (kd == 7) = false := beq_eq_false_iff_ne.2 h7
  clear h6 h7
  have hbk := blk_new w (.cells #[.string n, .int .i64 u, .int .i64 f, .int .i64 a, .int .i64 kd, .int .i64 s, .int .i64 d, .bool wr] 23 (0, 0))
  have q4 := blk_cell hbk 4
  have hB := (Below.refl w.heap.size w).alloc (Nat.le_refl _) (.cells #[.string n, .int .i64 u, .int .i64 f, .int .i64 a, .int .i64 kd, .int .i64 s, .int .i64 d, .bool wr] 23 (0, 0))
  go_enter Tryz.func64, Tryz.ntmps64
  go_wp2
  go_ret
  exact ⟨rfl, hB⟩
theorem order_turn6 (n : ByteArray) (u f a s d : Int) (wr : Bool) (A1 : Option Addr) (c1 : Nat) (l : List Int) (w : World) (hr : Kd.C (Kd.int .i64) w A1 l.length l) (hc : l.length ≤ c1) (hl : 2 ≤ l.length) :
    Calls Tryz.prog 64 #[.agg #[.string n, .int .i64 u, .int .i64 f, .int .i64 a, .int .i64 6, .int .i64 s, .int .i64 d, .bool wr], .slice A1 l.length c1] w fun e w' => ∃ v, e = .returned v ∧ Kd.R (Kd.int .i64) 3 w' w.heap.size (fun _ => True) v [rd l 1, rd l 0] ∧ Below w.heap.size w w' := by
  have mk := fun (W : World) (l : List Int) (hl : l.length ≤ 10) (hb : w.heap.size ≤ W.heap.size) => Kd.R_of_own (enc := Value.int .i64) (h1 := fun _ => rfl) (e := 3) (ok := fun _ => True) (own_lit W w.heap.size 3 .i64 l hb (by omega)) (fun _ _ => trivial)
  obtain ⟨ad, e0, hx0⟩ := Kd.at_int hr 0 (by omega) (by omega)
  obtain ⟨ad1, e1, hx1⟩ := Kd.at_int hr 1 (by omega) (by omega)
  subst e0
  obtain rfl : ad = ad1 := by injection e1
  rw [show ((0 : Int)).toNat = 0 from rfl, Addr.add_zero'] at hx0
  rw [show ((1 : Int)).toNat = 1 from rfl] at hx1
  have l0 : (0 < l.length) = True := eq_true (by omega)
  have l1 : (1 < l.length) = True := eq_true (by omega)
  have i1 : (1 < (l.length : Int)) = True := eq_true (by omega)
  have i0 : (0 < (l.length : Int)) = True := eq_true (by omega)
  generalize rd l 0 = y at *
  generalize rd l 1 = x at *
  clear hr hc hl e1
  have hbk := blk_new w (.cells #[.string n, .int .i64 u, .int .i64 f, .int .i64 a, .int .i64 6, .int .i64 s, .int .i64 d, .bool wr] 23 (0, 0))
  have q4 := blk_cell hbk 4
  have hB := (Below.refl w.heap.size w).alloc (Nat.le_refl _) (.cells #[.string n, .int .i64 u, .int .i64 f, .int .i64 a, .int .i64 6, .int .i64 s, .int .i64 d, .bool wr] 23 (0, 0))
  have hx0' := (hB.cell (World.block_lt_of_cell? w _ hx0)).trans hx0
  have hx1' := (hB.cell (World.block_lt_of_cell? w _ hx1)).trans hx1
  simp only [Nat.reduceMul, Nat.reduceEqDiff, Go.Addr.add, ↓reduceIte] at hx1'
  have hR0 := mk _ [x, y] (by simp) hB.size
  rw [show (w.alloc (.cells #[.string n, .int .i64 u, .int .i64 f, .int .i64 a, .int .i64 6, .int .i64 s, .int .i64 d, .bool wr] 23 (0, 0))).heap.size = w.heap.size + 1 by simp] at hR0
  have hR := Kd.R_drew hR0
  have hB2 := below_drew1 (hB.alloc hB.size (.cells #[.int .i64 x, .int .i64 y] 3 (0, 0)))
  clear hx0 hx1 mk
  go_enter Tryz.func64, Tryz.ntmps64
  go_wp2
  all_goals go_region
  all_goals go_wp2
  all_goals (go_ret; exact ⟨_, rfl, hR, hB2⟩)
theorem order_turn7 (n : ByteArray) (u f a s d : Int) (wr : Bool) (A1 : Option Addr) (c1 : Nat) (l : List Int) (w : World) (hr : Kd.C (Kd.int .i64) w A1 l.length l) (hc : l.length ≤ c1) (hl : 2 ≤ l.length) :
    Calls Tryz.prog 64 #[.agg #[.string n, .int .i64 u, .int .i64 f, .int .i64 a, .int .i64 7, .int .i64 s, .int .i64 d, .bool wr], .slice A1 l.length c1] w fun e w' => ∃ v, e = .returned v ∧ Kd.R (Kd.int .i64) 3 w' w.heap.size (fun _ => True) v [rd l 1, rd l 0] ∧ Below w.heap.size w w' := by
  have mk := fun (W : World) (l : List Int) (hl : l.length ≤ 10) (hb : w.heap.size ≤ W.heap.size) => Kd.R_of_own (enc := Value.int .i64) (h1 := fun _ => rfl) (e := 3) (ok := fun _ => True) (own_lit W w.heap.size 3 .i64 l hb (by omega)) (fun _ _ => trivial)
  obtain ⟨ad, e0, hx0⟩ := Kd.at_int hr 0 (by omega) (by omega)
  obtain ⟨ad1, e1, hx1⟩ := Kd.at_int hr 1 (by omega) (by omega)
  subst e0
  obtain rfl : ad = ad1 := by injection e1
  rw [show ((0 : Int)).toNat = 0 from rfl, Addr.add_zero'] at hx0
  rw [show ((1 : Int)).toNat = 1 from rfl] at hx1
  have l0 : (0 < l.length) = True := eq_true (by omega)
  have l1 : (1 < l.length) = True := eq_true (by omega)
  have i1 : (1 < (l.length : Int)) = True := eq_true (by omega)
  have i0 : (0 < (l.length : Int)) = True := eq_true (by omega)
  generalize rd l 0 = y at *
  generalize rd l 1 = x at *
  clear hr hc hl e1
  have hbk := blk_new w (.cells #[.string n, .int .i64 u, .int .i64 f, .int .i64 a, .int .i64 7, .int .i64 s, .int .i64 d, .bool wr] 23 (0, 0))
  have q4 := blk_cell hbk 4
  have hB := (Below.refl w.heap.size w).alloc (Nat.le_refl _) (.cells #[.string n, .int .i64 u, .int .i64 f, .int .i64 a, .int .i64 7, .int .i64 s, .int .i64 d, .bool wr] 23 (0, 0))
  have hx0' := (hB.cell (World.block_lt_of_cell? w _ hx0)).trans hx0
  have hx1' := (hB.cell (World.block_lt_of_cell? w _ hx1)).trans hx1
  simp only [Nat.reduceMul, Nat.reduceEqDiff, Go.Addr.add, ↓reduceIte] at hx1'
  have hR0 := mk _ [x, y] (by simp) hB.size
  rw [show (w.alloc (.cells #[.string n, .int .i64 u, .int .i64 f, .int .i64 a, .int .i64 7, .int .i64 s, .int .i64 d, .bool wr] 23 (0, 0))).heap.size = w.heap.size + 1 by simp] at hR0
  have hR := Kd.R_drew hR0
  have hB2 := below_drew1 (hB.alloc hB.size (.cells #[.int .i64 x, .int .i64 y] 3 (0, 0)))
  clear hx0 hx1 mk
  go_enter Tryz.func64, Tryz.ntmps64
  go_wp2
  all_goals go_region
  all_goals go_wp2
  all_goals (go_ret; exact ⟨_, rfl, hR, hB2⟩)
theorem order_calls (n : ByteArray) (u f a kd s d : Int) (wr : Bool) (A1 : Option Addr) (c1 : Nat) (l : List Int) (w : World) (hr : Kd.C (Kd.int .i64) w A1 l.length l) (hc : l.length ≤ c1) (hl : kd = 6 ∨ kd = 7 → 2 ≤ l.length) :
    Calls Tryz.prog 64 #[.agg #[.string n, .int .i64 u, .int .i64 f, .int .i64 a, .int .i64 kd, .int .i64 s, .int .i64 d, .bool wr], .slice A1 l.length c1] w fun e w' => ∃ ax cx, e = .returned (.slice ax (ordL kd l).length cx) ∧ (ordL kd l).length ≤ cx ∧ Kd.C (Kd.int .i64) w' ax (ordL kd l).length (ordL kd l) ∧ Below w.heap.size w w' := by
  have turn : ∀ v w', Kd.R (Kd.int .i64) 3 w' w.heap.size (fun _ => True) v [rd l 1, rd l 0] → kd = 6 ∨ kd = 7 → ∃ ax cx, v = .slice ax (ordL kd l).length cx ∧ (ordL kd l).length ≤ cx ∧ Kd.C (Kd.int .i64) w' ax (ordL kd l).length (ordL kd l) := by
    intro v w' hR hk
    have e : ordL kd l = [rd l 1, rd l 0] := if_pos hk
    rw [e]
    obtain ⟨A, c, h1, h2, h3⟩ := Kd.R_reads hR
    exact ⟨A, c, h1, h2, h3⟩
  by_cases h6 : kd = 6
  · subst h6
    refine (order_turn6 n u f a s d wr A1 c1 l w hr hc (hl (Or.inl rfl))).mono ?_
    rintro e w' ⟨v, rfl, hR, hB⟩
    obtain ⟨ax, cx, rfl, h1, h2⟩ := turn v w' hR (Or.inl rfl)
    exact ⟨ax, cx, rfl, h1, h2, hB⟩
  · by_cases h7 : kd = 7
    · subst h7
      refine (order_turn7 n u f a s d wr A1 c1 l w hr hc (hl (Or.inr rfl))).mono ?_
      rintro e w' ⟨v, rfl, hR, hB⟩
      obtain ⟨ax, cx, rfl, h1, h2⟩ := turn v w' hR (Or.inr rfl)
      exact ⟨ax, cx, rfl, h1, h2, hB⟩
    · have e : ordL kd l = l := if_neg (by omega)
      rw [e]
      refine (order_id n u f a kd s d wr A1 l.length c1 w h6 h7).mono ?_
      rintro e w' ⟨rfl, hB⟩
      exact ⟨A1, c1, rfl, hc, Kd.C_below hr hB, hB⟩
end Go.Proofs.YtmkekhjbbapngaaGreatDoor.Val
set_option linter.all false
namespace Go.Proofs.YtmkekhjbbapngaaGreatDoor.Val
open Go.RowKit Go.Proofs.YtmkekhjbbapngaaGreatDoor.Q YtmkekhjbbapngaaGreatDoorW.PrintWords YtmkekhjbbapngaaGreatDoorW.PrintLast YtmkekhjbbapngaaGreatDoorW.PrintMore
def lenT (l : List Int) : Nat → Nat
  | 0 => 0
  | n + 1 => if rd l (n : Int) = 0 then lenT l n else n + 1
def trimT (l : List Int) : List Int := l.take (lenT l l.length)
theorem lenT_le (l : List Int) : ∀ n, lenT l n ≤ n
  | 0 => Nat.le_refl _
  | n + 1 => by
    unfold lenT
    split
    · exact Nat.le_trans (lenT_le l n) (Nat.le_succ _)
    · exact Nat.le_refl _
theorem trim_l0 (l : List Int) (hl : l.length ≤ 1000000) : ∀ (n k : Nat), n ≤ l.length → n < k → basculeref22_trim.l0 k l (n : Int) = some (l.take (lenT l n)) := by
  intro n
  induction n with
  | zero =>
    intro k hn hk
    obtain ⟨k, rfl⟩ : ∃ m, k = m + 1 := ⟨k - 1, by omega⟩
    rw [basculeref22_trim.l0, if_neg (by omega), if_pos (by omega), if_pos (by omega)]
    rfl
  | succ n ih =>
    intro k hn hk
    obtain ⟨k, rfl⟩ : ∃ m, k = m + 1 := ⟨k - 1, by omega⟩
    have e : wrap64 (((n + 1 : Nat) : Int) - 1) = (n : Int) := by unfold wrap64; omega
    rw [basculeref22_trim.l0, if_pos (by omega), e, if_pos (by omega), if_pos (by omega)]
    unfold lenT
    by_cases h : rd l (n : Int) = 0
    · rw [if_pos h, if_pos h]
      exact ih k (by omega) (by omega)
    · rw [if_neg h, if_neg h, if_pos (by omega), if_pos (by omega)]
      rfl
theorem trim_eq (l : List Int) (hl : l.length ≤ 1000000) (k : Nat) (hk : l.length < k) : basculeref22_trim.f k l = some (trimT l) :=
  trim_l0 l hl l.length k (Nat.le_refl _) hk
def lessAt (x y : List Int) : Nat → Bool
  | 0 => false
  | n + 1 => if rd x (n : Int) = rd y (n : Int) then lessAt x y n else decide (rd x (n : Int) < rd y (n : Int))
def lessL (x y : List Int) : Bool := if x.length = y.length then lessAt x y x.length else decide (x.length < y.length)
def lessO (l0 l1 : List Int) : Option Bool := if l0.length ≤ 100000 ∧ l1.length ≤ 100000 then some (lessL (trimT l0) (trimT l1)) else none
end Go.Proofs.YtmkekhjbbapngaaGreatDoor.Val
namespace Go.Proofs.YtmkekhjbbapngaaGreatDoor.Q
open Go.RowKit YtmkekhjbbapngaaGreatDoorW.PrintWords YtmkekhjbbapngaaGreatDoorW.PrintLast YtmkekhjbbapngaaGreatDoorW.PrintMore
attribute [local go_sem] max2_int min2_int max_two min_two
set_option linter.all false
def basculeref22_less.f (l0 : List Int) (l1 : List Int) : Option (Bool) := Val.lessO l0 l1
end Go.Proofs.YtmkekhjbbapngaaGreatDoor.Q
