/- What the proof of TableParses leans on: RowH. -/
import Derived.Test.YtbfhiiokajbdhaaGreatDoorSTableParsesNum21
import Derived.StillTailTactics
import Derived.BigRegion
import Derived.Test.YtbfhiiokajbdhaaGreatDoorSTableParsesQx0
set_option linter.unusedVariables false
set_option linter.unusedSimpArgs false
namespace Go.Proofs.YtbfhiiokajbdhaaGreatDoor.Fl
open Go.RowKit Go.Proofs.YtbfhiiokajbdhaaGreatDoor.Q Go.Proofs.YtbfhiiokajbdhaaGreatDoor.Val Go.Proofs.YtbfhiiokajbdhaaGreatDoorW.PrintWords Go.Proofs.YtbfhiiokajbdhaaGreatDoorW.PrintWords.Kd
def rrB (l : List ByteArray) : Bool := (rowOf l).isSome
def rrS (l : List ByteArray) : S34 := (rowOf l).getD zeroR
abbrev zeroC : Array Value := #[.string ⟨#[]⟩, .int .i64 0, .int .i64 0, .int .i64 0, .int .i64 0, .int .i64 0, .int .i64 0, .bool false]
def lastB (s : ByteArray) : Bool := s.toList == [119] || s.toList == [114]
theorem rdn1 (s : ByteArray) (ws : List ByteArray) (r : S34) : rdFrom (s :: ws) 1 r = if numB s = true then rdFrom ws 2 { r with f1 := numV s } else none := by
  show (if numB s = true then rdFrom ws 2 (if numB s = true then { r with f1 := numV s } else r) else none) = _
  cases numB s <;> rfl
theorem rdn2 (s : ByteArray) (ws : List ByteArray) (r : S34) : rdFrom (s :: ws) 2 r = if numB s = true then rdFrom ws 3 { r with f2 := numV s } else none := by
  show (if numB s = true then rdFrom ws 3 (if numB s = true then { r with f2 := numV s } else r) else none) = _
  cases numB s <;> rfl
theorem rdn3 (s : ByteArray) (ws : List ByteArray) (r : S34) : rdFrom (s :: ws) 3 r = if numB s = true then rdFrom ws 4 { r with f3 := numV s } else none := by
  show (if numB s = true then rdFrom ws 4 (if numB s = true then { r with f3 := numV s } else r) else none) = _
  cases numB s <;> rfl
theorem rdn4 (s : ByteArray) (ws : List ByteArray) (r : S34) : rdFrom (s :: ws) 4 r = if numB s = true then rdFrom ws 5 { r with f4 := numV s } else none := by
  show (if numB s = true then rdFrom ws 5 (if numB s = true then { r with f4 := numV s } else r) else none) = _
  cases numB s <;> rfl
theorem rdn5 (s : ByteArray) (ws : List ByteArray) (r : S34) : rdFrom (s :: ws) 5 r = if numB s = true then rdFrom ws 6 { r with f5 := numV s } else none := by
  show (if numB s = true then rdFrom ws 6 (if numB s = true then { r with f5 := numV s } else r) else none) = _
  cases numB s <;> rfl
theorem rdn6 (s : ByteArray) (ws : List ByteArray) (r : S34) : rdFrom (s :: ws) 6 r = if numB s = true then rdFrom ws 7 { r with f6 := numV s } else none := by
  show (if numB s = true then rdFrom ws 7 (if numB s = true then { r with f6 := numV s } else r) else none) = _
  cases numB s <;> rfl
theorem rowOf_eq (s0 s1 s2 s3 s4 s5 s6 s7 : ByteArray) : rowOf [s0, s1, s2, s3, s4, s5, s6, s7] = if numB s1 = true then if numB s2 = true then if numB s3 = true then if numB s4 = true then if numB s5 = true then if numB s6 = true then if lastB s7 = true then some ⟨s0, numV s1, numV s2, numV s3, numV s4, numV s5, numV s6, s7.toList == [119]⟩ else none else none else none else none else none else none else none := by
  unfold rowOf
  rw [if_pos (show [s0, s1, s2, s3, s4, s5, s6, s7].length = 8 from rfl)]
  show rdFrom [s1, s2, s3, s4, s5, s6, s7] 1 { zeroR with f0 := s0 } = _
  rw [rdn1, rdn2, rdn3, rdn4, rdn5, rdn6]
  rfl
theorem no_row {l : List ByteArray} (h : rowOf l = none) : rrB l = false ∧ rrS l = zeroR := by
  unfold rrB rrS
  rw [h]
  exact ⟨rfl, rfl⟩
theorem num_yes {s : ByteArray} (hs : s.size ≤ 1000000) (h : numB s = true) (w : World) : Calls Tryz.prog 48 #[.string s] w fun e w' => e = .returned (.tuple #[.int .i64 (numV s), .bool true]) ∧ Below w.heap.size w w' := by
  obtain ⟨k, hk⟩ := (number_ev s hs).rounds
  have e : refN s = (numV s, true) := by unfold refN; rw [if_pos h]
  rw [e] at hk
  refine (basculeref21_number.calls k s _ _ w hk).mono ?_
  rintro e w' ⟨rfl, m, rfl⟩
  exact ⟨rfl, pw_below_drewN (Below.refl _ _) m⟩
theorem num_no {s : ByteArray} (hs : s.size ≤ 1000000) (h : numB s = false) (w : World) : Calls Tryz.prog 48 #[.string s] w fun e w' => e = .returned (.tuple #[.int .i64 0, .bool false]) ∧ Below w.heap.size w w' := by
  obtain ⟨k, hk⟩ := (number_ev s hs).rounds
  have e : refN s = (0, false) := by unfold refN; rw [h]; rfl
  rw [e] at hk
  refine (basculeref21_number.calls k s _ _ w hk).mono ?_
  rintro e w' ⟨rfl, m, rfl⟩
  exact ⟨rfl, pw_below_drewN (Below.refl _ _) m⟩
set_option maxHeartbeats 4000000 in
set_option maxRecDepth 1000000 in
theorem row_len (A : Option Addr) (c : Nat) (l : List ByteArray) (w : World) (hl : l.length ≠ 8) (hl1 : l.length ≤ 1000000) :
    Calls Tryz.prog 26 #[.slice A l.length c] w fun e w' => e = .returned (.tuple #[.agg zeroC, .bool false]) ∧ Below w.heap.size w w' := by
  have n1 : ((l.length : Int) != 8) = true := bne_iff_ne.2 (by omega)
  have hk0 := blk_new w (.cells zeroC 34 (0, 0))
  have qf := fun i => blk_frozen hk0 i
  have b0 := blk_set hk0 0 (.string ⟨#[]⟩)
  have b1 := blk_set b0 1 (.int .i64 0)
  have b2 := blk_set b1 2 (.int .i64 0)
  have b3 := blk_set b2 3 (.int .i64 0)
  have b4 := blk_set b3 4 (.int .i64 0)
  have b5 := blk_set b4 5 (.int .i64 0)
  have b6 := blk_set b5 6 (.int .i64 0)
  have b7 := blk_set b6 7 (.bool false)
  have r0 := blk_cell b7 0
  have r1 := blk_cell b7 1
  have r2 := blk_cell b7 2
  have r3 := blk_cell b7 3
  have r4 := blk_cell b7 4
  have r5 := blk_cell b7 5
  have r6 := blk_cell b7 6
  have r7 := blk_cell b7 7
  clear b0 b1 b2 b3 b4 b5 b6 b7 hk0
  go_enter Tryz.func26, Tryz.ntmps26
  go_wp2
  refine bodyPost_ret (v := .tuple #[.agg zeroC, .bool false]) (by simp [results, Tryz.f26, go_sem, r0, r1, r2, r3, r4, r5, r6, r7]) rfl ⟨rfl, ?_⟩
  repeat refine below_set ?_ (Nat.le_refl _)
  exact (Below.refl _ _).alloc (Nat.le_refl _) _
structure W8 (w : World) (A : Option Addr) (s0 s1 s2 s3 s4 s5 s6 s7 : ByteArray) (ad : Addr) : Prop where
  e : A = some ad
  k0 : w.cell? ad = some (.string s0)
  k1 : w.cell? ⟨ad.block, ad.off + 1, none⟩ = some (.string s1)
  k2 : w.cell? ⟨ad.block, ad.off + 2, none⟩ = some (.string s2)
  k3 : w.cell? ⟨ad.block, ad.off + 3, none⟩ = some (.string s3)
  k4 : w.cell? ⟨ad.block, ad.off + 4, none⟩ = some (.string s4)
  k5 : w.cell? ⟨ad.block, ad.off + 5, none⟩ = some (.string s5)
  k6 : w.cell? ⟨ad.block, ad.off + 6, none⟩ = some (.string s6)
  k7 : w.cell? ⟨ad.block, ad.off + 7, none⟩ = some (.string s7)
theorem W8.of {w : World} {A : Option Addr} {s0 s1 s2 s3 s4 s5 s6 s7 : ByteArray} (h : Kd.C Kd.string w A 8 [s0, s1, s2, s3, s4, s5, s6, s7]) : ∃ ad, W8 w A s0 s1 s2 s3 s4 s5 s6 s7 ad := by
  obtain ⟨ad, e, g0⟩ := at_string h 0 (by decide) (by decide)
  have g := fun (i : Nat) (hi : i < 8) => at_string h (i : Int) (by omega) (by omega)
  have G : ∀ (i : Nat) (hi : i < 8), w.cell? (ad.add i) = some (.string (rdOf ByteArray.empty [s0, s1, s2, s3, s4, s5, s6, s7] i)) := fun i hi => by
    obtain ⟨ad', e', g'⟩ := g i hi
    rw [e] at e'
    cases e'
    rw [Int.toNat_natCast] at g'
    exact g'
  exact ⟨ad, e, G 0 (by decide), G 1 (by decide), G 2 (by decide), G 3 (by decide), G 4 (by decide), G 5 (by decide), G 6 (by decide), G 7 (by decide)⟩
theorem W8.below {w w' : World} {A : Option Addr} {s0 s1 s2 s3 s4 s5 s6 s7 : ByteArray} {ad : Addr} (h : W8 w A s0 s1 s2 s3 s4 s5 s6 s7 ad) (hb : Below w.heap.size w w') : W8 w' A s0 s1 s2 s3 s4 s5 s6 s7 ad :=
  ⟨h.e, (hb.cell (World.block_lt_of_cell? w _ h.k0)).trans h.k0, (hb.cell (World.block_lt_of_cell? w _ h.k1)).trans h.k1, (hb.cell (World.block_lt_of_cell? w _ h.k2)).trans h.k2, (hb.cell (World.block_lt_of_cell? w _ h.k3)).trans h.k3, (hb.cell (World.block_lt_of_cell? w _ h.k4)).trans h.k4, (hb.cell (World.block_lt_of_cell? w _ h.k5)).trans h.k5, (hb.cell (World.block_lt_of_cell? w _ h.k6)).trans h.k6, (hb.cell (World.block_lt_of_cell? w _ h.k7)).trans h.k7⟩
def arrC (s1 s2 s3 s4 s5 s6 : ByteArray) (i : Nat) : Array Value :=
  #[.int .i64 0, .int .i64 (if 1 < i then numV s1 else 0), .int .i64 (if 2 < i then numV s2 else 0), .int .i64 (if 3 < i then numV s3 else 0), .int .i64 (if 4 < i then numV s4 else 0), .int .i64 (if 5 < i then numV s5 else 0), .int .i64 (if 6 < i then numV s6 else 0), .int .i64 0]
def RowPost (RO : Option S34) (w : World) (e : Ending) (w' : World) : Prop :=
  ∃ (r : S34) (b : Bool), RO = (if b = true then some r else none) ∧ (b = false → r = zeroR) ∧ e = .returned (.tuple #[.agg #[.string r.f0, .int .i64 r.f1, .int .i64 r.f2, .int .i64 r.f3, .int .i64 r.f4, .int .i64 r.f5, .int .i64 r.f6, .bool r.f7], .bool b]) ∧ Below w.heap.size w w'
def okUp (s1 s2 s3 s4 s5 s6 : ByteArray) (i : Nat) : Prop :=
  (1 < i → numB s1 = true) ∧ (2 < i → numB s2 = true) ∧ (3 < i → numB s3 = true) ∧ (4 < i → numB s4 = true) ∧ (5 < i → numB s5 = true) ∧ (6 < i → numB s6 = true)
set_option maxHeartbeats 4000000 in
set_option maxRecDepth 1000000 in
theorem row_last (A : Option Addr) (c : Nat) (s0 s1 s2 s3 s4 s5 s6 s7 : ByteArray) (w : World) (hr : Kd.C Kd.string w A 8 [s0, s1, s2, s3, s4, s5, s6, s7]) (h7 : lastB s7 = false) :
    Calls Tryz.prog 26 #[.slice A 8 c] w fun e w' => e = .returned (.tuple #[.agg zeroC, .bool false]) ∧ Below w.heap.size w w' := by
  obtain ⟨ad, hW⟩ := W8.of hr
  obtain rfl := hW.e
  have hal := (Below.refl w.heap.size w).alloc (Nat.le_refl _) (.cells zeroC 34 (0, 0))
  have q7 := (hW.below hal).k7
  have e1 : (s7.toList == [119]) = false := (Bool.or_eq_false_iff.1 h7).1
  have e2 : (s7.toList == [114]) = false := (Bool.or_eq_false_iff.1 h7).2
  have hk0 := blk_new w (.cells zeroC 34 (0, 0))
  have qf := fun i => blk_frozen hk0 i
  have b0 := blk_set hk0 0 (.string ⟨#[]⟩)
  have b1 := blk_set b0 1 (.int .i64 0)
  have b2 := blk_set b1 2 (.int .i64 0)
  have b3 := blk_set b2 3 (.int .i64 0)
  have b4 := blk_set b3 4 (.int .i64 0)
  have b5 := blk_set b4 5 (.int .i64 0)
  have b6 := blk_set b5 6 (.int .i64 0)
  have b7 := blk_set b6 7 (.bool false)
  have r0 := blk_cell b7 0
  have r1 := blk_cell b7 1
  have r2 := blk_cell b7 2
  have r3 := blk_cell b7 3
  have r4 := blk_cell b7 4
  have r5 := blk_cell b7 5
  have r6 := blk_cell b7 6
  have r7 := blk_cell b7 7
  clear b0 b1 b2 b3 b4 b5 b6 b7 hk0 hr hW h7 hal
  go_enter Tryz.func26, Tryz.ntmps26
  go_wp2
  refine bodyPost_ret (v := .tuple #[.agg zeroC, .bool false]) (by simp [results, Tryz.f26, go_sem, r0, r1, r2, r3, r4, r5, r6, r7]) rfl ⟨rfl, ?_⟩
  repeat refine below_set ?_ (Nat.le_refl _)
  exact (Below.refl _ _).alloc (Nat.le_refl _) _
set_option maxHeartbeats 16000000 in
set_option maxRecDepth 1000000 in
theorem row_go_w (A : Option Addr) (c : Nat) (s0 s1 s2 s3 s4 s5 s6 s7 : ByteArray) (w : World) (hr : Kd.C Kd.string w A 8 [s0, s1, s2, s3, s4, s5, s6, s7]) (ew : (s7.toList == [119]) = true) (er : (s7.toList == [114]) = false)
    (z1 : s1.size ≤ 1000000) (z2 : s2.size ≤ 1000000) (z3 : s3.size ≤ 1000000) (z4 : s4.size ≤ 1000000) (z5 : s5.size ≤ 1000000) (z6 : s6.size ≤ 1000000) :
    Calls Tryz.prog 26 #[.slice A 8 c] w (RowPost (rowOf [s0, s1, s2, s3, s4, s5, s6, s7]) w) := by
  obtain ⟨ad, hW⟩ := W8.of hr
  obtain rfl := hW.e
  clear hr
  have hro := rowOf_eq s0 s1 s2 s3 s4 s5 s6 s7
  rw [ew, show lastB s7 = true from by unfold lastB; rw [ew, er]; rfl] at hro
  obtain ⟨RO, hRO⟩ : ∃ x, x = rowOf [s0, s1, s2, s3, s4, s5, s6, s7] := ⟨_, rfl⟩
  rw [← hRO] at hro ⊢
  clear hRO
  have HRO := Lib.hid hro
  clear hro
  have hal := (Below.refl w.heap.size w).alloc (Nat.le_refl _) (.cells zeroC 34 (0, 0))
  have hk0 := blk_new w (.cells zeroC 34 (0, 0))
  have hal2 := hal.alloc (by simp) (.cells #[.int .i64 0, .int .i64 0, .int .i64 0, .int .i64 0, .int .i64 0, .int .i64 0, .int .i64 0, .int .i64 0] 78 (0, 0))
  have hk1 := blk_alloc hk0 (.cells #[.int .i64 0, .int .i64 0, .int .i64 0, .int .i64 0, .int .i64 0, .int .i64 0, .int .i64 0, .int .i64 0] 78 (0, 0))
  have hk2 := blk_new (w.alloc (.cells zeroC 34 (0, 0))) (.cells #[.int .i64 0, .int .i64 0, .int .i64 0, .int .i64 0, .int .i64 0, .int .i64 0, .int .i64 0, .int .i64 0] 78 (0, 0))
  have hsz : (w.alloc (.cells zeroC 34 (0, 0))).heap.size = w.heap.size + 1 := by simp
  rw [hsz] at hk2
  have hWa := hW.below hal
  have q7 := hWa.k7
  have HW := Lib.hid hW
  have HK := Lib.hid (And.intro hal2 (And.intro hk1 hk2))
  clear hal hal2 hk0 hk1 hk2 hW hWa hsz
  go_enter Tryz.func26, Tryz.ntmps26
  go_wp2
  go_loopg [5] 7 (fun gk v5 wx => ∃ i : Nat, v5 = .int .i64 i ∧ i + gk = 7 + 1 ∧ 1 ≤ i ∧ i ≤ 7 ∧ okUp s1 s2 s3 s4 s5 s6 i ∧ wx.heap[w.heap.size + 1]? = some (.cells (arrC s1 s2 s3 s4 s5 s6 i) 78 (0, 0)) ∧ wx.heap[w.heap.size]? = some (.cells zeroC 34 (0, 0)) ∧ Below w.heap.size w wx)
  case atStart => exact ⟨1, rfl, rfl, Nat.le_refl _, by decide, ⟨fun h => absurd h (by omega), fun h => absurd h (by omega), fun h => absurd h (by omega), fun h => absurd h (by omega), fun h => absurd h (by omega), fun h => absurd h (by omega)⟩, HK.out.2.2, HK.out.2.1, HK.out.1⟩
  case round =>
    obtain ⟨i, rfl, hig, hi1, hi7, hok, hab, hrb, hBr⟩ := hrel
    have hWr := HW.out.below hBr
    cases gk with
    | zero => omega
    | succ gk =>
      rcases (by omega : i = 7 ∨ i = 1 ∨ i = 2 ∨ i = 3 ∨ i = 4 ∨ i = 5 ∨ i = 6) with rfl | rfl | rfl | rfl | rfl | rfl | rfl
      · obtain ⟨p1, p2, p3, p4, p5, p6⟩ := hok
        have e9 : RO = some ⟨s0, numV s1, numV s2, numV s3, numV s4, numV s5, numV s6, true⟩ := by
          have h_ := HRO.out
          rw [p1 (by omega), p2 (by omega), p3 (by omega), p4 (by omega), p5 (by omega), p6 (by omega)] at h_
          rw [h_]
          rfl
        have HE := Lib.hid e9
        have kw := hWr.k0
        have kx := hWr.k7
        have a1 : wr.cell? ⟨w.heap.size + 1, 1, none⟩ = some (.int .i64 (numV s1)) := blk_cell hab 1
        have a2 : wr.cell? ⟨w.heap.size + 1, 2, none⟩ = some (.int .i64 (numV s2)) := blk_cell hab 2
        have a3 : wr.cell? ⟨w.heap.size + 1, 3, none⟩ = some (.int .i64 (numV s3)) := blk_cell hab 3
        have a4 : wr.cell? ⟨w.heap.size + 1, 4, none⟩ = some (.int .i64 (numV s4)) := blk_cell hab 4
        have a5 : wr.cell? ⟨w.heap.size + 1, 5, none⟩ = some (.int .i64 (numV s5)) := blk_cell hab 5
        have a6 : wr.cell? ⟨w.heap.size + 1, 6, none⟩ = some (.int .i64 (numV s6)) := blk_cell hab 6
        have q0 := blk_cell hrb 0
        have q1 := blk_cell hrb 1
        have q2 := blk_cell hrb 2
        have q3 := blk_cell hrb 3
        have q4 := blk_cell hrb 4
        have q5 := blk_cell hrb 5
        have q6 := blk_cell hrb 6
        have q9 := blk_cell hrb 7
        have qf := fun i => blk_frozen hrb i
        clear e9 p1 p2 p3 p4 p5 p6 hWr
        go_wp2
        go_still_tail 20, (by kernel_rfl)
        have hb5 := pw_below_drewN (Below.refl wr.heap.size wr) 1
        change wpList _ _ _ _ _ (wr.drewN 1)
        generalize wr.drewN 1 = w5 at hb5 ⊢
        have hk5 := blk_below hrb hb5
        have hB5 := hBr.trans (hb5.mono hBr.size)
        clear q0 q1 q2 q3 q4 q5 q6 q9 qf
        have q0 := blk_cell hk5 0
        have q1 := blk_cell hk5 1
        have q2 := blk_cell hk5 2
        have q3 := blk_cell hk5 3
        have q4 := blk_cell hk5 4
        have q5 := blk_cell hk5 5
        have q6 := blk_cell hk5 6
        have q9 := blk_cell hk5 7
        have qf := fun i => blk_frozen hk5 i
        go_wp2
        have b0 := blk_set hk5 0 (.string s0)
        have b1 := blk_set b0 1 (.int .i64 (numV s1))
        have b2 := blk_set b1 2 (.int .i64 (numV s2))
        have b3 := blk_set b2 3 (.int .i64 (numV s3))
        have b4 := blk_set b3 4 (.int .i64 (numV s4))
        have b5 := blk_set b4 5 (.int .i64 (numV s5))
        have b6 := blk_set b5 6 (.int .i64 (numV s6))
        have b7 := blk_set b6 7 (.bool true)
        have r0 := blk_cell b7 0
        have r1 := blk_cell b7 1
        have r2 := blk_cell b7 2
        have r3 := blk_cell b7 3
        have r4 := blk_cell b7 4
        have r5 := blk_cell b7 5
        have r6 := blk_cell b7 6
        have r7 := blk_cell b7 7
        try simp only [Exit.inBlock, Exit.then]
        refine bodyPost_ret (v := .tuple #[.agg #[.string s0, .int .i64 (numV s1), .int .i64 (numV s2), .int .i64 (numV s3), .int .i64 (numV s4), .int .i64 (numV s5), .int .i64 (numV s6), .bool true], .bool true]) (by simp [results, Tryz.f26, go_sem, r0, r1, r2, r3, r4, r5, r6, r7]) rfl (show RowPost RO w _ _ from ⟨_, true, HE.out, (fun h => by cases h), rfl, ?_⟩)
        repeat refine below_set ?_ (Nat.le_refl _)
        exact hB5
      · have kw := hWr.k1
        obtain ⟨p1, p2, p3, p4, p5, p6⟩ := hok
        cases hn : numB s1
        · have cN := num_no z1 hn wr
          have e9 : RO = none := by
            have h_ := HRO.out
            rw [hn] at h_
            rw [h_]
            simp
          have HE := Lib.hid e9
          clear e9 hn hWr hab p1 p2 p3 p4 p5 p6
          go_wp2_with (go_at_call 48; refine cN.mono ?_; rintro e w4 ⟨rfl, hb4⟩; have hk4 := blk_below hrb hb4; have qf := fun i => blk_frozen hk4 i; have q0 := blk_cell hk4 0; have q1 := blk_cell hk4 1; have q2 := blk_cell hk4 2; have q3 := blk_cell hk4 3; have q4 := blk_cell hk4 4; have q5 := blk_cell hk4 5; have q6 := blk_cell hk4 6; have q9 := blk_cell hk4 7)
          have hB4 := hBr.trans (hb4.mono hBr.size)
          have b0 := blk_set hk4 0 (.string ⟨#[]⟩)
          have b1 := blk_set b0 1 (.int .i64 0)
          have b2 := blk_set b1 2 (.int .i64 0)
          have b3 := blk_set b2 3 (.int .i64 0)
          have b4 := blk_set b3 4 (.int .i64 0)
          have b5 := blk_set b4 5 (.int .i64 0)
          have b6 := blk_set b5 6 (.int .i64 0)
          have b7 := blk_set b6 7 (.bool false)
          have r0 := blk_cell b7 0
          have r1 := blk_cell b7 1
          have r2 := blk_cell b7 2
          have r3 := blk_cell b7 3
          have r4 := blk_cell b7 4
          have r5 := blk_cell b7 5
          have r6 := blk_cell b7 6
          have r7 := blk_cell b7 7
          try simp only [Exit.inBlock, Exit.then]
          refine bodyPost_ret (v := .tuple #[.agg zeroC, .bool false]) (by simp [results, Tryz.f26, go_sem, r0, r1, r2, r3, r4, r5, r6, r7]) rfl (show RowPost RO w _ _ from ⟨zeroR, false, HE.out, fun _ => rfl, rfl, ?_⟩)
          repeat refine below_set ?_ (Nat.le_refl _)
          exact hB4
        · have cN := num_yes z1 hn wr
          have hok' : okUp s1 s2 s3 s4 s5 s6 2 := ⟨fun h => hn, fun h => absurd h (by omega), fun h => absurd h (by omega), fun h => absurd h (by omega), fun h => absurd h (by omega), fun h => absurd h (by omega)⟩
          clear hn p1 p2 p3 p4 p5 p6
          go_wp2_with (go_at_call 48; refine cN.mono ?_; rintro e w4 ⟨rfl, hb4⟩; have hk4 := blk_below hab hb4; have qf := fun i => blk_frozen hk4 i; have q0 := blk_cell hk4 1)
          have hB4 := hBr.trans (hb4.mono hBr.size)
          have hk5 := blk_set hk4 1 (.int .i64 (numV s1))
          have hk6 := blk_far (p := ⟨w.heap.size + 1, 1, none⟩) (blk_below hrb hb4) (Nat.ne_of_lt (Nat.lt_succ_self _)) (.int .i64 (numV s1))
          go_roundg gk
          case measure => omega
          case rel => exact ⟨2, rfl, by omega, by omega, by omega, hok', hk5, hk6, below_set hB4 (Nat.le_succ _)⟩
      · have kw := hWr.k2
        obtain ⟨p1, p2, p3, p4, p5, p6⟩ := hok
        cases hn : numB s2
        · have cN := num_no z2 hn wr
          have e9 : RO = none := by
            have h_ := HRO.out
            rw [hn] at h_
            rw [h_]
            simp
          have HE := Lib.hid e9
          clear e9 hn hWr hab p1 p2 p3 p4 p5 p6
          go_wp2_with (go_at_call 48; refine cN.mono ?_; rintro e w4 ⟨rfl, hb4⟩; have hk4 := blk_below hrb hb4; have qf := fun i => blk_frozen hk4 i; have q0 := blk_cell hk4 0; have q1 := blk_cell hk4 1; have q2 := blk_cell hk4 2; have q3 := blk_cell hk4 3; have q4 := blk_cell hk4 4; have q5 := blk_cell hk4 5; have q6 := blk_cell hk4 6; have q9 := blk_cell hk4 7)
          have hB4 := hBr.trans (hb4.mono hBr.size)
          have b0 := blk_set hk4 0 (.string ⟨#[]⟩)
          have b1 := blk_set b0 1 (.int .i64 0)
          have b2 := blk_set b1 2 (.int .i64 0)
          have b3 := blk_set b2 3 (.int .i64 0)
          have b4 := blk_set b3 4 (.int .i64 0)
          have b5 := blk_set b4 5 (.int .i64 0)
          have b6 := blk_set b5 6 (.int .i64 0)
          have b7 := blk_set b6 7 (.bool false)
          have r0 := blk_cell b7 0
          have r1 := blk_cell b7 1
          have r2 := blk_cell b7 2
          have r3 := blk_cell b7 3
          have r4 := blk_cell b7 4
          have r5 := blk_cell b7 5
          have r6 := blk_cell b7 6
          have r7 := blk_cell b7 7
          try simp only [Exit.inBlock, Exit.then]
          refine bodyPost_ret (v := .tuple #[.agg zeroC, .bool false]) (by simp [results, Tryz.f26, go_sem, r0, r1, r2, r3, r4, r5, r6, r7]) rfl (show RowPost RO w _ _ from ⟨zeroR, false, HE.out, fun _ => rfl, rfl, ?_⟩)
          repeat refine below_set ?_ (Nat.le_refl _)
          exact hB4
        · have cN := num_yes z2 hn wr
          have hok' : okUp s1 s2 s3 s4 s5 s6 3 := ⟨fun _ => p1 (by omega), fun h => hn, fun h => absurd h (by omega), fun h => absurd h (by omega), fun h => absurd h (by omega), fun h => absurd h (by omega)⟩
          clear hn p1 p2 p3 p4 p5 p6
          go_wp2_with (go_at_call 48; refine cN.mono ?_; rintro e w4 ⟨rfl, hb4⟩; have hk4 := blk_below hab hb4; have qf := fun i => blk_frozen hk4 i; have q0 := blk_cell hk4 2)
          have hB4 := hBr.trans (hb4.mono hBr.size)
          have hk5 := blk_set hk4 2 (.int .i64 (numV s2))
          have hk6 := blk_far (p := ⟨w.heap.size + 1, 2, none⟩) (blk_below hrb hb4) (Nat.ne_of_lt (Nat.lt_succ_self _)) (.int .i64 (numV s2))
          go_roundg gk
          case measure => omega
          case rel => exact ⟨3, rfl, by omega, by omega, by omega, hok', hk5, hk6, below_set hB4 (Nat.le_succ _)⟩
      · have kw := hWr.k3
        obtain ⟨p1, p2, p3, p4, p5, p6⟩ := hok
        cases hn : numB s3
        · have cN := num_no z3 hn wr
          have e9 : RO = none := by
            have h_ := HRO.out
            rw [hn] at h_
            rw [h_]
            simp
          have HE := Lib.hid e9
          clear e9 hn hWr hab p1 p2 p3 p4 p5 p6
          go_wp2_with (go_at_call 48; refine cN.mono ?_; rintro e w4 ⟨rfl, hb4⟩; have hk4 := blk_below hrb hb4; have qf := fun i => blk_frozen hk4 i; have q0 := blk_cell hk4 0; have q1 := blk_cell hk4 1; have q2 := blk_cell hk4 2; have q3 := blk_cell hk4 3; have q4 := blk_cell hk4 4; have q5 := blk_cell hk4 5; have q6 := blk_cell hk4 6; have q9 := blk_cell hk4 7)
          have hB4 := hBr.trans (hb4.mono hBr.size)
          have b0 := blk_set hk4 0 (.string ⟨#[]⟩)
          have b1 := blk_set b0 1 (.int .i64 0)
          have b2 := blk_set b1 2 (.int .i64 0)
          have b3 := blk_set b2 3 (.int .i64 0)
          have b4 := blk_set b3 4 (.int .i64 0)
          have b5 := blk_set b4 5 (.int .i64 0)
          have b6 := blk_set b5 6 (.int .i64 0)
          have b7 := blk_set b6 7 (.bool false)
          have r0 := blk_cell b7 0
          have r1 := blk_cell b7 1
          have r2 := blk_cell b7 2
          have r3 := blk_cell b7 3
          have r4 := blk_cell b7 4
          have r5 := blk_cell b7 5
          have r6 := blk_cell b7 6
          have r7 := blk_cell b7 7
          try simp only [Exit.inBlock, Exit.then]
          refine bodyPost_ret (v := .tuple #[.agg zeroC, .bool false]) (by simp [results, Tryz.f26, go_sem, r0, r1, r2, r3, r4, r5, r6, r7]) rfl (show RowPost RO w _ _ from ⟨zeroR, false, HE.out, fun _ => rfl, rfl, ?_⟩)
          repeat refine below_set ?_ (Nat.le_refl _)
          exact hB4
        · have cN := num_yes z3 hn wr
          have hok' : okUp s1 s2 s3 s4 s5 s6 4 := ⟨fun _ => p1 (by omega), fun _ => p2 (by omega), fun h => hn, fun h => absurd h (by omega), fun h => absurd h (by omega), fun h => absurd h (by omega)⟩
          clear hn p1 p2 p3 p4 p5 p6
          go_wp2_with (go_at_call 48; refine cN.mono ?_; rintro e w4 ⟨rfl, hb4⟩; have hk4 := blk_below hab hb4; have qf := fun i => blk_frozen hk4 i; have q0 := blk_cell hk4 3)
          have hB4 := hBr.trans (hb4.mono hBr.size)
          have hk5 := blk_set hk4 3 (.int .i64 (numV s3))
          have hk6 := blk_far (p := ⟨w.heap.size + 1, 3, none⟩) (blk_below hrb hb4) (Nat.ne_of_lt (Nat.lt_succ_self _)) (.int .i64 (numV s3))
          go_roundg gk
          case measure => omega
          case rel => exact ⟨4, rfl, by omega, by omega, by omega, hok', hk5, hk6, below_set hB4 (Nat.le_succ _)⟩
      · have kw := hWr.k4
        obtain ⟨p1, p2, p3, p4, p5, p6⟩ := hok
        cases hn : numB s4
        · have cN := num_no z4 hn wr
          have e9 : RO = none := by
            have h_ := HRO.out
            rw [hn] at h_
            rw [h_]
            simp
          have HE := Lib.hid e9
          clear e9 hn hWr hab p1 p2 p3 p4 p5 p6
          go_wp2_with (go_at_call 48; refine cN.mono ?_; rintro e w4 ⟨rfl, hb4⟩; have hk4 := blk_below hrb hb4; have qf := fun i => blk_frozen hk4 i; have q0 := blk_cell hk4 0; have q1 := blk_cell hk4 1; have q2 := blk_cell hk4 2; have q3 := blk_cell hk4 3; have q4 := blk_cell hk4 4; have q5 := blk_cell hk4 5; have q6 := blk_cell hk4 6; have q9 := blk_cell hk4 7)
          have hB4 := hBr.trans (hb4.mono hBr.size)
          have b0 := blk_set hk4 0 (.string ⟨#[]⟩)
          have b1 := blk_set b0 1 (.int .i64 0)
          have b2 := blk_set b1 2 (.int .i64 0)
          have b3 := blk_set b2 3 (.int .i64 0)
          have b4 := blk_set b3 4 (.int .i64 0)
          have b5 := blk_set b4 5 (.int .i64 0)
          have b6 := blk_set b5 6 (.int .i64 0)
          have b7 := blk_set b6 7 (.bool false)
          have r0 := blk_cell b7 0
          have r1 := blk_cell b7 1
          have r2 := blk_cell b7 2
          have r3 := blk_cell b7 3
          have r4 := blk_cell b7 4
          have r5 := blk_cell b7 5
          have r6 := blk_cell b7 6
          have r7 := blk_cell b7 7
          try simp only [Exit.inBlock, Exit.then]
          refine bodyPost_ret (v := .tuple #[.agg zeroC, .bool false]) (by simp [results, Tryz.f26, go_sem, r0, r1, r2, r3, r4, r5, r6, r7]) rfl (show RowPost RO w _ _ from ⟨zeroR, false, HE.out, fun _ => rfl, rfl, ?_⟩)
          repeat refine below_set ?_ (Nat.le_refl _)
          exact hB4
        · have cN := num_yes z4 hn wr
          have hok' : okUp s1 s2 s3 s4 s5 s6 5 := ⟨fun _ => p1 (by omega), fun _ => p2 (by omega), fun _ => p3 (by omega), fun h => hn, fun h => absurd h (by omega), fun h => absurd h (by omega)⟩
          clear hn p1 p2 p3 p4 p5 p6
          go_wp2_with (go_at_call 48; refine cN.mono ?_; rintro e w4 ⟨rfl, hb4⟩; have hk4 := blk_below hab hb4; have qf := fun i => blk_frozen hk4 i; have q0 := blk_cell hk4 4)
          have hB4 := hBr.trans (hb4.mono hBr.size)
          have hk5 := blk_set hk4 4 (.int .i64 (numV s4))
          have hk6 := blk_far (p := ⟨w.heap.size + 1, 4, none⟩) (blk_below hrb hb4) (Nat.ne_of_lt (Nat.lt_succ_self _)) (.int .i64 (numV s4))
          go_roundg gk
          case measure => omega
          case rel => exact ⟨5, rfl, by omega, by omega, by omega, hok', hk5, hk6, below_set hB4 (Nat.le_succ _)⟩
      · have kw := hWr.k5
        obtain ⟨p1, p2, p3, p4, p5, p6⟩ := hok
        cases hn : numB s5
        · have cN := num_no z5 hn wr
          have e9 : RO = none := by
            have h_ := HRO.out
            rw [hn] at h_
            rw [h_]
            simp
          have HE := Lib.hid e9
          clear e9 hn hWr hab p1 p2 p3 p4 p5 p6
          go_wp2_with (go_at_call 48; refine cN.mono ?_; rintro e w4 ⟨rfl, hb4⟩; have hk4 := blk_below hrb hb4; have qf := fun i => blk_frozen hk4 i; have q0 := blk_cell hk4 0; have q1 := blk_cell hk4 1; have q2 := blk_cell hk4 2; have q3 := blk_cell hk4 3; have q4 := blk_cell hk4 4; have q5 := blk_cell hk4 5; have q6 := blk_cell hk4 6; have q9 := blk_cell hk4 7)
          have hB4 := hBr.trans (hb4.mono hBr.size)
          have b0 := blk_set hk4 0 (.string ⟨#[]⟩)
          have b1 := blk_set b0 1 (.int .i64 0)
          have b2 := blk_set b1 2 (.int .i64 0)
          have b3 := blk_set b2 3 (.int .i64 0)
          have b4 := blk_set b3 4 (.int .i64 0)
          have b5 := blk_set b4 5 (.int .i64 0)
          have b6 := blk_set b5 6 (.int .i64 0)
          have b7 := blk_set b6 7 (.bool false)
          have r0 := blk_cell b7 0
          have r1 := blk_cell b7 1
          have r2 := blk_cell b7 2
          have r3 := blk_cell b7 3
          have r4 := blk_cell b7 4
          have r5 := blk_cell b7 5
          have r6 := blk_cell b7 6
          have r7 := blk_cell b7 7
          try simp only [Exit.inBlock, Exit.then]
          refine bodyPost_ret (v := .tuple #[.agg zeroC, .bool false]) (by simp [results, Tryz.f26, go_sem, r0, r1, r2, r3, r4, r5, r6, r7]) rfl (show RowPost RO w _ _ from ⟨zeroR, false, HE.out, fun _ => rfl, rfl, ?_⟩)
          repeat refine below_set ?_ (Nat.le_refl _)
          exact hB4
        · have cN := num_yes z5 hn wr
          have hok' : okUp s1 s2 s3 s4 s5 s6 6 := ⟨fun _ => p1 (by omega), fun _ => p2 (by omega), fun _ => p3 (by omega), fun _ => p4 (by omega), fun h => hn, fun h => absurd h (by omega)⟩
          clear hn p1 p2 p3 p4 p5 p6
          go_wp2_with (go_at_call 48; refine cN.mono ?_; rintro e w4 ⟨rfl, hb4⟩; have hk4 := blk_below hab hb4; have qf := fun i => blk_frozen hk4 i; have q0 := blk_cell hk4 5)
          have hB4 := hBr.trans (hb4.mono hBr.size)
          have hk5 := blk_set hk4 5 (.int .i64 (numV s5))
          have hk6 := blk_far (p := ⟨w.heap.size + 1, 5, none⟩) (blk_below hrb hb4) (Nat.ne_of_lt (Nat.lt_succ_self _)) (.int .i64 (numV s5))
          go_roundg gk
          case measure => omega
          case rel => exact ⟨6, rfl, by omega, by omega, by omega, hok', hk5, hk6, below_set hB4 (Nat.le_succ _)⟩
      · have kw := hWr.k6
        obtain ⟨p1, p2, p3, p4, p5, p6⟩ := hok
        cases hn : numB s6
        · have cN := num_no z6 hn wr
          have e9 : RO = none := by
            have h_ := HRO.out
            rw [hn] at h_
            rw [h_]
            simp
          have HE := Lib.hid e9
          clear e9 hn hWr hab p1 p2 p3 p4 p5 p6
          go_wp2_with (go_at_call 48; refine cN.mono ?_; rintro e w4 ⟨rfl, hb4⟩; have hk4 := blk_below hrb hb4; have qf := fun i => blk_frozen hk4 i; have q0 := blk_cell hk4 0; have q1 := blk_cell hk4 1; have q2 := blk_cell hk4 2; have q3 := blk_cell hk4 3; have q4 := blk_cell hk4 4; have q5 := blk_cell hk4 5; have q6 := blk_cell hk4 6; have q9 := blk_cell hk4 7)
          have hB4 := hBr.trans (hb4.mono hBr.size)
          have b0 := blk_set hk4 0 (.string ⟨#[]⟩)
          have b1 := blk_set b0 1 (.int .i64 0)
          have b2 := blk_set b1 2 (.int .i64 0)
          have b3 := blk_set b2 3 (.int .i64 0)
          have b4 := blk_set b3 4 (.int .i64 0)
          have b5 := blk_set b4 5 (.int .i64 0)
          have b6 := blk_set b5 6 (.int .i64 0)
          have b7 := blk_set b6 7 (.bool false)
          have r0 := blk_cell b7 0
          have r1 := blk_cell b7 1
          have r2 := blk_cell b7 2
          have r3 := blk_cell b7 3
          have r4 := blk_cell b7 4
          have r5 := blk_cell b7 5
          have r6 := blk_cell b7 6
          have r7 := blk_cell b7 7
          try simp only [Exit.inBlock, Exit.then]
          refine bodyPost_ret (v := .tuple #[.agg zeroC, .bool false]) (by simp [results, Tryz.f26, go_sem, r0, r1, r2, r3, r4, r5, r6, r7]) rfl (show RowPost RO w _ _ from ⟨zeroR, false, HE.out, fun _ => rfl, rfl, ?_⟩)
          repeat refine below_set ?_ (Nat.le_refl _)
          exact hB4
        · have cN := num_yes z6 hn wr
          have hok' : okUp s1 s2 s3 s4 s5 s6 7 := ⟨fun _ => p1 (by omega), fun _ => p2 (by omega), fun _ => p3 (by omega), fun _ => p4 (by omega), fun _ => p5 (by omega), fun h => hn⟩
          clear hn p1 p2 p3 p4 p5 p6
          go_wp2_with (go_at_call 48; refine cN.mono ?_; rintro e w4 ⟨rfl, hb4⟩; have hk4 := blk_below hab hb4; have qf := fun i => blk_frozen hk4 i; have q0 := blk_cell hk4 6)
          have hB4 := hBr.trans (hb4.mono hBr.size)
          have hk5 := blk_set hk4 6 (.int .i64 (numV s6))
          have hk6 := blk_far (p := ⟨w.heap.size + 1, 6, none⟩) (blk_below hrb hb4) (Nat.ne_of_lt (Nat.lt_succ_self _)) (.int .i64 (numV s6))
          go_roundg gk
          case measure => omega
          case rel => exact ⟨7, rfl, by omega, by omega, by omega, hok', hk5, hk6, below_set hB4 (Nat.le_succ _)⟩
set_option maxHeartbeats 16000000 in
set_option maxRecDepth 1000000 in
theorem row_go_r (A : Option Addr) (c : Nat) (s0 s1 s2 s3 s4 s5 s6 s7 : ByteArray) (w : World) (hr : Kd.C Kd.string w A 8 [s0, s1, s2, s3, s4, s5, s6, s7]) (ew : (s7.toList == [119]) = false) (er : (s7.toList == [114]) = true)
    (z1 : s1.size ≤ 1000000) (z2 : s2.size ≤ 1000000) (z3 : s3.size ≤ 1000000) (z4 : s4.size ≤ 1000000) (z5 : s5.size ≤ 1000000) (z6 : s6.size ≤ 1000000) :
    Calls Tryz.prog 26 #[.slice A 8 c] w (RowPost (rowOf [s0, s1, s2, s3, s4, s5, s6, s7]) w) := by
  obtain ⟨ad, hW⟩ := W8.of hr
  obtain rfl := hW.e
  clear hr
  have hro := rowOf_eq s0 s1 s2 s3 s4 s5 s6 s7
  rw [ew, show lastB s7 = true from by unfold lastB; rw [ew, er]; rfl] at hro
  obtain ⟨RO, hRO⟩ : ∃ x, x = rowOf [s0, s1, s2, s3, s4, s5, s6, s7] := ⟨_, rfl⟩
  rw [← hRO] at hro ⊢
  clear hRO
  have HRO := Lib.hid hro
  clear hro
  have hal := (Below.refl w.heap.size w).alloc (Nat.le_refl _) (.cells zeroC 34 (0, 0))
  have hk0 := blk_new w (.cells zeroC 34 (0, 0))
  have hal2 := hal.alloc (by simp) (.cells #[.int .i64 0, .int .i64 0, .int .i64 0, .int .i64 0, .int .i64 0, .int .i64 0, .int .i64 0, .int .i64 0] 78 (0, 0))
  have hk1 := blk_alloc hk0 (.cells #[.int .i64 0, .int .i64 0, .int .i64 0, .int .i64 0, .int .i64 0, .int .i64 0, .int .i64 0, .int .i64 0] 78 (0, 0))
  have hk2 := blk_new (w.alloc (.cells zeroC 34 (0, 0))) (.cells #[.int .i64 0, .int .i64 0, .int .i64 0, .int .i64 0, .int .i64 0, .int .i64 0, .int .i64 0, .int .i64 0] 78 (0, 0))
  have hsz : (w.alloc (.cells zeroC 34 (0, 0))).heap.size = w.heap.size + 1 := by simp
  rw [hsz] at hk2
  have hWa := hW.below hal
  have q7 := hWa.k7
  have HW := Lib.hid hW
  have HK := Lib.hid (And.intro hal2 (And.intro hk1 hk2))
  clear hal hal2 hk0 hk1 hk2 hW hWa hsz
  go_enter Tryz.func26, Tryz.ntmps26
  go_wp2
  go_loopg [5] 7 (fun gk v5 wx => ∃ i : Nat, v5 = .int .i64 i ∧ i + gk = 7 + 1 ∧ 1 ≤ i ∧ i ≤ 7 ∧ okUp s1 s2 s3 s4 s5 s6 i ∧ wx.heap[w.heap.size + 1]? = some (.cells (arrC s1 s2 s3 s4 s5 s6 i) 78 (0, 0)) ∧ wx.heap[w.heap.size]? = some (.cells zeroC 34 (0, 0)) ∧ Below w.heap.size w wx)
  case atStart => exact ⟨1, rfl, rfl, Nat.le_refl _, by decide, ⟨fun h => absurd h (by omega), fun h => absurd h (by omega), fun h => absurd h (by omega), fun h => absurd h (by omega), fun h => absurd h (by omega), fun h => absurd h (by omega)⟩, HK.out.2.2, HK.out.2.1, HK.out.1⟩
  case round =>
    obtain ⟨i, rfl, hig, hi1, hi7, hok, hab, hrb, hBr⟩ := hrel
    have hWr := HW.out.below hBr
    cases gk with
    | zero => omega
    | succ gk =>
      rcases (by omega : i = 7 ∨ i = 1 ∨ i = 2 ∨ i = 3 ∨ i = 4 ∨ i = 5 ∨ i = 6) with rfl | rfl | rfl | rfl | rfl | rfl | rfl
      · obtain ⟨p1, p2, p3, p4, p5, p6⟩ := hok
        have e9 : RO = some ⟨s0, numV s1, numV s2, numV s3, numV s4, numV s5, numV s6, false⟩ := by
          have h_ := HRO.out
          rw [p1 (by omega), p2 (by omega), p3 (by omega), p4 (by omega), p5 (by omega), p6 (by omega)] at h_
          rw [h_]
          rfl
        have HE := Lib.hid e9
        have kw := hWr.k0
        have kx := hWr.k7
        have a1 : wr.cell? ⟨w.heap.size + 1, 1, none⟩ = some (.int .i64 (numV s1)) := blk_cell hab 1
        have a2 : wr.cell? ⟨w.heap.size + 1, 2, none⟩ = some (.int .i64 (numV s2)) := blk_cell hab 2
        have a3 : wr.cell? ⟨w.heap.size + 1, 3, none⟩ = some (.int .i64 (numV s3)) := blk_cell hab 3
        have a4 : wr.cell? ⟨w.heap.size + 1, 4, none⟩ = some (.int .i64 (numV s4)) := blk_cell hab 4
        have a5 : wr.cell? ⟨w.heap.size + 1, 5, none⟩ = some (.int .i64 (numV s5)) := blk_cell hab 5
        have a6 : wr.cell? ⟨w.heap.size + 1, 6, none⟩ = some (.int .i64 (numV s6)) := blk_cell hab 6
        have q0 := blk_cell hrb 0
        have q1 := blk_cell hrb 1
        have q2 := blk_cell hrb 2
        have q3 := blk_cell hrb 3
        have q4 := blk_cell hrb 4
        have q5 := blk_cell hrb 5
        have q6 := blk_cell hrb 6
        have q9 := blk_cell hrb 7
        have qf := fun i => blk_frozen hrb i
        clear e9 p1 p2 p3 p4 p5 p6 hWr
        go_wp2
        go_still_tail 20, (by kernel_rfl)
        have hb5 := pw_below_drewN (Below.refl wr.heap.size wr) 1
        change wpList _ _ _ _ _ (wr.drewN 1)
        generalize wr.drewN 1 = w5 at hb5 ⊢
        have hk5 := blk_below hrb hb5
        have hB5 := hBr.trans (hb5.mono hBr.size)
        clear q0 q1 q2 q3 q4 q5 q6 q9 qf
        have q0 := blk_cell hk5 0
        have q1 := blk_cell hk5 1
        have q2 := blk_cell hk5 2
        have q3 := blk_cell hk5 3
        have q4 := blk_cell hk5 4
        have q5 := blk_cell hk5 5
        have q6 := blk_cell hk5 6
        have q9 := blk_cell hk5 7
        have qf := fun i => blk_frozen hk5 i
        go_wp2
        have b0 := blk_set hk5 0 (.string s0)
        have b1 := blk_set b0 1 (.int .i64 (numV s1))
        have b2 := blk_set b1 2 (.int .i64 (numV s2))
        have b3 := blk_set b2 3 (.int .i64 (numV s3))
        have b4 := blk_set b3 4 (.int .i64 (numV s4))
        have b5 := blk_set b4 5 (.int .i64 (numV s5))
        have b6 := blk_set b5 6 (.int .i64 (numV s6))
        have b7 := blk_set b6 7 (.bool false)
        have r0 := blk_cell b7 0
        have r1 := blk_cell b7 1
        have r2 := blk_cell b7 2
        have r3 := blk_cell b7 3
        have r4 := blk_cell b7 4
        have r5 := blk_cell b7 5
        have r6 := blk_cell b7 6
        have r7 := blk_cell b7 7
        try simp only [Exit.inBlock, Exit.then]
        refine bodyPost_ret (v := .tuple #[.agg #[.string s0, .int .i64 (numV s1), .int .i64 (numV s2), .int .i64 (numV s3), .int .i64 (numV s4), .int .i64 (numV s5), .int .i64 (numV s6), .bool false], .bool true]) (by simp [results, Tryz.f26, go_sem, r0, r1, r2, r3, r4, r5, r6, r7]) rfl (show RowPost RO w _ _ from ⟨_, true, HE.out, (fun h => by cases h), rfl, ?_⟩)
        repeat refine below_set ?_ (Nat.le_refl _)
        exact hB5
      · have kw := hWr.k1
        obtain ⟨p1, p2, p3, p4, p5, p6⟩ := hok
        cases hn : numB s1
        · have cN := num_no z1 hn wr
          have e9 : RO = none := by
            have h_ := HRO.out
            rw [hn] at h_
            rw [h_]
            simp
          have HE := Lib.hid e9
          clear e9 hn hWr hab p1 p2 p3 p4 p5 p6
          go_wp2_with (go_at_call 48; refine cN.mono ?_; rintro e w4 ⟨rfl, hb4⟩; have hk4 := blk_below hrb hb4; have qf := fun i => blk_frozen hk4 i; have q0 := blk_cell hk4 0; have q1 := blk_cell hk4 1; have q2 := blk_cell hk4 2; have q3 := blk_cell hk4 3; have q4 := blk_cell hk4 4; have q5 := blk_cell hk4 5; have q6 := blk_cell hk4 6; have q9 := blk_cell hk4 7)
          have hB4 := hBr.trans (hb4.mono hBr.size)
          have b0 := blk_set hk4 0 (.string ⟨#[]⟩)
          have b1 := blk_set b0 1 (.int .i64 0)
          have b2 := blk_set b1 2 (.int .i64 0)
          have b3 := blk_set b2 3 (.int .i64 0)
          have b4 := blk_set b3 4 (.int .i64 0)
          have b5 := blk_set b4 5 (.int .i64 0)
          have b6 := blk_set b5 6 (.int .i64 0)
          have b7 := blk_set b6 7 (.bool false)
          have r0 := blk_cell b7 0
          have r1 := blk_cell b7 1
          have r2 := blk_cell b7 2
          have r3 := blk_cell b7 3
          have r4 := blk_cell b7 4
          have r5 := blk_cell b7 5
          have r6 := blk_cell b7 6
          have r7 := blk_cell b7 7
          try simp only [Exit.inBlock, Exit.then]
          refine bodyPost_ret (v := .tuple #[.agg zeroC, .bool false]) (by simp [results, Tryz.f26, go_sem, r0, r1, r2, r3, r4, r5, r6, r7]) rfl (show RowPost RO w _ _ from ⟨zeroR, false, HE.out, fun _ => rfl, rfl, ?_⟩)
          repeat refine below_set ?_ (Nat.le_refl _)
          exact hB4
        · have cN := num_yes z1 hn wr
          have hok' : okUp s1 s2 s3 s4 s5 s6 2 := ⟨fun h => hn, fun h => absurd h (by omega), fun h => absurd h (by omega), fun h => absurd h (by omega), fun h => absurd h (by omega), fun h => absurd h (by omega)⟩
          clear hn p1 p2 p3 p4 p5 p6
          go_wp2_with (go_at_call 48; refine cN.mono ?_; rintro e w4 ⟨rfl, hb4⟩; have hk4 := blk_below hab hb4; have qf := fun i => blk_frozen hk4 i; have q0 := blk_cell hk4 1)
          have hB4 := hBr.trans (hb4.mono hBr.size)
          have hk5 := blk_set hk4 1 (.int .i64 (numV s1))
          have hk6 := blk_far (p := ⟨w.heap.size + 1, 1, none⟩) (blk_below hrb hb4) (Nat.ne_of_lt (Nat.lt_succ_self _)) (.int .i64 (numV s1))
          go_roundg gk
          case measure => omega
          case rel => exact ⟨2, rfl, by omega, by omega, by omega, hok', hk5, hk6, below_set hB4 (Nat.le_succ _)⟩
      · have kw := hWr.k2
        obtain ⟨p1, p2, p3, p4, p5, p6⟩ := hok
        cases hn : numB s2
        · have cN := num_no z2 hn wr
          have e9 : RO = none := by
            have h_ := HRO.out
            rw [hn] at h_
            rw [h_]
            simp
          have HE := Lib.hid e9
          clear e9 hn hWr hab p1 p2 p3 p4 p5 p6
          go_wp2_with (go_at_call 48; refine cN.mono ?_; rintro e w4 ⟨rfl, hb4⟩; have hk4 := blk_below hrb hb4; have qf := fun i => blk_frozen hk4 i; have q0 := blk_cell hk4 0; have q1 := blk_cell hk4 1; have q2 := blk_cell hk4 2; have q3 := blk_cell hk4 3; have q4 := blk_cell hk4 4; have q5 := blk_cell hk4 5; have q6 := blk_cell hk4 6; have q9 := blk_cell hk4 7)
          have hB4 := hBr.trans (hb4.mono hBr.size)
          have b0 := blk_set hk4 0 (.string ⟨#[]⟩)
          have b1 := blk_set b0 1 (.int .i64 0)
          have b2 := blk_set b1 2 (.int .i64 0)
          have b3 := blk_set b2 3 (.int .i64 0)
          have b4 := blk_set b3 4 (.int .i64 0)
          have b5 := blk_set b4 5 (.int .i64 0)
          have b6 := blk_set b5 6 (.int .i64 0)
          have b7 := blk_set b6 7 (.bool false)
          have r0 := blk_cell b7 0
          have r1 := blk_cell b7 1
          have r2 := blk_cell b7 2
          have r3 := blk_cell b7 3
          have r4 := blk_cell b7 4
          have r5 := blk_cell b7 5
          have r6 := blk_cell b7 6
          have r7 := blk_cell b7 7
          try simp only [Exit.inBlock, Exit.then]
          refine bodyPost_ret (v := .tuple #[.agg zeroC, .bool false]) (by simp [results, Tryz.f26, go_sem, r0, r1, r2, r3, r4, r5, r6, r7]) rfl (show RowPost RO w _ _ from ⟨zeroR, false, HE.out, fun _ => rfl, rfl, ?_⟩)
          repeat refine below_set ?_ (Nat.le_refl _)
          exact hB4
        · have cN := num_yes z2 hn wr
          have hok' : okUp s1 s2 s3 s4 s5 s6 3 := ⟨fun _ => p1 (by omega), fun h => hn, fun h => absurd h (by omega), fun h => absurd h (by omega), fun h => absurd h (by omega), fun h => absurd h (by omega)⟩
          clear hn p1 p2 p3 p4 p5 p6
          go_wp2_with (go_at_call 48; refine cN.mono ?_; rintro e w4 ⟨rfl, hb4⟩; have hk4 := blk_below hab hb4; have qf := fun i => blk_frozen hk4 i; have q0 := blk_cell hk4 2)
          have hB4 := hBr.trans (hb4.mono hBr.size)
          have hk5 := blk_set hk4 2 (.int .i64 (numV s2))
          have hk6 := blk_far (p := ⟨w.heap.size + 1, 2, none⟩) (blk_below hrb hb4) (Nat.ne_of_lt (Nat.lt_succ_self _)) (.int .i64 (numV s2))
          go_roundg gk
          case measure => omega
          case rel => exact ⟨3, rfl, by omega, by omega, by omega, hok', hk5, hk6, below_set hB4 (Nat.le_succ _)⟩
      · have kw := hWr.k3
        obtain ⟨p1, p2, p3, p4, p5, p6⟩ := hok
        cases hn : numB s3
        · have cN := num_no z3 hn wr
          have e9 : RO = none := by
            have h_ := HRO.out
            rw [hn] at h_
            rw [h_]
            simp
          have HE := Lib.hid e9
          clear e9 hn hWr hab p1 p2 p3 p4 p5 p6
          go_wp2_with (go_at_call 48; refine cN.mono ?_; rintro e w4 ⟨rfl, hb4⟩; have hk4 := blk_below hrb hb4; have qf := fun i => blk_frozen hk4 i; have q0 := blk_cell hk4 0; have q1 := blk_cell hk4 1; have q2 := blk_cell hk4 2; have q3 := blk_cell hk4 3; have q4 := blk_cell hk4 4; have q5 := blk_cell hk4 5; have q6 := blk_cell hk4 6; have q9 := blk_cell hk4 7)
          have hB4 := hBr.trans (hb4.mono hBr.size)
          have b0 := blk_set hk4 0 (.string ⟨#[]⟩)
          have b1 := blk_set b0 1 (.int .i64 0)
          have b2 := blk_set b1 2 (.int .i64 0)
          have b3 := blk_set b2 3 (.int .i64 0)
          have b4 := blk_set b3 4 (.int .i64 0)
          have b5 := blk_set b4 5 (.int .i64 0)
          have b6 := blk_set b5 6 (.int .i64 0)
          have b7 := blk_set b6 7 (.bool false)
          have r0 := blk_cell b7 0
          have r1 := blk_cell b7 1
          have r2 := blk_cell b7 2
          have r3 := blk_cell b7 3
          have r4 := blk_cell b7 4
          have r5 := blk_cell b7 5
          have r6 := blk_cell b7 6
          have r7 := blk_cell b7 7
          try simp only [Exit.inBlock, Exit.then]
          refine bodyPost_ret (v := .tuple #[.agg zeroC, .bool false]) (by simp [results, Tryz.f26, go_sem, r0, r1, r2, r3, r4, r5, r6, r7]) rfl (show RowPost RO w _ _ from ⟨zeroR, false, HE.out, fun _ => rfl, rfl, ?_⟩)
          repeat refine below_set ?_ (Nat.le_refl _)
          exact hB4
        · have cN := num_yes z3 hn wr
          have hok' : okUp s1 s2 s3 s4 s5 s6 4 := ⟨fun _ => p1 (by omega), fun _ => p2 (by omega), fun h => hn, fun h => absurd h (by omega), fun h => absurd h (by omega), fun h => absurd h (by omega)⟩
          clear hn p1 p2 p3 p4 p5 p6
          go_wp2_with (go_at_call 48; refine cN.mono ?_; rintro e w4 ⟨rfl, hb4⟩; have hk4 := blk_below hab hb4; have qf := fun i => blk_frozen hk4 i; have q0 := blk_cell hk4 3)
          have hB4 := hBr.trans (hb4.mono hBr.size)
          have hk5 := blk_set hk4 3 (.int .i64 (numV s3))
          have hk6 := blk_far (p := ⟨w.heap.size + 1, 3, none⟩) (blk_below hrb hb4) (Nat.ne_of_lt (Nat.lt_succ_self _)) (.int .i64 (numV s3))
          go_roundg gk
          case measure => omega
          case rel => exact ⟨4, rfl, by omega, by omega, by omega, hok', hk5, hk6, below_set hB4 (Nat.le_succ _)⟩
      · have kw := hWr.k4
        obtain ⟨p1, p2, p3, p4, p5, p6⟩ := hok
        cases hn : numB s4
        · have cN := num_no z4 hn wr
          have e9 : RO = none := by
            have h_ := HRO.out
            rw [hn] at h_
            rw [h_]
            simp
          have HE := Lib.hid e9
          clear e9 hn hWr hab p1 p2 p3 p4 p5 p6
          go_wp2_with (go_at_call 48; refine cN.mono ?_; rintro e w4 ⟨rfl, hb4⟩; have hk4 := blk_below hrb hb4; have qf := fun i => blk_frozen hk4 i; have q0 := blk_cell hk4 0; have q1 := blk_cell hk4 1; have q2 := blk_cell hk4 2; have q3 := blk_cell hk4 3; have q4 := blk_cell hk4 4; have q5 := blk_cell hk4 5; have q6 := blk_cell hk4 6; have q9 := blk_cell hk4 7)
          have hB4 := hBr.trans (hb4.mono hBr.size)
          have b0 := blk_set hk4 0 (.string ⟨#[]⟩)
          have b1 := blk_set b0 1 (.int .i64 0)
          have b2 := blk_set b1 2 (.int .i64 0)
          have b3 := blk_set b2 3 (.int .i64 0)
          have b4 := blk_set b3 4 (.int .i64 0)
          have b5 := blk_set b4 5 (.int .i64 0)
          have b6 := blk_set b5 6 (.int .i64 0)
          have b7 := blk_set b6 7 (.bool false)
          have r0 := blk_cell b7 0
          have r1 := blk_cell b7 1
          have r2 := blk_cell b7 2
          have r3 := blk_cell b7 3
          have r4 := blk_cell b7 4
          have r5 := blk_cell b7 5
          have r6 := blk_cell b7 6
          have r7 := blk_cell b7 7
          try simp only [Exit.inBlock, Exit.then]
          refine bodyPost_ret (v := .tuple #[.agg zeroC, .bool false]) (by simp [results, Tryz.f26, go_sem, r0, r1, r2, r3, r4, r5, r6, r7]) rfl (show RowPost RO w _ _ from ⟨zeroR, false, HE.out, fun _ => rfl, rfl, ?_⟩)
          repeat refine below_set ?_ (Nat.le_refl _)
          exact hB4
        · have cN := num_yes z4 hn wr
          have hok' : okUp s1 s2 s3 s4 s5 s6 5 := ⟨fun _ => p1 (by omega), fun _ => p2 (by omega), fun _ => p3 (by omega), fun h => hn, fun h => absurd h (by omega), fun h => absurd h (by omega)⟩
          clear hn p1 p2 p3 p4 p5 p6
          go_wp2_with (go_at_call 48; refine cN.mono ?_; rintro e w4 ⟨rfl, hb4⟩; have hk4 := blk_below hab hb4; have qf := fun i => blk_frozen hk4 i; have q0 := blk_cell hk4 4)
          have hB4 := hBr.trans (hb4.mono hBr.size)
          have hk5 := blk_set hk4 4 (.int .i64 (numV s4))
          have hk6 := blk_far (p := ⟨w.heap.size + 1, 4, none⟩) (blk_below hrb hb4) (Nat.ne_of_lt (Nat.lt_succ_self _)) (.int .i64 (numV s4))
          go_roundg gk
          case measure => omega
          case rel => exact ⟨5, rfl, by omega, by omega, by omega, hok', hk5, hk6, below_set hB4 (Nat.le_succ _)⟩
      · have kw := hWr.k5
        obtain ⟨p1, p2, p3, p4, p5, p6⟩ := hok
        cases hn : numB s5
        · have cN := num_no z5 hn wr
          have e9 : RO = none := by
            have h_ := HRO.out
            rw [hn] at h_
            rw [h_]
            simp
          have HE := Lib.hid e9
          clear e9 hn hWr hab p1 p2 p3 p4 p5 p6
          go_wp2_with (go_at_call 48; refine cN.mono ?_; rintro e w4 ⟨rfl, hb4⟩; have hk4 := blk_below hrb hb4; have qf := fun i => blk_frozen hk4 i; have q0 := blk_cell hk4 0; have q1 := blk_cell hk4 1; have q2 := blk_cell hk4 2; have q3 := blk_cell hk4 3; have q4 := blk_cell hk4 4; have q5 := blk_cell hk4 5; have q6 := blk_cell hk4 6; have q9 := blk_cell hk4 7)
          have hB4 := hBr.trans (hb4.mono hBr.size)
          have b0 := blk_set hk4 0 (.string ⟨#[]⟩)
          have b1 := blk_set b0 1 (.int .i64 0)
          have b2 := blk_set b1 2 (.int .i64 0)
          have b3 := blk_set b2 3 (.int .i64 0)
          have b4 := blk_set b3 4 (.int .i64 0)
          have b5 := blk_set b4 5 (.int .i64 0)
          have b6 := blk_set b5 6 (.int .i64 0)
          have b7 := blk_set b6 7 (.bool false)
          have r0 := blk_cell b7 0
          have r1 := blk_cell b7 1
          have r2 := blk_cell b7 2
          have r3 := blk_cell b7 3
          have r4 := blk_cell b7 4
          have r5 := blk_cell b7 5
          have r6 := blk_cell b7 6
          have r7 := blk_cell b7 7
          try simp only [Exit.inBlock, Exit.then]
          refine bodyPost_ret (v := .tuple #[.agg zeroC, .bool false]) (by simp [results, Tryz.f26, go_sem, r0, r1, r2, r3, r4, r5, r6, r7]) rfl (show RowPost RO w _ _ from ⟨zeroR, false, HE.out, fun _ => rfl, rfl, ?_⟩)
          repeat refine below_set ?_ (Nat.le_refl _)
          exact hB4
        · have cN := num_yes z5 hn wr
          have hok' : okUp s1 s2 s3 s4 s5 s6 6 := ⟨fun _ => p1 (by omega), fun _ => p2 (by omega), fun _ => p3 (by omega), fun _ => p4 (by omega), fun h => hn, fun h => absurd h (by omega)⟩
          clear hn p1 p2 p3 p4 p5 p6
          go_wp2_with (go_at_call 48; refine cN.mono ?_; rintro e w4 ⟨rfl, hb4⟩; have hk4 := blk_below hab hb4; have qf := fun i => blk_frozen hk4 i; have q0 := blk_cell hk4 5)
          have hB4 := hBr.trans (hb4.mono hBr.size)
          have hk5 := blk_set hk4 5 (.int .i64 (numV s5))
          have hk6 := blk_far (p := ⟨w.heap.size + 1, 5, none⟩) (blk_below hrb hb4) (Nat.ne_of_lt (Nat.lt_succ_self _)) (.int .i64 (numV s5))
          go_roundg gk
          case measure => omega
          case rel => exact ⟨6, rfl, by omega, by omega, by omega, hok', hk5, hk6, below_set hB4 (Nat.le_succ _)⟩
      · have kw := hWr.k6
        obtain ⟨p1, p2, p3, p4, p5, p6⟩ := hok
        cases hn : numB s6
        · have cN := num_no z6 hn wr
          have e9 : RO = none := by
            have h_ := HRO.out
            rw [hn] at h_
            rw [h_]
            simp
          have HE := Lib.hid e9
          clear e9 hn hWr hab p1 p2 p3 p4 p5 p6
          go_wp2_with (go_at_call 48; refine cN.mono ?_; rintro e w4 ⟨rfl, hb4⟩; have hk4 := blk_below hrb hb4; have qf := fun i => blk_frozen hk4 i; have q0 := blk_cell hk4 0; have q1 := blk_cell hk4 1; have q2 := blk_cell hk4 2; have q3 := blk_cell hk4 3; have q4 := blk_cell hk4 4; have q5 := blk_cell hk4 5; have q6 := blk_cell hk4 6; have q9 := blk_cell hk4 7)
          have hB4 := hBr.trans (hb4.mono hBr.size)
          have b0 := blk_set hk4 0 (.string ⟨#[]⟩)
          have b1 := blk_set b0 1 (.int .i64 0)
          have b2 := blk_set b1 2 (.int .i64 0)
          have b3 := blk_set b2 3 (.int .i64 0)
          have b4 := blk_set b3 4 (.int .i64 0)
          have b5 := blk_set b4 5 (.int .i64 0)
          have b6 := blk_set b5 6 (.int .i64 0)
          have b7 := blk_set b6 7 (.bool false)
          have r0 := blk_cell b7 0
          have r1 := blk_cell b7 1
          have r2 := blk_cell b7 2
          have r3 := blk_cell b7 3
          have r4 := blk_cell b7 4
          have r5 := blk_cell b7 5
          have r6 := blk_cell b7 6
          have r7 := blk_cell b7 7
          try simp only [Exit.inBlock, Exit.then]
          refine bodyPost_ret (v := .tuple #[.agg zeroC, .bool false]) (by simp [results, Tryz.f26, go_sem, r0, r1, r2, r3, r4, r5, r6, r7]) rfl (show RowPost RO w _ _ from ⟨zeroR, false, HE.out, fun _ => rfl, rfl, ?_⟩)
          repeat refine below_set ?_ (Nat.le_refl _)
          exact hB4
        · have cN := num_yes z6 hn wr
          have hok' : okUp s1 s2 s3 s4 s5 s6 7 := ⟨fun _ => p1 (by omega), fun _ => p2 (by omega), fun _ => p3 (by omega), fun _ => p4 (by omega), fun _ => p5 (by omega), fun h => hn⟩
          clear hn p1 p2 p3 p4 p5 p6
          go_wp2_with (go_at_call 48; refine cN.mono ?_; rintro e w4 ⟨rfl, hb4⟩; have hk4 := blk_below hab hb4; have qf := fun i => blk_frozen hk4 i; have q0 := blk_cell hk4 6)
          have hB4 := hBr.trans (hb4.mono hBr.size)
          have hk5 := blk_set hk4 6 (.int .i64 (numV s6))
          have hk6 := blk_far (p := ⟨w.heap.size + 1, 6, none⟩) (blk_below hrb hb4) (Nat.ne_of_lt (Nat.lt_succ_self _)) (.int .i64 (numV s6))
          go_roundg gk
          case measure => omega
          case rel => exact ⟨7, rfl, by omega, by omega, by omega, hok', hk5, hk6, below_set hB4 (Nat.le_succ _)⟩
theorem row21_calls (A : Option Addr) (c : Nat) (l : List ByteArray) (w : World) (hr : Kd.C Kd.string w A l.length l) (hl : l.length ≤ c) (hc : l.length ≤ 1000000 ∧ (l.all fun x => decide (x.size ≤ 1000000)) = true) :
    Calls Tryz.prog 26 #[.slice A l.length c] w fun e w' => e = .returned (.tuple #[.agg #[.string (rrS l).f0, .int .i64 (rrS l).f1, .int .i64 (rrS l).f2, .int .i64 (rrS l).f3, .int .i64 (rrS l).f4, .int .i64 (rrS l).f5, .int .i64 (rrS l).f6, .bool (rrS l).f7], .bool (rrB l)]) ∧ Below w.heap.size w w' := by
  by_cases h8 : l.length = 8
  · obtain ⟨s0, s1, s2, s3, s4, s5, s6, s7, rfl⟩ : ∃ s0 s1 s2 s3 s4 s5 s6 s7, l = [s0, s1, s2, s3, s4, s5, s6, s7] := by
      match l, h8 with
      | [s0, s1, s2, s3, s4, s5, s6, s7], _ => exact ⟨s0, s1, s2, s3, s4, s5, s6, s7, rfl⟩
    have hz : ∀ x ∈ [s0, s1, s2, s3, s4, s5, s6, s7], x.size ≤ 1000000 := fun x hx => of_decide_eq_true (List.all_eq_true.1 hc.2 x hx)
    have fin : ∀ e w', RowPost (rowOf [s0, s1, s2, s3, s4, s5, s6, s7]) w e w' → e = .returned (.tuple #[.agg #[.string (rrS [s0, s1, s2, s3, s4, s5, s6, s7]).f0, .int .i64 (rrS [s0, s1, s2, s3, s4, s5, s6, s7]).f1, .int .i64 (rrS [s0, s1, s2, s3, s4, s5, s6, s7]).f2, .int .i64 (rrS [s0, s1, s2, s3, s4, s5, s6, s7]).f3, .int .i64 (rrS [s0, s1, s2, s3, s4, s5, s6, s7]).f4, .int .i64 (rrS [s0, s1, s2, s3, s4, s5, s6, s7]).f5, .int .i64 (rrS [s0, s1, s2, s3, s4, s5, s6, s7]).f6, .bool (rrS [s0, s1, s2, s3, s4, s5, s6, s7]).f7], .bool (rrB [s0, s1, s2, s3, s4, s5, s6, s7])]) ∧ Below w.heap.size w w' := by
      rintro e w' ⟨r, b, h1, h2, h3, h4⟩
      unfold rrS rrB
      rw [h1]
      cases b
      · rw [h2 rfl] at h3
        exact ⟨h3, h4⟩
      · exact ⟨h3, h4⟩
    cases ew : (s7.toList == [119])
    · cases er : (s7.toList == [114])
      · have hn : rowOf [s0, s1, s2, s3, s4, s5, s6, s7] = none := by
          rw [rowOf_eq, show lastB s7 = false from by unfold lastB; rw [ew, er]; rfl]
          simp
        obtain ⟨e1, e2⟩ := no_row hn
        rw [e1, e2]
        exact row_last A c s0 s1 s2 s3 s4 s5 s6 s7 w hr (by unfold lastB; rw [ew, er]; rfl)
      · exact (row_go_r A c s0 s1 s2 s3 s4 s5 s6 s7 w hr ew er (hz s1 (by simp)) (hz s2 (by simp)) (hz s3 (by simp)) (hz s4 (by simp)) (hz s5 (by simp)) (hz s6 (by simp))).mono fin
    · have er : (s7.toList == [114]) = false := by
        rw [beq_iff_eq.1 ew]; rfl
      exact (row_go_w A c s0 s1 s2 s3 s4 s5 s6 s7 w hr ew er (hz s1 (by simp)) (hz s2 (by simp)) (hz s3 (by simp)) (hz s4 (by simp)) (hz s5 (by simp)) (hz s6 (by simp))).mono fin
  · have hn : rowOf l = none := by unfold rowOf; rw [if_neg h8]
    obtain ⟨e1, e2⟩ := no_row hn
    rw [e1, e2]
    exact row_len A c l w h8 hc.1
end Go.Proofs.YtbfhiiokajbdhaaGreatDoor.Fl
namespace Go.Proofs.YtbfhiiokajbdhaaGreatDoor.Q
open Go.RowKit Go.Proofs.YtbfhiiokajbdhaaGreatDoorW.PrintWords Go.Proofs.YtbfhiiokajbdhaaGreatDoorW.PrintLast Go.Proofs.YtbfhiiokajbdhaaGreatDoorW.PrintMore
attribute [local go_sem] max2_int max_two
set_option linter.unusedVariables false
set_option linter.unusedSimpArgs false
def basculeref21_row.f (l0 : List ByteArray) : Option (ByteArray × Int × Int × Int × Int × Int × Int × Bool × Bool) := if l0.length ≤ 1000000 ∧ (l0.all fun x => decide (x.size ≤ 1000000)) = true then some ((Go.Proofs.YtbfhiiokajbdhaaGreatDoor.Fl.rrS l0).f0, (Go.Proofs.YtbfhiiokajbdhaaGreatDoor.Fl.rrS l0).f1, (Go.Proofs.YtbfhiiokajbdhaaGreatDoor.Fl.rrS l0).f2, (Go.Proofs.YtbfhiiokajbdhaaGreatDoor.Fl.rrS l0).f3, (Go.Proofs.YtbfhiiokajbdhaaGreatDoor.Fl.rrS l0).f4, (Go.Proofs.YtbfhiiokajbdhaaGreatDoor.Fl.rrS l0).f5, (Go.Proofs.YtbfhiiokajbdhaaGreatDoor.Fl.rrS l0).f6, (Go.Proofs.YtbfhiiokajbdhaaGreatDoor.Fl.rrS l0).f7, Go.Proofs.YtbfhiiokajbdhaaGreatDoor.Fl.rrB l0) else none
theorem basculeref21_row.calls (A0 : Option Addr) (c0 : Nat) (l0 : List ByteArray) (r1 : ByteArray) (r2 : Int) (r3 : Int) (r4 : Int) (r5 : Int) (r6 : Int) (r7 : Int) (r8 : Bool) (r9 : Bool) (w : World) (hr0 : Kd.C Kd.string w A0 l0.length l0) (hc0 : l0.length ≤ c0) (h : basculeref21_row.f l0 = some (r1, r2, r3, r4, r5, r6, r7, r8, r9)) :
    Calls Tryz.prog 26 #[.slice A0 l0.length c0] w fun e w' => e = .returned (.tuple #[.agg #[.string r1, .int .i64 r2, .int .i64 r3, .int .i64 r4, .int .i64 r5, .int .i64 r6, .int .i64 r7, .bool r8], .bool r9]) ∧ Below w.heap.size w w' := by
  unfold basculeref21_row.f at h
  split at h
  · rename_i hc
    have h2 := Option.some.inj h
    simp only [Prod.mk.injEq] at h2
    obtain ⟨rfl, rfl, rfl, rfl, rfl, rfl, rfl, rfl, rfl⟩ := h2
    exact Go.Proofs.YtbfhiiokajbdhaaGreatDoor.Fl.row21_calls A0 c0 l0 w hr0 hc0 hc
  · cases h
end Go.Proofs.YtbfhiiokajbdhaaGreatDoor.Q
