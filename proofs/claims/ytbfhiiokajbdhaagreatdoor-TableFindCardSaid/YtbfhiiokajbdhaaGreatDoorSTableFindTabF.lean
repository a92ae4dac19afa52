/- What the proof of TableFind leans on: TabF. -/
import Derived.Test.YtbfhiiokajbdhaaGreatDoorSTableFindQx0
import Derived.Below
import Derived.WalkKit
import Derived.Deep.DeepFit
import Derived.Lib.Hide
import Derived.WalkMore
import Derived.LoopTactic
import Derived.OwnWalk
import Derived.Outline
import Derived.WalkSmall
import Derived.IntWalk
set_option linter.unusedVariables false
set_option linter.unusedSimpArgs false
namespace Go.Proofs.YtbfhiiokajbdhaaGreatDoor.Tab
open Go.RowKit Go.Proofs.YtbfhiiokajbdhaaGreatDoor.Q Go.Proofs.YtbfhiiokajbdhaaGreatDoorW.PrintWords
def rowV (r : S34) : Value := .agg #[.string r.f0, .int .i64 r.f1, .int .i64 r.f2, .int .i64 r.f3, .int .i64 r.f4, .int .i64 r.f5, .int .i64 r.f6, .bool r.f7]
theorem find1_calls (r : S34) (name : ByteArray) (g : Nat) (w : World) (hc : w.cell? ⟨g, 0, none⟩ = some (.string name)) :
    Calls Tryz.prog 29 #[rowV r, .pointer (some ⟨g, 0, none⟩)] w fun e w' => e = .returned (.bool (r.f0.toList == name.toList)) ∧ Below w.heap.size w w' := by
  have hlt := World.block_lt_of_cell? w _ hc
  unfold rowV
  go_enter Tryz.func29, Tryz.ntmps29
  have hc2 := fun o => (((Below.refl w.heap.size w).alloc (Nat.le_refl _) o).cell (p := ⟨g, 0, none⟩) hlt).trans hc
  go_wp2
  go_ret
  exact ⟨rfl, (Below.refl _ _).alloc (Nat.le_refl _) _⟩
def findAt (name : List UInt8) : Nat → List S34 → Int
  | _, [] => -1
  | i, r :: l => if r.f0.toList == name then (i : Int) else findAt name (i + 1) l
theorem drop_T (l : List S34) (i : Nat) (h : i < l.length) : l.drop i = rd_T34 l (i : Int) :: l.drop (i + 1) := by
  rw [List.drop_eq_getElem_cons h]
  unfold rd_T34
  rw [Int.toNat_natCast, List.getD_eq_getElem?_getD, List.getElem?_eq_getElem h]; rfl
set_option maxHeartbeats 4000000 in
set_option maxRecDepth 1000000 in
theorem index_calls (A : Option Addr) (c : Nat) (l : List S34) (name : ByteArray) (g : Nat) (w : World) (hr : Kd.C k34 w A l.length l) (hl : l.length ≤ c) (hlen : l.length ≤ 4611686018427387904) (hc : w.cell? ⟨g, 0, none⟩ = some (.string name)) :
    Calls Tryz.prog 28 #[.slice A l.length c, .func (.func 29) #[] #[.pointer (some ⟨g, 0, none⟩)]] w fun e w' => e = .returned (.int .i64 (findAt name.toList 0 l)) ∧ Below w.heap.size w w' := by
  have hlt := World.block_lt_of_cell? w _ hc
  have HR := Lib.hid hr
  have HC := Lib.hid hc
  clear hr hc
  obtain ⟨R, hR⟩ : ∃ R, findAt name.toList 0 l = R := ⟨_, rfl⟩
  rw [hR]
  go_enter Tryz.func28, Tryz.ntmps28
  go_wp2
  go_loopg [8] l.length (fun gk v8 wx => ∃ i : Nat, v8 = .int .i64 i ∧ i + gk = l.length ∧ R = findAt name.toList i (l.drop i) ∧ Below w.heap.size w wx)
  case atStart => exact ⟨0, rfl, by omega, by rw [List.drop_zero, hR], Below.refl _ _⟩
  case round =>
    obtain ⟨i, rfl, hig, he, hB⟩ := hrel
    cases gk with
    | zero =>
      have hi : i = l.length := by omega
      have hlt1 : decide ((i : Int) < (l.length : Int)) = false := decide_eq_false (by omega)
      go_wp2
      go_ret
      refine ⟨?_, hB⟩
      rw [he, List.drop_eq_nil_of_le (by omega)]; rfl
    | succ gk =>
      have hi : i < l.length := by omega
      have hlt1 : decide ((i : Int) < (l.length : Int)) = true := decide_eq_true (by omega)
      have hd := drop_T l i hi
      obtain ⟨ad, eA, h0, h1, h2, h3, h4, h5, h6, h7⟩ := at_T34 HR.out (i : Int) (by omega) (by omega)
      subst eA
      simp only [Int.toNat_natCast] at h0 h1 h2 h3 h4 h5 h6 h7
      have p0 : ((0 : Int) ≤ (i : Int)) = True := eq_true (by omega)
      have p1 : ((i : Int) < (l.length : Int)) = True := eq_true (by omega)
      have k0 := (hB.cell (World.block_lt_of_cell? w _ h0)).trans h0
      have k1 := (hB.cell (World.block_lt_of_cell? w _ h1)).trans h1
      have k2 := (hB.cell (World.block_lt_of_cell? w _ h2)).trans h2
      have k3 := (hB.cell (World.block_lt_of_cell? w _ h3)).trans h3
      have k4 := (hB.cell (World.block_lt_of_cell? w _ h4)).trans h4
      have k5 := (hB.cell (World.block_lt_of_cell? w _ h5)).trans h5
      have k6 := (hB.cell (World.block_lt_of_cell? w _ h6)).trans h6
      have k7 := (hB.cell (World.block_lt_of_cell? w _ h7)).trans h7
      clear h0 h1 h2 h3 h4 h5 h6 h7
      have cN := fun wx (hb : Below w.heap.size w wx) => find1_calls (rd_T34 l (i : Int)) name g wx ((hb.cell (p := ⟨g, 0, none⟩) hlt).trans HC.out)
      unfold rowV at cN
      rw [hd] at he
      unfold findAt at he
      generalize rd_T34 l (i : Int) = r at *
      cases ht : (r.f0.toList == name.toList)
      · rw [ht] at he cN
        have hs1 : IntKind.i64.wrap ((i : Int) + 1) = ((i + 1 : Nat) : Int) := by rw [IntWalk.i64_in _ (by omega)]; rfl
        go_wp2_with (go_at_call 29; refine (cN _ hB).mono ?_; rintro e w1 ⟨rfl, hb⟩)
        go_roundg gk
        case measure => omega
        case rel => exact ⟨i + 1, by first | rfl | (rw [hs1]), by omega, he, hB.trans (hb.mono hB.size)⟩
      · rw [ht] at he cN
        go_wp2_with (go_at_call 29; refine (cN _ hB).mono ?_; rintro e w1 ⟨rfl, hb⟩)
        go_ret
        exact ⟨by rw [he]; rfl, hB.trans (hb.mono hB.size)⟩
theorem findAt_range (name : List UInt8) : ∀ (l : List S34) (i : Nat), findAt name i l = -1 ∨ ∃ j : Nat, j < l.length ∧ findAt name i l = ((i + j : Nat) : Int) := by
  intro l
  induction l with
  | nil => intro i; exact .inl rfl
  | cons r l ih =>
    intro i
    unfold findAt
    split
    · exact .inr ⟨0, by simp, rfl⟩
    · rcases ih (i + 1) with h | ⟨j, hj, h⟩
      · exact .inl h
      · exact .inr ⟨j + 1, by rw [List.length_cons]; omega, by rw [h]; congr 1; omega⟩
def findR (l : List S34) (name : ByteArray) : S34 := if findAt name.toList 0 l < 0 then z34 else rd_T34 l (findAt name.toList 0 l)
def findB (l : List S34) (name : ByteArray) : Bool := !decide (findAt name.toList 0 l < 0)
set_option maxHeartbeats 4000000 in
set_option maxRecDepth 1000000 in
theorem find_calls (A : Option Addr) (c : Nat) (l : List S34) (name : ByteArray) (w : World) (hr : Kd.C k34 w A l.length l) (hl : l.length ≤ c) (hlen : l.length ≤ 4611686018427387904) :
    Calls Tryz.prog 15 #[.slice A l.length c, .string name] w fun e w' => e = .returned (.tuple #[rowV (findR l name), .bool (findB l name)]) ∧ Below w.heap.size w w' := by
  have cI := fun (g : Nat) (wx : World) (hb : Below w.heap.size w wx) hc => index_calls A c l name g wx (Kd.C_below hr hb) hl hlen hc
  have HR := Lib.hid hr
  clear hr
  unfold findR findB
  rcases findAt_range name.toList l 0 with hf | ⟨j, hj, hf⟩
  · rw [hf] at cI ⊢
    rw [if_pos (by decide)]
    unfold rowV
    have hd : decide ((-1 : Int) < 0) = true := by decide
    rw [hd]
    go_enter Tryz.func15, Tryz.ntmps15
    have hsz : ∀ o : Obj, (w.alloc o).heap.size = w.heap.size + 1 := fun o => Array.size_push _
    go_wp2_with (go_at_call 28; refine (cI w.heap.size _ (((Below.refl _ _).alloc (Nat.le_refl _) _).alloc (by simp) _) (cell_of_row _ _ 0 _ _ _ (blk_alloc (blk_new w _) _))).mono ?_; rintro e w1 ⟨rfl, hb1⟩; have hB1 := (((Below.refl w.heap.size w).alloc (Nat.le_refl _) (.cells #[.string name] 9 (0, 0))).alloc (by simp) (.cells #[.string ⟨#[]⟩, .int .i64 0, .int .i64 0, .int .i64 0, .int .i64 0, .int .i64 0, .int .i64 0, .bool false] 34 (0, 0))).trans (hb1.mono (by (try simp); try omega)); have hbk := blk_below (blk_new (w.alloc (.cells #[.string name] 9 (0, 0))) (.cells #[.string ⟨#[]⟩, .int .i64 0, .int .i64 0, .int .i64 0, .int .i64 0, .int .i64 0, .int .i64 0, .bool false] 34 (0, 0))) hb1; rw [hsz] at hbk; have q0 := blk_cell hbk 0; have q1 := blk_cell hbk 1; have q2 := blk_cell hbk 2; have q3 := blk_cell hbk 3; have q4 := blk_cell hbk 4; have q5 := blk_cell hbk 5; have q6 := blk_cell hbk 6; have q7 := blk_cell hbk 7; have qf := fun i => blk_frozen hbk i)
    have b0 := blk_set hbk 0 (.string ⟨#[]⟩)
    have b1 := blk_set b0 1 (.int .i64 0)
    have b2 := blk_set b1 2 (.int .i64 0)
    have b3 := blk_set b2 3 (.int .i64 0)
    have b4 := blk_set b3 4 (.int .i64 0)
    have b5 := blk_set b4 5 (.int .i64 0)
    have b6 := blk_set b5 6 (.int .i64 0)
    have b7 := blk_set b6 7 (.bool false)
    have r0 := blk_cell b7 0
    have r1 := blk_cell b7 1
    have r2 := blk_cell b7 2
    have r3 := blk_cell b7 3
    have r4 := blk_cell b7 4
    have r5 := blk_cell b7 5
    have r6 := blk_cell b7 6
    have r7 := blk_cell b7 7
    refine bodyPost_ret (v := .tuple #[.agg #[.string ⟨#[]⟩, .int .i64 0, .int .i64 0, .int .i64 0, .int .i64 0, .int .i64 0, .int .i64 0, .bool false], .bool false]) (by simp [results, Tryz.f15, go_sem, r0, r1, r2, r3, r4, r5, r6, r7]) rfl ⟨rfl, ?_⟩
    repeat refine below_set ?_ (Nat.le_succ _)
    exact hB1
  · rw [hf] at cI ⊢
    rw [Nat.zero_add, if_neg (by omega)]
    rw [Nat.zero_add] at cI
    unfold rowV
    have hd : decide ((j : Int) < 0) = false := decide_eq_false (by omega)
    obtain ⟨ad, eA, h0, h1, h2, h3, h4, h5, h6, h7⟩ := at_T34 HR.out (j : Int) (by omega) (by omega)
    subst eA
    simp only [Int.toNat_natCast] at h0 h1 h2 h3 h4 h5 h6 h7
    generalize rd_T34 l (j : Int) = r at *
    have p0 : ((0 : Int) ≤ (j : Int)) = True := eq_true (by omega)
    have p1 : ((j : Int) < (l.length : Int)) = True := eq_true (by omega)
    rw [hd]
    go_enter Tryz.func15, Tryz.ntmps15
    have hsz : ∀ o : Obj, (w.alloc o).heap.size = w.heap.size + 1 := fun o => Array.size_push _
    go_wp2_with (go_at_call 28; refine (cI w.heap.size _ (((Below.refl _ _).alloc (Nat.le_refl _) _).alloc (by simp) _) (cell_of_row _ _ 0 _ _ _ (blk_alloc (blk_new w _) _))).mono ?_; rintro e w1 ⟨rfl, hb1⟩; have hB1 := (((Below.refl w.heap.size w).alloc (Nat.le_refl _) (.cells #[.string name] 9 (0, 0))).alloc (by simp) (.cells #[.string ⟨#[]⟩, .int .i64 0, .int .i64 0, .int .i64 0, .int .i64 0, .int .i64 0, .int .i64 0, .bool false] 34 (0, 0))).trans (hb1.mono (by (try simp); try omega)); have hbk := blk_below (blk_new (w.alloc (.cells #[.string name] 9 (0, 0))) (.cells #[.string ⟨#[]⟩, .int .i64 0, .int .i64 0, .int .i64 0, .int .i64 0, .int .i64 0, .int .i64 0, .bool false] 34 (0, 0))) hb1; rw [hsz] at hbk; have q0 := blk_cell hbk 0; have q1 := blk_cell hbk 1; have q2 := blk_cell hbk 2; have q3 := blk_cell hbk 3; have q4 := blk_cell hbk 4; have q5 := blk_cell hbk 5; have q6 := blk_cell hbk 6; have q7 := blk_cell hbk 7; have qf := fun i => blk_frozen hbk i; have k0 := (hB1.cell (World.block_lt_of_cell? w _ h0)).trans h0; have k1 := (hB1.cell (World.block_lt_of_cell? w _ h1)).trans h1; have k2 := (hB1.cell (World.block_lt_of_cell? w _ h2)).trans h2; have k3 := (hB1.cell (World.block_lt_of_cell? w _ h3)).trans h3; have k4 := (hB1.cell (World.block_lt_of_cell? w _ h4)).trans h4; have k5 := (hB1.cell (World.block_lt_of_cell? w _ h5)).trans h5; have k6 := (hB1.cell (World.block_lt_of_cell? w _ h6)).trans h6; have k7 := (hB1.cell (World.block_lt_of_cell? w _ h7)).trans h7)
    have b0 := blk_set hbk 0 (.string r.f0)
    have b1 := blk_set b0 1 (.int .i64 r.f1)
    have b2 := blk_set b1 2 (.int .i64 r.f2)
    have b3 := blk_set b2 3 (.int .i64 r.f3)
    have b4 := blk_set b3 4 (.int .i64 r.f4)
    have b5 := blk_set b4 5 (.int .i64 r.f5)
    have b6 := blk_set b5 6 (.int .i64 r.f6)
    have b7 := blk_set b6 7 (.bool r.f7)
    have r0 := blk_cell b7 0
    have r1 := blk_cell b7 1
    have r2 := blk_cell b7 2
    have r3 := blk_cell b7 3
    have r4 := blk_cell b7 4
    have r5 := blk_cell b7 5
    have r6 := blk_cell b7 6
    have r7 := blk_cell b7 7
    refine bodyPost_ret (v := .tuple #[.agg #[.string r.f0, .int .i64 r.f1, .int .i64 r.f2, .int .i64 r.f3, .int .i64 r.f4, .int .i64 r.f5, .int .i64 r.f6, .bool r.f7], .bool true]) (by simp [results, Tryz.f15, go_sem, r0, r1, r2, r3, r4, r5, r6, r7]) rfl ⟨rfl, ?_⟩
    repeat refine below_set ?_ (Nat.le_succ _)
    exact hB1
end Go.Proofs.YtbfhiiokajbdhaaGreatDoor.Tab
namespace Go.Proofs.YtbfhiiokajbdhaaGreatDoor.Q
open Go.RowKit Go.Proofs.YtbfhiiokajbdhaaGreatDoorW.PrintWords Go.Proofs.YtbfhiiokajbdhaaGreatDoorW.PrintLast Go.Proofs.YtbfhiiokajbdhaaGreatDoorW.PrintMore
attribute [local go_sem] max2_int max_two
set_option linter.unusedVariables false
set_option linter.unusedSimpArgs false
def table_Find.f (l0 : List S34) (a1 : ByteArray) : Option (ByteArray × Int × Int × Int × Int × Int × Int × Bool × Bool) := if l0.length ≤ 4611686018427387904 then some ((Tab.findR l0 a1).f0, (Tab.findR l0 a1).f1, (Tab.findR l0 a1).f2, (Tab.findR l0 a1).f3, (Tab.findR l0 a1).f4, (Tab.findR l0 a1).f5, (Tab.findR l0 a1).f6, (Tab.findR l0 a1).f7, Tab.findB l0 a1) else none
theorem table_Find.calls (A0 : Option Addr) (c0 : Nat) (l0 : List S34) (a1 : ByteArray) (r1 : ByteArray) (r2 : Int) (r3 : Int) (r4 : Int) (r5 : Int) (r6 : Int) (r7 : Int) (r8 : Bool) (r9 : Bool) (w : World) (hr0 : Kd.C k34 w A0 l0.length l0) (hc0 : l0.length ≤ c0) (h : table_Find.f l0 a1 = some (r1, r2, r3, r4, r5, r6, r7, r8, r9)) :
    Calls Tryz.prog 15 #[.slice A0 l0.length c0, .string a1] w fun e w' => e = .returned (.tuple #[.agg #[.string r1, .int .i64 r2, .int .i64 r3, .int .i64 r4, .int .i64 r5, .int .i64 r6, .int .i64 r7, .bool r8], .bool r9]) ∧ Below w.heap.size w w' := by
  unfold table_Find.f at h
  split at h
  · rename_i hc
    have h2 := Option.some.inj h
    simp only [Prod.mk.injEq] at h2
    obtain ⟨rfl, rfl, rfl, rfl, rfl, rfl, rfl, rfl, rfl⟩ := h2
    exact Tab.find_calls A0 c0 l0 a1 w hr0 hc0 hc
  · cases h
end Go.Proofs.YtbfhiiokajbdhaaGreatDoor.Q
