/- Qx0 -/
import Derived.Test.YtmkekhjbbapngaaGreatDoorSValueReadsTopB
import Derived.Test.YtmkekhjbbapngaaGreatDoorSValueReadsTabA
import Derived.Test.YtmkekhjbbapngaaGreatDoorSValueReadsWTab
theorem Go.Proofs.YtmkekhjbbapngaaGreatDoor.sA_ {α : Type _} (l : List α) (i : Nat) (a : α) : l.toArray.setIfInBounds i a = (l.set i a).toArray := List.setIfInBounds_toArray l i a
theorem Go.Proofs.YtmkekhjbbapngaaGreatDoor.sB_ {α : Type _} {x a : α} {xs : List α} : (x :: xs).set 0 a = a :: xs := rfl
theorem Go.Proofs.YtmkekhjbbapngaaGreatDoor.sC_ {α : Type _} {x a : α} {xs : List α} {i : Nat} : (x :: xs).set (i + 1) a = x :: xs.set i a := rfl
namespace Go.Proofs.YtmkekhjbbapngaaGreatDoor.Q
open Go.RowKit YtmkekhjbbapngaaGreatDoorW.PrintWords YtmkekhjbbapngaaGreatDoorW.PrintLast YtmkekhjbbapngaaGreatDoorW.PrintMore
attribute [local go_sem] max2_int min2_int max_two min_two
set_option linter.all false
def errW : Option Int → Value
  | none => .nilIface
  | some c => .iface 0 (.int .i64 c)
theorem errW_none : errW none = .nilIface := rfl
theorem errW_some (c : Int) : errW (some c) = .iface 0 (.int .i64 c) := rfl
theorem info3 : (Tryz.prog.info? 3).map (fun i => (i.zero, i.size, i.bytes)) = some (some (.int .i64 0), 1, 8) := by kernel_rfl
theorem info23 : (Tryz.prog.info? 23).map (fun i => (i.zero, i.size, i.bytes)) = some (some (.agg #[(.string ⟨#[]⟩), (.int .i64 0), (.int .i64 0), (.int .i64 0), (.int .i64 0), (.int .i64 0), (.int .i64 0), (.bool false)]), 8, 72) := by kernel_rfl
-- the values' own types
structure S23 where
  f0 : ByteArray
  f1 : Int
  f2 : Int
  f3 : Int
  f4 : Int
  f5 : Int
  f6 : Int
  f7 : Bool
def z23 : S23 := ⟨(⟨#[]⟩ : ByteArray), (0 : Int), (0 : Int), (0 : Int), (0 : Int), (0 : Int), (0 : Int), false⟩
def k23 : Kd S23 := Kd.iso (Kd.pair Kd.string (Kd.pair (Kd.int .i64) (Kd.pair (Kd.int .i64) (Kd.pair (Kd.int .i64) (Kd.pair (Kd.int .i64) (Kd.pair (Kd.int .i64) (Kd.pair (Kd.int .i64) Kd.bool))))))) (fun x : S23 => (x.f0, x.f1, x.f2, x.f3, x.f4, x.f5, x.f6, x.f7))
theorem k23_open {w : World} {x : S23} {cs : List Value} (h : k23.K w x cs) : cs = [.string x.f0, .int .i64 x.f1, .int .i64 x.f2, .int .i64 x.f3, .int .i64 x.f4, .int .i64 x.f5, .int .i64 x.f6, .bool x.f7] := by
  obtain ⟨_, _, rfl, rfl, ⟨_, _, rfl, rfl, ⟨_, _, rfl, rfl, ⟨_, _, rfl, rfl, ⟨_, _, rfl, rfl, ⟨_, _, rfl, rfl, ⟨_, _, rfl, rfl, rfl⟩⟩⟩⟩⟩⟩⟩ := h
  exact rfl
theorem k23_mkM (w : World) (base : Nat) (ok : Nat → Prop) (x : S23)  : k23.M w base ok x [.string x.f0, .int .i64 x.f1, .int .i64 x.f2, .int .i64 x.f3, .int .i64 x.f4, .int .i64 x.f5, .int .i64 x.f6, .bool x.f7] := ⟨[.string x.f0], [.int .i64 x.f1, .int .i64 x.f2, .int .i64 x.f3, .int .i64 x.f4, .int .i64 x.f5, .int .i64 x.f6, .bool x.f7], rfl, rfl, ⟨[.int .i64 x.f1], [.int .i64 x.f2, .int .i64 x.f3, .int .i64 x.f4, .int .i64 x.f5, .int .i64 x.f6, .bool x.f7], rfl, rfl, ⟨[.int .i64 x.f2], [.int .i64 x.f3, .int .i64 x.f4, .int .i64 x.f5, .int .i64 x.f6, .bool x.f7], rfl, rfl, ⟨[.int .i64 x.f3], [.int .i64 x.f4, .int .i64 x.f5, .int .i64 x.f6, .bool x.f7], rfl, rfl, ⟨[.int .i64 x.f4], [.int .i64 x.f5, .int .i64 x.f6, .bool x.f7], rfl, rfl, ⟨[.int .i64 x.f5], [.int .i64 x.f6, .bool x.f7], rfl, rfl, ⟨[.int .i64 x.f6], [.bool x.f7], rfl, rfl, rfl⟩⟩⟩⟩⟩⟩⟩
def rd_T23 (xs : List S23) (i : Int) : S23 := xs.getD i.toNat z23
theorem at_T23 {w : World} {A : Option Addr} {n : Nat} {xs : List S23} (h : Kd.C k23 w A n xs) (i : Int) (h0 : 0 ≤ i) (h1 : i < n) : ∃ ad , A = some ad ∧ w.cell? (ad.add (i.toNat * 8)) = some (.string (rd_T23 xs i).f0) ∧ w.cell? ⟨(ad.add (i.toNat * 8)).block, (ad.add (i.toNat * 8)).off + 1, none⟩ = some (.int .i64 (rd_T23 xs i).f1) ∧ w.cell? ⟨(ad.add (i.toNat * 8)).block, (ad.add (i.toNat * 8)).off + 2, none⟩ = some (.int .i64 (rd_T23 xs i).f2) ∧ w.cell? ⟨(ad.add (i.toNat * 8)).block, (ad.add (i.toNat * 8)).off + 3, none⟩ = some (.int .i64 (rd_T23 xs i).f3) ∧ w.cell? ⟨(ad.add (i.toNat * 8)).block, (ad.add (i.toNat * 8)).off + 4, none⟩ = some (.int .i64 (rd_T23 xs i).f4) ∧ w.cell? ⟨(ad.add (i.toNat * 8)).block, (ad.add (i.toNat * 8)).off + 5, none⟩ = some (.int .i64 (rd_T23 xs i).f5) ∧ w.cell? ⟨(ad.add (i.toNat * 8)).block, (ad.add (i.toNat * 8)).off + 6, none⟩ = some (.int .i64 (rd_T23 xs i).f6) ∧ w.cell? ⟨(ad.add (i.toNat * 8)).block, (ad.add (i.toNat * 8)).off + 7, none⟩ = some (.bool (rd_T23 xs i).f7) := by
  obtain ⟨ad, c, e, _, hK, hc0⟩ := Kd.C_get h z23 i h0 h1
  have hc : ∀ j u, c[j]? = some u → w.cell? (ad.add (i.toNat * 8 + j)) = some u := hc0
  obtain rfl := k23_open hK
  exact ⟨ad, e, hc 0 _ rfl, by rw [← add_field _ _ 1 (by omega)]; exact hc 1 _ rfl, by rw [← add_field _ _ 2 (by omega)]; exact hc 2 _ rfl, by rw [← add_field _ _ 3 (by omega)]; exact hc 3 _ rfl, by rw [← add_field _ _ 4 (by omega)]; exact hc 4 _ rfl, by rw [← add_field _ _ 5 (by omega)]; exact hc 5 _ rfl, by rw [← add_field _ _ 6 (by omega)]; exact hc 6 _ rfl, by rw [← add_field _ _ 7 (by omega)]; exact hc 7 _ rfl⟩
end Go.Proofs.YtmkekhjbbapngaaGreatDoor.Q
set_option linter.all false
namespace Go.Proofs.YtmkekhjbbapngaaGreatDoor.Val
open Go.RowKit Go.Proofs.YtmkekhjbbapngaaGreatDoor.Q YtmkekhjbbapngaaGreatDoorW.PrintWords
def bad (most x : Int) : Bool := decide (x < 0) || decide (most < x)
theorem bad_calls (x most : Int) (g : Nat) (w : World) (hc : w.cell? ⟨g, 0, none⟩ = some (.int .i64 most)) :
    Calls Tryz.prog 48 #[.int .i64 x, .pointer (some ⟨g, 0, none⟩)] w fun e w' => e = .returned (.bool (bad most x)) ∧ w' = w := by
  unfold bad
  cases e1 : decide (x < 0)
  · go_enter Tryz.func48, Tryz.ntmps48
    go_wp2
    go_ret
    exact ⟨rfl, rfl⟩
  · go_enter Tryz.func48, Tryz.ntmps48
    go_wp2
    go_ret
    exact ⟨rfl, rfl⟩
def badAt (most : Int) : Nat → List Int → Int
  | _, [] => -1
  | i, x :: l => if bad most x then (i : Int) else badAt most (i + 1) l
theorem badAt_any (most : Int) : ∀ (l : List Int) (i : Nat), decide (0 ≤ badAt most i l) = l.any (bad most)
  | [], i => rfl
  | x :: l, i => by
    unfold badAt
    rw [List.any_cons]
    cases h : bad most x
    · rw [Bool.false_or, ← badAt_any most l (i + 1)]; rfl
    · rw [Bool.true_or, if_pos rfl]; exact decide_eq_true (by omega)
theorem drop_I (l : List Int) (i : Nat) (h : i < l.length) : l.drop i = rd l (i : Int) :: l.drop (i + 1) := by
  rw [List.drop_eq_getElem_cons h]
  unfold rd
  rw [Int.toNat_natCast, List.getD_eq_getElem?_getD, List.getElem?_eq_getElem h]; rfl
set_option maxHeartbeats 4000000 in
set_option maxRecDepth 1000000 in
theorem badIndex_calls (A : Option Addr) (c : Nat) (l : List Int) (most : Int) (g : Nat) (w : World) (hr : Kd.C (Kd.int .i64) w A l.length l) (hl : l.length ≤ c) (hlen : l.length ≤ 4611686018427387904) (hc : w.cell? ⟨g, 0, none⟩ = some (.int .i64 most)) :
    Calls Tryz.prog 73 #[.slice A l.length c, .func (.func 48) #[] #[.pointer (some ⟨g, 0, none⟩)]] w fun e w' => e = .returned (.int .i64 (badAt most 0 l)) ∧ w' = w := by
  have HR := Lib.hid hr
  have HC := Lib.hid hc
  clear hr hc
  obtain ⟨R, hR⟩ : ∃ R, badAt most 0 l = R := ⟨_, rfl⟩
  rw [hR]
  go_enter Tryz.func73, Tryz.ntmps73
  go_wp2
  go_loopg [8] l.length (fun gk v8 wx => ∃ i : Nat, v8 = .int .i64 i ∧ i + gk = l.length ∧ R = badAt most i (l.drop i) ∧ wx = w)
  case atStart => exact ⟨0, rfl, by omega, by rw [List.drop_zero, hR], rfl⟩
  case round =>
    obtain ⟨i, rfl, hig, he, rfl⟩ := hrel
    cases gk with
    | zero =>
      have hi : i = l.length := by omega
      have hlt1 : decide ((i : Int) < (l.length : Int)) = false := decide_eq_false (by omega)
      go_wp2
      go_ret
      refine ⟨?_, rfl⟩
      rw [he, List.drop_eq_nil_of_le (by omega)]; rfl
    | succ gk =>
      have hi : i < l.length := by omega
      have hlt1 : decide ((i : Int) < (l.length : Int)) = true := decide_eq_true (by omega)
      have hd := drop_I l i hi
      obtain ⟨ad, eA, h0⟩ := Kd.at_int HR.out (i : Int) (by omega) (by omega)
      subst eA
      simp only [Int.toNat_natCast] at h0
      have p0 : ((0 : Int) ≤ (i : Int)) = True := eq_true (by omega)
      have p1 : ((i : Int) < (l.length : Int)) = True := eq_true (by omega)
      rw [hd] at he
      unfold badAt at he
      generalize rd l (i : Int) = x at *
      have cN := bad_calls x most g _ HC.out
      cases ht : bad most x
      · rw [ht] at he cN
        have hs1 : IntKind.i64.wrap ((i : Int) + 1) = ((i + 1 : Nat) : Int) := by rw [IntWalk.i64_in _ (by omega)]; rfl
        go_wp2_with (go_at_call 48; refine cN.mono ?_; rintro e w1 ⟨rfl, rfl⟩)
        go_roundg gk
        case measure => omega
        case rel => exact ⟨i + 1, by first | rfl | (rw [hs1]), by omega, he, rfl⟩
      · rw [ht] at he cN
        go_wp2_with (go_at_call 48; refine cN.mono ?_; rintro e w1 ⟨rfl, rfl⟩)
        go_ret
        exact ⟨by rw [he]; rfl, rfl⟩
theorem anyBad_calls (A : Option Addr) (c : Nat) (l : List Int) (most : Int) (g : Nat) (w : World) (hr : Kd.C (Kd.int .i64) w A l.length l) (hl : l.length ≤ c) (hlen : l.length ≤ 4611686018427387904) (hc : w.cell? ⟨g, 0, none⟩ = some (.int .i64 most)) :
    Calls Tryz.prog 47 #[.slice A l.length c, .func (.func 48) #[] #[.pointer (some ⟨g, 0, none⟩)]] w fun e w' => e = .returned (.bool (l.any (bad most))) ∧ w' = w := by
  have cI := badIndex_calls A c l most g w hr hl hlen hc
  have ha := badAt_any most l 0
  clear hr hc
  generalize badAt most 0 l = R at *
  go_enter Tryz.func47, Tryz.ntmps47
  go_wp2_with (go_at_call 73; refine cI.mono ?_; rintro e w1 ⟨rfl, rfl⟩)
  go_ret
  exact ⟨by rw [← ha]; simp, rfl⟩
end Go.Proofs.YtmkekhjbbapngaaGreatDoor.Val
namespace Go.Proofs.YtmkekhjbbapngaaGreatDoor.Q
open Go.RowKit YtmkekhjbbapngaaGreatDoorW.PrintWords YtmkekhjbbapngaaGreatDoorW.PrintLast YtmkekhjbbapngaaGreatDoorW.PrintMore
attribute [local go_sem] max2_int min2_int max_two min_two
set_option linter.all false
mutual
def basculeref22_plus.l0 : Nat → List Int → List Int → List Int → Int → Int → Option (List Int)
  | 0, _, _, _, _, _ => none
  | k + 1, x0, x1, x5, x6, x7 => if x7 < (x0.length : Int) then (basculeref22_plus.j1 k x0 x1 x5 x6 x7 true) else (if x7 < (x1.length : Int) then (basculeref22_plus.j1 k x0 x1 x5 x6 x7 true) else (basculeref22_plus.j1 k x0 x1 x5 x6 x7 (decide (x6 > 0))))
def basculeref22_plus.j1 : Nat → List Int → List Int → List Int → Int → Int → Bool → Option (List Int)
  | 0, _, _, _, _, _, _ => none
  | k + 1, x0, x1, x5, x6, x7, x21 => if x21 = true then (if x7 < (x0.length : Int) then (if 0 ≤ x7 then (if x7 < (x1.length : Int) then (if x5.length < 17592186044416 then (basculeref22_plus.l0 k x0 x1 (x5 ++ [Int.tmod (wrap64 ((wrap64 (x6 + (rd x0 x7))) + (rd x1 x7))) 10]) (wrap64 (Int.tdiv (wrap64 ((wrap64 (x6 + (rd x0 x7))) + (rd x1 x7))) 10)) (wrap64 (x7 + 1))) else (none)) else (if x5.length < 17592186044416 then (basculeref22_plus.l0 k x0 x1 (x5 ++ [Int.tmod (wrap64 (x6 + (rd x0 x7))) 10]) (wrap64 (Int.tdiv (wrap64 (x6 + (rd x0 x7))) 10)) (wrap64 (x7 + 1))) else (none))) else (none)) else (if x7 < (x1.length : Int) then (if 0 ≤ x7 then (if x5.length < 17592186044416 then (basculeref22_plus.l0 k x0 x1 (x5 ++ [Int.tmod (wrap64 (x6 + (rd x1 x7))) 10]) (wrap64 (Int.tdiv (wrap64 (x6 + (rd x1 x7))) 10)) (wrap64 (x7 + 1))) else (none)) else (none)) else (if x5.length < 17592186044416 then (basculeref22_plus.l0 k x0 x1 (x5 ++ [Int.tmod x6 10]) (wrap64 (Int.tdiv x6 10)) (wrap64 (x7 + 1))) else (none)))) else (some x5)
end
def basculeref22_plus.f (k : Nat) (l0 : List Int) (l1 : List Int) : Option (List Int) := basculeref22_plus.l0 k l0 l1 ([] : List Int) 0 0
theorem basculeref22_plus.mono_l : ∀ k, (∀ y0 y1 y2 y3 y4, LeO (basculeref22_plus.l0 k y0 y1 y2 y3 y4) (basculeref22_plus.l0 (k + 1) y0 y1 y2 y3 y4)) ∧ (∀ y0 y1 y2 y3 y4 y5, LeO (basculeref22_plus.j1 k y0 y1 y2 y3 y4 y5) (basculeref22_plus.j1 (k + 1) y0 y1 y2 y3 y4 y5))
  | 0 => ⟨fun _ _ _ _ _ r h => by simp [basculeref22_plus.l0] at h, fun _ _ _ _ _ _ r h => by simp [basculeref22_plus.j1] at h⟩
  | k + 1 => by
    obtain ⟨ih0, ih1⟩ := basculeref22_plus.mono_l k
    refine ⟨?_, ?_⟩
    · intro y0 y1 y2 y3 y4
      unfold basculeref22_plus.l0
      repeat' first
      | (with_reducible first | exact ih0 _ _ _ _ _ | exact ih1 _ _ _ _ _ _ | exact LeO.refl _ | exact LeO.none _ | refine LeO.ite ?_ ?_ | refine LeO.bind ?_ (fun _ => ?_))
    · intro y0 y1 y2 y3 y4 y5
      unfold basculeref22_plus.j1
      repeat' first
      | (with_reducible first | exact ih0 _ _ _ _ _ | exact ih1 _ _ _ _ _ _ | exact LeO.refl _ | exact LeO.none _ | refine LeO.ite ?_ ?_ | refine LeO.bind ?_ (fun _ => ?_))
theorem basculeref22_plus.mono : ∀ a0 a1 k, LeO (basculeref22_plus.f k a0 a1) (basculeref22_plus.f (k + 1) a0 a1) := by
  intro a0 a1 k
  obtain ⟨ih0, ih1⟩ := basculeref22_plus.mono_l k
  unfold basculeref22_plus.f
  repeat' first
      | (with_reducible first | exact ih0 _ _ _ _ _ | exact ih1 _ _ _ _ _ _ | exact LeO.refl _ | exact LeO.none _ | refine LeO.ite ?_ ?_ | refine LeO.bind ?_ (fun _ => ?_))
end Go.Proofs.YtmkekhjbbapngaaGreatDoor.Q
