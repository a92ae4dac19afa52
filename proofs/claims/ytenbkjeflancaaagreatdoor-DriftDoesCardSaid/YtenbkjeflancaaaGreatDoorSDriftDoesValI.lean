/- What the proof of DriftDoes leans on: ValI. -/
import Derived.Test.YtenbkjeflancaaaGreatDoorSDriftDoesValF
import Derived.Below
import Derived.WalkKit
import Derived.Deep.DeepFit
import Derived.Lib.Hide
import Derived.WalkMore
import Derived.LoopTactic
import Derived.OwnWalk
import Derived.Outline
import Derived.WalkSmall
import Derived.IntWalk
set_option linter.unusedVariables false
set_option linter.unusedSimpArgs false
namespace Go.Proofs.YtenbkjeflancaaaGreatDoor.Val
open Go.RowKit Go.Proofs.YtenbkjeflancaaaGreatDoor.Q Go.Proofs.YtenbkjeflancaaaGreatDoorW.PrintWords
def bad (most x : Int) : Bool := decide (x < 0) || decide (most < x)
theorem bad_calls (x most : Int) (g : Nat) (w : World) (hc : w.cell? ⟨g, 0, none⟩ = some (.int .i64 most)) :
    Calls Tryz.prog 51 #[.int .i64 x, .pointer (some ⟨g, 0, none⟩)] w fun e w' => e = .returned (.bool (bad most x)) ∧ w' = w := by
  unfold bad
  cases e1 : decide (x < 0)
  · go_enter Tryz.func51, Tryz.ntmps51
    go_wp2
    go_ret
    exact ⟨rfl, rfl⟩
  · go_enter Tryz.func51, Tryz.ntmps51
    go_wp2
    go_ret
    exact ⟨rfl, rfl⟩
def badAt (most : Int) : Nat → List Int → Int
  | _, [] => -1
  | i, x :: l => if bad most x then (i : Int) else badAt most (i + 1) l
theorem badAt_any (most : Int) : ∀ (l : List Int) (i : Nat), decide (0 ≤ badAt most i l) = l.any (bad most)
  | [], i => rfl
  | x :: l, i => by
    unfold badAt
    rw [List.any_cons]
    cases h : bad most x
    · rw [Bool.false_or, ← badAt_any most l (i + 1)]; rfl
    · rw [Bool.true_or, if_pos rfl]; exact decide_eq_true (by omega)
theorem drop_I (l : List Int) (i : Nat) (h : i < l.length) : l.drop i = rd l (i : Int) :: l.drop (i + 1) := by
  rw [List.drop_eq_getElem_cons h]
  unfold rd
  rw [Int.toNat_natCast, List.getD_eq_getElem?_getD, List.getElem?_eq_getElem h]; rfl
set_option maxHeartbeats 4000000 in
set_option maxRecDepth 1000000 in
theorem badIndex_calls (A : Option Addr) (c : Nat) (l : List Int) (most : Int) (g : Nat) (w : World) (hr : Kd.C (Kd.int .i64) w A l.length l) (hl : l.length ≤ c) (hlen : l.length ≤ 4611686018427387904) (hc : w.cell? ⟨g, 0, none⟩ = some (.int .i64 most)) :
    Calls Tryz.prog 74 #[.slice A l.length c, .func (.func 51) #[] #[.pointer (some ⟨g, 0, none⟩)]] w fun e w' => e = .returned (.int .i64 (badAt most 0 l)) ∧ w' = w := by
  have HR := Lib.hid hr
  have HC := Lib.hid hc
  clear hr hc
  obtain ⟨R, hR⟩ : ∃ R, badAt most 0 l = R := ⟨_, rfl⟩
  rw [hR]
  go_enter Tryz.func74, Tryz.ntmps74
  go_wp2
  go_loopg [8] l.length (fun gk v8 wx => ∃ i : Nat, v8 = .int .i64 i ∧ i + gk = l.length ∧ R = badAt most i (l.drop i) ∧ wx = w)
  case atStart => exact ⟨0, rfl, by omega, by rw [List.drop_zero, hR], rfl⟩
  case round =>
    obtain ⟨i, rfl, hig, he, rfl⟩ := hrel
    cases gk with
    | zero =>
      have hi : i = l.length := by omega
      have hlt1 : decide ((i : Int) < (l.length : Int)) = false := decide_eq_false (by omega)
      go_wp2
      go_ret
      refine ⟨?_, rfl⟩
      rw [he, List.drop_eq_nil_of_le (by omega)]; rfl
    | succ gk =>
      have hi : i < l.length := by omega
      have hlt1 : decide ((i : Int) < (l.length : Int)) = true := decide_eq_true (by omega)
      have hd := drop_I l i hi
      obtain ⟨ad, eA, h0⟩ := Kd.at_int HR.out (i : Int) (by omega) (by omega)
      subst eA
      simp only [Int.toNat_natCast] at h0
      have p0 : ((0 : Int) ≤ (i : Int)) = True := eq_true (by omega)
      have p1 : ((i : Int) < (l.length : Int)) = True := eq_true (by omega)
      rw [hd] at he
      unfold badAt at he
      generalize rd l (i : Int) = x at *
      have cN := bad_calls x most g _ HC.out
      cases ht : bad most x
      · rw [ht] at he cN
        have hs1 : IntKind.i64.wrap ((i : Int) + 1) = ((i + 1 : Nat) : Int) := by rw [IntWalk.i64_in _ (by omega)]; rfl
        go_wp2_with (go_at_call 51; refine cN.mono ?_; rintro e w1 ⟨rfl, rfl⟩)
        go_roundg gk
        case measure => omega
        case rel => exact ⟨i + 1, by first | rfl | (rw [hs1]), by omega, he, rfl⟩
      · rw [ht] at he cN
        go_wp2_with (go_at_call 51; refine cN.mono ?_; rintro e w1 ⟨rfl, rfl⟩)
        go_ret
        exact ⟨by rw [he]; rfl, rfl⟩
theorem anyBad_calls (A : Option Addr) (c : Nat) (l : List Int) (most : Int) (g : Nat) (w : World) (hr : Kd.C (Kd.int .i64) w A l.length l) (hl : l.length ≤ c) (hlen : l.length ≤ 4611686018427387904) (hc : w.cell? ⟨g, 0, none⟩ = some (.int .i64 most)) :
    Calls Tryz.prog 50 #[.slice A l.length c, .func (.func 51) #[] #[.pointer (some ⟨g, 0, none⟩)]] w fun e w' => e = .returned (.bool (l.any (bad most))) ∧ w' = w := by
  have cI := badIndex_calls A c l most g w hr hl hlen hc
  have ha := badAt_any most l 0
  clear hr hc
  generalize badAt most 0 l = R at *
  go_enter Tryz.func50, Tryz.ntmps50
  go_wp2_with (go_at_call 74; refine cI.mono ?_; rintro e w1 ⟨rfl, rfl⟩)
  go_ret
  exact ⟨by rw [← ha]; simp, rfl⟩
end Go.Proofs.YtenbkjeflancaaaGreatDoor.Val
