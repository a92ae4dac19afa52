/- What the proof of DriftDoes leans on: ValL. -/
import Derived.Test.YtenbkjeflancaaaGreatDoorSDriftDoesValO
import Derived.Test.YtenbkjeflancaaaGreatDoorSDriftDoesValF
set_option linter.unusedVariables false
set_option linter.unusedSimpArgs false
namespace Go.Proofs.YtenbkjeflancaaaGreatDoor.Val
open Go.RowKit Go.Proofs.YtenbkjeflancaaaGreatDoor.Q Go.Proofs.YtenbkjeflancaaaGreatDoorW.PrintWords Go.Proofs.YtenbkjeflancaaaGreatDoorW.PrintLast Go.Proofs.YtenbkjeflancaaaGreatDoorW.PrintMore
def lenT (l : List Int) : Nat → Nat
  | 0 => 0
  | n + 1 => if rd l (n : Int) = 0 then lenT l n else n + 1
def trimT (l : List Int) : List Int := l.take (lenT l l.length)
theorem lenT_le (l : List Int) : ∀ n, lenT l n ≤ n
  | 0 => Nat.le_refl _
  | n + 1 => by
    unfold lenT
    split
    · exact Nat.le_trans (lenT_le l n) (Nat.le_succ _)
    · exact Nat.le_refl _
theorem trim_l0 (l : List Int) (hl : l.length ≤ 1000000) : ∀ (n k : Nat), n ≤ l.length → n < k → basculeref22_trim.l0 k l (n : Int) = some (l.take (lenT l n)) := by
  intro n
  induction n with
  | zero =>
    intro k hn hk
    obtain ⟨k, rfl⟩ : ∃ m, k = m + 1 := ⟨k - 1, by omega⟩
    rw [basculeref22_trim.l0, if_neg (by omega), if_pos (by omega), if_pos (by omega)]
    rfl
  | succ n ih =>
    intro k hn hk
    obtain ⟨k, rfl⟩ : ∃ m, k = m + 1 := ⟨k - 1, by omega⟩
    have e : wrap64 (((n + 1 : Nat) : Int) - 1) = (n : Int) := by unfold wrap64; omega
    rw [basculeref22_trim.l0, if_pos (by omega), e, if_pos (by omega), if_pos (by omega)]
    unfold lenT
    by_cases h : rd l (n : Int) = 0
    · rw [if_pos h, if_pos h]
      exact ih k (by omega) (by omega)
    · rw [if_neg h, if_neg h, if_pos (by omega), if_pos (by omega)]
      rfl
theorem trim_eq (l : List Int) (hl : l.length ≤ 1000000) (k : Nat) (hk : l.length < k) : basculeref22_trim.f k l = some (trimT l) :=
  trim_l0 l hl l.length k (Nat.le_refl _) hk
def lessAt (x y : List Int) : Nat → Bool
  | 0 => false
  | n + 1 => if rd x (n : Int) = rd y (n : Int) then lessAt x y n else decide (rd x (n : Int) < rd y (n : Int))
def lessL (x y : List Int) : Bool := if x.length = y.length then lessAt x y x.length else decide (x.length < y.length)
def lessO (l0 l1 : List Int) : Option Bool := if l0.length ≤ 100000 ∧ l1.length ≤ 100000 then some (lessL (trimT l0) (trimT l1)) else none
theorem trim_calls1 (A : Option Addr) (c : Nat) (l : List Int) (w : World) (hr : Kd.C (Kd.int .i64) w A l.length l) (hc : l.length ≤ c) (hl : l.length ≤ 100000) :
    Calls Tryz.prog 66 #[.slice A l.length c] w fun e w' => e = .returned (.slice A (trimT l).length c) ∧ ∃ n, w' = w.drewN n := by
  refine (trim_read (l.length + 1) A c l (trimT l) w hr hc (trim_eq l (by omega) _ (by omega))).mono ?_
  rintro e w' ⟨-, rfl, h⟩
  exact ⟨rfl, h.out⟩
set_option maxHeartbeats 4000000 in
set_option maxRecDepth 1000000 in
theorem less_calls (A0 : Option Addr) (c0 : Nat) (l0 : List Int) (A1 : Option Addr) (c1 : Nat) (l1 : List Int) (r : Bool) (w : World) (hr0 : Kd.C (Kd.int .i64) w A0 l0.length l0) (hc0 : l0.length ≤ c0) (hr1 : Kd.C (Kd.int .i64) w A1 l1.length l1) (hc1 : l1.length ≤ c1) (h : lessO l0 l1 = some r) :
    Calls Tryz.prog 39 #[.slice A0 l0.length c0, .slice A1 l1.length c1] w fun e w' => e = .returned (.bool r) ∧ Below w.heap.size w w' := by
  unfold lessO at h
  split at h
  · rename_i hlen
    obtain rfl := Option.some.inj h
    clear h
    have cA := trim_calls1 A0 c0 l0 w hr0 hc0 hlen.1
    have cB := fun m => trim_calls1 A1 c1 l1 (w.drewN m) (Kd.C_drewN hr1 m) hc1 hlen.2
    have hx := (trim_C hr0 hc0 (trim_eq l0 (by omega) _ (Nat.lt_succ_self _))).1
    have hy := (trim_C hr1 hc1 (trim_eq l1 (by omega) _ (Nat.lt_succ_self _))).1
    have hxl : (trimT l0).length ≤ 100000 := by have := lenT_le l0 l0.length; unfold trimT; rw [List.length_take]; omega
    have hyl : (trimT l1).length ≤ 100000 := by have := lenT_le l1 l1.length; unfold trimT; rw [List.length_take]; omega
    generalize trimT l0 = x at *
    generalize trimT l1 = y at *
    have HX := Lib.hid hx
    have HY := Lib.hid hy
    clear hx hy hr0 hr1 hc0 hc1 hlen
    unfold lessL
    by_cases hn : x.length = y.length
    · rw [if_pos hn]
      have hne : ((x.length : Int) != (y.length : Int)) = false := by rw [hn]; simp
      have HN := Lib.hid hn
      clear hn
      obtain ⟨R, hR⟩ : ∃ R, lessAt x y x.length = R := ⟨_, rfl⟩
      rw [hR]
      have HR := Lib.hid hR
      clear hR
      have hsub : IntKind.i64.wrap ((x.length : Int) - 1) = (x.length : Int) - 1 := IntWalk.i64_in _ (by omega)
      go_enter Tryz.func39, Tryz.ntmps39
      go_upto_region 2 with (go_at_call 66; refine cA.mono ?_; rintro e w1 ⟨rfl, m1, rfl⟩)
      (try simp only [Act.put, List.setIfInBounds_toArray, List.set_cons_zero, List.set_cons_succ])
      go_wp2_with (go_at_call 66; refine (cB m1).mono ?_; rintro e w2 ⟨rfl, m2, rfl⟩)
      go_loopg [5] x.length (fun gk v5 wx => ∃ (z : Int) (n : Nat), v5 = .int .i64 z ∧ Aside0 (z = (n : Int) - 1) ∧ Aside0 (n ≤ x.length) ∧ Aside0 (n = gk) ∧ Aside0 (lessAt x y n = R) ∧ Drawn0 w wx)
      case atStart => exact ⟨_, x.length, rfl, ⟨rfl⟩, ⟨Nat.le_refl _⟩, ⟨rfl⟩, ⟨HR.out⟩, ⟨_, rfl⟩⟩
      case round =>
        obtain ⟨z, n, rfl, Hz, Hn, Hg, HL, ⟨m, rfl⟩⟩ := hrel
        cases n with
        | zero =>
          have hz0 : decide (0 ≤ z) = false := decide_eq_false (by have := Hz.out; omega)
          go_wp2
          go_ret
          exact ⟨by rw [← HL.out]; rfl, Drawn0.below ⟨_, rfl⟩⟩
        | succ n =>
          have hg := Hg.out
          subst hg
          obtain rfl : z = (n : Int) := by have := Hz.out; omega
          have hn1 : (n : Int) < (x.length : Int) := by have := Hn.out; omega
          have hn2 : (n : Int) < (y.length : Int) := by have := Hn.out; have := HN.out; omega
          have hn0 : (0 : Int) ≤ (n : Int) := Int.natCast_nonneg n
          obtain ⟨ad, e0, hcx⟩ := Kd.at_int HX.out (n : Int) hn0 hn1
          cases e0
          obtain ⟨bd, e1, hcy⟩ := Kd.at_int HY.out (n : Int) hn0 hn2
          cases e1
          rw [Int.toNat_natCast] at hcx hcy
          have p0 := eq_true hn0
          have p1 := eq_true hn1
          have p2 := eq_true hn2
          have p3 : (n < x.length) = True := eq_true (by omega)
          have p4 : (n < y.length) = True := eq_true (by omega)
          have hL := HL.out
          unfold lessAt at hL
          have hw1 : IntKind.i64.wrap ((n : Int) - 1) = (n : Int) - 1 := IntWalk.i64_in _ (by omega)
          clear hn0 hn1 hn2 Hz
          by_cases hd : rd x (n : Int) = rd y (n : Int)
          · rw [if_pos hd] at hL
            have HL' := Aside0.mk hL
            have hd1 : (rd x (n : Int) != rd y (n : Int)) = false := bne_eq_false_iff_eq.mpr hd
            clear hd hL HL
            go_wp2
            repeat (go_quiet (fail); try go_wp2)
            go_roundg n
            case measure => omega
            case rel => exact ⟨_, n, rfl, ⟨rfl⟩, ⟨by have := Hn.out; omega⟩, ⟨rfl⟩, HL', by repeat (first | exact Drawn0.refl _ | apply Drawn0.step)⟩
          · rw [if_neg hd] at hL
            have HL' := Aside0.mk hL
            have hd1 : (rd x (n : Int) != rd y (n : Int)) = true := bne_iff_ne.mpr hd
            clear hd hL HL
            go_wp2
            repeat (go_quiet (fail); try go_wp2)
            go_ret
            exact ⟨by rw [← HL'.out]; first | rfl | (congr 2; done) | simp, Drawn0.below (by repeat (first | exact Drawn0.refl _ | apply Drawn0.step))⟩
    · rw [if_neg hn]
      have hne : ((x.length : Int) != (y.length : Int)) = true := bne_iff_ne.mpr (by omega)
      have hcast : decide ((x.length : Int) < (y.length : Int)) = decide (x.length < y.length) := by rw [Bool.eq_iff_iff]; simp
      have HC := Aside0.mk hcast
      clear hn hcast
      go_enter Tryz.func39, Tryz.ntmps39
      go_upto_region 2 with (go_at_call 66; refine cA.mono ?_; rintro e w1 ⟨rfl, m1, rfl⟩)
      (try simp only [Act.put, List.setIfInBounds_toArray, List.set_cons_zero, List.set_cons_succ])
      go_wp2_with (go_at_call 66; refine (cB m1).mono ?_; rintro e w2 ⟨rfl, m2, rfl⟩)
      go_ret
      exact ⟨by first | rfl | rw [HC.out], Drawn0.below ⟨_, rfl⟩⟩
  · cases h
end Go.Proofs.YtenbkjeflancaaaGreatDoor.Val
namespace Go.Proofs.YtenbkjeflancaaaGreatDoor.Q
open Go.RowKit Go.Proofs.YtenbkjeflancaaaGreatDoorW.PrintWords Go.Proofs.YtenbkjeflancaaaGreatDoorW.PrintLast Go.Proofs.YtenbkjeflancaaaGreatDoorW.PrintMore
attribute [local go_sem] max2_int min2_int max_two min_two
set_option linter.unusedVariables false
set_option linter.unusedSimpArgs false
def basculeref22_less.f (l0 : List Int) (l1 : List Int) : Option (Bool) := Val.lessO l0 l1
theorem basculeref22_less.calls (A0 : Option Addr) (c0 : Nat) (l0 : List Int) (A1 : Option Addr) (c1 : Nat) (l1 : List Int) (r : Bool) (w : World) (hr0 : Kd.C (Kd.int .i64) w A0 l0.length l0) (hc0 : l0.length ≤ c0) (hr1 : Kd.C (Kd.int .i64) w A1 l1.length l1) (hc1 : l1.length ≤ c1) (h : basculeref22_less.f l0 l1 = some r) :
    Calls Tryz.prog 39 #[.slice A0 l0.length c0, .slice A1 l1.length c1] w fun e w' => e = .returned (.bool r) ∧ Below w.heap.size w w' := by
  exact Val.less_calls A0 c0 l0 A1 c1 l1 r w hr0 hc0 hr1 hc1 h
end Go.Proofs.YtenbkjeflancaaaGreatDoor.Q
