/- What the proof of ValueSigns leans on: Qx30. -/
import Derived.Test.YtmkekhjbbapngaaGreatDoorSValueSignsQx0
import Derived.Test.YtmkekhjbbapngaaGreatDoorSValueSignsQx8
import Derived.Test.YtmkekhjbbapngaaGreatDoorSValueSignsQx18
namespace Go.Proofs.YtmkekhjbbapngaaGreatDoor.Q
open Go.RowKit Go.Proofs.YtmkekhjbbapngaaGreatDoorW.PrintWords Go.Proofs.YtmkekhjbbapngaaGreatDoorW.PrintLast Go.Proofs.YtmkekhjbbapngaaGreatDoorW.PrintMore
attribute [local go_sem] max2_int min2_int max_two min_two
set_option linter.unusedVariables false
set_option linter.unusedSimpArgs false
mutual
def basculelaw22_ValueSigns.j0 : Nat → Int → Int → List Int → Bool → Option (Bool)
  | 0, _, _, _, _ => none
  | k + 1, x0, x1, x2, x38 => if x38 = true then (some true) else ((basculelaw22_row.f x0 x1 0).bind fun bt481 => ((value_Text.f bt481.1 bt481.2.1 bt481.2.2.1 bt481.2.2.2.1 bt481.2.2.2.2.1 bt481.2.2.2.2.2.1 bt481.2.2.2.2.2.2.1 bt481.2.2.2.2.2.2.2 x2).bind fun bt489 => ((basculelaw22_row.f (wrap64 (x0 + 1)) x1 0).bind fun bt491 => ((value_Text.f bt491.1 bt491.2.1 bt491.2.2.1 bt491.2.2.2.1 bt491.2.2.2.2.1 bt491.2.2.2.2.2.1 bt491.2.2.2.2.2.2.1 bt491.2.2.2.2.2.2.2 x2).bind fun bt499 => (if bt489.2 = 0 then (if (x2.length : Int) < 1 then (basculelaw22_ValueSigns.j1 k x0 x2 bt489.1 bt499.1 bt499.2 true) else (if x0 = 6 then (basculelaw22_ValueSigns.j1 k x0 x2 bt489.1 bt499.1 bt499.2 (decide ((x2.length : Int) < 2))) else (basculelaw22_ValueSigns.j1 k x0 x2 bt489.1 bt499.1 bt499.2 false))) else ((basculelaw22_awake.f k).bind fun t501 => (if t501 = true then (some (bt499.2 == bt489.2)) else (some false))))))))
def basculelaw22_ValueSigns.j1 : Nat → Int → List Int → ByteArray → ByteArray → Int → Bool → Option (Bool)
  | 0, _, _, _, _, _, _ => none
  | k + 1, x0, x2, x7, x9, x10, x75 => if x75 = true then (some false) else (if 0 < (x2.length : Int) then (if x0 = 6 then (if 1 < (x2.length : Int) then (basculelaw22_ValueSigns.j2 k x7 x9 x10 (rd x2 1)) else (none)) else (basculelaw22_ValueSigns.j2 k x7 x9 x10 (rd x2 0))) else (none))
def basculelaw22_ValueSigns.j2 : Nat → ByteArray → ByteArray → Int → Int → Option (Bool)
  | 0, _, _, _, _ => none
  | k + 1, x7, x9, x10, x11 => if x11 < 32768 then ((basculelaw22_awake.f k).bind fun t504 => (if t504 = true then (if x10 = 0 then (some (x7.toList == x9.toList)) else (some false)) else (some false))) else ((basculelaw22_awake.f k).bind fun t505 => (if t505 = true then (if x10 = 0 then (if 0 < (x9.size : Int) then (if (bt x9 0) = 45 then (if 0 < (x7.size : Int) then (some ((bt x7 0) != 45)) else (none)) else (some false)) else (none)) else (some false)) else (some false)))
end
def basculelaw22_ValueSigns.f (k : Nat) (a0 : Int) (a1 : Int) (l2 : List Int) : Option (Bool) := if a0 = 2 then (if a1 < 0 then (basculelaw22_ValueSigns.j0 k a0 a1 l2 true) else (if a1 > 9 then (basculelaw22_ValueSigns.j0 k a0 a1 l2 true) else (basculelaw22_ValueSigns.j0 k a0 a1 l2 (decide ((l2.length : Int) > 10))))) else (if a0 = 4 then (if a1 < 0 then (basculelaw22_ValueSigns.j0 k a0 a1 l2 true) else (if a1 > 9 then (basculelaw22_ValueSigns.j0 k a0 a1 l2 true) else (basculelaw22_ValueSigns.j0 k a0 a1 l2 (decide ((l2.length : Int) > 10))))) else (if a0 = 6 then (if a1 < 0 then (basculelaw22_ValueSigns.j0 k a0 a1 l2 true) else (if a1 > 9 then (basculelaw22_ValueSigns.j0 k a0 a1 l2 true) else (basculelaw22_ValueSigns.j0 k a0 a1 l2 (decide ((l2.length : Int) > 10))))) else (if a0 = 9 then (if a1 < 0 then (basculelaw22_ValueSigns.j0 k a0 a1 l2 true) else (if a1 > 9 then (basculelaw22_ValueSigns.j0 k a0 a1 l2 true) else (basculelaw22_ValueSigns.j0 k a0 a1 l2 (decide ((l2.length : Int) > 10))))) else (basculelaw22_ValueSigns.j0 k a0 a1 l2 true))))
set_option maxHeartbeats 8000000 in
set_option maxRecDepth 100000 in
theorem basculelaw22_ValueSigns.calls (k : Nat) (a0 : Int) (a1 : Int) (A2 : Option Addr) (c2 : Nat) (l2 : List Int) (r : Bool) (w : World) (hr2 : Kd.C (Kd.int .i64) w A2 l2.length l2) (hc2 : l2.length ≤ c2) (hLd_ : Go.Proofs.YtmkekhjbbapngaaGreatDoor.Val.Laid w) (h : basculelaw22_ValueSigns.f k a0 a1 l2 = some r) :
    Calls Tryz.prog 9 #[.int .i64 a0, .int .i64 a1, .slice A2 l2.length c2] w fun e w' => e = .returned (.bool r) ∧ Below w.heap.size w w' := by
  have HR2 := Aside0.mk hr2
  have HC2 := Aside0.mk hc2
  clear hr2 hc2
  have HB := Aside0.mk (Below.refl w.heap.size w)
  have H : (if a0 = 2 then (if a1 < 0 then (basculelaw22_ValueSigns.j0 k a0 a1 l2 true) else (if a1 > 9 then (basculelaw22_ValueSigns.j0 k a0 a1 l2 true) else (basculelaw22_ValueSigns.j0 k a0 a1 l2 (decide ((l2.length : Int) > 10))))) else (if a0 = 4 then (if a1 < 0 then (basculelaw22_ValueSigns.j0 k a0 a1 l2 true) else (if a1 > 9 then (basculelaw22_ValueSigns.j0 k a0 a1 l2 true) else (basculelaw22_ValueSigns.j0 k a0 a1 l2 (decide ((l2.length : Int) > 10))))) else (if a0 = 6 then (if a1 < 0 then (basculelaw22_ValueSigns.j0 k a0 a1 l2 true) else (if a1 > 9 then (basculelaw22_ValueSigns.j0 k a0 a1 l2 true) else (basculelaw22_ValueSigns.j0 k a0 a1 l2 (decide ((l2.length : Int) > 10))))) else (if a0 = 9 then (if a1 < 0 then (basculelaw22_ValueSigns.j0 k a0 a1 l2 true) else (if a1 > 9 then (basculelaw22_ValueSigns.j0 k a0 a1 l2 true) else (basculelaw22_ValueSigns.j0 k a0 a1 l2 (decide ((l2.length : Int) > 10))))) else (basculelaw22_ValueSigns.j0 k a0 a1 l2 true))))) = some r := h
  clear h
  have HC4 := Aside0.mk H
  clear H
  go_enter Tryz.func9, Tryz.ntmps9
  go_upto_region 1 with (fail)
  go_cut [38] (fun v38 wc => ∃ (kq : Nat) (x38_3 : Bool), v38 = .bool x38_3 ∧ Aside0 (basculelaw22_ValueSigns.j0 kq a0 a1 l2 x38_3 = some r) ∧ Aside0 (kq ≤ k) ∧ Aside0 (Below w.heap.size w wc))
  case first =>
    have H := HC4.out
    clear HC4
    by_cases c5 : a0 = 2
    · rw [if_pos c5] at H
      have c5b0 : (a0 == 2) = true := beq_iff_eq.mpr c5
      have c5b1 : (a0 != 2) = false := bne_eq_false_iff_eq.mpr c5
      clear c5
      (first | rw [c5b0] | (simp only [i64_w, i32_w]; rw [c5b0]) | skip)
      by_cases c6 : a1 < 0
      · rw [if_pos c6] at H
        have c6b0 : decide (a1 < 0) = true := decide_eq_true c6
        clear c6
        have H' := Aside0.mk H
        clear H
        go_wp2
        go_meet
        case rel => exact ⟨_, (true), (by first | rfl | (simp; done) | (simp [*]; done)), H', ⟨by first | omega | exact Nat.le_refl _⟩, ⟨by repeat (first | (with_reducible first | exact HB.out | apply below_alloc | apply pw_below_drewN | apply below_drew1) | exact HB.out)⟩⟩
      · rw [if_neg c6] at H
        have c6b0 : decide (a1 < 0) = false := decide_eq_false c6
        clear c6
        by_cases c7 : a1 > 9
        · rw [if_pos c7] at H
          have c7b0 : decide (9 < a1) = true := decide_eq_true c7
          clear c7
          have H' := Aside0.mk H
          clear H
          go_wp2
          go_meet
          case rel => exact ⟨_, (true), (by first | rfl | (simp; done) | (simp [*]; done)), H', ⟨by first | omega | exact Nat.le_refl _⟩, ⟨by repeat (first | (with_reducible first | exact HB.out | apply below_alloc | apply pw_below_drewN | apply below_drew1) | exact HB.out)⟩⟩
        · rw [if_neg c7] at H
          have c7b0 : decide (9 < a1) = false := decide_eq_false c7
          clear c7
          have H' := Aside0.mk H
          clear H
          go_wp2
          go_meet
          case rel => exact ⟨_, (decide ((l2.length : Int) > 10)), (by first | rfl | (simp; done) | (simp [*]; done)), H', ⟨by first | omega | exact Nat.le_refl _⟩, ⟨by repeat (first | (with_reducible first | exact HB.out | apply below_alloc | apply pw_below_drewN | apply below_drew1) | exact HB.out)⟩⟩
    · rw [if_neg c5] at H
      have c5b0 : (a0 == 2) = false := beq_eq_false_iff_ne.mpr c5
      have c5b1 : (a0 != 2) = true := bne_iff_ne.mpr c5
      (first | rw [c5b0] | (simp only [i64_w, i32_w]; rw [c5b0]) | skip)
      by_cases c8 : a0 = 4
      · rw [if_pos c8] at H
        have c8b0 : (a0 == 4) = true := beq_iff_eq.mpr c8
        have c8b1 : (a0 != 4) = false := bne_eq_false_iff_eq.mpr c8
        clear c8
        by_cases c9 : a1 < 0
        · rw [if_pos c9] at H
          have c9b0 : decide (a1 < 0) = true := decide_eq_true c9
          clear c9
          have H' := Aside0.mk H
          clear H
          go_wp2
          go_meet
          case rel => exact ⟨_, (true), (by first | rfl | (simp; done) | (simp [*]; done)), H', ⟨by first | omega | exact Nat.le_refl _⟩, ⟨by repeat (first | (with_reducible first | exact HB.out | apply below_alloc | apply pw_below_drewN | apply below_drew1) | exact HB.out)⟩⟩
        · rw [if_neg c9] at H
          have c9b0 : decide (a1 < 0) = false := decide_eq_false c9
          clear c9
          by_cases c10 : a1 > 9
          · rw [if_pos c10] at H
            have c10b0 : decide (9 < a1) = true := decide_eq_true c10
            clear c10
            have H' := Aside0.mk H
            clear H
            go_wp2
            go_meet
            case rel => exact ⟨_, (true), (by first | rfl | (simp; done) | (simp [*]; done)), H', ⟨by first | omega | exact Nat.le_refl _⟩, ⟨by repeat (first | (with_reducible first | exact HB.out | apply below_alloc | apply pw_below_drewN | apply below_drew1) | exact HB.out)⟩⟩
          · rw [if_neg c10] at H
            have c10b0 : decide (9 < a1) = false := decide_eq_false c10
            clear c10
            have H' := Aside0.mk H
            clear H
            go_wp2
            go_meet
            case rel => exact ⟨_, (decide ((l2.length : Int) > 10)), (by first | rfl | (simp; done) | (simp [*]; done)), H', ⟨by first | omega | exact Nat.le_refl _⟩, ⟨by repeat (first | (with_reducible first | exact HB.out | apply below_alloc | apply pw_below_drewN | apply below_drew1) | exact HB.out)⟩⟩
      · rw [if_neg c8] at H
        have c8b0 : (a0 == 4) = false := beq_eq_false_iff_ne.mpr c8
        have c8b1 : (a0 != 4) = true := bne_iff_ne.mpr c8
        by_cases c11 : a0 = 6
        · rw [if_pos c11] at H
          have c11b0 : (a0 == 6) = true := beq_iff_eq.mpr c11
          have c11b1 : (a0 != 6) = false := bne_eq_false_iff_eq.mpr c11
          clear c11
          by_cases c12 : a1 < 0
          · rw [if_pos c12] at H
            have c12b0 : decide (a1 < 0) = true := decide_eq_true c12
            clear c12
            have H' := Aside0.mk H
            clear H
            go_wp2
            go_meet
            case rel => exact ⟨_, (true), (by first | rfl | (simp; done) | (simp [*]; done)), H', ⟨by first | omega | exact Nat.le_refl _⟩, ⟨by repeat (first | (with_reducible first | exact HB.out | apply below_alloc | apply pw_below_drewN | apply below_drew1) | exact HB.out)⟩⟩
          · rw [if_neg c12] at H
            have c12b0 : decide (a1 < 0) = false := decide_eq_false c12
            clear c12
            by_cases c13 : a1 > 9
            · rw [if_pos c13] at H
              have c13b0 : decide (9 < a1) = true := decide_eq_true c13
              clear c13
              have H' := Aside0.mk H
              clear H
              go_wp2
              go_meet
              case rel => exact ⟨_, (true), (by first | rfl | (simp; done) | (simp [*]; done)), H', ⟨by first | omega | exact Nat.le_refl _⟩, ⟨by repeat (first | (with_reducible first | exact HB.out | apply below_alloc | apply pw_below_drewN | apply below_drew1) | exact HB.out)⟩⟩
            · rw [if_neg c13] at H
              have c13b0 : decide (9 < a1) = false := decide_eq_false c13
              clear c13
              have H' := Aside0.mk H
              clear H
              go_wp2
              go_meet
              case rel => exact ⟨_, (decide ((l2.length : Int) > 10)), (by first | rfl | (simp; done) | (simp [*]; done)), H', ⟨by first | omega | exact Nat.le_refl _⟩, ⟨by repeat (first | (with_reducible first | exact HB.out | apply below_alloc | apply pw_below_drewN | apply below_drew1) | exact HB.out)⟩⟩
        · rw [if_neg c11] at H
          have c11b0 : (a0 == 6) = false := beq_eq_false_iff_ne.mpr c11
          have c11b1 : (a0 != 6) = true := bne_iff_ne.mpr c11
          by_cases c14 : a0 = 9
          · rw [if_pos c14] at H
            have c14b0 : (a0 == 9) = true := beq_iff_eq.mpr c14
            have c14b1 : (a0 != 9) = false := bne_eq_false_iff_eq.mpr c14
            clear c14
            by_cases c15 : a1 < 0
            · rw [if_pos c15] at H
              have c15b0 : decide (a1 < 0) = true := decide_eq_true c15
              clear c15
              have H' := Aside0.mk H
              clear H
              go_wp2
              go_meet
              case rel => exact ⟨_, (true), (by first | rfl | (simp; done) | (simp [*]; done)), H', ⟨by first | omega | exact Nat.le_refl _⟩, ⟨by repeat (first | (with_reducible first | exact HB.out | apply below_alloc | apply pw_below_drewN | apply below_drew1) | exact HB.out)⟩⟩
            · rw [if_neg c15] at H
              have c15b0 : decide (a1 < 0) = false := decide_eq_false c15
              clear c15
              by_cases c16 : a1 > 9
              · rw [if_pos c16] at H
                have c16b0 : decide (9 < a1) = true := decide_eq_true c16
                clear c16
                have H' := Aside0.mk H
                clear H
                go_wp2
                go_meet
                case rel => exact ⟨_, (true), (by first | rfl | (simp; done) | (simp [*]; done)), H', ⟨by first | omega | exact Nat.le_refl _⟩, ⟨by repeat (first | (with_reducible first | exact HB.out | apply below_alloc | apply pw_below_drewN | apply below_drew1) | exact HB.out)⟩⟩
              · rw [if_neg c16] at H
                have c16b0 : decide (9 < a1) = false := decide_eq_false c16
                clear c16
                have H' := Aside0.mk H
                clear H
                go_wp2
                go_meet
                case rel => exact ⟨_, (decide ((l2.length : Int) > 10)), (by first | rfl | (simp; done) | (simp [*]; done)), H', ⟨by first | omega | exact Nat.le_refl _⟩, ⟨by repeat (first | (with_reducible first | exact HB.out | apply below_alloc | apply pw_below_drewN | apply below_drew1) | exact HB.out)⟩⟩
          · rw [if_neg c14] at H
            have c14b0 : (a0 == 9) = false := beq_eq_false_iff_ne.mpr c14
            have c14b1 : (a0 != 9) = true := bne_iff_ne.mpr c14
            have H' := Aside0.mk H
            clear H
            go_wp2
            go_meet
            case rel => exact ⟨_, (true), (by first | rfl | (simp; done) | (simp [*]; done)), H', ⟨by first | omega | exact Nat.le_refl _⟩, ⟨by repeat (first | (with_reducible first | exact HB.out | apply below_alloc | apply pw_below_drewN | apply below_drew1) | exact HB.out)⟩⟩
  case rest =>
    clear HC4
    try clear c1
    try clear c2
    try clear p2
    try clear c5
    try clear c5b0
    try clear c5b1
    try clear c6
    try clear c6b0
    try clear c7
    try clear c7b0
    try clear c8
    try clear c8b0
    try clear c8b1
    try clear c9
    try clear c9b0
    try clear c10
    try clear c10b0
    try clear c11
    try clear c11b0
    try clear c11b1
    try clear c12
    try clear c12b0
    try clear c13
    try clear c13b0
    try clear c14
    try clear c14b0
    try clear c14b1
    try clear c15
    try clear c15b0
    try clear c16
    try clear c16b0
    obtain ⟨kq, x38_3, rfl, HA, HJ3, HB⟩ := hcut
    cases kq with
    | zero => exact absurd HA.out (by simp [basculelaw22_ValueSigns.j0])
    | succ kj3 =>
      have H := HA.out
      clear HA
      simp only [basculelaw22_ValueSigns.j0] at H
      by_cases c17 : x38_3 = true
      · subst c17
        have H1 : (some true) = some r := by rw [if_pos rfl] at H; exact H
        clear H
        have H := H1
        clear H1
        obtain rfl := Option.some.inj H
        go_wp2
        go_ret
        exact ⟨by first | rfl | (simp [errW_none, errW_some] <;> rfl) | (simp [*, errW_none, errW_some] <;> rfl), by repeat (first | (with_reducible first | exact HB.out | apply below_alloc | apply pw_below_drewN | apply below_drew1) | exact HB.out)⟩
      · replace c17 := Bool.eq_false_iff.mpr c17
        subst c17
        have H1 : ((basculelaw22_row.f a0 a1 0).bind fun bt481 => ((value_Text.f bt481.1 bt481.2.1 bt481.2.2.1 bt481.2.2.2.1 bt481.2.2.2.2.1 bt481.2.2.2.2.2.1 bt481.2.2.2.2.2.2.1 bt481.2.2.2.2.2.2.2 l2).bind fun bt489 => ((basculelaw22_row.f (wrap64 (a0 + 1)) a1 0).bind fun bt491 => ((value_Text.f bt491.1 bt491.2.1 bt491.2.2.1 bt491.2.2.2.1 bt491.2.2.2.2.1 bt491.2.2.2.2.2.1 bt491.2.2.2.2.2.2.1 bt491.2.2.2.2.2.2.2 l2).bind fun bt499 => (if bt489.2 = 0 then (if (l2.length : Int) < 1 then (basculelaw22_ValueSigns.j1 kj3 a0 l2 bt489.1 bt499.1 bt499.2 true) else (if a0 = 6 then (basculelaw22_ValueSigns.j1 kj3 a0 l2 bt489.1 bt499.1 bt499.2 (decide ((l2.length : Int) < 2))) else (basculelaw22_ValueSigns.j1 kj3 a0 l2 bt489.1 bt499.1 bt499.2 false))) else ((basculelaw22_awake.f kj3).bind fun t501 => (if t501 = true then (some (bt499.2 == bt489.2)) else (some false)))))))) = some r := by rw [if_neg (show ¬ (false = true) by decide)] at H; exact H
        clear H
        have H := H1
        clear H1
        replace H := Option.bind_eq_some_iff.mp H
        obtain ⟨⟨t481, t482, t483, t484, t485, t486, t487, t488⟩, A180, H⟩ := H
        replace H : ((value_Text.f t481 t482 t483 t484 t485 t486 t487 t488 l2).bind fun bt489 => ((basculelaw22_row.f (wrap64 (a0 + 1)) a1 0).bind fun bt491 => ((value_Text.f bt491.1 bt491.2.1 bt491.2.2.1 bt491.2.2.2.1 bt491.2.2.2.2.1 bt491.2.2.2.2.2.1 bt491.2.2.2.2.2.2.1 bt491.2.2.2.2.2.2.2 l2).bind fun bt499 => (if bt489.2 = 0 then (if (l2.length : Int) < 1 then (basculelaw22_ValueSigns.j1 kj3 a0 l2 bt489.1 bt499.1 bt499.2 true) else (if a0 = 6 then (basculelaw22_ValueSigns.j1 kj3 a0 l2 bt489.1 bt499.1 bt499.2 (decide ((l2.length : Int) < 2))) else (basculelaw22_ValueSigns.j1 kj3 a0 l2 bt489.1 bt499.1 bt499.2 false))) else ((basculelaw22_awake.f kj3).bind fun t501 => (if t501 = true then (some (bt499.2 == bt489.2)) else (some false))))))) = some r := H
        have A18 := Aside0.mk A180
        clear A180
        replace H := Option.bind_eq_some_iff.mp H
        obtain ⟨⟨t489, t490⟩, A190, H⟩ := H
        replace H : ((basculelaw22_row.f (wrap64 (a0 + 1)) a1 0).bind fun bt491 => ((value_Text.f bt491.1 bt491.2.1 bt491.2.2.1 bt491.2.2.2.1 bt491.2.2.2.2.1 bt491.2.2.2.2.2.1 bt491.2.2.2.2.2.2.1 bt491.2.2.2.2.2.2.2 l2).bind fun bt499 => (if t490 = 0 then (if (l2.length : Int) < 1 then (basculelaw22_ValueSigns.j1 kj3 a0 l2 t489 bt499.1 bt499.2 true) else (if a0 = 6 then (basculelaw22_ValueSigns.j1 kj3 a0 l2 t489 bt499.1 bt499.2 (decide ((l2.length : Int) < 2))) else (basculelaw22_ValueSigns.j1 kj3 a0 l2 t489 bt499.1 bt499.2 false))) else ((basculelaw22_awake.f kj3).bind fun t501 => (if t501 = true then (some (bt499.2 == t490)) else (some false)))))) = some r := H
        have A19 := Aside0.mk A190
        clear A190
        replace H := Option.bind_eq_some_iff.mp H
        obtain ⟨⟨t491, t492, t493, t494, t495, t496, t497, t498⟩, A200, H⟩ := H
        replace H : ((value_Text.f t491 t492 t493 t494 t495 t496 t497 t498 l2).bind fun bt499 => (if t490 = 0 then (if (l2.length : Int) < 1 then (basculelaw22_ValueSigns.j1 kj3 a0 l2 t489 bt499.1 bt499.2 true) else (if a0 = 6 then (basculelaw22_ValueSigns.j1 kj3 a0 l2 t489 bt499.1 bt499.2 (decide ((l2.length : Int) < 2))) else (basculelaw22_ValueSigns.j1 kj3 a0 l2 t489 bt499.1 bt499.2 false))) else ((basculelaw22_awake.f kj3).bind fun t501 => (if t501 = true then (some (bt499.2 == t490)) else (some false))))) = some r := H
        have A20 := Aside0.mk A200
        clear A200
        replace H := Option.bind_eq_some_iff.mp H
        obtain ⟨⟨t499, t500⟩, A210, H⟩ := H
        replace H : (if t490 = 0 then (if (l2.length : Int) < 1 then (basculelaw22_ValueSigns.j1 kj3 a0 l2 t489 t499 t500 true) else (if a0 = 6 then (basculelaw22_ValueSigns.j1 kj3 a0 l2 t489 t499 t500 (decide ((l2.length : Int) < 2))) else (basculelaw22_ValueSigns.j1 kj3 a0 l2 t489 t499 t500 false))) else ((basculelaw22_awake.f kj3).bind fun t501 => (if t501 = true then (some (t500 == t490)) else (some false)))) = some r := H
        have A21 := Aside0.mk A210
        clear A210
        by_cases c22 : t490 = 0
        · rw [if_pos c22] at H
          have c22b0 : (t490 == 0) = true := beq_iff_eq.mpr c22
          have c22b1 : (t490 != 0) = false := bne_eq_false_iff_eq.mpr c22
          clear c22
          have HC23 := Aside0.mk H
          clear H
          go_upto_region 7 with (first | ((with_reducible refine gate_callee (f := 22) rfl ?_); refine goesL_ (some 42) rfl rfl Tryz.func22 (by kernel_rfl) rfl #[.int .i64 a0, .int .i64 a1, .int .i64 0] rfl (by (try simp only [List.map_toArray, List.map_cons, List.map_nil]); first | done | rfl | (simp only [List.length_drop, List.length_take]; rfl)) ?_; (with_reducible refine (basculelaw22_row.calls a0 a1 0 t481 t482 t483 t484 t485 t486 t487 t488 _ A18.out).mono ?_); rintro e w24 ⟨rfl, hb⟩; refine ⟨_, rfl, ?_⟩; have n0_ := Aside0.mk (below_step (by repeat (first | (with_reducible first | exact HB.out | apply below_alloc | apply pw_below_drewN | apply below_drew1) | exact HB.out)) hb); clear HB; have HB := n0_; clear n0_; (try clear hb); (try clear hb2); (try clear hk); (try clear hi)) | ((with_reducible refine gate_callee (f := 12) rfl ?_); refine goesL_ (some 44) rfl rfl Tryz.func12 (by kernel_rfl) rfl #[.agg #[.string t481, .int .i64 t482, .int .i64 t483, .int .i64 t484, .int .i64 t485, .int .i64 t486, .int .i64 t487, .bool t488], .slice A2 l2.length c2] rfl (by (try simp only [List.map_toArray, List.map_cons, List.map_nil]); first | done | rfl | (simp only [List.length_drop, List.length_take]; rfl)) ?_; (with_reducible refine (value_Text.calls t481 t482 t483 t484 t485 t486 t487 t488 _ _ l2 t489 t490 _ ?side1 ?side2 (Go.Proofs.YtmkekhjbbapngaaGreatDoor.Val.Laid.below hLd_ (by repeat (first | (with_reducible first | exact HB.out | apply below_alloc | apply pw_below_drewN | apply below_drew1) | exact HB.out))) A19.out).mono ?_); (case side1 => repeat (first | exact (Kd.C_below HR2.out HB.out) | (with_reducible refine Kd.C_alloc ?_ _) | (with_reducible refine Kd.C_drewN ?_ _) | (with_reducible refine Kd.C_drew ?_))); (case side2 => exact HC2.out); rintro e w25 ⟨rfl, hb⟩; refine ⟨_, rfl, ?_⟩; have n0_ := Aside0.mk (below_step (by repeat (first | (with_reducible first | exact HB.out | apply below_alloc | apply pw_below_drewN | apply below_drew1) | exact HB.out)) hb); clear HB; have HB := n0_; clear n0_; (try clear hb); (try clear hb2); (try clear hk); (try clear hi)) | ((with_reducible refine gate_callee (f := 22) rfl ?_); refine goesL_ (some 51) rfl rfl Tryz.func22 (by kernel_rfl) rfl #[.int .i64 (wrap64 (a0 + 1)), .int .i64 a1, .int .i64 0] rfl (by (try simp only [List.map_toArray, List.map_cons, List.map_nil]); first | done | rfl | (simp only [List.length_drop, List.length_take]; rfl)) ?_; (with_reducible refine (basculelaw22_row.calls (wrap64 (a0 + 1)) a1 0 t491 t492 t493 t494 t495 t496 t497 t498 _ A20.out).mono ?_); rintro e w26 ⟨rfl, hb⟩; refine ⟨_, rfl, ?_⟩; have n0_ := Aside0.mk (below_step (by repeat (first | (with_reducible first | exact HB.out | apply below_alloc | apply pw_below_drewN | apply below_drew1) | exact HB.out)) hb); clear HB; have HB := n0_; clear n0_; (try clear hb); (try clear hb2); (try clear hk); (try clear hi)) | ((with_reducible refine gate_callee (f := 12) rfl ?_); refine goesL_ (some 53) rfl rfl Tryz.func12 (by kernel_rfl) rfl #[.agg #[.string t491, .int .i64 t492, .int .i64 t493, .int .i64 t494, .int .i64 t495, .int .i64 t496, .int .i64 t497, .bool t498], .slice A2 l2.length c2] rfl (by (try simp only [List.map_toArray, List.map_cons, List.map_nil]); first | done | rfl | (simp only [List.length_drop, List.length_take]; rfl)) ?_; (with_reducible refine (value_Text.calls t491 t492 t493 t494 t495 t496 t497 t498 _ _ l2 t499 t500 _ ?side1 ?side2 (Go.Proofs.YtmkekhjbbapngaaGreatDoor.Val.Laid.below hLd_ (by repeat (first | (with_reducible first | exact HB.out | apply below_alloc | apply pw_below_drewN | apply below_drew1) | exact HB.out))) A21.out).mono ?_); (case side1 => repeat (first | exact (Kd.C_below HR2.out HB.out) | (with_reducible refine Kd.C_alloc ?_ _) | (with_reducible refine Kd.C_drewN ?_ _) | (with_reducible refine Kd.C_drew ?_))); (case side2 => exact HC2.out); rintro e w27 ⟨rfl, hb⟩; refine ⟨_, rfl, ?_⟩; have n0_ := Aside0.mk (below_step (by repeat (first | (with_reducible first | exact HB.out | apply below_alloc | apply pw_below_drewN | apply below_drew1) | exact HB.out)) hb); clear HB; have HB := n0_; clear n0_; (try clear hb); (try clear hb2); (try clear hk); (try clear hi)))
          (try simp only [Act.put, List.setIfInBounds_toArray, List.set_cons_zero, List.set_cons_succ])
          go_cut [75] (fun v75 wc => ∃ (kq : Nat) (x75_22 : Bool), v75 = .bool x75_22 ∧ Aside0 (basculelaw22_ValueSigns.j1 kq a0 l2 t489 t499 t500 x75_22 = some r) ∧ Aside0 (kq ≤ kj3) ∧ Aside0 (Below w.heap.size w wc))
          case first =>
            have H := HC23.out
            clear HC23
            by_cases c28 : (l2.length : Int) < 1
            · rw [if_pos c28] at H
              have c28b0 : decide ((l2.length : Int) < 1) = true := decide_eq_true c28
              have c28b1 : decide (l2.length < 1) = true := decide_eq_true (by omega)
              clear c28
              (first | rw [c28b0] | (simp only [i64_w, i32_w]; rw [c28b0]) | skip)
              have H' := Aside0.mk H
              clear H
              go_wp2
              go_meet
              case rel => exact ⟨_, (true), (by first | rfl | (simp; done) | (simp [*]; done)), H', ⟨by have := HJ3.out; first | omega | exact Nat.le_refl _⟩, ⟨by repeat (first | (with_reducible first | exact HB.out | apply below_alloc | apply pw_below_drewN | apply below_drew1) | exact HB.out)⟩⟩
            · rw [if_neg c28] at H
              have c28b0 : decide ((l2.length : Int) < 1) = false := decide_eq_false c28
              have c28b1 : decide (l2.length < 1) = false := decide_eq_false (by omega)
              clear c28
              (first | rw [c28b0] | (simp only [i64_w, i32_w]; rw [c28b0]) | skip)
              by_cases c29 : a0 = 6
              · rw [if_pos c29] at H
                have c29b0 : (a0 == 6) = true := beq_iff_eq.mpr c29
                have c29b1 : (a0 != 6) = false := bne_eq_false_iff_eq.mpr c29
                clear c29
                have H' := Aside0.mk H
                clear H
                go_wp2
                go_meet
                case rel => exact ⟨_, (decide ((l2.length : Int) < 2)), (by first | rfl | (simp; done) | (simp [*]; done)), H', ⟨by have := HJ3.out; first | omega | exact Nat.le_refl _⟩, ⟨by repeat (first | (with_reducible first | exact HB.out | apply below_alloc | apply pw_below_drewN | apply below_drew1) | exact HB.out)⟩⟩
              · rw [if_neg c29] at H
                have c29b0 : (a0 == 6) = false := beq_eq_false_iff_ne.mpr c29
                have c29b1 : (a0 != 6) = true := bne_iff_ne.mpr c29
                have H' := Aside0.mk H
                clear H
                go_wp2
                go_meet
                case rel => exact ⟨_, (false), (by first | rfl | (simp; done) | (simp [*]; done)), H', ⟨by have := HJ3.out; first | omega | exact Nat.le_refl _⟩, ⟨by repeat (first | (with_reducible first | exact HB.out | apply below_alloc | apply pw_below_drewN | apply below_drew1) | exact HB.out)⟩⟩
          case rest =>
            clear HC23
            try clear c1
            try clear c2
            try clear p2
            try clear c5
            try clear c5b0
            try clear c5b1
            try clear c6
            try clear c6b0
            try clear p6
            try clear c7
            try clear c7b0
            try clear c8
            try clear c8b0
            try clear c8b1
            try clear c9
            try clear c9b0
            try clear c10
            try clear c10b0
            try clear c11
            try clear c11b0
            try clear c11b1
            try clear c12
            try clear c12b0
            try clear c13
            try clear c13b0
            try clear c14
            try clear c14b0
            try clear c14b1
            try clear c15
            try clear c15b0
            try clear c16
            try clear c16b0
            try clear c17
            try clear c22
            try clear c22b0
            try clear c22b1
            try clear c28
            try clear c28b0
            try clear c28b1
            try clear c29
            try clear c29b0
            try clear c29b1
            try clear p2
            obtain ⟨kq, x75_22, rfl, HA, HJ22, HB⟩ := hcut
            cases kq with
            | zero => exact absurd HA.out (by simp [basculelaw22_ValueSigns.j1])
            | succ kj22 =>
              have H := HA.out
              clear HA
              simp only [basculelaw22_ValueSigns.j1] at H
              by_cases c30 : x75_22 = true
              · subst c30
                have H1 : (some false) = some r := by rw [if_pos rfl] at H; exact H
                clear H
                have H := H1
                clear H1
                obtain rfl := Option.some.inj H
                go_wp2
                go_ret
                exact ⟨by first | rfl | (simp [errW_none, errW_some] <;> rfl) | (simp [*, errW_none, errW_some] <;> rfl), by repeat (first | (with_reducible first | exact HB.out | apply below_alloc | apply pw_below_drewN | apply below_drew1) | exact HB.out)⟩
              · replace c30 := Bool.eq_false_iff.mpr c30
                subst c30
                have H1 : (if 0 < (l2.length : Int) then (if a0 = 6 then (if 1 < (l2.length : Int) then (basculelaw22_ValueSigns.j2 kj22 t489 t499 t500 (rd l2 1)) else (none)) else (basculelaw22_ValueSigns.j2 kj22 t489 t499 t500 (rd l2 0))) else (none)) = some r := by rw [if_neg (show ¬ (false = true) by decide)] at H; exact H
                clear H
                have H := H1
                clear H1
                by_cases c31 : 0 < (l2.length : Int)
                · rw [if_pos c31] at H
                  have c31b0 : decide (0 < (l2.length : Int)) = true := decide_eq_true c31
                  have c31b1 : decide (0 < l2.length) = true := decide_eq_true (by omega)
                  clear c31
                  have HC32 := Aside0.mk H
                  clear H
                  have p502 : 0 ≤ (0 : Int) := (by omega)
                  have q502 : 0 < (l2.length : Int) := of_decide_eq_true (by first | (with_reducible assumption) | assumption)
                  obtain ⟨ad502, e502, hx502_0⟩ := Kd.at_int HR2.out 0 p502 q502
                  cases e502
                  have qi502 : (0 < l2.length) = True := eq_true (by omega)
                  (try rw [show ((0 : Int)).toNat = 0 from rfl] at hx502_0)
                  (try rw [Addr.add_zero'] at hx502_0)
                  replace hx502_0 := (HB.out.cell (World.block_lt_of_cell? w _ hx502_0)).trans hx502_0
                  replace p502 := eq_true p502
                  replace q502 := eq_true q502
                  go_upto_if 80 with (fail)
                  go_cut [11] (fun v11 wc => ∃ (kq : Nat) (x11_31 : Int), v11 = .int .i64 x11_31 ∧ Aside0 (basculelaw22_ValueSigns.j2 kq t489 t499 t500 x11_31 = some r) ∧ Aside0 (kq ≤ kj22) ∧ Aside0 (Below w.heap.size w wc))
                  case first =>
                    have H := HC32.out
                    clear HC32
                    by_cases c33 : a0 = 6
                    · rw [if_pos c33] at H
                      have c33b0 : (a0 == 6) = true := beq_iff_eq.mpr c33
                      have c33b1 : (a0 != 6) = false := bne_eq_false_iff_eq.mpr c33
                      clear c33
                      (first | rw [c33b0] | (simp only [i64_w, i32_w]; rw [c33b0]) | skip)
                      by_cases c34 : 1 < (l2.length : Int)
                      · rw [if_pos c34] at H
                        have c34b0 : decide (1 < (l2.length : Int)) = true := decide_eq_true c34
                        have c34b1 : decide (1 < l2.length) = true := decide_eq_true (by omega)
                        clear c34
                        have H' := Aside0.mk H
                        clear H
                        have p503 : 0 ≤ (1 : Int) := (by omega)
                        have q503 : 1 < (l2.length : Int) := of_decide_eq_true (by first | (with_reducible assumption) | assumption)
                        obtain ⟨ad503, e503, hx503_0⟩ := Kd.at_int HR2.out 1 p503 q503
                        obtain rfl : ad502 = ad503 := (by injection e503)
                        (try simp only [show (1 : Int).toNat = 1 from rfl, Nat.reduceMul, Nat.reduceEqDiff, Go.Addr.add, ↓reduceIte] at hx503_0)
                        have qi503 : (1 < l2.length) = True := eq_true (by omega)
                        (try rw [show ((1 : Int)).toNat = 1 from rfl] at hx503_0)
                        replace hx503_0 := (HB.out.cell (World.block_lt_of_cell? w _ hx503_0)).trans hx503_0
                        replace p503 := eq_true p503
                        replace q503 := eq_true q503
                        go_wp2
                        go_meet
                        case rel => exact ⟨_, (rd l2 1), (by first | rfl | (simp; done) | (simp [*]; done)), H', ⟨by have := HJ3.out; have := HJ22.out; first | omega | exact Nat.le_refl _⟩, ⟨by repeat (first | (with_reducible first | exact HB.out | apply below_alloc | apply pw_below_drewN | apply below_drew1) | exact HB.out)⟩⟩
                      · rw [if_neg c34] at H
                        exact absurd H (by simp)
                    · rw [if_neg c33] at H
                      have c33b0 : (a0 == 6) = false := beq_eq_false_iff_ne.mpr c33
                      have c33b1 : (a0 != 6) = true := bne_iff_ne.mpr c33
                      (first | rw [c33b0] | (simp only [i64_w, i32_w]; rw [c33b0]) | skip)
                      have H' := Aside0.mk H
                      clear H
                      go_wp2
                      go_meet
                      case rel => exact ⟨_, (rd l2 0), (by first | rfl | (simp; done) | (simp [*]; done)), H', ⟨by have := HJ3.out; have := HJ22.out; first | omega | exact Nat.le_refl _⟩, ⟨by repeat (first | (with_reducible first | exact HB.out | apply below_alloc | apply pw_below_drewN | apply below_drew1) | exact HB.out)⟩⟩
                  case rest =>
                    clear HC32
                    try clear c1
                    try clear c2
                    try clear p2
                    try clear c3
                    try clear c5
                    try clear c5b0
                    try clear c5b1
                    try clear p5
                    try clear q5
                    try clear hx5
                    try clear qi5
                    try clear c6
                    try clear c6b0
                    try clear p6
                    try clear c7
                    try clear c7b0
                    try clear c8
                    try clear c8b0
                    try clear c8b1
                    try clear c9
                    try clear c9b0
                    try clear c10
                    try clear c10b0
                    try clear c11
                    try clear c11b0
                    try clear c11b1
                    try clear c12
                    try clear c12b0
                    try clear c13
                    try clear c13b0
                    try clear c14
                    try clear c14b0
                    try clear c14b1
                    try clear c15
                    try clear c15b0
                    try clear c16
                    try clear c16b0
                    try clear c17
                    try clear c22
                    try clear c22b0
                    try clear c22b1
                    try clear c28
                    try clear c28b0
                    try clear c28b1
                    try clear c29
                    try clear c29b0
                    try clear c29b1
                    try clear c30
                    try clear c31
                    try clear c31b0
                    try clear c31b1
                    try clear c33
                    try clear c33b0
                    try clear c33b1
                    try clear c34
                    try clear c34b0
                    try clear c34b1
                    try clear hx502_0
                    try clear hx503_0
                    try clear p2
                    try clear p502
                    try clear p503
                    try clear p6
                    try clear q502
                    try clear q503
                    obtain ⟨kq, x11_31, rfl, HA, HJ31, HB⟩ := hcut
                    cases kq with
                    | zero => exact absurd HA.out (by simp [basculelaw22_ValueSigns.j2])
                    | succ kj31 =>
                      have H := HA.out
                      clear HA
                      simp only [basculelaw22_ValueSigns.j2] at H
                      by_cases c35 : x11_31 < 32768
                      · rw [if_pos c35] at H
                        have c35b0 : decide (x11_31 < 32768) = true := decide_eq_true c35
                        clear c35
                        replace H := Option.bind_eq_some_iff.mp H
                        obtain ⟨t504, A360, H⟩ := H
                        replace H : (if t504 = true then (if t500 = 0 then (some (t489.toList == t499.toList)) else (some false)) else (some false)) = some r := H
                        have A36 := Aside0.mk A360
                        clear A360
                        by_cases c37 : t504 = true
                        · subst c37
                          have H1 : (if t500 = 0 then (some (t489.toList == t499.toList)) else (some false)) = some r := by rw [if_pos rfl] at H; exact H
                          clear H
                          have H := H1
                          clear H1
                          by_cases c38 : t500 = 0
                          · rw [if_pos c38] at H
                            have c38b0 : (t500 == 0) = true := beq_iff_eq.mpr c38
                            have c38b1 : (t500 != 0) = false := bne_eq_false_iff_eq.mpr c38
                            clear c38
                            obtain rfl := Option.some.inj H
                            go_wp2_with (first | ((with_reducible refine gate_callee (f := 16) rfl ?_); refine goesL_ (some 86) rfl rfl Tryz.func16 (by kernel_rfl) rfl #[] rfl (by (try simp only [List.map_toArray, List.map_cons, List.map_nil]); first | done | rfl | (simp only [List.length_drop, List.length_take]; rfl)) ?_; (with_reducible refine (basculelaw22_awake.calls kj31  true _ (Go.Proofs.YtmkekhjbbapngaaGreatDoor.Val.Laid.below hLd_ (by repeat (first | (with_reducible first | exact HB.out | apply below_alloc | apply pw_below_drewN | apply below_drew1) | exact HB.out))) A36.out).mono ?_); rintro e w39 ⟨rfl, hb⟩; refine ⟨_, rfl, ?_⟩; have n0_ := Aside0.mk (below_step (by repeat (first | (with_reducible first | exact HB.out | apply below_alloc | apply pw_below_drewN | apply below_drew1) | exact HB.out)) hb); clear HB; have HB := n0_; clear n0_; (try clear hb); (try clear hb2); (try clear hk); (try clear hi)))
                            go_ret
                            exact ⟨by first | rfl | (simp [errW_none, errW_some] <;> rfl) | (simp [*, errW_none, errW_some] <;> rfl), by repeat (first | (with_reducible first | exact HB.out | apply below_alloc | apply pw_below_drewN | apply below_drew1) | exact HB.out)⟩
                          · rw [if_neg c38] at H
                            have c38b0 : (t500 == 0) = false := beq_eq_false_iff_ne.mpr c38
                            have c38b1 : (t500 != 0) = true := bne_iff_ne.mpr c38
                            obtain rfl := Option.some.inj H
                            go_wp2_with (first | ((with_reducible refine gate_callee (f := 16) rfl ?_); refine goesL_ (some 86) rfl rfl Tryz.func16 (by kernel_rfl) rfl #[] rfl (by (try simp only [List.map_toArray, List.map_cons, List.map_nil]); first | done | rfl | (simp only [List.length_drop, List.length_take]; rfl)) ?_; (with_reducible refine (basculelaw22_awake.calls kj31  true _ (Go.Proofs.YtmkekhjbbapngaaGreatDoor.Val.Laid.below hLd_ (by repeat (first | (with_reducible first | exact HB.out | apply below_alloc | apply pw_below_drewN | apply below_drew1) | exact HB.out))) A36.out).mono ?_); rintro e w40 ⟨rfl, hb⟩; refine ⟨_, rfl, ?_⟩; have n0_ := Aside0.mk (below_step (by repeat (first | (with_reducible first | exact HB.out | apply below_alloc | apply pw_below_drewN | apply below_drew1) | exact HB.out)) hb); clear HB; have HB := n0_; clear n0_; (try clear hb); (try clear hb2); (try clear hk); (try clear hi)))
                            go_ret
                            exact ⟨by first | rfl | (simp [errW_none, errW_some] <;> rfl) | (simp [*, errW_none, errW_some] <;> rfl), by repeat (first | (with_reducible first | exact HB.out | apply below_alloc | apply pw_below_drewN | apply below_drew1) | exact HB.out)⟩
                        · replace c37 := Bool.eq_false_iff.mpr c37
                          subst c37
                          have H1 : (some false) = some r := by rw [if_neg (show ¬ (false = true) by decide)] at H; exact H
                          clear H
                          have H := H1
                          clear H1
                          obtain rfl := Option.some.inj H
                          go_wp2_with (first | ((with_reducible refine gate_callee (f := 16) rfl ?_); refine goesL_ (some 86) rfl rfl Tryz.func16 (by kernel_rfl) rfl #[] rfl (by (try simp only [List.map_toArray, List.map_cons, List.map_nil]); first | done | rfl | (simp only [List.length_drop, List.length_take]; rfl)) ?_; (with_reducible refine (basculelaw22_awake.calls kj31  false _ (Go.Proofs.YtmkekhjbbapngaaGreatDoor.Val.Laid.below hLd_ (by repeat (first | (with_reducible first | exact HB.out | apply below_alloc | apply pw_below_drewN | apply below_drew1) | exact HB.out))) A36.out).mono ?_); rintro e w41 ⟨rfl, hb⟩; refine ⟨_, rfl, ?_⟩; have n0_ := Aside0.mk (below_step (by repeat (first | (with_reducible first | exact HB.out | apply below_alloc | apply pw_below_drewN | apply below_drew1) | exact HB.out)) hb); clear HB; have HB := n0_; clear n0_; (try clear hb); (try clear hb2); (try clear hk); (try clear hi)))
                          go_ret
                          exact ⟨by first | rfl | (simp [errW_none, errW_some] <;> rfl) | (simp [*, errW_none, errW_some] <;> rfl), by repeat (first | (with_reducible first | exact HB.out | apply below_alloc | apply pw_below_drewN | apply below_drew1) | exact HB.out)⟩
                      · rw [if_neg c35] at H
                        have c35b0 : decide (x11_31 < 32768) = false := decide_eq_false c35
                        clear c35
                        replace H := Option.bind_eq_some_iff.mp H
                        obtain ⟨t505, A420, H⟩ := H
                        replace H : (if t505 = true then (if t500 = 0 then (if 0 < (t499.size : Int) then (if (bt t499 0) = 45 then (if 0 < (t489.size : Int) then (some ((bt t489 0) != 45)) else (none)) else (some false)) else (none)) else (some false)) else (some false)) = some r := H
                        have A42 := Aside0.mk A420
                        clear A420
                        by_cases c43 : t505 = true
                        · subst c43
                          have H1 : (if t500 = 0 then (if 0 < (t499.size : Int) then (if (bt t499 0) = 45 then (if 0 < (t489.size : Int) then (some ((bt t489 0) != 45)) else (none)) else (some false)) else (none)) else (some false)) = some r := by rw [if_pos rfl] at H; exact H
                          clear H
                          have H := H1
                          clear H1
                          by_cases c44 : t500 = 0
                          · rw [if_pos c44] at H
                            have c44b0 : (t500 == 0) = true := beq_iff_eq.mpr c44
                            have c44b1 : (t500 != 0) = false := bne_eq_false_iff_eq.mpr c44
                            clear c44
                            by_cases c45 : 0 < (t499.size : Int)
                            · rw [if_pos c45] at H
                              have c45b0 : decide (0 < (t499.size : Int)) = true := decide_eq_true c45
                              have c45b1 : decide (0 < t499.size) = true := decide_eq_true (by omega)
                              have c45b7 : (0 < t499.size) := of_decide_eq_true c45b1
                              clear c45
                              by_cases c47 : (bt t499 0) = 45
                              · rw [if_pos c47] at H
                                have c47b0 : ((bt t499 0) == 45) = true := beq_iff_eq.mpr c47
                                have c47b1 : ((bt t499 0) != 45) = false := bne_eq_false_iff_eq.mpr c47
                                clear c47
                                by_cases c48 : 0 < (t489.size : Int)
                                · rw [if_pos c48] at H
                                  have c48b0 : decide (0 < (t489.size : Int)) = true := decide_eq_true c48
                                  have c48b1 : decide (0 < t489.size) = true := decide_eq_true (by omega)
                                  have c48b7 : (0 < t489.size) := of_decide_eq_true c48b1
                                  clear c48
                                  obtain rfl := Option.some.inj H
                                  go_wp2_with (first | ((with_reducible refine gate_callee (f := 16) rfl ?_); refine goesL_ (some 96) rfl rfl Tryz.func16 (by kernel_rfl) rfl #[] rfl (by (try simp only [List.map_toArray, List.map_cons, List.map_nil]); first | done | rfl | (simp only [List.length_drop, List.length_take]; rfl)) ?_; (with_reducible refine (basculelaw22_awake.calls kj31  true _ (Go.Proofs.YtmkekhjbbapngaaGreatDoor.Val.Laid.below hLd_ (by repeat (first | (with_reducible first | exact HB.out | apply below_alloc | apply pw_below_drewN | apply below_drew1) | exact HB.out))) A42.out).mono ?_); rintro e w50 ⟨rfl, hb⟩; refine ⟨_, rfl, ?_⟩; have n0_ := Aside0.mk (below_step (by repeat (first | (with_reducible first | exact HB.out | apply below_alloc | apply pw_below_drewN | apply below_drew1) | exact HB.out)) hb); clear HB; have HB := n0_; clear n0_; (try clear hb); (try clear hb2); (try clear hk); (try clear hi); have p46 : 0 ≤ (0 : Int) := (by omega); have q46 : 0 < t499.size := (by have : (0 : Int) < (t499.size : Int) := of_decide_eq_true (by first | (with_reducible assumption) | assumption); omega); have hx46 : ∀ h : 0 < t499.size, ((t499[0]'h).toNat : Int) = bt t499 0 := bt_at t499 0; clear p46; have qi46 : (0 < (t499.size : Int)) = True := eq_true (of_decide_eq_true (by first | (with_reducible assumption) | assumption)); replace q46 := eq_true q46; have p49 : 0 ≤ (0 : Int) := (by omega); have q49 : 0 < t489.size := (by have : (0 : Int) < (t489.size : Int) := of_decide_eq_true (by first | (with_reducible assumption) | assumption); omega); have hx49 : ∀ h : 0 < t489.size, ((t489[0]'h).toNat : Int) = bt t489 0 := bt_at t489 0; clear p49; have qi49 : (0 < (t489.size : Int)) = True := eq_true (of_decide_eq_true (by first | (with_reducible assumption) | assumption)); replace q49 := eq_true q49))
                                  go_ret
                                  exact ⟨by first | rfl | (simp [errW_none, errW_some] <;> rfl) | (simp [*, errW_none, errW_some] <;> rfl), by repeat (first | (with_reducible first | exact HB.out | apply below_alloc | apply pw_below_drewN | apply below_drew1) | exact HB.out)⟩
                                · rw [if_neg c48] at H
                                  exact absurd H (by simp)
                              · rw [if_neg c47] at H
                                have c47b0 : ((bt t499 0) == 45) = false := beq_eq_false_iff_ne.mpr c47
                                have c47b1 : ((bt t499 0) != 45) = true := bne_iff_ne.mpr c47
                                obtain rfl := Option.some.inj H
                                go_wp2_with (first | ((with_reducible refine gate_callee (f := 16) rfl ?_); refine goesL_ (some 96) rfl rfl Tryz.func16 (by kernel_rfl) rfl #[] rfl (by (try simp only [List.map_toArray, List.map_cons, List.map_nil]); first | done | rfl | (simp only [List.length_drop, List.length_take]; rfl)) ?_; (with_reducible refine (basculelaw22_awake.calls kj31  true _ (Go.Proofs.YtmkekhjbbapngaaGreatDoor.Val.Laid.below hLd_ (by repeat (first | (with_reducible first | exact HB.out | apply below_alloc | apply pw_below_drewN | apply below_drew1) | exact HB.out))) A42.out).mono ?_); rintro e w51 ⟨rfl, hb⟩; refine ⟨_, rfl, ?_⟩; have n0_ := Aside0.mk (below_step (by repeat (first | (with_reducible first | exact HB.out | apply below_alloc | apply pw_below_drewN | apply below_drew1) | exact HB.out)) hb); clear HB; have HB := n0_; clear n0_; (try clear hb); (try clear hb2); (try clear hk); (try clear hi); have p46 : 0 ≤ (0 : Int) := (by omega); have q46 : 0 < t499.size := (by have : (0 : Int) < (t499.size : Int) := of_decide_eq_true (by first | (with_reducible assumption) | assumption); omega); have hx46 : ∀ h : 0 < t499.size, ((t499[0]'h).toNat : Int) = bt t499 0 := bt_at t499 0; clear p46; have qi46 : (0 < (t499.size : Int)) = True := eq_true (of_decide_eq_true (by first | (with_reducible assumption) | assumption)); replace q46 := eq_true q46))
                                go_ret
                                exact ⟨by first | rfl | (simp [errW_none, errW_some] <;> rfl) | (simp [*, errW_none, errW_some] <;> rfl), by repeat (first | (with_reducible first | exact HB.out | apply below_alloc | apply pw_below_drewN | apply below_drew1) | exact HB.out)⟩
                            · rw [if_neg c45] at H
                              exact absurd H (by simp)
                          · rw [if_neg c44] at H
                            have c44b0 : (t500 == 0) = false := beq_eq_false_iff_ne.mpr c44
                            have c44b1 : (t500 != 0) = true := bne_iff_ne.mpr c44
                            obtain rfl := Option.some.inj H
                            go_wp2_with (first | ((with_reducible refine gate_callee (f := 16) rfl ?_); refine goesL_ (some 96) rfl rfl Tryz.func16 (by kernel_rfl) rfl #[] rfl (by (try simp only [List.map_toArray, List.map_cons, List.map_nil]); first | done | rfl | (simp only [List.length_drop, List.length_take]; rfl)) ?_; (with_reducible refine (basculelaw22_awake.calls kj31  true _ (Go.Proofs.YtmkekhjbbapngaaGreatDoor.Val.Laid.below hLd_ (by repeat (first | (with_reducible first | exact HB.out | apply below_alloc | apply pw_below_drewN | apply below_drew1) | exact HB.out))) A42.out).mono ?_); rintro e w52 ⟨rfl, hb⟩; refine ⟨_, rfl, ?_⟩; have n0_ := Aside0.mk (below_step (by repeat (first | (with_reducible first | exact HB.out | apply below_alloc | apply pw_below_drewN | apply below_drew1) | exact HB.out)) hb); clear HB; have HB := n0_; clear n0_; (try clear hb); (try clear hb2); (try clear hk); (try clear hi)))
                            go_ret
                            exact ⟨by first | rfl | (simp [errW_none, errW_some] <;> rfl) | (simp [*, errW_none, errW_some] <;> rfl), by repeat (first | (with_reducible first | exact HB.out | apply below_alloc | apply pw_below_drewN | apply below_drew1) | exact HB.out)⟩
                        · replace c43 := Bool.eq_false_iff.mpr c43
                          subst c43
                          have H1 : (some false) = some r := by rw [if_neg (show ¬ (false = true) by decide)] at H; exact H
                          clear H
                          have H := H1
                          clear H1
                          obtain rfl := Option.some.inj H
                          go_wp2_with (first | ((with_reducible refine gate_callee (f := 16) rfl ?_); refine goesL_ (some 96) rfl rfl Tryz.func16 (by kernel_rfl) rfl #[] rfl (by (try simp only [List.map_toArray, List.map_cons, List.map_nil]); first | done | rfl | (simp only [List.length_drop, List.length_take]; rfl)) ?_; (with_reducible refine (basculelaw22_awake.calls kj31  false _ (Go.Proofs.YtmkekhjbbapngaaGreatDoor.Val.Laid.below hLd_ (by repeat (first | (with_reducible first | exact HB.out | apply below_alloc | apply pw_below_drewN | apply below_drew1) | exact HB.out))) A42.out).mono ?_); rintro e w53 ⟨rfl, hb⟩; refine ⟨_, rfl, ?_⟩; have n0_ := Aside0.mk (below_step (by repeat (first | (with_reducible first | exact HB.out | apply below_alloc | apply pw_below_drewN | apply below_drew1) | exact HB.out)) hb); clear HB; have HB := n0_; clear n0_; (try clear hb); (try clear hb2); (try clear hk); (try clear hi)))
                          go_ret
                          exact ⟨by first | rfl | (simp [errW_none, errW_some] <;> rfl) | (simp [*, errW_none, errW_some] <;> rfl), by repeat (first | (with_reducible first | exact HB.out | apply below_alloc | apply pw_below_drewN | apply below_drew1) | exact HB.out)⟩
                · rw [if_neg c31] at H
                  exact absurd H (by simp)
        · rw [if_neg c22] at H
          have c22b0 : (t490 == 0) = false := beq_eq_false_iff_ne.mpr c22
          have c22b1 : (t490 != 0) = true := bne_iff_ne.mpr c22
          replace H := Option.bind_eq_some_iff.mp H
          obtain ⟨t501, A540, H⟩ := H
          replace H : (if t501 = true then (some (t500 == t490)) else (some false)) = some r := H
          have A54 := Aside0.mk A540
          clear A540
          by_cases c55 : t501 = true
          · subst c55
            have H1 : (some (t500 == t490)) = some r := by rw [if_pos rfl] at H; exact H
            clear H
            have H := H1
            clear H1
            obtain rfl := Option.some.inj H
            go_wp2_with (first | ((with_reducible refine gate_callee (f := 22) rfl ?_); refine goesL_ (some 42) rfl rfl Tryz.func22 (by kernel_rfl) rfl #[.int .i64 a0, .int .i64 a1, .int .i64 0] rfl (by (try simp only [List.map_toArray, List.map_cons, List.map_nil]); first | done | rfl | (simp only [List.length_drop, List.length_take]; rfl)) ?_; (with_reducible refine (basculelaw22_row.calls a0 a1 0 t481 t482 t483 t484 t485 t486 t487 t488 _ A18.out).mono ?_); rintro e w56 ⟨rfl, hb⟩; refine ⟨_, rfl, ?_⟩; have n0_ := Aside0.mk (below_step (by repeat (first | (with_reducible first | exact HB.out | apply below_alloc | apply pw_below_drewN | apply below_drew1) | exact HB.out)) hb); clear HB; have HB := n0_; clear n0_; (try clear hb); (try clear hb2); (try clear hk); (try clear hi)) | ((with_reducible refine gate_callee (f := 12) rfl ?_); refine goesL_ (some 44) rfl rfl Tryz.func12 (by kernel_rfl) rfl #[.agg #[.string t481, .int .i64 t482, .int .i64 t483, .int .i64 t484, .int .i64 t485, .int .i64 t486, .int .i64 t487, .bool t488], .slice A2 l2.length c2] rfl (by (try simp only [List.map_toArray, List.map_cons, List.map_nil]); first | done | rfl | (simp only [List.length_drop, List.length_take]; rfl)) ?_; (with_reducible refine (value_Text.calls t481 t482 t483 t484 t485 t486 t487 t488 _ _ l2 t489 t490 _ ?side1 ?side2 (Go.Proofs.YtmkekhjbbapngaaGreatDoor.Val.Laid.below hLd_ (by repeat (first | (with_reducible first | exact HB.out | apply below_alloc | apply pw_below_drewN | apply below_drew1) | exact HB.out))) A19.out).mono ?_); (case side1 => repeat (first | exact (Kd.C_below HR2.out HB.out) | (with_reducible refine Kd.C_alloc ?_ _) | (with_reducible refine Kd.C_drewN ?_ _) | (with_reducible refine Kd.C_drew ?_))); (case side2 => exact HC2.out); rintro e w57 ⟨rfl, hb⟩; refine ⟨_, rfl, ?_⟩; have n0_ := Aside0.mk (below_step (by repeat (first | (with_reducible first | exact HB.out | apply below_alloc | apply pw_below_drewN | apply below_drew1) | exact HB.out)) hb); clear HB; have HB := n0_; clear n0_; (try clear hb); (try clear hb2); (try clear hk); (try clear hi)) | ((with_reducible refine gate_callee (f := 22) rfl ?_); refine goesL_ (some 51) rfl rfl Tryz.func22 (by kernel_rfl) rfl #[.int .i64 (wrap64 (a0 + 1)), .int .i64 a1, .int .i64 0] rfl (by (try simp only [List.map_toArray, List.map_cons, List.map_nil]); first | done | rfl | (simp only [List.length_drop, List.length_take]; rfl)) ?_; (with_reducible refine (basculelaw22_row.calls (wrap64 (a0 + 1)) a1 0 t491 t492 t493 t494 t495 t496 t497 t498 _ A20.out).mono ?_); rintro e w58 ⟨rfl, hb⟩; refine ⟨_, rfl, ?_⟩; have n0_ := Aside0.mk (below_step (by repeat (first | (with_reducible first | exact HB.out | apply below_alloc | apply pw_below_drewN | apply below_drew1) | exact HB.out)) hb); clear HB; have HB := n0_; clear n0_; (try clear hb); (try clear hb2); (try clear hk); (try clear hi)) | ((with_reducible refine gate_callee (f := 12) rfl ?_); refine goesL_ (some 53) rfl rfl Tryz.func12 (by kernel_rfl) rfl #[.agg #[.string t491, .int .i64 t492, .int .i64 t493, .int .i64 t494, .int .i64 t495, .int .i64 t496, .int .i64 t497, .bool t498], .slice A2 l2.length c2] rfl (by (try simp only [List.map_toArray, List.map_cons, List.map_nil]); first | done | rfl | (simp only [List.length_drop, List.length_take]; rfl)) ?_; (with_reducible refine (value_Text.calls t491 t492 t493 t494 t495 t496 t497 t498 _ _ l2 t499 t500 _ ?side1 ?side2 (Go.Proofs.YtmkekhjbbapngaaGreatDoor.Val.Laid.below hLd_ (by repeat (first | (with_reducible first | exact HB.out | apply below_alloc | apply pw_below_drewN | apply below_drew1) | exact HB.out))) A21.out).mono ?_); (case side1 => repeat (first | exact (Kd.C_below HR2.out HB.out) | (with_reducible refine Kd.C_alloc ?_ _) | (with_reducible refine Kd.C_drewN ?_ _) | (with_reducible refine Kd.C_drew ?_))); (case side2 => exact HC2.out); rintro e w59 ⟨rfl, hb⟩; refine ⟨_, rfl, ?_⟩; have n0_ := Aside0.mk (below_step (by repeat (first | (with_reducible first | exact HB.out | apply below_alloc | apply pw_below_drewN | apply below_drew1) | exact HB.out)) hb); clear HB; have HB := n0_; clear n0_; (try clear hb); (try clear hb2); (try clear hk); (try clear hi)) | ((with_reducible refine gate_callee (f := 16) rfl ?_); refine goesL_ (some 58) rfl rfl Tryz.func16 (by kernel_rfl) rfl #[] rfl (by (try simp only [List.map_toArray, List.map_cons, List.map_nil]); first | done | rfl | (simp only [List.length_drop, List.length_take]; rfl)) ?_; (with_reducible refine (basculelaw22_awake.calls kj3  true _ (Go.Proofs.YtmkekhjbbapngaaGreatDoor.Val.Laid.below hLd_ (by repeat (first | (with_reducible first | exact HB.out | apply below_alloc | apply pw_below_drewN | apply below_drew1) | exact HB.out))) A54.out).mono ?_); rintro e w60 ⟨rfl, hb⟩; refine ⟨_, rfl, ?_⟩; have n0_ := Aside0.mk (below_step (by repeat (first | (with_reducible first | exact HB.out | apply below_alloc | apply pw_below_drewN | apply below_drew1) | exact HB.out)) hb); clear HB; have HB := n0_; clear n0_; (try clear hb); (try clear hb2); (try clear hk); (try clear hi)))
            go_ret
            exact ⟨by first | rfl | (simp [errW_none, errW_some] <;> rfl) | (simp [*, errW_none, errW_some] <;> rfl), by repeat (first | (with_reducible first | exact HB.out | apply below_alloc | apply pw_below_drewN | apply below_drew1) | exact HB.out)⟩
          · replace c55 := Bool.eq_false_iff.mpr c55
            subst c55
            have H1 : (some false) = some r := by rw [if_neg (show ¬ (false = true) by decide)] at H; exact H
            clear H
            have H := H1
            clear H1
            obtain rfl := Option.some.inj H
            go_wp2_with (first | ((with_reducible refine gate_callee (f := 22) rfl ?_); refine goesL_ (some 42) rfl rfl Tryz.func22 (by kernel_rfl) rfl #[.int .i64 a0, .int .i64 a1, .int .i64 0] rfl (by (try simp only [List.map_toArray, List.map_cons, List.map_nil]); first | done | rfl | (simp only [List.length_drop, List.length_take]; rfl)) ?_; (with_reducible refine (basculelaw22_row.calls a0 a1 0 t481 t482 t483 t484 t485 t486 t487 t488 _ A18.out).mono ?_); rintro e w61 ⟨rfl, hb⟩; refine ⟨_, rfl, ?_⟩; have n0_ := Aside0.mk (below_step (by repeat (first | (with_reducible first | exact HB.out | apply below_alloc | apply pw_below_drewN | apply below_drew1) | exact HB.out)) hb); clear HB; have HB := n0_; clear n0_; (try clear hb); (try clear hb2); (try clear hk); (try clear hi)) | ((with_reducible refine gate_callee (f := 12) rfl ?_); refine goesL_ (some 44) rfl rfl Tryz.func12 (by kernel_rfl) rfl #[.agg #[.string t481, .int .i64 t482, .int .i64 t483, .int .i64 t484, .int .i64 t485, .int .i64 t486, .int .i64 t487, .bool t488], .slice A2 l2.length c2] rfl (by (try simp only [List.map_toArray, List.map_cons, List.map_nil]); first | done | rfl | (simp only [List.length_drop, List.length_take]; rfl)) ?_; (with_reducible refine (value_Text.calls t481 t482 t483 t484 t485 t486 t487 t488 _ _ l2 t489 t490 _ ?side1 ?side2 (Go.Proofs.YtmkekhjbbapngaaGreatDoor.Val.Laid.below hLd_ (by repeat (first | (with_reducible first | exact HB.out | apply below_alloc | apply pw_below_drewN | apply below_drew1) | exact HB.out))) A19.out).mono ?_); (case side1 => repeat (first | exact (Kd.C_below HR2.out HB.out) | (with_reducible refine Kd.C_alloc ?_ _) | (with_reducible refine Kd.C_drewN ?_ _) | (with_reducible refine Kd.C_drew ?_))); (case side2 => exact HC2.out); rintro e w62 ⟨rfl, hb⟩; refine ⟨_, rfl, ?_⟩; have n0_ := Aside0.mk (below_step (by repeat (first | (with_reducible first | exact HB.out | apply below_alloc | apply pw_below_drewN | apply below_drew1) | exact HB.out)) hb); clear HB; have HB := n0_; clear n0_; (try clear hb); (try clear hb2); (try clear hk); (try clear hi)) | ((with_reducible refine gate_callee (f := 22) rfl ?_); refine goesL_ (some 51) rfl rfl Tryz.func22 (by kernel_rfl) rfl #[.int .i64 (wrap64 (a0 + 1)), .int .i64 a1, .int .i64 0] rfl (by (try simp only [List.map_toArray, List.map_cons, List.map_nil]); first | done | rfl | (simp only [List.length_drop, List.length_take]; rfl)) ?_; (with_reducible refine (basculelaw22_row.calls (wrap64 (a0 + 1)) a1 0 t491 t492 t493 t494 t495 t496 t497 t498 _ A20.out).mono ?_); rintro e w63 ⟨rfl, hb⟩; refine ⟨_, rfl, ?_⟩; have n0_ := Aside0.mk (below_step (by repeat (first | (with_reducible first | exact HB.out | apply below_alloc | apply pw_below_drewN | apply below_drew1) | exact HB.out)) hb); clear HB; have HB := n0_; clear n0_; (try clear hb); (try clear hb2); (try clear hk); (try clear hi)) | ((with_reducible refine gate_callee (f := 12) rfl ?_); refine goesL_ (some 53) rfl rfl Tryz.func12 (by kernel_rfl) rfl #[.agg #[.string t491, .int .i64 t492, .int .i64 t493, .int .i64 t494, .int .i64 t495, .int .i64 t496, .int .i64 t497, .bool t498], .slice A2 l2.length c2] rfl (by (try simp only [List.map_toArray, List.map_cons, List.map_nil]); first | done | rfl | (simp only [List.length_drop, List.length_take]; rfl)) ?_; (with_reducible refine (value_Text.calls t491 t492 t493 t494 t495 t496 t497 t498 _ _ l2 t499 t500 _ ?side1 ?side2 (Go.Proofs.YtmkekhjbbapngaaGreatDoor.Val.Laid.below hLd_ (by repeat (first | (with_reducible first | exact HB.out | apply below_alloc | apply pw_below_drewN | apply below_drew1) | exact HB.out))) A21.out).mono ?_); (case side1 => repeat (first | exact (Kd.C_below HR2.out HB.out) | (with_reducible refine Kd.C_alloc ?_ _) | (with_reducible refine Kd.C_drewN ?_ _) | (with_reducible refine Kd.C_drew ?_))); (case side2 => exact HC2.out); rintro e w64 ⟨rfl, hb⟩; refine ⟨_, rfl, ?_⟩; have n0_ := Aside0.mk (below_step (by repeat (first | (with_reducible first | exact HB.out | apply below_alloc | apply pw_below_drewN | apply below_drew1) | exact HB.out)) hb); clear HB; have HB := n0_; clear n0_; (try clear hb); (try clear hb2); (try clear hk); (try clear hi)) | ((with_reducible refine gate_callee (f := 16) rfl ?_); refine goesL_ (some 58) rfl rfl Tryz.func16 (by kernel_rfl) rfl #[] rfl (by (try simp only [List.map_toArray, List.map_cons, List.map_nil]); first | done | rfl | (simp only [List.length_drop, List.length_take]; rfl)) ?_; (with_reducible refine (basculelaw22_awake.calls kj3  false _ (Go.Proofs.YtmkekhjbbapngaaGreatDoor.Val.Laid.below hLd_ (by repeat (first | (with_reducible first | exact HB.out | apply below_alloc | apply pw_below_drewN | apply below_drew1) | exact HB.out))) A54.out).mono ?_); rintro e w65 ⟨rfl, hb⟩; refine ⟨_, rfl, ?_⟩; have n0_ := Aside0.mk (below_step (by repeat (first | (with_reducible first | exact HB.out | apply below_alloc | apply pw_below_drewN | apply below_drew1) | exact HB.out)) hb); clear HB; have HB := n0_; clear n0_; (try clear hb); (try clear hb2); (try clear hk); (try clear hi)))
            go_ret
            exact ⟨by first | rfl | (simp [errW_none, errW_some] <;> rfl) | (simp [*, errW_none, errW_some] <;> rfl), by repeat (first | (with_reducible first | exact HB.out | apply below_alloc | apply pw_below_drewN | apply below_drew1) | exact HB.out)⟩
def basculelaw22_ValueSigns.Pure : Prop := ∀ (a0 : Int) (a1 : Int) (l2 : List Int), (Lit.int .i64 a0).wf = true → (Lit.int .i64 a1).wf = true → l2.length ≤ maxLen → l2.length * 8 ≤ 140737488351232 → (∀ x ∈ l2, (Lit.int .i64 x).wf = true) → ∃ k, basculelaw22_ValueSigns.f k a0 a1 l2 = some true
theorem basculelaw22_ValueSigns.walk (P : basculelaw22_ValueSigns.Pure) (a0 : Int) (a1 : Int) (a2 : Option Addr) (len2 cap2 : Nat) (z2 : List Int) (w : World) (hLd_ : Go.Proofs.YtmkekhjbbapngaaGreatDoor.Val.Laid w) (w0 : (Lit.int .i64 a0).wf = true) (w1 : (Lit.int .i64 a1).wf = true) (w2 : (a2 = none ∧ len2 = 0 ∧ cap2 = 0 ∧ z2 = []) ∨ ∃ x, a2 = some x ∧ len2 ≤ cap2 ∧ cap2 ≤ maxLen ∧ z2.length = cap2 ∧ (∀ i, i < z2.length → w.cell? (x.add i) = some (.int .i64 (z2.getD i 0))) ∧ ∀ n ∈ z2, (Lit.int .i64 n).wf = true) (y2 : len2 * 8 ≤ 140737488351232) :
    Calls Tryz.prog 9 #[.int .i64 a0, .int .i64 a1, .slice a2 len2 cap2] w fun e w' => e = .returned (.bool true) ∧ Below w.heap.size w w' := by
  obtain ⟨l2, rfl, hr2, hm2, hw2, hc2⟩ := ReadsInt.ofRowC w2
  obtain ⟨k, h⟩ := P a0 a1 l2 w0 w1 hm2 y2 hw2
  refine (basculelaw22_ValueSigns.calls k a0 a1 _ _ l2 true w (Kd.C_of_reads (d := (0 : Int)) (h1 := fun _ => rfl) hr2) hc2 hLd_ h).mono ?_
  rintro e w' ⟨rfl, hd⟩
  exact ⟨rfl, hd⟩
-- NOT PRINTED: function 10 (basculelaw22_ValueTurned)
end Go.Proofs.YtmkekhjbbapngaaGreatDoor.Q
