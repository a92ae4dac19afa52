-- Printed by a program of this session's own (wip/print/oprint.py), over hand-made contracts: not trusted, Lean checks it.
import Derived.Test.YtlfigadjbnikiaaDoorQx0
import Derived.Test.YtlfigadjbnikiaaDoorQx1
import Derived.Test.YtlfigadjbnikiaaDoorQx2
namespace Go.Proofs.YtlfigadjbnikiaaDoor.Q
open Go.RowKit Go.Proofs.YtlfigadjbnikiaaDoorW.PrintWords Go.Proofs.YtlfigadjbnikiaaDoorW.PrintLast Go.Proofs.YtlfigadjbnikiaaDoorW.PrintMore
attribute [local go_sem] max2_int min2_int max_two min_two max_three min_three max_four min_four   -- for this text's walks alone
set_option linter.unusedVariables false
set_option linter.unusedSimpArgs false

/-! ### basculeref12_Filter: function 13 -/
mutual
def basculeref12_Filter.j0 : Nat → ByteArray → Bool → Option (Bool)
  | 0, _, _ => none
  | k + 1, x0, x11 => if x11 = true then (some false) else ((basculeref12_Levels.f k x0).bind fun t134 => (basculeref12_Filter.l0 k t134 0))
def basculeref12_Filter.l0 : Nat → List ByteArray → Int → Option (Bool)
  | 0, _, _ => none
  | k + 1, x3, x4 => if x4 < (x3.length : Int) then (if 0 ≤ x4 then (if (rdOf ByteArray.empty x3 x4).toList = ([43] : List UInt8) then (basculeref12_Filter.j2 k x3 x4 true) else (if (rdOf ByteArray.empty x3 x4).toList = ([35] : List UInt8) then (basculeref12_Filter.j2 k x3 x4 (x4 == (wrap64 ((x3.length : Int) - 1)))) else (basculeref12_Filter.j2 k x3 x4 false))) else (none)) else (some true)
def basculeref12_Filter.j2 : Nat → List ByteArray → Int → Bool → Option (Bool)
  | 0, _, _, _ => none
  | k + 1, x3, x4, x38 => if x38 = true then (basculeref12_Filter.l0 k x3 (wrap64 (x4 + 1))) else (if 0 ≤ x4 then (if x4 < (x3.length : Int) then ((basculeref12_has.f k (rdOf ByteArray.empty x3 x4) 43).bind fun t140 => (if t140 = true then (some false) else ((basculeref12_has.f k (rdOf ByteArray.empty x3 x4) 35).bind fun t142 => (if t142 = true then (some false) else (basculeref12_Filter.l0 k x3 (wrap64 (x4 + 1))))))) else (none)) else (none))
end
def basculeref12_Filter.f (k : Nat) (a0 : ByteArray) : Option (Bool) := if a0.toList = ([] : List UInt8) then (basculeref12_Filter.j0 k a0 true) else ((basculeref09_Is.f k a0).bind fun t133 => (basculeref12_Filter.j0 k a0 (!t133)))
theorem basculeref12_Filter.mono_l : ∀ k, (∀ y0 y1, LeO (basculeref12_Filter.j0 k y0 y1) (basculeref12_Filter.j0 (k + 1) y0 y1)) ∧ (∀ y0 y1, LeO (basculeref12_Filter.l0 k y0 y1) (basculeref12_Filter.l0 (k + 1) y0 y1)) ∧ (∀ y0 y1 y2, LeO (basculeref12_Filter.j2 k y0 y1 y2) (basculeref12_Filter.j2 (k + 1) y0 y1 y2))
  | 0 => ⟨fun _ _ r h => by simp [basculeref12_Filter.j0] at h, fun _ _ r h => by simp [basculeref12_Filter.l0] at h, fun _ _ _ r h => by simp [basculeref12_Filter.j2] at h⟩
  | k + 1 => by
    obtain ⟨ih0, ih1, ih2⟩ := basculeref12_Filter.mono_l k
    refine ⟨?_, ?_, ?_⟩
    · intro y0 y1
      unfold basculeref12_Filter.j0
      repeat' first
      | (with_reducible exact ih0 _ _)
      | (with_reducible exact ih1 _ _)
      | (with_reducible exact ih2 _ _ _)
      | (with_reducible exact basculeref09_Is.mono _ _)
      | (with_reducible exact basculeref12_Levels.mono _ _)
      | (with_reducible exact basculeref12_has.mono _ _ _)
      | (with_reducible exact LeO.refl _)
      | (with_reducible exact LeO.none _)
      | (with_reducible refine LeO.ite ?_ ?_)
      | (with_reducible refine LeO.bind ?_ (fun _ => ?_))
      | exact ih0 _ _
      | exact ih1 _ _
      | exact ih2 _ _ _
      | exact basculeref09_Is.mono _ _
      | exact basculeref12_Levels.mono _ _
      | exact basculeref12_has.mono _ _ _
      | exact LeO.none _
      | refine LeO.ite ?_ ?_
      | refine LeO.bind ?_ (fun _ => ?_)
    · intro y0 y1
      unfold basculeref12_Filter.l0
      repeat' first
      | (with_reducible exact ih0 _ _)
      | (with_reducible exact ih1 _ _)
      | (with_reducible exact ih2 _ _ _)
      | (with_reducible exact basculeref09_Is.mono _ _)
      | (with_reducible exact basculeref12_Levels.mono _ _)
      | (with_reducible exact basculeref12_has.mono _ _ _)
      | (with_reducible exact LeO.refl _)
      | (with_reducible exact LeO.none _)
      | (with_reducible refine LeO.ite ?_ ?_)
      | (with_reducible refine LeO.bind ?_ (fun _ => ?_))
      | exact ih0 _ _
      | exact ih1 _ _
      | exact ih2 _ _ _
      | exact basculeref09_Is.mono _ _
      | exact basculeref12_Levels.mono _ _
      | exact basculeref12_has.mono _ _ _
      | exact LeO.none _
      | refine LeO.ite ?_ ?_
      | refine LeO.bind ?_ (fun _ => ?_)
    · intro y0 y1 y2
      unfold basculeref12_Filter.j2
      repeat' first
      | (with_reducible exact ih0 _ _)
      | (with_reducible exact ih1 _ _)
      | (with_reducible exact ih2 _ _ _)
      | (with_reducible exact basculeref09_Is.mono _ _)
      | (with_reducible exact basculeref12_Levels.mono _ _)
      | (with_reducible exact basculeref12_has.mono _ _ _)
      | (with_reducible exact LeO.refl _)
      | (with_reducible exact LeO.none _)
      | (with_reducible refine LeO.ite ?_ ?_)
      | (with_reducible refine LeO.bind ?_ (fun _ => ?_))
      | exact ih0 _ _
      | exact ih1 _ _
      | exact ih2 _ _ _
      | exact basculeref09_Is.mono _ _
      | exact basculeref12_Levels.mono _ _
      | exact basculeref12_has.mono _ _ _
      | exact LeO.none _
      | refine LeO.ite ?_ ?_
      | refine LeO.bind ?_ (fun _ => ?_)
theorem basculeref12_Filter.mono : ∀ a0 k, LeO (basculeref12_Filter.f k a0) (basculeref12_Filter.f (k + 1) a0) := by
  intro a0 k
  obtain ⟨ih0, ih1, ih2⟩ := basculeref12_Filter.mono_l k
  unfold basculeref12_Filter.f
  repeat' first
      | (with_reducible exact ih0 _ _)
      | (with_reducible exact ih1 _ _)
      | (with_reducible exact ih2 _ _ _)
      | (with_reducible exact basculeref09_Is.mono _ _)
      | (with_reducible exact basculeref12_Levels.mono _ _)
      | (with_reducible exact basculeref12_has.mono _ _ _)
      | (with_reducible exact LeO.refl _)
      | (with_reducible exact LeO.none _)
      | (with_reducible refine LeO.ite ?_ ?_)
      | (with_reducible refine LeO.bind ?_ (fun _ => ?_))
      | exact ih0 _ _
      | exact ih1 _ _
      | exact ih2 _ _ _
      | exact basculeref09_Is.mono _ _
      | exact basculeref12_Levels.mono _ _
      | exact basculeref12_has.mono _ _ _
      | exact LeO.none _
      | refine LeO.ite ?_ ?_
      | refine LeO.bind ?_ (fun _ => ?_)
set_option maxHeartbeats 8000000 in
set_option maxRecDepth 100000 in
theorem basculeref12_Filter.calls (k : Nat) (a0 : ByteArray) (r : Bool) (w : World) (h : basculeref12_Filter.f k a0 = some r) :
    Calls Tryd.prog 13 #[.string a0] w fun e w' => e = .returned (.bool r) ∧ Below w.heap.size w w' := by
  have HB := Aside0.mk (Below.refl w.heap.size w)
  have H : (if a0.toList = ([] : List UInt8) then (basculeref12_Filter.j0 k a0 true) else ((basculeref09_Is.f k a0).bind fun t133 => (basculeref12_Filter.j0 k a0 (!t133)))) = some r := h
  clear h
  have HC2 := Aside0.mk H
  clear H
  go_enter Tryd.func13, Tryd.ntmps13
  go_upto_region 1 with (fail)
  go_cut [11] (fun v11 wc => ∃ (kq : Nat) (x11_1 : Bool), v11 = .bool x11_1 ∧ Aside0 (basculeref12_Filter.j0 kq a0 x11_1 = some r) ∧ Aside0 (kq ≤ k) ∧ Aside0 (Below w.heap.size w wc))
  case first =>
    have H := HC2.out
    clear HC2
    by_cases c3 : a0.toList = ([] : List UInt8)
    · rw [if_pos c3] at H
      have c3b0 : (a0.toList == ([] : List UInt8)) = true := beq_iff_eq.mpr c3
      have c3b1 : (a0.toList != ([] : List UInt8)) = false := bne_eq_false_iff_eq.mpr c3
      clear c3
      (first | rw [c3b0] | (simp only [i64_w, i32_w]; rw [c3b0]) | skip)
      have H' := Aside0.mk H
      clear H
      go_wp2
      go_meet
      case rel => exact ⟨_, (true), (by first | rfl | (simp; done) | (simp [*]; done)), H', ⟨by first | omega | exact Nat.le_refl _⟩, ⟨by repeat (first | (with_reducible first | exact HB.out | apply below_alloc | apply pw_below_drewN | apply below_drew1) | exact HB.out)⟩⟩
    · rw [if_neg c3] at H
      have c3b0 : (a0.toList == ([] : List UInt8)) = false := beq_eq_false_iff_ne.mpr c3
      have c3b1 : (a0.toList != ([] : List UInt8)) = true := bne_iff_ne.mpr c3
      (first | rw [c3b0] | (simp only [i64_w, i32_w]; rw [c3b0]) | skip)
      replace H := Option.bind_eq_some_iff.mp H
      obtain ⟨t133, A40, H⟩ := H
      replace H : (basculeref12_Filter.j0 k a0 (!t133)) = some r := H
      have A4 := Aside0.mk A40
      clear A40
      have H' := Aside0.mk H
      clear H
      go_wp2_with (first | (go_at_call 23; (with_reducible refine (basculeref09_Is.calls k a0 t133 _ A4.out).mono ?_); rintro e w5 ⟨rfl, hb⟩; have n0_ := Aside0.mk (below_step (by repeat (first | (with_reducible first | exact HB.out | apply below_alloc | apply pw_below_drewN | apply below_drew1) | exact HB.out)) hb); clear HB; have HB := n0_; clear n0_; (try clear hb); (try clear hb2); (try clear hk); (try clear hi)))
      go_meet
      case rel => exact ⟨_, (!t133), (by first | rfl | (simp; done) | (simp [*]; done)), H', ⟨by first | omega | exact Nat.le_refl _⟩, ⟨by repeat (first | (with_reducible first | exact HB.out | apply below_alloc | apply pw_below_drewN | apply below_drew1) | exact HB.out)⟩⟩
  case rest =>
    clear HC2
    try clear c1
    try clear p2
    try clear c3
    try clear c3b0
    try clear c3b1
    obtain ⟨kq, x11_1, rfl, HA, HJ1, HB⟩ := hcut
    cases kq with
    | zero => exact absurd HA.out (by simp [basculeref12_Filter.j0])
    | succ kj1 =>
      have H := HA.out
      clear HA
      simp only [basculeref12_Filter.j0] at H
      by_cases c6 : x11_1 = true
      · subst c6
        have H1 : (some false) = some r := by rw [if_pos rfl] at H; exact H
        clear H
        have H := H1
        clear H1
        obtain rfl := Option.some.inj H
        go_wp2
        go_ret
        exact ⟨by first | rfl | (simp [errW_none, errW_some] <;> rfl) | (simp [*, errW_none, errW_some] <;> rfl), by repeat (first | (with_reducible first | exact HB.out | apply below_alloc | apply pw_below_drewN | apply below_drew1) | exact HB.out)⟩
      · replace c6 := Bool.eq_false_iff.mpr c6
        subst c6
        have H1 : ((basculeref12_Levels.f kj1 a0).bind fun t134 => (basculeref12_Filter.l0 kj1 t134 0)) = some r := by rw [if_neg (show ¬ (false = true) by decide)] at H; exact H
        clear H
        have H := H1
        clear H1
        replace H := Option.bind_eq_some_iff.mp H
        obtain ⟨t134, A70, H⟩ := H
        replace H : (basculeref12_Filter.l0 kj1 t134 0) = some r := H
        have A7 := Aside0.mk A70
        clear A70
        have H' := Aside0.mk H
        clear H
        go_wp2_with (first | ((with_reducible refine gate_callee (f := 17) rfl ?_); refine goesL_ (some 13) rfl rfl Tryd.func17 (by kernel_rfl) rfl #[.string a0] rfl (by (try simp only [List.map_toArray, List.map_cons, List.map_nil]); first | done | rfl | (simp only [List.length_drop, List.length_take]; rfl)) ?_; (with_reducible refine (basculeref12_Levels.calls kj1 a0 t134 _ A7.out).mono ?_); rintro e w8 ⟨v135, rfl, ho0, hb⟩; refine ⟨_, rfl, ?_⟩; have n0_ := Aside0.mk (Kd.R_lower ho0 (below_size (by repeat (first | (with_reducible first | exact HB.out | apply below_alloc | apply pw_below_drewN | apply below_drew1) | exact HB.out)))); have n1_ := Aside0.mk (below_step (by repeat (first | (with_reducible first | exact HB.out | apply below_alloc | apply pw_below_drewN | apply below_drew1) | exact HB.out)) hb); clear HB; have HO136 := n0_; have HB := n1_; clear n0_ n1_; (try clear hb); (try clear hb2); (try clear hk); (try clear hi); (try clear ho0)))
        go_loopg [4] kj1 (fun kq v4 w' => ∃ (x4_2 : Int), v4 = .int .i64 x4_2 ∧ Aside0 (basculeref12_Filter.l0 kq t134 x4_2 = some r) ∧ Aside0 (kq ≤ kj1) ∧ Aside0 (Kd.R Kd.string 9 w' w.heap.size (fun _ => True) v135 t134) ∧ Aside0 (Below w.heap.size w w'))
        case atStart => exact ⟨(0), (by first | rfl | (simp; done) | (simp [*]; done)), H', ⟨Nat.le_refl _⟩, ⟨by (with_reducible repeat (first | apply Kd.R_alloc | apply Kd.R_drewN | apply Kd.R_drew)); exact HO136.out⟩, ⟨by repeat (first | (with_reducible first | exact HB.out | apply below_alloc | apply pw_below_drewN | apply below_drew1) | exact HB.out)⟩⟩
        case round =>
          clear H'
          try clear c1
          try clear p2
          try clear c3
          try clear c3b0
          try clear c3b1
          try clear c6
          try clear p2
          obtain ⟨x4_2, rfl, HA, HK2, HO_3, HB⟩ := hrel
          cases gk with
          | zero => exact absurd HA.out (by simp [basculeref12_Filter.l0])
          | succ k2 =>
            have H := HA.out
            clear HA
            simp only [basculeref12_Filter.l0] at H
            by_cases c9 : x4_2 < (t134.length : Int)
            · rw [if_pos c9] at H
              have c9b0 : decide (x4_2 < (t134.length : Int)) = true := decide_eq_true c9
              clear c9
              have HC10 := Aside0.mk H
              clear H
              obtain ⟨Ao11, co11, eo11⟩ := Kd.R_slice HO_3.out
              subst eo11
              go_upto_region 7 with (fail)
              go_cut [38] (fun v38 wc => ∃ (kq : Nat) (x38_9 : Bool), v38 = .bool x38_9 ∧ Aside0 (basculeref12_Filter.j2 kq t134 x4_2 x38_9 = some r) ∧ Aside0 (kq ≤ k2) ∧ Aside0 (Kd.R Kd.string 9 wc w.heap.size (fun _ => True) (.slice Ao11 t134.length co11) t134) ∧ Aside0 (Below w.heap.size w wc))
              case first =>
                have H := HC10.out
                clear HC10
                by_cases c12 : 0 ≤ x4_2
                · rw [if_pos c12] at H
                  have c12b0 : decide (0 ≤ x4_2) = true := decide_eq_true c12
                  clear c12
                  (first | rw [c12b0] | (simp only [i64_w, i32_w]; rw [c12b0]) | skip)
                  by_cases c13 : (rdOf ByteArray.empty t134 x4_2).toList = ([43] : List UInt8)
                  · rw [if_pos c13] at H
                    have c13b0 : ((rdOf ByteArray.empty t134 x4_2).toList == ([43] : List UInt8)) = true := beq_iff_eq.mpr c13
                    have c13b1 : ((rdOf ByteArray.empty t134 x4_2).toList != ([43] : List UInt8)) = false := bne_eq_false_iff_eq.mpr c13
                    clear c13
                    have H' := Aside0.mk H
                    clear H
                    have p137 : 0 ≤ (x4_2 : Int) := of_decide_eq_true (by first | (with_reducible assumption) | assumption)
                    have q137 : x4_2 < (t134.length : Int) := of_decide_eq_true (by first | (with_reducible assumption) | assumption)
                    obtain ⟨ad137, e137, hx137_0⟩ := Kd.at_string (Kd.R_reads' HO_3.out).2.2 x4_2 p137 q137
                    cases e137
                    replace p137 := eq_true p137
                    replace q137 := eq_true q137
                    go_wp2
                    go_meet
                    case rel => exact ⟨_, (true), (by first | rfl | (simp; done) | (simp [*]; done)), H', ⟨by have := HJ1.out; have := HK2.out; first | omega | exact Nat.le_refl _⟩, ⟨by (with_reducible repeat (first | apply Kd.R_alloc | apply Kd.R_drewN | apply Kd.R_drew)); exact HO_3.out⟩, ⟨by repeat (first | (with_reducible first | exact HB.out | apply below_alloc | apply pw_below_drewN | apply below_drew1) | exact HB.out)⟩⟩
                  · rw [if_neg c13] at H
                    have c13b0 : ((rdOf ByteArray.empty t134 x4_2).toList == ([43] : List UInt8)) = false := beq_eq_false_iff_ne.mpr c13
                    have c13b1 : ((rdOf ByteArray.empty t134 x4_2).toList != ([43] : List UInt8)) = true := bne_iff_ne.mpr c13
                    by_cases c14 : (rdOf ByteArray.empty t134 x4_2).toList = ([35] : List UInt8)
                    · rw [if_pos c14] at H
                      have c14b0 : ((rdOf ByteArray.empty t134 x4_2).toList == ([35] : List UInt8)) = true := beq_iff_eq.mpr c14
                      have c14b1 : ((rdOf ByteArray.empty t134 x4_2).toList != ([35] : List UInt8)) = false := bne_eq_false_iff_eq.mpr c14
                      clear c14
                      have H' := Aside0.mk H
                      clear H
                      have p137 : 0 ≤ (x4_2 : Int) := of_decide_eq_true (by first | (with_reducible assumption) | assumption)
                      have q137 : x4_2 < (t134.length : Int) := of_decide_eq_true (by first | (with_reducible assumption) | assumption)
                      obtain ⟨ad137, e137, hx137_0⟩ := Kd.at_string (Kd.R_reads' HO_3.out).2.2 x4_2 p137 q137
                      cases e137
                      replace p137 := eq_true p137
                      replace q137 := eq_true q137
                      have p138 : 0 ≤ (x4_2 : Int) := of_decide_eq_true (by first | (with_reducible assumption) | assumption)
                      have q138 : x4_2 < (t134.length : Int) := of_decide_eq_true (by first | (with_reducible assumption) | assumption)
                      obtain ⟨ad138, e138, hx138_0⟩ := Kd.at_string (Kd.R_reads' HO_3.out).2.2 x4_2 p138 q138
                      obtain rfl : ad137 = ad138 := (by injection e138)
                      replace p138 := eq_true p138
                      replace q138 := eq_true q138
                      go_wp2
                      go_meet
                      case rel => exact ⟨_, ((x4_2 == (wrap64 ((t134.length : Int) - 1)))), (by first | rfl | (simp; done) | (simp [*]; done)), H', ⟨by have := HJ1.out; have := HK2.out; first | omega | exact Nat.le_refl _⟩, ⟨by (with_reducible repeat (first | apply Kd.R_alloc | apply Kd.R_drewN | apply Kd.R_drew)); exact HO_3.out⟩, ⟨by repeat (first | (with_reducible first | exact HB.out | apply below_alloc | apply pw_below_drewN | apply below_drew1) | exact HB.out)⟩⟩
                    · rw [if_neg c14] at H
                      have c14b0 : ((rdOf ByteArray.empty t134 x4_2).toList == ([35] : List UInt8)) = false := beq_eq_false_iff_ne.mpr c14
                      have c14b1 : ((rdOf ByteArray.empty t134 x4_2).toList != ([35] : List UInt8)) = true := bne_iff_ne.mpr c14
                      have H' := Aside0.mk H
                      clear H
                      have p137 : 0 ≤ (x4_2 : Int) := of_decide_eq_true (by first | (with_reducible assumption) | assumption)
                      have q137 : x4_2 < (t134.length : Int) := of_decide_eq_true (by first | (with_reducible assumption) | assumption)
                      obtain ⟨ad137, e137, hx137_0⟩ := Kd.at_string (Kd.R_reads' HO_3.out).2.2 x4_2 p137 q137
                      cases e137
                      replace p137 := eq_true p137
                      replace q137 := eq_true q137
                      have p138 : 0 ≤ (x4_2 : Int) := of_decide_eq_true (by first | (with_reducible assumption) | assumption)
                      have q138 : x4_2 < (t134.length : Int) := of_decide_eq_true (by first | (with_reducible assumption) | assumption)
                      obtain ⟨ad138, e138, hx138_0⟩ := Kd.at_string (Kd.R_reads' HO_3.out).2.2 x4_2 p138 q138
                      obtain rfl : ad137 = ad138 := (by injection e138)
                      replace p138 := eq_true p138
                      replace q138 := eq_true q138
                      go_wp2
                      go_meet
                      case rel => exact ⟨_, (false), (by first | rfl | (simp; done) | (simp [*]; done)), H', ⟨by have := HJ1.out; have := HK2.out; first | omega | exact Nat.le_refl _⟩, ⟨by (with_reducible repeat (first | apply Kd.R_alloc | apply Kd.R_drewN | apply Kd.R_drew)); exact HO_3.out⟩, ⟨by repeat (first | (with_reducible first | exact HB.out | apply below_alloc | apply pw_below_drewN | apply below_drew1) | exact HB.out)⟩⟩
                · rw [if_neg c12] at H
                  exact absurd H (by simp)
              case rest =>
                clear HC10
                try clear c1
                try clear p1
                try clear q1
                try clear hx1
                try clear p2
                try clear c3
                try clear c3b0
                try clear c3b1
                try clear c6
                try clear p6
                try clear c9
                try clear c9b0
                try clear c12
                try clear c12b0
                try clear c13
                try clear c13b0
                try clear c13b1
                try clear p13
                try clear q13
                try clear hx13
                try clear c14
                try clear c14b0
                try clear c14b1
                try clear hx137_0
                try clear hx138_0
                try clear p137
                try clear p138
                try clear p2
                try clear q137
                try clear q138
                obtain ⟨kq, x38_9, rfl, HA, HJ9, HO_3, HB⟩ := hcut
                cases kq with
                | zero => exact absurd HA.out (by simp [basculeref12_Filter.j2])
                | succ kj9 =>
                  have H := HA.out
                  clear HA
                  simp only [basculeref12_Filter.j2] at H
                  by_cases c15 : x38_9 = true
                  · subst c15
                    have H1 : (basculeref12_Filter.l0 kj9 t134 (wrap64 (x4_2 + 1))) = some r := by rw [if_pos rfl] at H; exact H
                    clear H
                    have H := H1
                    clear H1
                    have H' := Aside0.mk H
                    clear H
                    go_wp2
                    go_roundg kj9
                    case measure => have := HJ1.out; have := HK2.out; have := HJ9.out; omega
                    case rel => exact ⟨(wrap64 (x4_2 + 1)), (by first | rfl | (simp; done) | (simp [*]; done)), H', ⟨by have := HJ1.out; have := HK2.out; have := HJ9.out; omega⟩, ⟨by (with_reducible repeat (first | apply Kd.R_alloc | apply Kd.R_drewN | apply Kd.R_drew)); exact HO_3.out⟩, ⟨by repeat (first | (with_reducible first | exact HB.out | apply below_alloc | apply pw_below_drewN | apply below_drew1) | exact HB.out)⟩⟩
                  · replace c15 := Bool.eq_false_iff.mpr c15
                    subst c15
                    have H1 : (if 0 ≤ x4_2 then (if x4_2 < (t134.length : Int) then ((basculeref12_has.f kj9 (rdOf ByteArray.empty t134 x4_2) 43).bind fun t140 => (if t140 = true then (some false) else ((basculeref12_has.f kj9 (rdOf ByteArray.empty t134 x4_2) 35).bind fun t142 => (if t142 = true then (some false) else (basculeref12_Filter.l0 kj9 t134 (wrap64 (x4_2 + 1))))))) else (none)) else (none)) = some r := by rw [if_neg (show ¬ (false = true) by decide)] at H; exact H
                    clear H
                    have H := H1
                    clear H1
                    by_cases c16 : 0 ≤ x4_2
                    · rw [if_pos c16] at H
                      have c16b0 : decide (0 ≤ x4_2) = true := decide_eq_true c16
                      clear c16
                      by_cases c17 : x4_2 < (t134.length : Int)
                      · rw [if_pos c17] at H
                        have c17b0 : decide (x4_2 < (t134.length : Int)) = true := decide_eq_true c17
                        clear c17
                        replace H := Option.bind_eq_some_iff.mp H
                        obtain ⟨t140, A180, H⟩ := H
                        replace H : (if t140 = true then (some false) else ((basculeref12_has.f kj9 (rdOf ByteArray.empty t134 x4_2) 35).bind fun t142 => (if t142 = true then (some false) else (basculeref12_Filter.l0 kj9 t134 (wrap64 (x4_2 + 1)))))) = some r := H
                        have A18 := Aside0.mk A180
                        clear A180
                        by_cases c19 : t140 = true
                        · subst c19
                          have H1 : (some false) = some r := by rw [if_pos rfl] at H; exact H
                          clear H
                          have H := H1
                          clear H1
                          obtain rfl := Option.some.inj H
                          have p139 : 0 ≤ (x4_2 : Int) := of_decide_eq_true (by first | (with_reducible assumption) | assumption)
                          have q139 : x4_2 < (t134.length : Int) := of_decide_eq_true (by first | (with_reducible assumption) | assumption)
                          obtain ⟨ad139, e139, hx139_0⟩ := Kd.at_string (Kd.R_reads' HO_3.out).2.2 x4_2 p139 q139
                          cases e139
                          replace p139 := eq_true p139
                          replace q139 := eq_true q139
                          go_wp2_with (first | ((with_reducible refine gate_callee (f := 24) rfl ?_); refine goesL_ (some 43) rfl rfl Tryd.func24 (by kernel_rfl) rfl #[.string (rdOf ByteArray.empty t134 x4_2), .int .u8 43] rfl (by (try simp only [List.map_toArray, List.map_cons, List.map_nil]); first | done | rfl | (simp only [List.length_drop, List.length_take]; rfl)) ?_; (with_reducible refine (basculeref12_has.calls kj9 (rdOf ByteArray.empty t134 x4_2) 43 true _ A18.out).mono ?_); rintro e w' ⟨rfl, ⟨nd, rfl⟩⟩; refine ⟨_, rfl, ?_⟩))
                          go_ret
                          exact ⟨by first | rfl | (simp [errW_none, errW_some] <;> rfl) | (simp [*, errW_none, errW_some] <;> rfl), by repeat (first | (with_reducible first | exact HB.out | apply below_alloc | apply pw_below_drewN | apply below_drew1) | exact HB.out)⟩
                        · replace c19 := Bool.eq_false_iff.mpr c19
                          subst c19
                          have H1 : ((basculeref12_has.f kj9 (rdOf ByteArray.empty t134 x4_2) 35).bind fun t142 => (if t142 = true then (some false) else (basculeref12_Filter.l0 kj9 t134 (wrap64 (x4_2 + 1))))) = some r := by rw [if_neg (show ¬ (false = true) by decide)] at H; exact H
                          clear H
                          have H := H1
                          clear H1
                          replace H := Option.bind_eq_some_iff.mp H
                          obtain ⟨t142, A200, H⟩ := H
                          replace H : (if t142 = true then (some false) else (basculeref12_Filter.l0 kj9 t134 (wrap64 (x4_2 + 1)))) = some r := H
                          have A20 := Aside0.mk A200
                          clear A200
                          by_cases c21 : t142 = true
                          · subst c21
                            have H1 : (some false) = some r := by rw [if_pos rfl] at H; exact H
                            clear H
                            have H := H1
                            clear H1
                            obtain rfl := Option.some.inj H
                            have p139 : 0 ≤ (x4_2 : Int) := of_decide_eq_true (by first | (with_reducible assumption) | assumption)
                            have q139 : x4_2 < (t134.length : Int) := of_decide_eq_true (by first | (with_reducible assumption) | assumption)
                            obtain ⟨ad139, e139, hx139_0⟩ := Kd.at_string (Kd.R_reads' HO_3.out).2.2 x4_2 p139 q139
                            cases e139
                            replace p139 := eq_true p139
                            replace q139 := eq_true q139
                            go_wp2_with (first | ((with_reducible refine gate_callee (f := 24) rfl ?_); refine goesL_ (some 43) rfl rfl Tryd.func24 (by kernel_rfl) rfl #[.string (rdOf ByteArray.empty t134 x4_2), .int .u8 43] rfl (by (try simp only [List.map_toArray, List.map_cons, List.map_nil]); first | done | rfl | (simp only [List.length_drop, List.length_take]; rfl)) ?_; (with_reducible refine (basculeref12_has.calls kj9 (rdOf ByteArray.empty t134 x4_2) 43 false _ A18.out).mono ?_); rintro e w' ⟨rfl, ⟨nd, rfl⟩⟩; refine ⟨_, rfl, ?_⟩; have p141 : 0 ≤ (x4_2 : Int) := of_decide_eq_true (by first | (with_reducible assumption) | assumption); have q141 : x4_2 < (t134.length : Int) := of_decide_eq_true (by first | (with_reducible assumption) | assumption); obtain ⟨ad141, e141, hx141_0⟩ := Kd.at_string (Kd.R_reads' HO_3.out).2.2 x4_2 p141 q141; obtain rfl : ad139 = ad141 := (by injection e141); replace p141 := eq_true p141; replace q141 := eq_true q141) | (go_at_call 24; (with_reducible refine (basculeref12_has.calls kj9 (rdOf ByteArray.empty t134 x4_2) 35 true _ A20.out).mono ?_); rintro e w' ⟨rfl, ⟨nd, rfl⟩⟩))
                            go_ret
                            exact ⟨by first | rfl | (simp [errW_none, errW_some] <;> rfl) | (simp [*, errW_none, errW_some] <;> rfl), by repeat (first | (with_reducible first | exact HB.out | apply below_alloc | apply pw_below_drewN | apply below_drew1) | exact HB.out)⟩
                          · replace c21 := Bool.eq_false_iff.mpr c21
                            subst c21
                            have H1 : (basculeref12_Filter.l0 kj9 t134 (wrap64 (x4_2 + 1))) = some r := by rw [if_neg (show ¬ (false = true) by decide)] at H; exact H
                            clear H
                            have H := H1
                            clear H1
                            have H' := Aside0.mk H
                            clear H
                            have p139 : 0 ≤ (x4_2 : Int) := of_decide_eq_true (by first | (with_reducible assumption) | assumption)
                            have q139 : x4_2 < (t134.length : Int) := of_decide_eq_true (by first | (with_reducible assumption) | assumption)
                            obtain ⟨ad139, e139, hx139_0⟩ := Kd.at_string (Kd.R_reads' HO_3.out).2.2 x4_2 p139 q139
                            cases e139
                            replace p139 := eq_true p139
                            replace q139 := eq_true q139
                            go_wp2_with (first | ((with_reducible refine gate_callee (f := 24) rfl ?_); refine goesL_ (some 43) rfl rfl Tryd.func24 (by kernel_rfl) rfl #[.string (rdOf ByteArray.empty t134 x4_2), .int .u8 43] rfl (by (try simp only [List.map_toArray, List.map_cons, List.map_nil]); first | done | rfl | (simp only [List.length_drop, List.length_take]; rfl)) ?_; (with_reducible refine (basculeref12_has.calls kj9 (rdOf ByteArray.empty t134 x4_2) 43 false _ A18.out).mono ?_); rintro e w' ⟨rfl, ⟨nd, rfl⟩⟩; refine ⟨_, rfl, ?_⟩; have p141 : 0 ≤ (x4_2 : Int) := of_decide_eq_true (by first | (with_reducible assumption) | assumption); have q141 : x4_2 < (t134.length : Int) := of_decide_eq_true (by first | (with_reducible assumption) | assumption); obtain ⟨ad141, e141, hx141_0⟩ := Kd.at_string (Kd.R_reads' HO_3.out).2.2 x4_2 p141 q141; obtain rfl : ad139 = ad141 := (by injection e141); replace p141 := eq_true p141; replace q141 := eq_true q141) | (go_at_call 24; (with_reducible refine (basculeref12_has.calls kj9 (rdOf ByteArray.empty t134 x4_2) 35 false _ A20.out).mono ?_); rintro e w' ⟨rfl, ⟨nd, rfl⟩⟩))
                            go_roundg kj9
                            case measure => have := HJ1.out; have := HK2.out; have := HJ9.out; omega
                            case rel => exact ⟨(wrap64 (x4_2 + 1)), (by first | rfl | (simp; done) | (simp [*]; done)), H', ⟨by have := HJ1.out; have := HK2.out; have := HJ9.out; omega⟩, ⟨by (with_reducible repeat (first | apply Kd.R_alloc | apply Kd.R_drewN | apply Kd.R_drew)); exact HO_3.out⟩, ⟨by repeat (first | (with_reducible first | exact HB.out | apply below_alloc | apply pw_below_drewN | apply below_drew1) | exact HB.out)⟩⟩
                      · rw [if_neg c17] at H
                        exact absurd H (by simp)
                    · rw [if_neg c16] at H
                      exact absurd H (by simp)
            · rw [if_neg c9] at H
              have c9b0 : decide (x4_2 < (t134.length : Int)) = false := decide_eq_false c9
              clear c9
              obtain rfl := Option.some.inj H
              obtain ⟨Ao22, co22, eo22⟩ := Kd.R_slice HO_3.out
              subst eo22
              go_wp2
              go_ret
              exact ⟨by first | rfl | (simp [errW_none, errW_some] <;> rfl) | (simp [*, errW_none, errW_some] <;> rfl), by repeat (first | (with_reducible first | exact HB.out | apply below_alloc | apply pw_below_drewN | apply below_drew1) | exact HB.out)⟩

/-! ### basculelaw12_takes: function 16 -/
def basculelaw12_takes.f (a0 : ByteArray) (a1 : ByteArray) : Option (Bool) := (topic_Matches.f a0 a1).bind fun bt143 => (if bt143.1 = true then (some (bt143.2 == 0)) else (some false))
set_option maxHeartbeats 8000000 in
set_option maxRecDepth 100000 in
theorem basculelaw12_takes.calls (a0 : ByteArray) (a1 : ByteArray) (r : Bool) (w : World) (hLd_ : Go.Proofs.YtlfigadjbnikiaaDoor.Top.Laid w) (h : basculelaw12_takes.f a0 a1 = some r) :
    Calls Tryd.prog 16 #[.string a0, .string a1] w fun e w' => e = .returned (.bool r) ∧ Below w.heap.size w w' := by
  have HB := Aside0.mk (Below.refl w.heap.size w)
  have H : ((topic_Matches.f a0 a1).bind fun bt143 => (if bt143.1 = true then (some (bt143.2 == 0)) else (some false))) = some r := h
  clear h
  replace H := Option.bind_eq_some_iff.mp H
  obtain ⟨⟨t143, t144⟩, A30, H⟩ := H
  replace H : (if t143 = true then (some (t144 == 0)) else (some false)) = some r := H
  have A3 := Aside0.mk A30
  clear A30
  by_cases c4 : t143 = true
  · subst c4
    have H1 : (some (t144 == 0)) = some r := by rw [if_pos rfl] at H; exact H
    clear H
    have H := H1
    clear H1
    obtain rfl := Option.some.inj H
    go_enter Tryd.func16, Tryd.ntmps16
    go_wp2_with (first | ((with_reducible refine gate_callee (f := 9) rfl ?_); refine goesL_ (some 10) rfl rfl Tryd.func9 (by kernel_rfl) rfl #[.string a0, .string a1] rfl (by (try simp only [List.map_toArray, List.map_cons, List.map_nil]); first | done | rfl | (simp only [List.length_drop, List.length_take]; rfl)) ?_; (with_reducible refine (topic_Matches.calls a0 a1 true t144 _ (Go.Proofs.YtlfigadjbnikiaaDoor.Top.Laid.below hLd_ (by repeat (first | (with_reducible first | exact HB.out | apply below_alloc | apply pw_below_drewN | apply below_drew1) | exact HB.out))) A3.out).mono ?_); rintro e w5 ⟨rfl, hb⟩; refine ⟨_, rfl, ?_⟩; have n0_ := Aside0.mk (below_step (by repeat (first | (with_reducible first | exact HB.out | apply below_alloc | apply pw_below_drewN | apply below_drew1) | exact HB.out)) hb); clear HB; have HB := n0_; clear n0_; (try clear hb); (try clear hb2); (try clear hk); (try clear hi)))
    go_ret
    exact ⟨by first | rfl | (simp [errW_none, errW_some] <;> rfl) | (simp [*, errW_none, errW_some] <;> rfl), by repeat (first | (with_reducible first | exact HB.out | apply below_alloc | apply pw_below_drewN | apply below_drew1) | exact HB.out)⟩
  · replace c4 := Bool.eq_false_iff.mpr c4
    subst c4
    have H1 : (some false) = some r := by rw [if_neg (show ¬ (false = true) by decide)] at H; exact H
    clear H
    have H := H1
    clear H1
    obtain rfl := Option.some.inj H
    go_enter Tryd.func16, Tryd.ntmps16
    go_wp2_with (first | ((with_reducible refine gate_callee (f := 9) rfl ?_); refine goesL_ (some 10) rfl rfl Tryd.func9 (by kernel_rfl) rfl #[.string a0, .string a1] rfl (by (try simp only [List.map_toArray, List.map_cons, List.map_nil]); first | done | rfl | (simp only [List.length_drop, List.length_take]; rfl)) ?_; (with_reducible refine (topic_Matches.calls a0 a1 false t144 _ (Go.Proofs.YtlfigadjbnikiaaDoor.Top.Laid.below hLd_ (by repeat (first | (with_reducible first | exact HB.out | apply below_alloc | apply pw_below_drewN | apply below_drew1) | exact HB.out))) A3.out).mono ?_); rintro e w6 ⟨rfl, hb⟩; refine ⟨_, rfl, ?_⟩; have n0_ := Aside0.mk (below_step (by repeat (first | (with_reducible first | exact HB.out | apply below_alloc | apply pw_below_drewN | apply below_drew1) | exact HB.out)) hb); clear HB; have HB := n0_; clear n0_; (try clear hb); (try clear hb2); (try clear hk); (try clear hi)))
    go_ret
    exact ⟨by first | rfl | (simp [errW_none, errW_some] <;> rfl) | (simp [*, errW_none, errW_some] <;> rfl), by repeat (first | (with_reducible first | exact HB.out | apply below_alloc | apply pw_below_drewN | apply below_drew1) | exact HB.out)⟩

/-! ### basculelaw12_awake: function 14 -/
def basculelaw12_awake.f  : Option (Bool) := (topic_Matches.f (⟨#[97, 35]⟩ : ByteArray) (⟨#[97]⟩ : ByteArray)).bind fun bt145 => ((topic_Matches.f (⟨#[97]⟩ : ByteArray) (⟨#[97, 47, 43]⟩ : ByteArray)).bind fun bt147 => ((basculelaw12_takes.f (⟨#[97, 47, 35]⟩ : ByteArray) (⟨#[97]⟩ : ByteArray)).bind fun t149 => (if t149 = true then ((basculelaw12_takes.f (⟨#[97, 47, 35]⟩ : ByteArray) (⟨#[97, 47, 98, 47, 99]⟩ : ByteArray)).bind fun t150 => (if t150 = true then ((basculelaw12_takes.f (⟨#[97, 47, 35]⟩ : ByteArray) (⟨#[97, 98]⟩ : ByteArray)).bind fun t151 => (if t151 = true then (some false) else ((basculelaw12_takes.f (⟨#[43, 47, 43]⟩ : ByteArray) (⟨#[47, 98]⟩ : ByteArray)).bind fun t152 => (if t152 = true then ((basculelaw12_takes.f (⟨#[35]⟩ : ByteArray) (⟨#[36, 83, 89, 83, 47, 120]⟩ : ByteArray)).bind fun t153 => (if t153 = true then (some false) else ((basculelaw12_takes.f (⟨#[36, 83, 89, 83, 47, 35]⟩ : ByteArray) (⟨#[36, 83, 89, 83, 47, 120]⟩ : ByteArray)).bind fun t154 => (if t154 = true then (if bt145.2 = 121 then (some (bt147.2 == 120)) else (some false)) else (some false))))) else (some false))))) else (some false))) else (some false))))
set_option maxHeartbeats 8000000 in
set_option maxRecDepth 100000 in
theorem basculelaw12_awake.calls  (r : Bool) (w : World) (hLd_ : Go.Proofs.YtlfigadjbnikiaaDoor.Top.Laid w) (h : basculelaw12_awake.f  = some r) :
    Calls Tryd.prog 14 #[] w fun e w' => e = .returned (.bool r) ∧ Below w.heap.size w w' := by
  have HB := Aside0.mk (Below.refl w.heap.size w)
  have H : ((topic_Matches.f (⟨#[97, 35]⟩ : ByteArray) (⟨#[97]⟩ : ByteArray)).bind fun bt145 => ((topic_Matches.f (⟨#[97]⟩ : ByteArray) (⟨#[97, 47, 43]⟩ : ByteArray)).bind fun bt147 => ((basculelaw12_takes.f (⟨#[97, 47, 35]⟩ : ByteArray) (⟨#[97]⟩ : ByteArray)).bind fun t149 => (if t149 = true then ((basculelaw12_takes.f (⟨#[97, 47, 35]⟩ : ByteArray) (⟨#[97, 47, 98, 47, 99]⟩ : ByteArray)).bind fun t150 => (if t150 = true then ((basculelaw12_takes.f (⟨#[97, 47, 35]⟩ : ByteArray) (⟨#[97, 98]⟩ : ByteArray)).bind fun t151 => (if t151 = true then (some false) else ((basculelaw12_takes.f (⟨#[43, 47, 43]⟩ : ByteArray) (⟨#[47, 98]⟩ : ByteArray)).bind fun t152 => (if t152 = true then ((basculelaw12_takes.f (⟨#[35]⟩ : ByteArray) (⟨#[36, 83, 89, 83, 47, 120]⟩ : ByteArray)).bind fun t153 => (if t153 = true then (some false) else ((basculelaw12_takes.f (⟨#[36, 83, 89, 83, 47, 35]⟩ : ByteArray) (⟨#[36, 83, 89, 83, 47, 120]⟩ : ByteArray)).bind fun t154 => (if t154 = true then (if bt145.2 = 121 then (some (bt147.2 == 120)) else (some false)) else (some false))))) else (some false))))) else (some false))) else (some false))))) = some r := h
  clear h
  replace H := Option.bind_eq_some_iff.mp H
  obtain ⟨⟨t145, t146⟩, A10, H⟩ := H
  replace H : ((topic_Matches.f (⟨#[97]⟩ : ByteArray) (⟨#[97, 47, 43]⟩ : ByteArray)).bind fun bt147 => ((basculelaw12_takes.f (⟨#[97, 47, 35]⟩ : ByteArray) (⟨#[97]⟩ : ByteArray)).bind fun t149 => (if t149 = true then ((basculelaw12_takes.f (⟨#[97, 47, 35]⟩ : ByteArray) (⟨#[97, 47, 98, 47, 99]⟩ : ByteArray)).bind fun t150 => (if t150 = true then ((basculelaw12_takes.f (⟨#[97, 47, 35]⟩ : ByteArray) (⟨#[97, 98]⟩ : ByteArray)).bind fun t151 => (if t151 = true then (some false) else ((basculelaw12_takes.f (⟨#[43, 47, 43]⟩ : ByteArray) (⟨#[47, 98]⟩ : ByteArray)).bind fun t152 => (if t152 = true then ((basculelaw12_takes.f (⟨#[35]⟩ : ByteArray) (⟨#[36, 83, 89, 83, 47, 120]⟩ : ByteArray)).bind fun t153 => (if t153 = true then (some false) else ((basculelaw12_takes.f (⟨#[36, 83, 89, 83, 47, 35]⟩ : ByteArray) (⟨#[36, 83, 89, 83, 47, 120]⟩ : ByteArray)).bind fun t154 => (if t154 = true then (if t146 = 121 then (some (bt147.2 == 120)) else (some false)) else (some false))))) else (some false))))) else (some false))) else (some false)))) = some r := H
  have A1 := Aside0.mk A10
  clear A10
  replace H := Option.bind_eq_some_iff.mp H
  obtain ⟨⟨t147, t148⟩, A20, H⟩ := H
  replace H : ((basculelaw12_takes.f (⟨#[97, 47, 35]⟩ : ByteArray) (⟨#[97]⟩ : ByteArray)).bind fun t149 => (if t149 = true then ((basculelaw12_takes.f (⟨#[97, 47, 35]⟩ : ByteArray) (⟨#[97, 47, 98, 47, 99]⟩ : ByteArray)).bind fun t150 => (if t150 = true then ((basculelaw12_takes.f (⟨#[97, 47, 35]⟩ : ByteArray) (⟨#[97, 98]⟩ : ByteArray)).bind fun t151 => (if t151 = true then (some false) else ((basculelaw12_takes.f (⟨#[43, 47, 43]⟩ : ByteArray) (⟨#[47, 98]⟩ : ByteArray)).bind fun t152 => (if t152 = true then ((basculelaw12_takes.f (⟨#[35]⟩ : ByteArray) (⟨#[36, 83, 89, 83, 47, 120]⟩ : ByteArray)).bind fun t153 => (if t153 = true then (some false) else ((basculelaw12_takes.f (⟨#[36, 83, 89, 83, 47, 35]⟩ : ByteArray) (⟨#[36, 83, 89, 83, 47, 120]⟩ : ByteArray)).bind fun t154 => (if t154 = true then (if t146 = 121 then (some (t148 == 120)) else (some false)) else (some false))))) else (some false))))) else (some false))) else (some false))) = some r := H
  have A2 := Aside0.mk A20
  clear A20
  replace H := Option.bind_eq_some_iff.mp H
  obtain ⟨t149, A30, H⟩ := H
  replace H : (if t149 = true then ((basculelaw12_takes.f (⟨#[97, 47, 35]⟩ : ByteArray) (⟨#[97, 47, 98, 47, 99]⟩ : ByteArray)).bind fun t150 => (if t150 = true then ((basculelaw12_takes.f (⟨#[97, 47, 35]⟩ : ByteArray) (⟨#[97, 98]⟩ : ByteArray)).bind fun t151 => (if t151 = true then (some false) else ((basculelaw12_takes.f (⟨#[43, 47, 43]⟩ : ByteArray) (⟨#[47, 98]⟩ : ByteArray)).bind fun t152 => (if t152 = true then ((basculelaw12_takes.f (⟨#[35]⟩ : ByteArray) (⟨#[36, 83, 89, 83, 47, 120]⟩ : ByteArray)).bind fun t153 => (if t153 = true then (some false) else ((basculelaw12_takes.f (⟨#[36, 83, 89, 83, 47, 35]⟩ : ByteArray) (⟨#[36, 83, 89, 83, 47, 120]⟩ : ByteArray)).bind fun t154 => (if t154 = true then (if t146 = 121 then (some (t148 == 120)) else (some false)) else (some false))))) else (some false))))) else (some false))) else (some false)) = some r := H
  have A3 := Aside0.mk A30
  clear A30
  by_cases c4 : t149 = true
  · subst c4
    have H1 : ((basculelaw12_takes.f (⟨#[97, 47, 35]⟩ : ByteArray) (⟨#[97, 47, 98, 47, 99]⟩ : ByteArray)).bind fun t150 => (if t150 = true then ((basculelaw12_takes.f (⟨#[97, 47, 35]⟩ : ByteArray) (⟨#[97, 98]⟩ : ByteArray)).bind fun t151 => (if t151 = true then (some false) else ((basculelaw12_takes.f (⟨#[43, 47, 43]⟩ : ByteArray) (⟨#[47, 98]⟩ : ByteArray)).bind fun t152 => (if t152 = true then ((basculelaw12_takes.f (⟨#[35]⟩ : ByteArray) (⟨#[36, 83, 89, 83, 47, 120]⟩ : ByteArray)).bind fun t153 => (if t153 = true then (some false) else ((basculelaw12_takes.f (⟨#[36, 83, 89, 83, 47, 35]⟩ : ByteArray) (⟨#[36, 83, 89, 83, 47, 120]⟩ : ByteArray)).bind fun t154 => (if t154 = true then (if t146 = 121 then (some (t148 == 120)) else (some false)) else (some false))))) else (some false))))) else (some false))) = some r := by rw [if_pos rfl] at H; exact H
    clear H
    have H := H1
    clear H1
    replace H := Option.bind_eq_some_iff.mp H
    obtain ⟨t150, A50, H⟩ := H
    replace H : (if t150 = true then ((basculelaw12_takes.f (⟨#[97, 47, 35]⟩ : ByteArray) (⟨#[97, 98]⟩ : ByteArray)).bind fun t151 => (if t151 = true then (some false) else ((basculelaw12_takes.f (⟨#[43, 47, 43]⟩ : ByteArray) (⟨#[47, 98]⟩ : ByteArray)).bind fun t152 => (if t152 = true then ((basculelaw12_takes.f (⟨#[35]⟩ : ByteArray) (⟨#[36, 83, 89, 83, 47, 120]⟩ : ByteArray)).bind fun t153 => (if t153 = true then (some false) else ((basculelaw12_takes.f (⟨#[36, 83, 89, 83, 47, 35]⟩ : ByteArray) (⟨#[36, 83, 89, 83, 47, 120]⟩ : ByteArray)).bind fun t154 => (if t154 = true then (if t146 = 121 then (some (t148 == 120)) else (some false)) else (some false))))) else (some false))))) else (some false)) = some r := H
    have A5 := Aside0.mk A50
    clear A50
    by_cases c6 : t150 = true
    · subst c6
      have H1 : ((basculelaw12_takes.f (⟨#[97, 47, 35]⟩ : ByteArray) (⟨#[97, 98]⟩ : ByteArray)).bind fun t151 => (if t151 = true then (some false) else ((basculelaw12_takes.f (⟨#[43, 47, 43]⟩ : ByteArray) (⟨#[47, 98]⟩ : ByteArray)).bind fun t152 => (if t152 = true then ((basculelaw12_takes.f (⟨#[35]⟩ : ByteArray) (⟨#[36, 83, 89, 83, 47, 120]⟩ : ByteArray)).bind fun t153 => (if t153 = true then (some false) else ((basculelaw12_takes.f (⟨#[36, 83, 89, 83, 47, 35]⟩ : ByteArray) (⟨#[36, 83, 89, 83, 47, 120]⟩ : ByteArray)).bind fun t154 => (if t154 = true then (if t146 = 121 then (some (t148 == 120)) else (some false)) else (some false))))) else (some false))))) = some r := by rw [if_pos rfl] at H; exact H
      clear H
      have H := H1
      clear H1
      replace H := Option.bind_eq_some_iff.mp H
      obtain ⟨t151, A70, H⟩ := H
      replace H : (if t151 = true then (some false) else ((basculelaw12_takes.f (⟨#[43, 47, 43]⟩ : ByteArray) (⟨#[47, 98]⟩ : ByteArray)).bind fun t152 => (if t152 = true then ((basculelaw12_takes.f (⟨#[35]⟩ : ByteArray) (⟨#[36, 83, 89, 83, 47, 120]⟩ : ByteArray)).bind fun t153 => (if t153 = true then (some false) else ((basculelaw12_takes.f (⟨#[36, 83, 89, 83, 47, 35]⟩ : ByteArray) (⟨#[36, 83, 89, 83, 47, 120]⟩ : ByteArray)).bind fun t154 => (if t154 = true then (if t146 = 121 then (some (t148 == 120)) else (some false)) else (some false))))) else (some false)))) = some r := H
      have A7 := Aside0.mk A70
      clear A70
      by_cases c8 : t151 = true
      · subst c8
        have H1 : (some false) = some r := by rw [if_pos rfl] at H; exact H
        clear H
        have H := H1
        clear H1
        obtain rfl := Option.some.inj H
        go_enter Tryd.func14, Tryd.ntmps14
        go_wp2_with (first | ((with_reducible refine gate_callee (f := 9) rfl ?_); refine goesL_ (some 6) rfl rfl Tryd.func9 (by kernel_rfl) rfl #[.string (⟨#[97, 35]⟩ : ByteArray), .string (⟨#[97]⟩ : ByteArray)] rfl (by (try simp only [List.map_toArray, List.map_cons, List.map_nil]); first | done | rfl | (simp only [List.length_drop, List.length_take]; rfl)) ?_; (with_reducible refine (topic_Matches.calls (⟨#[97, 35]⟩ : ByteArray) (⟨#[97]⟩ : ByteArray) t145 t146 _ (Go.Proofs.YtlfigadjbnikiaaDoor.Top.Laid.below hLd_ (by repeat (first | (with_reducible first | exact HB.out | apply below_alloc | apply pw_below_drewN | apply below_drew1) | exact HB.out))) A1.out).mono ?_); rintro e w9 ⟨rfl, hb⟩; refine ⟨_, rfl, ?_⟩; have n0_ := Aside0.mk (below_step (by repeat (first | (with_reducible first | exact HB.out | apply below_alloc | apply pw_below_drewN | apply below_drew1) | exact HB.out)) hb); clear HB; have HB := n0_; clear n0_; (try clear hb); (try clear hb2); (try clear hk); (try clear hi)) | ((with_reducible refine gate_callee (f := 9) rfl ?_); refine goesL_ (some 10) rfl rfl Tryd.func9 (by kernel_rfl) rfl #[.string (⟨#[97]⟩ : ByteArray), .string (⟨#[97, 47, 43]⟩ : ByteArray)] rfl (by (try simp only [List.map_toArray, List.map_cons, List.map_nil]); first | done | rfl | (simp only [List.length_drop, List.length_take]; rfl)) ?_; (with_reducible refine (topic_Matches.calls (⟨#[97]⟩ : ByteArray) (⟨#[97, 47, 43]⟩ : ByteArray) t147 t148 _ (Go.Proofs.YtlfigadjbnikiaaDoor.Top.Laid.below hLd_ (by repeat (first | (with_reducible first | exact HB.out | apply below_alloc | apply pw_below_drewN | apply below_drew1) | exact HB.out))) A2.out).mono ?_); rintro e w10 ⟨rfl, hb⟩; refine ⟨_, rfl, ?_⟩; have n0_ := Aside0.mk (below_step (by repeat (first | (with_reducible first | exact HB.out | apply below_alloc | apply pw_below_drewN | apply below_drew1) | exact HB.out)) hb); clear HB; have HB := n0_; clear n0_; (try clear hb); (try clear hb2); (try clear hk); (try clear hi)) | ((with_reducible refine gate_callee (f := 16) rfl ?_); refine goesL_ (some 13) rfl rfl Tryd.func16 (by kernel_rfl) rfl #[.string (⟨#[97, 47, 35]⟩ : ByteArray), .string (⟨#[97]⟩ : ByteArray)] rfl (by (try simp only [List.map_toArray, List.map_cons, List.map_nil]); first | done | rfl | (simp only [List.length_drop, List.length_take]; rfl)) ?_; (with_reducible refine (basculelaw12_takes.calls (⟨#[97, 47, 35]⟩ : ByteArray) (⟨#[97]⟩ : ByteArray) true _ (Go.Proofs.YtlfigadjbnikiaaDoor.Top.Laid.below hLd_ (by repeat (first | (with_reducible first | exact HB.out | apply below_alloc | apply pw_below_drewN | apply below_drew1) | exact HB.out))) A3.out).mono ?_); rintro e w11 ⟨rfl, hb⟩; refine ⟨_, rfl, ?_⟩; have n0_ := Aside0.mk (below_step (by repeat (first | (with_reducible first | exact HB.out | apply below_alloc | apply pw_below_drewN | apply below_drew1) | exact HB.out)) hb); clear HB; have HB := n0_; clear n0_; (try clear hb); (try clear hb2); (try clear hk); (try clear hi)) | (go_at_call 16; (with_reducible refine (basculelaw12_takes.calls (⟨#[97, 47, 35]⟩ : ByteArray) (⟨#[97, 47, 98, 47, 99]⟩ : ByteArray) true _ (Go.Proofs.YtlfigadjbnikiaaDoor.Top.Laid.below hLd_ (by repeat (first | (with_reducible first | exact HB.out | apply below_alloc | apply pw_below_drewN | apply below_drew1) | exact HB.out))) A5.out).mono ?_); rintro e w12 ⟨rfl, hb⟩; have n0_ := Aside0.mk (below_step (by repeat (first | (with_reducible first | exact HB.out | apply below_alloc | apply pw_below_drewN | apply below_drew1) | exact HB.out)) hb); clear HB; have HB := n0_; clear n0_; (try clear hb); (try clear hb2); (try clear hk); (try clear hi)) | (go_at_call 16; (with_reducible refine (basculelaw12_takes.calls (⟨#[97, 47, 35]⟩ : ByteArray) (⟨#[97, 98]⟩ : ByteArray) true _ (Go.Proofs.YtlfigadjbnikiaaDoor.Top.Laid.below hLd_ (by repeat (first | (with_reducible first | exact HB.out | apply below_alloc | apply pw_below_drewN | apply below_drew1) | exact HB.out))) A7.out).mono ?_); rintro e w13 ⟨rfl, hb⟩; have n0_ := Aside0.mk (below_step (by repeat (first | (with_reducible first | exact HB.out | apply below_alloc | apply pw_below_drewN | apply below_drew1) | exact HB.out)) hb); clear HB; have HB := n0_; clear n0_; (try clear hb); (try clear hb2); (try clear hk); (try clear hi)))
        go_ret
        exact ⟨by first | rfl | (simp [errW_none, errW_some] <;> rfl) | (simp [*, errW_none, errW_some] <;> rfl), by repeat (first | (with_reducible first | exact HB.out | apply below_alloc | apply pw_below_drewN | apply below_drew1) | exact HB.out)⟩
      · replace c8 := Bool.eq_false_iff.mpr c8
        subst c8
        have H1 : ((basculelaw12_takes.f (⟨#[43, 47, 43]⟩ : ByteArray) (⟨#[47, 98]⟩ : ByteArray)).bind fun t152 => (if t152 = true then ((basculelaw12_takes.f (⟨#[35]⟩ : ByteArray) (⟨#[36, 83, 89, 83, 47, 120]⟩ : ByteArray)).bind fun t153 => (if t153 = true then (some false) else ((basculelaw12_takes.f (⟨#[36, 83, 89, 83, 47, 35]⟩ : ByteArray) (⟨#[36, 83, 89, 83, 47, 120]⟩ : ByteArray)).bind fun t154 => (if t154 = true then (if t146 = 121 then (some (t148 == 120)) else (some false)) else (some false))))) else (some false))) = some r := by rw [if_neg (show ¬ (false = true) by decide)] at H; exact H
        clear H
        have H := H1
        clear H1
        replace H := Option.bind_eq_some_iff.mp H
        obtain ⟨t152, A140, H⟩ := H
        replace H : (if t152 = true then ((basculelaw12_takes.f (⟨#[35]⟩ : ByteArray) (⟨#[36, 83, 89, 83, 47, 120]⟩ : ByteArray)).bind fun t153 => (if t153 = true then (some false) else ((basculelaw12_takes.f (⟨#[36, 83, 89, 83, 47, 35]⟩ : ByteArray) (⟨#[36, 83, 89, 83, 47, 120]⟩ : ByteArray)).bind fun t154 => (if t154 = true then (if t146 = 121 then (some (t148 == 120)) else (some false)) else (some false))))) else (some false)) = some r := H
        have A14 := Aside0.mk A140
        clear A140
        by_cases c15 : t152 = true
        · subst c15
          have H1 : ((basculelaw12_takes.f (⟨#[35]⟩ : ByteArray) (⟨#[36, 83, 89, 83, 47, 120]⟩ : ByteArray)).bind fun t153 => (if t153 = true then (some false) else ((basculelaw12_takes.f (⟨#[36, 83, 89, 83, 47, 35]⟩ : ByteArray) (⟨#[36, 83, 89, 83, 47, 120]⟩ : ByteArray)).bind fun t154 => (if t154 = true then (if t146 = 121 then (some (t148 == 120)) else (some false)) else (some false))))) = some r := by rw [if_pos rfl] at H; exact H
          clear H
          have H := H1
          clear H1
          replace H := Option.bind_eq_some_iff.mp H
          obtain ⟨t153, A160, H⟩ := H
          replace H : (if t153 = true then (some false) else ((basculelaw12_takes.f (⟨#[36, 83, 89, 83, 47, 35]⟩ : ByteArray) (⟨#[36, 83, 89, 83, 47, 120]⟩ : ByteArray)).bind fun t154 => (if t154 = true then (if t146 = 121 then (some (t148 == 120)) else (some false)) else (some false)))) = some r := H
          have A16 := Aside0.mk A160
          clear A160
          by_cases c17 : t153 = true
          · subst c17
            have H1 : (some false) = some r := by rw [if_pos rfl] at H; exact H
            clear H
            have H := H1
            clear H1
            obtain rfl := Option.some.inj H
            go_enter Tryd.func14, Tryd.ntmps14
            go_wp2_with (first | ((with_reducible refine gate_callee (f := 9) rfl ?_); refine goesL_ (some 6) rfl rfl Tryd.func9 (by kernel_rfl) rfl #[.string (⟨#[97, 35]⟩ : ByteArray), .string (⟨#[97]⟩ : ByteArray)] rfl (by (try simp only [List.map_toArray, List.map_cons, List.map_nil]); first | done | rfl | (simp only [List.length_drop, List.length_take]; rfl)) ?_; (with_reducible refine (topic_Matches.calls (⟨#[97, 35]⟩ : ByteArray) (⟨#[97]⟩ : ByteArray) t145 t146 _ (Go.Proofs.YtlfigadjbnikiaaDoor.Top.Laid.below hLd_ (by repeat (first | (with_reducible first | exact HB.out | apply below_alloc | apply pw_below_drewN | apply below_drew1) | exact HB.out))) A1.out).mono ?_); rintro e w18 ⟨rfl, hb⟩; refine ⟨_, rfl, ?_⟩; have n0_ := Aside0.mk (below_step (by repeat (first | (with_reducible first | exact HB.out | apply below_alloc | apply pw_below_drewN | apply below_drew1) | exact HB.out)) hb); clear HB; have HB := n0_; clear n0_; (try clear hb); (try clear hb2); (try clear hk); (try clear hi)) | ((with_reducible refine gate_callee (f := 9) rfl ?_); refine goesL_ (some 10) rfl rfl Tryd.func9 (by kernel_rfl) rfl #[.string (⟨#[97]⟩ : ByteArray), .string (⟨#[97, 47, 43]⟩ : ByteArray)] rfl (by (try simp only [List.map_toArray, List.map_cons, List.map_nil]); first | done | rfl | (simp only [List.length_drop, List.length_take]; rfl)) ?_; (with_reducible refine (topic_Matches.calls (⟨#[97]⟩ : ByteArray) (⟨#[97, 47, 43]⟩ : ByteArray) t147 t148 _ (Go.Proofs.YtlfigadjbnikiaaDoor.Top.Laid.below hLd_ (by repeat (first | (with_reducible first | exact HB.out | apply below_alloc | apply pw_below_drewN | apply below_drew1) | exact HB.out))) A2.out).mono ?_); rintro e w19 ⟨rfl, hb⟩; refine ⟨_, rfl, ?_⟩; have n0_ := Aside0.mk (below_step (by repeat (first | (with_reducible first | exact HB.out | apply below_alloc | apply pw_below_drewN | apply below_drew1) | exact HB.out)) hb); clear HB; have HB := n0_; clear n0_; (try clear hb); (try clear hb2); (try clear hk); (try clear hi)) | ((with_reducible refine gate_callee (f := 16) rfl ?_); refine goesL_ (some 13) rfl rfl Tryd.func16 (by kernel_rfl) rfl #[.string (⟨#[97, 47, 35]⟩ : ByteArray), .string (⟨#[97]⟩ : ByteArray)] rfl (by (try simp only [List.map_toArray, List.map_cons, List.map_nil]); first | done | rfl | (simp only [List.length_drop, List.length_take]; rfl)) ?_; (with_reducible refine (basculelaw12_takes.calls (⟨#[97, 47, 35]⟩ : ByteArray) (⟨#[97]⟩ : ByteArray) true _ (Go.Proofs.YtlfigadjbnikiaaDoor.Top.Laid.below hLd_ (by repeat (first | (with_reducible first | exact HB.out | apply below_alloc | apply pw_below_drewN | apply below_drew1) | exact HB.out))) A3.out).mono ?_); rintro e w20 ⟨rfl, hb⟩; refine ⟨_, rfl, ?_⟩; have n0_ := Aside0.mk (below_step (by repeat (first | (with_reducible first | exact HB.out | apply below_alloc | apply pw_below_drewN | apply below_drew1) | exact HB.out)) hb); clear HB; have HB := n0_; clear n0_; (try clear hb); (try clear hb2); (try clear hk); (try clear hi)) | (go_at_call 16; (with_reducible refine (basculelaw12_takes.calls (⟨#[97, 47, 35]⟩ : ByteArray) (⟨#[97, 47, 98, 47, 99]⟩ : ByteArray) true _ (Go.Proofs.YtlfigadjbnikiaaDoor.Top.Laid.below hLd_ (by repeat (first | (with_reducible first | exact HB.out | apply below_alloc | apply pw_below_drewN | apply below_drew1) | exact HB.out))) A5.out).mono ?_); rintro e w21 ⟨rfl, hb⟩; have n0_ := Aside0.mk (below_step (by repeat (first | (with_reducible first | exact HB.out | apply below_alloc | apply pw_below_drewN | apply below_drew1) | exact HB.out)) hb); clear HB; have HB := n0_; clear n0_; (try clear hb); (try clear hb2); (try clear hk); (try clear hi)) | (go_at_call 16; (with_reducible refine (basculelaw12_takes.calls (⟨#[97, 47, 35]⟩ : ByteArray) (⟨#[97, 98]⟩ : ByteArray) false _ (Go.Proofs.YtlfigadjbnikiaaDoor.Top.Laid.below hLd_ (by repeat (first | (with_reducible first | exact HB.out | apply below_alloc | apply pw_below_drewN | apply below_drew1) | exact HB.out))) A7.out).mono ?_); rintro e w22 ⟨rfl, hb⟩; have n0_ := Aside0.mk (below_step (by repeat (first | (with_reducible first | exact HB.out | apply below_alloc | apply pw_below_drewN | apply below_drew1) | exact HB.out)) hb); clear HB; have HB := n0_; clear n0_; (try clear hb); (try clear hb2); (try clear hk); (try clear hi)) | (go_at_call 16; (with_reducible refine (basculelaw12_takes.calls (⟨#[43, 47, 43]⟩ : ByteArray) (⟨#[47, 98]⟩ : ByteArray) true _ (Go.Proofs.YtlfigadjbnikiaaDoor.Top.Laid.below hLd_ (by repeat (first | (with_reducible first | exact HB.out | apply below_alloc | apply pw_below_drewN | apply below_drew1) | exact HB.out))) A14.out).mono ?_); rintro e w23 ⟨rfl, hb⟩; have n0_ := Aside0.mk (below_step (by repeat (first | (with_reducible first | exact HB.out | apply below_alloc | apply pw_below_drewN | apply below_drew1) | exact HB.out)) hb); clear HB; have HB := n0_; clear n0_; (try clear hb); (try clear hb2); (try clear hk); (try clear hi)) | (go_at_call 16; (with_reducible refine (basculelaw12_takes.calls (⟨#[35]⟩ : ByteArray) (⟨#[36, 83, 89, 83, 47, 120]⟩ : ByteArray) true _ (Go.Proofs.YtlfigadjbnikiaaDoor.Top.Laid.below hLd_ (by repeat (first | (with_reducible first | exact HB.out | apply below_alloc | apply pw_below_drewN | apply below_drew1) | exact HB.out))) A16.out).mono ?_); rintro e w24 ⟨rfl, hb⟩; have n0_ := Aside0.mk (below_step (by repeat (first | (with_reducible first | exact HB.out | apply below_alloc | apply pw_below_drewN | apply below_drew1) | exact HB.out)) hb); clear HB; have HB := n0_; clear n0_; (try clear hb); (try clear hb2); (try clear hk); (try clear hi)))
            go_ret
            exact ⟨by first | rfl | (simp [errW_none, errW_some] <;> rfl) | (simp [*, errW_none, errW_some] <;> rfl), by repeat (first | (with_reducible first | exact HB.out | apply below_alloc | apply pw_below_drewN | apply below_drew1) | exact HB.out)⟩
          · replace c17 := Bool.eq_false_iff.mpr c17
            subst c17
            have H1 : ((basculelaw12_takes.f (⟨#[36, 83, 89, 83, 47, 35]⟩ : ByteArray) (⟨#[36, 83, 89, 83, 47, 120]⟩ : ByteArray)).bind fun t154 => (if t154 = true then (if t146 = 121 then (some (t148 == 120)) else (some false)) else (some false))) = some r := by rw [if_neg (show ¬ (false = true) by decide)] at H; exact H
            clear H
            have H := H1
            clear H1
            replace H := Option.bind_eq_some_iff.mp H
            obtain ⟨t154, A250, H⟩ := H
            replace H : (if t154 = true then (if t146 = 121 then (some (t148 == 120)) else (some false)) else (some false)) = some r := H
            have A25 := Aside0.mk A250
            clear A250
            by_cases c26 : t154 = true
            · subst c26
              have H1 : (if t146 = 121 then (some (t148 == 120)) else (some false)) = some r := by rw [if_pos rfl] at H; exact H
              clear H
              have H := H1
              clear H1
              by_cases c27 : t146 = 121
              · rw [if_pos c27] at H
                have c27b0 : (t146 == 121) = true := beq_iff_eq.mpr c27
                have c27b1 : (t146 != 121) = false := bne_eq_false_iff_eq.mpr c27
                clear c27
                obtain rfl := Option.some.inj H
                go_enter Tryd.func14, Tryd.ntmps14
                go_wp2_with (first | ((with_reducible refine gate_callee (f := 9) rfl ?_); refine goesL_ (some 6) rfl rfl Tryd.func9 (by kernel_rfl) rfl #[.string (⟨#[97, 35]⟩ : ByteArray), .string (⟨#[97]⟩ : ByteArray)] rfl (by (try simp only [List.map_toArray, List.map_cons, List.map_nil]); first | done | rfl | (simp only [List.length_drop, List.length_take]; rfl)) ?_; (with_reducible refine (topic_Matches.calls (⟨#[97, 35]⟩ : ByteArray) (⟨#[97]⟩ : ByteArray) t145 t146 _ (Go.Proofs.YtlfigadjbnikiaaDoor.Top.Laid.below hLd_ (by repeat (first | (with_reducible first | exact HB.out | apply below_alloc | apply pw_below_drewN | apply below_drew1) | exact HB.out))) A1.out).mono ?_); rintro e w28 ⟨rfl, hb⟩; refine ⟨_, rfl, ?_⟩; have n0_ := Aside0.mk (below_step (by repeat (first | (with_reducible first | exact HB.out | apply below_alloc | apply pw_below_drewN | apply below_drew1) | exact HB.out)) hb); clear HB; have HB := n0_; clear n0_; (try clear hb); (try clear hb2); (try clear hk); (try clear hi)) | ((with_reducible refine gate_callee (f := 9) rfl ?_); refine goesL_ (some 10) rfl rfl Tryd.func9 (by kernel_rfl) rfl #[.string (⟨#[97]⟩ : ByteArray), .string (⟨#[97, 47, 43]⟩ : ByteArray)] rfl (by (try simp only [List.map_toArray, List.map_cons, List.map_nil]); first | done | rfl | (simp only [List.length_drop, List.length_take]; rfl)) ?_; (with_reducible refine (topic_Matches.calls (⟨#[97]⟩ : ByteArray) (⟨#[97, 47, 43]⟩ : ByteArray) t147 t148 _ (Go.Proofs.YtlfigadjbnikiaaDoor.Top.Laid.below hLd_ (by repeat (first | (with_reducible first | exact HB.out | apply below_alloc | apply pw_below_drewN | apply below_drew1) | exact HB.out))) A2.out).mono ?_); rintro e w29 ⟨rfl, hb⟩; refine ⟨_, rfl, ?_⟩; have n0_ := Aside0.mk (below_step (by repeat (first | (with_reducible first | exact HB.out | apply below_alloc | apply pw_below_drewN | apply below_drew1) | exact HB.out)) hb); clear HB; have HB := n0_; clear n0_; (try clear hb); (try clear hb2); (try clear hk); (try clear hi)) | ((with_reducible refine gate_callee (f := 16) rfl ?_); refine goesL_ (some 13) rfl rfl Tryd.func16 (by kernel_rfl) rfl #[.string (⟨#[97, 47, 35]⟩ : ByteArray), .string (⟨#[97]⟩ : ByteArray)] rfl (by (try simp only [List.map_toArray, List.map_cons, List.map_nil]); first | done | rfl | (simp only [List.length_drop, List.length_take]; rfl)) ?_; (with_reducible refine (basculelaw12_takes.calls (⟨#[97, 47, 35]⟩ : ByteArray) (⟨#[97]⟩ : ByteArray) true _ (Go.Proofs.YtlfigadjbnikiaaDoor.Top.Laid.below hLd_ (by repeat (first | (with_reducible first | exact HB.out | apply below_alloc | apply pw_below_drewN | apply below_drew1) | exact HB.out))) A3.out).mono ?_); rintro e w30 ⟨rfl, hb⟩; refine ⟨_, rfl, ?_⟩; have n0_ := Aside0.mk (below_step (by repeat (first | (with_reducible first | exact HB.out | apply below_alloc | apply pw_below_drewN | apply below_drew1) | exact HB.out)) hb); clear HB; have HB := n0_; clear n0_; (try clear hb); (try clear hb2); (try clear hk); (try clear hi)) | (go_at_call 16; (with_reducible refine (basculelaw12_takes.calls (⟨#[97, 47, 35]⟩ : ByteArray) (⟨#[97, 47, 98, 47, 99]⟩ : ByteArray) true _ (Go.Proofs.YtlfigadjbnikiaaDoor.Top.Laid.below hLd_ (by repeat (first | (with_reducible first | exact HB.out | apply below_alloc | apply pw_below_drewN | apply below_drew1) | exact HB.out))) A5.out).mono ?_); rintro e w31 ⟨rfl, hb⟩; have n0_ := Aside0.mk (below_step (by repeat (first | (with_reducible first | exact HB.out | apply below_alloc | apply pw_below_drewN | apply below_drew1) | exact HB.out)) hb); clear HB; have HB := n0_; clear n0_; (try clear hb); (try clear hb2); (try clear hk); (try clear hi)) | (go_at_call 16; (with_reducible refine (basculelaw12_takes.calls (⟨#[97, 47, 35]⟩ : ByteArray) (⟨#[97, 98]⟩ : ByteArray) false _ (Go.Proofs.YtlfigadjbnikiaaDoor.Top.Laid.below hLd_ (by repeat (first | (with_reducible first | exact HB.out | apply below_alloc | apply pw_below_drewN | apply below_drew1) | exact HB.out))) A7.out).mono ?_); rintro e w32 ⟨rfl, hb⟩; have n0_ := Aside0.mk (below_step (by repeat (first | (with_reducible first | exact HB.out | apply below_alloc | apply pw_below_drewN | apply below_drew1) | exact HB.out)) hb); clear HB; have HB := n0_; clear n0_; (try clear hb); (try clear hb2); (try clear hk); (try clear hi)) | (go_at_call 16; (with_reducible refine (basculelaw12_takes.calls (⟨#[43, 47, 43]⟩ : ByteArray) (⟨#[47, 98]⟩ : ByteArray) true _ (Go.Proofs.YtlfigadjbnikiaaDoor.Top.Laid.below hLd_ (by repeat (first | (with_reducible first | exact HB.out | apply below_alloc | apply pw_below_drewN | apply below_drew1) | exact HB.out))) A14.out).mono ?_); rintro e w33 ⟨rfl, hb⟩; have n0_ := Aside0.mk (below_step (by repeat (first | (with_reducible first | exact HB.out | apply below_alloc | apply pw_below_drewN | apply below_drew1) | exact HB.out)) hb); clear HB; have HB := n0_; clear n0_; (try clear hb); (try clear hb2); (try clear hk); (try clear hi)) | (go_at_call 16; (with_reducible refine (basculelaw12_takes.calls (⟨#[35]⟩ : ByteArray) (⟨#[36, 83, 89, 83, 47, 120]⟩ : ByteArray) false _ (Go.Proofs.YtlfigadjbnikiaaDoor.Top.Laid.below hLd_ (by repeat (first | (with_reducible first | exact HB.out | apply below_alloc | apply pw_below_drewN | apply below_drew1) | exact HB.out))) A16.out).mono ?_); rintro e w34 ⟨rfl, hb⟩; have n0_ := Aside0.mk (below_step (by repeat (first | (with_reducible first | exact HB.out | apply below_alloc | apply pw_below_drewN | apply below_drew1) | exact HB.out)) hb); clear HB; have HB := n0_; clear n0_; (try clear hb); (try clear hb2); (try clear hk); (try clear hi)) | (go_at_call 16; (with_reducible refine (basculelaw12_takes.calls (⟨#[36, 83, 89, 83, 47, 35]⟩ : ByteArray) (⟨#[36, 83, 89, 83, 47, 120]⟩ : ByteArray) true _ (Go.Proofs.YtlfigadjbnikiaaDoor.Top.Laid.below hLd_ (by repeat (first | (with_reducible first | exact HB.out | apply below_alloc | apply pw_below_drewN | apply below_drew1) | exact HB.out))) A25.out).mono ?_); rintro e w35 ⟨rfl, hb⟩; have n0_ := Aside0.mk (below_step (by repeat (first | (with_reducible first | exact HB.out | apply below_alloc | apply pw_below_drewN | apply below_drew1) | exact HB.out)) hb); clear HB; have HB := n0_; clear n0_; (try clear hb); (try clear hb2); (try clear hk); (try clear hi)))
                go_ret
                exact ⟨by first | rfl | (simp [errW_none, errW_some] <;> rfl) | (simp [*, errW_none, errW_some] <;> rfl), by repeat (first | (with_reducible first | exact HB.out | apply below_alloc | apply pw_below_drewN | apply below_drew1) | exact HB.out)⟩
              · rw [if_neg c27] at H
                have c27b0 : (t146 == 121) = false := beq_eq_false_iff_ne.mpr c27
                have c27b1 : (t146 != 121) = true := bne_iff_ne.mpr c27
                obtain rfl := Option.some.inj H
                go_enter Tryd.func14, Tryd.ntmps14
                go_wp2_with (first | ((with_reducible refine gate_callee (f := 9) rfl ?_); refine goesL_ (some 6) rfl rfl Tryd.func9 (by kernel_rfl) rfl #[.string (⟨#[97, 35]⟩ : ByteArray), .string (⟨#[97]⟩ : ByteArray)] rfl (by (try simp only [List.map_toArray, List.map_cons, List.map_nil]); first | done | rfl | (simp only [List.length_drop, List.length_take]; rfl)) ?_; (with_reducible refine (topic_Matches.calls (⟨#[97, 35]⟩ : ByteArray) (⟨#[97]⟩ : ByteArray) t145 t146 _ (Go.Proofs.YtlfigadjbnikiaaDoor.Top.Laid.below hLd_ (by repeat (first | (with_reducible first | exact HB.out | apply below_alloc | apply pw_below_drewN | apply below_drew1) | exact HB.out))) A1.out).mono ?_); rintro e w36 ⟨rfl, hb⟩; refine ⟨_, rfl, ?_⟩; have n0_ := Aside0.mk (below_step (by repeat (first | (with_reducible first | exact HB.out | apply below_alloc | apply pw_below_drewN | apply below_drew1) | exact HB.out)) hb); clear HB; have HB := n0_; clear n0_; (try clear hb); (try clear hb2); (try clear hk); (try clear hi)) | ((with_reducible refine gate_callee (f := 9) rfl ?_); refine goesL_ (some 10) rfl rfl Tryd.func9 (by kernel_rfl) rfl #[.string (⟨#[97]⟩ : ByteArray), .string (⟨#[97, 47, 43]⟩ : ByteArray)] rfl (by (try simp only [List.map_toArray, List.map_cons, List.map_nil]); first | done | rfl | (simp only [List.length_drop, List.length_take]; rfl)) ?_; (with_reducible refine (topic_Matches.calls (⟨#[97]⟩ : ByteArray) (⟨#[97, 47, 43]⟩ : ByteArray) t147 t148 _ (Go.Proofs.YtlfigadjbnikiaaDoor.Top.Laid.below hLd_ (by repeat (first | (with_reducible first | exact HB.out | apply below_alloc | apply pw_below_drewN | apply below_drew1) | exact HB.out))) A2.out).mono ?_); rintro e w37 ⟨rfl, hb⟩; refine ⟨_, rfl, ?_⟩; have n0_ := Aside0.mk (below_step (by repeat (first | (with_reducible first | exact HB.out | apply below_alloc | apply pw_below_drewN | apply below_drew1) | exact HB.out)) hb); clear HB; have HB := n0_; clear n0_; (try clear hb); (try clear hb2); (try clear hk); (try clear hi)) | ((with_reducible refine gate_callee (f := 16) rfl ?_); refine goesL_ (some 13) rfl rfl Tryd.func16 (by kernel_rfl) rfl #[.string (⟨#[97, 47, 35]⟩ : ByteArray), .string (⟨#[97]⟩ : ByteArray)] rfl (by (try simp only [List.map_toArray, List.map_cons, List.map_nil]); first | done | rfl | (simp only [List.length_drop, List.length_take]; rfl)) ?_; (with_reducible refine (basculelaw12_takes.calls (⟨#[97, 47, 35]⟩ : ByteArray) (⟨#[97]⟩ : ByteArray) true _ (Go.Proofs.YtlfigadjbnikiaaDoor.Top.Laid.below hLd_ (by repeat (first | (with_reducible first | exact HB.out | apply below_alloc | apply pw_below_drewN | apply below_drew1) | exact HB.out))) A3.out).mono ?_); rintro e w38 ⟨rfl, hb⟩; refine ⟨_, rfl, ?_⟩; have n0_ := Aside0.mk (below_step (by repeat (first | (with_reducible first | exact HB.out | apply below_alloc | apply pw_below_drewN | apply below_drew1) | exact HB.out)) hb); clear HB; have HB := n0_; clear n0_; (try clear hb); (try clear hb2); (try clear hk); (try clear hi)) | (go_at_call 16; (with_reducible refine (basculelaw12_takes.calls (⟨#[97, 47, 35]⟩ : ByteArray) (⟨#[97, 47, 98, 47, 99]⟩ : ByteArray) true _ (Go.Proofs.YtlfigadjbnikiaaDoor.Top.Laid.below hLd_ (by repeat (first | (with_reducible first | exact HB.out | apply below_alloc | apply pw_below_drewN | apply below_drew1) | exact HB.out))) A5.out).mono ?_); rintro e w39 ⟨rfl, hb⟩; have n0_ := Aside0.mk (below_step (by repeat (first | (with_reducible first | exact HB.out | apply below_alloc | apply pw_below_drewN | apply below_drew1) | exact HB.out)) hb); clear HB; have HB := n0_; clear n0_; (try clear hb); (try clear hb2); (try clear hk); (try clear hi)) | (go_at_call 16; (with_reducible refine (basculelaw12_takes.calls (⟨#[97, 47, 35]⟩ : ByteArray) (⟨#[97, 98]⟩ : ByteArray) false _ (Go.Proofs.YtlfigadjbnikiaaDoor.Top.Laid.below hLd_ (by repeat (first | (with_reducible first | exact HB.out | apply below_alloc | apply pw_below_drewN | apply below_drew1) | exact HB.out))) A7.out).mono ?_); rintro e w40 ⟨rfl, hb⟩; have n0_ := Aside0.mk (below_step (by repeat (first | (with_reducible first | exact HB.out | apply below_alloc | apply pw_below_drewN | apply below_drew1) | exact HB.out)) hb); clear HB; have HB := n0_; clear n0_; (try clear hb); (try clear hb2); (try clear hk); (try clear hi)) | (go_at_call 16; (with_reducible refine (basculelaw12_takes.calls (⟨#[43, 47, 43]⟩ : ByteArray) (⟨#[47, 98]⟩ : ByteArray) true _ (Go.Proofs.YtlfigadjbnikiaaDoor.Top.Laid.below hLd_ (by repeat (first | (with_reducible first | exact HB.out | apply below_alloc | apply pw_below_drewN | apply below_drew1) | exact HB.out))) A14.out).mono ?_); rintro e w41 ⟨rfl, hb⟩; have n0_ := Aside0.mk (below_step (by repeat (first | (with_reducible first | exact HB.out | apply below_alloc | apply pw_below_drewN | apply below_drew1) | exact HB.out)) hb); clear HB; have HB := n0_; clear n0_; (try clear hb); (try clear hb2); (try clear hk); (try clear hi)) | (go_at_call 16; (with_reducible refine (basculelaw12_takes.calls (⟨#[35]⟩ : ByteArray) (⟨#[36, 83, 89, 83, 47, 120]⟩ : ByteArray) false _ (Go.Proofs.YtlfigadjbnikiaaDoor.Top.Laid.below hLd_ (by repeat (first | (with_reducible first | exact HB.out | apply below_alloc | apply pw_below_drewN | apply below_drew1) | exact HB.out))) A16.out).mono ?_); rintro e w42 ⟨rfl, hb⟩; have n0_ := Aside0.mk (below_step (by repeat (first | (with_reducible first | exact HB.out | apply below_alloc | apply pw_below_drewN | apply below_drew1) | exact HB.out)) hb); clear HB; have HB := n0_; clear n0_; (try clear hb); (try clear hb2); (try clear hk); (try clear hi)) | (go_at_call 16; (with_reducible refine (basculelaw12_takes.calls (⟨#[36, 83, 89, 83, 47, 35]⟩ : ByteArray) (⟨#[36, 83, 89, 83, 47, 120]⟩ : ByteArray) true _ (Go.Proofs.YtlfigadjbnikiaaDoor.Top.Laid.below hLd_ (by repeat (first | (with_reducible first | exact HB.out | apply below_alloc | apply pw_below_drewN | apply below_drew1) | exact HB.out))) A25.out).mono ?_); rintro e w43 ⟨rfl, hb⟩; have n0_ := Aside0.mk (below_step (by repeat (first | (with_reducible first | exact HB.out | apply below_alloc | apply pw_below_drewN | apply below_drew1) | exact HB.out)) hb); clear HB; have HB := n0_; clear n0_; (try clear hb); (try clear hb2); (try clear hk); (try clear hi)))
                go_ret
                exact ⟨by first | rfl | (simp [errW_none, errW_some] <;> rfl) | (simp [*, errW_none, errW_some] <;> rfl), by repeat (first | (with_reducible first | exact HB.out | apply below_alloc | apply pw_below_drewN | apply below_drew1) | exact HB.out)⟩
            · replace c26 := Bool.eq_false_iff.mpr c26
              subst c26
              have H1 : (some false) = some r := by rw [if_neg (show ¬ (false = true) by decide)] at H; exact H
              clear H
              have H := H1
              clear H1
              obtain rfl := Option.some.inj H
              go_enter Tryd.func14, Tryd.ntmps14
              go_wp2_with (first | ((with_reducible refine gate_callee (f := 9) rfl ?_); refine goesL_ (some 6) rfl rfl Tryd.func9 (by kernel_rfl) rfl #[.string (⟨#[97, 35]⟩ : ByteArray), .string (⟨#[97]⟩ : ByteArray)] rfl (by (try simp only [List.map_toArray, List.map_cons, List.map_nil]); first | done | rfl | (simp only [List.length_drop, List.length_take]; rfl)) ?_; (with_reducible refine (topic_Matches.calls (⟨#[97, 35]⟩ : ByteArray) (⟨#[97]⟩ : ByteArray) t145 t146 _ (Go.Proofs.YtlfigadjbnikiaaDoor.Top.Laid.below hLd_ (by repeat (first | (with_reducible first | exact HB.out | apply below_alloc | apply pw_below_drewN | apply below_drew1) | exact HB.out))) A1.out).mono ?_); rintro e w44 ⟨rfl, hb⟩; refine ⟨_, rfl, ?_⟩; have n0_ := Aside0.mk (below_step (by repeat (first | (with_reducible first | exact HB.out | apply below_alloc | apply pw_below_drewN | apply below_drew1) | exact HB.out)) hb); clear HB; have HB := n0_; clear n0_; (try clear hb); (try clear hb2); (try clear hk); (try clear hi)) | ((with_reducible refine gate_callee (f := 9) rfl ?_); refine goesL_ (some 10) rfl rfl Tryd.func9 (by kernel_rfl) rfl #[.string (⟨#[97]⟩ : ByteArray), .string (⟨#[97, 47, 43]⟩ : ByteArray)] rfl (by (try simp only [List.map_toArray, List.map_cons, List.map_nil]); first | done | rfl | (simp only [List.length_drop, List.length_take]; rfl)) ?_; (with_reducible refine (topic_Matches.calls (⟨#[97]⟩ : ByteArray) (⟨#[97, 47, 43]⟩ : ByteArray) t147 t148 _ (Go.Proofs.YtlfigadjbnikiaaDoor.Top.Laid.below hLd_ (by repeat (first | (with_reducible first | exact HB.out | apply below_alloc | apply pw_below_drewN | apply below_drew1) | exact HB.out))) A2.out).mono ?_); rintro e w45 ⟨rfl, hb⟩; refine ⟨_, rfl, ?_⟩; have n0_ := Aside0.mk (below_step (by repeat (first | (with_reducible first | exact HB.out | apply below_alloc | apply pw_below_drewN | apply below_drew1) | exact HB.out)) hb); clear HB; have HB := n0_; clear n0_; (try clear hb); (try clear hb2); (try clear hk); (try clear hi)) | ((with_reducible refine gate_callee (f := 16) rfl ?_); refine goesL_ (some 13) rfl rfl Tryd.func16 (by kernel_rfl) rfl #[.string (⟨#[97, 47, 35]⟩ : ByteArray), .string (⟨#[97]⟩ : ByteArray)] rfl (by (try simp only [List.map_toArray, List.map_cons, List.map_nil]); first | done | rfl | (simp only [List.length_drop, List.length_take]; rfl)) ?_; (with_reducible refine (basculelaw12_takes.calls (⟨#[97, 47, 35]⟩ : ByteArray) (⟨#[97]⟩ : ByteArray) true _ (Go.Proofs.YtlfigadjbnikiaaDoor.Top.Laid.below hLd_ (by repeat (first | (with_reducible first | exact HB.out | apply below_alloc | apply pw_below_drewN | apply below_drew1) | exact HB.out))) A3.out).mono ?_); rintro e w46 ⟨rfl, hb⟩; refine ⟨_, rfl, ?_⟩; have n0_ := Aside0.mk (below_step (by repeat (first | (with_reducible first | exact HB.out | apply below_alloc | apply pw_below_drewN | apply below_drew1) | exact HB.out)) hb); clear HB; have HB := n0_; clear n0_; (try clear hb); (try clear hb2); (try clear hk); (try clear hi)) | (go_at_call 16; (with_reducible refine (basculelaw12_takes.calls (⟨#[97, 47, 35]⟩ : ByteArray) (⟨#[97, 47, 98, 47, 99]⟩ : ByteArray) true _ (Go.Proofs.YtlfigadjbnikiaaDoor.Top.Laid.below hLd_ (by repeat (first | (with_reducible first | exact HB.out | apply below_alloc | apply pw_below_drewN | apply below_drew1) | exact HB.out))) A5.out).mono ?_); rintro e w47 ⟨rfl, hb⟩; have n0_ := Aside0.mk (below_step (by repeat (first | (with_reducible first | exact HB.out | apply below_alloc | apply pw_below_drewN | apply below_drew1) | exact HB.out)) hb); clear HB; have HB := n0_; clear n0_; (try clear hb); (try clear hb2); (try clear hk); (try clear hi)) | (go_at_call 16; (with_reducible refine (basculelaw12_takes.calls (⟨#[97, 47, 35]⟩ : ByteArray) (⟨#[97, 98]⟩ : ByteArray) false _ (Go.Proofs.YtlfigadjbnikiaaDoor.Top.Laid.below hLd_ (by repeat (first | (with_reducible first | exact HB.out | apply below_alloc | apply pw_below_drewN | apply below_drew1) | exact HB.out))) A7.out).mono ?_); rintro e w48 ⟨rfl, hb⟩; have n0_ := Aside0.mk (below_step (by repeat (first | (with_reducible first | exact HB.out | apply below_alloc | apply pw_below_drewN | apply below_drew1) | exact HB.out)) hb); clear HB; have HB := n0_; clear n0_; (try clear hb); (try clear hb2); (try clear hk); (try clear hi)) | (go_at_call 16; (with_reducible refine (basculelaw12_takes.calls (⟨#[43, 47, 43]⟩ : ByteArray) (⟨#[47, 98]⟩ : ByteArray) true _ (Go.Proofs.YtlfigadjbnikiaaDoor.Top.Laid.below hLd_ (by repeat (first | (with_reducible first | exact HB.out | apply below_alloc | apply pw_below_drewN | apply below_drew1) | exact HB.out))) A14.out).mono ?_); rintro e w49 ⟨rfl, hb⟩; have n0_ := Aside0.mk (below_step (by repeat (first | (with_reducible first | exact HB.out | apply below_alloc | apply pw_below_drewN | apply below_drew1) | exact HB.out)) hb); clear HB; have HB := n0_; clear n0_; (try clear hb); (try clear hb2); (try clear hk); (try clear hi)) | (go_at_call 16; (with_reducible refine (basculelaw12_takes.calls (⟨#[35]⟩ : ByteArray) (⟨#[36, 83, 89, 83, 47, 120]⟩ : ByteArray) false _ (Go.Proofs.YtlfigadjbnikiaaDoor.Top.Laid.below hLd_ (by repeat (first | (with_reducible first | exact HB.out | apply below_alloc | apply pw_below_drewN | apply below_drew1) | exact HB.out))) A16.out).mono ?_); rintro e w50 ⟨rfl, hb⟩; have n0_ := Aside0.mk (below_step (by repeat (first | (with_reducible first | exact HB.out | apply below_alloc | apply pw_below_drewN | apply below_drew1) | exact HB.out)) hb); clear HB; have HB := n0_; clear n0_; (try clear hb); (try clear hb2); (try clear hk); (try clear hi)) | (go_at_call 16; (with_reducible refine (basculelaw12_takes.calls (⟨#[36, 83, 89, 83, 47, 35]⟩ : ByteArray) (⟨#[36, 83, 89, 83, 47, 120]⟩ : ByteArray) false _ (Go.Proofs.YtlfigadjbnikiaaDoor.Top.Laid.below hLd_ (by repeat (first | (with_reducible first | exact HB.out | apply below_alloc | apply pw_below_drewN | apply below_drew1) | exact HB.out))) A25.out).mono ?_); rintro e w51 ⟨rfl, hb⟩; have n0_ := Aside0.mk (below_step (by repeat (first | (with_reducible first | exact HB.out | apply below_alloc | apply pw_below_drewN | apply below_drew1) | exact HB.out)) hb); clear HB; have HB := n0_; clear n0_; (try clear hb); (try clear hb2); (try clear hk); (try clear hi)))
              go_ret
              exact ⟨by first | rfl | (simp [errW_none, errW_some] <;> rfl) | (simp [*, errW_none, errW_some] <;> rfl), by repeat (first | (with_reducible first | exact HB.out | apply below_alloc | apply pw_below_drewN | apply below_drew1) | exact HB.out)⟩
        · replace c15 := Bool.eq_false_iff.mpr c15
          subst c15
          have H1 : (some false) = some r := by rw [if_neg (show ¬ (false = true) by decide)] at H; exact H
          clear H
          have H := H1
          clear H1
          obtain rfl := Option.some.inj H
          go_enter Tryd.func14, Tryd.ntmps14
          go_wp2_with (first | ((with_reducible refine gate_callee (f := 9) rfl ?_); refine goesL_ (some 6) rfl rfl Tryd.func9 (by kernel_rfl) rfl #[.string (⟨#[97, 35]⟩ : ByteArray), .string (⟨#[97]⟩ : ByteArray)] rfl (by (try simp only [List.map_toArray, List.map_cons, List.map_nil]); first | done | rfl | (simp only [List.length_drop, List.length_take]; rfl)) ?_; (with_reducible refine (topic_Matches.calls (⟨#[97, 35]⟩ : ByteArray) (⟨#[97]⟩ : ByteArray) t145 t146 _ (Go.Proofs.YtlfigadjbnikiaaDoor.Top.Laid.below hLd_ (by repeat (first | (with_reducible first | exact HB.out | apply below_alloc | apply pw_below_drewN | apply below_drew1) | exact HB.out))) A1.out).mono ?_); rintro e w52 ⟨rfl, hb⟩; refine ⟨_, rfl, ?_⟩; have n0_ := Aside0.mk (below_step (by repeat (first | (with_reducible first | exact HB.out | apply below_alloc | apply pw_below_drewN | apply below_drew1) | exact HB.out)) hb); clear HB; have HB := n0_; clear n0_; (try clear hb); (try clear hb2); (try clear hk); (try clear hi)) | ((with_reducible refine gate_callee (f := 9) rfl ?_); refine goesL_ (some 10) rfl rfl Tryd.func9 (by kernel_rfl) rfl #[.string (⟨#[97]⟩ : ByteArray), .string (⟨#[97, 47, 43]⟩ : ByteArray)] rfl (by (try simp only [List.map_toArray, List.map_cons, List.map_nil]); first | done | rfl | (simp only [List.length_drop, List.length_take]; rfl)) ?_; (with_reducible refine (topic_Matches.calls (⟨#[97]⟩ : ByteArray) (⟨#[97, 47, 43]⟩ : ByteArray) t147 t148 _ (Go.Proofs.YtlfigadjbnikiaaDoor.Top.Laid.below hLd_ (by repeat (first | (with_reducible first | exact HB.out | apply below_alloc | apply pw_below_drewN | apply below_drew1) | exact HB.out))) A2.out).mono ?_); rintro e w53 ⟨rfl, hb⟩; refine ⟨_, rfl, ?_⟩; have n0_ := Aside0.mk (below_step (by repeat (first | (with_reducible first | exact HB.out | apply below_alloc | apply pw_below_drewN | apply below_drew1) | exact HB.out)) hb); clear HB; have HB := n0_; clear n0_; (try clear hb); (try clear hb2); (try clear hk); (try clear hi)) | ((with_reducible refine gate_callee (f := 16) rfl ?_); refine goesL_ (some 13) rfl rfl Tryd.func16 (by kernel_rfl) rfl #[.string (⟨#[97, 47, 35]⟩ : ByteArray), .string (⟨#[97]⟩ : ByteArray)] rfl (by (try simp only [List.map_toArray, List.map_cons, List.map_nil]); first | done | rfl | (simp only [List.length_drop, List.length_take]; rfl)) ?_; (with_reducible refine (basculelaw12_takes.calls (⟨#[97, 47, 35]⟩ : ByteArray) (⟨#[97]⟩ : ByteArray) true _ (Go.Proofs.YtlfigadjbnikiaaDoor.Top.Laid.below hLd_ (by repeat (first | (with_reducible first | exact HB.out | apply below_alloc | apply pw_below_drewN | apply below_drew1) | exact HB.out))) A3.out).mono ?_); rintro e w54 ⟨rfl, hb⟩; refine ⟨_, rfl, ?_⟩; have n0_ := Aside0.mk (below_step (by repeat (first | (with_reducible first | exact HB.out | apply below_alloc | apply pw_below_drewN | apply below_drew1) | exact HB.out)) hb); clear HB; have HB := n0_; clear n0_; (try clear hb); (try clear hb2); (try clear hk); (try clear hi)) | (go_at_call 16; (with_reducible refine (basculelaw12_takes.calls (⟨#[97, 47, 35]⟩ : ByteArray) (⟨#[97, 47, 98, 47, 99]⟩ : ByteArray) true _ (Go.Proofs.YtlfigadjbnikiaaDoor.Top.Laid.below hLd_ (by repeat (first | (with_reducible first | exact HB.out | apply below_alloc | apply pw_below_drewN | apply below_drew1) | exact HB.out))) A5.out).mono ?_); rintro e w55 ⟨rfl, hb⟩; have n0_ := Aside0.mk (below_step (by repeat (first | (with_reducible first | exact HB.out | apply below_alloc | apply pw_below_drewN | apply below_drew1) | exact HB.out)) hb); clear HB; have HB := n0_; clear n0_; (try clear hb); (try clear hb2); (try clear hk); (try clear hi)) | (go_at_call 16; (with_reducible refine (basculelaw12_takes.calls (⟨#[97, 47, 35]⟩ : ByteArray) (⟨#[97, 98]⟩ : ByteArray) false _ (Go.Proofs.YtlfigadjbnikiaaDoor.Top.Laid.below hLd_ (by repeat (first | (with_reducible first | exact HB.out | apply below_alloc | apply pw_below_drewN | apply below_drew1) | exact HB.out))) A7.out).mono ?_); rintro e w56 ⟨rfl, hb⟩; have n0_ := Aside0.mk (below_step (by repeat (first | (with_reducible first | exact HB.out | apply below_alloc | apply pw_below_drewN | apply below_drew1) | exact HB.out)) hb); clear HB; have HB := n0_; clear n0_; (try clear hb); (try clear hb2); (try clear hk); (try clear hi)) | (go_at_call 16; (with_reducible refine (basculelaw12_takes.calls (⟨#[43, 47, 43]⟩ : ByteArray) (⟨#[47, 98]⟩ : ByteArray) false _ (Go.Proofs.YtlfigadjbnikiaaDoor.Top.Laid.below hLd_ (by repeat (first | (with_reducible first | exact HB.out | apply below_alloc | apply pw_below_drewN | apply below_drew1) | exact HB.out))) A14.out).mono ?_); rintro e w57 ⟨rfl, hb⟩; have n0_ := Aside0.mk (below_step (by repeat (first | (with_reducible first | exact HB.out | apply below_alloc | apply pw_below_drewN | apply below_drew1) | exact HB.out)) hb); clear HB; have HB := n0_; clear n0_; (try clear hb); (try clear hb2); (try clear hk); (try clear hi)))
          go_ret
          exact ⟨by first | rfl | (simp [errW_none, errW_some] <;> rfl) | (simp [*, errW_none, errW_some] <;> rfl), by repeat (first | (with_reducible first | exact HB.out | apply below_alloc | apply pw_below_drewN | apply below_drew1) | exact HB.out)⟩
    · replace c6 := Bool.eq_false_iff.mpr c6
      subst c6
      have H1 : (some false) = some r := by rw [if_neg (show ¬ (false = true) by decide)] at H; exact H
      clear H
      have H := H1
      clear H1
      obtain rfl := Option.some.inj H
      go_enter Tryd.func14, Tryd.ntmps14
      go_wp2_with (first | ((with_reducible refine gate_callee (f := 9) rfl ?_); refine goesL_ (some 6) rfl rfl Tryd.func9 (by kernel_rfl) rfl #[.string (⟨#[97, 35]⟩ : ByteArray), .string (⟨#[97]⟩ : ByteArray)] rfl (by (try simp only [List.map_toArray, List.map_cons, List.map_nil]); first | done | rfl | (simp only [List.length_drop, List.length_take]; rfl)) ?_; (with_reducible refine (topic_Matches.calls (⟨#[97, 35]⟩ : ByteArray) (⟨#[97]⟩ : ByteArray) t145 t146 _ (Go.Proofs.YtlfigadjbnikiaaDoor.Top.Laid.below hLd_ (by repeat (first | (with_reducible first | exact HB.out | apply below_alloc | apply pw_below_drewN | apply below_drew1) | exact HB.out))) A1.out).mono ?_); rintro e w58 ⟨rfl, hb⟩; refine ⟨_, rfl, ?_⟩; have n0_ := Aside0.mk (below_step (by repeat (first | (with_reducible first | exact HB.out | apply below_alloc | apply pw_below_drewN | apply below_drew1) | exact HB.out)) hb); clear HB; have HB := n0_; clear n0_; (try clear hb); (try clear hb2); (try clear hk); (try clear hi)) | ((with_reducible refine gate_callee (f := 9) rfl ?_); refine goesL_ (some 10) rfl rfl Tryd.func9 (by kernel_rfl) rfl #[.string (⟨#[97]⟩ : ByteArray), .string (⟨#[97, 47, 43]⟩ : ByteArray)] rfl (by (try simp only [List.map_toArray, List.map_cons, List.map_nil]); first | done | rfl | (simp only [List.length_drop, List.length_take]; rfl)) ?_; (with_reducible refine (topic_Matches.calls (⟨#[97]⟩ : ByteArray) (⟨#[97, 47, 43]⟩ : ByteArray) t147 t148 _ (Go.Proofs.YtlfigadjbnikiaaDoor.Top.Laid.below hLd_ (by repeat (first | (with_reducible first | exact HB.out | apply below_alloc | apply pw_below_drewN | apply below_drew1) | exact HB.out))) A2.out).mono ?_); rintro e w59 ⟨rfl, hb⟩; refine ⟨_, rfl, ?_⟩; have n0_ := Aside0.mk (below_step (by repeat (first | (with_reducible first | exact HB.out | apply below_alloc | apply pw_below_drewN | apply below_drew1) | exact HB.out)) hb); clear HB; have HB := n0_; clear n0_; (try clear hb); (try clear hb2); (try clear hk); (try clear hi)) | ((with_reducible refine gate_callee (f := 16) rfl ?_); refine goesL_ (some 13) rfl rfl Tryd.func16 (by kernel_rfl) rfl #[.string (⟨#[97, 47, 35]⟩ : ByteArray), .string (⟨#[97]⟩ : ByteArray)] rfl (by (try simp only [List.map_toArray, List.map_cons, List.map_nil]); first | done | rfl | (simp only [List.length_drop, List.length_take]; rfl)) ?_; (with_reducible refine (basculelaw12_takes.calls (⟨#[97, 47, 35]⟩ : ByteArray) (⟨#[97]⟩ : ByteArray) true _ (Go.Proofs.YtlfigadjbnikiaaDoor.Top.Laid.below hLd_ (by repeat (first | (with_reducible first | exact HB.out | apply below_alloc | apply pw_below_drewN | apply below_drew1) | exact HB.out))) A3.out).mono ?_); rintro e w60 ⟨rfl, hb⟩; refine ⟨_, rfl, ?_⟩; have n0_ := Aside0.mk (below_step (by repeat (first | (with_reducible first | exact HB.out | apply below_alloc | apply pw_below_drewN | apply below_drew1) | exact HB.out)) hb); clear HB; have HB := n0_; clear n0_; (try clear hb); (try clear hb2); (try clear hk); (try clear hi)) | (go_at_call 16; (with_reducible refine (basculelaw12_takes.calls (⟨#[97, 47, 35]⟩ : ByteArray) (⟨#[97, 47, 98, 47, 99]⟩ : ByteArray) false _ (Go.Proofs.YtlfigadjbnikiaaDoor.Top.Laid.below hLd_ (by repeat (first | (with_reducible first | exact HB.out | apply below_alloc | apply pw_below_drewN | apply below_drew1) | exact HB.out))) A5.out).mono ?_); rintro e w61 ⟨rfl, hb⟩; have n0_ := Aside0.mk (below_step (by repeat (first | (with_reducible first | exact HB.out | apply below_alloc | apply pw_below_drewN | apply below_drew1) | exact HB.out)) hb); clear HB; have HB := n0_; clear n0_; (try clear hb); (try clear hb2); (try clear hk); (try clear hi)))
      go_ret
      exact ⟨by first | rfl | (simp [errW_none, errW_some] <;> rfl) | (simp [*, errW_none, errW_some] <;> rfl), by repeat (first | (with_reducible first | exact HB.out | apply below_alloc | apply pw_below_drewN | apply below_drew1) | exact HB.out)⟩
  · replace c4 := Bool.eq_false_iff.mpr c4
    subst c4
    have H1 : (some false) = some r := by rw [if_neg (show ¬ (false = true) by decide)] at H; exact H
    clear H
    have H := H1
    clear H1
    obtain rfl := Option.some.inj H
    go_enter Tryd.func14, Tryd.ntmps14
    go_wp2_with (first | ((with_reducible refine gate_callee (f := 9) rfl ?_); refine goesL_ (some 6) rfl rfl Tryd.func9 (by kernel_rfl) rfl #[.string (⟨#[97, 35]⟩ : ByteArray), .string (⟨#[97]⟩ : ByteArray)] rfl (by (try simp only [List.map_toArray, List.map_cons, List.map_nil]); first | done | rfl | (simp only [List.length_drop, List.length_take]; rfl)) ?_; (with_reducible refine (topic_Matches.calls (⟨#[97, 35]⟩ : ByteArray) (⟨#[97]⟩ : ByteArray) t145 t146 _ (Go.Proofs.YtlfigadjbnikiaaDoor.Top.Laid.below hLd_ (by repeat (first | (with_reducible first | exact HB.out | apply below_alloc | apply pw_below_drewN | apply below_drew1) | exact HB.out))) A1.out).mono ?_); rintro e w62 ⟨rfl, hb⟩; refine ⟨_, rfl, ?_⟩; have n0_ := Aside0.mk (below_step (by repeat (first | (with_reducible first | exact HB.out | apply below_alloc | apply pw_below_drewN | apply below_drew1) | exact HB.out)) hb); clear HB; have HB := n0_; clear n0_; (try clear hb); (try clear hb2); (try clear hk); (try clear hi)) | ((with_reducible refine gate_callee (f := 9) rfl ?_); refine goesL_ (some 10) rfl rfl Tryd.func9 (by kernel_rfl) rfl #[.string (⟨#[97]⟩ : ByteArray), .string (⟨#[97, 47, 43]⟩ : ByteArray)] rfl (by (try simp only [List.map_toArray, List.map_cons, List.map_nil]); first | done | rfl | (simp only [List.length_drop, List.length_take]; rfl)) ?_; (with_reducible refine (topic_Matches.calls (⟨#[97]⟩ : ByteArray) (⟨#[97, 47, 43]⟩ : ByteArray) t147 t148 _ (Go.Proofs.YtlfigadjbnikiaaDoor.Top.Laid.below hLd_ (by repeat (first | (with_reducible first | exact HB.out | apply below_alloc | apply pw_below_drewN | apply below_drew1) | exact HB.out))) A2.out).mono ?_); rintro e w63 ⟨rfl, hb⟩; refine ⟨_, rfl, ?_⟩; have n0_ := Aside0.mk (below_step (by repeat (first | (with_reducible first | exact HB.out | apply below_alloc | apply pw_below_drewN | apply below_drew1) | exact HB.out)) hb); clear HB; have HB := n0_; clear n0_; (try clear hb); (try clear hb2); (try clear hk); (try clear hi)) | ((with_reducible refine gate_callee (f := 16) rfl ?_); refine goesL_ (some 13) rfl rfl Tryd.func16 (by kernel_rfl) rfl #[.string (⟨#[97, 47, 35]⟩ : ByteArray), .string (⟨#[97]⟩ : ByteArray)] rfl (by (try simp only [List.map_toArray, List.map_cons, List.map_nil]); first | done | rfl | (simp only [List.length_drop, List.length_take]; rfl)) ?_; (with_reducible refine (basculelaw12_takes.calls (⟨#[97, 47, 35]⟩ : ByteArray) (⟨#[97]⟩ : ByteArray) false _ (Go.Proofs.YtlfigadjbnikiaaDoor.Top.Laid.below hLd_ (by repeat (first | (with_reducible first | exact HB.out | apply below_alloc | apply pw_below_drewN | apply below_drew1) | exact HB.out))) A3.out).mono ?_); rintro e w64 ⟨rfl, hb⟩; refine ⟨_, rfl, ?_⟩; have n0_ := Aside0.mk (below_step (by repeat (first | (with_reducible first | exact HB.out | apply below_alloc | apply pw_below_drewN | apply below_drew1) | exact HB.out)) hb); clear HB; have HB := n0_; clear n0_; (try clear hb); (try clear hb2); (try clear hk); (try clear hi)))
    go_ret
    exact ⟨by first | rfl | (simp [errW_none, errW_some] <;> rfl) | (simp [*, errW_none, errW_some] <;> rfl), by repeat (first | (with_reducible first | exact HB.out | apply below_alloc | apply pw_below_drewN | apply below_drew1) | exact HB.out)⟩

end Go.Proofs.YtlfigadjbnikiaaDoor.Q
