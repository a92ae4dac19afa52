-- Printed by a program of this session's own (wip/print/oprint.py), over hand-made contracts: not trusted, Lean checks it.
import Derived.Test.YtlfigadjbnikiaaDoorQx0
import Derived.Test.YtlfigadjbnikiaaDoorQx1
import Derived.Test.YtlfigadjbnikiaaDoorQx2
import Derived.Test.YtlfigadjbnikiaaDoorQx3
namespace Go.Proofs.YtlfigadjbnikiaaDoor.Q
open Go.RowKit Go.Proofs.YtlfigadjbnikiaaDoorW.PrintWords Go.Proofs.YtlfigadjbnikiaaDoorW.PrintLast Go.Proofs.YtlfigadjbnikiaaDoorW.PrintMore
attribute [local go_sem] max2_int min2_int max_two min_two max_three min_three max_four min_four   -- for this text's walks alone
set_option linter.unusedVariables false
set_option linter.unusedSimpArgs false

/-! ### basculelaw12_TopicLevels: function 5 -/
mutual
def basculelaw12_TopicLevels.j0 : Nat → ByteArray → ByteArray → ByteArray → Bool → Option (Bool)
  | 0, _, _, _, _ => none
  | k + 1, x0, x1, x2, x40 => if x40 = true then (some true) else (basculelaw12_TopicLevels.l0 k x0 x1 x2 0)
def basculelaw12_TopicLevels.l0 : Nat → ByteArray → ByteArray → ByteArray → Int → Option (Bool)
  | 0, _, _, _, _ => none
  | k + 1, x0, x1, x2, x7 => if x7 < (x2.size : Int) then (if 0 ≤ x7 then (if (bt x2 x7) = 47 then (some true) else (basculelaw12_TopicLevels.l0 k x0 x1 x2 (wrap64 (x7 + 1)))) else (none)) else (if x1.size + 1 ≤ 9223372036854775807 then (if (x1 ++ (⟨#[47]⟩ : ByteArray)).size + x2.size ≤ 9223372036854775807 then ((basculeref12_Name.f k ((x1 ++ (⟨#[47]⟩ : ByteArray)) ++ x2)).bind fun t197 => (if t197 = true then ((basculelaw12_takes.f x0 x1).bind fun t199 => (if x0.size + 1 ≤ 9223372036854775807 then (if (x0 ++ (⟨#[47]⟩ : ByteArray)).size + x2.size ≤ 9223372036854775807 then ((basculelaw12_takes.f ((x0 ++ (⟨#[47]⟩ : ByteArray)) ++ x2) ((x1 ++ (⟨#[47]⟩ : ByteArray)) ++ x2)).bind fun t200 => (if (t200 != t199) = true then (basculelaw12_TopicLevels.j2 k x0 x1 ((x1 ++ (⟨#[47]⟩ : ByteArray)) ++ x2) t199 true) else (if x0.size + 2 ≤ 9223372036854775807 then ((basculelaw12_takes.f (x0 ++ (⟨#[47, 43]⟩ : ByteArray)) ((x1 ++ (⟨#[47]⟩ : ByteArray)) ++ x2)).bind fun t201 => (basculelaw12_TopicLevels.j2 k x0 x1 ((x1 ++ (⟨#[47]⟩ : ByteArray)) ++ x2) t199 (t201 != t199))) else (none)))) else (none)) else (none))) else ((basculelaw12_awake.f).bind fun t198 => (some t198)))) else (none)) else (none))
def basculelaw12_TopicLevels.j2 : Nat → ByteArray → ByteArray → ByteArray → Bool → Bool → Option (Bool)
  | 0, _, _, _, _, _ => none
  | k + 1, x0, x1, x8, x9, x77 => if x77 = true then (some false) else ((basculelaw12_awake.f).bind fun t202 => (if t202 = true then (if x9 = true then (if x0.size + 2 ≤ 9223372036854775807 then ((basculelaw12_takes.f (x0 ++ (⟨#[47, 35]⟩ : ByteArray)) x1).bind fun t203 => (if t203 = true then ((basculelaw12_takes.f (x0 ++ (⟨#[47, 35]⟩ : ByteArray)) x8).bind fun t204 => (some t204)) else (some false))) else (none)) else (some true)) else (some false)))
end
def basculelaw12_TopicLevels.f (k : Nat) (a0 : ByteArray) (a1 : ByteArray) (a2 : ByteArray) : Option (Bool) := (basculelaw12_small.f a0).bind fun t192 => (if t192 = true then ((basculelaw12_small.f a1).bind fun t193 => (if t193 = true then ((basculelaw12_small.f a2).bind fun t194 => (if t194 = true then ((basculeref12_Filter.f k a0).bind fun t195 => (if t195 = true then ((basculeref12_Name.f k a1).bind fun t196 => (if t196 = true then (if 0 ≤ (wrap64 ((a0.size : Int) - 1)) then (if (wrap64 ((a0.size : Int) - 1)) < (a0.size : Int) then (basculelaw12_TopicLevels.j0 k a0 a1 a2 ((bt a0 (wrap64 ((a0.size : Int) - 1))) == 35)) else (none)) else (none)) else (basculelaw12_TopicLevels.j0 k a0 a1 a2 true))) else (basculelaw12_TopicLevels.j0 k a0 a1 a2 true))) else (basculelaw12_TopicLevels.j0 k a0 a1 a2 true))) else (basculelaw12_TopicLevels.j0 k a0 a1 a2 true))) else (basculelaw12_TopicLevels.j0 k a0 a1 a2 true))
theorem basculelaw12_TopicLevels.mono_l : ∀ k, (∀ y0 y1 y2 y3, LeO (basculelaw12_TopicLevels.j0 k y0 y1 y2 y3) (basculelaw12_TopicLevels.j0 (k + 1) y0 y1 y2 y3)) ∧ (∀ y0 y1 y2 y3, LeO (basculelaw12_TopicLevels.l0 k y0 y1 y2 y3) (basculelaw12_TopicLevels.l0 (k + 1) y0 y1 y2 y3)) ∧ (∀ y0 y1 y2 y3 y4, LeO (basculelaw12_TopicLevels.j2 k y0 y1 y2 y3 y4) (basculelaw12_TopicLevels.j2 (k + 1) y0 y1 y2 y3 y4))
  | 0 => ⟨fun _ _ _ _ r h => by simp [basculelaw12_TopicLevels.j0] at h, fun _ _ _ _ r h => by simp [basculelaw12_TopicLevels.l0] at h, fun _ _ _ _ _ r h => by simp [basculelaw12_TopicLevels.j2] at h⟩
  | k + 1 => by
    obtain ⟨ih0, ih1, ih2⟩ := basculelaw12_TopicLevels.mono_l k
    refine ⟨?_, ?_, ?_⟩
    · intro y0 y1 y2 y3
      unfold basculelaw12_TopicLevels.j0
      repeat' first
      | (with_reducible exact ih0 _ _ _ _)
      | (with_reducible exact ih1 _ _ _ _)
      | (with_reducible exact ih2 _ _ _ _ _)
      | (with_reducible exact basculeref12_Filter.mono _ _)
      | (with_reducible exact basculeref12_Name.mono _ _)
      | (with_reducible exact LeO.refl _)
      | (with_reducible exact LeO.none _)
      | (with_reducible refine LeO.ite ?_ ?_)
      | (with_reducible refine LeO.bind ?_ (fun _ => ?_))
      | exact ih0 _ _ _ _
      | exact ih1 _ _ _ _
      | exact ih2 _ _ _ _ _
      | exact basculeref12_Filter.mono _ _
      | exact basculeref12_Name.mono _ _
      | exact LeO.none _
      | refine LeO.ite ?_ ?_
      | refine LeO.bind ?_ (fun _ => ?_)
    · intro y0 y1 y2 y3
      unfold basculelaw12_TopicLevels.l0
      repeat' first
      | (with_reducible exact ih0 _ _ _ _)
      | (with_reducible exact ih1 _ _ _ _)
      | (with_reducible exact ih2 _ _ _ _ _)
      | (with_reducible exact basculeref12_Filter.mono _ _)
      | (with_reducible exact basculeref12_Name.mono _ _)
      | (with_reducible exact LeO.refl _)
      | (with_reducible exact LeO.none _)
      | (with_reducible refine LeO.ite ?_ ?_)
      | (with_reducible refine LeO.bind ?_ (fun _ => ?_))
      | exact ih0 _ _ _ _
      | exact ih1 _ _ _ _
      | exact ih2 _ _ _ _ _
      | exact basculeref12_Filter.mono _ _
      | exact basculeref12_Name.mono _ _
      | exact LeO.none _
      | refine LeO.ite ?_ ?_
      | refine LeO.bind ?_ (fun _ => ?_)
    · intro y0 y1 y2 y3 y4
      unfold basculelaw12_TopicLevels.j2
      repeat' first
      | (with_reducible exact ih0 _ _ _ _)
      | (with_reducible exact ih1 _ _ _ _)
      | (with_reducible exact ih2 _ _ _ _ _)
      | (with_reducible exact basculeref12_Filter.mono _ _)
      | (with_reducible exact basculeref12_Name.mono _ _)
      | (with_reducible exact LeO.refl _)
      | (with_reducible exact LeO.none _)
      | (with_reducible refine LeO.ite ?_ ?_)
      | (with_reducible refine LeO.bind ?_ (fun _ => ?_))
      | exact ih0 _ _ _ _
      | exact ih1 _ _ _ _
      | exact ih2 _ _ _ _ _
      | exact basculeref12_Filter.mono _ _
      | exact basculeref12_Name.mono _ _
      | exact LeO.none _
      | refine LeO.ite ?_ ?_
      | refine LeO.bind ?_ (fun _ => ?_)
theorem basculelaw12_TopicLevels.mono : ∀ a0 a1 a2 k, LeO (basculelaw12_TopicLevels.f k a0 a1 a2) (basculelaw12_TopicLevels.f (k + 1) a0 a1 a2) := by
  intro a0 a1 a2 k
  obtain ⟨ih0, ih1, ih2⟩ := basculelaw12_TopicLevels.mono_l k
  unfold basculelaw12_TopicLevels.f
  repeat' first
      | (with_reducible exact ih0 _ _ _ _)
      | (with_reducible exact ih1 _ _ _ _)
      | (with_reducible exact ih2 _ _ _ _ _)
      | (with_reducible exact basculeref12_Filter.mono _ _)
      | (with_reducible exact basculeref12_Name.mono _ _)
      | (with_reducible exact LeO.refl _)
      | (with_reducible exact LeO.none _)
      | (with_reducible refine LeO.ite ?_ ?_)
      | (with_reducible refine LeO.bind ?_ (fun _ => ?_))
      | exact ih0 _ _ _ _
      | exact ih1 _ _ _ _
      | exact ih2 _ _ _ _ _
      | exact basculeref12_Filter.mono _ _
      | exact basculeref12_Name.mono _ _
      | exact LeO.none _
      | refine LeO.ite ?_ ?_
      | refine LeO.bind ?_ (fun _ => ?_)
set_option maxHeartbeats 8000000 in
set_option maxRecDepth 100000 in
theorem basculelaw12_TopicLevels.calls (k : Nat) (a0 : ByteArray) (a1 : ByteArray) (a2 : ByteArray) (r : Bool) (w : World) (hLd_ : Go.Proofs.YtlfigadjbnikiaaDoor.Top.Laid w) (h : basculelaw12_TopicLevels.f k a0 a1 a2 = some r) :
    Calls Tryd.prog 5 #[.string a0, .string a1, .string a2] w fun e w' => e = .returned (.bool r) ∧ Below w.heap.size w w' := by
  have HB := Aside0.mk (Below.refl w.heap.size w)
  have H : ((basculelaw12_small.f a0).bind fun t192 => (if t192 = true then ((basculelaw12_small.f a1).bind fun t193 => (if t193 = true then ((basculelaw12_small.f a2).bind fun t194 => (if t194 = true then ((basculeref12_Filter.f k a0).bind fun t195 => (if t195 = true then ((basculeref12_Name.f k a1).bind fun t196 => (if t196 = true then (if 0 ≤ (wrap64 ((a0.size : Int) - 1)) then (if (wrap64 ((a0.size : Int) - 1)) < (a0.size : Int) then (basculelaw12_TopicLevels.j0 k a0 a1 a2 ((bt a0 (wrap64 ((a0.size : Int) - 1))) == 35)) else (none)) else (none)) else (basculelaw12_TopicLevels.j0 k a0 a1 a2 true))) else (basculelaw12_TopicLevels.j0 k a0 a1 a2 true))) else (basculelaw12_TopicLevels.j0 k a0 a1 a2 true))) else (basculelaw12_TopicLevels.j0 k a0 a1 a2 true))) else (basculelaw12_TopicLevels.j0 k a0 a1 a2 true))) = some r := h
  clear h
  have HC4 := Aside0.mk H
  clear H
  go_enter Tryd.func5, Tryd.ntmps5
  go_upto_region 1 with (fail)
  go_cut [40] (fun v40 wc => ∃ (kq : Nat) (x40_3 : Bool), v40 = .bool x40_3 ∧ Aside0 (basculelaw12_TopicLevels.j0 kq a0 a1 a2 x40_3 = some r) ∧ Aside0 (kq ≤ k) ∧ Aside0 (Below w.heap.size w wc))
  case first =>
    have H := HC4.out
    clear HC4
    replace H := Option.bind_eq_some_iff.mp H
    obtain ⟨t192, A50, H⟩ := H
    replace H : (if t192 = true then ((basculelaw12_small.f a1).bind fun t193 => (if t193 = true then ((basculelaw12_small.f a2).bind fun t194 => (if t194 = true then ((basculeref12_Filter.f k a0).bind fun t195 => (if t195 = true then ((basculeref12_Name.f k a1).bind fun t196 => (if t196 = true then (if 0 ≤ (wrap64 ((a0.size : Int) - 1)) then (if (wrap64 ((a0.size : Int) - 1)) < (a0.size : Int) then (basculelaw12_TopicLevels.j0 k a0 a1 a2 ((bt a0 (wrap64 ((a0.size : Int) - 1))) == 35)) else (none)) else (none)) else (basculelaw12_TopicLevels.j0 k a0 a1 a2 true))) else (basculelaw12_TopicLevels.j0 k a0 a1 a2 true))) else (basculelaw12_TopicLevels.j0 k a0 a1 a2 true))) else (basculelaw12_TopicLevels.j0 k a0 a1 a2 true))) else (basculelaw12_TopicLevels.j0 k a0 a1 a2 true)) = some r := H
    have A5 := Aside0.mk A50
    clear A50
    by_cases c6 : t192 = true
    · subst c6
      have H1 : ((basculelaw12_small.f a1).bind fun t193 => (if t193 = true then ((basculelaw12_small.f a2).bind fun t194 => (if t194 = true then ((basculeref12_Filter.f k a0).bind fun t195 => (if t195 = true then ((basculeref12_Name.f k a1).bind fun t196 => (if t196 = true then (if 0 ≤ (wrap64 ((a0.size : Int) - 1)) then (if (wrap64 ((a0.size : Int) - 1)) < (a0.size : Int) then (basculelaw12_TopicLevels.j0 k a0 a1 a2 ((bt a0 (wrap64 ((a0.size : Int) - 1))) == 35)) else (none)) else (none)) else (basculelaw12_TopicLevels.j0 k a0 a1 a2 true))) else (basculelaw12_TopicLevels.j0 k a0 a1 a2 true))) else (basculelaw12_TopicLevels.j0 k a0 a1 a2 true))) else (basculelaw12_TopicLevels.j0 k a0 a1 a2 true))) = some r := by rw [if_pos rfl] at H; exact H
      clear H
      have H := H1
      clear H1
      replace H := Option.bind_eq_some_iff.mp H
      obtain ⟨t193, A70, H⟩ := H
      replace H : (if t193 = true then ((basculelaw12_small.f a2).bind fun t194 => (if t194 = true then ((basculeref12_Filter.f k a0).bind fun t195 => (if t195 = true then ((basculeref12_Name.f k a1).bind fun t196 => (if t196 = true then (if 0 ≤ (wrap64 ((a0.size : Int) - 1)) then (if (wrap64 ((a0.size : Int) - 1)) < (a0.size : Int) then (basculelaw12_TopicLevels.j0 k a0 a1 a2 ((bt a0 (wrap64 ((a0.size : Int) - 1))) == 35)) else (none)) else (none)) else (basculelaw12_TopicLevels.j0 k a0 a1 a2 true))) else (basculelaw12_TopicLevels.j0 k a0 a1 a2 true))) else (basculelaw12_TopicLevels.j0 k a0 a1 a2 true))) else (basculelaw12_TopicLevels.j0 k a0 a1 a2 true)) = some r := H
      have A7 := Aside0.mk A70
      clear A70
      by_cases c8 : t193 = true
      · subst c8
        have H1 : ((basculelaw12_small.f a2).bind fun t194 => (if t194 = true then ((basculeref12_Filter.f k a0).bind fun t195 => (if t195 = true then ((basculeref12_Name.f k a1).bind fun t196 => (if t196 = true then (if 0 ≤ (wrap64 ((a0.size : Int) - 1)) then (if (wrap64 ((a0.size : Int) - 1)) < (a0.size : Int) then (basculelaw12_TopicLevels.j0 k a0 a1 a2 ((bt a0 (wrap64 ((a0.size : Int) - 1))) == 35)) else (none)) else (none)) else (basculelaw12_TopicLevels.j0 k a0 a1 a2 true))) else (basculelaw12_TopicLevels.j0 k a0 a1 a2 true))) else (basculelaw12_TopicLevels.j0 k a0 a1 a2 true))) = some r := by rw [if_pos rfl] at H; exact H
        clear H
        have H := H1
        clear H1
        replace H := Option.bind_eq_some_iff.mp H
        obtain ⟨t194, A90, H⟩ := H
        replace H : (if t194 = true then ((basculeref12_Filter.f k a0).bind fun t195 => (if t195 = true then ((basculeref12_Name.f k a1).bind fun t196 => (if t196 = true then (if 0 ≤ (wrap64 ((a0.size : Int) - 1)) then (if (wrap64 ((a0.size : Int) - 1)) < (a0.size : Int) then (basculelaw12_TopicLevels.j0 k a0 a1 a2 ((bt a0 (wrap64 ((a0.size : Int) - 1))) == 35)) else (none)) else (none)) else (basculelaw12_TopicLevels.j0 k a0 a1 a2 true))) else (basculelaw12_TopicLevels.j0 k a0 a1 a2 true))) else (basculelaw12_TopicLevels.j0 k a0 a1 a2 true)) = some r := H
        have A9 := Aside0.mk A90
        clear A90
        by_cases c10 : t194 = true
        · subst c10
          have H1 : ((basculeref12_Filter.f k a0).bind fun t195 => (if t195 = true then ((basculeref12_Name.f k a1).bind fun t196 => (if t196 = true then (if 0 ≤ (wrap64 ((a0.size : Int) - 1)) then (if (wrap64 ((a0.size : Int) - 1)) < (a0.size : Int) then (basculelaw12_TopicLevels.j0 k a0 a1 a2 ((bt a0 (wrap64 ((a0.size : Int) - 1))) == 35)) else (none)) else (none)) else (basculelaw12_TopicLevels.j0 k a0 a1 a2 true))) else (basculelaw12_TopicLevels.j0 k a0 a1 a2 true))) = some r := by rw [if_pos rfl] at H; exact H
          clear H
          have H := H1
          clear H1
          replace H := Option.bind_eq_some_iff.mp H
          obtain ⟨t195, A110, H⟩ := H
          replace H : (if t195 = true then ((basculeref12_Name.f k a1).bind fun t196 => (if t196 = true then (if 0 ≤ (wrap64 ((a0.size : Int) - 1)) then (if (wrap64 ((a0.size : Int) - 1)) < (a0.size : Int) then (basculelaw12_TopicLevels.j0 k a0 a1 a2 ((bt a0 (wrap64 ((a0.size : Int) - 1))) == 35)) else (none)) else (none)) else (basculelaw12_TopicLevels.j0 k a0 a1 a2 true))) else (basculelaw12_TopicLevels.j0 k a0 a1 a2 true)) = some r := H
          have A11 := Aside0.mk A110
          clear A110
          by_cases c12 : t195 = true
          · subst c12
            have H1 : ((basculeref12_Name.f k a1).bind fun t196 => (if t196 = true then (if 0 ≤ (wrap64 ((a0.size : Int) - 1)) then (if (wrap64 ((a0.size : Int) - 1)) < (a0.size : Int) then (basculelaw12_TopicLevels.j0 k a0 a1 a2 ((bt a0 (wrap64 ((a0.size : Int) - 1))) == 35)) else (none)) else (none)) else (basculelaw12_TopicLevels.j0 k a0 a1 a2 true))) = some r := by rw [if_pos rfl] at H; exact H
            clear H
            have H := H1
            clear H1
            replace H := Option.bind_eq_some_iff.mp H
            obtain ⟨t196, A130, H⟩ := H
            replace H : (if t196 = true then (if 0 ≤ (wrap64 ((a0.size : Int) - 1)) then (if (wrap64 ((a0.size : Int) - 1)) < (a0.size : Int) then (basculelaw12_TopicLevels.j0 k a0 a1 a2 ((bt a0 (wrap64 ((a0.size : Int) - 1))) == 35)) else (none)) else (none)) else (basculelaw12_TopicLevels.j0 k a0 a1 a2 true)) = some r := H
            have A13 := Aside0.mk A130
            clear A130
            by_cases c14 : t196 = true
            · subst c14
              have H1 : (if 0 ≤ (wrap64 ((a0.size : Int) - 1)) then (if (wrap64 ((a0.size : Int) - 1)) < (a0.size : Int) then (basculelaw12_TopicLevels.j0 k a0 a1 a2 ((bt a0 (wrap64 ((a0.size : Int) - 1))) == 35)) else (none)) else (none)) = some r := by rw [if_pos rfl] at H; exact H
              clear H
              have H := H1
              clear H1
              obtain ⟨ji15, hji15⟩ : ∃ j_ : Int, (wrap64 ((a0.size : Int) - 1)) = j_ := ⟨_, rfl⟩
              replace H : (if 0 ≤ (ji15) then (if (ji15) < (a0.size : Int) then (basculelaw12_TopicLevels.j0 k a0 a1 a2 ((bt a0 (ji15)) == 35)) else (none)) else (none)) = some r := by first | (rw [hji15] at H; exact H) | (simp only [hji15] at H ⊢; exact H)
              (try rw [hji15] at A5)
              (try rw [hji15] at A7)
              (try rw [hji15] at A9)
              (try rw [hji15] at A11)
              (try rw [hji15] at A13)
              have hji15w : (IntKind.i64.wrap ((a0.size : Int) - 1)) = ji15 := (i64_w _).trans hji15
              by_cases c16 : 0 ≤ (ji15)
              · rw [if_pos c16] at H
                have c16b0 : decide (0 ≤ (ji15)) = true := decide_eq_true c16
                clear c16
                (first | rw [c16b0] | (simp only [i64_w, i32_w]; rw [c16b0]) | skip)
                by_cases c17 : (ji15) < (a0.size : Int)
                · rw [if_pos c17] at H
                  have c17b0 : decide ((ji15) < (a0.size : Int)) = true := decide_eq_true c17
                  clear c17
                  have H' := Aside0.mk H
                  clear H
                  go_wp2_with (first | ((with_reducible refine gate_callee (f := 8) rfl ?_); refine goesL_ (some 11) rfl rfl Tryd.func8 (by kernel_rfl) rfl #[.string a0] rfl (by (try simp only [List.map_toArray, List.map_cons, List.map_nil]); first | done | rfl | (simp only [List.length_drop, List.length_take]; rfl)) ?_; (with_reducible refine (basculelaw12_small.calls a0 true _ A5.out).mono ?_); rintro e w' ⟨rfl, ⟨nd, rfl⟩⟩; refine ⟨_, rfl, ?_⟩) | (go_at_call 8; (with_reducible refine (basculelaw12_small.calls a1 true _ A7.out).mono ?_); rintro e w' ⟨rfl, ⟨nd, rfl⟩⟩) | (go_at_call 8; (with_reducible refine (basculelaw12_small.calls a2 true _ A9.out).mono ?_); rintro e w' ⟨rfl, ⟨nd, rfl⟩⟩) | (go_at_call 13; (with_reducible refine (basculeref12_Filter.calls k a0 true _ A11.out).mono ?_); rintro e w19 ⟨rfl, hb⟩; have n0_ := Aside0.mk (below_step (by repeat (first | (with_reducible first | exact HB.out | apply below_alloc | apply pw_below_drewN | apply below_drew1) | exact HB.out)) hb); clear HB; have HB := n0_; clear n0_; (try clear hb); (try clear hb2); (try clear hk); (try clear hi)) | (go_at_call 11; (with_reducible refine (basculeref12_Name.calls k a1 true _ A13.out).mono ?_); rintro e w20 ⟨rfl, hb⟩; have n0_ := Aside0.mk (below_step (by repeat (first | (with_reducible first | exact HB.out | apply below_alloc | apply pw_below_drewN | apply below_drew1) | exact HB.out)) hb); clear HB; have HB := n0_; clear n0_; (try clear hb); (try clear hb2); (try clear hk); (try clear hi); have p18 : 0 ≤ ((ji15) : Int) := of_decide_eq_true (by first | (with_reducible assumption) | assumption); have q18 : (ji15) < (a0.size : Int) := of_decide_eq_true (by first | (with_reducible assumption) | assumption); have hx18 := bt_at a0 (ji15); replace p18 := eq_true p18; replace q18 := eq_true q18))
                  go_meet
                  case rel => exact ⟨_, (((bt a0 (ji15)) == 35)), (by first | rfl | (simp; done) | (simp only [← hji15] <;> (first | rfl | simp)) | (simp [*]; done)), H', ⟨by first | omega | exact Nat.le_refl _⟩, ⟨by repeat (first | (with_reducible first | exact HB.out | apply below_alloc | apply pw_below_drewN | apply below_drew1) | exact HB.out)⟩⟩
                · rw [if_neg c17] at H
                  exact absurd H (by simp)
              · rw [if_neg c16] at H
                exact absurd H (by simp)
            · replace c14 := Bool.eq_false_iff.mpr c14
              subst c14
              have H1 : (basculelaw12_TopicLevels.j0 k a0 a1 a2 true) = some r := by rw [if_neg (show ¬ (false = true) by decide)] at H; exact H
              clear H
              have H := H1
              clear H1
              have H' := Aside0.mk H
              clear H
              go_wp2_with (first | ((with_reducible refine gate_callee (f := 8) rfl ?_); refine goesL_ (some 11) rfl rfl Tryd.func8 (by kernel_rfl) rfl #[.string a0] rfl (by (try simp only [List.map_toArray, List.map_cons, List.map_nil]); first | done | rfl | (simp only [List.length_drop, List.length_take]; rfl)) ?_; (with_reducible refine (basculelaw12_small.calls a0 true _ A5.out).mono ?_); rintro e w' ⟨rfl, ⟨nd, rfl⟩⟩; refine ⟨_, rfl, ?_⟩) | (go_at_call 8; (with_reducible refine (basculelaw12_small.calls a1 true _ A7.out).mono ?_); rintro e w' ⟨rfl, ⟨nd, rfl⟩⟩) | (go_at_call 8; (with_reducible refine (basculelaw12_small.calls a2 true _ A9.out).mono ?_); rintro e w' ⟨rfl, ⟨nd, rfl⟩⟩) | (go_at_call 13; (with_reducible refine (basculeref12_Filter.calls k a0 true _ A11.out).mono ?_); rintro e w21 ⟨rfl, hb⟩; have n0_ := Aside0.mk (below_step (by repeat (first | (with_reducible first | exact HB.out | apply below_alloc | apply pw_below_drewN | apply below_drew1) | exact HB.out)) hb); clear HB; have HB := n0_; clear n0_; (try clear hb); (try clear hb2); (try clear hk); (try clear hi)) | (go_at_call 11; (with_reducible refine (basculeref12_Name.calls k a1 false _ A13.out).mono ?_); rintro e w22 ⟨rfl, hb⟩; have n0_ := Aside0.mk (below_step (by repeat (first | (with_reducible first | exact HB.out | apply below_alloc | apply pw_below_drewN | apply below_drew1) | exact HB.out)) hb); clear HB; have HB := n0_; clear n0_; (try clear hb); (try clear hb2); (try clear hk); (try clear hi)))
              go_meet
              case rel => exact ⟨_, (true), (by first | rfl | (simp; done) | (simp [*]; done)), H', ⟨by first | omega | exact Nat.le_refl _⟩, ⟨by repeat (first | (with_reducible first | exact HB.out | apply below_alloc | apply pw_below_drewN | apply below_drew1) | exact HB.out)⟩⟩
          · replace c12 := Bool.eq_false_iff.mpr c12
            subst c12
            have H1 : (basculelaw12_TopicLevels.j0 k a0 a1 a2 true) = some r := by rw [if_neg (show ¬ (false = true) by decide)] at H; exact H
            clear H
            have H := H1
            clear H1
            have H' := Aside0.mk H
            clear H
            go_wp2_with (first | ((with_reducible refine gate_callee (f := 8) rfl ?_); refine goesL_ (some 11) rfl rfl Tryd.func8 (by kernel_rfl) rfl #[.string a0] rfl (by (try simp only [List.map_toArray, List.map_cons, List.map_nil]); first | done | rfl | (simp only [List.length_drop, List.length_take]; rfl)) ?_; (with_reducible refine (basculelaw12_small.calls a0 true _ A5.out).mono ?_); rintro e w' ⟨rfl, ⟨nd, rfl⟩⟩; refine ⟨_, rfl, ?_⟩) | (go_at_call 8; (with_reducible refine (basculelaw12_small.calls a1 true _ A7.out).mono ?_); rintro e w' ⟨rfl, ⟨nd, rfl⟩⟩) | (go_at_call 8; (with_reducible refine (basculelaw12_small.calls a2 true _ A9.out).mono ?_); rintro e w' ⟨rfl, ⟨nd, rfl⟩⟩) | (go_at_call 13; (with_reducible refine (basculeref12_Filter.calls k a0 false _ A11.out).mono ?_); rintro e w23 ⟨rfl, hb⟩; have n0_ := Aside0.mk (below_step (by repeat (first | (with_reducible first | exact HB.out | apply below_alloc | apply pw_below_drewN | apply below_drew1) | exact HB.out)) hb); clear HB; have HB := n0_; clear n0_; (try clear hb); (try clear hb2); (try clear hk); (try clear hi)))
            go_meet
            case rel => exact ⟨_, (true), (by first | rfl | (simp; done) | (simp [*]; done)), H', ⟨by first | omega | exact Nat.le_refl _⟩, ⟨by repeat (first | (with_reducible first | exact HB.out | apply below_alloc | apply pw_below_drewN | apply below_drew1) | exact HB.out)⟩⟩
        · replace c10 := Bool.eq_false_iff.mpr c10
          subst c10
          have H1 : (basculelaw12_TopicLevels.j0 k a0 a1 a2 true) = some r := by rw [if_neg (show ¬ (false = true) by decide)] at H; exact H
          clear H
          have H := H1
          clear H1
          have H' := Aside0.mk H
          clear H
          go_wp2_with (first | ((with_reducible refine gate_callee (f := 8) rfl ?_); refine goesL_ (some 11) rfl rfl Tryd.func8 (by kernel_rfl) rfl #[.string a0] rfl (by (try simp only [List.map_toArray, List.map_cons, List.map_nil]); first | done | rfl | (simp only [List.length_drop, List.length_take]; rfl)) ?_; (with_reducible refine (basculelaw12_small.calls a0 true _ A5.out).mono ?_); rintro e w' ⟨rfl, ⟨nd, rfl⟩⟩; refine ⟨_, rfl, ?_⟩) | (go_at_call 8; (with_reducible refine (basculelaw12_small.calls a1 true _ A7.out).mono ?_); rintro e w' ⟨rfl, ⟨nd, rfl⟩⟩) | (go_at_call 8; (with_reducible refine (basculelaw12_small.calls a2 false _ A9.out).mono ?_); rintro e w' ⟨rfl, ⟨nd, rfl⟩⟩))
          go_meet
          case rel => exact ⟨_, (true), (by first | rfl | (simp; done) | (simp [*]; done)), H', ⟨by first | omega | exact Nat.le_refl _⟩, ⟨by repeat (first | (with_reducible first | exact HB.out | apply below_alloc | apply pw_below_drewN | apply below_drew1) | exact HB.out)⟩⟩
      · replace c8 := Bool.eq_false_iff.mpr c8
        subst c8
        have H1 : (basculelaw12_TopicLevels.j0 k a0 a1 a2 true) = some r := by rw [if_neg (show ¬ (false = true) by decide)] at H; exact H
        clear H
        have H := H1
        clear H1
        have H' := Aside0.mk H
        clear H
        go_wp2_with (first | ((with_reducible refine gate_callee (f := 8) rfl ?_); refine goesL_ (some 11) rfl rfl Tryd.func8 (by kernel_rfl) rfl #[.string a0] rfl (by (try simp only [List.map_toArray, List.map_cons, List.map_nil]); first | done | rfl | (simp only [List.length_drop, List.length_take]; rfl)) ?_; (with_reducible refine (basculelaw12_small.calls a0 true _ A5.out).mono ?_); rintro e w' ⟨rfl, ⟨nd, rfl⟩⟩; refine ⟨_, rfl, ?_⟩) | (go_at_call 8; (with_reducible refine (basculelaw12_small.calls a1 false _ A7.out).mono ?_); rintro e w' ⟨rfl, ⟨nd, rfl⟩⟩))
        go_meet
        case rel => exact ⟨_, (true), (by first | rfl | (simp; done) | (simp [*]; done)), H', ⟨by first | omega | exact Nat.le_refl _⟩, ⟨by repeat (first | (with_reducible first | exact HB.out | apply below_alloc | apply pw_below_drewN | apply below_drew1) | exact HB.out)⟩⟩
    · replace c6 := Bool.eq_false_iff.mpr c6
      subst c6
      have H1 : (basculelaw12_TopicLevels.j0 k a0 a1 a2 true) = some r := by rw [if_neg (show ¬ (false = true) by decide)] at H; exact H
      clear H
      have H := H1
      clear H1
      have H' := Aside0.mk H
      clear H
      go_wp2_with (first | ((with_reducible refine gate_callee (f := 8) rfl ?_); refine goesL_ (some 11) rfl rfl Tryd.func8 (by kernel_rfl) rfl #[.string a0] rfl (by (try simp only [List.map_toArray, List.map_cons, List.map_nil]); first | done | rfl | (simp only [List.length_drop, List.length_take]; rfl)) ?_; (with_reducible refine (basculelaw12_small.calls a0 false _ A5.out).mono ?_); rintro e w' ⟨rfl, ⟨nd, rfl⟩⟩; refine ⟨_, rfl, ?_⟩))
      go_meet
      case rel => exact ⟨_, (true), (by first | rfl | (simp; done) | (simp [*]; done)), H', ⟨by first | omega | exact Nat.le_refl _⟩, ⟨by repeat (first | (with_reducible first | exact HB.out | apply below_alloc | apply pw_below_drewN | apply below_drew1) | exact HB.out)⟩⟩
  case rest =>
    clear HC4
    try clear c1
    try clear p1
    try clear q1
    try clear hx1
    try clear p2
    try clear c5
    try clear c6
    try clear p6
    try clear c8
    try clear c10
    try clear c12
    try clear c14
    try clear c16
    try clear c16b0
    try clear c17
    try clear c17b0
    try clear p18
    try clear q18
    try clear hx18
    try clear p18
    try clear q18
    obtain ⟨kq, x40_3, rfl, HA, HJ3, HB⟩ := hcut
    cases kq with
    | zero => exact absurd HA.out (by simp [basculelaw12_TopicLevels.j0])
    | succ kj3 =>
      have H := HA.out
      clear HA
      simp only [basculelaw12_TopicLevels.j0] at H
      by_cases c24 : x40_3 = true
      · subst c24
        have H1 : (some true) = some r := by rw [if_pos rfl] at H; exact H
        clear H
        have H := H1
        clear H1
        obtain rfl := Option.some.inj H
        go_wp2
        go_ret
        exact ⟨by first | rfl | (simp [errW_none, errW_some] <;> rfl) | (simp [*, errW_none, errW_some] <;> rfl), by repeat (first | (with_reducible first | exact HB.out | apply below_alloc | apply pw_below_drewN | apply below_drew1) | exact HB.out)⟩
      · replace c24 := Bool.eq_false_iff.mpr c24
        subst c24
        have H1 : (basculelaw12_TopicLevels.l0 kj3 a0 a1 a2 0) = some r := by rw [if_neg (show ¬ (false = true) by decide)] at H; exact H
        clear H
        have H := H1
        clear H1
        have H' := Aside0.mk H
        clear H
        go_wp2
        go_loopg [7] kj3 (fun kq v7 w' => ∃ (x7_2 : Int), v7 = .int .i64 x7_2 ∧ Aside0 (basculelaw12_TopicLevels.l0 kq a0 a1 a2 x7_2 = some r) ∧ Aside0 (kq ≤ kj3) ∧ Aside0 (Below w.heap.size w w'))
        case atStart => exact ⟨(0), (by first | rfl | (simp; done) | (simp [*]; done)), H', ⟨Nat.le_refl _⟩, ⟨by repeat (first | (with_reducible first | exact HB.out | apply below_alloc | apply pw_below_drewN | apply below_drew1) | exact HB.out)⟩⟩
        case round =>
          clear H'
          try clear c1
          try clear p1
          try clear q1
          try clear hx1
          try clear c2
          try clear p2
          try clear c5
          try clear c6
          try clear p6
          try clear c8
          try clear c10
          try clear c12
          try clear c14
          try clear c16
          try clear c16b0
          try clear c17
          try clear c17b0
          try clear p18
          try clear q18
          try clear hx18
          try clear c24
          try clear p1
          try clear p18
          try clear p2
          try clear p6
          try clear q1
          try clear q18
          obtain ⟨x7_2, rfl, HA, HK2, HB⟩ := hrel
          cases gk with
          | zero => exact absurd HA.out (by simp [basculelaw12_TopicLevels.l0])
          | succ k2 =>
            have H := HA.out
            clear HA
            simp only [basculelaw12_TopicLevels.l0] at H
            by_cases c25 : x7_2 < (a2.size : Int)
            · rw [if_pos c25] at H
              have c25b0 : decide (x7_2 < (a2.size : Int)) = true := decide_eq_true c25
              clear c25
              by_cases c26 : 0 ≤ x7_2
              · rw [if_pos c26] at H
                have c26b0 : decide (0 ≤ x7_2) = true := decide_eq_true c26
                clear c26
                by_cases c28 : (bt a2 x7_2) = 47
                · rw [if_pos c28] at H
                  have c28b0 : ((bt a2 x7_2) == 47) = true := beq_iff_eq.mpr c28
                  have c28b1 : ((bt a2 x7_2) != 47) = false := bne_eq_false_iff_eq.mpr c28
                  clear c28
                  obtain rfl := Option.some.inj H
                  have p27 : 0 ≤ (x7_2 : Int) := of_decide_eq_true (by first | (with_reducible assumption) | assumption)
                  have q27 : x7_2 < (a2.size : Int) := of_decide_eq_true (by first | (with_reducible assumption) | assumption)
                  have hx27 := bt_at a2 x7_2
                  replace p27 := eq_true p27
                  replace q27 := eq_true q27
                  go_wp2
                  go_ret
                  exact ⟨by first | rfl | (simp [errW_none, errW_some] <;> rfl) | (simp [*, errW_none, errW_some] <;> rfl), by repeat (first | (with_reducible first | exact HB.out | apply below_alloc | apply pw_below_drewN | apply below_drew1) | exact HB.out)⟩
                · rw [if_neg c28] at H
                  have c28b0 : ((bt a2 x7_2) == 47) = false := beq_eq_false_iff_ne.mpr c28
                  have c28b1 : ((bt a2 x7_2) != 47) = true := bne_iff_ne.mpr c28
                  have H' := Aside0.mk H
                  clear H
                  have p27 : 0 ≤ (x7_2 : Int) := of_decide_eq_true (by first | (with_reducible assumption) | assumption)
                  have q27 : x7_2 < (a2.size : Int) := of_decide_eq_true (by first | (with_reducible assumption) | assumption)
                  have hx27 := bt_at a2 x7_2
                  replace p27 := eq_true p27
                  replace q27 := eq_true q27
                  go_wp2
                  go_roundg k2
                  case measure => have := HJ3.out; have := HK2.out; omega
                  case rel => exact ⟨(wrap64 (x7_2 + 1)), (by first | rfl | (simp; done) | (simp [*]; done)), H', ⟨by have := HJ3.out; have := HK2.out; omega⟩, ⟨by repeat (first | (with_reducible first | exact HB.out | apply below_alloc | apply pw_below_drewN | apply below_drew1) | exact HB.out)⟩⟩
              · rw [if_neg c26] at H
                exact absurd H (by simp)
            · rw [if_neg c25] at H
              have c25b0 : decide (x7_2 < (a2.size : Int)) = false := decide_eq_false c25
              clear c25
              by_cases c29 : a1.size + 1 ≤ 9223372036854775807
              · rw [if_pos c29] at H
                have c29b0 := eq_true c29
                have c29b1 : decide (a1.size + 1 ≤ 9223372036854775807) = true := decide_eq_true c29
                try have c29b2 : (9223372036854775807 < a1.size + 1) = False := eq_false (Nat.not_lt.2 c29)
                by_cases c30 : (a1 ++ (⟨#[47]⟩ : ByteArray)).size + a2.size ≤ 9223372036854775807
                · rw [if_pos c30] at H
                  have c30b0 := eq_true c30
                  have c30b1 : decide ((a1 ++ (⟨#[47]⟩ : ByteArray)).size + a2.size ≤ 9223372036854775807) = true := decide_eq_true c30
                  try have c30b2 : (9223372036854775807 < (a1 ++ (⟨#[47]⟩ : ByteArray)).size + a2.size) = False := eq_false (Nat.not_lt.2 c30)
                  try have c30b7 : (9223372036854775807 < a1.size + 1 + a2.size) = False := eq_false (by have h9_ := c30; simp only [ByteArray.size_append] at h9_; simp only [ByteArray.size, List.size_toArray, List.length_cons, List.length_nil] at h9_ ⊢; omega)
                  replace H := Option.bind_eq_some_iff.mp H
                  obtain ⟨t197, A310, H⟩ := H
                  replace H : (if t197 = true then ((basculelaw12_takes.f a0 a1).bind fun t199 => (if a0.size + 1 ≤ 9223372036854775807 then (if (a0 ++ (⟨#[47]⟩ : ByteArray)).size + a2.size ≤ 9223372036854775807 then ((basculelaw12_takes.f ((a0 ++ (⟨#[47]⟩ : ByteArray)) ++ a2) ((a1 ++ (⟨#[47]⟩ : ByteArray)) ++ a2)).bind fun t200 => (if (t200 != t199) = true then (basculelaw12_TopicLevels.j2 k2 a0 a1 ((a1 ++ (⟨#[47]⟩ : ByteArray)) ++ a2) t199 true) else (if a0.size + 2 ≤ 9223372036854775807 then ((basculelaw12_takes.f (a0 ++ (⟨#[47, 43]⟩ : ByteArray)) ((a1 ++ (⟨#[47]⟩ : ByteArray)) ++ a2)).bind fun t201 => (basculelaw12_TopicLevels.j2 k2 a0 a1 ((a1 ++ (⟨#[47]⟩ : ByteArray)) ++ a2) t199 (t201 != t199))) else (none)))) else (none)) else (none))) else ((basculelaw12_awake.f).bind fun t198 => (some t198))) = some r := H
                  have A31 := Aside0.mk A310
                  clear A310
                  by_cases c32 : t197 = true
                  · subst c32
                    have H1 : ((basculelaw12_takes.f a0 a1).bind fun t199 => (if a0.size + 1 ≤ 9223372036854775807 then (if (a0 ++ (⟨#[47]⟩ : ByteArray)).size + a2.size ≤ 9223372036854775807 then ((basculelaw12_takes.f ((a0 ++ (⟨#[47]⟩ : ByteArray)) ++ a2) ((a1 ++ (⟨#[47]⟩ : ByteArray)) ++ a2)).bind fun t200 => (if (t200 != t199) = true then (basculelaw12_TopicLevels.j2 k2 a0 a1 ((a1 ++ (⟨#[47]⟩ : ByteArray)) ++ a2) t199 true) else (if a0.size + 2 ≤ 9223372036854775807 then ((basculelaw12_takes.f (a0 ++ (⟨#[47, 43]⟩ : ByteArray)) ((a1 ++ (⟨#[47]⟩ : ByteArray)) ++ a2)).bind fun t201 => (basculelaw12_TopicLevels.j2 k2 a0 a1 ((a1 ++ (⟨#[47]⟩ : ByteArray)) ++ a2) t199 (t201 != t199))) else (none)))) else (none)) else (none))) = some r := by rw [if_pos rfl] at H; exact H
                    clear H
                    have H := H1
                    clear H1
                    replace H := Option.bind_eq_some_iff.mp H
                    obtain ⟨t199, A330, H⟩ := H
                    replace H : (if a0.size + 1 ≤ 9223372036854775807 then (if (a0 ++ (⟨#[47]⟩ : ByteArray)).size + a2.size ≤ 9223372036854775807 then ((basculelaw12_takes.f ((a0 ++ (⟨#[47]⟩ : ByteArray)) ++ a2) ((a1 ++ (⟨#[47]⟩ : ByteArray)) ++ a2)).bind fun t200 => (if (t200 != t199) = true then (basculelaw12_TopicLevels.j2 k2 a0 a1 ((a1 ++ (⟨#[47]⟩ : ByteArray)) ++ a2) t199 true) else (if a0.size + 2 ≤ 9223372036854775807 then ((basculelaw12_takes.f (a0 ++ (⟨#[47, 43]⟩ : ByteArray)) ((a1 ++ (⟨#[47]⟩ : ByteArray)) ++ a2)).bind fun t201 => (basculelaw12_TopicLevels.j2 k2 a0 a1 ((a1 ++ (⟨#[47]⟩ : ByteArray)) ++ a2) t199 (t201 != t199))) else (none)))) else (none)) else (none)) = some r := H
                    have A33 := Aside0.mk A330
                    clear A330
                    have HC34 := Aside0.mk H
                    clear H
                    go_upto_region 12 with (first | ((with_reducible refine gate_callee (f := 11) rfl ?_); refine goesL_ (some 56) rfl rfl Tryd.func11 (by kernel_rfl) rfl #[.string ((a1 ++ (⟨#[47]⟩ : ByteArray)) ++ a2)] rfl (by (try simp only [List.map_toArray, List.map_cons, List.map_nil]); first | done | rfl | (simp only [List.length_drop, List.length_take]; rfl)) ?_; (with_reducible refine (basculeref12_Name.calls k2 ((a1 ++ (⟨#[47]⟩ : ByteArray)) ++ a2) true _ A31.out).mono ?_); rintro e w35 ⟨rfl, hb⟩; refine ⟨_, rfl, ?_⟩; have n0_ := Aside0.mk (below_step (by repeat (first | (with_reducible first | exact HB.out | apply below_alloc | apply pw_below_drewN | apply below_drew1) | exact HB.out)) hb); clear HB; have HB := n0_; clear n0_; (try clear hb); (try clear hb2); (try clear hk); (try clear hi)) | ((with_reducible refine gate_callee (f := 16) rfl ?_); refine goesL_ (some 61) rfl rfl Tryd.func16 (by kernel_rfl) rfl #[.string a0, .string a1] rfl (by (try simp only [List.map_toArray, List.map_cons, List.map_nil]); first | done | rfl | (simp only [List.length_drop, List.length_take]; rfl)) ?_; (with_reducible refine (basculelaw12_takes.calls a0 a1 t199 _ (Go.Proofs.YtlfigadjbnikiaaDoor.Top.Laid.below hLd_ (by repeat (first | (with_reducible first | exact HB.out | apply below_alloc | apply pw_below_drewN | apply below_drew1) | exact HB.out))) A33.out).mono ?_); rintro e w36 ⟨rfl, hb⟩; refine ⟨_, rfl, ?_⟩; have n0_ := Aside0.mk (below_step (by repeat (first | (with_reducible first | exact HB.out | apply below_alloc | apply pw_below_drewN | apply below_drew1) | exact HB.out)) hb); clear HB; have HB := n0_; clear n0_; (try clear hb); (try clear hb2); (try clear hk); (try clear hi)))
                    (try simp only [Act.put, List.setIfInBounds_toArray, List.set_cons_zero, List.set_cons_succ])
                    go_cut [77] (fun v77 wc => ∃ (kq : Nat) (x77_33 : Bool), v77 = .bool x77_33 ∧ Aside0 (basculelaw12_TopicLevels.j2 kq a0 a1 ((a1 ++ (⟨#[47]⟩ : ByteArray)) ++ a2) t199 x77_33 = some r) ∧ Aside0 (kq ≤ k2) ∧ Aside0 (Below w.heap.size w wc))
                    case first =>
                      have H := HC34.out
                      clear HC34
                      by_cases c37 : a0.size + 1 ≤ 9223372036854775807
                      · rw [if_pos c37] at H
                        have c37b0 := eq_true c37
                        have c37b1 : decide (a0.size + 1 ≤ 9223372036854775807) = true := decide_eq_true c37
                        try have c37b2 : (9223372036854775807 < a0.size + 1) = False := eq_false (Nat.not_lt.2 c37)
                        by_cases c38 : (a0 ++ (⟨#[47]⟩ : ByteArray)).size + a2.size ≤ 9223372036854775807
                        · rw [if_pos c38] at H
                          have c38b0 := eq_true c38
                          have c38b1 : decide ((a0 ++ (⟨#[47]⟩ : ByteArray)).size + a2.size ≤ 9223372036854775807) = true := decide_eq_true c38
                          try have c38b2 : (9223372036854775807 < (a0 ++ (⟨#[47]⟩ : ByteArray)).size + a2.size) = False := eq_false (Nat.not_lt.2 c38)
                          try have c38b7 : (9223372036854775807 < a0.size + 1 + a2.size) = False := eq_false (by have h9_ := c38; simp only [ByteArray.size_append] at h9_; simp only [ByteArray.size, List.size_toArray, List.length_cons, List.length_nil] at h9_ ⊢; omega)
                          replace H := Option.bind_eq_some_iff.mp H
                          obtain ⟨t200, A390, H⟩ := H
                          replace H : (if (t200 != t199) = true then (basculelaw12_TopicLevels.j2 k2 a0 a1 ((a1 ++ (⟨#[47]⟩ : ByteArray)) ++ a2) t199 true) else (if a0.size + 2 ≤ 9223372036854775807 then ((basculelaw12_takes.f (a0 ++ (⟨#[47, 43]⟩ : ByteArray)) ((a1 ++ (⟨#[47]⟩ : ByteArray)) ++ a2)).bind fun t201 => (basculelaw12_TopicLevels.j2 k2 a0 a1 ((a1 ++ (⟨#[47]⟩ : ByteArray)) ++ a2) t199 (t201 != t199))) else (none))) = some r := H
                          have A39 := Aside0.mk A390
                          clear A390
                          by_cases c40 : (t200 != t199) = true
                          · rw [if_pos c40] at H
                            have c40b0 : (t200 != t199) = true := c40
                            (try (have c40b1 : decide (t200 = t199) = false := by simpa using c40))
                            (try (have c40b2 : (t200 == t199) = false := by simpa using c40))
                            (try (have c40b3 : ¬ (t200 = t199) := by simpa using c40))
                            clear c40
                            (first | rw [c40b0] | (simp only [i64_w, i32_w]; rw [c40b0]) | skip)
                            have H' := Aside0.mk H
                            clear H
                            go_wp2_with (first | ((with_reducible refine gate_callee (f := 16) rfl ?_); refine goesL_ (some 67) rfl rfl Tryd.func16 (by kernel_rfl) rfl #[.string ((a0 ++ (⟨#[47]⟩ : ByteArray)) ++ a2), .string ((a1 ++ (⟨#[47]⟩ : ByteArray)) ++ a2)] rfl (by (try simp only [List.map_toArray, List.map_cons, List.map_nil]); first | done | rfl | (simp only [List.length_drop, List.length_take]; rfl)) ?_; (with_reducible refine (basculelaw12_takes.calls ((a0 ++ (⟨#[47]⟩ : ByteArray)) ++ a2) ((a1 ++ (⟨#[47]⟩ : ByteArray)) ++ a2) t200 _ (Go.Proofs.YtlfigadjbnikiaaDoor.Top.Laid.below hLd_ (by repeat (first | (with_reducible first | exact HB.out | apply below_alloc | apply pw_below_drewN | apply below_drew1) | exact HB.out))) A39.out).mono ?_); rintro e w41 ⟨rfl, hb⟩; refine ⟨_, rfl, ?_⟩; have n0_ := Aside0.mk (below_step (by repeat (first | (with_reducible first | exact HB.out | apply below_alloc | apply pw_below_drewN | apply below_drew1) | exact HB.out)) hb); clear HB; have HB := n0_; clear n0_; (try clear hb); (try clear hb2); (try clear hk); (try clear hi)))
                            go_meet
                            case rel => exact ⟨_, (true), (by first | rfl | (simp; done) | (simp [*]; done)), H', ⟨by have := HJ3.out; have := HK2.out; first | omega | exact Nat.le_refl _⟩, ⟨by repeat (first | (with_reducible first | exact HB.out | apply below_alloc | apply pw_below_drewN | apply below_drew1) | exact HB.out)⟩⟩
                          · rw [if_neg c40] at H
                            have c40b0 : (t200 != t199) = false := by simpa using c40
                            (try (have c40b1 : decide (t200 = t199) = true := by simpa using c40))
                            (try (have c40b2 : (t200 == t199) = true := by simpa using c40))
                            clear c40
                            (first | rw [c40b0] | (simp only [i64_w, i32_w]; rw [c40b0]) | skip)
                            by_cases c42 : a0.size + 2 ≤ 9223372036854775807
                            · rw [if_pos c42] at H
                              have c42b0 := eq_true c42
                              have c42b1 : decide (a0.size + 2 ≤ 9223372036854775807) = true := decide_eq_true c42
                              try have c42b2 : (9223372036854775807 < a0.size + 2) = False := eq_false (Nat.not_lt.2 c42)
                              replace H := Option.bind_eq_some_iff.mp H
                              obtain ⟨t201, A430, H⟩ := H
                              replace H : (basculelaw12_TopicLevels.j2 k2 a0 a1 ((a1 ++ (⟨#[47]⟩ : ByteArray)) ++ a2) t199 (t201 != t199)) = some r := H
                              have A43 := Aside0.mk A430
                              clear A430
                              have H' := Aside0.mk H
                              clear H
                              go_wp2_with (first | ((with_reducible refine gate_callee (f := 16) rfl ?_); refine goesL_ (some 67) rfl rfl Tryd.func16 (by kernel_rfl) rfl #[.string ((a0 ++ (⟨#[47]⟩ : ByteArray)) ++ a2), .string ((a1 ++ (⟨#[47]⟩ : ByteArray)) ++ a2)] rfl (by (try simp only [List.map_toArray, List.map_cons, List.map_nil]); first | done | rfl | (simp only [List.length_drop, List.length_take]; rfl)) ?_; (with_reducible refine (basculelaw12_takes.calls ((a0 ++ (⟨#[47]⟩ : ByteArray)) ++ a2) ((a1 ++ (⟨#[47]⟩ : ByteArray)) ++ a2) t200 _ (Go.Proofs.YtlfigadjbnikiaaDoor.Top.Laid.below hLd_ (by repeat (first | (with_reducible first | exact HB.out | apply below_alloc | apply pw_below_drewN | apply below_drew1) | exact HB.out))) A39.out).mono ?_); rintro e w44 ⟨rfl, hb⟩; refine ⟨_, rfl, ?_⟩; have n0_ := Aside0.mk (below_step (by repeat (first | (with_reducible first | exact HB.out | apply below_alloc | apply pw_below_drewN | apply below_drew1) | exact HB.out)) hb); clear HB; have HB := n0_; clear n0_; (try clear hb); (try clear hb2); (try clear hk); (try clear hi)) | (go_at_call 16; (with_reducible refine (basculelaw12_takes.calls (a0 ++ (⟨#[47, 43]⟩ : ByteArray)) ((a1 ++ (⟨#[47]⟩ : ByteArray)) ++ a2) t201 _ (Go.Proofs.YtlfigadjbnikiaaDoor.Top.Laid.below hLd_ (by repeat (first | (with_reducible first | exact HB.out | apply below_alloc | apply pw_below_drewN | apply below_drew1) | exact HB.out))) A43.out).mono ?_); rintro e w45 ⟨rfl, hb⟩; have n0_ := Aside0.mk (below_step (by repeat (first | (with_reducible first | exact HB.out | apply below_alloc | apply pw_below_drewN | apply below_drew1) | exact HB.out)) hb); clear HB; have HB := n0_; clear n0_; (try clear hb); (try clear hb2); (try clear hk); (try clear hi)))
                              go_meet
                              case rel => exact ⟨_, ((t201 != t199)), (by first | rfl | (simp; done) | (simp [*]; done)), H', ⟨by have := HJ3.out; have := HK2.out; first | omega | exact Nat.le_refl _⟩, ⟨by repeat (first | (with_reducible first | exact HB.out | apply below_alloc | apply pw_below_drewN | apply below_drew1) | exact HB.out)⟩⟩
                            · rw [if_neg c42] at H
                              exact absurd H (by simp)
                        · rw [if_neg c38] at H
                          exact absurd H (by simp)
                      · rw [if_neg c37] at H
                        exact absurd H (by simp)
                    case rest =>
                      clear HC34
                      try clear c1
                      try clear p1
                      try clear q1
                      try clear hx1
                      try clear c2
                      try clear p2
                      try clear q2
                      try clear hx2
                      try clear c3
                      try clear c4
                      try clear c5
                      try clear c6
                      try clear p6
                      try clear c8
                      try clear c10
                      try clear c11
                      try clear c12
                      try clear c14
                      try clear c16
                      try clear c16b0
                      try clear c17
                      try clear c17b0
                      try clear p18
                      try clear q18
                      try clear hx18
                      try clear c24
                      try clear c25
                      try clear c25b0
                      try clear c26
                      try clear c26b0
                      try clear p27
                      try clear q27
                      try clear hx27
                      try clear c28
                      try clear c28b0
                      try clear c28b1
                      try clear c29
                      try clear c29b0
                      try clear c29b1
                      try clear c29b2
                      try clear c30
                      try clear c30b0
                      try clear c30b1
                      try clear c30b2
                      try clear c32
                      try clear c37
                      try clear c37b0
                      try clear c37b1
                      try clear c37b2
                      try clear c38
                      try clear c38b0
                      try clear c38b1
                      try clear c38b2
                      try clear c40
                      try clear c40b0
                      try clear c40b1
                      try clear c40b2
                      try clear c42
                      try clear c42b0
                      try clear c42b1
                      try clear c42b2
                      try clear p1
                      try clear p18
                      try clear p2
                      try clear p27
                      try clear p6
                      try clear q1
                      try clear q18
                      try clear q27
                      obtain ⟨kq, x77_33, rfl, HA, HJ33, HB⟩ := hcut
                      cases kq with
                      | zero => exact absurd HA.out (by simp [basculelaw12_TopicLevels.j2])
                      | succ kj33 =>
                        have H := HA.out
                        clear HA
                        simp only [basculelaw12_TopicLevels.j2] at H
                        by_cases c46 : x77_33 = true
                        · subst c46
                          have H1 : (some false) = some r := by rw [if_pos rfl] at H; exact H
                          clear H
                          have H := H1
                          clear H1
                          obtain rfl := Option.some.inj H
                          go_wp2
                          go_ret
                          exact ⟨by first | rfl | (simp [errW_none, errW_some] <;> rfl) | (simp [*, errW_none, errW_some] <;> rfl), by repeat (first | (with_reducible first | exact HB.out | apply below_alloc | apply pw_below_drewN | apply below_drew1) | exact HB.out)⟩
                        · replace c46 := Bool.eq_false_iff.mpr c46
                          subst c46
                          have H1 : ((basculelaw12_awake.f).bind fun t202 => (if t202 = true then (if t199 = true then (if a0.size + 2 ≤ 9223372036854775807 then ((basculelaw12_takes.f (a0 ++ (⟨#[47, 35]⟩ : ByteArray)) a1).bind fun t203 => (if t203 = true then ((basculelaw12_takes.f (a0 ++ (⟨#[47, 35]⟩ : ByteArray)) ((a1 ++ (⟨#[47]⟩ : ByteArray)) ++ a2)).bind fun t204 => (some t204)) else (some false))) else (none)) else (some true)) else (some false))) = some r := by rw [if_neg (show ¬ (false = true) by decide)] at H; exact H
                          clear H
                          have H := H1
                          clear H1
                          replace H := Option.bind_eq_some_iff.mp H
                          obtain ⟨t202, A470, H⟩ := H
                          replace H : (if t202 = true then (if t199 = true then (if a0.size + 2 ≤ 9223372036854775807 then ((basculelaw12_takes.f (a0 ++ (⟨#[47, 35]⟩ : ByteArray)) a1).bind fun t203 => (if t203 = true then ((basculelaw12_takes.f (a0 ++ (⟨#[47, 35]⟩ : ByteArray)) ((a1 ++ (⟨#[47]⟩ : ByteArray)) ++ a2)).bind fun t204 => (some t204)) else (some false))) else (none)) else (some true)) else (some false)) = some r := H
                          have A47 := Aside0.mk A470
                          clear A470
                          by_cases c48 : t202 = true
                          · subst c48
                            have H1 : (if t199 = true then (if a0.size + 2 ≤ 9223372036854775807 then ((basculelaw12_takes.f (a0 ++ (⟨#[47, 35]⟩ : ByteArray)) a1).bind fun t203 => (if t203 = true then ((basculelaw12_takes.f (a0 ++ (⟨#[47, 35]⟩ : ByteArray)) ((a1 ++ (⟨#[47]⟩ : ByteArray)) ++ a2)).bind fun t204 => (some t204)) else (some false))) else (none)) else (some true)) = some r := by rw [if_pos rfl] at H; exact H
                            clear H
                            have H := H1
                            clear H1
                            by_cases c49 : t199 = true
                            · subst c49
                              have H1 : (if a0.size + 2 ≤ 9223372036854775807 then ((basculelaw12_takes.f (a0 ++ (⟨#[47, 35]⟩ : ByteArray)) a1).bind fun t203 => (if t203 = true then ((basculelaw12_takes.f (a0 ++ (⟨#[47, 35]⟩ : ByteArray)) ((a1 ++ (⟨#[47]⟩ : ByteArray)) ++ a2)).bind fun t204 => (some t204)) else (some false))) else (none)) = some r := by rw [if_pos rfl] at H; exact H
                              clear H
                              have H := H1
                              clear H1
                              by_cases c50 : a0.size + 2 ≤ 9223372036854775807
                              · rw [if_pos c50] at H
                                have c50b0 := eq_true c50
                                have c50b1 : decide (a0.size + 2 ≤ 9223372036854775807) = true := decide_eq_true c50
                                try have c50b2 : (9223372036854775807 < a0.size + 2) = False := eq_false (Nat.not_lt.2 c50)
                                replace H := Option.bind_eq_some_iff.mp H
                                obtain ⟨t203, A510, H⟩ := H
                                replace H : (if t203 = true then ((basculelaw12_takes.f (a0 ++ (⟨#[47, 35]⟩ : ByteArray)) ((a1 ++ (⟨#[47]⟩ : ByteArray)) ++ a2)).bind fun t204 => (some t204)) else (some false)) = some r := H
                                have A51 := Aside0.mk A510
                                clear A510
                                by_cases c52 : t203 = true
                                · subst c52
                                  have H1 : ((basculelaw12_takes.f (a0 ++ (⟨#[47, 35]⟩ : ByteArray)) ((a1 ++ (⟨#[47]⟩ : ByteArray)) ++ a2)).bind fun t204 => (some t204)) = some r := by rw [if_pos rfl] at H; exact H
                                  clear H
                                  have H := H1
                                  clear H1
                                  replace H := Option.bind_eq_some_iff.mp H
                                  obtain ⟨t204, A530, H⟩ := H
                                  replace H : (some t204) = some r := H
                                  have A53 := Aside0.mk A530
                                  clear A530
                                  obtain rfl := Option.some.inj H
                                  go_wp2_with (first | ((with_reducible refine gate_callee (f := 14) rfl ?_); refine goesL_ (some 78) rfl rfl Tryd.func14 (by kernel_rfl) rfl #[] rfl (by (try simp only [List.map_toArray, List.map_cons, List.map_nil]); first | done | rfl | (simp only [List.length_drop, List.length_take]; rfl)) ?_; (with_reducible refine (basculelaw12_awake.calls  true _ (Go.Proofs.YtlfigadjbnikiaaDoor.Top.Laid.below hLd_ (by repeat (first | (with_reducible first | exact HB.out | apply below_alloc | apply pw_below_drewN | apply below_drew1) | exact HB.out))) A47.out).mono ?_); rintro e w54 ⟨rfl, hb⟩; refine ⟨_, rfl, ?_⟩; have n0_ := Aside0.mk (below_step (by repeat (first | (with_reducible first | exact HB.out | apply below_alloc | apply pw_below_drewN | apply below_drew1) | exact HB.out)) hb); clear HB; have HB := n0_; clear n0_; (try clear hb); (try clear hb2); (try clear hk); (try clear hi)) | (go_at_call 16; (with_reducible refine (basculelaw12_takes.calls (a0 ++ (⟨#[47, 35]⟩ : ByteArray)) a1 true _ (Go.Proofs.YtlfigadjbnikiaaDoor.Top.Laid.below hLd_ (by repeat (first | (with_reducible first | exact HB.out | apply below_alloc | apply pw_below_drewN | apply below_drew1) | exact HB.out))) A51.out).mono ?_); rintro e w55 ⟨rfl, hb⟩; have n0_ := Aside0.mk (below_step (by repeat (first | (with_reducible first | exact HB.out | apply below_alloc | apply pw_below_drewN | apply below_drew1) | exact HB.out)) hb); clear HB; have HB := n0_; clear n0_; (try clear hb); (try clear hb2); (try clear hk); (try clear hi)) | (go_at_call 16; (with_reducible refine (basculelaw12_takes.calls (a0 ++ (⟨#[47, 35]⟩ : ByteArray)) ((a1 ++ (⟨#[47]⟩ : ByteArray)) ++ a2) t204 _ (Go.Proofs.YtlfigadjbnikiaaDoor.Top.Laid.below hLd_ (by repeat (first | (with_reducible first | exact HB.out | apply below_alloc | apply pw_below_drewN | apply below_drew1) | exact HB.out))) A53.out).mono ?_); rintro e w56 ⟨rfl, hb⟩; have n0_ := Aside0.mk (below_step (by repeat (first | (with_reducible first | exact HB.out | apply below_alloc | apply pw_below_drewN | apply below_drew1) | exact HB.out)) hb); clear HB; have HB := n0_; clear n0_; (try clear hb); (try clear hb2); (try clear hk); (try clear hi)))
                                  go_ret
                                  exact ⟨by first | rfl | (simp [errW_none, errW_some] <;> rfl) | (simp [*, errW_none, errW_some] <;> rfl), by repeat (first | (with_reducible first | exact HB.out | apply below_alloc | apply pw_below_drewN | apply below_drew1) | exact HB.out)⟩
                                · replace c52 := Bool.eq_false_iff.mpr c52
                                  subst c52
                                  have H1 : (some false) = some r := by rw [if_neg (show ¬ (false = true) by decide)] at H; exact H
                                  clear H
                                  have H := H1
                                  clear H1
                                  obtain rfl := Option.some.inj H
                                  go_wp2_with (first | ((with_reducible refine gate_callee (f := 14) rfl ?_); refine goesL_ (some 78) rfl rfl Tryd.func14 (by kernel_rfl) rfl #[] rfl (by (try simp only [List.map_toArray, List.map_cons, List.map_nil]); first | done | rfl | (simp only [List.length_drop, List.length_take]; rfl)) ?_; (with_reducible refine (basculelaw12_awake.calls  true _ (Go.Proofs.YtlfigadjbnikiaaDoor.Top.Laid.below hLd_ (by repeat (first | (with_reducible first | exact HB.out | apply below_alloc | apply pw_below_drewN | apply below_drew1) | exact HB.out))) A47.out).mono ?_); rintro e w57 ⟨rfl, hb⟩; refine ⟨_, rfl, ?_⟩; have n0_ := Aside0.mk (below_step (by repeat (first | (with_reducible first | exact HB.out | apply below_alloc | apply pw_below_drewN | apply below_drew1) | exact HB.out)) hb); clear HB; have HB := n0_; clear n0_; (try clear hb); (try clear hb2); (try clear hk); (try clear hi)) | (go_at_call 16; (with_reducible refine (basculelaw12_takes.calls (a0 ++ (⟨#[47, 35]⟩ : ByteArray)) a1 false _ (Go.Proofs.YtlfigadjbnikiaaDoor.Top.Laid.below hLd_ (by repeat (first | (with_reducible first | exact HB.out | apply below_alloc | apply pw_below_drewN | apply below_drew1) | exact HB.out))) A51.out).mono ?_); rintro e w58 ⟨rfl, hb⟩; have n0_ := Aside0.mk (below_step (by repeat (first | (with_reducible first | exact HB.out | apply below_alloc | apply pw_below_drewN | apply below_drew1) | exact HB.out)) hb); clear HB; have HB := n0_; clear n0_; (try clear hb); (try clear hb2); (try clear hk); (try clear hi)))
                                  go_ret
                                  exact ⟨by first | rfl | (simp [errW_none, errW_some] <;> rfl) | (simp [*, errW_none, errW_some] <;> rfl), by repeat (first | (with_reducible first | exact HB.out | apply below_alloc | apply pw_below_drewN | apply below_drew1) | exact HB.out)⟩
                              · rw [if_neg c50] at H
                                exact absurd H (by simp)
                            · replace c49 := Bool.eq_false_iff.mpr c49
                              subst c49
                              have H1 : (some true) = some r := by rw [if_neg (show ¬ (false = true) by decide)] at H; exact H
                              clear H
                              have H := H1
                              clear H1
                              obtain rfl := Option.some.inj H
                              go_wp2_with (first | ((with_reducible refine gate_callee (f := 14) rfl ?_); refine goesL_ (some 78) rfl rfl Tryd.func14 (by kernel_rfl) rfl #[] rfl (by (try simp only [List.map_toArray, List.map_cons, List.map_nil]); first | done | rfl | (simp only [List.length_drop, List.length_take]; rfl)) ?_; (with_reducible refine (basculelaw12_awake.calls  true _ (Go.Proofs.YtlfigadjbnikiaaDoor.Top.Laid.below hLd_ (by repeat (first | (with_reducible first | exact HB.out | apply below_alloc | apply pw_below_drewN | apply below_drew1) | exact HB.out))) A47.out).mono ?_); rintro e w59 ⟨rfl, hb⟩; refine ⟨_, rfl, ?_⟩; have n0_ := Aside0.mk (below_step (by repeat (first | (with_reducible first | exact HB.out | apply below_alloc | apply pw_below_drewN | apply below_drew1) | exact HB.out)) hb); clear HB; have HB := n0_; clear n0_; (try clear hb); (try clear hb2); (try clear hk); (try clear hi)))
                              go_ret
                              exact ⟨by first | rfl | (simp [errW_none, errW_some] <;> rfl) | (simp [*, errW_none, errW_some] <;> rfl), by repeat (first | (with_reducible first | exact HB.out | apply below_alloc | apply pw_below_drewN | apply below_drew1) | exact HB.out)⟩
                          · replace c48 := Bool.eq_false_iff.mpr c48
                            subst c48
                            have H1 : (some false) = some r := by rw [if_neg (show ¬ (false = true) by decide)] at H; exact H
                            clear H
                            have H := H1
                            clear H1
                            obtain rfl := Option.some.inj H
                            go_wp2_with (first | ((with_reducible refine gate_callee (f := 14) rfl ?_); refine goesL_ (some 78) rfl rfl Tryd.func14 (by kernel_rfl) rfl #[] rfl (by (try simp only [List.map_toArray, List.map_cons, List.map_nil]); first | done | rfl | (simp only [List.length_drop, List.length_take]; rfl)) ?_; (with_reducible refine (basculelaw12_awake.calls  false _ (Go.Proofs.YtlfigadjbnikiaaDoor.Top.Laid.below hLd_ (by repeat (first | (with_reducible first | exact HB.out | apply below_alloc | apply pw_below_drewN | apply below_drew1) | exact HB.out))) A47.out).mono ?_); rintro e w60 ⟨rfl, hb⟩; refine ⟨_, rfl, ?_⟩; have n0_ := Aside0.mk (below_step (by repeat (first | (with_reducible first | exact HB.out | apply below_alloc | apply pw_below_drewN | apply below_drew1) | exact HB.out)) hb); clear HB; have HB := n0_; clear n0_; (try clear hb); (try clear hb2); (try clear hk); (try clear hi)))
                            go_ret
                            exact ⟨by first | rfl | (simp [errW_none, errW_some] <;> rfl) | (simp [*, errW_none, errW_some] <;> rfl), by repeat (first | (with_reducible first | exact HB.out | apply below_alloc | apply pw_below_drewN | apply below_drew1) | exact HB.out)⟩
                  · replace c32 := Bool.eq_false_iff.mpr c32
                    subst c32
                    have H1 : ((basculelaw12_awake.f).bind fun t198 => (some t198)) = some r := by rw [if_neg (show ¬ (false = true) by decide)] at H; exact H
                    clear H
                    have H := H1
                    clear H1
                    replace H := Option.bind_eq_some_iff.mp H
                    obtain ⟨t198, A610, H⟩ := H
                    replace H : (some t198) = some r := H
                    have A61 := Aside0.mk A610
                    clear A610
                    obtain rfl := Option.some.inj H
                    go_wp2_with (first | ((with_reducible refine gate_callee (f := 11) rfl ?_); refine goesL_ (some 56) rfl rfl Tryd.func11 (by kernel_rfl) rfl #[.string ((a1 ++ (⟨#[47]⟩ : ByteArray)) ++ a2)] rfl (by (try simp only [List.map_toArray, List.map_cons, List.map_nil]); first | done | rfl | (simp only [List.length_drop, List.length_take]; rfl)) ?_; (with_reducible refine (basculeref12_Name.calls k2 ((a1 ++ (⟨#[47]⟩ : ByteArray)) ++ a2) false _ A31.out).mono ?_); rintro e w62 ⟨rfl, hb⟩; refine ⟨_, rfl, ?_⟩; have n0_ := Aside0.mk (below_step (by repeat (first | (with_reducible first | exact HB.out | apply below_alloc | apply pw_below_drewN | apply below_drew1) | exact HB.out)) hb); clear HB; have HB := n0_; clear n0_; (try clear hb); (try clear hb2); (try clear hk); (try clear hi)) | ((with_reducible refine gate_callee (f := 14) rfl ?_); refine goesL_ (some 58) rfl rfl Tryd.func14 (by kernel_rfl) rfl #[] rfl (by (try simp only [List.map_toArray, List.map_cons, List.map_nil]); first | done | rfl | (simp only [List.length_drop, List.length_take]; rfl)) ?_; (with_reducible refine (basculelaw12_awake.calls  t198 _ (Go.Proofs.YtlfigadjbnikiaaDoor.Top.Laid.below hLd_ (by repeat (first | (with_reducible first | exact HB.out | apply below_alloc | apply pw_below_drewN | apply below_drew1) | exact HB.out))) A61.out).mono ?_); rintro e w63 ⟨rfl, hb⟩; refine ⟨_, rfl, ?_⟩; have n0_ := Aside0.mk (below_step (by repeat (first | (with_reducible first | exact HB.out | apply below_alloc | apply pw_below_drewN | apply below_drew1) | exact HB.out)) hb); clear HB; have HB := n0_; clear n0_; (try clear hb); (try clear hb2); (try clear hk); (try clear hi)))
                    go_ret
                    exact ⟨by first | rfl | (simp [errW_none, errW_some] <;> rfl) | (simp [*, errW_none, errW_some] <;> rfl), by repeat (first | (with_reducible first | exact HB.out | apply below_alloc | apply pw_below_drewN | apply below_drew1) | exact HB.out)⟩
                · rw [if_neg c30] at H
                  exact absurd H (by simp)
              · rw [if_neg c29] at H
                exact absurd H (by simp)

/-- THE ONE PURE STATEMENT of basculelaw12_TopicLevels: yours. -/
def basculelaw12_TopicLevels.Pure : Prop := ∀ (a0 : ByteArray) (a1 : ByteArray) (a2 : ByteArray), a0.size ≤ 140737488351232 → a1.size ≤ 140737488351232 → a2.size ≤ 140737488351232 → ∃ k, basculelaw12_TopicLevels.f k a0 a1 a2 = some true
theorem basculelaw12_TopicLevels.walk (P : basculelaw12_TopicLevels.Pure) (a0 : ByteArray) (a1 : ByteArray) (a2 : ByteArray) (w : World) (hLd_ : Go.Proofs.YtlfigadjbnikiaaDoor.Top.Laid w) (w0 : a0.size ≤ 140737488351232) (w1 : a1.size ≤ 140737488351232) (w2 : a2.size ≤ 140737488351232) :
    Calls Tryd.prog 5 #[.string a0, .string a1, .string a2] w fun e w' => e = .returned (.bool true) ∧ Below w.heap.size w w' := by
  obtain ⟨k, h⟩ := P a0 a1 a2 w0 w1 w2
  refine (basculelaw12_TopicLevels.calls k a0 a1 a2 true w hLd_ h).mono ?_
  rintro e w' ⟨rfl, hd⟩
  exact ⟨rfl, hd⟩

end Go.Proofs.YtlfigadjbnikiaaDoor.Q
