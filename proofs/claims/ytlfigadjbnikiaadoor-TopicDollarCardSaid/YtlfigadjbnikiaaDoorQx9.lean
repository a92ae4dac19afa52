-- Printed by a program of this session's own (wip/print/oprint.py), over hand-made contracts: not trusted, Lean checks it.
import Derived.Test.YtlfigadjbnikiaaDoorQx0
import Derived.Test.YtlfigadjbnikiaaDoorQx1
import Derived.Test.YtlfigadjbnikiaaDoorQx2
import Derived.Test.YtlfigadjbnikiaaDoorQx3
namespace Go.Proofs.YtlfigadjbnikiaaDoor.Q
open Go.RowKit Go.Proofs.YtlfigadjbnikiaaDoorW.PrintWords Go.Proofs.YtlfigadjbnikiaaDoorW.PrintLast Go.Proofs.YtlfigadjbnikiaaDoorW.PrintMore
attribute [local go_sem] max2_int min2_int max_two min_two max_three min_three max_four min_four   -- for this text's walks alone
set_option linter.unusedVariables false
set_option linter.unusedSimpArgs false

/-! ### basculelaw12_TopicDollar: function 7 -/
mutual
def basculelaw12_TopicDollar.j0 : Nat → ByteArray → ByteArray → ByteArray → Bool → Option (Bool)
  | 0, _, _, _, _ => none
  | k + 1, x0, x1, x2, x53 => if x53 = true then (some true) else (basculelaw12_TopicDollar.l0 k x0 x1 x2 0)
def basculelaw12_TopicDollar.l0 : Nat → ByteArray → ByteArray → ByteArray → Int → Option (Bool)
  | 0, _, _, _, _ => none
  | k + 1, x0, x1, x2, x7 => if x7 < (x2.size : Int) then (if 0 ≤ x7 then (if (bt x2 x7) = 47 then (some true) else (basculelaw12_TopicDollar.l0 k x0 x1 x2 (wrap64 (x7 + 1)))) else (none)) else ((basculelaw12_takes.f x0 x1).bind fun t231 => (if x2.size + 1 ≤ 9223372036854775807 then (if (x2 ++ (⟨#[47]⟩ : ByteArray)).size + x0.size ≤ 9223372036854775807 then (if (x2 ++ (⟨#[47]⟩ : ByteArray)).size + x1.size ≤ 9223372036854775807 then ((basculelaw12_takes.f ((x2 ++ (⟨#[47]⟩ : ByteArray)) ++ x0) ((x2 ++ (⟨#[47]⟩ : ByteArray)) ++ x1)).bind fun t232 => (if (t232 != t231) = true then (basculelaw12_TopicDollar.j2 k x0 x1 x2 t231 true) else (if 1 + x2.size ≤ 9223372036854775807 then (if ((⟨#[36]⟩ : ByteArray) ++ x2).size + 1 ≤ 9223372036854775807 then (if (((⟨#[36]⟩ : ByteArray) ++ x2) ++ (⟨#[47]⟩ : ByteArray)).size + x0.size ≤ 9223372036854775807 then (if (((⟨#[36]⟩ : ByteArray) ++ x2) ++ (⟨#[47]⟩ : ByteArray)).size + x1.size ≤ 9223372036854775807 then ((basculelaw12_takes.f ((((⟨#[36]⟩ : ByteArray) ++ x2) ++ (⟨#[47]⟩ : ByteArray)) ++ x0) ((((⟨#[36]⟩ : ByteArray) ++ x2) ++ (⟨#[47]⟩ : ByteArray)) ++ x1)).bind fun t233 => (basculelaw12_TopicDollar.j2 k x0 x1 x2 t231 (t233 != t231))) else (none)) else (none)) else (none)) else (none)))) else (none)) else (none)) else (none)))
def basculelaw12_TopicDollar.j2 : Nat → ByteArray → ByteArray → ByteArray → Bool → Bool → Option (Bool)
  | 0, _, _, _, _, _ => none
  | k + 1, x0, x1, x2, x8, x92 => if x92 = true then (some false) else ((basculelaw12_awake.f).bind fun t234 => (if t234 = true then (if 2 + x0.size ≤ 9223372036854775807 then (if 1 + x2.size ≤ 9223372036854775807 then (if ((⟨#[36]⟩ : ByteArray) ++ x2).size + 1 ≤ 9223372036854775807 then (if (((⟨#[36]⟩ : ByteArray) ++ x2) ++ (⟨#[47]⟩ : ByteArray)).size + x1.size ≤ 9223372036854775807 then ((basculelaw12_takes.f ((⟨#[43, 47]⟩ : ByteArray) ++ x0) ((((⟨#[36]⟩ : ByteArray) ++ x2) ++ (⟨#[47]⟩ : ByteArray)) ++ x1)).bind fun t235 => (if t235 = true then (some false) else (if 0 < (x2.size : Int) then (if (bt x2 0) = 36 then (some true) else (if x2.size + 1 ≤ 9223372036854775807 then (if (x2 ++ (⟨#[47]⟩ : ByteArray)).size + x1.size ≤ 9223372036854775807 then ((basculelaw12_takes.f ((⟨#[43, 47]⟩ : ByteArray) ++ x0) ((x2 ++ (⟨#[47]⟩ : ByteArray)) ++ x1)).bind fun t236 => (some (t236 == x8))) else (none)) else (none))) else (none)))) else (none)) else (none)) else (none)) else (none)) else (some false)))
end
def basculelaw12_TopicDollar.f (k : Nat) (a0 : ByteArray) (a1 : ByteArray) (a2 : ByteArray) : Option (Bool) := (basculelaw12_small.f a0).bind fun t225 => (if t225 = true then ((basculelaw12_small.f a1).bind fun t226 => (if t226 = true then ((basculelaw12_small.f a2).bind fun t227 => (if t227 = true then (if a0.toList = ([] : List UInt8) then (basculelaw12_TopicDollar.j0 k a0 a1 a2 true) else (if a1.toList = ([] : List UInt8) then (basculelaw12_TopicDollar.j0 k a0 a1 a2 true) else (if a2.toList = ([] : List UInt8) then (basculelaw12_TopicDollar.j0 k a0 a1 a2 true) else ((topic_Filter.f a0).bind fun t228 => (if t228 = 0 then ((topic_Name.f a1).bind fun t229 => (if t229 = 0 then ((topic_Name.f a2).bind fun t230 => (if t230 = 0 then (if 0 < (a1.size : Int) then (basculelaw12_TopicDollar.j0 k a0 a1 a2 ((bt a1 0) == 36)) else (none)) else (basculelaw12_TopicDollar.j0 k a0 a1 a2 true))) else (basculelaw12_TopicDollar.j0 k a0 a1 a2 true))) else (basculelaw12_TopicDollar.j0 k a0 a1 a2 true)))))) else (basculelaw12_TopicDollar.j0 k a0 a1 a2 true))) else (basculelaw12_TopicDollar.j0 k a0 a1 a2 true))) else (basculelaw12_TopicDollar.j0 k a0 a1 a2 true))
theorem basculelaw12_TopicDollar.mono_l : ∀ k, (∀ y0 y1 y2 y3, LeO (basculelaw12_TopicDollar.j0 k y0 y1 y2 y3) (basculelaw12_TopicDollar.j0 (k + 1) y0 y1 y2 y3)) ∧ (∀ y0 y1 y2 y3, LeO (basculelaw12_TopicDollar.l0 k y0 y1 y2 y3) (basculelaw12_TopicDollar.l0 (k + 1) y0 y1 y2 y3)) ∧ (∀ y0 y1 y2 y3 y4, LeO (basculelaw12_TopicDollar.j2 k y0 y1 y2 y3 y4) (basculelaw12_TopicDollar.j2 (k + 1) y0 y1 y2 y3 y4))
  | 0 => ⟨fun _ _ _ _ r h => by simp [basculelaw12_TopicDollar.j0] at h, fun _ _ _ _ r h => by simp [basculelaw12_TopicDollar.l0] at h, fun _ _ _ _ _ r h => by simp [basculelaw12_TopicDollar.j2] at h⟩
  | k + 1 => by
    obtain ⟨ih0, ih1, ih2⟩ := basculelaw12_TopicDollar.mono_l k
    refine ⟨?_, ?_, ?_⟩
    · intro y0 y1 y2 y3
      unfold basculelaw12_TopicDollar.j0
      repeat' first
      | (with_reducible exact ih0 _ _ _ _)
      | (with_reducible exact ih1 _ _ _ _)
      | (with_reducible exact ih2 _ _ _ _ _)
      | (with_reducible exact LeO.refl _)
      | (with_reducible exact LeO.none _)
      | (with_reducible refine LeO.ite ?_ ?_)
      | (with_reducible refine LeO.bind ?_ (fun _ => ?_))
      | exact ih0 _ _ _ _
      | exact ih1 _ _ _ _
      | exact ih2 _ _ _ _ _
      | exact LeO.none _
      | refine LeO.ite ?_ ?_
      | refine LeO.bind ?_ (fun _ => ?_)
    · intro y0 y1 y2 y3
      unfold basculelaw12_TopicDollar.l0
      repeat' first
      | (with_reducible exact ih0 _ _ _ _)
      | (with_reducible exact ih1 _ _ _ _)
      | (with_reducible exact ih2 _ _ _ _ _)
      | (with_reducible exact LeO.refl _)
      | (with_reducible exact LeO.none _)
      | (with_reducible refine LeO.ite ?_ ?_)
      | (with_reducible refine LeO.bind ?_ (fun _ => ?_))
      | exact ih0 _ _ _ _
      | exact ih1 _ _ _ _
      | exact ih2 _ _ _ _ _
      | exact LeO.none _
      | refine LeO.ite ?_ ?_
      | refine LeO.bind ?_ (fun _ => ?_)
    · intro y0 y1 y2 y3 y4
      unfold basculelaw12_TopicDollar.j2
      repeat' first
      | (with_reducible exact ih0 _ _ _ _)
      | (with_reducible exact ih1 _ _ _ _)
      | (with_reducible exact ih2 _ _ _ _ _)
      | (with_reducible exact LeO.refl _)
      | (with_reducible exact LeO.none _)
      | (with_reducible refine LeO.ite ?_ ?_)
      | (with_reducible refine LeO.bind ?_ (fun _ => ?_))
      | exact ih0 _ _ _ _
      | exact ih1 _ _ _ _
      | exact ih2 _ _ _ _ _
      | exact LeO.none _
      | refine LeO.ite ?_ ?_
      | refine LeO.bind ?_ (fun _ => ?_)
theorem basculelaw12_TopicDollar.mono : ∀ a0 a1 a2 k, LeO (basculelaw12_TopicDollar.f k a0 a1 a2) (basculelaw12_TopicDollar.f (k + 1) a0 a1 a2) := by
  intro a0 a1 a2 k
  obtain ⟨ih0, ih1, ih2⟩ := basculelaw12_TopicDollar.mono_l k
  unfold basculelaw12_TopicDollar.f
  repeat' first
      | (with_reducible exact ih0 _ _ _ _)
      | (with_reducible exact ih1 _ _ _ _)
      | (with_reducible exact ih2 _ _ _ _ _)
      | (with_reducible exact LeO.refl _)
      | (with_reducible exact LeO.none _)
      | (with_reducible refine LeO.ite ?_ ?_)
      | (with_reducible refine LeO.bind ?_ (fun _ => ?_))
      | exact ih0 _ _ _ _
      | exact ih1 _ _ _ _
      | exact ih2 _ _ _ _ _
      | exact LeO.none _
      | refine LeO.ite ?_ ?_
      | refine LeO.bind ?_ (fun _ => ?_)
set_option maxHeartbeats 8000000 in
set_option maxRecDepth 100000 in
theorem basculelaw12_TopicDollar.calls (k : Nat) (a0 : ByteArray) (a1 : ByteArray) (a2 : ByteArray) (r : Bool) (w : World) (hLd_ : Go.Proofs.YtlfigadjbnikiaaDoor.Top.Laid w) (h : basculelaw12_TopicDollar.f k a0 a1 a2 = some r) :
    Calls Tryd.prog 7 #[.string a0, .string a1, .string a2] w fun e w' => e = .returned (.bool r) ∧ Below w.heap.size w w' := by
  have HB := Aside0.mk (Below.refl w.heap.size w)
  have H : ((basculelaw12_small.f a0).bind fun t225 => (if t225 = true then ((basculelaw12_small.f a1).bind fun t226 => (if t226 = true then ((basculelaw12_small.f a2).bind fun t227 => (if t227 = true then (if a0.toList = ([] : List UInt8) then (basculelaw12_TopicDollar.j0 k a0 a1 a2 true) else (if a1.toList = ([] : List UInt8) then (basculelaw12_TopicDollar.j0 k a0 a1 a2 true) else (if a2.toList = ([] : List UInt8) then (basculelaw12_TopicDollar.j0 k a0 a1 a2 true) else ((topic_Filter.f a0).bind fun t228 => (if t228 = 0 then ((topic_Name.f a1).bind fun t229 => (if t229 = 0 then ((topic_Name.f a2).bind fun t230 => (if t230 = 0 then (if 0 < (a1.size : Int) then (basculelaw12_TopicDollar.j0 k a0 a1 a2 ((bt a1 0) == 36)) else (none)) else (basculelaw12_TopicDollar.j0 k a0 a1 a2 true))) else (basculelaw12_TopicDollar.j0 k a0 a1 a2 true))) else (basculelaw12_TopicDollar.j0 k a0 a1 a2 true)))))) else (basculelaw12_TopicDollar.j0 k a0 a1 a2 true))) else (basculelaw12_TopicDollar.j0 k a0 a1 a2 true))) else (basculelaw12_TopicDollar.j0 k a0 a1 a2 true))) = some r := h
  clear h
  have HC4 := Aside0.mk H
  clear H
  go_enter Tryd.func7, Tryd.ntmps7
  go_upto_region 1 with (fail)
  go_cut [53] (fun v53 wc => ∃ (kq : Nat) (x53_3 : Bool), v53 = .bool x53_3 ∧ Aside0 (basculelaw12_TopicDollar.j0 kq a0 a1 a2 x53_3 = some r) ∧ Aside0 (kq ≤ k) ∧ Aside0 (Below w.heap.size w wc))
  case first =>
    have H := HC4.out
    clear HC4
    replace H := Option.bind_eq_some_iff.mp H
    obtain ⟨t225, A50, H⟩ := H
    replace H : (if t225 = true then ((basculelaw12_small.f a1).bind fun t226 => (if t226 = true then ((basculelaw12_small.f a2).bind fun t227 => (if t227 = true then (if a0.toList = ([] : List UInt8) then (basculelaw12_TopicDollar.j0 k a0 a1 a2 true) else (if a1.toList = ([] : List UInt8) then (basculelaw12_TopicDollar.j0 k a0 a1 a2 true) else (if a2.toList = ([] : List UInt8) then (basculelaw12_TopicDollar.j0 k a0 a1 a2 true) else ((topic_Filter.f a0).bind fun t228 => (if t228 = 0 then ((topic_Name.f a1).bind fun t229 => (if t229 = 0 then ((topic_Name.f a2).bind fun t230 => (if t230 = 0 then (if 0 < (a1.size : Int) then (basculelaw12_TopicDollar.j0 k a0 a1 a2 ((bt a1 0) == 36)) else (none)) else (basculelaw12_TopicDollar.j0 k a0 a1 a2 true))) else (basculelaw12_TopicDollar.j0 k a0 a1 a2 true))) else (basculelaw12_TopicDollar.j0 k a0 a1 a2 true)))))) else (basculelaw12_TopicDollar.j0 k a0 a1 a2 true))) else (basculelaw12_TopicDollar.j0 k a0 a1 a2 true))) else (basculelaw12_TopicDollar.j0 k a0 a1 a2 true)) = some r := H
    have A5 := Aside0.mk A50
    clear A50
    by_cases c6 : t225 = true
    · subst c6
      have H1 : ((basculelaw12_small.f a1).bind fun t226 => (if t226 = true then ((basculelaw12_small.f a2).bind fun t227 => (if t227 = true then (if a0.toList = ([] : List UInt8) then (basculelaw12_TopicDollar.j0 k a0 a1 a2 true) else (if a1.toList = ([] : List UInt8) then (basculelaw12_TopicDollar.j0 k a0 a1 a2 true) else (if a2.toList = ([] : List UInt8) then (basculelaw12_TopicDollar.j0 k a0 a1 a2 true) else ((topic_Filter.f a0).bind fun t228 => (if t228 = 0 then ((topic_Name.f a1).bind fun t229 => (if t229 = 0 then ((topic_Name.f a2).bind fun t230 => (if t230 = 0 then (if 0 < (a1.size : Int) then (basculelaw12_TopicDollar.j0 k a0 a1 a2 ((bt a1 0) == 36)) else (none)) else (basculelaw12_TopicDollar.j0 k a0 a1 a2 true))) else (basculelaw12_TopicDollar.j0 k a0 a1 a2 true))) else (basculelaw12_TopicDollar.j0 k a0 a1 a2 true)))))) else (basculelaw12_TopicDollar.j0 k a0 a1 a2 true))) else (basculelaw12_TopicDollar.j0 k a0 a1 a2 true))) = some r := by rw [if_pos rfl] at H; exact H
      clear H
      have H := H1
      clear H1
      replace H := Option.bind_eq_some_iff.mp H
      obtain ⟨t226, A70, H⟩ := H
      replace H : (if t226 = true then ((basculelaw12_small.f a2).bind fun t227 => (if t227 = true then (if a0.toList = ([] : List UInt8) then (basculelaw12_TopicDollar.j0 k a0 a1 a2 true) else (if a1.toList = ([] : List UInt8) then (basculelaw12_TopicDollar.j0 k a0 a1 a2 true) else (if a2.toList = ([] : List UInt8) then (basculelaw12_TopicDollar.j0 k a0 a1 a2 true) else ((topic_Filter.f a0).bind fun t228 => (if t228 = 0 then ((topic_Name.f a1).bind fun t229 => (if t229 = 0 then ((topic_Name.f a2).bind fun t230 => (if t230 = 0 then (if 0 < (a1.size : Int) then (basculelaw12_TopicDollar.j0 k a0 a1 a2 ((bt a1 0) == 36)) else (none)) else (basculelaw12_TopicDollar.j0 k a0 a1 a2 true))) else (basculelaw12_TopicDollar.j0 k a0 a1 a2 true))) else (basculelaw12_TopicDollar.j0 k a0 a1 a2 true)))))) else (basculelaw12_TopicDollar.j0 k a0 a1 a2 true))) else (basculelaw12_TopicDollar.j0 k a0 a1 a2 true)) = some r := H
      have A7 := Aside0.mk A70
      clear A70
      by_cases c8 : t226 = true
      · subst c8
        have H1 : ((basculelaw12_small.f a2).bind fun t227 => (if t227 = true then (if a0.toList = ([] : List UInt8) then (basculelaw12_TopicDollar.j0 k a0 a1 a2 true) else (if a1.toList = ([] : List UInt8) then (basculelaw12_TopicDollar.j0 k a0 a1 a2 true) else (if a2.toList = ([] : List UInt8) then (basculelaw12_TopicDollar.j0 k a0 a1 a2 true) else ((topic_Filter.f a0).bind fun t228 => (if t228 = 0 then ((topic_Name.f a1).bind fun t229 => (if t229 = 0 then ((topic_Name.f a2).bind fun t230 => (if t230 = 0 then (if 0 < (a1.size : Int) then (basculelaw12_TopicDollar.j0 k a0 a1 a2 ((bt a1 0) == 36)) else (none)) else (basculelaw12_TopicDollar.j0 k a0 a1 a2 true))) else (basculelaw12_TopicDollar.j0 k a0 a1 a2 true))) else (basculelaw12_TopicDollar.j0 k a0 a1 a2 true)))))) else (basculelaw12_TopicDollar.j0 k a0 a1 a2 true))) = some r := by rw [if_pos rfl] at H; exact H
        clear H
        have H := H1
        clear H1
        replace H := Option.bind_eq_some_iff.mp H
        obtain ⟨t227, A90, H⟩ := H
        replace H : (if t227 = true then (if a0.toList = ([] : List UInt8) then (basculelaw12_TopicDollar.j0 k a0 a1 a2 true) else (if a1.toList = ([] : List UInt8) then (basculelaw12_TopicDollar.j0 k a0 a1 a2 true) else (if a2.toList = ([] : List UInt8) then (basculelaw12_TopicDollar.j0 k a0 a1 a2 true) else ((topic_Filter.f a0).bind fun t228 => (if t228 = 0 then ((topic_Name.f a1).bind fun t229 => (if t229 = 0 then ((topic_Name.f a2).bind fun t230 => (if t230 = 0 then (if 0 < (a1.size : Int) then (basculelaw12_TopicDollar.j0 k a0 a1 a2 ((bt a1 0) == 36)) else (none)) else (basculelaw12_TopicDollar.j0 k a0 a1 a2 true))) else (basculelaw12_TopicDollar.j0 k a0 a1 a2 true))) else (basculelaw12_TopicDollar.j0 k a0 a1 a2 true)))))) else (basculelaw12_TopicDollar.j0 k a0 a1 a2 true)) = some r := H
        have A9 := Aside0.mk A90
        clear A90
        by_cases c10 : t227 = true
        · subst c10
          have H1 : (if a0.toList = ([] : List UInt8) then (basculelaw12_TopicDollar.j0 k a0 a1 a2 true) else (if a1.toList = ([] : List UInt8) then (basculelaw12_TopicDollar.j0 k a0 a1 a2 true) else (if a2.toList = ([] : List UInt8) then (basculelaw12_TopicDollar.j0 k a0 a1 a2 true) else ((topic_Filter.f a0).bind fun t228 => (if t228 = 0 then ((topic_Name.f a1).bind fun t229 => (if t229 = 0 then ((topic_Name.f a2).bind fun t230 => (if t230 = 0 then (if 0 < (a1.size : Int) then (basculelaw12_TopicDollar.j0 k a0 a1 a2 ((bt a1 0) == 36)) else (none)) else (basculelaw12_TopicDollar.j0 k a0 a1 a2 true))) else (basculelaw12_TopicDollar.j0 k a0 a1 a2 true))) else (basculelaw12_TopicDollar.j0 k a0 a1 a2 true)))))) = some r := by rw [if_pos rfl] at H; exact H
          clear H
          have H := H1
          clear H1
          by_cases c11 : a0.toList = ([] : List UInt8)
          · rw [if_pos c11] at H
            have c11b0 : (a0.toList == ([] : List UInt8)) = true := beq_iff_eq.mpr c11
            have c11b1 : (a0.toList != ([] : List UInt8)) = false := bne_eq_false_iff_eq.mpr c11
            clear c11
            (first | rw [c11b0] | (simp only [i64_w, i32_w]; rw [c11b0]) | skip)
            have H' := Aside0.mk H
            clear H
            go_wp2_with (first | ((with_reducible refine gate_callee (f := 8) rfl ?_); refine goesL_ (some 10) rfl rfl Tryd.func8 (by kernel_rfl) rfl #[.string a0] rfl (by (try simp only [List.map_toArray, List.map_cons, List.map_nil]); first | done | rfl | (simp only [List.length_drop, List.length_take]; rfl)) ?_; (with_reducible refine (basculelaw12_small.calls a0 true _ A5.out).mono ?_); rintro e w' ⟨rfl, ⟨nd, rfl⟩⟩; refine ⟨_, rfl, ?_⟩) | (go_at_call 8; (with_reducible refine (basculelaw12_small.calls a1 true _ A7.out).mono ?_); rintro e w' ⟨rfl, ⟨nd, rfl⟩⟩) | (go_at_call 8; (with_reducible refine (basculelaw12_small.calls a2 true _ A9.out).mono ?_); rintro e w' ⟨rfl, ⟨nd, rfl⟩⟩))
            go_meet
            case rel => exact ⟨_, (true), (by first | rfl | (simp; done) | (simp [*]; done)), H', ⟨by first | omega | exact Nat.le_refl _⟩, ⟨by repeat (first | (with_reducible first | exact HB.out | apply below_alloc | apply pw_below_drewN | apply below_drew1) | exact HB.out)⟩⟩
          · rw [if_neg c11] at H
            have c11b0 : (a0.toList == ([] : List UInt8)) = false := beq_eq_false_iff_ne.mpr c11
            have c11b1 : (a0.toList != ([] : List UInt8)) = true := bne_iff_ne.mpr c11
            (first | rw [c11b0] | (simp only [i64_w, i32_w]; rw [c11b0]) | skip)
            by_cases c12 : a1.toList = ([] : List UInt8)
            · rw [if_pos c12] at H
              have c12b0 : (a1.toList == ([] : List UInt8)) = true := beq_iff_eq.mpr c12
              have c12b1 : (a1.toList != ([] : List UInt8)) = false := bne_eq_false_iff_eq.mpr c12
              clear c12
              have H' := Aside0.mk H
              clear H
              go_wp2_with (first | ((with_reducible refine gate_callee (f := 8) rfl ?_); refine goesL_ (some 10) rfl rfl Tryd.func8 (by kernel_rfl) rfl #[.string a0] rfl (by (try simp only [List.map_toArray, List.map_cons, List.map_nil]); first | done | rfl | (simp only [List.length_drop, List.length_take]; rfl)) ?_; (with_reducible refine (basculelaw12_small.calls a0 true _ A5.out).mono ?_); rintro e w' ⟨rfl, ⟨nd, rfl⟩⟩; refine ⟨_, rfl, ?_⟩) | (go_at_call 8; (with_reducible refine (basculelaw12_small.calls a1 true _ A7.out).mono ?_); rintro e w' ⟨rfl, ⟨nd, rfl⟩⟩) | (go_at_call 8; (with_reducible refine (basculelaw12_small.calls a2 true _ A9.out).mono ?_); rintro e w' ⟨rfl, ⟨nd, rfl⟩⟩))
              go_meet
              case rel => exact ⟨_, (true), (by first | rfl | (simp; done) | (simp [*]; done)), H', ⟨by first | omega | exact Nat.le_refl _⟩, ⟨by repeat (first | (with_reducible first | exact HB.out | apply below_alloc | apply pw_below_drewN | apply below_drew1) | exact HB.out)⟩⟩
            · rw [if_neg c12] at H
              have c12b0 : (a1.toList == ([] : List UInt8)) = false := beq_eq_false_iff_ne.mpr c12
              have c12b1 : (a1.toList != ([] : List UInt8)) = true := bne_iff_ne.mpr c12
              by_cases c13 : a2.toList = ([] : List UInt8)
              · rw [if_pos c13] at H
                have c13b0 : (a2.toList == ([] : List UInt8)) = true := beq_iff_eq.mpr c13
                have c13b1 : (a2.toList != ([] : List UInt8)) = false := bne_eq_false_iff_eq.mpr c13
                clear c13
                have H' := Aside0.mk H
                clear H
                go_wp2_with (first | ((with_reducible refine gate_callee (f := 8) rfl ?_); refine goesL_ (some 10) rfl rfl Tryd.func8 (by kernel_rfl) rfl #[.string a0] rfl (by (try simp only [List.map_toArray, List.map_cons, List.map_nil]); first | done | rfl | (simp only [List.length_drop, List.length_take]; rfl)) ?_; (with_reducible refine (basculelaw12_small.calls a0 true _ A5.out).mono ?_); rintro e w' ⟨rfl, ⟨nd, rfl⟩⟩; refine ⟨_, rfl, ?_⟩) | (go_at_call 8; (with_reducible refine (basculelaw12_small.calls a1 true _ A7.out).mono ?_); rintro e w' ⟨rfl, ⟨nd, rfl⟩⟩) | (go_at_call 8; (with_reducible refine (basculelaw12_small.calls a2 true _ A9.out).mono ?_); rintro e w' ⟨rfl, ⟨nd, rfl⟩⟩))
                go_meet
                case rel => exact ⟨_, (true), (by first | rfl | (simp; done) | (simp [*]; done)), H', ⟨by first | omega | exact Nat.le_refl _⟩, ⟨by repeat (first | (with_reducible first | exact HB.out | apply below_alloc | apply pw_below_drewN | apply below_drew1) | exact HB.out)⟩⟩
              · rw [if_neg c13] at H
                have c13b0 : (a2.toList == ([] : List UInt8)) = false := beq_eq_false_iff_ne.mpr c13
                have c13b1 : (a2.toList != ([] : List UInt8)) = true := bne_iff_ne.mpr c13
                replace H := Option.bind_eq_some_iff.mp H
                obtain ⟨t228, A140, H⟩ := H
                replace H : (if t228 = 0 then ((topic_Name.f a1).bind fun t229 => (if t229 = 0 then ((topic_Name.f a2).bind fun t230 => (if t230 = 0 then (if 0 < (a1.size : Int) then (basculelaw12_TopicDollar.j0 k a0 a1 a2 ((bt a1 0) == 36)) else (none)) else (basculelaw12_TopicDollar.j0 k a0 a1 a2 true))) else (basculelaw12_TopicDollar.j0 k a0 a1 a2 true))) else (basculelaw12_TopicDollar.j0 k a0 a1 a2 true)) = some r := H
                have A14 := Aside0.mk A140
                clear A140
                by_cases c15 : t228 = 0
                · rw [if_pos c15] at H
                  have c15b0 : (t228 == 0) = true := beq_iff_eq.mpr c15
                  have c15b1 : (t228 != 0) = false := bne_eq_false_iff_eq.mpr c15
                  clear c15
                  replace H := Option.bind_eq_some_iff.mp H
                  obtain ⟨t229, A160, H⟩ := H
                  replace H : (if t229 = 0 then ((topic_Name.f a2).bind fun t230 => (if t230 = 0 then (if 0 < (a1.size : Int) then (basculelaw12_TopicDollar.j0 k a0 a1 a2 ((bt a1 0) == 36)) else (none)) else (basculelaw12_TopicDollar.j0 k a0 a1 a2 true))) else (basculelaw12_TopicDollar.j0 k a0 a1 a2 true)) = some r := H
                  have A16 := Aside0.mk A160
                  clear A160
                  by_cases c17 : t229 = 0
                  · rw [if_pos c17] at H
                    have c17b0 : (t229 == 0) = true := beq_iff_eq.mpr c17
                    have c17b1 : (t229 != 0) = false := bne_eq_false_iff_eq.mpr c17
                    clear c17
                    replace H := Option.bind_eq_some_iff.mp H
                    obtain ⟨t230, A180, H⟩ := H
                    replace H : (if t230 = 0 then (if 0 < (a1.size : Int) then (basculelaw12_TopicDollar.j0 k a0 a1 a2 ((bt a1 0) == 36)) else (none)) else (basculelaw12_TopicDollar.j0 k a0 a1 a2 true)) = some r := H
                    have A18 := Aside0.mk A180
                    clear A180
                    by_cases c19 : t230 = 0
                    · rw [if_pos c19] at H
                      have c19b0 : (t230 == 0) = true := beq_iff_eq.mpr c19
                      have c19b1 : (t230 != 0) = false := bne_eq_false_iff_eq.mpr c19
                      clear c19
                      by_cases c20 : 0 < (a1.size : Int)
                      · rw [if_pos c20] at H
                        have c20b0 : decide (0 < (a1.size : Int)) = true := decide_eq_true c20
                        have c20b1 : decide (0 < a1.size) = true := decide_eq_true (by omega)
                        have c20b7 : (0 < a1.size) := of_decide_eq_true c20b1
                        clear c20
                        have H' := Aside0.mk H
                        clear H
                        go_wp2_with (first | ((with_reducible refine gate_callee (f := 8) rfl ?_); refine goesL_ (some 10) rfl rfl Tryd.func8 (by kernel_rfl) rfl #[.string a0] rfl (by (try simp only [List.map_toArray, List.map_cons, List.map_nil]); first | done | rfl | (simp only [List.length_drop, List.length_take]; rfl)) ?_; (with_reducible refine (basculelaw12_small.calls a0 true _ A5.out).mono ?_); rintro e w' ⟨rfl, ⟨nd, rfl⟩⟩; refine ⟨_, rfl, ?_⟩) | (go_at_call 8; (with_reducible refine (basculelaw12_small.calls a1 true _ A7.out).mono ?_); rintro e w' ⟨rfl, ⟨nd, rfl⟩⟩) | (go_at_call 8; (with_reducible refine (basculelaw12_small.calls a2 true _ A9.out).mono ?_); rintro e w' ⟨rfl, ⟨nd, rfl⟩⟩) | (go_at_call 12; (with_reducible refine (topic_Filter.calls a0 t228 _ (Go.Proofs.YtlfigadjbnikiaaDoor.Top.Laid.below hLd_ (by repeat (first | (with_reducible first | exact HB.out | apply below_alloc | apply pw_below_drewN | apply below_drew1) | exact HB.out))) A14.out).mono ?_); rintro e w22 ⟨rfl, hb⟩; have n0_ := Aside0.mk (below_step (by repeat (first | (with_reducible first | exact HB.out | apply below_alloc | apply pw_below_drewN | apply below_drew1) | exact HB.out)) hb); clear HB; have HB := n0_; clear n0_; (try clear hb); (try clear hb2); (try clear hk); (try clear hi)) | (go_at_call 10; (with_reducible refine (topic_Name.calls a1 t229 _ (Go.Proofs.YtlfigadjbnikiaaDoor.Top.Laid.below hLd_ (by repeat (first | (with_reducible first | exact HB.out | apply below_alloc | apply pw_below_drewN | apply below_drew1) | exact HB.out))) A16.out).mono ?_); rintro e w23 ⟨rfl, hb⟩; have n0_ := Aside0.mk (below_step (by repeat (first | (with_reducible first | exact HB.out | apply below_alloc | apply pw_below_drewN | apply below_drew1) | exact HB.out)) hb); clear HB; have HB := n0_; clear n0_; (try clear hb); (try clear hb2); (try clear hk); (try clear hi)) | (go_at_call 10; (with_reducible refine (topic_Name.calls a2 t230 _ (Go.Proofs.YtlfigadjbnikiaaDoor.Top.Laid.below hLd_ (by repeat (first | (with_reducible first | exact HB.out | apply below_alloc | apply pw_below_drewN | apply below_drew1) | exact HB.out))) A18.out).mono ?_); rintro e w24 ⟨rfl, hb⟩; have n0_ := Aside0.mk (below_step (by repeat (first | (with_reducible first | exact HB.out | apply below_alloc | apply pw_below_drewN | apply below_drew1) | exact HB.out)) hb); clear HB; have HB := n0_; clear n0_; (try clear hb); (try clear hb2); (try clear hk); (try clear hi); have p21 : 0 ≤ (0 : Int) := (by omega); have q21 : 0 < a1.size := (by have : (0 : Int) < (a1.size : Int) := of_decide_eq_true (by first | (with_reducible assumption) | assumption); omega); have hx21 : ∀ h : 0 < a1.size, ((a1[0]'h).toNat : Int) = bt a1 0 := bt_at a1 0; clear p21; have qi21 : (0 < (a1.size : Int)) = True := eq_true (of_decide_eq_true (by first | (with_reducible assumption) | assumption)); replace q21 := eq_true q21))
                        go_meet
                        case rel => exact ⟨_, (((bt a1 0) == 36)), (by first | rfl | (simp; done) | (simp [*]; done)), H', ⟨by first | omega | exact Nat.le_refl _⟩, ⟨by repeat (first | (with_reducible first | exact HB.out | apply below_alloc | apply pw_below_drewN | apply below_drew1) | exact HB.out)⟩⟩
                      · rw [if_neg c20] at H
                        exact absurd H (by simp)
                    · rw [if_neg c19] at H
                      have c19b0 : (t230 == 0) = false := beq_eq_false_iff_ne.mpr c19
                      have c19b1 : (t230 != 0) = true := bne_iff_ne.mpr c19
                      have H' := Aside0.mk H
                      clear H
                      go_wp2_with (first | ((with_reducible refine gate_callee (f := 8) rfl ?_); refine goesL_ (some 10) rfl rfl Tryd.func8 (by kernel_rfl) rfl #[.string a0] rfl (by (try simp only [List.map_toArray, List.map_cons, List.map_nil]); first | done | rfl | (simp only [List.length_drop, List.length_take]; rfl)) ?_; (with_reducible refine (basculelaw12_small.calls a0 true _ A5.out).mono ?_); rintro e w' ⟨rfl, ⟨nd, rfl⟩⟩; refine ⟨_, rfl, ?_⟩) | (go_at_call 8; (with_reducible refine (basculelaw12_small.calls a1 true _ A7.out).mono ?_); rintro e w' ⟨rfl, ⟨nd, rfl⟩⟩) | (go_at_call 8; (with_reducible refine (basculelaw12_small.calls a2 true _ A9.out).mono ?_); rintro e w' ⟨rfl, ⟨nd, rfl⟩⟩) | (go_at_call 12; (with_reducible refine (topic_Filter.calls a0 t228 _ (Go.Proofs.YtlfigadjbnikiaaDoor.Top.Laid.below hLd_ (by repeat (first | (with_reducible first | exact HB.out | apply below_alloc | apply pw_below_drewN | apply below_drew1) | exact HB.out))) A14.out).mono ?_); rintro e w25 ⟨rfl, hb⟩; have n0_ := Aside0.mk (below_step (by repeat (first | (with_reducible first | exact HB.out | apply below_alloc | apply pw_below_drewN | apply below_drew1) | exact HB.out)) hb); clear HB; have HB := n0_; clear n0_; (try clear hb); (try clear hb2); (try clear hk); (try clear hi)) | (go_at_call 10; (with_reducible refine (topic_Name.calls a1 t229 _ (Go.Proofs.YtlfigadjbnikiaaDoor.Top.Laid.below hLd_ (by repeat (first | (with_reducible first | exact HB.out | apply below_alloc | apply pw_below_drewN | apply below_drew1) | exact HB.out))) A16.out).mono ?_); rintro e w26 ⟨rfl, hb⟩; have n0_ := Aside0.mk (below_step (by repeat (first | (with_reducible first | exact HB.out | apply below_alloc | apply pw_below_drewN | apply below_drew1) | exact HB.out)) hb); clear HB; have HB := n0_; clear n0_; (try clear hb); (try clear hb2); (try clear hk); (try clear hi)) | (go_at_call 10; (with_reducible refine (topic_Name.calls a2 t230 _ (Go.Proofs.YtlfigadjbnikiaaDoor.Top.Laid.below hLd_ (by repeat (first | (with_reducible first | exact HB.out | apply below_alloc | apply pw_below_drewN | apply below_drew1) | exact HB.out))) A18.out).mono ?_); rintro e w27 ⟨rfl, hb⟩; have n0_ := Aside0.mk (below_step (by repeat (first | (with_reducible first | exact HB.out | apply below_alloc | apply pw_below_drewN | apply below_drew1) | exact HB.out)) hb); clear HB; have HB := n0_; clear n0_; (try clear hb); (try clear hb2); (try clear hk); (try clear hi)))
                      go_meet
                      case rel => exact ⟨_, (true), (by first | rfl | (simp; done) | (simp [*]; done)), H', ⟨by first | omega | exact Nat.le_refl _⟩, ⟨by repeat (first | (with_reducible first | exact HB.out | apply below_alloc | apply pw_below_drewN | apply below_drew1) | exact HB.out)⟩⟩
                  · rw [if_neg c17] at H
                    have c17b0 : (t229 == 0) = false := beq_eq_false_iff_ne.mpr c17
                    have c17b1 : (t229 != 0) = true := bne_iff_ne.mpr c17
                    have H' := Aside0.mk H
                    clear H
                    go_wp2_with (first | ((with_reducible refine gate_callee (f := 8) rfl ?_); refine goesL_ (some 10) rfl rfl Tryd.func8 (by kernel_rfl) rfl #[.string a0] rfl (by (try simp only [List.map_toArray, List.map_cons, List.map_nil]); first | done | rfl | (simp only [List.length_drop, List.length_take]; rfl)) ?_; (with_reducible refine (basculelaw12_small.calls a0 true _ A5.out).mono ?_); rintro e w' ⟨rfl, ⟨nd, rfl⟩⟩; refine ⟨_, rfl, ?_⟩) | (go_at_call 8; (with_reducible refine (basculelaw12_small.calls a1 true _ A7.out).mono ?_); rintro e w' ⟨rfl, ⟨nd, rfl⟩⟩) | (go_at_call 8; (with_reducible refine (basculelaw12_small.calls a2 true _ A9.out).mono ?_); rintro e w' ⟨rfl, ⟨nd, rfl⟩⟩) | (go_at_call 12; (with_reducible refine (topic_Filter.calls a0 t228 _ (Go.Proofs.YtlfigadjbnikiaaDoor.Top.Laid.below hLd_ (by repeat (first | (with_reducible first | exact HB.out | apply below_alloc | apply pw_below_drewN | apply below_drew1) | exact HB.out))) A14.out).mono ?_); rintro e w28 ⟨rfl, hb⟩; have n0_ := Aside0.mk (below_step (by repeat (first | (with_reducible first | exact HB.out | apply below_alloc | apply pw_below_drewN | apply below_drew1) | exact HB.out)) hb); clear HB; have HB := n0_; clear n0_; (try clear hb); (try clear hb2); (try clear hk); (try clear hi)) | (go_at_call 10; (with_reducible refine (topic_Name.calls a1 t229 _ (Go.Proofs.YtlfigadjbnikiaaDoor.Top.Laid.below hLd_ (by repeat (first | (with_reducible first | exact HB.out | apply below_alloc | apply pw_below_drewN | apply below_drew1) | exact HB.out))) A16.out).mono ?_); rintro e w29 ⟨rfl, hb⟩; have n0_ := Aside0.mk (below_step (by repeat (first | (with_reducible first | exact HB.out | apply below_alloc | apply pw_below_drewN | apply below_drew1) | exact HB.out)) hb); clear HB; have HB := n0_; clear n0_; (try clear hb); (try clear hb2); (try clear hk); (try clear hi)))
                    go_meet
                    case rel => exact ⟨_, (true), (by first | rfl | (simp; done) | (simp [*]; done)), H', ⟨by first | omega | exact Nat.le_refl _⟩, ⟨by repeat (first | (with_reducible first | exact HB.out | apply below_alloc | apply pw_below_drewN | apply below_drew1) | exact HB.out)⟩⟩
                · rw [if_neg c15] at H
                  have c15b0 : (t228 == 0) = false := beq_eq_false_iff_ne.mpr c15
                  have c15b1 : (t228 != 0) = true := bne_iff_ne.mpr c15
                  have H' := Aside0.mk H
                  clear H
                  go_wp2_with (first | ((with_reducible refine gate_callee (f := 8) rfl ?_); refine goesL_ (some 10) rfl rfl Tryd.func8 (by kernel_rfl) rfl #[.string a0] rfl (by (try simp only [List.map_toArray, List.map_cons, List.map_nil]); first | done | rfl | (simp only [List.length_drop, List.length_take]; rfl)) ?_; (with_reducible refine (basculelaw12_small.calls a0 true _ A5.out).mono ?_); rintro e w' ⟨rfl, ⟨nd, rfl⟩⟩; refine ⟨_, rfl, ?_⟩) | (go_at_call 8; (with_reducible refine (basculelaw12_small.calls a1 true _ A7.out).mono ?_); rintro e w' ⟨rfl, ⟨nd, rfl⟩⟩) | (go_at_call 8; (with_reducible refine (basculelaw12_small.calls a2 true _ A9.out).mono ?_); rintro e w' ⟨rfl, ⟨nd, rfl⟩⟩) | (go_at_call 12; (with_reducible refine (topic_Filter.calls a0 t228 _ (Go.Proofs.YtlfigadjbnikiaaDoor.Top.Laid.below hLd_ (by repeat (first | (with_reducible first | exact HB.out | apply below_alloc | apply pw_below_drewN | apply below_drew1) | exact HB.out))) A14.out).mono ?_); rintro e w30 ⟨rfl, hb⟩; have n0_ := Aside0.mk (below_step (by repeat (first | (with_reducible first | exact HB.out | apply below_alloc | apply pw_below_drewN | apply below_drew1) | exact HB.out)) hb); clear HB; have HB := n0_; clear n0_; (try clear hb); (try clear hb2); (try clear hk); (try clear hi)))
                  go_meet
                  case rel => exact ⟨_, (true), (by first | rfl | (simp; done) | (simp [*]; done)), H', ⟨by first | omega | exact Nat.le_refl _⟩, ⟨by repeat (first | (with_reducible first | exact HB.out | apply below_alloc | apply pw_below_drewN | apply below_drew1) | exact HB.out)⟩⟩
        · replace c10 := Bool.eq_false_iff.mpr c10
          subst c10
          have H1 : (basculelaw12_TopicDollar.j0 k a0 a1 a2 true) = some r := by rw [if_neg (show ¬ (false = true) by decide)] at H; exact H
          clear H
          have H := H1
          clear H1
          have H' := Aside0.mk H
          clear H
          go_wp2_with (first | ((with_reducible refine gate_callee (f := 8) rfl ?_); refine goesL_ (some 10) rfl rfl Tryd.func8 (by kernel_rfl) rfl #[.string a0] rfl (by (try simp only [List.map_toArray, List.map_cons, List.map_nil]); first | done | rfl | (simp only [List.length_drop, List.length_take]; rfl)) ?_; (with_reducible refine (basculelaw12_small.calls a0 true _ A5.out).mono ?_); rintro e w' ⟨rfl, ⟨nd, rfl⟩⟩; refine ⟨_, rfl, ?_⟩) | (go_at_call 8; (with_reducible refine (basculelaw12_small.calls a1 true _ A7.out).mono ?_); rintro e w' ⟨rfl, ⟨nd, rfl⟩⟩) | (go_at_call 8; (with_reducible refine (basculelaw12_small.calls a2 false _ A9.out).mono ?_); rintro e w' ⟨rfl, ⟨nd, rfl⟩⟩))
          go_meet
          case rel => exact ⟨_, (true), (by first | rfl | (simp; done) | (simp [*]; done)), H', ⟨by first | omega | exact Nat.le_refl _⟩, ⟨by repeat (first | (with_reducible first | exact HB.out | apply below_alloc | apply pw_below_drewN | apply below_drew1) | exact HB.out)⟩⟩
      · replace c8 := Bool.eq_false_iff.mpr c8
        subst c8
        have H1 : (basculelaw12_TopicDollar.j0 k a0 a1 a2 true) = some r := by rw [if_neg (show ¬ (false = true) by decide)] at H; exact H
        clear H
        have H := H1
        clear H1
        have H' := Aside0.mk H
        clear H
        go_wp2_with (first | ((with_reducible refine gate_callee (f := 8) rfl ?_); refine goesL_ (some 10) rfl rfl Tryd.func8 (by kernel_rfl) rfl #[.string a0] rfl (by (try simp only [List.map_toArray, List.map_cons, List.map_nil]); first | done | rfl | (simp only [List.length_drop, List.length_take]; rfl)) ?_; (with_reducible refine (basculelaw12_small.calls a0 true _ A5.out).mono ?_); rintro e w' ⟨rfl, ⟨nd, rfl⟩⟩; refine ⟨_, rfl, ?_⟩) | (go_at_call 8; (with_reducible refine (basculelaw12_small.calls a1 false _ A7.out).mono ?_); rintro e w' ⟨rfl, ⟨nd, rfl⟩⟩))
        go_meet
        case rel => exact ⟨_, (true), (by first | rfl | (simp; done) | (simp [*]; done)), H', ⟨by first | omega | exact Nat.le_refl _⟩, ⟨by repeat (first | (with_reducible first | exact HB.out | apply below_alloc | apply pw_below_drewN | apply below_drew1) | exact HB.out)⟩⟩
    · replace c6 := Bool.eq_false_iff.mpr c6
      subst c6
      have H1 : (basculelaw12_TopicDollar.j0 k a0 a1 a2 true) = some r := by rw [if_neg (show ¬ (false = true) by decide)] at H; exact H
      clear H
      have H := H1
      clear H1
      have H' := Aside0.mk H
      clear H
      go_wp2_with (first | ((with_reducible refine gate_callee (f := 8) rfl ?_); refine goesL_ (some 10) rfl rfl Tryd.func8 (by kernel_rfl) rfl #[.string a0] rfl (by (try simp only [List.map_toArray, List.map_cons, List.map_nil]); first | done | rfl | (simp only [List.length_drop, List.length_take]; rfl)) ?_; (with_reducible refine (basculelaw12_small.calls a0 false _ A5.out).mono ?_); rintro e w' ⟨rfl, ⟨nd, rfl⟩⟩; refine ⟨_, rfl, ?_⟩))
      go_meet
      case rel => exact ⟨_, (true), (by first | rfl | (simp; done) | (simp [*]; done)), H', ⟨by first | omega | exact Nat.le_refl _⟩, ⟨by repeat (first | (with_reducible first | exact HB.out | apply below_alloc | apply pw_below_drewN | apply below_drew1) | exact HB.out)⟩⟩
  case rest =>
    clear HC4
    try clear c1
    try clear c2
    try clear p2
    try clear q2
    try clear hx2
    try clear qi2
    try clear c6
    try clear c7
    try clear c8
    try clear c10
    try clear c11
    try clear c11b0
    try clear c11b1
    try clear c12
    try clear c12b0
    try clear c12b1
    try clear c13
    try clear c13b0
    try clear c13b1
    try clear c15
    try clear c15b0
    try clear c15b1
    try clear c17
    try clear c17b0
    try clear c17b1
    try clear c19
    try clear c19b0
    try clear c19b1
    try clear c20
    try clear c20b0
    try clear c20b1
    try clear p21
    try clear q21
    try clear hx21
    try clear qi21
    try clear p21
    try clear q21
    obtain ⟨kq, x53_3, rfl, HA, HJ3, HB⟩ := hcut
    cases kq with
    | zero => exact absurd HA.out (by simp [basculelaw12_TopicDollar.j0])
    | succ kj3 =>
      have H := HA.out
      clear HA
      simp only [basculelaw12_TopicDollar.j0] at H
      by_cases c31 : x53_3 = true
      · subst c31
        have H1 : (some true) = some r := by rw [if_pos rfl] at H; exact H
        clear H
        have H := H1
        clear H1
        obtain rfl := Option.some.inj H
        go_wp2
        go_ret
        exact ⟨by first | rfl | (simp [errW_none, errW_some] <;> rfl) | (simp [*, errW_none, errW_some] <;> rfl), by repeat (first | (with_reducible first | exact HB.out | apply below_alloc | apply pw_below_drewN | apply below_drew1) | exact HB.out)⟩
      · replace c31 := Bool.eq_false_iff.mpr c31
        subst c31
        have H1 : (basculelaw12_TopicDollar.l0 kj3 a0 a1 a2 0) = some r := by rw [if_neg (show ¬ (false = true) by decide)] at H; exact H
        clear H
        have H := H1
        clear H1
        have H' := Aside0.mk H
        clear H
        go_wp2
        go_loopg [7] kj3 (fun kq v7 w' => ∃ (x7_2 : Int), v7 = .int .i64 x7_2 ∧ Aside0 (basculelaw12_TopicDollar.l0 kq a0 a1 a2 x7_2 = some r) ∧ Aside0 (kq ≤ kj3) ∧ Aside0 (Below w.heap.size w w'))
        case atStart => exact ⟨(0), (by first | rfl | (simp; done) | (simp [*]; done)), H', ⟨Nat.le_refl _⟩, ⟨by repeat (first | (with_reducible first | exact HB.out | apply below_alloc | apply pw_below_drewN | apply below_drew1) | exact HB.out)⟩⟩
        case round =>
          clear H'
          try clear c1
          try clear c2
          try clear p2
          try clear q2
          try clear hx2
          try clear qi2
          try clear c3
          try clear c6
          try clear c7
          try clear c8
          try clear c10
          try clear c11
          try clear c11b0
          try clear c11b1
          try clear c12
          try clear c12b0
          try clear c12b1
          try clear c13
          try clear c13b0
          try clear c13b1
          try clear c15
          try clear c15b0
          try clear c15b1
          try clear c17
          try clear c17b0
          try clear c17b1
          try clear c19
          try clear c19b0
          try clear c19b1
          try clear c20
          try clear c20b0
          try clear c20b1
          try clear p21
          try clear q21
          try clear hx21
          try clear qi21
          try clear c31
          try clear p2
          try clear p21
          try clear q2
          try clear q21
          obtain ⟨x7_2, rfl, HA, HK2, HB⟩ := hrel
          cases gk with
          | zero => exact absurd HA.out (by simp [basculelaw12_TopicDollar.l0])
          | succ k2 =>
            have H := HA.out
            clear HA
            simp only [basculelaw12_TopicDollar.l0] at H
            by_cases c32 : x7_2 < (a2.size : Int)
            · rw [if_pos c32] at H
              have c32b0 : decide (x7_2 < (a2.size : Int)) = true := decide_eq_true c32
              clear c32
              by_cases c33 : 0 ≤ x7_2
              · rw [if_pos c33] at H
                have c33b0 : decide (0 ≤ x7_2) = true := decide_eq_true c33
                clear c33
                by_cases c35 : (bt a2 x7_2) = 47
                · rw [if_pos c35] at H
                  have c35b0 : ((bt a2 x7_2) == 47) = true := beq_iff_eq.mpr c35
                  have c35b1 : ((bt a2 x7_2) != 47) = false := bne_eq_false_iff_eq.mpr c35
                  clear c35
                  obtain rfl := Option.some.inj H
                  have p34 : 0 ≤ (x7_2 : Int) := of_decide_eq_true (by first | (with_reducible assumption) | assumption)
                  have q34 : x7_2 < (a2.size : Int) := of_decide_eq_true (by first | (with_reducible assumption) | assumption)
                  have hx34 := bt_at a2 x7_2
                  replace p34 := eq_true p34
                  replace q34 := eq_true q34
                  go_wp2
                  go_ret
                  exact ⟨by first | rfl | (simp [errW_none, errW_some] <;> rfl) | (simp [*, errW_none, errW_some] <;> rfl), by repeat (first | (with_reducible first | exact HB.out | apply below_alloc | apply pw_below_drewN | apply below_drew1) | exact HB.out)⟩
                · rw [if_neg c35] at H
                  have c35b0 : ((bt a2 x7_2) == 47) = false := beq_eq_false_iff_ne.mpr c35
                  have c35b1 : ((bt a2 x7_2) != 47) = true := bne_iff_ne.mpr c35
                  have H' := Aside0.mk H
                  clear H
                  have p34 : 0 ≤ (x7_2 : Int) := of_decide_eq_true (by first | (with_reducible assumption) | assumption)
                  have q34 : x7_2 < (a2.size : Int) := of_decide_eq_true (by first | (with_reducible assumption) | assumption)
                  have hx34 := bt_at a2 x7_2
                  replace p34 := eq_true p34
                  replace q34 := eq_true q34
                  go_wp2
                  go_roundg k2
                  case measure => have := HJ3.out; have := HK2.out; omega
                  case rel => exact ⟨(wrap64 (x7_2 + 1)), (by first | rfl | (simp; done) | (simp [*]; done)), H', ⟨by have := HJ3.out; have := HK2.out; omega⟩, ⟨by repeat (first | (with_reducible first | exact HB.out | apply below_alloc | apply pw_below_drewN | apply below_drew1) | exact HB.out)⟩⟩
              · rw [if_neg c33] at H
                exact absurd H (by simp)
            · rw [if_neg c32] at H
              have c32b0 : decide (x7_2 < (a2.size : Int)) = false := decide_eq_false c32
              clear c32
              replace H := Option.bind_eq_some_iff.mp H
              obtain ⟨t231, A360, H⟩ := H
              replace H : (if a2.size + 1 ≤ 9223372036854775807 then (if (a2 ++ (⟨#[47]⟩ : ByteArray)).size + a0.size ≤ 9223372036854775807 then (if (a2 ++ (⟨#[47]⟩ : ByteArray)).size + a1.size ≤ 9223372036854775807 then ((basculelaw12_takes.f ((a2 ++ (⟨#[47]⟩ : ByteArray)) ++ a0) ((a2 ++ (⟨#[47]⟩ : ByteArray)) ++ a1)).bind fun t232 => (if (t232 != t231) = true then (basculelaw12_TopicDollar.j2 k2 a0 a1 a2 t231 true) else (if 1 + a2.size ≤ 9223372036854775807 then (if ((⟨#[36]⟩ : ByteArray) ++ a2).size + 1 ≤ 9223372036854775807 then (if (((⟨#[36]⟩ : ByteArray) ++ a2) ++ (⟨#[47]⟩ : ByteArray)).size + a0.size ≤ 9223372036854775807 then (if (((⟨#[36]⟩ : ByteArray) ++ a2) ++ (⟨#[47]⟩ : ByteArray)).size + a1.size ≤ 9223372036854775807 then ((basculelaw12_takes.f ((((⟨#[36]⟩ : ByteArray) ++ a2) ++ (⟨#[47]⟩ : ByteArray)) ++ a0) ((((⟨#[36]⟩ : ByteArray) ++ a2) ++ (⟨#[47]⟩ : ByteArray)) ++ a1)).bind fun t233 => (basculelaw12_TopicDollar.j2 k2 a0 a1 a2 t231 (t233 != t231))) else (none)) else (none)) else (none)) else (none)))) else (none)) else (none)) else (none)) = some r := H
              have A36 := Aside0.mk A360
              clear A360
              have HC37 := Aside0.mk H
              clear H
              go_upto_region 9 with (first | ((with_reducible refine gate_callee (f := 16) rfl ?_); refine goesL_ (some 66) rfl rfl Tryd.func16 (by kernel_rfl) rfl #[.string a0, .string a1] rfl (by (try simp only [List.map_toArray, List.map_cons, List.map_nil]); first | done | rfl | (simp only [List.length_drop, List.length_take]; rfl)) ?_; (with_reducible refine (basculelaw12_takes.calls a0 a1 t231 _ (Go.Proofs.YtlfigadjbnikiaaDoor.Top.Laid.below hLd_ (by repeat (first | (with_reducible first | exact HB.out | apply below_alloc | apply pw_below_drewN | apply below_drew1) | exact HB.out))) A36.out).mono ?_); rintro e w38 ⟨rfl, hb⟩; refine ⟨_, rfl, ?_⟩; have n0_ := Aside0.mk (below_step (by repeat (first | (with_reducible first | exact HB.out | apply below_alloc | apply pw_below_drewN | apply below_drew1) | exact HB.out)) hb); clear HB; have HB := n0_; clear n0_; (try clear hb); (try clear hb2); (try clear hk); (try clear hi)))
              (try simp only [Act.put, List.setIfInBounds_toArray, List.set_cons_zero, List.set_cons_succ])
              go_cut [92] (fun v92 wc => ∃ (kq : Nat) (x92_36 : Bool), v92 = .bool x92_36 ∧ Aside0 (basculelaw12_TopicDollar.j2 kq a0 a1 a2 t231 x92_36 = some r) ∧ Aside0 (kq ≤ k2) ∧ Aside0 (Below w.heap.size w wc))
              case first =>
                have H := HC37.out
                clear HC37
                by_cases c39 : a2.size + 1 ≤ 9223372036854775807
                · rw [if_pos c39] at H
                  have c39b0 := eq_true c39
                  have c39b1 : decide (a2.size + 1 ≤ 9223372036854775807) = true := decide_eq_true c39
                  try have c39b2 : (9223372036854775807 < a2.size + 1) = False := eq_false (Nat.not_lt.2 c39)
                  by_cases c40 : (a2 ++ (⟨#[47]⟩ : ByteArray)).size + a0.size ≤ 9223372036854775807
                  · rw [if_pos c40] at H
                    have c40b0 := eq_true c40
                    have c40b1 : decide ((a2 ++ (⟨#[47]⟩ : ByteArray)).size + a0.size ≤ 9223372036854775807) = true := decide_eq_true c40
                    try have c40b2 : (9223372036854775807 < (a2 ++ (⟨#[47]⟩ : ByteArray)).size + a0.size) = False := eq_false (Nat.not_lt.2 c40)
                    try have c40b7 : (9223372036854775807 < a2.size + 1 + a0.size) = False := eq_false (by have h9_ := c40; simp only [ByteArray.size_append] at h9_; simp only [ByteArray.size, List.size_toArray, List.length_cons, List.length_nil] at h9_ ⊢; omega)
                    by_cases c41 : (a2 ++ (⟨#[47]⟩ : ByteArray)).size + a1.size ≤ 9223372036854775807
                    · rw [if_pos c41] at H
                      have c41b0 := eq_true c41
                      have c41b1 : decide ((a2 ++ (⟨#[47]⟩ : ByteArray)).size + a1.size ≤ 9223372036854775807) = true := decide_eq_true c41
                      try have c41b2 : (9223372036854775807 < (a2 ++ (⟨#[47]⟩ : ByteArray)).size + a1.size) = False := eq_false (Nat.not_lt.2 c41)
                      try have c41b7 : (9223372036854775807 < a2.size + 1 + a1.size) = False := eq_false (by have h9_ := c41; simp only [ByteArray.size_append] at h9_; simp only [ByteArray.size, List.size_toArray, List.length_cons, List.length_nil] at h9_ ⊢; omega)
                      replace H := Option.bind_eq_some_iff.mp H
                      obtain ⟨t232, A420, H⟩ := H
                      replace H : (if (t232 != t231) = true then (basculelaw12_TopicDollar.j2 k2 a0 a1 a2 t231 true) else (if 1 + a2.size ≤ 9223372036854775807 then (if ((⟨#[36]⟩ : ByteArray) ++ a2).size + 1 ≤ 9223372036854775807 then (if (((⟨#[36]⟩ : ByteArray) ++ a2) ++ (⟨#[47]⟩ : ByteArray)).size + a0.size ≤ 9223372036854775807 then (if (((⟨#[36]⟩ : ByteArray) ++ a2) ++ (⟨#[47]⟩ : ByteArray)).size + a1.size ≤ 9223372036854775807 then ((basculelaw12_takes.f ((((⟨#[36]⟩ : ByteArray) ++ a2) ++ (⟨#[47]⟩ : ByteArray)) ++ a0) ((((⟨#[36]⟩ : ByteArray) ++ a2) ++ (⟨#[47]⟩ : ByteArray)) ++ a1)).bind fun t233 => (basculelaw12_TopicDollar.j2 k2 a0 a1 a2 t231 (t233 != t231))) else (none)) else (none)) else (none)) else (none))) = some r := H
                      have A42 := Aside0.mk A420
                      clear A420
                      by_cases c43 : (t232 != t231) = true
                      · rw [if_pos c43] at H
                        have c43b0 : (t232 != t231) = true := c43
                        (try (have c43b1 : decide (t232 = t231) = false := by simpa using c43))
                        (try (have c43b2 : (t232 == t231) = false := by simpa using c43))
                        (try (have c43b3 : ¬ (t232 = t231) := by simpa using c43))
                        clear c43
                        (first | rw [c43b0] | (simp only [i64_w, i32_w]; rw [c43b0]) | skip)
                        have H' := Aside0.mk H
                        clear H
                        go_wp2_with (first | ((with_reducible refine gate_callee (f := 16) rfl ?_); refine goesL_ (some 75) rfl rfl Tryd.func16 (by kernel_rfl) rfl #[.string ((a2 ++ (⟨#[47]⟩ : ByteArray)) ++ a0), .string ((a2 ++ (⟨#[47]⟩ : ByteArray)) ++ a1)] rfl (by (try simp only [List.map_toArray, List.map_cons, List.map_nil]); first | done | rfl | (simp only [List.length_drop, List.length_take]; rfl)) ?_; (with_reducible refine (basculelaw12_takes.calls ((a2 ++ (⟨#[47]⟩ : ByteArray)) ++ a0) ((a2 ++ (⟨#[47]⟩ : ByteArray)) ++ a1) t232 _ (Go.Proofs.YtlfigadjbnikiaaDoor.Top.Laid.below hLd_ (by repeat (first | (with_reducible first | exact HB.out | apply below_alloc | apply pw_below_drewN | apply below_drew1) | exact HB.out))) A42.out).mono ?_); rintro e w44 ⟨rfl, hb⟩; refine ⟨_, rfl, ?_⟩; have n0_ := Aside0.mk (below_step (by repeat (first | (with_reducible first | exact HB.out | apply below_alloc | apply pw_below_drewN | apply below_drew1) | exact HB.out)) hb); clear HB; have HB := n0_; clear n0_; (try clear hb); (try clear hb2); (try clear hk); (try clear hi)))
                        go_meet
                        case rel => exact ⟨_, (true), (by first | rfl | (simp; done) | (simp [*]; done)), H', ⟨by have := HJ3.out; have := HK2.out; first | omega | exact Nat.le_refl _⟩, ⟨by repeat (first | (with_reducible first | exact HB.out | apply below_alloc | apply pw_below_drewN | apply below_drew1) | exact HB.out)⟩⟩
                      · rw [if_neg c43] at H
                        have c43b0 : (t232 != t231) = false := by simpa using c43
                        (try (have c43b1 : decide (t232 = t231) = true := by simpa using c43))
                        (try (have c43b2 : (t232 == t231) = true := by simpa using c43))
                        clear c43
                        (first | rw [c43b0] | (simp only [i64_w, i32_w]; rw [c43b0]) | skip)
                        by_cases c45 : 1 + a2.size ≤ 9223372036854775807
                        · rw [if_pos c45] at H
                          have c45b0 := eq_true c45
                          have c45b1 : decide (1 + a2.size ≤ 9223372036854775807) = true := decide_eq_true c45
                          try have c45b2 : (9223372036854775807 < 1 + a2.size) = False := eq_false (Nat.not_lt.2 c45)
                          by_cases c46 : ((⟨#[36]⟩ : ByteArray) ++ a2).size + 1 ≤ 9223372036854775807
                          · rw [if_pos c46] at H
                            have c46b0 := eq_true c46
                            have c46b1 : decide (((⟨#[36]⟩ : ByteArray) ++ a2).size + 1 ≤ 9223372036854775807) = true := decide_eq_true c46
                            try have c46b2 : (9223372036854775807 < ((⟨#[36]⟩ : ByteArray) ++ a2).size + 1) = False := eq_false (Nat.not_lt.2 c46)
                            try have c46b7 : (9223372036854775807 < 1 + a2.size + 1) = False := eq_false (by have h9_ := c46; simp only [ByteArray.size_append] at h9_; simp only [ByteArray.size, List.size_toArray, List.length_cons, List.length_nil] at h9_ ⊢; omega)
                            by_cases c47 : (((⟨#[36]⟩ : ByteArray) ++ a2) ++ (⟨#[47]⟩ : ByteArray)).size + a0.size ≤ 9223372036854775807
                            · rw [if_pos c47] at H
                              have c47b0 := eq_true c47
                              have c47b1 : decide ((((⟨#[36]⟩ : ByteArray) ++ a2) ++ (⟨#[47]⟩ : ByteArray)).size + a0.size ≤ 9223372036854775807) = true := decide_eq_true c47
                              try have c47b2 : (9223372036854775807 < (((⟨#[36]⟩ : ByteArray) ++ a2) ++ (⟨#[47]⟩ : ByteArray)).size + a0.size) = False := eq_false (Nat.not_lt.2 c47)
                              try have c47b7 : (9223372036854775807 < 1 + a2.size + 1 + a0.size) = False := eq_false (by have h9_ := c47; simp only [ByteArray.size_append] at h9_; simp only [ByteArray.size, List.size_toArray, List.length_cons, List.length_nil] at h9_ ⊢; omega)
                              by_cases c48 : (((⟨#[36]⟩ : ByteArray) ++ a2) ++ (⟨#[47]⟩ : ByteArray)).size + a1.size ≤ 9223372036854775807
                              · rw [if_pos c48] at H
                                have c48b0 := eq_true c48
                                have c48b1 : decide ((((⟨#[36]⟩ : ByteArray) ++ a2) ++ (⟨#[47]⟩ : ByteArray)).size + a1.size ≤ 9223372036854775807) = true := decide_eq_true c48
                                try have c48b2 : (9223372036854775807 < (((⟨#[36]⟩ : ByteArray) ++ a2) ++ (⟨#[47]⟩ : ByteArray)).size + a1.size) = False := eq_false (Nat.not_lt.2 c48)
                                try have c48b7 : (9223372036854775807 < 1 + a2.size + 1 + a1.size) = False := eq_false (by have h9_ := c48; simp only [ByteArray.size_append] at h9_; simp only [ByteArray.size, List.size_toArray, List.length_cons, List.length_nil] at h9_ ⊢; omega)
                                replace H := Option.bind_eq_some_iff.mp H
                                obtain ⟨t233, A490, H⟩ := H
                                replace H : (basculelaw12_TopicDollar.j2 k2 a0 a1 a2 t231 (t233 != t231)) = some r := H
                                have A49 := Aside0.mk A490
                                clear A490
                                have H' := Aside0.mk H
                                clear H
                                go_wp2_with (first | ((with_reducible refine gate_callee (f := 16) rfl ?_); refine goesL_ (some 75) rfl rfl Tryd.func16 (by kernel_rfl) rfl #[.string ((a2 ++ (⟨#[47]⟩ : ByteArray)) ++ a0), .string ((a2 ++ (⟨#[47]⟩ : ByteArray)) ++ a1)] rfl (by (try simp only [List.map_toArray, List.map_cons, List.map_nil]); first | done | rfl | (simp only [List.length_drop, List.length_take]; rfl)) ?_; (with_reducible refine (basculelaw12_takes.calls ((a2 ++ (⟨#[47]⟩ : ByteArray)) ++ a0) ((a2 ++ (⟨#[47]⟩ : ByteArray)) ++ a1) t232 _ (Go.Proofs.YtlfigadjbnikiaaDoor.Top.Laid.below hLd_ (by repeat (first | (with_reducible first | exact HB.out | apply below_alloc | apply pw_below_drewN | apply below_drew1) | exact HB.out))) A42.out).mono ?_); rintro e w50 ⟨rfl, hb⟩; refine ⟨_, rfl, ?_⟩; have n0_ := Aside0.mk (below_step (by repeat (first | (with_reducible first | exact HB.out | apply below_alloc | apply pw_below_drewN | apply below_drew1) | exact HB.out)) hb); clear HB; have HB := n0_; clear n0_; (try clear hb); (try clear hb2); (try clear hk); (try clear hi)) | (go_at_call 16; (with_reducible refine (basculelaw12_takes.calls ((((⟨#[36]⟩ : ByteArray) ++ a2) ++ (⟨#[47]⟩ : ByteArray)) ++ a0) ((((⟨#[36]⟩ : ByteArray) ++ a2) ++ (⟨#[47]⟩ : ByteArray)) ++ a1) t233 _ (Go.Proofs.YtlfigadjbnikiaaDoor.Top.Laid.below hLd_ (by repeat (first | (with_reducible first | exact HB.out | apply below_alloc | apply pw_below_drewN | apply below_drew1) | exact HB.out))) A49.out).mono ?_); rintro e w51 ⟨rfl, hb⟩; have n0_ := Aside0.mk (below_step (by repeat (first | (with_reducible first | exact HB.out | apply below_alloc | apply pw_below_drewN | apply below_drew1) | exact HB.out)) hb); clear HB; have HB := n0_; clear n0_; (try clear hb); (try clear hb2); (try clear hk); (try clear hi)))
                                go_meet
                                case rel => exact ⟨_, ((t233 != t231)), (by first | rfl | (simp; done) | (simp [*]; done)), H', ⟨by have := HJ3.out; have := HK2.out; first | omega | exact Nat.le_refl _⟩, ⟨by repeat (first | (with_reducible first | exact HB.out | apply below_alloc | apply pw_below_drewN | apply below_drew1) | exact HB.out)⟩⟩
                              · rw [if_neg c48] at H
                                exact absurd H (by simp)
                            · rw [if_neg c47] at H
                              exact absurd H (by simp)
                          · rw [if_neg c46] at H
                            exact absurd H (by simp)
                        · rw [if_neg c45] at H
                          exact absurd H (by simp)
                    · rw [if_neg c41] at H
                      exact absurd H (by simp)
                  · rw [if_neg c40] at H
                    exact absurd H (by simp)
                · rw [if_neg c39] at H
                  exact absurd H (by simp)
              case rest =>
                clear HC37
                try clear c1
                try clear c2
                try clear p2
                try clear q2
                try clear hx2
                try clear qi2
                try clear c3
                try clear p3
                try clear q3
                try clear hx3
                try clear c4
                try clear c6
                try clear p6
                try clear c7
                try clear c8
                try clear c10
                try clear c11
                try clear c11b0
                try clear c11b1
                try clear c12
                try clear c12b0
                try clear c12b1
                try clear c13
                try clear c13b0
                try clear c13b1
                try clear c15
                try clear c15b0
                try clear c15b1
                try clear c16
                try clear c17
                try clear c17b0
                try clear c17b1
                try clear c19
                try clear c19b0
                try clear c19b1
                try clear c20
                try clear c20b0
                try clear c20b1
                try clear p21
                try clear q21
                try clear hx21
                try clear qi21
                try clear c31
                try clear c32
                try clear c32b0
                try clear c33
                try clear c33b0
                try clear p34
                try clear q34
                try clear hx34
                try clear c35
                try clear c35b0
                try clear c35b1
                try clear c39
                try clear c39b0
                try clear c39b1
                try clear c39b2
                try clear c40
                try clear c40b0
                try clear c40b1
                try clear c40b2
                try clear c41
                try clear c41b0
                try clear c41b1
                try clear c41b2
                try clear c43
                try clear c43b0
                try clear c43b1
                try clear c43b2
                try clear c45
                try clear c45b0
                try clear c45b1
                try clear c45b2
                try clear c46
                try clear c46b0
                try clear c46b1
                try clear c46b2
                try clear c47
                try clear c47b0
                try clear c47b1
                try clear c47b2
                try clear c48
                try clear c48b0
                try clear c48b1
                try clear c48b2
                try clear p2
                try clear p21
                try clear p34
                try clear q2
                try clear q21
                try clear q34
                obtain ⟨kq, x92_36, rfl, HA, HJ36, HB⟩ := hcut
                cases kq with
                | zero => exact absurd HA.out (by simp [basculelaw12_TopicDollar.j2])
                | succ kj36 =>
                  have H := HA.out
                  clear HA
                  simp only [basculelaw12_TopicDollar.j2] at H
                  by_cases c52 : x92_36 = true
                  · subst c52
                    have H1 : (some false) = some r := by rw [if_pos rfl] at H; exact H
                    clear H
                    have H := H1
                    clear H1
                    obtain rfl := Option.some.inj H
                    go_wp2
                    go_ret
                    exact ⟨by first | rfl | (simp [errW_none, errW_some] <;> rfl) | (simp [*, errW_none, errW_some] <;> rfl), by repeat (first | (with_reducible first | exact HB.out | apply below_alloc | apply pw_below_drewN | apply below_drew1) | exact HB.out)⟩
                  · replace c52 := Bool.eq_false_iff.mpr c52
                    subst c52
                    have H1 : ((basculelaw12_awake.f).bind fun t234 => (if t234 = true then (if 2 + a0.size ≤ 9223372036854775807 then (if 1 + a2.size ≤ 9223372036854775807 then (if ((⟨#[36]⟩ : ByteArray) ++ a2).size + 1 ≤ 9223372036854775807 then (if (((⟨#[36]⟩ : ByteArray) ++ a2) ++ (⟨#[47]⟩ : ByteArray)).size + a1.size ≤ 9223372036854775807 then ((basculelaw12_takes.f ((⟨#[43, 47]⟩ : ByteArray) ++ a0) ((((⟨#[36]⟩ : ByteArray) ++ a2) ++ (⟨#[47]⟩ : ByteArray)) ++ a1)).bind fun t235 => (if t235 = true then (some false) else (if 0 < (a2.size : Int) then (if (bt a2 0) = 36 then (some true) else (if a2.size + 1 ≤ 9223372036854775807 then (if (a2 ++ (⟨#[47]⟩ : ByteArray)).size + a1.size ≤ 9223372036854775807 then ((basculelaw12_takes.f ((⟨#[43, 47]⟩ : ByteArray) ++ a0) ((a2 ++ (⟨#[47]⟩ : ByteArray)) ++ a1)).bind fun t236 => (some (t236 == t231))) else (none)) else (none))) else (none)))) else (none)) else (none)) else (none)) else (none)) else (some false))) = some r := by rw [if_neg (show ¬ (false = true) by decide)] at H; exact H
                    clear H
                    have H := H1
                    clear H1
                    replace H := Option.bind_eq_some_iff.mp H
                    obtain ⟨t234, A530, H⟩ := H
                    replace H : (if t234 = true then (if 2 + a0.size ≤ 9223372036854775807 then (if 1 + a2.size ≤ 9223372036854775807 then (if ((⟨#[36]⟩ : ByteArray) ++ a2).size + 1 ≤ 9223372036854775807 then (if (((⟨#[36]⟩ : ByteArray) ++ a2) ++ (⟨#[47]⟩ : ByteArray)).size + a1.size ≤ 9223372036854775807 then ((basculelaw12_takes.f ((⟨#[43, 47]⟩ : ByteArray) ++ a0) ((((⟨#[36]⟩ : ByteArray) ++ a2) ++ (⟨#[47]⟩ : ByteArray)) ++ a1)).bind fun t235 => (if t235 = true then (some false) else (if 0 < (a2.size : Int) then (if (bt a2 0) = 36 then (some true) else (if a2.size + 1 ≤ 9223372036854775807 then (if (a2 ++ (⟨#[47]⟩ : ByteArray)).size + a1.size ≤ 9223372036854775807 then ((basculelaw12_takes.f ((⟨#[43, 47]⟩ : ByteArray) ++ a0) ((a2 ++ (⟨#[47]⟩ : ByteArray)) ++ a1)).bind fun t236 => (some (t236 == t231))) else (none)) else (none))) else (none)))) else (none)) else (none)) else (none)) else (none)) else (some false)) = some r := H
                    have A53 := Aside0.mk A530
                    clear A530
                    by_cases c54 : t234 = true
                    · subst c54
                      have H1 : (if 2 + a0.size ≤ 9223372036854775807 then (if 1 + a2.size ≤ 9223372036854775807 then (if ((⟨#[36]⟩ : ByteArray) ++ a2).size + 1 ≤ 9223372036854775807 then (if (((⟨#[36]⟩ : ByteArray) ++ a2) ++ (⟨#[47]⟩ : ByteArray)).size + a1.size ≤ 9223372036854775807 then ((basculelaw12_takes.f ((⟨#[43, 47]⟩ : ByteArray) ++ a0) ((((⟨#[36]⟩ : ByteArray) ++ a2) ++ (⟨#[47]⟩ : ByteArray)) ++ a1)).bind fun t235 => (if t235 = true then (some false) else (if 0 < (a2.size : Int) then (if (bt a2 0) = 36 then (some true) else (if a2.size + 1 ≤ 9223372036854775807 then (if (a2 ++ (⟨#[47]⟩ : ByteArray)).size + a1.size ≤ 9223372036854775807 then ((basculelaw12_takes.f ((⟨#[43, 47]⟩ : ByteArray) ++ a0) ((a2 ++ (⟨#[47]⟩ : ByteArray)) ++ a1)).bind fun t236 => (some (t236 == t231))) else (none)) else (none))) else (none)))) else (none)) else (none)) else (none)) else (none)) = some r := by rw [if_pos rfl] at H; exact H
                      clear H
                      have H := H1
                      clear H1
                      by_cases c55 : 2 + a0.size ≤ 9223372036854775807
                      · rw [if_pos c55] at H
                        have c55b0 := eq_true c55
                        have c55b1 : decide (2 + a0.size ≤ 9223372036854775807) = true := decide_eq_true c55
                        try have c55b2 : (9223372036854775807 < 2 + a0.size) = False := eq_false (Nat.not_lt.2 c55)
                        by_cases c56 : 1 + a2.size ≤ 9223372036854775807
                        · rw [if_pos c56] at H
                          have c56b0 := eq_true c56
                          have c56b1 : decide (1 + a2.size ≤ 9223372036854775807) = true := decide_eq_true c56
                          try have c56b2 : (9223372036854775807 < 1 + a2.size) = False := eq_false (Nat.not_lt.2 c56)
                          by_cases c57 : ((⟨#[36]⟩ : ByteArray) ++ a2).size + 1 ≤ 9223372036854775807
                          · rw [if_pos c57] at H
                            have c57b0 := eq_true c57
                            have c57b1 : decide (((⟨#[36]⟩ : ByteArray) ++ a2).size + 1 ≤ 9223372036854775807) = true := decide_eq_true c57
                            try have c57b2 : (9223372036854775807 < ((⟨#[36]⟩ : ByteArray) ++ a2).size + 1) = False := eq_false (Nat.not_lt.2 c57)
                            try have c57b7 : (9223372036854775807 < 1 + a2.size + 1) = False := eq_false (by have h9_ := c57; simp only [ByteArray.size_append] at h9_; simp only [ByteArray.size, List.size_toArray, List.length_cons, List.length_nil] at h9_ ⊢; omega)
                            by_cases c58 : (((⟨#[36]⟩ : ByteArray) ++ a2) ++ (⟨#[47]⟩ : ByteArray)).size + a1.size ≤ 9223372036854775807
                            · rw [if_pos c58] at H
                              have c58b0 := eq_true c58
                              have c58b1 : decide ((((⟨#[36]⟩ : ByteArray) ++ a2) ++ (⟨#[47]⟩ : ByteArray)).size + a1.size ≤ 9223372036854775807) = true := decide_eq_true c58
                              try have c58b2 : (9223372036854775807 < (((⟨#[36]⟩ : ByteArray) ++ a2) ++ (⟨#[47]⟩ : ByteArray)).size + a1.size) = False := eq_false (Nat.not_lt.2 c58)
                              try have c58b7 : (9223372036854775807 < 1 + a2.size + 1 + a1.size) = False := eq_false (by have h9_ := c58; simp only [ByteArray.size_append] at h9_; simp only [ByteArray.size, List.size_toArray, List.length_cons, List.length_nil] at h9_ ⊢; omega)
                              replace H := Option.bind_eq_some_iff.mp H
                              obtain ⟨t235, A590, H⟩ := H
                              replace H : (if t235 = true then (some false) else (if 0 < (a2.size : Int) then (if (bt a2 0) = 36 then (some true) else (if a2.size + 1 ≤ 9223372036854775807 then (if (a2 ++ (⟨#[47]⟩ : ByteArray)).size + a1.size ≤ 9223372036854775807 then ((basculelaw12_takes.f ((⟨#[43, 47]⟩ : ByteArray) ++ a0) ((a2 ++ (⟨#[47]⟩ : ByteArray)) ++ a1)).bind fun t236 => (some (t236 == t231))) else (none)) else (none))) else (none))) = some r := H
                              have A59 := Aside0.mk A590
                              clear A590
                              by_cases c60 : t235 = true
                              · subst c60
                                have H1 : (some false) = some r := by rw [if_pos rfl] at H; exact H
                                clear H
                                have H := H1
                                clear H1
                                obtain rfl := Option.some.inj H
                                go_wp2_with (first | ((with_reducible refine gate_callee (f := 14) rfl ?_); refine goesL_ (some 93) rfl rfl Tryd.func14 (by kernel_rfl) rfl #[] rfl (by (try simp only [List.map_toArray, List.map_cons, List.map_nil]); first | done | rfl | (simp only [List.length_drop, List.length_take]; rfl)) ?_; (with_reducible refine (basculelaw12_awake.calls  true _ (Go.Proofs.YtlfigadjbnikiaaDoor.Top.Laid.below hLd_ (by repeat (first | (with_reducible first | exact HB.out | apply below_alloc | apply pw_below_drewN | apply below_drew1) | exact HB.out))) A53.out).mono ?_); rintro e w61 ⟨rfl, hb⟩; refine ⟨_, rfl, ?_⟩; have n0_ := Aside0.mk (below_step (by repeat (first | (with_reducible first | exact HB.out | apply below_alloc | apply pw_below_drewN | apply below_drew1) | exact HB.out)) hb); clear HB; have HB := n0_; clear n0_; (try clear hb); (try clear hb2); (try clear hk); (try clear hi)) | (go_at_call 16; (with_reducible refine (basculelaw12_takes.calls ((⟨#[43, 47]⟩ : ByteArray) ++ a0) ((((⟨#[36]⟩ : ByteArray) ++ a2) ++ (⟨#[47]⟩ : ByteArray)) ++ a1) true _ (Go.Proofs.YtlfigadjbnikiaaDoor.Top.Laid.below hLd_ (by repeat (first | (with_reducible first | exact HB.out | apply below_alloc | apply pw_below_drewN | apply below_drew1) | exact HB.out))) A59.out).mono ?_); rintro e w62 ⟨rfl, hb⟩; have n0_ := Aside0.mk (below_step (by repeat (first | (with_reducible first | exact HB.out | apply below_alloc | apply pw_below_drewN | apply below_drew1) | exact HB.out)) hb); clear HB; have HB := n0_; clear n0_; (try clear hb); (try clear hb2); (try clear hk); (try clear hi)))
                                go_ret
                                exact ⟨by first | rfl | (simp [errW_none, errW_some] <;> rfl) | (simp [*, errW_none, errW_some] <;> rfl), by repeat (first | (with_reducible first | exact HB.out | apply below_alloc | apply pw_below_drewN | apply below_drew1) | exact HB.out)⟩
                              · replace c60 := Bool.eq_false_iff.mpr c60
                                subst c60
                                have H1 : (if 0 < (a2.size : Int) then (if (bt a2 0) = 36 then (some true) else (if a2.size + 1 ≤ 9223372036854775807 then (if (a2 ++ (⟨#[47]⟩ : ByteArray)).size + a1.size ≤ 9223372036854775807 then ((basculelaw12_takes.f ((⟨#[43, 47]⟩ : ByteArray) ++ a0) ((a2 ++ (⟨#[47]⟩ : ByteArray)) ++ a1)).bind fun t236 => (some (t236 == t231))) else (none)) else (none))) else (none)) = some r := by rw [if_neg (show ¬ (false = true) by decide)] at H; exact H
                                clear H
                                have H := H1
                                clear H1
                                by_cases c63 : 0 < (a2.size : Int)
                                · rw [if_pos c63] at H
                                  have c63b0 : decide (0 < (a2.size : Int)) = true := decide_eq_true c63
                                  have c63b1 : decide (0 < a2.size) = true := decide_eq_true (by omega)
                                  have c63b7 : (0 < a2.size) := of_decide_eq_true c63b1
                                  clear c63
                                  by_cases c65 : (bt a2 0) = 36
                                  · rw [if_pos c65] at H
                                    have c65b0 : ((bt a2 0) == 36) = true := beq_iff_eq.mpr c65
                                    have c65b1 : ((bt a2 0) != 36) = false := bne_eq_false_iff_eq.mpr c65
                                    clear c65
                                    obtain rfl := Option.some.inj H
                                    go_wp2_with (first | ((with_reducible refine gate_callee (f := 14) rfl ?_); refine goesL_ (some 93) rfl rfl Tryd.func14 (by kernel_rfl) rfl #[] rfl (by (try simp only [List.map_toArray, List.map_cons, List.map_nil]); first | done | rfl | (simp only [List.length_drop, List.length_take]; rfl)) ?_; (with_reducible refine (basculelaw12_awake.calls  true _ (Go.Proofs.YtlfigadjbnikiaaDoor.Top.Laid.below hLd_ (by repeat (first | (with_reducible first | exact HB.out | apply below_alloc | apply pw_below_drewN | apply below_drew1) | exact HB.out))) A53.out).mono ?_); rintro e w66 ⟨rfl, hb⟩; refine ⟨_, rfl, ?_⟩; have n0_ := Aside0.mk (below_step (by repeat (first | (with_reducible first | exact HB.out | apply below_alloc | apply pw_below_drewN | apply below_drew1) | exact HB.out)) hb); clear HB; have HB := n0_; clear n0_; (try clear hb); (try clear hb2); (try clear hk); (try clear hi)) | (go_at_call 16; (with_reducible refine (basculelaw12_takes.calls ((⟨#[43, 47]⟩ : ByteArray) ++ a0) ((((⟨#[36]⟩ : ByteArray) ++ a2) ++ (⟨#[47]⟩ : ByteArray)) ++ a1) false _ (Go.Proofs.YtlfigadjbnikiaaDoor.Top.Laid.below hLd_ (by repeat (first | (with_reducible first | exact HB.out | apply below_alloc | apply pw_below_drewN | apply below_drew1) | exact HB.out))) A59.out).mono ?_); rintro e w67 ⟨rfl, hb⟩; have n0_ := Aside0.mk (below_step (by repeat (first | (with_reducible first | exact HB.out | apply below_alloc | apply pw_below_drewN | apply below_drew1) | exact HB.out)) hb); clear HB; have HB := n0_; clear n0_; (try clear hb); (try clear hb2); (try clear hk); (try clear hi); have p64 : 0 ≤ (0 : Int) := (by omega); have q64 : 0 < a2.size := (by have : (0 : Int) < (a2.size : Int) := of_decide_eq_true (by first | (with_reducible assumption) | assumption); omega); have hx64 : ∀ h : 0 < a2.size, ((a2[0]'h).toNat : Int) = bt a2 0 := bt_at a2 0; clear p64; have qi64 : (0 < (a2.size : Int)) = True := eq_true (of_decide_eq_true (by first | (with_reducible assumption) | assumption)); replace q64 := eq_true q64))
                                    go_ret
                                    exact ⟨by first | rfl | (simp [errW_none, errW_some] <;> rfl) | (simp [*, errW_none, errW_some] <;> rfl), by repeat (first | (with_reducible first | exact HB.out | apply below_alloc | apply pw_below_drewN | apply below_drew1) | exact HB.out)⟩
                                  · rw [if_neg c65] at H
                                    have c65b0 : ((bt a2 0) == 36) = false := beq_eq_false_iff_ne.mpr c65
                                    have c65b1 : ((bt a2 0) != 36) = true := bne_iff_ne.mpr c65
                                    by_cases c68 : a2.size + 1 ≤ 9223372036854775807
                                    · rw [if_pos c68] at H
                                      have c68b0 := eq_true c68
                                      have c68b1 : decide (a2.size + 1 ≤ 9223372036854775807) = true := decide_eq_true c68
                                      try have c68b2 : (9223372036854775807 < a2.size + 1) = False := eq_false (Nat.not_lt.2 c68)
                                      by_cases c69 : (a2 ++ (⟨#[47]⟩ : ByteArray)).size + a1.size ≤ 9223372036854775807
                                      · rw [if_pos c69] at H
                                        have c69b0 := eq_true c69
                                        have c69b1 : decide ((a2 ++ (⟨#[47]⟩ : ByteArray)).size + a1.size ≤ 9223372036854775807) = true := decide_eq_true c69
                                        try have c69b2 : (9223372036854775807 < (a2 ++ (⟨#[47]⟩ : ByteArray)).size + a1.size) = False := eq_false (Nat.not_lt.2 c69)
                                        try have c69b7 : (9223372036854775807 < a2.size + 1 + a1.size) = False := eq_false (by have h9_ := c69; simp only [ByteArray.size_append] at h9_; simp only [ByteArray.size, List.size_toArray, List.length_cons, List.length_nil] at h9_ ⊢; omega)
                                        replace H := Option.bind_eq_some_iff.mp H
                                        obtain ⟨t236, A700, H⟩ := H
                                        replace H : (some (t236 == t231)) = some r := H
                                        have A70 := Aside0.mk A700
                                        clear A700
                                        obtain rfl := Option.some.inj H
                                        go_wp2_with (first | ((with_reducible refine gate_callee (f := 14) rfl ?_); refine goesL_ (some 93) rfl rfl Tryd.func14 (by kernel_rfl) rfl #[] rfl (by (try simp only [List.map_toArray, List.map_cons, List.map_nil]); first | done | rfl | (simp only [List.length_drop, List.length_take]; rfl)) ?_; (with_reducible refine (basculelaw12_awake.calls  true _ (Go.Proofs.YtlfigadjbnikiaaDoor.Top.Laid.below hLd_ (by repeat (first | (with_reducible first | exact HB.out | apply below_alloc | apply pw_below_drewN | apply below_drew1) | exact HB.out))) A53.out).mono ?_); rintro e w71 ⟨rfl, hb⟩; refine ⟨_, rfl, ?_⟩; have n0_ := Aside0.mk (below_step (by repeat (first | (with_reducible first | exact HB.out | apply below_alloc | apply pw_below_drewN | apply below_drew1) | exact HB.out)) hb); clear HB; have HB := n0_; clear n0_; (try clear hb); (try clear hb2); (try clear hk); (try clear hi)) | (go_at_call 16; (with_reducible refine (basculelaw12_takes.calls ((⟨#[43, 47]⟩ : ByteArray) ++ a0) ((((⟨#[36]⟩ : ByteArray) ++ a2) ++ (⟨#[47]⟩ : ByteArray)) ++ a1) false _ (Go.Proofs.YtlfigadjbnikiaaDoor.Top.Laid.below hLd_ (by repeat (first | (with_reducible first | exact HB.out | apply below_alloc | apply pw_below_drewN | apply below_drew1) | exact HB.out))) A59.out).mono ?_); rintro e w72 ⟨rfl, hb⟩; have n0_ := Aside0.mk (below_step (by repeat (first | (with_reducible first | exact HB.out | apply below_alloc | apply pw_below_drewN | apply below_drew1) | exact HB.out)) hb); clear HB; have HB := n0_; clear n0_; (try clear hb); (try clear hb2); (try clear hk); (try clear hi); have p64 : 0 ≤ (0 : Int) := (by omega); have q64 : 0 < a2.size := (by have : (0 : Int) < (a2.size : Int) := of_decide_eq_true (by first | (with_reducible assumption) | assumption); omega); have hx64 : ∀ h : 0 < a2.size, ((a2[0]'h).toNat : Int) = bt a2 0 := bt_at a2 0; clear p64; have qi64 : (0 < (a2.size : Int)) = True := eq_true (of_decide_eq_true (by first | (with_reducible assumption) | assumption)); replace q64 := eq_true q64) | (go_at_call 16; (with_reducible refine (basculelaw12_takes.calls ((⟨#[43, 47]⟩ : ByteArray) ++ a0) ((a2 ++ (⟨#[47]⟩ : ByteArray)) ++ a1) t236 _ (Go.Proofs.YtlfigadjbnikiaaDoor.Top.Laid.below hLd_ (by repeat (first | (with_reducible first | exact HB.out | apply below_alloc | apply pw_below_drewN | apply below_drew1) | exact HB.out))) A70.out).mono ?_); rintro e w73 ⟨rfl, hb⟩; have n0_ := Aside0.mk (below_step (by repeat (first | (with_reducible first | exact HB.out | apply below_alloc | apply pw_below_drewN | apply below_drew1) | exact HB.out)) hb); clear HB; have HB := n0_; clear n0_; (try clear hb); (try clear hb2); (try clear hk); (try clear hi)))
                                        go_ret
                                        exact ⟨by first | rfl | (simp [errW_none, errW_some] <;> rfl) | (simp [*, errW_none, errW_some] <;> rfl), by repeat (first | (with_reducible first | exact HB.out | apply below_alloc | apply pw_below_drewN | apply below_drew1) | exact HB.out)⟩
                                      · rw [if_neg c69] at H
                                        exact absurd H (by simp)
                                    · rw [if_neg c68] at H
                                      exact absurd H (by simp)
                                · rw [if_neg c63] at H
                                  exact absurd H (by simp)
                            · rw [if_neg c58] at H
                              exact absurd H (by simp)
                          · rw [if_neg c57] at H
                            exact absurd H (by simp)
                        · rw [if_neg c56] at H
                          exact absurd H (by simp)
                      · rw [if_neg c55] at H
                        exact absurd H (by simp)
                    · replace c54 := Bool.eq_false_iff.mpr c54
                      subst c54
                      have H1 : (some false) = some r := by rw [if_neg (show ¬ (false = true) by decide)] at H; exact H
                      clear H
                      have H := H1
                      clear H1
                      obtain rfl := Option.some.inj H
                      go_wp2_with (first | ((with_reducible refine gate_callee (f := 14) rfl ?_); refine goesL_ (some 93) rfl rfl Tryd.func14 (by kernel_rfl) rfl #[] rfl (by (try simp only [List.map_toArray, List.map_cons, List.map_nil]); first | done | rfl | (simp only [List.length_drop, List.length_take]; rfl)) ?_; (with_reducible refine (basculelaw12_awake.calls  false _ (Go.Proofs.YtlfigadjbnikiaaDoor.Top.Laid.below hLd_ (by repeat (first | (with_reducible first | exact HB.out | apply below_alloc | apply pw_below_drewN | apply below_drew1) | exact HB.out))) A53.out).mono ?_); rintro e w74 ⟨rfl, hb⟩; refine ⟨_, rfl, ?_⟩; have n0_ := Aside0.mk (below_step (by repeat (first | (with_reducible first | exact HB.out | apply below_alloc | apply pw_below_drewN | apply below_drew1) | exact HB.out)) hb); clear HB; have HB := n0_; clear n0_; (try clear hb); (try clear hb2); (try clear hk); (try clear hi)))
                      go_ret
                      exact ⟨by first | rfl | (simp [errW_none, errW_some] <;> rfl) | (simp [*, errW_none, errW_some] <;> rfl), by repeat (first | (with_reducible first | exact HB.out | apply below_alloc | apply pw_below_drewN | apply below_drew1) | exact HB.out)⟩

/-- THE ONE PURE STATEMENT of basculelaw12_TopicDollar: yours. -/
def basculelaw12_TopicDollar.Pure : Prop := ∀ (a0 : ByteArray) (a1 : ByteArray) (a2 : ByteArray), a0.size ≤ 140737488351232 → a1.size ≤ 140737488351232 → a2.size ≤ 140737488351232 → ∃ k, basculelaw12_TopicDollar.f k a0 a1 a2 = some true
theorem basculelaw12_TopicDollar.walk (P : basculelaw12_TopicDollar.Pure) (a0 : ByteArray) (a1 : ByteArray) (a2 : ByteArray) (w : World) (hLd_ : Go.Proofs.YtlfigadjbnikiaaDoor.Top.Laid w) (w0 : a0.size ≤ 140737488351232) (w1 : a1.size ≤ 140737488351232) (w2 : a2.size ≤ 140737488351232) :
    Calls Tryd.prog 7 #[.string a0, .string a1, .string a2] w fun e w' => e = .returned (.bool true) ∧ Below w.heap.size w w' := by
  obtain ⟨k, h⟩ := P a0 a1 a2 w0 w1 w2
  refine (basculelaw12_TopicDollar.calls k a0 a1 a2 true w hLd_ h).mono ?_
  rintro e w' ⟨rfl, hd⟩
  exact ⟨rfl, hd⟩

end Go.Proofs.YtlfigadjbnikiaaDoor.Q
