/- Qx23 -/
import Derived.Test.YtmkekhjbbapngaaGreatDoorSValueReadsQx21
namespace Go.Proofs.YtmkekhjbbapngaaGreatDoor.Q
open Go.RowKit YtmkekhjbbapngaaGreatDoorW.PrintWords YtmkekhjbbapngaaGreatDoorW.PrintLast YtmkekhjbbapngaaGreatDoorW.PrintMore
attribute [local go_sem] max2_int min2_int max_two min_two
set_option linter.all false
theorem zQx23a0_ {P_ : Prop} (h_ : P_ := by repeat (first | (with_reducible first | exact HB.out | apply below_alloc | apply pw_below_drewN | apply below_drew1) | exact HB.out)) : P_ := h_
theorem zQx23a1_ {P_ : Prop} (h_ : P_ := by first | exact Kd.R_nil _ _ _ _ _ | exact Kd.N_nil _ _ _ _ _ | exact Kd.V_nil _ _ _ _ _ | exact Kd.Q_nil _ _ _ _ _ | exact Kd.S_nil _ _ _ _ _) : P_ := h_
theorem zQx23a2_ {P_ : Prop} (h_ : P_ := by first | (with_reducible assumption) | assumption) : P_ := h_
theorem zQx23a3_ {P_ : Prop} (h_ : P_ := by first | rfl | (simp [errW_none, errW_some] <;> rfl) | (simp [*, errW_none, errW_some] <;> rfl)) : P_ := h_
theorem zQx23a4_ {P_ : Prop} (h_ : P_ := by (try simp only [List.map_toArray, List.map_cons, List.map_nil]); first | done | rfl | (simp only [List.length_drop, List.length_take]; rfl)) : P_ := h_
theorem zQx23a5_ {P_ : Prop} (h_ : P_ := by (with_reducible repeat (first | apply Kd.R_alloc | apply Kd.R_drewN | apply Kd.R_drew)); exact HO349.out) : P_ := h_
theorem zQx23a6_ {P_ : Prop} (h_ : P_ := by first | rfl | (simp; done) | (simp [*]; done)) : P_ := h_
theorem zQx23a7_ {P_ : Prop} (h_ : P_ := by (with_reducible repeat (first | apply Kd.R_alloc | apply Kd.R_drewN | apply Kd.R_drew)); exact HO_9.out) : P_ := h_
theorem zQx23a8_ {P_ : Prop} (h_ : P_ := by have := HJ2.out; have := HJ6.out; have := HK3.out; first | omega | exact Nat.le_refl _) : P_ := h_
theorem zQx23a9_ {P_ : Prop} (h_ : P_ := by have := HJ2.out; have := HJ6.out; have := HK3.out; have := HJ10.out; omega) : P_ := h_
theorem znQx23_ {X_ : Prop} [Decidable X_] (h_ : ¬ X_ → False := by intro c_; rw [if_neg c_] at H; exact absurd H (by simp)) : X_ := Decidable.byContradiction h_
mutual
def basculeref22_Number.j0 : Nat → ByteArray → Int → ByteArray → Bool → Option (List Int × Bool × Bool)
 | 0, _, _, _, _ => none
 | k + 1, x0, x1, x7, x8 => if x8 = true then (if 1 ≤ (x7.size : Int) then (basculeref22_Number.j1 k x0 x1 (x7.extract 1 x7.size) x8) else (none)) else (basculeref22_Number.j1 k x0 x1 x7 x8)
def basculeref22_Number.j1 : Nat → ByteArray → Int → ByteArray → Bool → Option (List Int × Bool × Bool)
 | 0, _, _, _, _ => none
 | k + 1, x0, x1, x7, x8 => basculeref22_Number.l0 k x0 x1 x7 x8 ([] : List Int) (wrap64 ((x7.size : Int) - 1))
def basculeref22_Number.l0 : Nat → ByteArray → Int → ByteArray → Bool → List Int → Int → Option (List Int × Bool × Bool)
 | 0, _, _, _, _, _, _ => none
 | k + 1, x0, x1, x7, x8, x9, x10 => if x10 ≥ 0 then (if x1 > 0 then (basculeref22_Number.j3 k x0 x1 x7 x8 x9 x10 ((wrap64 ((wrap64 ((x7.size : Int) - 1)) - x10)) == x1)) else (basculeref22_Number.j3 k x0 x1 x7 x8 x9 x10 false)) else ((basculeref22_trim.f k x9).bind fun t347 => (if x8 = true then (if (t347.length : Int) = 0 then (some (([] : List Int), false, false)) else ((basculeref22_point.f k t347 x8 x1).bind fun t350 => (if t350.toList = x0.toList then (some (t347, x8, true)) else (some (([] : List Int), false, false))))) else ((basculeref22_point.f k t347 x8 x1).bind fun t351 => (if t351.toList = x0.toList then (some (t347, x8, true)) else (some (([] : List Int), false, false))))))
def basculeref22_Number.j3 : Nat → ByteArray → Int → ByteArray → Bool → List Int → Int → Bool → Option (List Int × Bool × Bool)
 | 0, _, _, _, _, _, _, _ => none
 | k + 1, x0, x1, x7, x8, x9, x10, x42 => if x42 = true then (if 0 ≤ x10 then (if x10 < (x7.size : Int) then (if (bt x7 x10) = 46 then (basculeref22_Number.l0 k x0 x1 x7 x8 x9 (wrap64 (x10 - 1))) else (some (([] : List Int), false, false))) else (none)) else (none)) else (if 0 ≤ x10 then (if x10 < (x7.size : Int) then (if (bt x7 x10) < 48 then (some (([] : List Int), false, false)) else (if (bt x7 x10) > 57 then (some (([] : List Int), false, false)) else (if x9.length < 17592186044416 then (basculeref22_Number.l0 k x0 x1 x7 x8 (x9 ++ [((bt x7 x10) - 48) % 256]) (wrap64 (x10 - 1))) else (none)))) else (none)) else (none))
end
def basculeref22_Number.f (k : Nat) (a0 : ByteArray) (a1 : Int) : Option (List Int × Bool × Bool) := if (a0.size : Int) > 0 then (if 0 < (a0.size : Int) then (basculeref22_Number.j0 k a0 a1 a0 ((bt a0 0) == 45)) else (none)) else (basculeref22_Number.j0 k a0 a1 a0 false)
theorem basculeref22_Number.mono_l : ∀ k, (∀ y0 y1 y2 y3, LeO (basculeref22_Number.j0 k y0 y1 y2 y3) (basculeref22_Number.j0 (k + 1) y0 y1 y2 y3)) ∧ (∀ y0 y1 y2 y3, LeO (basculeref22_Number.j1 k y0 y1 y2 y3) (basculeref22_Number.j1 (k + 1) y0 y1 y2 y3)) ∧ (∀ y0 y1 y2 y3 y4 y5, LeO (basculeref22_Number.l0 k y0 y1 y2 y3 y4 y5) (basculeref22_Number.l0 (k + 1) y0 y1 y2 y3 y4 y5)) ∧ (∀ y0 y1 y2 y3 y4 y5 y6, LeO (basculeref22_Number.j3 k y0 y1 y2 y3 y4 y5 y6) (basculeref22_Number.j3 (k + 1) y0 y1 y2 y3 y4 y5 y6))
 | 0 => ⟨fun _ _ _ _ r h => by simp [basculeref22_Number.j0] at h, fun _ _ _ _ r h => by simp [basculeref22_Number.j1] at h, fun _ _ _ _ _ _ r h => by simp [basculeref22_Number.l0] at h, fun _ _ _ _ _ _ _ r h => by simp [basculeref22_Number.j3] at h⟩
 | k + 1 => by
  obtain ⟨ih0, ih1, ih2, ih3⟩ := basculeref22_Number.mono_l k
  refine ⟨?_, ?_, ?_, ?_⟩
  ·
   intro y0 y1 y2 y3
   unfold basculeref22_Number.j0
   repeat' first
   | (with_reducible first | exact ih0 _ _ _ _ | exact ih1 _ _ _ _ | exact ih2 _ _ _ _ _ _ | exact ih3 _ _ _ _ _ _ _ | exact basculeref22_point.mono _ _ _ _ | exact basculeref22_trim.mono _ _ | exact LeO.refl _ | exact LeO.none _ | refine LeO.ite ?_ ?_ | refine LeO.bind ?_ (fun _ => ?_))
  ·
   intro y0 y1 y2 y3
   unfold basculeref22_Number.j1
   repeat' first
   | (with_reducible first | exact ih0 _ _ _ _ | exact ih1 _ _ _ _ | exact ih2 _ _ _ _ _ _ | exact ih3 _ _ _ _ _ _ _ | exact basculeref22_point.mono _ _ _ _ | exact basculeref22_trim.mono _ _ | exact LeO.refl _ | exact LeO.none _ | refine LeO.ite ?_ ?_ | refine LeO.bind ?_ (fun _ => ?_))
  ·
   intro y0 y1 y2 y3 y4 y5
   unfold basculeref22_Number.l0
   repeat' first
   | (with_reducible first | exact ih0 _ _ _ _ | exact ih1 _ _ _ _ | exact ih2 _ _ _ _ _ _ | exact ih3 _ _ _ _ _ _ _ | exact basculeref22_point.mono _ _ _ _ | exact basculeref22_trim.mono _ _ | exact LeO.refl _ | exact LeO.none _ | refine LeO.ite ?_ ?_ | refine LeO.bind ?_ (fun _ => ?_))
  ·
   intro y0 y1 y2 y3 y4 y5 y6
   unfold basculeref22_Number.j3
   repeat' first
   | (with_reducible first | exact ih0 _ _ _ _ | exact ih1 _ _ _ _ | exact ih2 _ _ _ _ _ _ | exact ih3 _ _ _ _ _ _ _ | exact basculeref22_point.mono _ _ _ _ | exact basculeref22_trim.mono _ _ | exact LeO.refl _ | exact LeO.none _ | refine LeO.ite ?_ ?_ | refine LeO.bind ?_ (fun _ => ?_))
theorem basculeref22_Number.mono : ∀ a0 a1 k, LeO (basculeref22_Number.f k a0 a1) (basculeref22_Number.f (k + 1) a0 a1) := by
 intro a0 a1 k
 obtain ⟨ih0, ih1, ih2, ih3⟩ := basculeref22_Number.mono_l k
 unfold basculeref22_Number.f
 repeat' first
   | (with_reducible first | exact ih0 _ _ _ _ | exact ih1 _ _ _ _ | exact ih2 _ _ _ _ _ _ | exact ih3 _ _ _ _ _ _ _ | exact basculeref22_point.mono _ _ _ _ | exact basculeref22_trim.mono _ _ | exact LeO.refl _ | exact LeO.none _ | refine LeO.ite ?_ ?_ | refine LeO.bind ?_ (fun _ => ?_))
set_option maxHeartbeats 8000000 in
set_option maxRecDepth 100000 in
theorem basculeref22_Number.calls (k : Nat) (a0 : ByteArray) (a1 : Int) (r1 : List Int) (r2 : Bool) (r3 : Bool) (w : World) (h : basculeref22_Number.f k a0 a1 = some (r1, r2, r3)) :
  Calls Tryz.prog 19 #[.string a0, .int .i64 a1] w fun e w' => ∃ v0_ : Value, e = .returned (.tuple #[v0_, .bool r2, .bool r3]) ∧ Kd.R (Kd.int .i64) 3 w' w.heap.size (fun _ => True) v0_ r1 ∧ Below w.heap.size w w' := by
 have HB := Aside0.mk (Below.refl w.heap.size w)
 have H : (if (a0.size : Int) > 0 then (if 0 < (a0.size : Int) then (basculeref22_Number.j0 k a0 a1 a0 ((bt a0 0) == 45)) else (none)) else (basculeref22_Number.j0 k a0 a1 a0 false)) = some (r1, r2, r3) := h
 clear h
 have HC3 := Aside0.mk H
 clear H
 go_enter Tryz.func19, Tryz.ntmps19
 go_upto_region 2 with (fail)
 go_cut [8] (fun v8 wc => ∃ (kq : Nat) (x8_2 : Bool), v8 = .bool x8_2 ∧ Aside0 (basculeref22_Number.j0 kq a0 a1 a0 x8_2 = some (r1, r2, r3)) ∧ Aside0 (kq ≤ k) ∧ Aside0 (Below w.heap.size w wc))
 case first =>
  have H := HC3.out
  clear HC3
  by_cases c4 : (a0.size : Int) > 0
  rotate_left
  ·
   rw [if_neg c4] at H
   have c4b0 : decide (0 < (a0.size : Int)) = false := decide_eq_false c4
   have c4b1 : decide (0 < a0.size) = false := decide_eq_false (by omega)
   clear c4
   (first | rw [c4b0] | (simp only [i64_w, i32_w]; rw [c4b0]) | skip)
   have H' := Aside0.mk H
   clear H
   go_wp2
   go_meet
   case rel => exact ⟨_, (false), zQx23a6_, H', ⟨by first | omega | exact Nat.le_refl _⟩, ⟨zQx23a0_⟩⟩
  rw [if_pos c4] at H
  have c4b0 : decide (0 < (a0.size : Int)) = true := decide_eq_true c4
  have c4b1 : decide (0 < a0.size) = true := decide_eq_true (by omega)
  have c4b7 : (0 < a0.size) := of_decide_eq_true c4b1
  clear c4
  (first | rw [c4b0] | (simp only [i64_w, i32_w]; rw [c4b0]) | skip)
  have c5 : 0 < (a0.size : Int) := znQx23_
  rw [if_pos c5] at H
  have c5b0 : decide (0 < (a0.size : Int)) = true := decide_eq_true c5
  have c5b1 : decide (0 < a0.size) = true := decide_eq_true (by omega)
  have c5b7 : (0 < a0.size) := of_decide_eq_true c5b1
  clear c5
  have H' := Aside0.mk H
  clear H
  have p6 : 0 ≤ (0 : Int) := (by omega)
  have q6 : 0 < a0.size := (by have : (0 : Int) < (a0.size : Int) := of_decide_eq_true zQx23a2_; omega)
  have hx6 : ∀ h : 0 < a0.size, ((a0[0]'h).toNat : Int) = bt a0 0 := bt_at a0 0
  clear p6
  have qi6 : (0 < (a0.size : Int)) = True := eq_true (of_decide_eq_true zQx23a2_)
  replace q6 := eq_true q6
  go_wp2
  go_meet
  case rel => exact ⟨_, (((bt a0 0) == 45)), zQx23a6_, H', ⟨by first | omega | exact Nat.le_refl _⟩, ⟨zQx23a0_⟩⟩
 case rest =>
  clear HC3
  try clear c1
  try clear p2
  try clear c4
  try clear c4b0
  try clear c4b1
  try clear c5
  try clear c5b0
  try clear c5b1
  try clear p6
  try clear q6
  try clear hx6
  try clear qi6
  try clear p6
  try clear q6
  obtain ⟨kq, x8_2, rfl, HA, HJ2, HB⟩ := hcut
  cases kq with
  | zero => exact absurd HA.out (by simp [basculeref22_Number.j0])
  | succ kj2 =>
   have H := HA.out
   clear HA
   simp only [basculeref22_Number.j0] at H
   have HC7 := Aside0.mk H
   clear H
   go_upto_if 21 with (fail)
   go_cut [7] (fun v7 wc => ∃ (kq : Nat) (x7_6 : ByteArray), v7 = .string x7_6 ∧ Aside0 (basculeref22_Number.j1 kq a0 a1 x7_6 x8_2 = some (r1, r2, r3)) ∧ Aside0 (kq ≤ kj2) ∧ Aside0 (Below w.heap.size w wc))
   case first =>
    have H := HC7.out
    clear HC7
    by_cases c8 : x8_2 = true
    rotate_left
    ·
     replace c8 := Bool.eq_false_iff.mpr c8
     subst c8
     have H1 : (basculeref22_Number.j1 kj2 a0 a1 a0 false) = some (r1, r2, r3) := by rw [if_neg (show ¬ (false = true) by decide)] at H; exact H
     clear H
     have H := H1
     clear H1
     have H' := Aside0.mk H
     clear H
     go_wp2
     go_meet
     case rel => exact ⟨_, (a0), zQx23a6_, H', ⟨by have := HJ2.out; first | omega | exact Nat.le_refl _⟩, ⟨zQx23a0_⟩⟩
    subst c8
    have H1 : (if 1 ≤ (a0.size : Int) then (basculeref22_Number.j1 kj2 a0 a1 (a0.extract 1 a0.size) true) else (none)) = some (r1, r2, r3) := by rw [if_pos rfl] at H; exact H
    clear H
    have H := H1
    clear H1
    have c9 : 1 ≤ (a0.size : Int) := znQx23_
    rw [if_pos c9] at H
    have c9b0 := eq_true c9
    have c9b1 : decide (1 ≤ (a0.size : Int)) = true := decide_eq_true c9
    clear c9
    have H' := Aside0.mk H
    clear H
    go_wp2
    go_meet
    case rel => exact ⟨_, (a0.extract 1 a0.size), zQx23a6_, H', ⟨by have := HJ2.out; first | omega | exact Nat.le_refl _⟩, ⟨zQx23a0_⟩⟩
   case rest =>
    clear HC7
    try clear c1
    try clear p2
    try clear c4
    try clear c4b0
    try clear c4b1
    try clear c5
    try clear c5b0
    try clear c5b1
    try clear p6
    try clear q6
    try clear hx6
    try clear qi6
    try clear c8
    try clear c9
    try clear c9b0
    try clear c9b1
    try clear p2
    try clear p6
    try clear q6
    obtain ⟨kq, x7_6, rfl, HA, HJ6, HB⟩ := hcut
    cases kq with
    | zero => exact absurd HA.out (by simp [basculeref22_Number.j1])
    | succ kj6 =>
     have H := HA.out
     clear HA
     simp only [basculeref22_Number.j1] at H
     have H' := Aside0.mk H
     clear H
     go_wp2
     go_loopg [9, 10] kj6 (fun kq v9 v10 w' => ∃ (x9_3 : List Int) (x10_3 : Int), v10 = .int .i64 x10_3 ∧ Aside0 (basculeref22_Number.l0 kq a0 a1 x7_6 x8_2 x9_3 x10_3 = some (r1, r2, r3)) ∧ Aside0 (kq ≤ kj6) ∧ Aside0 (Kd.R (Kd.int .i64) 3 w' w.heap.size (fun _ => True) v9 x9_3) ∧ Aside0 (Below w.heap.size w w'))
     case atStart => exact ⟨(([] : List Int)), (wrap64 ((x7_6.size : Int) - 1)), zQx23a6_, H', ⟨Nat.le_refl _⟩, ⟨zQx23a1_⟩, ⟨zQx23a0_⟩⟩
     case round =>
      clear H'
      try clear c1
      try clear p2
      try clear c4
      try clear c4b0
      try clear c4b1
      try clear c5
      try clear c5b0
      try clear c5b1
      try clear p6
      try clear q6
      try clear hx6
      try clear qi6
      try clear c8
      try clear c9
      try clear c9b0
      try clear c9b1
      try clear p2
      try clear p6
      try clear q6
      obtain ⟨x9_3, x10_3, rfl, HA, HK3, HO_9, HB⟩ := hrel
      cases gk with
      | zero => exact absurd HA.out (by simp [basculeref22_Number.l0])
      | succ k3 =>
       have H := HA.out
       clear HA
       simp only [basculeref22_Number.l0] at H
       by_cases c10 : x10_3 ≥ 0
       ·
        rw [if_pos c10] at H
        have c10b0 : decide (0 ≤ x10_3) = true := decide_eq_true c10
        clear c10
        have HC11 := Aside0.mk H
        clear H
        go_upto_region 10 with (fail)
        go_cut [42] (fun v42 wc => ∃ (kq : Nat) (x42_10 : Bool), v42 = .bool x42_10 ∧ Aside0 (basculeref22_Number.j3 kq a0 a1 x7_6 x8_2 x9_3 x10_3 x42_10 = some (r1, r2, r3)) ∧ Aside0 (kq ≤ k3) ∧ Aside0 (Kd.R (Kd.int .i64) 3 wc w.heap.size (fun _ => True) u9 x9_3) ∧ Aside0 (Below w.heap.size w wc))
        case first =>
         have H := HC11.out
         clear HC11
         by_cases c12 : a1 > 0
         rotate_left
         ·
          rw [if_neg c12] at H
          have c12b0 : decide (0 < a1) = false := decide_eq_false c12
          clear c12
          (first | rw [c12b0] | (simp only [i64_w, i32_w]; rw [c12b0]) | skip)
          have H' := Aside0.mk H
          clear H
          go_wp2
          go_meet
          case rel => exact ⟨_, (false), zQx23a6_, H', ⟨zQx23a8_⟩, ⟨zQx23a7_⟩, ⟨zQx23a0_⟩⟩
         rw [if_pos c12] at H
         have c12b0 : decide (0 < a1) = true := decide_eq_true c12
         clear c12
         (first | rw [c12b0] | (simp only [i64_w, i32_w]; rw [c12b0]) | skip)
         have H' := Aside0.mk H
         clear H
         go_wp2
         go_meet
         case rel => exact ⟨_, (((wrap64 ((wrap64 ((x7_6.size : Int) - 1)) - x10_3)) == a1)), zQx23a6_, H', ⟨zQx23a8_⟩, ⟨zQx23a7_⟩, ⟨zQx23a0_⟩⟩
        case rest =>
         clear HC11
         try clear c1
         try clear p2
         try clear c4
         try clear c4b0
         try clear c4b1
         try clear c5
         try clear c5b0
         try clear c5b1
         try clear p6
         try clear q6
         try clear hx6
         try clear qi6
         try clear c8
         try clear c9
         try clear c9b0
         try clear c9b1
         try clear c10
         try clear c10b0
         try clear c12
         try clear c12b0
         try clear p2
         try clear p6
         try clear q6
         obtain ⟨kq, x42_10, rfl, HA, HJ10, HO_9, HB⟩ := hcut
         cases kq with
         | zero => exact absurd HA.out (by simp [basculeref22_Number.j3])
         | succ kj10 =>
          have H := HA.out
          clear HA
          simp only [basculeref22_Number.j3] at H
          by_cases c13 : x42_10 = true
          ·
           subst c13
           have H1 : (if 0 ≤ x10_3 then (if x10_3 < (x7_6.size : Int) then (if (bt x7_6 x10_3) = 46 then (basculeref22_Number.l0 kj10 a0 a1 x7_6 x8_2 x9_3 (wrap64 (x10_3 - 1))) else (some (([] : List Int), false, false))) else (none)) else (none)) = some (r1, r2, r3) := by rw [if_pos rfl] at H; exact H
           clear H
           have H := H1
           clear H1
           have c14 : 0 ≤ x10_3 := znQx23_
           rw [if_pos c14] at H
           have c14b0 : decide (0 ≤ x10_3) = true := decide_eq_true c14
           clear c14
           have c15 : x10_3 < (x7_6.size : Int) := znQx23_
           rw [if_pos c15] at H
           have c15b0 : decide (x10_3 < (x7_6.size : Int)) = true := decide_eq_true c15
           clear c15
           by_cases c17 : (bt x7_6 x10_3) = 46
           rotate_left
           ·
            rw [if_neg c17] at H
            have c17b0 : ((bt x7_6 x10_3) == 46) = false := beq_eq_false_iff_ne.mpr c17
            have c17b1 : ((bt x7_6 x10_3) != 46) = true := bne_iff_ne.mpr c17
            simp only [Option.some.injEq, Prod.mk.injEq] at H
            obtain ⟨rfl, rfl, rfl⟩ := H
            have p16 : 0 ≤ (x10_3 : Int) := of_decide_eq_true zQx23a2_
            have q16 : x10_3 < (x7_6.size : Int) := of_decide_eq_true zQx23a2_
            have hx16 := bt_at x7_6 x10_3
            replace p16 := eq_true p16
            replace q16 := eq_true q16
            go_wp2
            go_ret3
            exact ⟨_, zQx23a3_, zQx23a1_, zQx23a0_⟩
           rw [if_pos c17] at H
           have c17b0 : ((bt x7_6 x10_3) == 46) = true := beq_iff_eq.mpr c17
           have c17b1 : ((bt x7_6 x10_3) != 46) = false := bne_eq_false_iff_eq.mpr c17
           clear c17
           have H' := Aside0.mk H
           clear H
           have p16 : 0 ≤ (x10_3 : Int) := of_decide_eq_true zQx23a2_
           have q16 : x10_3 < (x7_6.size : Int) := of_decide_eq_true zQx23a2_
           have hx16 := bt_at x7_6 x10_3
           replace p16 := eq_true p16
           replace q16 := eq_true q16
           go_wp2
           go_roundg kj10
           case measure => have := HJ2.out; have := HJ6.out; have := HK3.out; have := HJ10.out; omega
           case rel => exact ⟨(x9_3), (wrap64 (x10_3 - 1)), zQx23a6_, H', ⟨zQx23a9_⟩, ⟨zQx23a7_⟩, ⟨zQx23a0_⟩⟩
          replace c13 := Bool.eq_false_iff.mpr c13
          subst c13
          have H1 : (if 0 ≤ x10_3 then (if x10_3 < (x7_6.size : Int) then (if (bt x7_6 x10_3) < 48 then (some (([] : List Int), false, false)) else (if (bt x7_6 x10_3) > 57 then (some (([] : List Int), false, false)) else (if x9_3.length < 17592186044416 then (basculeref22_Number.l0 kj10 a0 a1 x7_6 x8_2 (x9_3 ++ [((bt x7_6 x10_3) - 48) % 256]) (wrap64 (x10_3 - 1))) else (none)))) else (none)) else (none)) = some (r1, r2, r3) := by rw [if_neg (show ¬ (false = true) by decide)] at H; exact H
          clear H
          have H := H1
          clear H1
          have c18 : 0 ≤ x10_3 := znQx23_
          rw [if_pos c18] at H
          have c18b0 : decide (0 ≤ x10_3) = true := decide_eq_true c18
          clear c18
          have c19 : x10_3 < (x7_6.size : Int) := znQx23_
          rw [if_pos c19] at H
          have c19b0 : decide (x10_3 < (x7_6.size : Int)) = true := decide_eq_true c19
          clear c19
          by_cases c21 : (bt x7_6 x10_3) < 48
          ·
           rw [if_pos c21] at H
           have c21b0 : decide ((bt x7_6 x10_3) < 48) = true := decide_eq_true c21
           clear c21
           simp only [Option.some.injEq, Prod.mk.injEq] at H
           obtain ⟨rfl, rfl, rfl⟩ := H
           have p20 : 0 ≤ (x10_3 : Int) := of_decide_eq_true zQx23a2_
           have q20 : x10_3 < (x7_6.size : Int) := of_decide_eq_true zQx23a2_
           have hx20 := bt_at x7_6 x10_3
           replace p20 := eq_true p20
           replace q20 := eq_true q20
           go_wp2
           go_ret3
           exact ⟨_, zQx23a3_, zQx23a1_, zQx23a0_⟩
          rw [if_neg c21] at H
          have c21b0 : decide ((bt x7_6 x10_3) < 48) = false := decide_eq_false c21
          clear c21
          by_cases c23 : (bt x7_6 x10_3) > 57
          ·
           rw [if_pos c23] at H
           have c23b0 : decide (57 < (bt x7_6 x10_3)) = true := decide_eq_true c23
           clear c23
           simp only [Option.some.injEq, Prod.mk.injEq] at H
           obtain ⟨rfl, rfl, rfl⟩ := H
           have p20 : 0 ≤ (x10_3 : Int) := of_decide_eq_true zQx23a2_
           have q20 : x10_3 < (x7_6.size : Int) := of_decide_eq_true zQx23a2_
           have hx20 := bt_at x7_6 x10_3
           replace p20 := eq_true p20
           replace q20 := eq_true q20
           have p22 : 0 ≤ (x10_3 : Int) := of_decide_eq_true zQx23a2_
           have q22 : x10_3 < (x7_6.size : Int) := of_decide_eq_true zQx23a2_
           have hx22 := bt_at x7_6 x10_3
           replace p22 := eq_true p22
           replace q22 := eq_true q22
           go_wp2
           go_ret3
           exact ⟨_, zQx23a3_, zQx23a1_, zQx23a0_⟩
          rw [if_neg c23] at H
          have c23b0 : decide (57 < (bt x7_6 x10_3)) = false := decide_eq_false c23
          clear c23
          have c25 : x9_3.length < 17592186044416 := znQx23_
          rw [if_pos c25] at H
          have LMc25 := Aside0.mk c25
          clear c25
          obtain ⟨y344, hy344⟩ : ∃ y_ : List Int, y_ = (x9_3 ++ [((bt x7_6 x10_3) - 48) % 256]) := ⟨_, rfl⟩
          replace H : (basculeref22_Number.l0 kj10 a0 a1 x7_6 x8_2 y344 (wrap64 (x10_3 - 1))) = some (r1, r2, r3) := by first | (rw [hy344]; with_reducible exact H) | (have H2_ := (Option.bind_some _ _).symm.trans H; rw [hy344]; with_reducible exact H2_) | (have H2_ := (Option.bind_some _ _).symm.trans H; with_reducible exact H2_) | with_reducible exact H | (rw [hy344]; exact H) | exact H
          have Ny344 := Aside0.mk hy344
          clear hy344
          have H' := Aside0.mk H
          clear H
          have p20 : 0 ≤ (x10_3 : Int) := of_decide_eq_true zQx23a2_
          have q20 : x10_3 < (x7_6.size : Int) := of_decide_eq_true zQx23a2_
          have hx20 := bt_at x7_6 x10_3
          replace p20 := eq_true p20
          replace q20 := eq_true q20
          have p22 : 0 ≤ (x10_3 : Int) := of_decide_eq_true zQx23a2_
          have q22 : x10_3 < (x7_6.size : Int) := of_decide_eq_true zQx23a2_
          have hx22 := bt_at x7_6 x10_3
          replace p22 := eq_true p22
          replace q22 := eq_true q22
          have p24 : 0 ≤ (x10_3 : Int) := of_decide_eq_true zQx23a2_
          have q24 : x10_3 < (x7_6.size : Int) := of_decide_eq_true zQx23a2_
          have hx24 := bt_at x7_6 x10_3
          replace p24 := eq_true p24
          replace q24 := eq_true q24
          go_wp2_with (first | ((with_reducible refine gate_builtin (b := .append) (xs := #[.tmp 57, .tmp 63]) rfl ?_); (try (refine gate_guard (by rfl) ?_; dsimp only)); at_builtin; refine Kd.R_append (Kd.int .i64) (w0 := w) w.heap.size rfl (.tmp 57) (.tmp 63) 24 3 (.int .i64 0) 8 rfl Tryz.underlying24 info3 rfl (by decide) (by omega) u9 x9_3 (((bt x7_6 x10_3) - 48) % 256) [.int .i64 (((bt x7_6 x10_3) - 48) % 256)] (fun _ => True) (fun _ => False) rfl rfl ?aP (fun _ hk => hk.elim) ?aF ?aO ?aB ?aS ?aL ?_; (case aP => exact rfl); (case aB => exact zQx23a0_); (case aF => exact (fun _ _ => trivial)); (case aO => exact zQx23a7_); (case aS => exact (below_size zQx23a0_)); (case aL => have := LMc25.out; omega); intro v345 w26 ho hb hg hat; rw [← Ny344.out] at ho; have n0_ := Aside0.mk (hb); have n1_ := Aside0.mk (ho); clear HB; clear HO_9; have HB := n0_; have HO346 := n1_; clear n0_ n1_; clear ho hb hg hat))
          go_roundg kj10
          case measure => have := HJ2.out; have := HJ6.out; have := HK3.out; have := HJ10.out; omega
          case rel => exact ⟨(y344), (wrap64 (x10_3 - 1)), zQx23a6_, H', ⟨zQx23a9_⟩, ⟨by (with_reducible repeat (first | apply Kd.R_alloc | apply Kd.R_drewN | apply Kd.R_drew)); exact HO346.out⟩, ⟨zQx23a0_⟩⟩
       rw [if_neg c10] at H
       have c10b0 : decide (0 ≤ x10_3) = false := decide_eq_false c10
       clear c10
       replace H := Option.bind_eq_some_iff.mp H
       obtain ⟨t347, A270, H⟩ := H
       replace H : (if x8_2 = true then (if (t347.length : Int) = 0 then (some (([] : List Int), false, false)) else ((basculeref22_point.f k3 t347 x8_2 a1).bind fun t350 => (if t350.toList = a0.toList then (some (t347, x8_2, true)) else (some (([] : List Int), false, false))))) else ((basculeref22_point.f k3 t347 x8_2 a1).bind fun t351 => (if t351.toList = a0.toList then (some (t347, x8_2, true)) else (some (([] : List Int), false, false))))) = some (r1, r2, r3) := H
       have A27 := Aside0.mk A270
       clear A270
       by_cases c28 : x8_2 = true
       rotate_left
       ·
        replace c28 := Bool.eq_false_iff.mpr c28
        subst c28
        have H1 : ((basculeref22_point.f k3 t347 false a1).bind fun t351 => (if t351.toList = a0.toList then (some (t347, false, true)) else (some (([] : List Int), false, false)))) = some (r1, r2, r3) := by rw [if_neg (show ¬ (false = true) by decide)] at H; exact H
        clear H
        have H := H1
        clear H1
        replace H := Option.bind_eq_some_iff.mp H
        obtain ⟨t351, A430, H⟩ := H
        replace H : (if t351.toList = a0.toList then (some (t347, false, true)) else (some (([] : List Int), false, false))) = some (r1, r2, r3) := H
        have A43 := Aside0.mk A430
        clear A430
        by_cases c44 : t351.toList = a0.toList
        ·
         rw [if_pos c44] at H
         have c44b0 : (t351.toList == a0.toList) = true := beq_iff_eq.mpr c44
         have c44b1 : (t351.toList != a0.toList) = false := bne_eq_false_iff_eq.mpr c44
         clear c44
         simp only [Option.some.injEq, Prod.mk.injEq] at H
         obtain ⟨rfl, rfl, rfl⟩ := H
         obtain ⟨Ao45, co45, eo45⟩ := Kd.R_slice HO_9.out
         subst eo45
         go_wp2_with (first | ((with_reducible refine gate_callee (f := 40) rfl ?_); refine goesL_ (some 66) rfl rfl Tryz.func40 (by kernel_rfl) rfl #[.slice Ao45 x9_3.length co45] rfl zQx23a4_ ?_; (with_reducible refine (basculeref22_trim.calls k3 (fun k_ => some k_ = (.slice Ao45 x9_3.length co45 : Value).ownBlock) (.slice Ao45 x9_3.length co45) x9_3 t347 w _ ?side1 ?side2 A27.out).mono ?_); (case side1 => repeat (first | (with_reducible first | exact HB.out | apply below_alloc | apply pw_below_drewN | apply below_drew1) | exact HB.out)); (case side2 => exact Kd.R_tight rfl HO_9.out); rintro e w46 ⟨v348, rfl, ho0, hb, hkp⟩; refine ⟨_, rfl, ?_⟩; have n0_ := Aside0.mk (Kd.R_mono (ok' := fun k_ => True) ho0 (fun k_ hk_ => trivial)); have n1_ := Aside0.mk (hb); clear HB; clear HO_9; have HO349 := n0_; have HB := n1_; clear n0_ n1_; (try clear hb); (try clear hkp); (try clear ho0); obtain ⟨Ao47, co47, eo47⟩ := Kd.R_slice HO349.out; subst eo47) | (go_at_call 35; (with_reducible refine (basculeref22_point.calls k3 _ _ t347 false a1 t351 _ ?side1 ?side2 A43.out).mono ?_); (case side1 => repeat (first | exact (Kd.R_reads' HO349.out).2.2 | (with_reducible first | refine Kd.C_alloc ?_ _ | refine Kd.C_drewN ?_ _ | refine Kd.C_drew ?_))); (case side2 => exact (Kd.R_reads' HO349.out).2.1); rintro e w48 ⟨rfl, hb⟩; have n0_ := Aside0.mk (Kd.R_below zQx23a5_ hb); have n1_ := Aside0.mk (below_step zQx23a0_ hb); clear HO349; clear HB; have HO349 := n0_; have HB := n1_; clear n0_ n1_; (try clear hb); (try clear hb2); (try clear hk); (try clear hi)))
         go_ret3
         exact ⟨_, zQx23a3_, zQx23a5_, zQx23a0_⟩
        rw [if_neg c44] at H
        have c44b0 : (t351.toList == a0.toList) = false := beq_eq_false_iff_ne.mpr c44
        have c44b1 : (t351.toList != a0.toList) = true := bne_iff_ne.mpr c44
        simp only [Option.some.injEq, Prod.mk.injEq] at H
        obtain ⟨rfl, rfl, rfl⟩ := H
        obtain ⟨Ao49, co49, eo49⟩ := Kd.R_slice HO_9.out
        subst eo49
        go_wp2_with (first | ((with_reducible refine gate_callee (f := 40) rfl ?_); refine goesL_ (some 66) rfl rfl Tryz.func40 (by kernel_rfl) rfl #[.slice Ao49 x9_3.length co49] rfl zQx23a4_ ?_; (with_reducible refine (basculeref22_trim.calls k3 (fun k_ => some k_ = (.slice Ao49 x9_3.length co49 : Value).ownBlock) (.slice Ao49 x9_3.length co49) x9_3 t347 w _ ?side1 ?side2 A27.out).mono ?_); (case side1 => repeat (first | (with_reducible first | exact HB.out | apply below_alloc | apply pw_below_drewN | apply below_drew1) | exact HB.out)); (case side2 => exact Kd.R_tight rfl HO_9.out); rintro e w50 ⟨v348, rfl, ho0, hb, hkp⟩; refine ⟨_, rfl, ?_⟩; have n0_ := Aside0.mk (Kd.R_mono (ok' := fun k_ => True) ho0 (fun k_ hk_ => trivial)); have n1_ := Aside0.mk (hb); clear HB; clear HO_9; have HO349 := n0_; have HB := n1_; clear n0_ n1_; (try clear hb); (try clear hkp); (try clear ho0); obtain ⟨Ao51, co51, eo51⟩ := Kd.R_slice HO349.out; subst eo51) | (go_at_call 35; (with_reducible refine (basculeref22_point.calls k3 _ _ t347 false a1 t351 _ ?side1 ?side2 A43.out).mono ?_); (case side1 => repeat (first | exact (Kd.R_reads' HO349.out).2.2 | (with_reducible first | refine Kd.C_alloc ?_ _ | refine Kd.C_drewN ?_ _ | refine Kd.C_drew ?_))); (case side2 => exact (Kd.R_reads' HO349.out).2.1); rintro e w52 ⟨rfl, hb⟩; have n0_ := Aside0.mk (Kd.R_below zQx23a5_ hb); have n1_ := Aside0.mk (below_step zQx23a0_ hb); clear HO349; clear HB; have HO349 := n0_; have HB := n1_; clear n0_ n1_; (try clear hb); (try clear hb2); (try clear hk); (try clear hi)))
        go_ret3
        exact ⟨_, zQx23a3_, zQx23a1_, zQx23a0_⟩
       subst c28
       have H1 : (if (t347.length : Int) = 0 then (some (([] : List Int), false, false)) else ((basculeref22_point.f k3 t347 true a1).bind fun t350 => (if t350.toList = a0.toList then (some (t347, true, true)) else (some (([] : List Int), false, false))))) = some (r1, r2, r3) := by rw [if_pos rfl] at H; exact H
       clear H
       have H := H1
       clear H1
       by_cases c29 : (t347.length : Int) = 0
       ·
        rw [if_pos c29] at H
        have c29b0 : ((t347.length : Int) == 0) = true := beq_iff_eq.mpr c29
        have c29b1 : ((t347.length : Int) != 0) = false := bne_eq_false_iff_eq.mpr c29
        clear c29
        simp only [Option.some.injEq, Prod.mk.injEq] at H
        obtain ⟨rfl, rfl, rfl⟩ := H
        obtain ⟨Ao30, co30, eo30⟩ := Kd.R_slice HO_9.out
        subst eo30
        go_wp2_with (first | ((with_reducible refine gate_callee (f := 40) rfl ?_); refine goesL_ (some 66) rfl rfl Tryz.func40 (by kernel_rfl) rfl #[.slice Ao30 x9_3.length co30] rfl zQx23a4_ ?_; (with_reducible refine (basculeref22_trim.calls k3 (fun k_ => some k_ = (.slice Ao30 x9_3.length co30 : Value).ownBlock) (.slice Ao30 x9_3.length co30) x9_3 t347 w _ ?side1 ?side2 A27.out).mono ?_); (case side1 => repeat (first | (with_reducible first | exact HB.out | apply below_alloc | apply pw_below_drewN | apply below_drew1) | exact HB.out)); (case side2 => exact Kd.R_tight rfl HO_9.out); rintro e w31 ⟨v348, rfl, ho0, hb, hkp⟩; refine ⟨_, rfl, ?_⟩; have n0_ := Aside0.mk (Kd.R_mono (ok' := fun k_ => True) ho0 (fun k_ hk_ => trivial)); have n1_ := Aside0.mk (hb); clear HB; clear HO_9; have HO349 := n0_; have HB := n1_; clear n0_ n1_; (try clear hb); (try clear hkp); (try clear ho0); obtain ⟨Ao32, co32, eo32⟩ := Kd.R_slice HO349.out; subst eo32))
        go_ret3
        exact ⟨_, zQx23a3_, zQx23a1_, zQx23a0_⟩
       rw [if_neg c29] at H
       have c29b0 : ((t347.length : Int) == 0) = false := beq_eq_false_iff_ne.mpr c29
       have c29b1 : ((t347.length : Int) != 0) = true := bne_iff_ne.mpr c29
       have c29b2 : ¬ (t347 = []) := fun h_ => c29 (by rw [h_]; rfl)
       replace H := Option.bind_eq_some_iff.mp H
       obtain ⟨t350, A330, H⟩ := H
       replace H : (if t350.toList = a0.toList then (some (t347, true, true)) else (some (([] : List Int), false, false))) = some (r1, r2, r3) := H
       have A33 := Aside0.mk A330
       clear A330
       by_cases c34 : t350.toList = a0.toList
       ·
        rw [if_pos c34] at H
        have c34b0 : (t350.toList == a0.toList) = true := beq_iff_eq.mpr c34
        have c34b1 : (t350.toList != a0.toList) = false := bne_eq_false_iff_eq.mpr c34
        clear c34
        simp only [Option.some.injEq, Prod.mk.injEq] at H
        obtain ⟨rfl, rfl, rfl⟩ := H
        obtain ⟨Ao35, co35, eo35⟩ := Kd.R_slice HO_9.out
        subst eo35
        go_wp2_with (first | ((with_reducible refine gate_callee (f := 40) rfl ?_); refine goesL_ (some 66) rfl rfl Tryz.func40 (by kernel_rfl) rfl #[.slice Ao35 x9_3.length co35] rfl zQx23a4_ ?_; (with_reducible refine (basculeref22_trim.calls k3 (fun k_ => some k_ = (.slice Ao35 x9_3.length co35 : Value).ownBlock) (.slice Ao35 x9_3.length co35) x9_3 t347 w _ ?side1 ?side2 A27.out).mono ?_); (case side1 => repeat (first | (with_reducible first | exact HB.out | apply below_alloc | apply pw_below_drewN | apply below_drew1) | exact HB.out)); (case side2 => exact Kd.R_tight rfl HO_9.out); rintro e w36 ⟨v348, rfl, ho0, hb, hkp⟩; refine ⟨_, rfl, ?_⟩; have n0_ := Aside0.mk (Kd.R_mono (ok' := fun k_ => True) ho0 (fun k_ hk_ => trivial)); have n1_ := Aside0.mk (hb); clear HB; clear HO_9; have HO349 := n0_; have HB := n1_; clear n0_ n1_; (try clear hb); (try clear hkp); (try clear ho0); obtain ⟨Ao37, co37, eo37⟩ := Kd.R_slice HO349.out; subst eo37) | (go_at_call 35; (with_reducible refine (basculeref22_point.calls k3 _ _ t347 true a1 t350 _ ?side1 ?side2 A33.out).mono ?_); (case side1 => repeat (first | exact (Kd.R_reads' HO349.out).2.2 | (with_reducible first | refine Kd.C_alloc ?_ _ | refine Kd.C_drewN ?_ _ | refine Kd.C_drew ?_))); (case side2 => exact (Kd.R_reads' HO349.out).2.1); rintro e w38 ⟨rfl, hb⟩; have n0_ := Aside0.mk (Kd.R_below zQx23a5_ hb); have n1_ := Aside0.mk (below_step zQx23a0_ hb); clear HO349; clear HB; have HO349 := n0_; have HB := n1_; clear n0_ n1_; (try clear hb); (try clear hb2); (try clear hk); (try clear hi)))
        go_ret3
        exact ⟨_, zQx23a3_, zQx23a5_, zQx23a0_⟩
       rw [if_neg c34] at H
       have c34b0 : (t350.toList == a0.toList) = false := beq_eq_false_iff_ne.mpr c34
       have c34b1 : (t350.toList != a0.toList) = true := bne_iff_ne.mpr c34
       simp only [Option.some.injEq, Prod.mk.injEq] at H
       obtain ⟨rfl, rfl, rfl⟩ := H
       obtain ⟨Ao39, co39, eo39⟩ := Kd.R_slice HO_9.out
       subst eo39
       go_wp2_with (first | ((with_reducible refine gate_callee (f := 40) rfl ?_); refine goesL_ (some 66) rfl rfl Tryz.func40 (by kernel_rfl) rfl #[.slice Ao39 x9_3.length co39] rfl zQx23a4_ ?_; (with_reducible refine (basculeref22_trim.calls k3 (fun k_ => some k_ = (.slice Ao39 x9_3.length co39 : Value).ownBlock) (.slice Ao39 x9_3.length co39) x9_3 t347 w _ ?side1 ?side2 A27.out).mono ?_); (case side1 => repeat (first | (with_reducible first | exact HB.out | apply below_alloc | apply pw_below_drewN | apply below_drew1) | exact HB.out)); (case side2 => exact Kd.R_tight rfl HO_9.out); rintro e w40 ⟨v348, rfl, ho0, hb, hkp⟩; refine ⟨_, rfl, ?_⟩; have n0_ := Aside0.mk (Kd.R_mono (ok' := fun k_ => True) ho0 (fun k_ hk_ => trivial)); have n1_ := Aside0.mk (hb); clear HB; clear HO_9; have HO349 := n0_; have HB := n1_; clear n0_ n1_; (try clear hb); (try clear hkp); (try clear ho0); obtain ⟨Ao41, co41, eo41⟩ := Kd.R_slice HO349.out; subst eo41) | (go_at_call 35; (with_reducible refine (basculeref22_point.calls k3 _ _ t347 true a1 t350 _ ?side1 ?side2 A33.out).mono ?_); (case side1 => repeat (first | exact (Kd.R_reads' HO349.out).2.2 | (with_reducible first | refine Kd.C_alloc ?_ _ | refine Kd.C_drewN ?_ _ | refine Kd.C_drew ?_))); (case side2 => exact (Kd.R_reads' HO349.out).2.1); rintro e w42 ⟨rfl, hb⟩; have n0_ := Aside0.mk (Kd.R_below zQx23a5_ hb); have n1_ := Aside0.mk (below_step zQx23a0_ hb); clear HO349; clear HB; have HO349 := n0_; have HB := n1_; clear n0_ n1_; (try clear hb); (try clear hb2); (try clear hk); (try clear hi)))
       go_ret3
       exact ⟨_, zQx23a3_, zQx23a1_, zQx23a0_⟩
end Go.Proofs.YtmkekhjbbapngaaGreatDoor.Q
