/- What the proof of SubsFinds leans on: Qx4. -/
import Derived.Test.YtjibcekillcgjaaDoorSSubsFindsQx0
import Derived.Test.YtjibcekillcgjaaDoorSSubsFindsQx3
namespace Go.Proofs.YtjibcekillcgjaaDoor.Q
open Go.RowKit Go.Proofs.YtjibcekillcgjaaDoorW.PrintWords Go.Proofs.YtjibcekillcgjaaDoorW.PrintLast Go.Proofs.YtjibcekillcgjaaDoorW.PrintMore
attribute [local go_sem] max2_int max_two
set_option linter.unusedVariables false
set_option linter.unusedSimpArgs false
theorem zQx4a0_ {P_ : Prop} (h_ : P_ := by repeat (first | (with_reducible first | exact HB.out | apply below_alloc | apply pw_below_drewN | apply below_drew1) | exact HB.out)) : P_ := h_
theorem zQx4a1_ {P_ : Prop} (h_ : P_ := by (try simp only [List.map_toArray, List.map_cons, List.map_nil]); first | done | rfl | (simp only [List.length_drop, List.length_take]; rfl)) : P_ := h_
theorem zQx4a2_ {P_ : Prop} (h_ : P_ := by first | rfl | (simp; done) | (simp [*]; done)) : P_ := h_
theorem zQx4a3_ {P_ : Prop} (h_ : P_ := by first | rfl | (simp [errW_none, errW_some] <;> rfl) | (simp [*, errW_none, errW_some] <;> rfl)) : P_ := h_
theorem zQx4a4_ {P_ : Prop} (h_ : P_ := by first | exact Kd.R_nil _ _ _ _ _ | exact Kd.N_nil _ _ _ _ _ | exact Kd.V_nil _ _ _ _ _ | exact Kd.Q_nil _ _ _ _ _ | exact Kd.S_nil _ _ _ _ _) : P_ := h_
theorem zQx4a5_ {P_ : Prop} (h_ : P_ := by (with_reducible repeat (first | apply Kd.R_alloc | apply Kd.R_drewN | apply Kd.R_drew)); exact HO_4.out) : P_ := h_
theorem zQx4a6_ {P_ : Prop} (h_ : P_ := by have := HK1.out; have := HJ1.out; first | omega | exact Nat.le_refl _) : P_ := h_
theorem zQx4a7_ {P_ : Prop} (h_ : P_ := by have := HK1.out; have := HJ1.out; have := HJ6.out; have := HK4.out; omega) : P_ := h_
theorem zQx4a8_ {P_ : Prop} (h_ : P_ := by (with_reducible repeat (first | apply Kd.R_alloc | apply Kd.R_drewN | apply Kd.R_drew)); exact HO120.out) : P_ := h_
theorem zQx4a9_ {P_ : Prop} (h_ : P_ := by first | (with_reducible assumption) | assumption) : P_ := h_
theorem znQx4_ {X_ : Prop} [Decidable X_] (h_ : ¬ X_ → False := by intro c_; rw [if_neg c_] at H; exact absurd H (by simp)) : X_ := Decidable.byContradiction h_
mutual
def basculeref09_first.l0 : Nat → ByteArray → Int → Option (Int)
 | 0, _, _ => none
 | k + 1, x0, x3 => if x3 ≤ 4 then (basculeref09_first.j1 k x0 x3 (decide (x3 ≤ (x0.size : Int)))) else (basculeref09_first.j1 k x0 x3 false)
def basculeref09_first.j1 : Nat → ByteArray → Int → Bool → Option (Int)
 | 0, _, _, _ => none
 | k + 1, x0, x3, x13 => if x13 = true then (if 0 < (x0.size : Int) then (if x3 = 2 then (basculeref09_first.j2 k x0 x3 (wrap64 ((wrap64 (bt x0 0)) - 192))) else (if x3 = 3 then (basculeref09_first.j2 k x0 x3 (wrap64 ((wrap64 (bt x0 0)) - 224))) else (if x3 = 4 then (basculeref09_first.j2 k x0 x3 (wrap64 ((wrap64 (bt x0 0)) - 240))) else (basculeref09_first.j2 k x0 x3 (wrap64 (bt x0 0)))))) else (none)) else (some 0)
def basculeref09_first.j2 : Nat → ByteArray → Int → Int → Option (Int)
 | 0, _, _, _ => none
 | k + 1, x0, x3, x4 => basculeref09_first.l1 k x0 x3 x4 1
def basculeref09_first.l1 : Nat → ByteArray → Int → Int → Int → Option (Int)
 | 0, _, _, _, _ => none
 | k + 1, x0, x3, x4, x5 => if x5 < x3 then (if 0 ≤ x5 then (if x5 < (x0.size : Int) then (basculeref09_first.l1 k x0 x3 (wrap64 ((wrap64 ((wrap64 (64 * x4)) + (wrap64 (bt x0 x5)))) - 128)) (wrap64 (x5 + 1))) else (none)) else (none)) else ((basculeref09_Point.f x4).bind fun t115 => (if t115 = true then ((basculeref09_Bytes.f x4).bind fun t116 => (if 0 ≤ x3 then (if x3 ≤ (x0.size : Int) then (if t116.toList = (x0.extract 0 (x3 : Int).toNat).toList then (some x4) else (basculeref09_first.l0 k x0 (wrap64 (x3 + 1)))) else (none)) else (none))) else (basculeref09_first.l0 k x0 (wrap64 (x3 + 1)))))
end
def basculeref09_first.f (k : Nat) (a0 : ByteArray) : Option (Int) := basculeref09_first.l0 k a0 1
def basculeref09_first.T15 : Bool × List (List Nat × List Nat) := (true, [([], []), ([0], [0]), ([1, 1], [1]), ([2], [2]), ([3, 2, 2], [2, 3]), ([2], [2]), ([2], [2]), ([5, 6, 2], [2, 5, 6]), ([4, 7, 2], [2, 4, 7]), ([2, 8], [2, 8])])
def basculeref09_first.B15 : List Nat := [0, 1, 3, 7, 15, 7, 7, 103, 255, 511]
theorem basculeref09_first.tab15 : rtab .any (opsOf Tryd.f43 15) = basculeref09_first.T15 := by kernel_rfl
theorem basculeref09_first.bits15 : waitsOk basculeref09_first.T15.2 basculeref09_first.B15 = true := by kernel_rfl
set_option maxHeartbeats 8000000 in
set_option maxRecDepth 100000 in
theorem basculeref09_first.calls (k : Nat) (a0 : ByteArray) (r : Int) (w : World) (h : basculeref09_first.f k a0 = some r) :
  Calls Tryd.prog 43 #[.string a0] w fun e w' => e = .returned (.int .i64 r) ∧ Below w.heap.size w w' := by
 have HB := Aside0.mk (Below.refl w.heap.size w)
 have H : (basculeref09_first.l0 k a0 1) = some r := h
 clear h
 have H' := Aside0.mk H
 clear H
 go_enter Tryd.func43, Tryd.ntmps43
 go_wp2
 go_loopg [3] k (fun kq v3 w' => ∃ (x3_1 : Int), v3 = .int .i64 x3_1 ∧ Aside0 (basculeref09_first.l0 kq a0 x3_1 = some r) ∧ Aside0 (kq ≤ k) ∧ Aside0 (Below w.heap.size w w'))
 case atStart => exact ⟨(1), zQx4a2_, H', ⟨Nat.le_refl _⟩, ⟨zQx4a0_⟩⟩
 case round =>
  clear H'
  obtain ⟨x3_1, rfl, HA, HK1, HB⟩ := hrel
  cases gk with
  | zero => exact absurd HA.out (by simp [basculeref09_first.l0])
  | succ k1 =>
   have H := HA.out
   clear HA
   simp only [basculeref09_first.l0] at H
   have HC2 := Aside0.mk H
   clear H
   go_upto_region 2 with (fail)
   go_cut [13] (fun v13 wc => ∃ (kq : Nat) (x13_1 : Bool), v13 = .bool x13_1 ∧ Aside0 (basculeref09_first.j1 kq a0 x3_1 x13_1 = some r) ∧ Aside0 (kq ≤ k1) ∧ Aside0 (Below w.heap.size w wc))
   case first =>
    have H := HC2.out
    clear HC2
    by_cases c3 : x3_1 ≤ 4
    rotate_left
    ·
     rw [if_neg c3] at H
     have c3b0 : decide (x3_1 ≤ 4) = false := decide_eq_false c3
     clear c3
     (first | rw [c3b0] | (simp only [i64_w, i32_w]; rw [c3b0]) | skip)
     have H' := Aside0.mk H
     clear H
     go_wp2
     go_meet
     case rel => exact ⟨_, (false), zQx4a2_, H', ⟨by have := HK1.out; first | omega | exact Nat.le_refl _⟩, ⟨zQx4a0_⟩⟩
    rw [if_pos c3] at H
    have c3b0 : decide (x3_1 ≤ 4) = true := decide_eq_true c3
    clear c3
    (first | rw [c3b0] | (simp only [i64_w, i32_w]; rw [c3b0]) | skip)
    have H' := Aside0.mk H
    clear H
    go_wp2
    go_meet
    case rel => exact ⟨_, (decide (x3_1 ≤ (a0.size : Int))), zQx4a2_, H', ⟨by have := HK1.out; first | omega | exact Nat.le_refl _⟩, ⟨zQx4a0_⟩⟩
   case rest =>
    clear HC2
    try clear p2
    try clear c3
    try clear c3b0
    obtain ⟨kq, x13_1, rfl, HA, HJ1, HB⟩ := hcut
    cases kq with
    | zero => exact absurd HA.out (by simp [basculeref09_first.j1])
    | succ kj1 =>
     have H := HA.out
     clear HA
     simp only [basculeref09_first.j1] at H
     by_cases c4 : x13_1 = true
     rotate_left
     ·
      replace c4 := Bool.eq_false_iff.mpr c4
      subst c4
      have H1 : (some 0) = some r := by rw [if_neg (show ¬ (false = true) by decide)] at H; exact H
      clear H
      have H := H1
      clear H1
      obtain rfl := Option.some.inj H
      go_wp2
      go_ret
      exact ⟨zQx4a3_, zQx4a0_⟩
     subst c4
     have H1 : (if 0 < (a0.size : Int) then (if x3_1 = 2 then (basculeref09_first.j2 kj1 a0 x3_1 (wrap64 ((wrap64 (bt a0 0)) - 192))) else (if x3_1 = 3 then (basculeref09_first.j2 kj1 a0 x3_1 (wrap64 ((wrap64 (bt a0 0)) - 224))) else (if x3_1 = 4 then (basculeref09_first.j2 kj1 a0 x3_1 (wrap64 ((wrap64 (bt a0 0)) - 240))) else (basculeref09_first.j2 kj1 a0 x3_1 (wrap64 (bt a0 0)))))) else (none)) = some r := by rw [if_pos rfl] at H; exact H
     clear H
     have H := H1
     clear H1
     have c5 : 0 < (a0.size : Int) := znQx4_
     rw [if_pos c5] at H
     have c5b0 : decide (0 < (a0.size : Int)) = true := decide_eq_true c5
     have c5b1 : decide (0 < a0.size) = true := decide_eq_true (by omega)
     have c5b7 : (0 < a0.size) := of_decide_eq_true c5b1
     clear c5
     have HC7 := Aside0.mk H
     clear H
     have p6 : 0 ≤ (0 : Int) := (by omega)
     have q6 : 0 < a0.size := (by have : (0 : Int) < (a0.size : Int) := of_decide_eq_true zQx4a9_; omega)
     have hx6 : ∀ h : 0 < a0.size, ((a0[0]'h).toNat : Int) = bt a0 0 := bt_at a0 0
     clear p6
     have qi6 : (0 < (a0.size : Int)) = True := eq_true (of_decide_eq_true zQx4a9_)
     replace q6 := eq_true q6
     go_upto_if 20 with (fail)
     go_cut [4] (fun v4 wc => ∃ (kq : Nat) (x4_6 : Int), v4 = .int .i64 x4_6 ∧ Aside0 (basculeref09_first.j2 kq a0 x3_1 x4_6 = some r) ∧ Aside0 (kq ≤ kj1) ∧ Aside0 (Below w.heap.size w wc))
     case first =>
      have H := HC7.out
      clear HC7
      by_cases c8 : x3_1 = 2
      ·
       rw [if_pos c8] at H
       have c8b0 : (x3_1 == 2) = true := beq_iff_eq.mpr c8
       have c8b1 : (x3_1 != 2) = false := bne_eq_false_iff_eq.mpr c8
       clear c8
       (first | rw [c8b0] | (simp only [i64_w, i32_w]; rw [c8b0]) | skip)
       have H' := Aside0.mk H
       clear H
       go_wp2
       go_meet
       case rel => exact ⟨_, (wrap64 ((wrap64 (bt a0 0)) - 192)), zQx4a2_, H', ⟨zQx4a6_⟩, ⟨zQx4a0_⟩⟩
      rw [if_neg c8] at H
      have c8b0 : (x3_1 == 2) = false := beq_eq_false_iff_ne.mpr c8
      have c8b1 : (x3_1 != 2) = true := bne_iff_ne.mpr c8
      (first | rw [c8b0] | (simp only [i64_w, i32_w]; rw [c8b0]) | skip)
      by_cases c9 : x3_1 = 3
      ·
       rw [if_pos c9] at H
       have c9b0 : (x3_1 == 3) = true := beq_iff_eq.mpr c9
       have c9b1 : (x3_1 != 3) = false := bne_eq_false_iff_eq.mpr c9
       clear c9
       have H' := Aside0.mk H
       clear H
       go_wp2
       go_meet
       case rel => exact ⟨_, (wrap64 ((wrap64 (bt a0 0)) - 224)), zQx4a2_, H', ⟨zQx4a6_⟩, ⟨zQx4a0_⟩⟩
      rw [if_neg c9] at H
      have c9b0 : (x3_1 == 3) = false := beq_eq_false_iff_ne.mpr c9
      have c9b1 : (x3_1 != 3) = true := bne_iff_ne.mpr c9
      by_cases c10 : x3_1 = 4
      rotate_left
      ·
       rw [if_neg c10] at H
       have c10b0 : (x3_1 == 4) = false := beq_eq_false_iff_ne.mpr c10
       have c10b1 : (x3_1 != 4) = true := bne_iff_ne.mpr c10
       have H' := Aside0.mk H
       clear H
       go_wp2
       go_meet
       case rel => exact ⟨_, (wrap64 (bt a0 0)), zQx4a2_, H', ⟨zQx4a6_⟩, ⟨zQx4a0_⟩⟩
      rw [if_pos c10] at H
      have c10b0 : (x3_1 == 4) = true := beq_iff_eq.mpr c10
      have c10b1 : (x3_1 != 4) = false := bne_eq_false_iff_eq.mpr c10
      clear c10
      have H' := Aside0.mk H
      clear H
      go_wp2
      go_meet
      case rel => exact ⟨_, (wrap64 ((wrap64 (bt a0 0)) - 240)), zQx4a2_, H', ⟨zQx4a6_⟩, ⟨zQx4a0_⟩⟩
     case rest =>
      clear HC7
      try clear c1
      try clear p2
      try clear c3
      try clear c3b0
      try clear c4
      try clear c5
      try clear c5b0
      try clear c5b1
      try clear p6
      try clear q6
      try clear hx6
      try clear qi6
      try clear c8
      try clear c8b0
      try clear c8b1
      try clear c9
      try clear c9b0
      try clear c9b1
      try clear c10
      try clear c10b0
      try clear c10b1
      try clear p2
      try clear p6
      try clear q6
      obtain ⟨kq, x4_6, rfl, HA, HJ6, HB⟩ := hcut
      cases kq with
      | zero => exact absurd HA.out (by simp [basculeref09_first.j2])
      | succ kj6 =>
       have H := HA.out
       clear HA
       simp only [basculeref09_first.j2] at H
       have H' := Aside0.mk H
       clear H
       go_wp2
       go_loopg [4, 5] kj6 (fun kq v4 v5 w' => ∃ (x4_4 : Int) (x5_4 : Int), v4 = .int .i64 x4_4 ∧ v5 = .int .i64 x5_4 ∧ Aside0 (basculeref09_first.l1 kq a0 x3_1 x4_4 x5_4 = some r) ∧ Aside0 (kq ≤ kj6) ∧ Aside0 (Below w.heap.size w w'))
       case atStart => exact ⟨(x4_6), (1), zQx4a2_, zQx4a2_, H', ⟨Nat.le_refl _⟩, ⟨zQx4a0_⟩⟩
       case round =>
        clear H'
        try clear c1
        try clear p2
        try clear c3
        try clear c3b0
        try clear c4
        try clear c5
        try clear c5b0
        try clear c5b1
        try clear p6
        try clear q6
        try clear hx6
        try clear qi6
        try clear c8
        try clear c8b0
        try clear c8b1
        try clear c9
        try clear c9b0
        try clear c9b1
        try clear c10
        try clear c10b0
        try clear c10b1
        try clear p2
        try clear p6
        try clear q6
        obtain ⟨x4_4, x5_4, rfl, rfl, HA, HK4, HB⟩ := hrel
        cases gk with
        | zero => exact absurd HA.out (by simp [basculeref09_first.l1])
        | succ k4 =>
         have H := HA.out
         clear HA
         simp only [basculeref09_first.l1] at H
         by_cases c11 : x5_4 < x3_1
         ·
          rw [if_pos c11] at H
          have c11b0 : decide (x5_4 < x3_1) = true := decide_eq_true c11
          clear c11
          have c12 : 0 ≤ x5_4 := znQx4_
          rw [if_pos c12] at H
          have c12b0 : decide (0 ≤ x5_4) = true := decide_eq_true c12
          clear c12
          have c13 : x5_4 < (a0.size : Int) := znQx4_
          rw [if_pos c13] at H
          have c13b0 : decide (x5_4 < (a0.size : Int)) = true := decide_eq_true c13
          clear c13
          have H' := Aside0.mk H
          clear H
          have p14 : 0 ≤ (x5_4 : Int) := of_decide_eq_true zQx4a9_
          have q14 : x5_4 < (a0.size : Int) := of_decide_eq_true zQx4a9_
          have hx14 := bt_at a0 x5_4
          replace p14 := eq_true p14
          replace q14 := eq_true q14
          go_wp2
          go_roundg k4
          case measure => have := HK1.out; have := HJ1.out; have := HJ6.out; have := HK4.out; omega
          case rel => exact ⟨(wrap64 ((wrap64 ((wrap64 (64 * x4_4)) + (wrap64 (bt a0 x5_4)))) - 128)), (wrap64 (x5_4 + 1)), zQx4a2_, zQx4a2_, H', ⟨zQx4a7_⟩, ⟨zQx4a0_⟩⟩
         rw [if_neg c11] at H
         have c11b0 : decide (x5_4 < x3_1) = false := decide_eq_false c11
         clear c11
         replace H := Option.bind_eq_some_iff.mp H
         obtain ⟨t115, A150, H⟩ := H
         replace H : (if t115 = true then ((basculeref09_Bytes.f x4_4).bind fun t116 => (if 0 ≤ x3_1 then (if x3_1 ≤ (a0.size : Int) then (if t116.toList = (a0.extract 0 (x3_1 : Int).toNat).toList then (some x4_4) else (basculeref09_first.l0 k4 a0 (wrap64 (x3_1 + 1)))) else (none)) else (none))) else (basculeref09_first.l0 k4 a0 (wrap64 (x3_1 + 1)))) = some r := H
         have A15 := Aside0.mk A150
         clear A150
         by_cases c16 : t115 = true
         rotate_left
         ·
          replace c16 := Bool.eq_false_iff.mpr c16
          subst c16
          have H1 : (basculeref09_first.l0 k4 a0 (wrap64 (x3_1 + 1))) = some r := by rw [if_neg (show ¬ (false = true) by decide)] at H; exact H
          clear H
          have H := H1
          clear H1
          have H' := Aside0.mk H
          clear H
          try go_wp2
          have n0_ := Aside0.mk (below_drew1 HB.out)
          clear HB
          have HB := n0_
          clear n0_
          refine start_ (n := 10) (S := fun w' => True) (ds := []) #[false, false, false, false, false, false, false, false, false, false] (by kernel_rfl) rfl rfl trivial (fun hHeld => ?_); refine with_tabW basculeref09_first.tab15 basculeref09_first.bits15 (fun HT_ HW_ => ?_)
          generalize wr.drew = w25 at HB hHeld ⊢
          refine pure_ (i := 0) (N := some 44) (v := ?_) (a' := ?_) #[true, false, false, false, false, false, false, false, false, false] rfl rfl (any_of HT_.out (by kernel_rfl)) (fun _ _ _ h => h) (Or.inl ⟨by rfl, ?_⟩) ?_ ?_
          rotate_left
          ·
           intro w'
           go_simp
           with_reducible rfl
          rotate_left
          ·
           simp only [Act.put, List.setIfInBounds_toArray, List.set_cons_zero, List.set_cons_succ, i64_w, i32_w]
           rfl
          refine one_ (i := 1) (N := some 45) #[true, true, false, false, false, false, false, false, false, false] rfl rfl (one_of HT_.out (by kernel_rfl)) (by decide) (fun K hK => ?_)
          refine goes_ Tryd.func68 (by kernel_rfl) rfl #[.int .i64 x4_4] (by rfl) rfl rfl zQx4a1_ ?_
          with_reducible refine (basculeref09_Point.calls x4_4 false _ A15.out).mono ?_
          rintro e w' ⟨rfl, ⟨nd, rfl⟩⟩
          refine ⟨_, rfl, ?_⟩
          refine hK.out _ _ trivial (fun hHeld => ?_)
          clear hK K
          refine norm_ (a' := ?_) ?_ ?_
          rotate_left
          ·
           show Act.put _ (some 45) _ = _
           simp only [Act.put, List.setIfInBounds_toArray, List.set_cons_zero, List.set_cons_succ, i64_w, i32_w]
           rfl
          refine pure_ (i := 2) (N := some 46) (v := ?_) (a' := ?_) #[true, true, true, false, false, false, false, false, false, false] rfl rfl (any_of HT_.out (by kernel_rfl)) (fun _ _ _ h => h) (Or.inl ⟨by rfl, ?_⟩) ?_ ?_
          rotate_left
          ·
           intro w'
           go_simp
           with_reducible rfl
          rotate_left
          ·
           simp only [Act.put, List.setIfInBounds_toArray, List.set_cons_zero, List.set_cons_succ, i64_w, i32_w]
           rfl
          refine pure_ (i := 3) (N := some 47) (v := undef) (a' := ?_) #[true, true, true, true, false, false, false, false, false, false] rfl rfl (any_of HT_.out (by kernel_rfl)) (fun _ _ _ h => h) (Or.inr ⟨by rfl, rfl⟩) ?_ ?_
          rotate_left
          ·
           simp only [Act.put, List.setIfInBounds_toArray, List.set_cons_zero, List.set_cons_succ, i64_w, i32_w]
           rfl
          refine pure_ (i := 4) (N := some 48) (v := undef) (a' := ?_) #[true, true, true, true, true, false, false, false, false, false] rfl rfl (any_of HT_.out (by kernel_rfl)) (fun _ _ _ h => h) (Or.inr ⟨by rfl, rfl⟩) ?_ ?_
          rotate_left
          ·
           simp only [Act.put, List.setIfInBounds_toArray, List.set_cons_zero, List.set_cons_succ, i64_w, i32_w]
           rfl
          refine pure_ (i := 5) (N := some 49) (v := undef) (a' := ?_) #[true, true, true, true, true, true, false, false, false, false] rfl rfl (any_of HT_.out (by kernel_rfl)) (fun _ _ _ h => h) (Or.inr ⟨by rfl, rfl⟩) ?_ ?_
          rotate_left
          ·
           simp only [Act.put, List.setIfInBounds_toArray, List.set_cons_zero, List.set_cons_succ, i64_w, i32_w]
           rfl
          refine pure_ (i := 6) (N := some 50) (v := undef) (a' := ?_) #[true, true, true, true, true, true, true, false, false, false] rfl rfl (any_of HT_.out (by kernel_rfl)) (fun _ _ _ h => h) (Or.inr ⟨by rfl, rfl⟩) ?_ ?_
          rotate_left
          ·
           simp only [Act.put, List.setIfInBounds_toArray, List.set_cons_zero, List.set_cons_succ, i64_w, i32_w]
           rfl
          refine pure_ (i := 7) (N := some 51) (v := undef) (a' := ?_) #[true, true, true, true, true, true, true, true, false, false] rfl rfl (any_of HT_.out (by kernel_rfl)) (fun _ _ _ h => h) (Or.inr ⟨by rfl, rfl⟩) ?_ ?_
          rotate_left
          ·
           simp only [Act.put, List.setIfInBounds_toArray, List.set_cons_zero, List.set_cons_succ, i64_w, i32_w]
           rfl
          refine pure_ (i := 8) (N := some 52) (v := undef) (a' := ?_) #[true, true, true, true, true, true, true, true, true, false] rfl rfl (any_of HT_.out (by kernel_rfl)) (fun _ _ _ h => h) (Or.inr ⟨by rfl, rfl⟩) ?_ ?_
          rotate_left
          ·
           simp only [Act.put, List.setIfInBounds_toArray, List.set_cons_zero, List.set_cons_succ, i64_w, i32_w]
           rfl
          refine pure_ (i := 9) (N := some 53) (v := ?_) (a' := ?_) #[true, true, true, true, true, true, true, true, true, true] rfl rfl (any_of HT_.out (by kernel_rfl)) (fun _ _ _ h => h) (Or.inl ⟨by rfl, ?_⟩) ?_ ?_
          rotate_left
          ·
           intro w'
           go_simp
           with_reducible rfl
          rotate_left
          ·
           simp only [Act.put, List.setIfInBounds_toArray, List.set_cons_zero, List.set_cons_succ, i64_w, i32_w]
           rfl
          refine done_ (done_of HT_.out (by kernel_rfl)) ?_
          try go_wp2
          go_roundg k4
          case measure => have := HK1.out; have := HJ1.out; have := HJ6.out; have := HK4.out; omega
          case rel => exact ⟨(wrap64 (x3_1 + 1)), zQx4a2_, H', ⟨zQx4a7_⟩, ⟨zQx4a0_⟩⟩
         subst c16
         have H1 : ((basculeref09_Bytes.f x4_4).bind fun t116 => (if 0 ≤ x3_1 then (if x3_1 ≤ (a0.size : Int) then (if t116.toList = (a0.extract 0 (x3_1 : Int).toNat).toList then (some x4_4) else (basculeref09_first.l0 k4 a0 (wrap64 (x3_1 + 1)))) else (none)) else (none))) = some r := by rw [if_pos rfl] at H; exact H
         clear H
         have H := H1
         clear H1
         replace H := Option.bind_eq_some_iff.mp H
         obtain ⟨t116, A170, H⟩ := H
         replace H : (if 0 ≤ x3_1 then (if x3_1 ≤ (a0.size : Int) then (if t116.toList = (a0.extract 0 (x3_1 : Int).toNat).toList then (some x4_4) else (basculeref09_first.l0 k4 a0 (wrap64 (x3_1 + 1)))) else (none)) else (none)) = some r := H
         have A17 := Aside0.mk A170
         clear A170
         have c18 : 0 ≤ x3_1 := znQx4_
         rw [if_pos c18] at H
         have c18b0 := eq_true c18
         have c18b1 : decide (0 ≤ x3_1) = true := decide_eq_true c18
         clear c18
         have c19 : x3_1 ≤ (a0.size : Int) := znQx4_
         rw [if_pos c19] at H
         have c19b0 := eq_true c19
         have c19b1 : decide (x3_1 ≤ (a0.size : Int)) = true := decide_eq_true c19
         clear c19
         by_cases c20 : t116.toList = (a0.extract 0 (x3_1 : Int).toNat).toList
         ·
          rw [if_pos c20] at H
          have c20b0 : (t116.toList == (a0.extract 0 (x3_1 : Int).toNat).toList) = true := beq_iff_eq.mpr c20
          have c20b1 : (t116.toList != (a0.extract 0 (x3_1 : Int).toNat).toList) = false := bne_eq_false_iff_eq.mpr c20
          clear c20
          obtain rfl := Option.some.inj H
          try go_wp2
          have n0_ := Aside0.mk (below_drew1 HB.out)
          clear HB
          have HB := n0_
          clear n0_
          refine start_ (n := 10) (S := fun w' => True) (ds := []) #[false, false, false, false, false, false, false, false, false, false] (by kernel_rfl) rfl rfl trivial (fun hHeld => ?_); refine with_tabW basculeref09_first.tab15 basculeref09_first.bits15 (fun HT_ HW_ => ?_)
          generalize wr.drew = w21 at HB hHeld ⊢
          refine pure_ (i := 0) (N := some 44) (v := ?_) (a' := ?_) #[true, false, false, false, false, false, false, false, false, false] rfl rfl (any_of HT_.out (by kernel_rfl)) (fun _ _ _ h => h) (Or.inl ⟨by rfl, ?_⟩) ?_ ?_
          rotate_left
          ·
           intro w'
           go_simp
           with_reducible rfl
          rotate_left
          ·
           simp only [Act.put, List.setIfInBounds_toArray, List.set_cons_zero, List.set_cons_succ, i64_w, i32_w]
           rfl
          refine one_ (i := 1) (N := some 45) #[true, true, false, false, false, false, false, false, false, false] rfl rfl (one_of HT_.out (by kernel_rfl)) (by decide) (fun K hK => ?_)
          refine goes_ Tryd.func68 (by kernel_rfl) rfl #[.int .i64 x4_4] (by rfl) rfl rfl zQx4a1_ ?_
          with_reducible refine (basculeref09_Point.calls x4_4 true _ A15.out).mono ?_
          rintro e w' ⟨rfl, ⟨nd, rfl⟩⟩
          refine ⟨_, rfl, ?_⟩
          refine hK.out _ _ trivial (fun hHeld => ?_)
          clear hK K
          refine norm_ (a' := ?_) ?_ ?_
          rotate_left
          ·
           show Act.put _ (some 45) _ = _
           simp only [Act.put, List.setIfInBounds_toArray, List.set_cons_zero, List.set_cons_succ, i64_w, i32_w]
           rfl
          refine pure_ (i := 2) (N := some 46) (v := ?_) (a' := ?_) #[true, true, true, false, false, false, false, false, false, false] rfl rfl (any_of HT_.out (by kernel_rfl)) (fun _ _ _ h => h) (Or.inl ⟨by rfl, ?_⟩) ?_ ?_
          rotate_left
          ·
           intro w'
           go_simp
           with_reducible rfl
          rotate_left
          ·
           simp only [Act.put, List.setIfInBounds_toArray, List.set_cons_zero, List.set_cons_succ, i64_w, i32_w]
           rfl
          refine pure_ (i := 3) (N := some 47) (v := ?_) (a' := ?_) #[true, true, true, true, false, false, false, false, false, false] rfl rfl (any_of HT_.out (by kernel_rfl)) (fun _ _ _ h => h) (Or.inl ⟨by rfl, ?_⟩) ?_ ?_
          rotate_left
          ·
           intro w'
           go_simp
           with_reducible rfl
          rotate_left
          ·
           simp only [Act.put, List.setIfInBounds_toArray, List.set_cons_zero, List.set_cons_succ, i64_w, i32_w]
           rfl
          refine pure_ (i := 5) (N := some 49) (v := ?_) (a' := ?_) #[true, true, true, true, false, true, false, false, false, false] rfl rfl (any_of HT_.out (by kernel_rfl)) (fun _ _ _ h => h) (Or.inl ⟨by rfl, ?_⟩) ?_ ?_
          rotate_left
          ·
           intro w'
           go_simp
           with_reducible rfl
          rotate_left
          ·
           simp only [Act.put, List.setIfInBounds_toArray, List.set_cons_zero, List.set_cons_succ, i64_w, i32_w]
           rfl
          refine pure_ (i := 6) (N := some 50) (v := ?_) (a' := ?_) #[true, true, true, true, false, true, true, false, false, false] rfl rfl (any_of HT_.out (by kernel_rfl)) (fun _ _ _ h => h) (Or.inl ⟨by rfl, ?_⟩) ?_ ?_
          rotate_left
          ·
           intro w'
           go_simp
           with_reducible rfl
          rotate_left
          ·
           simp only [Act.put, List.setIfInBounds_toArray, List.set_cons_zero, List.set_cons_succ, i64_w, i32_w]
           rfl
          refine pure_ (i := 7) (N := some 51) (v := ?_) (a' := ?_) #[true, true, true, true, false, true, true, true, false, false] rfl rfl (any_of HT_.out (by kernel_rfl)) (fun _ _ _ h => h) (Or.inl ⟨by rfl, ?_⟩) ?_ ?_
          rotate_left
          ·
           intro w'
           go_simp
           with_reducible rfl
          rotate_left
          ·
           simp only [Act.put, List.setIfInBounds_toArray, List.set_cons_zero, List.set_cons_succ, i64_w, i32_w]
           rfl
          refine one_ (i := 4) (N := some 48) #[true, true, true, true, true, true, true, true, false, false] rfl rfl (one_of HT_.out (by kernel_rfl)) (by decide) (fun K hK => ?_)
          refine goes_ Tryd.func44 (by kernel_rfl) rfl #[.int .i64 x4_4] (by rfl) rfl rfl zQx4a1_ ?_
          with_reducible refine (basculeref09_Bytes.calls x4_4 t116 _ A17.out).mono ?_
          rintro e w22 ⟨rfl, hb⟩
          refine ⟨_, rfl, ?_⟩
          have n0_ := Aside0.mk (below_step zQx4a0_ hb)
          clear HB
          have HB := n0_
          clear n0_
          (try clear hb)
          (try clear hb2)
          (try clear hk)
          (try clear hi)
          refine hK.out _ _ trivial (fun hHeld => ?_)
          clear hK K
          refine norm_ (a' := ?_) ?_ ?_
          rotate_left
          ·
           show Act.put _ (some 48) _ = _
           simp only [Act.put, List.setIfInBounds_toArray, List.set_cons_zero, List.set_cons_succ, i64_w, i32_w]
           rfl
          refine pure_ (i := 8) (N := some 52) (v := ?_) (a' := ?_) #[true, true, true, true, true, true, true, true, true, false] rfl rfl (any_of HT_.out (by kernel_rfl)) (fun _ _ _ h => h) (Or.inl ⟨by rfl, ?_⟩) ?_ ?_
          rotate_left
          ·
           intro w'
           go_simp
           with_reducible rfl
          rotate_left
          ·
           simp only [Act.put, List.setIfInBounds_toArray, List.set_cons_zero, List.set_cons_succ, i64_w, i32_w]
           rfl
          refine pure_ (i := 9) (N := some 53) (v := ?_) (a' := ?_) #[true, true, true, true, true, true, true, true, true, true] rfl rfl (any_of HT_.out (by kernel_rfl)) (fun _ _ _ h => h) (Or.inl ⟨by rfl, ?_⟩) ?_ ?_
          rotate_left
          ·
           intro w'
           go_simp
           with_reducible rfl
          rotate_left
          ·
           simp only [Act.put, List.setIfInBounds_toArray, List.set_cons_zero, List.set_cons_succ, i64_w, i32_w]
           rfl
          refine done_ (done_of HT_.out (by kernel_rfl)) ?_
          try go_wp2
          go_ret
          exact ⟨zQx4a3_, zQx4a0_⟩
         rw [if_neg c20] at H
         have c20b0 : (t116.toList == (a0.extract 0 (x3_1 : Int).toNat).toList) = false := beq_eq_false_iff_ne.mpr c20
         have c20b1 : (t116.toList != (a0.extract 0 (x3_1 : Int).toNat).toList) = true := bne_iff_ne.mpr c20
         have H' := Aside0.mk H
         clear H
         try go_wp2
         have n0_ := Aside0.mk (below_drew1 HB.out)
         clear HB
         have HB := n0_
         clear n0_
         refine start_ (n := 10) (S := fun w' => True) (ds := []) #[false, false, false, false, false, false, false, false, false, false] (by kernel_rfl) rfl rfl trivial (fun hHeld => ?_); refine with_tabW basculeref09_first.tab15 basculeref09_first.bits15 (fun HT_ HW_ => ?_)
         generalize wr.drew = w23 at HB hHeld ⊢
         refine pure_ (i := 0) (N := some 44) (v := ?_) (a' := ?_) #[true, false, false, false, false, false, false, false, false, false] rfl rfl (any_of HT_.out (by kernel_rfl)) (fun _ _ _ h => h) (Or.inl ⟨by rfl, ?_⟩) ?_ ?_
         rotate_left
         ·
          intro w'
          go_simp
          with_reducible rfl
         rotate_left
         ·
          simp only [Act.put, List.setIfInBounds_toArray, List.set_cons_zero, List.set_cons_succ, i64_w, i32_w]
          rfl
         refine one_ (i := 1) (N := some 45) #[true, true, false, false, false, false, false, false, false, false] rfl rfl (one_of HT_.out (by kernel_rfl)) (by decide) (fun K hK => ?_)
         refine goes_ Tryd.func68 (by kernel_rfl) rfl #[.int .i64 x4_4] (by rfl) rfl rfl zQx4a1_ ?_
         with_reducible refine (basculeref09_Point.calls x4_4 true _ A15.out).mono ?_
         rintro e w' ⟨rfl, ⟨nd, rfl⟩⟩
         refine ⟨_, rfl, ?_⟩
         refine hK.out _ _ trivial (fun hHeld => ?_)
         clear hK K
         refine norm_ (a' := ?_) ?_ ?_
         rotate_left
         ·
          show Act.put _ (some 45) _ = _
          simp only [Act.put, List.setIfInBounds_toArray, List.set_cons_zero, List.set_cons_succ, i64_w, i32_w]
          rfl
         refine pure_ (i := 2) (N := some 46) (v := ?_) (a' := ?_) #[true, true, true, false, false, false, false, false, false, false] rfl rfl (any_of HT_.out (by kernel_rfl)) (fun _ _ _ h => h) (Or.inl ⟨by rfl, ?_⟩) ?_ ?_
         rotate_left
         ·
          intro w'
          go_simp
          with_reducible rfl
         rotate_left
         ·
          simp only [Act.put, List.setIfInBounds_toArray, List.set_cons_zero, List.set_cons_succ, i64_w, i32_w]
          rfl
         refine pure_ (i := 3) (N := some 47) (v := ?_) (a' := ?_) #[true, true, true, true, false, false, false, false, false, false] rfl rfl (any_of HT_.out (by kernel_rfl)) (fun _ _ _ h => h) (Or.inl ⟨by rfl, ?_⟩) ?_ ?_
         rotate_left
         ·
          intro w'
          go_simp
          with_reducible rfl
         rotate_left
         ·
          simp only [Act.put, List.setIfInBounds_toArray, List.set_cons_zero, List.set_cons_succ, i64_w, i32_w]
          rfl
         refine pure_ (i := 5) (N := some 49) (v := ?_) (a' := ?_) #[true, true, true, true, false, true, false, false, false, false] rfl rfl (any_of HT_.out (by kernel_rfl)) (fun _ _ _ h => h) (Or.inl ⟨by rfl, ?_⟩) ?_ ?_
         rotate_left
         ·
          intro w'
          go_simp
          with_reducible rfl
         rotate_left
         ·
          simp only [Act.put, List.setIfInBounds_toArray, List.set_cons_zero, List.set_cons_succ, i64_w, i32_w]
          rfl
         refine pure_ (i := 6) (N := some 50) (v := ?_) (a' := ?_) #[true, true, true, true, false, true, true, false, false, false] rfl rfl (any_of HT_.out (by kernel_rfl)) (fun _ _ _ h => h) (Or.inl ⟨by rfl, ?_⟩) ?_ ?_
         rotate_left
         ·
          intro w'
          go_simp
          with_reducible rfl
         rotate_left
         ·
          simp only [Act.put, List.setIfInBounds_toArray, List.set_cons_zero, List.set_cons_succ, i64_w, i32_w]
          rfl
         refine pure_ (i := 7) (N := some 51) (v := ?_) (a' := ?_) #[true, true, true, true, false, true, true, true, false, false] rfl rfl (any_of HT_.out (by kernel_rfl)) (fun _ _ _ h => h) (Or.inl ⟨by rfl, ?_⟩) ?_ ?_
         rotate_left
         ·
          intro w'
          go_simp
          with_reducible rfl
         rotate_left
         ·
          simp only [Act.put, List.setIfInBounds_toArray, List.set_cons_zero, List.set_cons_succ, i64_w, i32_w]
          rfl
         refine one_ (i := 4) (N := some 48) #[true, true, true, true, true, true, true, true, false, false] rfl rfl (one_of HT_.out (by kernel_rfl)) (by decide) (fun K hK => ?_)
         refine goes_ Tryd.func44 (by kernel_rfl) rfl #[.int .i64 x4_4] (by rfl) rfl rfl zQx4a1_ ?_
         with_reducible refine (basculeref09_Bytes.calls x4_4 t116 _ A17.out).mono ?_
         rintro e w24 ⟨rfl, hb⟩
         refine ⟨_, rfl, ?_⟩
         have n0_ := Aside0.mk (below_step zQx4a0_ hb)
         clear HB
         have HB := n0_
         clear n0_
         (try clear hb)
         (try clear hb2)
         (try clear hk)
         (try clear hi)
         refine hK.out _ _ trivial (fun hHeld => ?_)
         clear hK K
         refine norm_ (a' := ?_) ?_ ?_
         rotate_left
         ·
          show Act.put _ (some 48) _ = _
          simp only [Act.put, List.setIfInBounds_toArray, List.set_cons_zero, List.set_cons_succ, i64_w, i32_w]
          rfl
         refine pure_ (i := 8) (N := some 52) (v := ?_) (a' := ?_) #[true, true, true, true, true, true, true, true, true, false] rfl rfl (any_of HT_.out (by kernel_rfl)) (fun _ _ _ h => h) (Or.inl ⟨by rfl, ?_⟩) ?_ ?_
         rotate_left
         ·
          intro w'
          go_simp
          with_reducible rfl
         rotate_left
         ·
          simp only [Act.put, List.setIfInBounds_toArray, List.set_cons_zero, List.set_cons_succ, i64_w, i32_w]
          rfl
         refine pure_ (i := 9) (N := some 53) (v := ?_) (a' := ?_) #[true, true, true, true, true, true, true, true, true, true] rfl rfl (any_of HT_.out (by kernel_rfl)) (fun _ _ _ h => h) (Or.inl ⟨by rfl, ?_⟩) ?_ ?_
         rotate_left
         ·
          intro w'
          go_simp
          with_reducible rfl
         rotate_left
         ·
          simp only [Act.put, List.setIfInBounds_toArray, List.set_cons_zero, List.set_cons_succ, i64_w, i32_w]
          rfl
         refine done_ (done_of HT_.out (by kernel_rfl)) ?_
         try go_wp2
         go_roundg k4
         case measure => have := HK1.out; have := HJ1.out; have := HJ6.out; have := HK4.out; omega
         case rel => exact ⟨(wrap64 (x3_1 + 1)), zQx4a2_, H', ⟨zQx4a7_⟩, ⟨zQx4a0_⟩⟩
def basculeref09_Points.l0 : Nat → ByteArray → List Int → Option (List Int × Bool)
 | 0, _, _ => none
 | k + 1, x0, x4 => if (x0.size : Int) > 0 then ((basculeref09_first.f k x0).bind fun t117 => (if t117 = 0 then (some (([] : List Int), false)) else (if x4.length < 17592186044416 then ((basculeref09_Bytes.f t117).bind fun t121 => (if 0 ≤ (t121.size : Int) then (if (t121.size : Int) ≤ (x0.size : Int) then (basculeref09_Points.l0 k (x0.extract ((t121.size : Int) : Int).toNat x0.size) (x4 ++ [t117])) else (none)) else (none))) else (none)))) else (some (x4, true))
def basculeref09_Points.f (k : Nat) (a0 : ByteArray) : Option (List Int × Bool) := if (a0.size : Int) > 65535 then (some (([] : List Int), false)) else (basculeref09_Points.l0 k a0 ([] : List Int))
set_option maxHeartbeats 8000000 in
set_option maxRecDepth 100000 in
theorem basculeref09_Points.calls (k : Nat) (a0 : ByteArray) (r1 : List Int) (r2 : Bool) (w : World) (h : basculeref09_Points.f k a0 = some (r1, r2)) :
  Calls Tryd.prog 32 #[.string a0] w fun e w' => ∃ v0_ : Value, e = .returned (.tuple #[v0_, .bool r2]) ∧ Kd.R (Kd.int .i64) 3 w' w.heap.size (fun _ => True) v0_ r1 ∧ Below w.heap.size w w' := by
 have HB := Aside0.mk (Below.refl w.heap.size w)
 have H : (if (a0.size : Int) > 65535 then (some (([] : List Int), false)) else (basculeref09_Points.l0 k a0 ([] : List Int))) = some (r1, r2) := h
 clear h
 by_cases c2 : (a0.size : Int) > 65535
 ·
  rw [if_pos c2] at H
  have c2b0 : decide (65535 < (a0.size : Int)) = true := decide_eq_true c2
  have c2b1 : decide (65535 < a0.size) = true := decide_eq_true (by omega)
  have c2b7 : (65535 < a0.size) := of_decide_eq_true c2b1
  clear c2
  simp only [Option.some.injEq, Prod.mk.injEq] at H
  obtain ⟨rfl, rfl⟩ := H
  go_enter Tryd.func32, Tryd.ntmps32
  go_wp2
  go_ret2
  exact ⟨_, zQx4a3_, zQx4a4_, zQx4a0_⟩
 rw [if_neg c2] at H
 have c2b0 : decide (65535 < (a0.size : Int)) = false := decide_eq_false c2
 have c2b1 : decide (65535 < a0.size) = false := decide_eq_false (by omega)
 clear c2
 have H' := Aside0.mk H
 clear H
 go_enter Tryd.func32, Tryd.ntmps32
 go_wp2
 go_loopg [0, 4] k (fun kq v0 v4 w' => ∃ (x0_1 : ByteArray) (x4_1 : List Int), v0 = .string x0_1 ∧ Aside0 (basculeref09_Points.l0 kq x0_1 x4_1 = some (r1, r2)) ∧ Aside0 (kq ≤ k) ∧ Aside0 (Kd.R (Kd.int .i64) 3 w' w.heap.size (fun _ => True) v4 x4_1) ∧ Aside0 (Below w.heap.size w w'))
 case atStart => exact ⟨(a0), (([] : List Int)), zQx4a2_, H', ⟨Nat.le_refl _⟩, ⟨zQx4a4_⟩, ⟨zQx4a0_⟩⟩
 case round =>
  clear H'
  try clear c2
  try clear c2b0
  try clear c2b1
  try clear p2
  obtain ⟨x0_1, x4_1, rfl, HA, HK1, HO_4, HB⟩ := hrel
  cases gk with
  | zero => exact absurd HA.out (by simp [basculeref09_Points.l0])
  | succ k1 =>
   have H := HA.out
   clear HA
   simp only [basculeref09_Points.l0] at H
   by_cases c3 : (x0_1.size : Int) > 0
   rotate_left
   ·
    rw [if_neg c3] at H
    have c3b0 : decide (0 < (x0_1.size : Int)) = false := decide_eq_false c3
    have c3b1 : decide (0 < x0_1.size) = false := decide_eq_false (by omega)
    clear c3
    simp only [Option.some.injEq, Prod.mk.injEq] at H
    obtain ⟨rfl, rfl⟩ := H
    go_wp2
    go_ret2
    exact ⟨_, zQx4a3_, zQx4a5_, zQx4a0_⟩
   rw [if_pos c3] at H
   have c3b0 : decide (0 < (x0_1.size : Int)) = true := decide_eq_true c3
   have c3b1 : decide (0 < x0_1.size) = true := decide_eq_true (by omega)
   have c3b7 : (0 < x0_1.size) := of_decide_eq_true c3b1
   clear c3
   replace H := Option.bind_eq_some_iff.mp H
   obtain ⟨t117, A40, H⟩ := H
   replace H : (if t117 = 0 then (some (([] : List Int), false)) else (if x4_1.length < 17592186044416 then ((basculeref09_Bytes.f t117).bind fun t121 => (if 0 ≤ (t121.size : Int) then (if (t121.size : Int) ≤ (x0_1.size : Int) then (basculeref09_Points.l0 k1 (x0_1.extract ((t121.size : Int) : Int).toNat x0_1.size) (x4_1 ++ [t117])) else (none)) else (none))) else (none))) = some (r1, r2) := H
   have A4 := Aside0.mk A40
   clear A40
   by_cases c5 : t117 = 0
   ·
    rw [if_pos c5] at H
    have c5b0 : (t117 == 0) = true := beq_iff_eq.mpr c5
    have c5b1 : (t117 != 0) = false := bne_eq_false_iff_eq.mpr c5
    clear c5
    simp only [Option.some.injEq, Prod.mk.injEq] at H
    obtain ⟨rfl, rfl⟩ := H
    go_wp2_with (first | ((with_reducible refine gate_callee (f := 43) rfl ?_); refine goesL_ (some 13) rfl rfl Tryd.func43 (by kernel_rfl) rfl #[.string x0_1] rfl zQx4a1_ ?_; (with_reducible refine (basculeref09_first.calls k1 x0_1 t117 _ A4.out).mono ?_); rintro e w6 ⟨rfl, hb⟩; refine ⟨_, rfl, ?_⟩; have n0_ := Aside0.mk (Kd.R_below zQx4a5_ hb); have n1_ := Aside0.mk (below_step zQx4a0_ hb); clear HO_4; clear HB; have HO_4 := n0_; have HB := n1_; clear n0_ n1_; (try clear hb); (try clear hb2); (try clear hk); (try clear hi)))
    go_ret2
    exact ⟨_, zQx4a3_, zQx4a4_, zQx4a0_⟩
   rw [if_neg c5] at H
   have c5b0 : (t117 == 0) = false := beq_eq_false_iff_ne.mpr c5
   have c5b1 : (t117 != 0) = true := bne_iff_ne.mpr c5
   have c7 : x4_1.length < 17592186044416 := znQx4_
   rw [if_pos c7] at H
   have LMc7 := Aside0.mk c7
   clear c7
   obtain ⟨y118, hy118⟩ : ∃ y_ : List Int, y_ = (x4_1 ++ [t117]) := ⟨_, rfl⟩
   replace H : ((basculeref09_Bytes.f t117).bind fun t121 => (if 0 ≤ (t121.size : Int) then (if (t121.size : Int) ≤ (x0_1.size : Int) then (basculeref09_Points.l0 k1 (x0_1.extract ((t121.size : Int) : Int).toNat x0_1.size) y118) else (none)) else (none))) = some (r1, r2) := by first | (rw [hy118]; with_reducible exact H) | (have H2_ := (Option.bind_some _ _).symm.trans H; rw [hy118]; with_reducible exact H2_) | (have H2_ := (Option.bind_some _ _).symm.trans H; with_reducible exact H2_) | with_reducible exact H | (rw [hy118]; exact H) | exact H
   have Ny118 := Aside0.mk hy118
   clear hy118
   replace H := Option.bind_eq_some_iff.mp H
   obtain ⟨t121, A80, H⟩ := H
   replace H : (if 0 ≤ (t121.size : Int) then (if (t121.size : Int) ≤ (x0_1.size : Int) then (basculeref09_Points.l0 k1 (x0_1.extract ((t121.size : Int) : Int).toNat x0_1.size) y118) else (none)) else (none)) = some (r1, r2) := H
   have A8 := Aside0.mk A80
   clear A80
   have c9 : 0 ≤ (t121.size : Int) := znQx4_
   rw [if_pos c9] at H
   have c9b0 := eq_true c9
   have c9b1 : decide (0 ≤ (t121.size : Int)) = true := decide_eq_true c9
   clear c9
   have c10 : (t121.size : Int) ≤ (x0_1.size : Int) := znQx4_
   rw [if_pos c10] at H
   have c10b0 := eq_true c10
   have c10b1 : decide ((t121.size : Int) ≤ (x0_1.size : Int)) = true := decide_eq_true c10
   clear c10
   have H' := Aside0.mk H
   clear H
   go_wp2_with (first | ((with_reducible refine gate_callee (f := 43) rfl ?_); refine goesL_ (some 13) rfl rfl Tryd.func43 (by kernel_rfl) rfl #[.string x0_1] rfl zQx4a1_ ?_; (with_reducible refine (basculeref09_first.calls k1 x0_1 t117 _ A4.out).mono ?_); rintro e w11 ⟨rfl, hb⟩; refine ⟨_, rfl, ?_⟩; have n0_ := Aside0.mk (Kd.R_below zQx4a5_ hb); have n1_ := Aside0.mk (below_step zQx4a0_ hb); clear HO_4; clear HB; have HO_4 := n0_; have HB := n1_; clear n0_ n1_; (try clear hb); (try clear hb2); (try clear hk); (try clear hi)) | ((with_reducible refine gate_builtin (b := .append) (xs := #[.tmp 16, .tmp 18]) rfl ?_); at_builtin; refine Kd.R_append (Kd.int .i64) (w0 := w) w.heap.size rfl (.tmp 16) (.tmp 18) 73 3 (.int .i64 0) 8 rfl Tryd.underlying73 info3 rfl (by decide) (by omega) u4 x4_1 t117 [.int .i64 t117] (fun _ => True) (fun _ => False) rfl rfl ?aP (fun _ hk => hk.elim) ?aF ?aO ?aB ?aS ?aL ?_; (case aP => exact rfl); (case aB => exact zQx4a0_); (case aF => exact (fun _ _ => trivial)); (case aO => exact zQx4a5_); (case aS => exact (below_size zQx4a0_)); (case aL => have := LMc7.out; omega); intro v119 w12 ho hb hg hat; rw [← Ny118.out] at ho; have n0_ := Aside0.mk (hb); have n1_ := Aside0.mk (ho); clear HB; clear HO_4; have HB := n0_; have HO120 := n1_; clear n0_ n1_; clear ho hb hg hat) | ((with_reducible refine gate_callee (f := 44) rfl ?_); refine goesL_ (some 22) rfl rfl Tryd.func44 (by kernel_rfl) rfl #[.int .i64 t117] rfl zQx4a1_ ?_; (with_reducible refine (basculeref09_Bytes.calls t117 t121 _ A8.out).mono ?_); rintro e w13 ⟨rfl, hb⟩; refine ⟨_, rfl, ?_⟩; have n0_ := Aside0.mk (Kd.R_below zQx4a8_ hb); have n1_ := Aside0.mk (below_step zQx4a0_ hb); clear HO120; clear HB; have HO120 := n0_; have HB := n1_; clear n0_ n1_; (try clear hb); (try clear hb2); (try clear hk); (try clear hi)))
   go_roundg k1
   case measure => have := HK1.out; omega
   case rel => exact ⟨(x0_1.extract ((t121.size : Int) : Int).toNat x0_1.size), (y118), zQx4a2_, H', ⟨by have := HK1.out; omega⟩, ⟨zQx4a8_⟩, ⟨zQx4a0_⟩⟩
def basculeref09_Is.f (k : Nat) (a0 : ByteArray) : Option (Bool) := (basculeref09_Points.f k a0).bind fun bt122 => (some bt122.2)
set_option maxHeartbeats 8000000 in
set_option maxRecDepth 100000 in
theorem basculeref09_Is.calls (k : Nat) (a0 : ByteArray) (r : Bool) (w : World) (h : basculeref09_Is.f k a0 = some r) :
  Calls Tryd.prog 20 #[.string a0] w fun e w' => e = .returned (.bool r) ∧ Below w.heap.size w w' := by
 have HB := Aside0.mk (Below.refl w.heap.size w)
 have H : ((basculeref09_Points.f k a0).bind fun bt122 => (some bt122.2)) = some r := h
 clear h
 replace H := Option.bind_eq_some_iff.mp H
 obtain ⟨⟨t122, t123⟩, A20, H⟩ := H
 replace H : (some t123) = some r := H
 have A2 := Aside0.mk A20
 clear A20
 obtain rfl := Option.some.inj H
 go_enter Tryd.func20, Tryd.ntmps20
 go_wp2_with (first | ((with_reducible refine gate_callee (f := 32) rfl ?_); refine goesL_ (some 7) rfl rfl Tryd.func32 (by kernel_rfl) rfl #[.string a0] rfl zQx4a1_ ?_; (with_reducible refine (basculeref09_Points.calls k a0 t122 t123 _ A2.out).mono ?_); rintro e w3 ⟨v124, rfl, ho0, hb⟩; refine ⟨_, rfl, ?_⟩; have n0_ := Aside0.mk (Kd.R_lower ho0 (below_size zQx4a0_)); have n1_ := Aside0.mk (below_step zQx4a0_ hb); clear HB; have HO125 := n0_; have HB := n1_; clear n0_ n1_; (try clear hb); (try clear hb2); (try clear hk); (try clear hi); (try clear ho0)))
 go_ret
 exact ⟨zQx4a3_, zQx4a0_⟩
end Go.Proofs.YtjibcekillcgjaaDoor.Q
