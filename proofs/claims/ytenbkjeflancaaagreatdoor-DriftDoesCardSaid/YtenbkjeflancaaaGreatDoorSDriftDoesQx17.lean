/- What the proof of DriftDoes leans on: Qx17. -/
import Derived.Test.YtenbkjeflancaaaGreatDoorSDriftDoesValF
namespace Go.Proofs.YtenbkjeflancaaaGreatDoor.Q
open Go.RowKit Go.Proofs.YtenbkjeflancaaaGreatDoorW.PrintWords Go.Proofs.YtenbkjeflancaaaGreatDoorW.PrintLast Go.Proofs.YtenbkjeflancaaaGreatDoorW.PrintMore
attribute [local go_sem] max2_int min2_int max_two min_two
set_option linter.unusedVariables false
set_option linter.unusedSimpArgs false
theorem zQx17a0_ {P_ : Prop} (h_ : P_ := by repeat (first | (with_reducible first | exact HB.out | apply below_alloc | apply pw_below_drewN | apply below_drew1) | exact HB.out)) : P_ := h_
theorem zQx17a1_ {P_ : Prop} (h_ : P_ := by (with_reducible repeat (first | apply Kd.R_alloc | apply Kd.R_drewN | apply Kd.R_drew)); exact HO_5.out) : P_ := h_
theorem zQx17a2_ {P_ : Prop} (h_ : P_ := by first | rfl | (simp; done) | (simp [*]; done)) : P_ := h_
theorem zQx17a3_ {P_ : Prop} (h_ : P_ := by first | (with_reducible assumption) | assumption) : P_ := h_
theorem zQx17a4_ {P_ : Prop} (h_ : P_ := by have := HK1.out; have := HJ2.out; omega) : P_ := h_
theorem zQx17a5_ {P_ : Prop} (h_ : P_ := by have := HK1.out; first | omega | exact Nat.le_refl _) : P_ := h_
theorem znQx17_ {X_ : Prop} [Decidable X_] (h_ : ¬ X_ → False := by intro c_; rw [if_neg c_] at H; exact absurd H (by simp)) : X_ := Decidable.byContradiction h_
mutual
def basculeref22_plus.l0 : Nat → List Int → List Int → List Int → Int → Int → Option (List Int)
 | 0, _, _, _, _, _ => none
 | k + 1, x0, x1, x5, x6, x7 => if x7 < (x0.length : Int) then (basculeref22_plus.j1 k x0 x1 x5 x6 x7 true) else (if x7 < (x1.length : Int) then (basculeref22_plus.j1 k x0 x1 x5 x6 x7 true) else (basculeref22_plus.j1 k x0 x1 x5 x6 x7 (decide (x6 > 0))))
def basculeref22_plus.j1 : Nat → List Int → List Int → List Int → Int → Int → Bool → Option (List Int)
 | 0, _, _, _, _, _, _ => none
 | k + 1, x0, x1, x5, x6, x7, x21 => if x21 = true then (if x7 < (x0.length : Int) then (if 0 ≤ x7 then (if x7 < (x1.length : Int) then (if x5.length < 17592186044416 then (basculeref22_plus.l0 k x0 x1 (x5 ++ [Int.tmod (wrap64 ((wrap64 (x6 + (rd x0 x7))) + (rd x1 x7))) 10]) (wrap64 (Int.tdiv (wrap64 ((wrap64 (x6 + (rd x0 x7))) + (rd x1 x7))) 10)) (wrap64 (x7 + 1))) else (none)) else (if x5.length < 17592186044416 then (basculeref22_plus.l0 k x0 x1 (x5 ++ [Int.tmod (wrap64 (x6 + (rd x0 x7))) 10]) (wrap64 (Int.tdiv (wrap64 (x6 + (rd x0 x7))) 10)) (wrap64 (x7 + 1))) else (none))) else (none)) else (if x7 < (x1.length : Int) then (if 0 ≤ x7 then (if x5.length < 17592186044416 then (basculeref22_plus.l0 k x0 x1 (x5 ++ [Int.tmod (wrap64 (x6 + (rd x1 x7))) 10]) (wrap64 (Int.tdiv (wrap64 (x6 + (rd x1 x7))) 10)) (wrap64 (x7 + 1))) else (none)) else (none)) else (if x5.length < 17592186044416 then (basculeref22_plus.l0 k x0 x1 (x5 ++ [Int.tmod x6 10]) (wrap64 (Int.tdiv x6 10)) (wrap64 (x7 + 1))) else (none)))) else (some x5)
end
def basculeref22_plus.f (k : Nat) (l0 : List Int) (l1 : List Int) : Option (List Int) := basculeref22_plus.l0 k l0 l1 ([] : List Int) 0 0
set_option maxHeartbeats 8000000 in
set_option maxRecDepth 100000 in
theorem basculeref22_plus.calls (k : Nat) (A0 : Option Addr) (c0 : Nat) (l0 : List Int) (A1 : Option Addr) (c1 : Nat) (l1 : List Int) (r : List Int) (w : World) (hr0 : Kd.C (Kd.int .i64) w A0 l0.length l0) (hc0 : l0.length ≤ c0) (hr1 : Kd.C (Kd.int .i64) w A1 l1.length l1) (hc1 : l1.length ≤ c1) (h : basculeref22_plus.f k l0 l1 = some r) :
  Calls Tryz.prog 38 #[.slice A0 l0.length c0, .slice A1 l1.length c1] w fun e w' => ∃ v0_ : Value, e = .returned (v0_) ∧ Kd.R (Kd.int .i64) 3 w' w.heap.size (fun _ => True) v0_ r ∧ Below w.heap.size w w' := by
 have HR0 := Aside0.mk hr0
 have HC0 := Aside0.mk hc0
 clear hr0 hc0
 have HR1 := Aside0.mk hr1
 have HC1 := Aside0.mk hc1
 clear hr1 hc1
 have HB := Aside0.mk (Below.refl w.heap.size w)
 have H : (basculeref22_plus.l0 k l0 l1 ([] : List Int) 0 0) = some r := h
 clear h
 have H' := Aside0.mk H
 clear H
 go_enter Tryz.func38, Tryz.ntmps38
 go_wp2
 go_loopg [5, 6, 7] k (fun kq v5 v6 v7 w' => ∃ (x5_1 : List Int) (x6_1 : Int) (x7_1 : Int), v6 = .int .i64 x6_1 ∧ v7 = .int .i64 x7_1 ∧ Aside0 (basculeref22_plus.l0 kq l0 l1 x5_1 x6_1 x7_1 = some r) ∧ Aside0 (kq ≤ k) ∧ Aside0 (Kd.R (Kd.int .i64) 3 w' w.heap.size (fun _ => True) v5 x5_1) ∧ Aside0 (Below w.heap.size w w'))
 case atStart => exact ⟨(([] : List Int)), (0), (0), zQx17a2_, zQx17a2_, H', ⟨Nat.le_refl _⟩, ⟨by first | exact Kd.R_nil _ _ _ _ _ | exact Kd.N_nil _ _ _ _ _ | exact Kd.V_nil _ _ _ _ _ | exact Kd.Q_nil _ _ _ _ _ | exact Kd.S_nil _ _ _ _ _⟩, ⟨zQx17a0_⟩⟩
 case round =>
  clear H'
  try clear c1
  try clear p2
  obtain ⟨x5_1, x6_1, x7_1, rfl, rfl, HA, HK1, HO_5, HB⟩ := hrel
  cases gk with
  | zero => exact absurd HA.out (by simp [basculeref22_plus.l0])
  | succ k1 =>
   have H := HA.out
   clear HA
   simp only [basculeref22_plus.l0] at H
   have HC3 := Aside0.mk H
   clear H
   go_upto_region 4 with (fail)
   go_cut [21] (fun v21 wc => ∃ (kq : Nat) (x21_2 : Bool), v21 = .bool x21_2 ∧ Aside0 (basculeref22_plus.j1 kq l0 l1 x5_1 x6_1 x7_1 x21_2 = some r) ∧ Aside0 (kq ≤ k1) ∧ Aside0 (Kd.R (Kd.int .i64) 3 wc w.heap.size (fun _ => True) u5 x5_1) ∧ Aside0 (Below w.heap.size w wc))
   case first =>
    have H := HC3.out
    clear HC3
    by_cases c4 : x7_1 < (l0.length : Int)
    ·
     rw [if_pos c4] at H
     have c4b0 : decide (x7_1 < (l0.length : Int)) = true := decide_eq_true c4
     clear c4
     (first | rw [c4b0] | (simp only [i64_w, i32_w]; rw [c4b0]) | skip)
     have H' := Aside0.mk H
     clear H
     go_wp2
     go_meet
     case rel => exact ⟨_, (true), zQx17a2_, H', ⟨zQx17a5_⟩, ⟨zQx17a1_⟩, ⟨zQx17a0_⟩⟩
    rw [if_neg c4] at H
    have c4b0 : decide (x7_1 < (l0.length : Int)) = false := decide_eq_false c4
    clear c4
    (first | rw [c4b0] | (simp only [i64_w, i32_w]; rw [c4b0]) | skip)
    by_cases c5 : x7_1 < (l1.length : Int)
    ·
     rw [if_pos c5] at H
     have c5b0 : decide (x7_1 < (l1.length : Int)) = true := decide_eq_true c5
     clear c5
     have H' := Aside0.mk H
     clear H
     go_wp2
     go_meet
     case rel => exact ⟨_, (true), zQx17a2_, H', ⟨zQx17a5_⟩, ⟨zQx17a1_⟩, ⟨zQx17a0_⟩⟩
    rw [if_neg c5] at H
    have c5b0 : decide (x7_1 < (l1.length : Int)) = false := decide_eq_false c5
    clear c5
    have H' := Aside0.mk H
    clear H
    go_wp2
    go_meet
    case rel => exact ⟨_, (decide (x6_1 > 0)), zQx17a2_, H', ⟨zQx17a5_⟩, ⟨zQx17a1_⟩, ⟨zQx17a0_⟩⟩
   case rest =>
    clear HC3
    try clear c1
    try clear p2
    try clear c3
    try clear c4
    try clear c4b0
    try clear c5
    try clear c5b0
    try clear p2
    obtain ⟨kq, x21_2, rfl, HA, HJ2, HO_5, HB⟩ := hcut
    cases kq with
    | zero => exact absurd HA.out (by simp [basculeref22_plus.j1])
    | succ kj2 =>
     have H := HA.out
     clear HA
     simp only [basculeref22_plus.j1] at H
     by_cases c6 : x21_2 = true
     rotate_left
     ·
      replace c6 := Bool.eq_false_iff.mpr c6
      subst c6
      have H1 : (some x5_1) = some r := by rw [if_neg (show ¬ (false = true) by decide)] at H; exact H
      clear H
      have H := H1
      clear H1
      obtain rfl := Option.some.inj H
      go_wp2
      go_ret
      exact ⟨_, by first | rfl | (simp [errW_none, errW_some] <;> rfl) | (simp [*, errW_none, errW_some] <;> rfl), zQx17a1_, zQx17a0_⟩
     subst c6
     have H1 : (if x7_1 < (l0.length : Int) then (if 0 ≤ x7_1 then (if x7_1 < (l1.length : Int) then (if x5_1.length < 17592186044416 then (basculeref22_plus.l0 kj2 l0 l1 (x5_1 ++ [Int.tmod (wrap64 ((wrap64 (x6_1 + (rd l0 x7_1))) + (rd l1 x7_1))) 10]) (wrap64 (Int.tdiv (wrap64 ((wrap64 (x6_1 + (rd l0 x7_1))) + (rd l1 x7_1))) 10)) (wrap64 (x7_1 + 1))) else (none)) else (if x5_1.length < 17592186044416 then (basculeref22_plus.l0 kj2 l0 l1 (x5_1 ++ [Int.tmod (wrap64 (x6_1 + (rd l0 x7_1))) 10]) (wrap64 (Int.tdiv (wrap64 (x6_1 + (rd l0 x7_1))) 10)) (wrap64 (x7_1 + 1))) else (none))) else (none)) else (if x7_1 < (l1.length : Int) then (if 0 ≤ x7_1 then (if x5_1.length < 17592186044416 then (basculeref22_plus.l0 kj2 l0 l1 (x5_1 ++ [Int.tmod (wrap64 (x6_1 + (rd l1 x7_1))) 10]) (wrap64 (Int.tdiv (wrap64 (x6_1 + (rd l1 x7_1))) 10)) (wrap64 (x7_1 + 1))) else (none)) else (none)) else (if x5_1.length < 17592186044416 then (basculeref22_plus.l0 kj2 l0 l1 (x5_1 ++ [Int.tmod x6_1 10]) (wrap64 (Int.tdiv x6_1 10)) (wrap64 (x7_1 + 1))) else (none)))) = some r := by rw [if_pos rfl] at H; exact H
     clear H
     have H := H1
     clear H1
     by_cases c7 : x7_1 < (l0.length : Int)
     rotate_left
     ·
      rw [if_neg c7] at H
      have c7b0 : decide (x7_1 < (l0.length : Int)) = false := decide_eq_false c7
      clear c7
      by_cases c14 : x7_1 < (l1.length : Int)
      rotate_left
      ·
       rw [if_neg c14] at H
       have c14b0 : decide (x7_1 < (l1.length : Int)) = false := decide_eq_false c14
       clear c14
       have c18 : x5_1.length < 17592186044416 := znQx17_
       rw [if_pos c18] at H
       have LMc18 := Aside0.mk c18
       clear c18
       obtain ⟨y223, hy223⟩ : ∃ y_ : List Int, y_ = (x5_1 ++ [Int.tmod x6_1 10]) := ⟨_, rfl⟩
       replace H : (basculeref22_plus.l0 kj2 l0 l1 y223 (wrap64 (Int.tdiv x6_1 10)) (wrap64 (x7_1 + 1))) = some r := by first | (rw [hy223]; with_reducible exact H) | (have H2_ := (Option.bind_some _ _).symm.trans H; rw [hy223]; with_reducible exact H2_) | (have H2_ := (Option.bind_some _ _).symm.trans H; with_reducible exact H2_) | with_reducible exact H | (rw [hy223]; exact H) | exact H
       have Ny223 := Aside0.mk hy223
       clear hy223
       have H' := Aside0.mk H
       clear H
       go_wp2_with (first | ((with_reducible refine gate_builtin (b := .append) (xs := #[.tmp 44, .tmp 47]) rfl ?_); (try (refine gate_guard (by rfl) ?_; dsimp only)); at_builtin; refine Kd.R_append (Kd.int .i64) (w0 := w) w.heap.size rfl (.tmp 44) (.tmp 47) 33 3 (.int .i64 0) 8 rfl Tryz.underlying33 info3 rfl (by decide) (by omega) u5 x5_1 (Int.tmod x6_1 10) [.int .i64 (Int.tmod x6_1 10)] (fun _ => True) (fun _ => False) rfl rfl ?aP (fun _ hk => hk.elim) ?aF ?aO ?aB ?aS ?aL ?_; (case aP => exact rfl); (case aB => exact zQx17a0_); (case aF => exact (fun _ _ => trivial)); (case aO => exact zQx17a1_); (case aS => exact (below_size zQx17a0_)); (case aL => have := LMc18.out; omega); intro v224 w19 ho hb hg hat; rw [← Ny223.out] at ho; have n0_ := Aside0.mk (hb); have n1_ := Aside0.mk (ho); clear HB; clear HO_5; have HB := n0_; have HO225 := n1_; clear n0_ n1_; clear ho hb hg hat))
       go_roundg kj2
       case measure => have := HK1.out; have := HJ2.out; omega
       case rel => exact ⟨(y223), (wrap64 (Int.tdiv x6_1 10)), (wrap64 (x7_1 + 1)), zQx17a2_, zQx17a2_, H', ⟨zQx17a4_⟩, ⟨by (with_reducible repeat (first | apply Kd.R_alloc | apply Kd.R_drewN | apply Kd.R_drew)); exact HO225.out⟩, ⟨zQx17a0_⟩⟩
      rw [if_pos c14] at H
      have c14b0 : decide (x7_1 < (l1.length : Int)) = true := decide_eq_true c14
      clear c14
      have c15 : 0 ≤ x7_1 := znQx17_
      rw [if_pos c15] at H
      have c15b0 : decide (0 ≤ x7_1) = true := decide_eq_true c15
      clear c15
      have c16 : x5_1.length < 17592186044416 := znQx17_
      rw [if_pos c16] at H
      have LMc16 := Aside0.mk c16
      clear c16
      obtain ⟨y220, hy220⟩ : ∃ y_ : List Int, y_ = (x5_1 ++ [Int.tmod (wrap64 (x6_1 + (rd l1 x7_1))) 10]) := ⟨_, rfl⟩
      replace H : (basculeref22_plus.l0 kj2 l0 l1 y220 (wrap64 (Int.tdiv (wrap64 (x6_1 + (rd l1 x7_1))) 10)) (wrap64 (x7_1 + 1))) = some r := by first | (rw [hy220]; with_reducible exact H) | (have H2_ := (Option.bind_some _ _).symm.trans H; rw [hy220]; with_reducible exact H2_) | (have H2_ := (Option.bind_some _ _).symm.trans H; with_reducible exact H2_) | with_reducible exact H | (rw [hy220]; exact H) | exact H
      have Ny220 := Aside0.mk hy220
      clear hy220
      have H' := Aside0.mk H
      clear H
      have p219 : 0 ≤ (x7_1 : Int) := of_decide_eq_true zQx17a3_
      have q219 : x7_1 < (l1.length : Int) := of_decide_eq_true zQx17a3_
      obtain ⟨ad219, e219, hx219_0⟩ := Kd.at_int HR1.out x7_1 p219 q219
      cases e219
      replace hx219_0 := (HB.out.cell (World.block_lt_of_cell? w _ hx219_0)).trans hx219_0
      replace p219 := eq_true p219
      replace q219 := eq_true q219
      go_wp2_with (first | ((with_reducible refine gate_builtin (b := .append) (xs := #[.tmp 44, .tmp 47]) rfl ?_); (try (refine gate_guard (by rfl) ?_; dsimp only)); at_builtin; refine Kd.R_append (Kd.int .i64) (w0 := w) w.heap.size rfl (.tmp 44) (.tmp 47) 33 3 (.int .i64 0) 8 rfl Tryz.underlying33 info3 rfl (by decide) (by omega) u5 x5_1 (Int.tmod (wrap64 (x6_1 + (rd l1 x7_1))) 10) [.int .i64 (Int.tmod (wrap64 (x6_1 + (rd l1 x7_1))) 10)] (fun _ => True) (fun _ => False) rfl rfl ?aP (fun _ hk => hk.elim) ?aF ?aO ?aB ?aS ?aL ?_; (case aP => exact rfl); (case aB => exact zQx17a0_); (case aF => exact (fun _ _ => trivial)); (case aO => exact zQx17a1_); (case aS => exact (below_size zQx17a0_)); (case aL => have := LMc16.out; omega); intro v221 w17 ho hb hg hat; rw [← Ny220.out] at ho; have n0_ := Aside0.mk (hb); have n1_ := Aside0.mk (ho); clear HB; clear HO_5; have HB := n0_; have HO222 := n1_; clear n0_ n1_; clear ho hb hg hat))
      go_roundg kj2
      case measure => have := HK1.out; have := HJ2.out; omega
      case rel => exact ⟨(y220), (wrap64 (Int.tdiv (wrap64 (x6_1 + (rd l1 x7_1))) 10)), (wrap64 (x7_1 + 1)), zQx17a2_, zQx17a2_, H', ⟨zQx17a4_⟩, ⟨by (with_reducible repeat (first | apply Kd.R_alloc | apply Kd.R_drewN | apply Kd.R_drew)); exact HO222.out⟩, ⟨zQx17a0_⟩⟩
     rw [if_pos c7] at H
     have c7b0 : decide (x7_1 < (l0.length : Int)) = true := decide_eq_true c7
     clear c7
     have c8 : 0 ≤ x7_1 := znQx17_
     rw [if_pos c8] at H
     have c8b0 : decide (0 ≤ x7_1) = true := decide_eq_true c8
     clear c8
     by_cases c9 : x7_1 < (l1.length : Int)
     rotate_left
     ·
      rw [if_neg c9] at H
      have c9b0 : decide (x7_1 < (l1.length : Int)) = false := decide_eq_false c9
      clear c9
      have c12 : x5_1.length < 17592186044416 := znQx17_
      rw [if_pos c12] at H
      have LMc12 := Aside0.mk c12
      clear c12
      obtain ⟨y216, hy216⟩ : ∃ y_ : List Int, y_ = (x5_1 ++ [Int.tmod (wrap64 (x6_1 + (rd l0 x7_1))) 10]) := ⟨_, rfl⟩
      replace H : (basculeref22_plus.l0 kj2 l0 l1 y216 (wrap64 (Int.tdiv (wrap64 (x6_1 + (rd l0 x7_1))) 10)) (wrap64 (x7_1 + 1))) = some r := by first | (rw [hy216]; with_reducible exact H) | (have H2_ := (Option.bind_some _ _).symm.trans H; rw [hy216]; with_reducible exact H2_) | (have H2_ := (Option.bind_some _ _).symm.trans H; with_reducible exact H2_) | with_reducible exact H | (rw [hy216]; exact H) | exact H
      have Ny216 := Aside0.mk hy216
      clear hy216
      have H' := Aside0.mk H
      clear H
      have p211 : 0 ≤ (x7_1 : Int) := of_decide_eq_true zQx17a3_
      have q211 : x7_1 < (l0.length : Int) := of_decide_eq_true zQx17a3_
      obtain ⟨ad211, e211, hx211_0⟩ := Kd.at_int HR0.out x7_1 p211 q211
      cases e211
      replace hx211_0 := (HB.out.cell (World.block_lt_of_cell? w _ hx211_0)).trans hx211_0
      replace p211 := eq_true p211
      replace q211 := eq_true q211
      go_wp2_with (first | ((with_reducible refine gate_builtin (b := .append) (xs := #[.tmp 44, .tmp 47]) rfl ?_); (try (refine gate_guard (by rfl) ?_; dsimp only)); at_builtin; refine Kd.R_append (Kd.int .i64) (w0 := w) w.heap.size rfl (.tmp 44) (.tmp 47) 33 3 (.int .i64 0) 8 rfl Tryz.underlying33 info3 rfl (by decide) (by omega) u5 x5_1 (Int.tmod (wrap64 (x6_1 + (rd l0 x7_1))) 10) [.int .i64 (Int.tmod (wrap64 (x6_1 + (rd l0 x7_1))) 10)] (fun _ => True) (fun _ => False) rfl rfl ?aP (fun _ hk => hk.elim) ?aF ?aO ?aB ?aS ?aL ?_; (case aP => exact rfl); (case aB => exact zQx17a0_); (case aF => exact (fun _ _ => trivial)); (case aO => exact zQx17a1_); (case aS => exact (below_size zQx17a0_)); (case aL => have := LMc12.out; omega); intro v217 w13 ho hb hg hat; rw [← Ny216.out] at ho; have n0_ := Aside0.mk (hb); have n1_ := Aside0.mk (ho); clear HB; clear HO_5; have HB := n0_; have HO218 := n1_; clear n0_ n1_; clear ho hb hg hat))
      go_roundg kj2
      case measure => have := HK1.out; have := HJ2.out; omega
      case rel => exact ⟨(y216), (wrap64 (Int.tdiv (wrap64 (x6_1 + (rd l0 x7_1))) 10)), (wrap64 (x7_1 + 1)), zQx17a2_, zQx17a2_, H', ⟨zQx17a4_⟩, ⟨by (with_reducible repeat (first | apply Kd.R_alloc | apply Kd.R_drewN | apply Kd.R_drew)); exact HO218.out⟩, ⟨zQx17a0_⟩⟩
     rw [if_pos c9] at H
     have c9b0 : decide (x7_1 < (l1.length : Int)) = true := decide_eq_true c9
     clear c9
     have c10 : x5_1.length < 17592186044416 := znQx17_
     rw [if_pos c10] at H
     have LMc10 := Aside0.mk c10
     clear c10
     obtain ⟨y213, hy213⟩ : ∃ y_ : List Int, y_ = (x5_1 ++ [Int.tmod (wrap64 ((wrap64 (x6_1 + (rd l0 x7_1))) + (rd l1 x7_1))) 10]) := ⟨_, rfl⟩
     replace H : (basculeref22_plus.l0 kj2 l0 l1 y213 (wrap64 (Int.tdiv (wrap64 ((wrap64 (x6_1 + (rd l0 x7_1))) + (rd l1 x7_1))) 10)) (wrap64 (x7_1 + 1))) = some r := by first | (rw [hy213]; with_reducible exact H) | (have H2_ := (Option.bind_some _ _).symm.trans H; rw [hy213]; with_reducible exact H2_) | (have H2_ := (Option.bind_some _ _).symm.trans H; with_reducible exact H2_) | with_reducible exact H | (rw [hy213]; exact H) | exact H
     have Ny213 := Aside0.mk hy213
     clear hy213
     have H' := Aside0.mk H
     clear H
     have p211 : 0 ≤ (x7_1 : Int) := of_decide_eq_true zQx17a3_
     have q211 : x7_1 < (l0.length : Int) := of_decide_eq_true zQx17a3_
     obtain ⟨ad211, e211, hx211_0⟩ := Kd.at_int HR0.out x7_1 p211 q211
     cases e211
     replace hx211_0 := (HB.out.cell (World.block_lt_of_cell? w _ hx211_0)).trans hx211_0
     replace p211 := eq_true p211
     replace q211 := eq_true q211
     have p212 : 0 ≤ (x7_1 : Int) := of_decide_eq_true zQx17a3_
     have q212 : x7_1 < (l1.length : Int) := of_decide_eq_true zQx17a3_
     obtain ⟨ad212, e212, hx212_0⟩ := Kd.at_int HR1.out x7_1 p212 q212
     cases e212
     replace hx212_0 := (HB.out.cell (World.block_lt_of_cell? w _ hx212_0)).trans hx212_0
     replace p212 := eq_true p212
     replace q212 := eq_true q212
     go_wp2_with (first | ((with_reducible refine gate_builtin (b := .append) (xs := #[.tmp 44, .tmp 47]) rfl ?_); (try (refine gate_guard (by rfl) ?_; dsimp only)); at_builtin; refine Kd.R_append (Kd.int .i64) (w0 := w) w.heap.size rfl (.tmp 44) (.tmp 47) 33 3 (.int .i64 0) 8 rfl Tryz.underlying33 info3 rfl (by decide) (by omega) u5 x5_1 (Int.tmod (wrap64 ((wrap64 (x6_1 + (rd l0 x7_1))) + (rd l1 x7_1))) 10) [.int .i64 (Int.tmod (wrap64 ((wrap64 (x6_1 + (rd l0 x7_1))) + (rd l1 x7_1))) 10)] (fun _ => True) (fun _ => False) rfl rfl ?aP (fun _ hk => hk.elim) ?aF ?aO ?aB ?aS ?aL ?_; (case aP => exact rfl); (case aB => exact zQx17a0_); (case aF => exact (fun _ _ => trivial)); (case aO => exact zQx17a1_); (case aS => exact (below_size zQx17a0_)); (case aL => have := LMc10.out; omega); intro v214 w11 ho hb hg hat; rw [← Ny213.out] at ho; have n0_ := Aside0.mk (hb); have n1_ := Aside0.mk (ho); clear HB; clear HO_5; have HB := n0_; have HO215 := n1_; clear n0_ n1_; clear ho hb hg hat))
     go_roundg kj2
     case measure => have := HK1.out; have := HJ2.out; omega
     case rel => exact ⟨(y213), (wrap64 (Int.tdiv (wrap64 ((wrap64 (x6_1 + (rd l0 x7_1))) + (rd l1 x7_1))) 10)), (wrap64 (x7_1 + 1)), zQx17a2_, zQx17a2_, H', ⟨zQx17a4_⟩, ⟨by (with_reducible repeat (first | apply Kd.R_alloc | apply Kd.R_drewN | apply Kd.R_drew)); exact HO215.out⟩, ⟨zQx17a0_⟩⟩
end Go.Proofs.YtenbkjeflancaaaGreatDoor.Q
