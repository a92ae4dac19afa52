/- Qx21 -/
import Derived.Test.YtmkekhjbbapngaaGreatDoorSValueReadsPDig
set_option maxRecDepth 100000
set_option maxHeartbeats 8000000
namespace Go.Proofs.YtmkekhjbbapngaaGreatDoor.Q
open Go.RowKit YtmkekhjbbapngaaGreatDoorW.PrintWords YtmkekhjbbapngaaGreatDoorW.PrintLast YtmkekhjbbapngaaGreatDoorW.PrintMore
attribute [local go_sem] max2_int min2_int max_two min_two
set_option linter.all false
theorem zQx21a0_ {P_ : Prop} (h_ : P_ := by repeat (first | (with_reducible first | exact HB.out | apply below_alloc | apply pw_below_drewN | apply below_drew1) | exact HB.out)) : P_ := h_
theorem zQx21a1_ {P_ : Prop} (h_ : P_ := by repeat (first | (with_reducible first | exact HB.out | apply below_alloc | apply pw_below_drewN | apply below_drew1 | refine below_set ?_ GE320.out) | exact HB.out)) : P_ := h_
theorem zQx21a2_ {P_ : Prop} (h_ : P_ := by (with_reducible repeat (first | apply Kd.R_alloc | apply Kd.R_drewN | apply Kd.R_drew)); exact HO_7.out) : P_ := h_
theorem zQx21a3_ {P_ : Prop} (h_ : P_ := by (with_reducible repeat (first | refine blk_drewN ?_ _ | refine blk_drew ?_ | refine blk_alloc ?_ _)); exact BK320.out) : P_ := h_
theorem zQx21a4_ {P_ : Prop} (h_ : P_ := by first | rfl | (simp; done) | (simp [*]; done)) : P_ := h_
theorem zQx21a5_ {P_ : Prop} (h_ : P_ := by first | rfl | (simp [errW_none, errW_some] <;> rfl) | (simp [*, errW_none, errW_some] <;> rfl)) : P_ := h_
theorem zQx21a6_ {P_ : Prop} (h_ : P_ := by first | (with_reducible assumption) | assumption) : P_ := h_
theorem zQx21a7_ {P_ : Prop} (h_ : P_ := by (try simp only [List.map_toArray, List.map_cons, List.map_nil]); first | done | rfl | (simp only [List.length_drop, List.length_take]; rfl)) : P_ := h_
theorem zQx21a8_ {P_ : Prop} (h_ : P_ := by have := HK1.out; have := HK2.out; omega) : P_ := h_
theorem znQx21_ {X_ : Prop} [Decidable X_] (h_ : ¬ X_ → False := by intro c_; rw [if_neg c_] at H; exact absurd H (by simp)) : X_ := Decidable.byContradiction h_
mutual
def basculeref22_point.l0 : Nat → Bool → Int → List Int → Option (ByteArray)
 | 0, _, _, _ => none
 | k + 1, x1, x2, x7 => if (x7.length : Int) < (wrap64 (x2 + 1)) then (if x7.length < 17592186044416 then (basculeref22_point.l0 k x1 x2 (x7 ++ [0])) else (none)) else (basculeref22_point.l1 k x1 x2 x7 (⟨#[]⟩ : ByteArray) 0)
def basculeref22_point.l1 : Nat → Bool → Int → List Int → ByteArray → Int → Option (ByteArray)
 | 0, _, _, _, _, _ => none
 | k + 1, x1, x2, x7, x8, x9 => if x9 < (x7.length : Int) then (if x9 = x2 then (if x2 > 0 then (if 1 + x8.size ≤ 9223372036854775807 then (if 0 ≤ x9 then ((some (([(wrap64 (48 + (rd x7 x9))) % 256] : List Int) : List Int)).bind fun y309 => (if (strOfNums y309).size + ((⟨#[46]⟩ : ByteArray) ++ x8).size ≤ 9223372036854775807 then (basculeref22_point.l1 k x1 x2 x7 ((strOfNums y309) ++ ((⟨#[46]⟩ : ByteArray) ++ x8)) (wrap64 (x9 + 1))) else (none))) else (none)) else (none)) else (if 0 ≤ x9 then ((some (([(wrap64 (48 + (rd x7 x9))) % 256] : List Int) : List Int)).bind fun y313 => (if (strOfNums y313).size + x8.size ≤ 9223372036854775807 then (basculeref22_point.l1 k x1 x2 x7 ((strOfNums y313) ++ x8) (wrap64 (x9 + 1))) else (none))) else (none))) else (if 0 ≤ x9 then ((some (([(wrap64 (48 + (rd x7 x9))) % 256] : List Int) : List Int)).bind fun y317 => (if (strOfNums y317).size + x8.size ≤ 9223372036854775807 then (basculeref22_point.l1 k x1 x2 x7 ((strOfNums y317) ++ x8) (wrap64 (x9 + 1))) else (none))) else (none))) else (if x1 = true then (if 1 + x8.size ≤ 9223372036854775807 then (some ((⟨#[45]⟩ : ByteArray) ++ x8)) else (none)) else (some x8))
end
def basculeref22_point.f (k : Nat) (l0 : List Int) (a1 : Bool) (a2 : Int) : Option (ByteArray) := if ([] : List Int).length + l0.length < 17592186044416 then (basculeref22_point.l0 k a1 a2 (([] : List Int) ++ l0)) else (none)
theorem basculeref22_point.mono_l : ∀ k, (∀ y0 y1 y2, LeO (basculeref22_point.l0 k y0 y1 y2) (basculeref22_point.l0 (k + 1) y0 y1 y2)) ∧ (∀ y0 y1 y2 y3 y4, LeO (basculeref22_point.l1 k y0 y1 y2 y3 y4) (basculeref22_point.l1 (k + 1) y0 y1 y2 y3 y4))
 | 0 => ⟨fun _ _ _ r h => by simp [basculeref22_point.l0] at h, fun _ _ _ _ _ r h => by simp [basculeref22_point.l1] at h⟩
 | k + 1 => by
  obtain ⟨ih0, ih1⟩ := basculeref22_point.mono_l k
  refine ⟨?_, ?_⟩
  ·
   intro y0 y1 y2
   unfold basculeref22_point.l0
   repeat' first
   | (with_reducible first | exact ih0 _ _ _ | exact ih1 _ _ _ _ _ | exact LeO.refl _ | exact LeO.none _ | refine LeO.ite ?_ ?_ | refine LeO.bind ?_ (fun _ => ?_))
  ·
   intro y0 y1 y2 y3 y4
   unfold basculeref22_point.l1
   repeat' first
   | (with_reducible first | exact ih0 _ _ _ | exact ih1 _ _ _ _ _ | exact LeO.refl _ | exact LeO.none _ | refine LeO.ite ?_ ?_ | refine LeO.bind ?_ (fun _ => ?_))
theorem basculeref22_point.mono : ∀ a0 a1 a2 k, LeO (basculeref22_point.f k a0 a1 a2) (basculeref22_point.f (k + 1) a0 a1 a2) := by
 intro a0 a1 a2 k
 obtain ⟨ih0, ih1⟩ := basculeref22_point.mono_l k
 unfold basculeref22_point.f
 repeat' first
   | (with_reducible first | exact ih0 _ _ _ | exact ih1 _ _ _ _ _ | exact LeO.refl _ | exact LeO.none _ | refine LeO.ite ?_ ?_ | refine LeO.bind ?_ (fun _ => ?_))
theorem basculeref22_point.calls (k : Nat) (A0 : Option Addr) (c0 : Nat) (l0 : List Int) (a1 : Bool) (a2 : Int) (r : ByteArray) (w : World) (hr0 : Kd.C (Kd.int .i64) w A0 l0.length l0) (hc0 : l0.length ≤ c0) (h : basculeref22_point.f k l0 a1 a2 = some r) :
  Calls Tryz.prog 35 #[.slice A0 l0.length c0, .bool a1, .int .i64 a2] w fun e w' => e = .returned (.string r) ∧ Below w.heap.size w w' := by
 have HR0 := Aside0.mk hr0
 have HC0 := Aside0.mk hc0
 clear hr0 hc0
 have HB := Aside0.mk (Below.refl w.heap.size w)
 have H : (if ([] : List Int).length + l0.length < 17592186044416 then (basculeref22_point.l0 k a1 a2 (([] : List Int) ++ l0)) else (none)) = some r := h
 clear h
 have c4 : ([] : List Int).length + l0.length < 17592186044416 := znQx21_
 rw [if_pos c4] at H
 have LMc4 := Aside0.mk c4
 clear c4
 obtain ⟨y302, hy302⟩ : ∃ y_ : List Int, y_ = (([] : List Int) ++ l0) := ⟨_, rfl⟩
 replace H : (basculeref22_point.l0 k a1 a2 y302) = some r := by first | (rw [hy302]; with_reducible exact H) | (have H2_ := (Option.bind_some _ _).symm.trans H; rw [hy302]; with_reducible exact H2_) | (have H2_ := (Option.bind_some _ _).symm.trans H; with_reducible exact H2_) | with_reducible exact H | (rw [hy302]; exact H) | exact H
 have Ny302 := Aside0.mk hy302
 clear hy302
 have H' := Aside0.mk H
 clear H
 go_enter Tryz.func35, Tryz.ntmps35
 go_wp2_with (first | ((with_reducible refine gate_builtin (b := .append) (xs := #[.tmp 10, .tmp 11]) rfl ?_); at_builtin; refine Kd.R_append_rows (Kd.int .i64) (w0 := w) w.heap.size rfl (.tmp 10) (.tmp 11) 24 3 (.int .i64 0) 8 rfl Tryz.underlying24 info3 rfl (by decide) (by omega) (.slice none 0 0) ([] : List Int) l0 _ _ _ (fun _ => True) (fun _ => False) rfl rfl ?aO ?aR (fun _ _ h => h) (fun _ h => h.elim) ?aF ?aB ?aS ?aL ?_; (case aR => repeat (first | exact HR0.out | (with_reducible first | refine Kd.C_alloc ?_ _ | refine Kd.C_drewN ?_ _ | refine Kd.C_drew ?_))); (case aB => exact zQx21a0_); (case aF => exact (fun _ _ => trivial)); (case aO => exact ((Kd.R_nil _ _ _ _ (fun _ => True)))); (case aS => exact (below_size zQx21a0_)); (case aL => have := LMc4.out; omega); intro v303 w5 ho hb hg hat; rw [← Ny302.out] at ho; have n0_ := Aside0.mk (hb); have n1_ := Aside0.mk (ho); clear HB; have HB := n0_; have HO304 := n1_; clear n0_ n1_; clear ho hb hg hat))
 go_loopg [7] k (fun kq v7 w' => ∃ (x7_1 : List Int), Aside0 (basculeref22_point.l0 kq a1 a2 x7_1 = some r) ∧ Aside0 (kq ≤ k) ∧ Aside0 (Kd.R (Kd.int .i64) 3 w' w.heap.size (fun _ => True) v7 x7_1) ∧ Aside0 (Below w.heap.size w w'))
 case atStart => exact ⟨(y302), H', ⟨Nat.le_refl _⟩, ⟨by (with_reducible repeat (first | apply Kd.R_alloc | apply Kd.R_drewN | apply Kd.R_drew)); exact HO304.out⟩, ⟨zQx21a0_⟩⟩
 case round =>
  clear H'
  try clear p2
  try clear c3
  try clear c4
  obtain ⟨x7_1, HA, HK1, HO_7, HB⟩ := hrel
  cases gk with
  | zero => exact absurd HA.out (by simp [basculeref22_point.l0])
  | succ k1 =>
   have H := HA.out
   clear HA
   simp only [basculeref22_point.l0] at H
   by_cases c6 : (x7_1.length : Int) < (wrap64 (a2 + 1))
   ·
    rw [if_pos c6] at H
    have c6b0 : decide ((x7_1.length : Int) < (wrap64 (a2 + 1))) = true := decide_eq_true c6
    clear c6
    have c7 : x7_1.length < 17592186044416 := znQx21_
    rw [if_pos c7] at H
    have LMc7 := Aside0.mk c7
    clear c7
    obtain ⟨y305, hy305⟩ : ∃ y_ : List Int, y_ = (x7_1 ++ [0]) := ⟨_, rfl⟩
    replace H : (basculeref22_point.l0 k1 a1 a2 y305) = some r := by first | (rw [hy305]; with_reducible exact H) | (have H2_ := (Option.bind_some _ _).symm.trans H; rw [hy305]; with_reducible exact H2_) | (have H2_ := (Option.bind_some _ _).symm.trans H; with_reducible exact H2_) | with_reducible exact H | (rw [hy305]; exact H) | exact H
    have Ny305 := Aside0.mk hy305
    clear hy305
    have H' := Aside0.mk H
    clear H
    obtain ⟨Ao8, co8, eo8⟩ := Kd.R_slice HO_7.out
    subst eo8
    go_wp2_with (first | ((with_reducible refine gate_builtin (b := .append) (xs := #[.tmp 18, .tmp 19]) rfl ?_); at_builtin; refine Kd.R_append (Kd.int .i64) (w0 := w) w.heap.size rfl (.tmp 18) (.tmp 19) 24 3 (.int .i64 0) 8 rfl Tryz.underlying24 info3 rfl (by decide) (by omega) (.slice Ao8 x7_1.length co8) x7_1 0 [.int .i64 0] (fun _ => True) (fun _ => False) rfl rfl ?aP (fun _ hk => hk.elim) ?aF ?aO ?aB ?aS ?aL ?_; (case aP => exact rfl); (case aB => exact zQx21a0_); (case aF => exact (fun _ _ => trivial)); (case aO => exact zQx21a2_); (case aS => exact (below_size zQx21a0_)); (case aL => have := LMc7.out; omega); intro v306 w9 ho hb hg hat; rw [← Ny305.out] at ho; have n0_ := Aside0.mk (hb); have n1_ := Aside0.mk (ho); clear HB; clear HO_7; have HB := n0_; have HO307 := n1_; clear n0_ n1_; clear ho hb hg hat))
    go_roundg k1
    case measure => have := HK1.out; omega
    case rel => exact ⟨(y305), H', ⟨by have := HK1.out; omega⟩, ⟨by (with_reducible repeat (first | apply Kd.R_alloc | apply Kd.R_drewN | apply Kd.R_drew)); exact HO307.out⟩, ⟨zQx21a0_⟩⟩
   rw [if_neg c6] at H
   have c6b0 : decide ((x7_1.length : Int) < (wrap64 (a2 + 1))) = false := decide_eq_false c6
   clear c6
   have H' := Aside0.mk H
   clear H
   obtain ⟨Ao10, co10, eo10⟩ := Kd.R_slice HO_7.out
   subst eo10
   go_wp2
   go_loopg [8, 9] k1 (fun kq v8 v9 w' => ∃ (x8_2 : ByteArray) (x9_2 : Int), v8 = .string x8_2 ∧ v9 = .int .i64 x9_2 ∧ Aside0 (basculeref22_point.l1 kq a1 a2 x7_1 x8_2 x9_2 = some r) ∧ Aside0 (kq ≤ k1) ∧ Aside0 (Kd.R (Kd.int .i64) 3 w' w.heap.size (fun _ => True) (.slice Ao10 x7_1.length co10) x7_1) ∧ Aside0 (Below w.heap.size w w'))
   case atStart => exact ⟨((⟨#[]⟩ : ByteArray)), (0), zQx21a4_, zQx21a4_, H', ⟨Nat.le_refl _⟩, ⟨zQx21a2_⟩, ⟨zQx21a0_⟩⟩
   case round =>
    clear H'
    try clear p2
    try clear c3
    try clear c4
    try clear c6
    try clear c6b0
    try clear p6
    try clear c7
    try clear p2
    obtain ⟨x8_2, x9_2, rfl, rfl, HA, HK2, HO_7, HB⟩ := hrel
    cases gk with
    | zero => exact absurd HA.out (by simp [basculeref22_point.l1])
    | succ k2 =>
     have H := HA.out
     clear HA
     simp only [basculeref22_point.l1] at H
     by_cases c11 : x9_2 < (x7_1.length : Int)
     rotate_left
     ·
      rw [if_neg c11] at H
      have c11b0 : decide (x9_2 < (x7_1.length : Int)) = false := decide_eq_false c11
      clear c11
      by_cases c30 : a1 = true
      rotate_left
      ·
       replace c30 := Bool.eq_false_iff.mpr c30
       subst c30
       have H1 : (some x8_2) = some r := by rw [if_neg (show ¬ (false = true) by decide)] at H; exact H
       clear H
       have H := H1
       clear H1
       obtain rfl := Option.some.inj H
       go_wp2
       go_ret
       exact ⟨zQx21a5_, zQx21a0_⟩
      subst c30
      have H1 : (if 1 + x8_2.size ≤ 9223372036854775807 then (some ((⟨#[45]⟩ : ByteArray) ++ x8_2)) else (none)) = some r := by rw [if_pos rfl] at H; exact H
      clear H
      have H := H1
      clear H1
      have c31 : 1 + x8_2.size ≤ 9223372036854775807 := znQx21_
      rw [if_pos c31] at H
      have c31b0 := eq_true c31
      have c31b1 : decide (1 + x8_2.size ≤ 9223372036854775807) = true := decide_eq_true c31
      try have c31b2 : (9223372036854775807 < 1 + x8_2.size) = False := eq_false (Nat.not_lt.2 c31)
      obtain rfl := Option.some.inj H
      go_wp2
      go_ret
      exact ⟨zQx21a5_, zQx21a0_⟩
     rw [if_pos c11] at H
     have c11b0 : decide (x9_2 < (x7_1.length : Int)) = true := decide_eq_true c11
     clear c11
     by_cases c12 : x9_2 = a2
     rotate_left
     ·
      rw [if_neg c12] at H
      have c12b0 : (x9_2 == a2) = false := beq_eq_false_iff_ne.mpr c12
      have c12b1 : (x9_2 != a2) = true := bne_iff_ne.mpr c12
      have c25 : 0 ≤ x9_2 := znQx21_
      rw [if_pos c25] at H
      have c25b0 : decide (0 ≤ x9_2) = true := decide_eq_true c25
      clear c25
      obtain ⟨y317, hy317⟩ : ∃ y_ : List Int, y_ = (([(wrap64 (48 + (rd x7_1 x9_2))) % 256] : List Int)) := ⟨_, rfl⟩
      replace H : (if (strOfNums y317).size + x8_2.size ≤ 9223372036854775807 then (basculeref22_point.l1 k2 a1 a2 x7_1 ((strOfNums y317) ++ x8_2) (wrap64 (x9_2 + 1))) else (none)) = some r := by first | (rw [hy317]; with_reducible exact H) | (have H2_ := (Option.bind_some _ _).symm.trans H; rw [hy317]; with_reducible exact H2_) | (have H2_ := (Option.bind_some _ _).symm.trans H; with_reducible exact H2_) | with_reducible exact H | (rw [hy317]; exact H) | exact H
      have Ny317 := Aside0.mk hy317
      clear hy317
      have c26 : (strOfNums y317).size + x8_2.size ≤ 9223372036854775807 := znQx21_
      rw [if_pos c26] at H
      have c26b0 := eq_true c26
      have c26b1 : decide ((strOfNums y317).size + x8_2.size ≤ 9223372036854775807) = true := decide_eq_true c26
      try have c26b2 : (9223372036854775807 < (strOfNums y317).size + x8_2.size) = False := eq_false (Nat.not_lt.2 c26)
      have H' := Aside0.mk H
      clear H
      have p316 : 0 ≤ (x9_2 : Int) := of_decide_eq_true zQx21a6_
      have q316 : x9_2 < (x7_1.length : Int) := of_decide_eq_true zQx21a6_
      obtain ⟨ad316, e316, hx316_0⟩ := Kd.at_int (Kd.R_reads' HO_7.out).2.2 x9_2 p316 q316
      cases e316
      replace p316 := eq_true p316
      replace q316 := eq_true q316
      go_wp2_with (first | ((with_reducible refine gate_dst (N := 42) rfl ?_); refine Kd.R_lit (Kd.int .u8) _ 5 ?hg (N := 42) ?hd (xs := ([(wrap64 (48 + (rd x7_1 x9_2))) % 256] : List Int)) (inner := [.int .u8 ((wrap64 (48 + (rd x7_1 x9_2))) % 256)]) (ok := fun _ => True) (okp := fun _ => True) ?hr ?hp (fun _ hk => hk) trivial (Below.refl _ _) (Nat.le_refl _) (by simp) ?_; (case hd => rfl); (case hg => rfl); (case hr => first | (go_simp; done) | (go_simp; rfl)); (case hp => exact (Reps.one (show Kd.M (Kd.int .u8) _ _ _ ((wrap64 (48 + (rd x7_1 x9_2))) % 256) [.int .u8 ((wrap64 (48 + (rd x7_1 x9_2))) % 256)] from rfl) (Reps.none _ _))); intro v318 w27 ho28 hb hg_ hnew_; clear hg_ hnew_; (first | rw [← Ny317.out] at ho28 | (simp only [Int.reduceToNat] at ho28; rw [← Ny317.out] at ho28)); have n0_ := Aside0.mk (Kd.R_below zQx21a2_ hb); have n1_ := Aside0.mk (Kd.R_lower ho28 (below_size zQx21a0_)); have n2_ := Aside0.mk (below_step zQx21a0_ hb); clear HO_7; clear HB; have HO_7 := n0_; have HO319 := n1_; have HB := n2_; clear n0_ n1_ n2_; clear hb ho28; have hcv29 := own_string (P := Tryz.prog) Tryz.underlying59 Tryz.underlying5 Tryz.underlying9 (Kd.own_of_R HO319.out)))
      go_roundg k2
      case measure => have := HK1.out; have := HK2.out; omega
      case rel => exact ⟨((strOfNums y317) ++ x8_2), (wrap64 (x9_2 + 1)), zQx21a4_, zQx21a4_, H', ⟨zQx21a8_⟩, ⟨zQx21a2_⟩, ⟨zQx21a0_⟩⟩
     rw [if_pos c12] at H
     have c12b0 : (x9_2 == a2) = true := beq_iff_eq.mpr c12
     have c12b1 : (x9_2 != a2) = false := bne_eq_false_iff_eq.mpr c12
     clear c12
     by_cases c13 : a2 > 0
     rotate_left
     ·
      rw [if_neg c13] at H
      have c13b0 : decide (0 < a2) = false := decide_eq_false c13
      clear c13
      have c20 : 0 ≤ x9_2 := znQx21_
      rw [if_pos c20] at H
      have c20b0 : decide (0 ≤ x9_2) = true := decide_eq_true c20
      clear c20
      obtain ⟨y313, hy313⟩ : ∃ y_ : List Int, y_ = (([(wrap64 (48 + (rd x7_1 x9_2))) % 256] : List Int)) := ⟨_, rfl⟩
      replace H : (if (strOfNums y313).size + x8_2.size ≤ 9223372036854775807 then (basculeref22_point.l1 k2 a1 a2 x7_1 ((strOfNums y313) ++ x8_2) (wrap64 (x9_2 + 1))) else (none)) = some r := by first | (rw [hy313]; with_reducible exact H) | (have H2_ := (Option.bind_some _ _).symm.trans H; rw [hy313]; with_reducible exact H2_) | (have H2_ := (Option.bind_some _ _).symm.trans H; with_reducible exact H2_) | with_reducible exact H | (rw [hy313]; exact H) | exact H
      have Ny313 := Aside0.mk hy313
      clear hy313
      have c21 : (strOfNums y313).size + x8_2.size ≤ 9223372036854775807 := znQx21_
      rw [if_pos c21] at H
      have c21b0 := eq_true c21
      have c21b1 : decide ((strOfNums y313).size + x8_2.size ≤ 9223372036854775807) = true := decide_eq_true c21
      try have c21b2 : (9223372036854775807 < (strOfNums y313).size + x8_2.size) = False := eq_false (Nat.not_lt.2 c21)
      have H' := Aside0.mk H
      clear H
      have p312 : 0 ≤ (x9_2 : Int) := of_decide_eq_true zQx21a6_
      have q312 : x9_2 < (x7_1.length : Int) := of_decide_eq_true zQx21a6_
      obtain ⟨ad312, e312, hx312_0⟩ := Kd.at_int (Kd.R_reads' HO_7.out).2.2 x9_2 p312 q312
      cases e312
      replace p312 := eq_true p312
      replace q312 := eq_true q312
      go_wp2_with (first | ((with_reducible refine gate_dst (N := 42) rfl ?_); refine Kd.R_lit (Kd.int .u8) _ 5 ?hg (N := 42) ?hd (xs := ([(wrap64 (48 + (rd x7_1 x9_2))) % 256] : List Int)) (inner := [.int .u8 ((wrap64 (48 + (rd x7_1 x9_2))) % 256)]) (ok := fun _ => True) (okp := fun _ => True) ?hr ?hp (fun _ hk => hk) trivial (Below.refl _ _) (Nat.le_refl _) (by simp) ?_; (case hd => rfl); (case hg => rfl); (case hr => first | (go_simp; done) | (go_simp; rfl)); (case hp => exact (Reps.one (show Kd.M (Kd.int .u8) _ _ _ ((wrap64 (48 + (rd x7_1 x9_2))) % 256) [.int .u8 ((wrap64 (48 + (rd x7_1 x9_2))) % 256)] from rfl) (Reps.none _ _))); intro v314 w22 ho23 hb hg_ hnew_; clear hg_ hnew_; (first | rw [← Ny313.out] at ho23 | (simp only [Int.reduceToNat] at ho23; rw [← Ny313.out] at ho23)); have n0_ := Aside0.mk (Kd.R_below zQx21a2_ hb); have n1_ := Aside0.mk (Kd.R_lower ho23 (below_size zQx21a0_)); have n2_ := Aside0.mk (below_step zQx21a0_ hb); clear HO_7; clear HB; have HO_7 := n0_; have HO315 := n1_; have HB := n2_; clear n0_ n1_ n2_; clear hb ho23; have hcv24 := own_string (P := Tryz.prog) Tryz.underlying59 Tryz.underlying5 Tryz.underlying9 (Kd.own_of_R HO315.out)))
      go_roundg k2
      case measure => have := HK1.out; have := HK2.out; omega
      case rel => exact ⟨((strOfNums y313) ++ x8_2), (wrap64 (x9_2 + 1)), zQx21a4_, zQx21a4_, H', ⟨zQx21a8_⟩, ⟨zQx21a2_⟩, ⟨zQx21a0_⟩⟩
     rw [if_pos c13] at H
     have c13b0 : decide (0 < a2) = true := decide_eq_true c13
     clear c13
     have c14 : 1 + x8_2.size ≤ 9223372036854775807 := znQx21_
     rw [if_pos c14] at H
     have c14b0 := eq_true c14
     have c14b1 : decide (1 + x8_2.size ≤ 9223372036854775807) = true := decide_eq_true c14
     try have c14b2 : (9223372036854775807 < 1 + x8_2.size) = False := eq_false (Nat.not_lt.2 c14)
     have c15 : 0 ≤ x9_2 := znQx21_
     rw [if_pos c15] at H
     have c15b0 : decide (0 ≤ x9_2) = true := decide_eq_true c15
     clear c15
     obtain ⟨y309, hy309⟩ : ∃ y_ : List Int, y_ = (([(wrap64 (48 + (rd x7_1 x9_2))) % 256] : List Int)) := ⟨_, rfl⟩
     replace H : (if (strOfNums y309).size + ((⟨#[46]⟩ : ByteArray) ++ x8_2).size ≤ 9223372036854775807 then (basculeref22_point.l1 k2 a1 a2 x7_1 ((strOfNums y309) ++ ((⟨#[46]⟩ : ByteArray) ++ x8_2)) (wrap64 (x9_2 + 1))) else (none)) = some r := by first | (rw [hy309]; with_reducible exact H) | (have H2_ := (Option.bind_some _ _).symm.trans H; rw [hy309]; with_reducible exact H2_) | (have H2_ := (Option.bind_some _ _).symm.trans H; with_reducible exact H2_) | with_reducible exact H | (rw [hy309]; exact H) | exact H
     have Ny309 := Aside0.mk hy309
     clear hy309
     have c16 : (strOfNums y309).size + ((⟨#[46]⟩ : ByteArray) ++ x8_2).size ≤ 9223372036854775807 := znQx21_
     rw [if_pos c16] at H
     have c16b0 := eq_true c16
     have c16b1 : decide ((strOfNums y309).size + ((⟨#[46]⟩ : ByteArray) ++ x8_2).size ≤ 9223372036854775807) = true := decide_eq_true c16
     try have c16b2 : (9223372036854775807 < (strOfNums y309).size + ((⟨#[46]⟩ : ByteArray) ++ x8_2).size) = False := eq_false (Nat.not_lt.2 c16)
     try have c16b7 : (9223372036854775807 < (strOfNums y309).size + (1 + x8_2.size)) = False := eq_false (by have h9_ := c16; simp only [ByteArray.size_append] at h9_; simp only [ByteArray.size, List.size_toArray, List.length_cons, List.length_nil] at h9_ ⊢; omega)
     have H' := Aside0.mk H
     clear H
     have p308 : 0 ≤ (x9_2 : Int) := of_decide_eq_true zQx21a6_
     have q308 : x9_2 < (x7_1.length : Int) := of_decide_eq_true zQx21a6_
     obtain ⟨ad308, e308, hx308_0⟩ := Kd.at_int (Kd.R_reads' HO_7.out).2.2 x9_2 p308 q308
     cases e308
     replace p308 := eq_true p308
     replace q308 := eq_true q308
     go_wp2_with (first | ((with_reducible refine gate_dst (N := 42) rfl ?_); refine Kd.R_lit (Kd.int .u8) _ 5 ?hg (N := 42) ?hd (xs := ([(wrap64 (48 + (rd x7_1 x9_2))) % 256] : List Int)) (inner := [.int .u8 ((wrap64 (48 + (rd x7_1 x9_2))) % 256)]) (ok := fun _ => True) (okp := fun _ => True) ?hr ?hp (fun _ hk => hk) trivial (Below.refl _ _) (Nat.le_refl _) (by simp) ?_; (case hd => rfl); (case hg => rfl); (case hr => first | (go_simp; done) | (go_simp; rfl)); (case hp => exact (Reps.one (show Kd.M (Kd.int .u8) _ _ _ ((wrap64 (48 + (rd x7_1 x9_2))) % 256) [.int .u8 ((wrap64 (48 + (rd x7_1 x9_2))) % 256)] from rfl) (Reps.none _ _))); intro v310 w17 ho18 hb hg_ hnew_; clear hg_ hnew_; (first | rw [← Ny309.out] at ho18 | (simp only [Int.reduceToNat] at ho18; rw [← Ny309.out] at ho18)); have n0_ := Aside0.mk (Kd.R_below zQx21a2_ hb); have n1_ := Aside0.mk (Kd.R_lower ho18 (below_size zQx21a0_)); have n2_ := Aside0.mk (below_step zQx21a0_ hb); clear HO_7; clear HB; have HO_7 := n0_; have HO311 := n1_; have HB := n2_; clear n0_ n1_ n2_; clear hb ho18; have hcv19 := own_string (P := Tryz.prog) Tryz.underlying59 Tryz.underlying5 Tryz.underlying9 (Kd.own_of_R HO311.out)))
     go_roundg k2
     case measure => have := HK1.out; have := HK2.out; omega
     case rel => exact ⟨((strOfNums y309) ++ ((⟨#[46]⟩ : ByteArray) ++ x8_2)), (wrap64 (x9_2 + 1)), zQx21a4_, zQx21a4_, H', ⟨zQx21a8_⟩, ⟨zQx21a2_⟩, ⟨zQx21a0_⟩⟩
mutual
def basculeref22_Text.l0 : Nat → List Int → ByteArray → ByteArray → Int → Option (ByteArray)
 | 0, _, _, _, _ => none
 | k + 1, x1, x5, x6, x7 => if x7 < 2 then (if 0 ≤ x7 then (if x7 < (x1.length : Int) then (basculeref22_Text.l1 k x1 x5 x6 x7 (rd x1 x7) (⟨#[]⟩ : ByteArray) 0) else (none)) else (none)) else (some x5)
def basculeref22_Text.l1 : Nat → List Int → ByteArray → ByteArray → Int → Int → ByteArray → Int → Option (ByteArray)
 | 0, _, _, _, _, _, _, _ => none
 | k + 1, x1, x5, x6, x7, x8, x9, x10 => if x10 < 4 then (if 0 ≤ (Int.tmod x8 16) then (if (Int.tmod x8 16) ≤ (wrap64 ((Int.tmod x8 16) + 1)) then (if (wrap64 ((Int.tmod x8 16) + 1)) ≤ (x6.size : Int) then (if (x6.extract ((Int.tmod x8 16) : Int).toNat ((wrap64 ((Int.tmod x8 16) + 1)) : Int).toNat).size + x9.size ≤ 9223372036854775807 then (basculeref22_Text.l1 k x1 x5 x6 x7 (wrap64 (Int.tdiv x8 16)) ((x6.extract ((Int.tmod x8 16) : Int).toNat ((wrap64 ((Int.tmod x8 16) + 1)) : Int).toNat) ++ x9) (wrap64 (x10 + 1))) else (none)) else (none)) else (none)) else (none)) else (if x5.size + x9.size ≤ 9223372036854775807 then (basculeref22_Text.l0 k x1 (x5 ++ x9) x6 (wrap64 (x7 + 1))) else (none))
end
def basculeref22_Text.f (k : Nat) (a0_0 : ByteArray) (a0_1 : Int) (a0_2 : Int) (a0_3 : Int) (a0_4 : Int) (a0_5 : Int) (a0_6 : Int) (a0_7 : Bool) (l1 : List Int) : Option (ByteArray) := if a0_4 = 1 then (if 0 < (l1.length : Int) then (some (strOfNums (([(wrap64 (48 + (rd l1 0))) % 256] : List Int)))) else (none)) else (if a0_4 = 8 then (basculeref22_Text.l0 k l1 (⟨#[]⟩ : ByteArray) (⟨#[48, 49, 50, 51, 52, 53, 54, 55, 56, 57, 97, 98, 99, 100, 101, 102]⟩ : ByteArray) 0) else ((basculeref22_Digits.f a0_0 a0_1 a0_2 a0_3 a0_4 a0_5 a0_6 a0_7 l1).bind fun bt326 => ((basculeref22_point.f k bt326.1 bt326.2 a0_5).bind fun t330 => (some t330))))
theorem basculeref22_Text.mono_l : ∀ k, (∀ y0 y1 y2 y3, LeO (basculeref22_Text.l0 k y0 y1 y2 y3) (basculeref22_Text.l0 (k + 1) y0 y1 y2 y3)) ∧ (∀ y0 y1 y2 y3 y4 y5 y6, LeO (basculeref22_Text.l1 k y0 y1 y2 y3 y4 y5 y6) (basculeref22_Text.l1 (k + 1) y0 y1 y2 y3 y4 y5 y6))
 | 0 => ⟨fun _ _ _ _ r h => by simp [basculeref22_Text.l0] at h, fun _ _ _ _ _ _ _ r h => by simp [basculeref22_Text.l1] at h⟩
 | k + 1 => by
  obtain ⟨ih0, ih1⟩ := basculeref22_Text.mono_l k
  refine ⟨?_, ?_⟩
  ·
   intro y0 y1 y2 y3
   unfold basculeref22_Text.l0
   repeat' first
   | (with_reducible first | exact ih0 _ _ _ _ | exact ih1 _ _ _ _ _ _ _ | exact basculeref22_point.mono _ _ _ _ | exact LeO.refl _ | exact LeO.none _ | refine LeO.ite ?_ ?_ | refine LeO.bind ?_ (fun _ => ?_))
  ·
   intro y0 y1 y2 y3 y4 y5 y6
   unfold basculeref22_Text.l1
   repeat' first
   | (with_reducible first | exact ih0 _ _ _ _ | exact ih1 _ _ _ _ _ _ _ | exact basculeref22_point.mono _ _ _ _ | exact LeO.refl _ | exact LeO.none _ | refine LeO.ite ?_ ?_ | refine LeO.bind ?_ (fun _ => ?_))
theorem basculeref22_Text.mono : ∀ a0 a1 a2 a3 a4 a5 a6 a7 a8 k, LeO (basculeref22_Text.f k a0 a1 a2 a3 a4 a5 a6 a7 a8) (basculeref22_Text.f (k + 1) a0 a1 a2 a3 a4 a5 a6 a7 a8) := by
 intro a0 a1 a2 a3 a4 a5 a6 a7 a8 k
 obtain ⟨ih0, ih1⟩ := basculeref22_Text.mono_l k
 unfold basculeref22_Text.f
 repeat' first
   | (with_reducible first | exact ih0 _ _ _ _ | exact ih1 _ _ _ _ _ _ _ | exact basculeref22_point.mono _ _ _ _ | exact LeO.refl _ | exact LeO.none _ | refine LeO.ite ?_ ?_ | refine LeO.bind ?_ (fun _ => ?_))
theorem basculeref22_Text.calls (k : Nat) (a0_0 : ByteArray) (a0_1 : Int) (a0_2 : Int) (a0_3 : Int) (a0_4 : Int) (a0_5 : Int) (a0_6 : Int) (a0_7 : Bool) (A1 : Option Addr) (c1 : Nat) (l1 : List Int) (r : ByteArray) (w : World) (hr1 : Kd.C (Kd.int .i64) w A1 l1.length l1) (hc1 : l1.length ≤ c1) (h : basculeref22_Text.f k a0_0 a0_1 a0_2 a0_3 a0_4 a0_5 a0_6 a0_7 l1 = some r) :
  Calls Tryz.prog 17 #[.agg #[.string a0_0, .int .i64 a0_1, .int .i64 a0_2, .int .i64 a0_3, .int .i64 a0_4, .int .i64 a0_5, .int .i64 a0_6, .bool a0_7], .slice A1 l1.length c1] w fun e w' => e = .returned (.string r) ∧ Below w.heap.size w w' := by
 have hu23 := Tryz.underlying23
 have HR1 := Aside0.mk hr1
 have HC1 := Aside0.mk hc1
 clear hr1 hc1
 have HB := Aside0.mk (Below.refl w.heap.size w)
 have H : (if a0_4 = 1 then (if 0 < (l1.length : Int) then (some (strOfNums (([(wrap64 (48 + (rd l1 0))) % 256] : List Int)))) else (none)) else (if a0_4 = 8 then (basculeref22_Text.l0 k l1 (⟨#[]⟩ : ByteArray) (⟨#[48, 49, 50, 51, 52, 53, 54, 55, 56, 57, 97, 98, 99, 100, 101, 102]⟩ : ByteArray) 0) else ((basculeref22_Digits.f a0_0 a0_1 a0_2 a0_3 a0_4 a0_5 a0_6 a0_7 l1).bind fun bt326 => ((basculeref22_point.f k bt326.1 bt326.2 a0_5).bind fun t330 => (some t330))))) = some r := h
 clear h
 by_cases c3 : a0_4 = 1
 ·
  rw [if_pos c3] at H
  have c3b0 : (a0_4 == 1) = true := beq_iff_eq.mpr c3
  have c3b1 : (a0_4 != 1) = false := bne_eq_false_iff_eq.mpr c3
  clear c3
  have c4 : 0 < (l1.length : Int) := znQx21_
  rw [if_pos c4] at H
  have c4b0 : decide (0 < (l1.length : Int)) = true := decide_eq_true c4
  have c4b1 : decide (0 < l1.length) = true := decide_eq_true (by omega)
  clear c4
  obtain ⟨y322, hy322⟩ : ∃ y_ : List Int, y_ = (([(wrap64 (48 + (rd l1 0))) % 256] : List Int)) := ⟨_, rfl⟩
  replace H : (some (strOfNums y322)) = some r := by first | (rw [hy322]; with_reducible exact H) | (have H2_ := (Option.bind_some _ _).symm.trans H; rw [hy322]; with_reducible exact H2_) | (have H2_ := (Option.bind_some _ _).symm.trans H; with_reducible exact H2_) | with_reducible exact H | (rw [hy322]; exact H) | exact H
  have Ny322 := Aside0.mk hy322
  clear hy322
  obtain rfl := Option.some.inj H
  go_enter Tryz.func17, Tryz.ntmps17
  go_wp2_with (first | ((with_reducible refine gate_dst (N := 2) rfl ?_); refine box_event ?hg (N := 2) ?hd (cs := #[.string a0_0, .int .i64 a0_1, .int .i64 a0_2, .int .i64 a0_3, .int .i64 a0_4, .int .i64 a0_5, .int .i64 a0_6, .bool a0_7]) (t := 23) ?hr ?_; (case hd => rfl); (case hg => rfl); (case hr => first | (go_simp; done) | (go_simp; rfl)); intro gb320 hg w5 hbox hb; have n0_ := Aside0.mk (below_step zQx21a0_ hb); have n1_ := Aside0.mk (hbox); have n2_ := Aside0.mk ((by rw [hg]; exact (below_size zQx21a0_) : w.heap.size ≤ gb320)); have n3_ := Aside0.mk ((by rw [hg]; exact (below_size zQx21a0_) : w.heap.size ≤ gb320)); clear HB; have HB := n0_; have BK320 := n1_; have GW320 := n2_; have GE320 := n3_; clear n0_ n1_ n2_ n3_; clear hb hbox hg; have hcz6_0 : w5.cell? ⟨gb320, 0, none⟩ = some (.string a0_0) := (blk_cell BK320.out 0).trans rfl; have hcz6_1 : w5.cell? ⟨gb320, 1, none⟩ = some (.int .i64 a0_1) := (blk_cell BK320.out 1).trans rfl; have hcz6_2 : w5.cell? ⟨gb320, 2, none⟩ = some (.int .i64 a0_2) := (blk_cell BK320.out 2).trans rfl; have hcz6_3 : w5.cell? ⟨gb320, 3, none⟩ = some (.int .i64 a0_3) := (blk_cell BK320.out 3).trans rfl; have hcz6_4 : w5.cell? ⟨gb320, 4, none⟩ = some (.int .i64 a0_4) := (blk_cell BK320.out 4).trans rfl; have hcz6_5 : w5.cell? ⟨gb320, 5, none⟩ = some (.int .i64 a0_5) := (blk_cell BK320.out 5).trans rfl; have hcz6_6 : w5.cell? ⟨gb320, 6, none⟩ = some (.int .i64 a0_6) := (blk_cell BK320.out 6).trans rfl; have hcz6_7 : w5.cell? ⟨gb320, 7, none⟩ = some (.bool a0_7) := (blk_cell BK320.out 7).trans rfl; have hfz6_0 := blk_frozen BK320.out 0; have hfz6_1 := blk_frozen BK320.out 1; have hfz6_2 := blk_frozen BK320.out 2; have hfz6_3 := blk_frozen BK320.out 3; have hfz6_4 := blk_frozen BK320.out 4; have hfz6_5 := blk_frozen BK320.out 5; have hfz6_6 := blk_frozen BK320.out 6; have hfz6_7 := blk_frozen BK320.out 7; have p321 : 0 ≤ (0 : Int) := (by omega); have q321 : 0 < (l1.length : Int) := of_decide_eq_true zQx21a6_; obtain ⟨ad321, e321, hx321_0⟩ := Kd.at_int HR1.out 0 p321 q321; cases e321; have qi321 : (0 < l1.length) = True := eq_true (by omega); (try rw [show ((0 : Int)).toNat = 0 from rfl] at hx321_0); (try rw [Addr.add_zero'] at hx321_0); replace hx321_0 := (HB.out.cell (World.block_lt_of_cell? w _ hx321_0)).trans hx321_0; replace p321 := eq_true p321; replace q321 := eq_true q321) | ((with_reducible refine gate_dst (N := 21) rfl ?_); refine Kd.R_lit (Kd.int .u8) _ 5 ?hg (N := 21) ?hd (xs := ([(wrap64 (48 + (rd l1 0))) % 256] : List Int)) (inner := [.int .u8 ((wrap64 (48 + (rd l1 0))) % 256)]) (ok := fun _ => True) (okp := fun _ => True) ?hr ?hp (fun _ hk => hk) trivial (Below.refl _ _) (Nat.le_refl _) (by simp) ?_; (case hd => rfl); (case hg => rfl); (case hr => first | (go_simp; done) | (go_simp; rfl)); (case hp => exact (Reps.one (show Kd.M (Kd.int .u8) _ _ _ ((wrap64 (48 + (rd l1 0))) % 256) [.int .u8 ((wrap64 (48 + (rd l1 0))) % 256)] from rfl) (Reps.none _ _))); intro v323 w7 ho8 hb hg_ hnew_; clear hg_ hnew_; (first | rw [← Ny322.out] at ho8 | (simp only [Int.reduceToNat] at ho8; rw [← Ny322.out] at ho8)); have n0_ := Aside0.mk (Kd.R_lower ho8 (below_size zQx21a1_)); have n1_ := Aside0.mk (blk_below (g := gb320) (o := .cells #[.string a0_0, .int .i64 a0_1, .int .i64 a0_2, .int .i64 a0_3, .int .i64 a0_4, .int .i64 a0_5, .int .i64 a0_6, .bool a0_7] 23 (0, 0)) zQx21a3_ hb); have n2_ := Aside0.mk (below_step zQx21a1_ hb); clear BK320; clear HB; have HO324 := n0_; have BK320 := n1_; have HB := n2_; clear n0_ n1_ n2_; clear hb ho8; have hcv9 := own_string (P := Tryz.prog) Tryz.underlying59 Tryz.underlying5 Tryz.underlying9 (Kd.own_of_R HO324.out)))
  go_ret
  exact ⟨zQx21a5_, zQx21a1_⟩
 rw [if_neg c3] at H
 have c3b0 : (a0_4 == 1) = false := beq_eq_false_iff_ne.mpr c3
 have c3b1 : (a0_4 != 1) = true := bne_iff_ne.mpr c3
 by_cases c10 : a0_4 = 8
 rotate_left
 ·
  rw [if_neg c10] at H
  have c10b0 : (a0_4 == 8) = false := beq_eq_false_iff_ne.mpr c10
  have c10b1 : (a0_4 != 8) = true := bne_iff_ne.mpr c10
  replace H := Option.bind_eq_some_iff.mp H
  obtain ⟨⟨t326, t329⟩, A230, H⟩ := H
  replace H : ((basculeref22_point.f k t326 t329 a0_5).bind fun t330 => (some t330)) = some r := H
  have A23 := Aside0.mk A230
  clear A230
  replace H := Option.bind_eq_some_iff.mp H
  obtain ⟨t330, A240, H⟩ := H
  replace H : (some t330) = some r := H
  have A24 := Aside0.mk A240
  clear A240
  obtain rfl := Option.some.inj H
  go_enter Tryz.func17, Tryz.ntmps17
  go_wp2_with (first | ((with_reducible refine gate_dst (N := 2) rfl ?_); refine box_event ?hg (N := 2) ?hd (cs := #[.string a0_0, .int .i64 a0_1, .int .i64 a0_2, .int .i64 a0_3, .int .i64 a0_4, .int .i64 a0_5, .int .i64 a0_6, .bool a0_7]) (t := 23) ?hr ?_; (case hd => rfl); (case hg => rfl); (case hr => first | (go_simp; done) | (go_simp; rfl)); intro gb320 hg w25 hbox hb; have n0_ := Aside0.mk (below_step zQx21a0_ hb); have n1_ := Aside0.mk (hbox); have n2_ := Aside0.mk ((by rw [hg]; exact (below_size zQx21a0_) : w.heap.size ≤ gb320)); have n3_ := Aside0.mk ((by rw [hg]; exact (below_size zQx21a0_) : w.heap.size ≤ gb320)); clear HB; have HB := n0_; have BK320 := n1_; have GW320 := n2_; have GE320 := n3_; clear n0_ n1_ n2_ n3_; clear hb hbox hg; have hcz26_0 : w25.cell? ⟨gb320, 0, none⟩ = some (.string a0_0) := (blk_cell BK320.out 0).trans rfl; have hcz26_1 : w25.cell? ⟨gb320, 1, none⟩ = some (.int .i64 a0_1) := (blk_cell BK320.out 1).trans rfl; have hcz26_2 : w25.cell? ⟨gb320, 2, none⟩ = some (.int .i64 a0_2) := (blk_cell BK320.out 2).trans rfl; have hcz26_3 : w25.cell? ⟨gb320, 3, none⟩ = some (.int .i64 a0_3) := (blk_cell BK320.out 3).trans rfl; have hcz26_4 : w25.cell? ⟨gb320, 4, none⟩ = some (.int .i64 a0_4) := (blk_cell BK320.out 4).trans rfl; have hcz26_5 : w25.cell? ⟨gb320, 5, none⟩ = some (.int .i64 a0_5) := (blk_cell BK320.out 5).trans rfl; have hcz26_6 : w25.cell? ⟨gb320, 6, none⟩ = some (.int .i64 a0_6) := (blk_cell BK320.out 6).trans rfl; have hcz26_7 : w25.cell? ⟨gb320, 7, none⟩ = some (.bool a0_7) := (blk_cell BK320.out 7).trans rfl; have hfz26_0 := blk_frozen BK320.out 0; have hfz26_1 := blk_frozen BK320.out 1; have hfz26_2 := blk_frozen BK320.out 2; have hfz26_3 := blk_frozen BK320.out 3; have hfz26_4 := blk_frozen BK320.out 4; have hfz26_5 := blk_frozen BK320.out 5; have hfz26_6 := blk_frozen BK320.out 6; have hfz26_7 := blk_frozen BK320.out 7) | ((with_reducible refine gate_callee (f := 34) rfl ?_); refine goesL_ (some 56) rfl rfl Tryz.func34 (by kernel_rfl) rfl #[.agg #[.string a0_0, .int .i64 a0_1, .int .i64 a0_2, .int .i64 a0_3, .int .i64 a0_4, .int .i64 a0_5, .int .i64 a0_6, .bool a0_7], .slice A1 l1.length c1] rfl zQx21a7_ ?_; (with_reducible refine (basculeref22_Digits.calls a0_0 a0_1 a0_2 a0_3 a0_4 a0_5 a0_6 a0_7 _ _ l1 t326 t329 _ ?side1 ?side2 A23.out).mono ?_); (case side1 => repeat (first | exact (Kd.C_below HR1.out HB.out) | (with_reducible first | refine Kd.C_alloc ?_ _ | refine Kd.C_drewN ?_ _ | refine Kd.C_drew ?_))); (case side2 => exact HC1.out); rintro e w27 ⟨v327, rfl, ho0, hb⟩; refine ⟨_, rfl, ?_⟩; have n0_ := Aside0.mk (Kd.R_lower ho0 (below_size zQx21a1_)); have n1_ := Aside0.mk (blk_below (g := gb320) (o := .cells #[.string a0_0, .int .i64 a0_1, .int .i64 a0_2, .int .i64 a0_3, .int .i64 a0_4, .int .i64 a0_5, .int .i64 a0_6, .bool a0_7] 23 (0, 0)) zQx21a3_ hb); have n2_ := Aside0.mk (below_step zQx21a1_ hb); clear BK320; clear HB; have HO328 := n0_; have BK320 := n1_; have HB := n2_; clear n0_ n1_ n2_; (try clear hb); (try clear hb2); (try clear hk); (try clear hi); (try clear ho0); have hcz28_0 : w27.cell? ⟨gb320, 0, none⟩ = some (.string a0_0) := (blk_cell BK320.out 0).trans rfl; have hcz28_1 : w27.cell? ⟨gb320, 1, none⟩ = some (.int .i64 a0_1) := (blk_cell BK320.out 1).trans rfl; have hcz28_2 : w27.cell? ⟨gb320, 2, none⟩ = some (.int .i64 a0_2) := (blk_cell BK320.out 2).trans rfl; have hcz28_3 : w27.cell? ⟨gb320, 3, none⟩ = some (.int .i64 a0_3) := (blk_cell BK320.out 3).trans rfl; have hcz28_4 : w27.cell? ⟨gb320, 4, none⟩ = some (.int .i64 a0_4) := (blk_cell BK320.out 4).trans rfl; have hcz28_5 : w27.cell? ⟨gb320, 5, none⟩ = some (.int .i64 a0_5) := (blk_cell BK320.out 5).trans rfl; have hcz28_6 : w27.cell? ⟨gb320, 6, none⟩ = some (.int .i64 a0_6) := (blk_cell BK320.out 6).trans rfl; have hcz28_7 : w27.cell? ⟨gb320, 7, none⟩ = some (.bool a0_7) := (blk_cell BK320.out 7).trans rfl; have hfz28_0 := blk_frozen BK320.out 0; have hfz28_1 := blk_frozen BK320.out 1; have hfz28_2 := blk_frozen BK320.out 2; have hfz28_3 := blk_frozen BK320.out 3; have hfz28_4 := blk_frozen BK320.out 4; have hfz28_5 := blk_frozen BK320.out 5; have hfz28_6 := blk_frozen BK320.out 6; have hfz28_7 := blk_frozen BK320.out 7; obtain ⟨Ao29, co29, eo29⟩ := Kd.R_slice HO328.out; subst eo29) | ((with_reducible refine gate_callee (f := 35) rfl ?_); refine goesL_ (some 63) rfl rfl Tryz.func35 (by kernel_rfl) rfl #[.slice Ao29 t326.length co29, .bool t329, .int .i64 a0_5] rfl zQx21a7_ ?_; (with_reducible refine (basculeref22_point.calls k _ _ t326 t329 a0_5 t330 _ ?side1 ?side2 A24.out).mono ?_); (case side1 => repeat (first | exact (Kd.R_reads' HO328.out).2.2 | (with_reducible first | refine Kd.C_alloc ?_ _ | refine Kd.C_drewN ?_ _ | refine Kd.C_drew ?_))); (case side2 => exact (Kd.R_reads' HO328.out).2.1); rintro e w30 ⟨rfl, hb⟩; refine ⟨_, rfl, ?_⟩; have n0_ := Aside0.mk (Kd.R_below (by (with_reducible repeat (first | apply Kd.R_alloc | apply Kd.R_drewN | apply Kd.R_drew)); exact HO328.out) hb); have n1_ := Aside0.mk (blk_below (g := gb320) (o := .cells #[.string a0_0, .int .i64 a0_1, .int .i64 a0_2, .int .i64 a0_3, .int .i64 a0_4, .int .i64 a0_5, .int .i64 a0_6, .bool a0_7] 23 (0, 0)) zQx21a3_ hb); have n2_ := Aside0.mk (below_step zQx21a1_ hb); clear HO328; clear BK320; clear HB; have HO328 := n0_; have BK320 := n1_; have HB := n2_; clear n0_ n1_ n2_; (try clear hb); (try clear hb2); (try clear hk); (try clear hi)))
  go_ret
  exact ⟨zQx21a5_, zQx21a1_⟩
 rw [if_pos c10] at H
 have c10b0 : (a0_4 == 8) = true := beq_iff_eq.mpr c10
 have c10b1 : (a0_4 != 8) = false := bne_eq_false_iff_eq.mpr c10
 clear c10
 have H' := Aside0.mk H
 clear H
 go_enter Tryz.func17, Tryz.ntmps17
 go_wp2_with (first | ((with_reducible refine gate_dst (N := 2) rfl ?_); refine box_event ?hg (N := 2) ?hd (cs := #[.string a0_0, .int .i64 a0_1, .int .i64 a0_2, .int .i64 a0_3, .int .i64 a0_4, .int .i64 a0_5, .int .i64 a0_6, .bool a0_7]) (t := 23) ?hr ?_; (case hd => rfl); (case hg => rfl); (case hr => first | (go_simp; done) | (go_simp; rfl)); intro gb320 hg w11 hbox hb; have n0_ := Aside0.mk (below_step zQx21a0_ hb); have n1_ := Aside0.mk (hbox); have n2_ := Aside0.mk ((by rw [hg]; exact (below_size zQx21a0_) : w.heap.size ≤ gb320)); have n3_ := Aside0.mk ((by rw [hg]; exact (below_size zQx21a0_) : w.heap.size ≤ gb320)); clear HB; have HB := n0_; have BK320 := n1_; have GW320 := n2_; have GE320 := n3_; clear n0_ n1_ n2_ n3_; clear hb hbox hg; have hcz12_0 : w11.cell? ⟨gb320, 0, none⟩ = some (.string a0_0) := (blk_cell BK320.out 0).trans rfl; have hcz12_1 : w11.cell? ⟨gb320, 1, none⟩ = some (.int .i64 a0_1) := (blk_cell BK320.out 1).trans rfl; have hcz12_2 : w11.cell? ⟨gb320, 2, none⟩ = some (.int .i64 a0_2) := (blk_cell BK320.out 2).trans rfl; have hcz12_3 : w11.cell? ⟨gb320, 3, none⟩ = some (.int .i64 a0_3) := (blk_cell BK320.out 3).trans rfl; have hcz12_4 : w11.cell? ⟨gb320, 4, none⟩ = some (.int .i64 a0_4) := (blk_cell BK320.out 4).trans rfl; have hcz12_5 : w11.cell? ⟨gb320, 5, none⟩ = some (.int .i64 a0_5) := (blk_cell BK320.out 5).trans rfl; have hcz12_6 : w11.cell? ⟨gb320, 6, none⟩ = some (.int .i64 a0_6) := (blk_cell BK320.out 6).trans rfl; have hcz12_7 : w11.cell? ⟨gb320, 7, none⟩ = some (.bool a0_7) := (blk_cell BK320.out 7).trans rfl; have hfz12_0 := blk_frozen BK320.out 0; have hfz12_1 := blk_frozen BK320.out 1; have hfz12_2 := blk_frozen BK320.out 2; have hfz12_3 := blk_frozen BK320.out 3; have hfz12_4 := blk_frozen BK320.out 4; have hfz12_5 := blk_frozen BK320.out 5; have hfz12_6 := blk_frozen BK320.out 6; have hfz12_7 := blk_frozen BK320.out 7))
 go_loopg [5, 7] k (fun kq v5 v7 w' => ∃ (x5_1 : ByteArray) (x7_1 : Int), v5 = .string x5_1 ∧ v7 = .int .i64 x7_1 ∧ Aside0 (basculeref22_Text.l0 kq l1 x5_1 (⟨#[48, 49, 50, 51, 52, 53, 54, 55, 56, 57, 97, 98, 99, 100, 101, 102]⟩ : ByteArray) x7_1 = some r) ∧ Aside0 (kq ≤ k) ∧ Aside0 (w'.heap[gb320]? = some (.cells #[.string a0_0, .int .i64 a0_1, .int .i64 a0_2, .int .i64 a0_3, .int .i64 a0_4, .int .i64 a0_5, .int .i64 a0_6, .bool a0_7] 23 (0, 0))) ∧ Aside0 (Below w.heap.size w w'))
 case atStart => exact ⟨((⟨#[]⟩ : ByteArray)), (0), zQx21a4_, zQx21a4_, H', ⟨Nat.le_refl _⟩, ⟨zQx21a3_⟩, ⟨zQx21a1_⟩⟩
 case round =>
  clear H'
  try clear c1
  try clear p2
  try clear c3
  try clear c3b0
  try clear c3b1
  try clear p3
  try clear q3
  try clear hx3
  try clear qi3
  try clear c4
  try clear c4b0
  try clear c4b1
  try clear p6
  try clear hcv9
  try clear c10
  try clear c10b0
  try clear c10b1
  try clear hcz12_0
  try clear hcz12_1
  try clear hcz12_2
  try clear hcz12_3
  try clear hcz12_4
  try clear hcz12_5
  try clear hcz12_6
  try clear hcz12_7
  try clear hcz6_0
  try clear hcz6_1
  try clear hcz6_2
  try clear hcz6_3
  try clear hcz6_4
  try clear hcz6_5
  try clear hcz6_6
  try clear hcz6_7
  try clear hfz12_0
  try clear hfz12_1
  try clear hfz12_2
  try clear hfz12_3
  try clear hfz12_4
  try clear hfz12_5
  try clear hfz12_6
  try clear hfz12_7
  try clear hfz6_0
  try clear hfz6_1
  try clear hfz6_2
  try clear hfz6_3
  try clear hfz6_4
  try clear hfz6_5
  try clear hfz6_6
  try clear hfz6_7
  try clear hx321_0
  try clear p321
  try clear q321
  obtain ⟨x5_1, x7_1, rfl, rfl, HA, HK1, BK320, HB⟩ := hrel
  cases gk with
  | zero => exact absurd HA.out (by simp [basculeref22_Text.l0])
  | succ k1 =>
   have H := HA.out
   clear HA
   simp only [basculeref22_Text.l0] at H
   by_cases c13 : x7_1 < 2
   rotate_left
   ·
    rw [if_neg c13] at H
    have c13b0 : decide (x7_1 < 2) = false := decide_eq_false c13
    clear c13
    obtain rfl := Option.some.inj H
    go_wp2
    go_ret
    exact ⟨zQx21a5_, zQx21a1_⟩
   rw [if_pos c13] at H
   have c13b0 : decide (x7_1 < 2) = true := decide_eq_true c13
   clear c13
   have c14 : 0 ≤ x7_1 := znQx21_
   rw [if_pos c14] at H
   have c14b0 : decide (0 ≤ x7_1) = true := decide_eq_true c14
   clear c14
   have c15 : x7_1 < (l1.length : Int) := znQx21_
   rw [if_pos c15] at H
   have c15b0 : decide (x7_1 < (l1.length : Int)) = true := decide_eq_true c15
   clear c15
   have H' := Aside0.mk H
   clear H
   have p325 : 0 ≤ (x7_1 : Int) := of_decide_eq_true zQx21a6_
   have q325 : x7_1 < (l1.length : Int) := of_decide_eq_true zQx21a6_
   obtain ⟨ad325, e325, hx325_0⟩ := Kd.at_int HR1.out x7_1 p325 q325
   cases e325
   replace hx325_0 := (HB.out.cell (World.block_lt_of_cell? w _ hx325_0)).trans hx325_0
   replace p325 := eq_true p325
   replace q325 := eq_true q325
   go_wp2
   go_loopg [8, 9, 10] k1 (fun kq v8 v9 v10 w' => ∃ (x8_2 : Int) (x9_2 : ByteArray) (x10_2 : Int), v8 = .int .i64 x8_2 ∧ v9 = .string x9_2 ∧ v10 = .int .i64 x10_2 ∧ Aside0 (basculeref22_Text.l1 kq l1 x5_1 (⟨#[48, 49, 50, 51, 52, 53, 54, 55, 56, 57, 97, 98, 99, 100, 101, 102]⟩ : ByteArray) x7_1 x8_2 x9_2 x10_2 = some r) ∧ Aside0 (kq ≤ k1) ∧ Aside0 (w'.heap[gb320]? = some (.cells #[.string a0_0, .int .i64 a0_1, .int .i64 a0_2, .int .i64 a0_3, .int .i64 a0_4, .int .i64 a0_5, .int .i64 a0_6, .bool a0_7] 23 (0, 0))) ∧ Aside0 (Below w.heap.size w w'))
   case atStart => exact ⟨(rd l1 x7_1), ((⟨#[]⟩ : ByteArray)), (0), zQx21a4_, zQx21a4_, zQx21a4_, H', ⟨Nat.le_refl _⟩, ⟨zQx21a3_⟩, ⟨zQx21a1_⟩⟩
   case round =>
    clear H'
    try clear c1
    try clear p2
    try clear c3
    try clear c3b0
    try clear c3b1
    try clear p3
    try clear q3
    try clear hx3
    try clear qi3
    try clear c4
    try clear c4b0
    try clear c4b1
    try clear p6
    try clear hcv9
    try clear c10
    try clear c10b0
    try clear c10b1
    try clear c13
    try clear c13b0
    try clear c14
    try clear c14b0
    try clear c15
    try clear c15b0
    try clear hcz12_0
    try clear hcz12_1
    try clear hcz12_2
    try clear hcz12_3
    try clear hcz12_4
    try clear hcz12_5
    try clear hcz12_6
    try clear hcz12_7
    try clear hcz6_0
    try clear hcz6_1
    try clear hcz6_2
    try clear hcz6_3
    try clear hcz6_4
    try clear hcz6_5
    try clear hcz6_6
    try clear hcz6_7
    try clear hfz12_0
    try clear hfz12_1
    try clear hfz12_2
    try clear hfz12_3
    try clear hfz12_4
    try clear hfz12_5
    try clear hfz12_6
    try clear hfz12_7
    try clear hfz6_0
    try clear hfz6_1
    try clear hfz6_2
    try clear hfz6_3
    try clear hfz6_4
    try clear hfz6_5
    try clear hfz6_6
    try clear hfz6_7
    try clear hx321_0
    try clear hx325_0
    try clear p2
    try clear p3
    try clear p321
    try clear p325
    try clear p6
    try clear q3
    try clear q321
    try clear q325
    obtain ⟨x8_2, x9_2, x10_2, rfl, rfl, rfl, HA, HK2, BK320, HB⟩ := hrel
    cases gk with
    | zero => exact absurd HA.out (by simp [basculeref22_Text.l1])
    | succ k2 =>
     have H := HA.out
     clear HA
     simp only [basculeref22_Text.l1] at H
     by_cases c16 : x10_2 < 4
     rotate_left
     ·
      rw [if_neg c16] at H
      have c16b0 : decide (x10_2 < 4) = false := decide_eq_false c16
      clear c16
      have c22 : x5_1.size + x9_2.size ≤ 9223372036854775807 := znQx21_
      rw [if_pos c22] at H
      have c22b0 := eq_true c22
      have c22b1 : decide (x5_1.size + x9_2.size ≤ 9223372036854775807) = true := decide_eq_true c22
      try have c22b2 : (9223372036854775807 < x5_1.size + x9_2.size) = False := eq_false (Nat.not_lt.2 c22)
      have H' := Aside0.mk H
      clear H
      go_wp2
      go_roundg k2
      case measure => have := HK1.out; have := HK2.out; omega
      case rel => exact ⟨(x5_1 ++ x9_2), (wrap64 (x7_1 + 1)), zQx21a4_, zQx21a4_, H', ⟨zQx21a8_⟩, ⟨zQx21a3_⟩, ⟨zQx21a1_⟩⟩
     rw [if_pos c16] at H
     have c16b0 : decide (x10_2 < 4) = true := decide_eq_true c16
     clear c16
     obtain ⟨ji17, hji17⟩ : ∃ j_ : Int, (Int.tmod x8_2 16) = j_ := ⟨_, rfl⟩
     replace H : (if 0 ≤ (ji17) then (if (ji17) ≤ (wrap64 ((ji17) + 1)) then (if (wrap64 ((ji17) + 1)) ≤ ((⟨#[48, 49, 50, 51, 52, 53, 54, 55, 56, 57, 97, 98, 99, 100, 101, 102]⟩ : ByteArray).size : Int) then (if ((⟨#[48, 49, 50, 51, 52, 53, 54, 55, 56, 57, 97, 98, 99, 100, 101, 102]⟩ : ByteArray).extract ((ji17) : Int).toNat ((wrap64 ((ji17) + 1)) : Int).toNat).size + x9_2.size ≤ 9223372036854775807 then (basculeref22_Text.l1 k2 l1 x5_1 (⟨#[48, 49, 50, 51, 52, 53, 54, 55, 56, 57, 97, 98, 99, 100, 101, 102]⟩ : ByteArray) x7_1 (wrap64 (Int.tdiv x8_2 16)) (((⟨#[48, 49, 50, 51, 52, 53, 54, 55, 56, 57, 97, 98, 99, 100, 101, 102]⟩ : ByteArray).extract ((ji17) : Int).toNat ((wrap64 ((ji17) + 1)) : Int).toNat) ++ x9_2) (wrap64 (x10_2 + 1))) else (none)) else (none)) else (none)) else (none)) = some r := by first | (rw [hji17] at H; exact H) | (simp only [hji17] at H ⊢; exact H)
     have c18 : 0 ≤ (ji17) := znQx21_
     rw [if_pos c18] at H
     have c18b0 := eq_true c18
     have c18b1 : decide (0 ≤ (ji17)) = true := decide_eq_true c18
     clear c18
     have c19 : (ji17) ≤ (wrap64 ((ji17) + 1)) := znQx21_
     rw [if_pos c19] at H
     have c19b0 := eq_true c19
     have c19b1 : decide ((ji17) ≤ (wrap64 ((ji17) + 1))) = true := decide_eq_true c19
     have c20 : (wrap64 ((ji17) + 1)) ≤ ((⟨#[48, 49, 50, 51, 52, 53, 54, 55, 56, 57, 97, 98, 99, 100, 101, 102]⟩ : ByteArray).size : Int) := znQx21_
     rw [if_pos c20] at H
     have c20b0 := eq_true c20
     have c20b8 : (((wrap64 ((ji17) + 1))) ≤ (16 : Int)) = True := c20b0
     have c20b1 : decide ((wrap64 ((ji17) + 1)) ≤ ((⟨#[48, 49, 50, 51, 52, 53, 54, 55, 56, 57, 97, 98, 99, 100, 101, 102]⟩ : ByteArray).size : Int)) = true := decide_eq_true c20
     have c21 : ((⟨#[48, 49, 50, 51, 52, 53, 54, 55, 56, 57, 97, 98, 99, 100, 101, 102]⟩ : ByteArray).extract ((ji17) : Int).toNat ((wrap64 ((ji17) + 1)) : Int).toNat).size + x9_2.size ≤ 9223372036854775807 := znQx21_
     rw [if_pos c21] at H
     have c21b0 := eq_true c21
     have c21b1 : decide (((⟨#[48, 49, 50, 51, 52, 53, 54, 55, 56, 57, 97, 98, 99, 100, 101, 102]⟩ : ByteArray).extract ((ji17) : Int).toNat ((wrap64 ((ji17) + 1)) : Int).toNat).size + x9_2.size ≤ 9223372036854775807) = true := decide_eq_true c21
     try have c21b2 : (9223372036854775807 < ((⟨#[48, 49, 50, 51, 52, 53, 54, 55, 56, 57, 97, 98, 99, 100, 101, 102]⟩ : ByteArray).extract ((ji17) : Int).toNat ((wrap64 ((ji17) + 1)) : Int).toNat).size + x9_2.size) = False := eq_false (Nat.not_lt.2 c21)
     have H' := Aside0.mk H
     clear H
     go_wp2
     go_roundg k2
     case measure => have := HK1.out; have := HK2.out; omega
     case rel => exact ⟨(wrap64 (Int.tdiv x8_2 16)), (((⟨#[48, 49, 50, 51, 52, 53, 54, 55, 56, 57, 97, 98, 99, 100, 101, 102]⟩ : ByteArray).extract ((ji17) : Int).toNat ((wrap64 ((ji17) + 1)) : Int).toNat) ++ x9_2), (wrap64 (x10_2 + 1)), zQx21a4_, (by first | rfl | (simp; done) | (simp only [← hji17] <;> (first | rfl | simp)) | (simp [*]; done)), zQx21a4_, H', ⟨zQx21a8_⟩, ⟨zQx21a3_⟩, ⟨zQx21a1_⟩⟩
end Go.Proofs.YtmkekhjbbapngaaGreatDoor.Q
