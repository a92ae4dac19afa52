/- What the proof of TableParses leans on: Qx12. -/
import Derived.Test.YtbfhiiokajbdhaaGreatDoorSTableParsesQx0
import Derived.Test.YtbfhiiokajbdhaaGreatDoorSTableParsesQx1
import Derived.Test.YtbfhiiokajbdhaaGreatDoorSTableParsesQx5
import Derived.Test.YtbfhiiokajbdhaaGreatDoorSTableParsesParse
import Derived.Test.YtbfhiiokajbdhaaGreatDoorSTableParsesQx11
namespace Go.Proofs.YtbfhiiokajbdhaaGreatDoor.Q
open Go.RowKit Go.Proofs.YtbfhiiokajbdhaaGreatDoorW.PrintWords Go.Proofs.YtbfhiiokajbdhaaGreatDoorW.PrintLast Go.Proofs.YtbfhiiokajbdhaaGreatDoorW.PrintMore
attribute [local go_sem] max2_int max_two
set_option linter.unusedVariables false
set_option linter.unusedSimpArgs false
attribute [local go_sem high] eqA34
theorem zQx12a0_ {P_ : Prop} (h_ : P_ := by repeat (first | (with_reducible first | exact HB.out | apply below_alloc | apply pw_below_drewN | apply below_drew1) | exact HB.out)) : P_ := h_
theorem zQx12a1_ {P_ : Prop} (h_ : P_ := by (try simp only [List.map_toArray, List.map_cons, List.map_nil]); first | done | rfl | (simp only [List.length_drop, List.length_take]; rfl)) : P_ := h_
theorem zQx12a2_ {P_ : Prop} (h_ : P_ := by (with_reducible repeat (first | apply Kd.R_alloc | apply Kd.R_drewN | apply Kd.R_drew)); exact HO201.out) : P_ := h_
theorem zQx12a3_ {P_ : Prop} (h_ : P_ := by first | rfl | (simp [errW_none, errW_some] <;> rfl) | (simp [*, errW_none, errW_some] <;> rfl)) : P_ := h_
theorem zQx12a4_ {P_ : Prop} (h_ : P_ := by (with_reducible repeat (first | apply Kd.R_alloc | apply Kd.R_drewN | apply Kd.R_drew)); exact HO206.out) : P_ := h_
theorem zQx12a5_ {P_ : Prop} (h_ : P_ := by first | (with_reducible assumption) | assumption) : P_ := h_
theorem zQx12a6_ {P_ : Prop} (h_ : P_ := by repeat (first | exact Drawn0.refl _ | apply Drawn0.step)) : P_ := h_
theorem zQx12a7_ {P_ : Prop} (h_ : P_ := by first | rfl | (simp; done) | (simp [*]; done)) : P_ := h_
theorem znQx12_ {X_ : Prop} [Decidable X_] (h_ : ¬ X_ → False := by intro c_; rw [if_neg c_] at H; exact absurd H (by simp)) : X_ := Decidable.byContradiction h_
def basculeref21_Rows.l0 : Nat → List (S34) → List (S34) → Int → Option (Bool)
 | 0, _, _, _ => none
 | k + 1, x0, x1, x5 => if x5 < (x0.length : Int) then (if 0 ≤ x5 then (if x5 < (x1.length : Int) then (if (!((((rd_T34 x0 x5).f0).toList) == (((rd_T34 x1 x5).f0).toList)) || (!(((rd_T34 x0 x5).f1) == ((rd_T34 x1 x5).f1)) || (!(((rd_T34 x0 x5).f2) == ((rd_T34 x1 x5).f2)) || (!(((rd_T34 x0 x5).f3) == ((rd_T34 x1 x5).f3)) || (!(((rd_T34 x0 x5).f4) == ((rd_T34 x1 x5).f4)) || (!(((rd_T34 x0 x5).f5) == ((rd_T34 x1 x5).f5)) || (!(((rd_T34 x0 x5).f6) == ((rd_T34 x1 x5).f6)) || (!(((rd_T34 x0 x5).f7) == ((rd_T34 x1 x5).f7)))))))))) = true then (some false) else (basculeref21_Rows.l0 k x0 x1 (wrap64 (x5 + 1)))) else (none)) else (none)) else (some true)
def basculeref21_Rows.f (k : Nat) (l0 : List (S34)) (l1 : List (S34)) : Option (Bool) := if (l0.length : Int) = (l1.length : Int) then (basculeref21_Rows.l0 k l0 l1 0) else (some false)
set_option maxHeartbeats 8000000 in
set_option maxRecDepth 100000 in
theorem basculeref21_Rows.calls (k : Nat) (A0 : Option Addr) (c0 : Nat) (l0 : List (S34)) (A1 : Option Addr) (c1 : Nat) (l1 : List (S34)) (r : Bool) (w : World) (hr0 : Kd.C k34 w A0 l0.length l0) (hc0 : l0.length ≤ c0) (hr1 : Kd.C k34 w A1 l1.length l1) (hc1 : l1.length ≤ c1) (h : basculeref21_Rows.f k l0 l1 = some r) :
  Calls Tryz.prog 10 #[.slice A0 l0.length c0, .slice A1 l1.length c1] w fun e w' => e = .returned (.bool r) ∧ Drawn0 w w' := by
 have hu34 := Tryz.underlying34
 have HR0 := Aside0.mk hr0
 have HC0 := Aside0.mk hc0
 clear hr0 hc0
 have HR1 := Aside0.mk hr1
 have HC1 := Aside0.mk hc1
 clear hr1 hc1
 have H : (if (l0.length : Int) = (l1.length : Int) then (basculeref21_Rows.l0 k l0 l1 0) else (some false)) = some r := h
 clear h
 by_cases c3 : (l0.length : Int) = (l1.length : Int)
 rotate_left
 ·
  rw [if_neg c3] at H
  have c3b0 : ((l0.length : Int) == (l1.length : Int)) = false := beq_eq_false_iff_ne.mpr c3
  have c3b1 : ((l0.length : Int) != (l1.length : Int)) = true := bne_iff_ne.mpr c3
  have c3b2 : (l0.length == l1.length) = false := by first | simpa using c3 | (simp at c3 ⊢; omega)
  obtain rfl := Option.some.inj H
  go_enter Tryz.func10, Tryz.ntmps10
  go_wp2
  repeat (go_quiet (fail); try go_wp2)
  go_ret
  exact ⟨zQx12a7_, zQx12a6_⟩
 rw [if_pos c3] at H
 have c3b0 : ((l0.length : Int) == (l1.length : Int)) = true := beq_iff_eq.mpr c3
 have c3b1 : ((l0.length : Int) != (l1.length : Int)) = false := bne_eq_false_iff_eq.mpr c3
 have c3b2 : (l0.length == l1.length) = true := by first | simpa using c3 | (simp at c3 ⊢; omega)
 clear c3
 have H' := Aside0.mk H
 clear H
 go_enter Tryz.func10, Tryz.ntmps10
 go_wp2
 repeat (go_quiet (fail); try go_wp2)
 go_loopg [5] k (fun kq v5 w' => ∃ (x5_1 : Int), v5 = .int .i64 x5_1 ∧ Aside0 (basculeref21_Rows.l0 kq l0 l1 x5_1 = some r) ∧ Aside0 (kq ≤ k) ∧ Drawn0 w w')
 case atStart => exact ⟨(0), zQx12a7_, H', ⟨Nat.le_refl _⟩, zQx12a6_⟩
 case round =>
  clear H'
  try clear c1
  try clear p2
  try clear c3
  try clear c3b0
  try clear c3b1
  try clear c3b2
  obtain ⟨x5_1, rfl, HA, HK1, ⟨m1, rfl⟩⟩ := hrel
  cases gk with
  | zero => exact absurd HA.out (by simp [basculeref21_Rows.l0])
  | succ k1 =>
   have H := HA.out
   clear HA
   simp only [basculeref21_Rows.l0] at H
   by_cases c4 : x5_1 < (l0.length : Int)
   rotate_left
   ·
    rw [if_neg c4] at H
    have c4b0 : decide (x5_1 < (l0.length : Int)) = false := decide_eq_false c4
    clear c4
    obtain rfl := Option.some.inj H
    go_wp2
    repeat (go_quiet (fail); try go_wp2)
    go_ret
    exact ⟨zQx12a7_, zQx12a6_⟩
   rw [if_pos c4] at H
   have c4b0 : decide (x5_1 < (l0.length : Int)) = true := decide_eq_true c4
   clear c4
   have c5 : 0 ≤ x5_1 := znQx12_
   rw [if_pos c5] at H
   have c5b0 : decide (0 ≤ x5_1) = true := decide_eq_true c5
   clear c5
   have c6 : x5_1 < (l1.length : Int) := znQx12_
   rw [if_pos c6] at H
   have c6b0 : decide (x5_1 < (l1.length : Int)) = true := decide_eq_true c6
   clear c6
   by_cases c7 : (!((((rd_T34 l0 x5_1).f0).toList) == (((rd_T34 l1 x5_1).f0).toList)) || (!(((rd_T34 l0 x5_1).f1) == ((rd_T34 l1 x5_1).f1)) || (!(((rd_T34 l0 x5_1).f2) == ((rd_T34 l1 x5_1).f2)) || (!(((rd_T34 l0 x5_1).f3) == ((rd_T34 l1 x5_1).f3)) || (!(((rd_T34 l0 x5_1).f4) == ((rd_T34 l1 x5_1).f4)) || (!(((rd_T34 l0 x5_1).f5) == ((rd_T34 l1 x5_1).f5)) || (!(((rd_T34 l0 x5_1).f6) == ((rd_T34 l1 x5_1).f6)) || (!(((rd_T34 l0 x5_1).f7) == ((rd_T34 l1 x5_1).f7)))))))))) = true
   ·
    rw [if_pos c7] at H
    have c7b0 : (!((((rd_T34 l0 x5_1).f0).toList) == (((rd_T34 l1 x5_1).f0).toList)) || (!(((rd_T34 l0 x5_1).f1) == ((rd_T34 l1 x5_1).f1)) || (!(((rd_T34 l0 x5_1).f2) == ((rd_T34 l1 x5_1).f2)) || (!(((rd_T34 l0 x5_1).f3) == ((rd_T34 l1 x5_1).f3)) || (!(((rd_T34 l0 x5_1).f4) == ((rd_T34 l1 x5_1).f4)) || (!(((rd_T34 l0 x5_1).f5) == ((rd_T34 l1 x5_1).f5)) || (!(((rd_T34 l0 x5_1).f6) == ((rd_T34 l1 x5_1).f6)) || (!(((rd_T34 l0 x5_1).f7) == ((rd_T34 l1 x5_1).f7)))))))))) = true := c7
    clear c7
    obtain rfl := Option.some.inj H
    have p195 : 0 ≤ (x5_1 : Int) := of_decide_eq_true zQx12a5_
    have q195 : x5_1 < (l0.length : Int) := of_decide_eq_true zQx12a5_
    obtain ⟨ad195, e195, hx195_0, hx195_1, hx195_2, hx195_3, hx195_4, hx195_5, hx195_6, hx195_7⟩ := at_T34 HR0.out x5_1 p195 q195
    cases e195
    replace p195 := eq_true p195
    replace q195 := eq_true q195
    have p196 : 0 ≤ (x5_1 : Int) := of_decide_eq_true zQx12a5_
    have q196 : x5_1 < (l1.length : Int) := of_decide_eq_true zQx12a5_
    obtain ⟨ad196, e196, hx196_0, hx196_1, hx196_2, hx196_3, hx196_4, hx196_5, hx196_6, hx196_7⟩ := at_T34 HR1.out x5_1 p196 q196
    cases e196
    replace p196 := eq_true p196
    replace q196 := eq_true q196
    go_wp2
    repeat (go_quiet (fail); try go_wp2)
    go_ret
    exact ⟨zQx12a7_, zQx12a6_⟩
   rw [if_neg c7] at H
   have c7b0 : (!((((rd_T34 l0 x5_1).f0).toList) == (((rd_T34 l1 x5_1).f0).toList)) || (!(((rd_T34 l0 x5_1).f1) == ((rd_T34 l1 x5_1).f1)) || (!(((rd_T34 l0 x5_1).f2) == ((rd_T34 l1 x5_1).f2)) || (!(((rd_T34 l0 x5_1).f3) == ((rd_T34 l1 x5_1).f3)) || (!(((rd_T34 l0 x5_1).f4) == ((rd_T34 l1 x5_1).f4)) || (!(((rd_T34 l0 x5_1).f5) == ((rd_T34 l1 x5_1).f5)) || (!(((rd_T34 l0 x5_1).f6) == ((rd_T34 l1 x5_1).f6)) || (!(((rd_T34 l0 x5_1).f7) == ((rd_T34 l1 x5_1).f7)))))))))) = false := by simpa using c7
   clear c7
   have H' := Aside0.mk H
   clear H
   have p195 : 0 ≤ (x5_1 : Int) := of_decide_eq_true zQx12a5_
   have q195 : x5_1 < (l0.length : Int) := of_decide_eq_true zQx12a5_
   obtain ⟨ad195, e195, hx195_0, hx195_1, hx195_2, hx195_3, hx195_4, hx195_5, hx195_6, hx195_7⟩ := at_T34 HR0.out x5_1 p195 q195
   cases e195
   replace p195 := eq_true p195
   replace q195 := eq_true q195
   have p196 : 0 ≤ (x5_1 : Int) := of_decide_eq_true zQx12a5_
   have q196 : x5_1 < (l1.length : Int) := of_decide_eq_true zQx12a5_
   obtain ⟨ad196, e196, hx196_0, hx196_1, hx196_2, hx196_3, hx196_4, hx196_5, hx196_6, hx196_7⟩ := at_T34 HR1.out x5_1 p196 q196
   cases e196
   replace p196 := eq_true p196
   replace q196 := eq_true q196
   go_wp2
   repeat (go_quiet (fail); try go_wp2)
   go_roundg k1
   case measure => have := HK1.out; omega
   case rel => exact ⟨(wrap64 (x5_1 + 1)), zQx12a7_, H', ⟨by have := HK1.out; omega⟩, zQx12a6_⟩
def basculelaw21_TableParses.f (k : Nat) (a0 : ByteArray) : Option (Bool) := if (a0.size : Int) > 5000 then (some true) else ((table_Parse.f a0).bind fun bt197 => ((basculeref21_Parse.f k a0).bind fun bt202 => ((basculelaw21_awake.f).bind fun t207 => (if t207 = true then ((basculeref21_Rows.f k bt197.1 bt202.1).bind fun t208 => (if t208 = true then (if bt197.2.1 = bt202.2.1 then (some (bt197.2.2 == bt202.2.2)) else (some false)) else (some false))) else (some false)))))
set_option maxHeartbeats 8000000 in
set_option maxRecDepth 100000 in
theorem basculelaw21_TableParses.calls (k : Nat) (a0 : ByteArray) (r : Bool) (w : World) (hLd_ : Val.Laid w) (h : basculelaw21_TableParses.f k a0 = some r) :
  Calls Tryz.prog 3 #[.string a0] w fun e w' => e = .returned (.bool r) ∧ Below w.heap.size w w' := by
 have HB := Aside0.mk (Below.refl w.heap.size w)
 have H : (if (a0.size : Int) > 5000 then (some true) else ((table_Parse.f a0).bind fun bt197 => ((basculeref21_Parse.f k a0).bind fun bt202 => ((basculelaw21_awake.f).bind fun t207 => (if t207 = true then ((basculeref21_Rows.f k bt197.1 bt202.1).bind fun t208 => (if t208 = true then (if bt197.2.1 = bt202.2.1 then (some (bt197.2.2 == bt202.2.2)) else (some false)) else (some false))) else (some false)))))) = some r := h
 clear h
 by_cases c2 : (a0.size : Int) > 5000
 ·
  rw [if_pos c2] at H
  have c2b0 : decide (5000 < (a0.size : Int)) = true := decide_eq_true c2
  have c2b1 : decide (5000 < a0.size) = true := decide_eq_true (by omega)
  have c2b7 : (5000 < a0.size) := of_decide_eq_true c2b1
  clear c2
  obtain rfl := Option.some.inj H
  go_enter Tryz.func3, Tryz.ntmps3
  go_wp2
  go_ret
  exact ⟨zQx12a3_, zQx12a0_⟩
 rw [if_neg c2] at H
 have c2b0 : decide (5000 < (a0.size : Int)) = false := decide_eq_false c2
 have c2b1 : decide (5000 < a0.size) = false := decide_eq_false (by omega)
 clear c2
 replace H := Option.bind_eq_some_iff.mp H
 obtain ⟨⟨t197, t198, t199⟩, A30, H⟩ := H
 replace H : ((basculeref21_Parse.f k a0).bind fun bt202 => ((basculelaw21_awake.f).bind fun t207 => (if t207 = true then ((basculeref21_Rows.f k t197 bt202.1).bind fun t208 => (if t208 = true then (if t198 = bt202.2.1 then (some (t199 == bt202.2.2)) else (some false)) else (some false))) else (some false)))) = some r := H
 have A3 := Aside0.mk A30
 clear A30
 replace H := Option.bind_eq_some_iff.mp H
 obtain ⟨⟨t202, t203, t204⟩, A40, H⟩ := H
 replace H : ((basculelaw21_awake.f).bind fun t207 => (if t207 = true then ((basculeref21_Rows.f k t197 t202).bind fun t208 => (if t208 = true then (if t198 = t203 then (some (t199 == t204)) else (some false)) else (some false))) else (some false))) = some r := H
 have A4 := Aside0.mk A40
 clear A40
 replace H := Option.bind_eq_some_iff.mp H
 obtain ⟨t207, A50, H⟩ := H
 replace H : (if t207 = true then ((basculeref21_Rows.f k t197 t202).bind fun t208 => (if t208 = true then (if t198 = t203 then (some (t199 == t204)) else (some false)) else (some false))) else (some false)) = some r := H
 have A5 := Aside0.mk A50
 clear A50
 by_cases c6 : t207 = true
 rotate_left
 ·
  replace c6 := Bool.eq_false_iff.mpr c6
  subst c6
  have H1 : (some false) = some r := by rw [if_neg (show ¬ (false = true) by decide)] at H; exact H
  clear H
  have H := H1
  clear H1
  obtain rfl := Option.some.inj H
  go_enter Tryz.func3, Tryz.ntmps3
  go_wp2_with (first | ((with_reducible refine gate_callee (f := 7) rfl ?_); refine goesL_ (some 14) rfl rfl Tryz.func7 (by kernel_rfl) rfl #[.string a0] rfl zQx12a1_ ?_; (with_reducible refine (table_Parse.calls a0 t197 t198 t199 _ (Val.Laid.below hLd_ zQx12a0_) A3.out).mono ?_); rintro e w25 ⟨v200, rfl, ho0, hb⟩; refine ⟨_, rfl, ?_⟩; have n0_ := Aside0.mk (Kd.R_lower ho0 (below_size zQx12a0_)); have n1_ := Aside0.mk (below_step zQx12a0_ hb); clear HB; have HO201 := n0_; have HB := n1_; clear n0_ n1_; (try clear hb); (try clear hb2); (try clear hk); (try clear hi); (try clear ho0)) | ((with_reducible refine gate_callee (f := 8) rfl ?_); refine goesL_ (some 20) rfl rfl Tryz.func8 (by kernel_rfl) rfl #[.string a0] rfl zQx12a1_ ?_; (with_reducible refine (basculeref21_Parse.calls k a0 t202 t203 t204 _ A4.out).mono ?_); rintro e w26 ⟨v205, rfl, ho0, hb⟩; refine ⟨_, rfl, ?_⟩; have n0_ := Aside0.mk (Kd.R_elder' zQx12a2_ (Kd.R_base ho0) hb); have n1_ := Aside0.mk (Kd.R_lower (Kd.R_new' ho0 (Kd.R_lt zQx12a2_)) (below_size zQx12a0_)); have n2_ := Aside0.mk (below_step zQx12a0_ hb); clear HO201; clear HB; have HO201 := n0_; have HO206 := n1_; have HB := n2_; clear n0_ n1_ n2_; (try clear hb); (try clear hb2); (try clear hk); (try clear hi); (try clear ho0)) | ((with_reducible refine gate_callee (f := 9) rfl ?_); refine goesL_ (some 24) rfl rfl Tryz.func9 (by kernel_rfl) rfl #[] rfl zQx12a1_ ?_; (with_reducible refine (basculelaw21_awake.calls  false _ (Val.Laid.below hLd_ zQx12a0_) A5.out).mono ?_); rintro e w27 ⟨rfl, hb⟩; refine ⟨_, rfl, ?_⟩; have n0_ := Aside0.mk (Kd.R_below zQx12a2_ hb); have n1_ := Aside0.mk (Kd.R_below zQx12a4_ hb); have n2_ := Aside0.mk (below_step zQx12a0_ hb); clear HO201; clear HO206; clear HB; have HO201 := n0_; have HO206 := n1_; have HB := n2_; clear n0_ n1_ n2_; (try clear hb); (try clear hb2); (try clear hk); (try clear hi)))
  go_ret
  exact ⟨zQx12a3_, zQx12a0_⟩
 subst c6
 have H1 : ((basculeref21_Rows.f k t197 t202).bind fun t208 => (if t208 = true then (if t198 = t203 then (some (t199 == t204)) else (some false)) else (some false))) = some r := by rw [if_pos rfl] at H; exact H
 clear H
 have H := H1
 clear H1
 replace H := Option.bind_eq_some_iff.mp H
 obtain ⟨t208, A70, H⟩ := H
 replace H : (if t208 = true then (if t198 = t203 then (some (t199 == t204)) else (some false)) else (some false)) = some r := H
 have A7 := Aside0.mk A70
 clear A70
 by_cases c8 : t208 = true
 rotate_left
 ·
  replace c8 := Bool.eq_false_iff.mpr c8
  subst c8
  have H1 : (some false) = some r := by rw [if_neg (show ¬ (false = true) by decide)] at H; exact H
  clear H
  have H := H1
  clear H1
  obtain rfl := Option.some.inj H
  go_enter Tryz.func3, Tryz.ntmps3
  go_wp2_with (first | ((with_reducible refine gate_callee (f := 7) rfl ?_); refine goesL_ (some 14) rfl rfl Tryz.func7 (by kernel_rfl) rfl #[.string a0] rfl zQx12a1_ ?_; (with_reducible refine (table_Parse.calls a0 t197 t198 t199 _ (Val.Laid.below hLd_ zQx12a0_) A3.out).mono ?_); rintro e w20 ⟨v200, rfl, ho0, hb⟩; refine ⟨_, rfl, ?_⟩; have n0_ := Aside0.mk (Kd.R_lower ho0 (below_size zQx12a0_)); have n1_ := Aside0.mk (below_step zQx12a0_ hb); clear HB; have HO201 := n0_; have HB := n1_; clear n0_ n1_; (try clear hb); (try clear hb2); (try clear hk); (try clear hi); (try clear ho0)) | ((with_reducible refine gate_callee (f := 8) rfl ?_); refine goesL_ (some 20) rfl rfl Tryz.func8 (by kernel_rfl) rfl #[.string a0] rfl zQx12a1_ ?_; (with_reducible refine (basculeref21_Parse.calls k a0 t202 t203 t204 _ A4.out).mono ?_); rintro e w21 ⟨v205, rfl, ho0, hb⟩; refine ⟨_, rfl, ?_⟩; have n0_ := Aside0.mk (Kd.R_elder' zQx12a2_ (Kd.R_base ho0) hb); have n1_ := Aside0.mk (Kd.R_lower (Kd.R_new' ho0 (Kd.R_lt zQx12a2_)) (below_size zQx12a0_)); have n2_ := Aside0.mk (below_step zQx12a0_ hb); clear HO201; clear HB; have HO201 := n0_; have HO206 := n1_; have HB := n2_; clear n0_ n1_ n2_; (try clear hb); (try clear hb2); (try clear hk); (try clear hi); (try clear ho0)) | ((with_reducible refine gate_callee (f := 9) rfl ?_); refine goesL_ (some 24) rfl rfl Tryz.func9 (by kernel_rfl) rfl #[] rfl zQx12a1_ ?_; (with_reducible refine (basculelaw21_awake.calls  true _ (Val.Laid.below hLd_ zQx12a0_) A5.out).mono ?_); rintro e w22 ⟨rfl, hb⟩; refine ⟨_, rfl, ?_⟩; have n0_ := Aside0.mk (Kd.R_below zQx12a2_ hb); have n1_ := Aside0.mk (Kd.R_below zQx12a4_ hb); have n2_ := Aside0.mk (below_step zQx12a0_ hb); clear HO201; clear HO206; clear HB; have HO201 := n0_; have HO206 := n1_; have HB := n2_; clear n0_ n1_ n2_; (try clear hb); (try clear hb2); (try clear hk); (try clear hi); obtain ⟨Ao23, co23, eo23⟩ := Kd.R_slice HO201.out; subst eo23; obtain ⟨Ao24, co24, eo24⟩ := Kd.R_slice HO206.out; subst eo24) | (go_at_call 10; (with_reducible refine (basculeref21_Rows.calls k _ _ t197 _ _ t202 false _ ?side1 ?side2 ?side3 ?side4 A7.out).mono ?_); (case side1 => repeat (first | exact (Kd.R_reads' HO201.out).2.2 | (with_reducible refine Kd.C_alloc ?_ _) | (with_reducible refine Kd.C_drewN ?_ _) | (with_reducible refine Kd.C_drew ?_))); (case side2 => exact (Kd.R_reads' HO201.out).2.1); (case side3 => repeat (first | exact (Kd.R_reads' HO206.out).2.2 | (with_reducible refine Kd.C_alloc ?_ _) | (with_reducible refine Kd.C_drewN ?_ _) | (with_reducible refine Kd.C_drew ?_))); (case side4 => exact (Kd.R_reads' HO206.out).2.1); rintro e w' ⟨rfl, ⟨nd, rfl⟩⟩))
  go_ret
  exact ⟨zQx12a3_, zQx12a0_⟩
 subst c8
 have H1 : (if t198 = t203 then (some (t199 == t204)) else (some false)) = some r := by rw [if_pos rfl] at H; exact H
 clear H
 have H := H1
 clear H1
 by_cases c9 : t198 = t203
 rotate_left
 ·
  rw [if_neg c9] at H
  have c9b0 : (t198 == t203) = false := beq_eq_false_iff_ne.mpr c9
  have c9b1 : (t198 != t203) = true := bne_iff_ne.mpr c9
  obtain rfl := Option.some.inj H
  go_enter Tryz.func3, Tryz.ntmps3
  go_wp2_with (first | ((with_reducible refine gate_callee (f := 7) rfl ?_); refine goesL_ (some 14) rfl rfl Tryz.func7 (by kernel_rfl) rfl #[.string a0] rfl zQx12a1_ ?_; (with_reducible refine (table_Parse.calls a0 t197 t198 t199 _ (Val.Laid.below hLd_ zQx12a0_) A3.out).mono ?_); rintro e w15 ⟨v200, rfl, ho0, hb⟩; refine ⟨_, rfl, ?_⟩; have n0_ := Aside0.mk (Kd.R_lower ho0 (below_size zQx12a0_)); have n1_ := Aside0.mk (below_step zQx12a0_ hb); clear HB; have HO201 := n0_; have HB := n1_; clear n0_ n1_; (try clear hb); (try clear hb2); (try clear hk); (try clear hi); (try clear ho0)) | ((with_reducible refine gate_callee (f := 8) rfl ?_); refine goesL_ (some 20) rfl rfl Tryz.func8 (by kernel_rfl) rfl #[.string a0] rfl zQx12a1_ ?_; (with_reducible refine (basculeref21_Parse.calls k a0 t202 t203 t204 _ A4.out).mono ?_); rintro e w16 ⟨v205, rfl, ho0, hb⟩; refine ⟨_, rfl, ?_⟩; have n0_ := Aside0.mk (Kd.R_elder' zQx12a2_ (Kd.R_base ho0) hb); have n1_ := Aside0.mk (Kd.R_lower (Kd.R_new' ho0 (Kd.R_lt zQx12a2_)) (below_size zQx12a0_)); have n2_ := Aside0.mk (below_step zQx12a0_ hb); clear HO201; clear HB; have HO201 := n0_; have HO206 := n1_; have HB := n2_; clear n0_ n1_ n2_; (try clear hb); (try clear hb2); (try clear hk); (try clear hi); (try clear ho0)) | ((with_reducible refine gate_callee (f := 9) rfl ?_); refine goesL_ (some 24) rfl rfl Tryz.func9 (by kernel_rfl) rfl #[] rfl zQx12a1_ ?_; (with_reducible refine (basculelaw21_awake.calls  true _ (Val.Laid.below hLd_ zQx12a0_) A5.out).mono ?_); rintro e w17 ⟨rfl, hb⟩; refine ⟨_, rfl, ?_⟩; have n0_ := Aside0.mk (Kd.R_below zQx12a2_ hb); have n1_ := Aside0.mk (Kd.R_below zQx12a4_ hb); have n2_ := Aside0.mk (below_step zQx12a0_ hb); clear HO201; clear HO206; clear HB; have HO201 := n0_; have HO206 := n1_; have HB := n2_; clear n0_ n1_ n2_; (try clear hb); (try clear hb2); (try clear hk); (try clear hi); obtain ⟨Ao18, co18, eo18⟩ := Kd.R_slice HO201.out; subst eo18; obtain ⟨Ao19, co19, eo19⟩ := Kd.R_slice HO206.out; subst eo19) | (go_at_call 10; (with_reducible refine (basculeref21_Rows.calls k _ _ t197 _ _ t202 true _ ?side1 ?side2 ?side3 ?side4 A7.out).mono ?_); (case side1 => repeat (first | exact (Kd.R_reads' HO201.out).2.2 | (with_reducible refine Kd.C_alloc ?_ _) | (with_reducible refine Kd.C_drewN ?_ _) | (with_reducible refine Kd.C_drew ?_))); (case side2 => exact (Kd.R_reads' HO201.out).2.1); (case side3 => repeat (first | exact (Kd.R_reads' HO206.out).2.2 | (with_reducible refine Kd.C_alloc ?_ _) | (with_reducible refine Kd.C_drewN ?_ _) | (with_reducible refine Kd.C_drew ?_))); (case side4 => exact (Kd.R_reads' HO206.out).2.1); rintro e w' ⟨rfl, ⟨nd, rfl⟩⟩))
  go_ret
  exact ⟨zQx12a3_, zQx12a0_⟩
 rw [if_pos c9] at H
 have c9b0 : (t198 == t203) = true := beq_iff_eq.mpr c9
 have c9b1 : (t198 != t203) = false := bne_eq_false_iff_eq.mpr c9
 clear c9
 obtain rfl := Option.some.inj H
 go_enter Tryz.func3, Tryz.ntmps3
 go_wp2_with (first | ((with_reducible refine gate_callee (f := 7) rfl ?_); refine goesL_ (some 14) rfl rfl Tryz.func7 (by kernel_rfl) rfl #[.string a0] rfl zQx12a1_ ?_; (with_reducible refine (table_Parse.calls a0 t197 t198 t199 _ (Val.Laid.below hLd_ zQx12a0_) A3.out).mono ?_); rintro e w10 ⟨v200, rfl, ho0, hb⟩; refine ⟨_, rfl, ?_⟩; have n0_ := Aside0.mk (Kd.R_lower ho0 (below_size zQx12a0_)); have n1_ := Aside0.mk (below_step zQx12a0_ hb); clear HB; have HO201 := n0_; have HB := n1_; clear n0_ n1_; (try clear hb); (try clear hb2); (try clear hk); (try clear hi); (try clear ho0)) | ((with_reducible refine gate_callee (f := 8) rfl ?_); refine goesL_ (some 20) rfl rfl Tryz.func8 (by kernel_rfl) rfl #[.string a0] rfl zQx12a1_ ?_; (with_reducible refine (basculeref21_Parse.calls k a0 t202 t203 t204 _ A4.out).mono ?_); rintro e w11 ⟨v205, rfl, ho0, hb⟩; refine ⟨_, rfl, ?_⟩; have n0_ := Aside0.mk (Kd.R_elder' zQx12a2_ (Kd.R_base ho0) hb); have n1_ := Aside0.mk (Kd.R_lower (Kd.R_new' ho0 (Kd.R_lt zQx12a2_)) (below_size zQx12a0_)); have n2_ := Aside0.mk (below_step zQx12a0_ hb); clear HO201; clear HB; have HO201 := n0_; have HO206 := n1_; have HB := n2_; clear n0_ n1_ n2_; (try clear hb); (try clear hb2); (try clear hk); (try clear hi); (try clear ho0)) | ((with_reducible refine gate_callee (f := 9) rfl ?_); refine goesL_ (some 24) rfl rfl Tryz.func9 (by kernel_rfl) rfl #[] rfl zQx12a1_ ?_; (with_reducible refine (basculelaw21_awake.calls  true _ (Val.Laid.below hLd_ zQx12a0_) A5.out).mono ?_); rintro e w12 ⟨rfl, hb⟩; refine ⟨_, rfl, ?_⟩; have n0_ := Aside0.mk (Kd.R_below zQx12a2_ hb); have n1_ := Aside0.mk (Kd.R_below zQx12a4_ hb); have n2_ := Aside0.mk (below_step zQx12a0_ hb); clear HO201; clear HO206; clear HB; have HO201 := n0_; have HO206 := n1_; have HB := n2_; clear n0_ n1_ n2_; (try clear hb); (try clear hb2); (try clear hk); (try clear hi); obtain ⟨Ao13, co13, eo13⟩ := Kd.R_slice HO201.out; subst eo13; obtain ⟨Ao14, co14, eo14⟩ := Kd.R_slice HO206.out; subst eo14) | (go_at_call 10; (with_reducible refine (basculeref21_Rows.calls k _ _ t197 _ _ t202 true _ ?side1 ?side2 ?side3 ?side4 A7.out).mono ?_); (case side1 => repeat (first | exact (Kd.R_reads' HO201.out).2.2 | (with_reducible refine Kd.C_alloc ?_ _) | (with_reducible refine Kd.C_drewN ?_ _) | (with_reducible refine Kd.C_drew ?_))); (case side2 => exact (Kd.R_reads' HO201.out).2.1); (case side3 => repeat (first | exact (Kd.R_reads' HO206.out).2.2 | (with_reducible refine Kd.C_alloc ?_ _) | (with_reducible refine Kd.C_drewN ?_ _) | (with_reducible refine Kd.C_drew ?_))); (case side4 => exact (Kd.R_reads' HO206.out).2.1); rintro e w' ⟨rfl, ⟨nd, rfl⟩⟩))
 go_ret
 exact ⟨zQx12a3_, zQx12a0_⟩
def basculelaw21_TableParses.Pure : Prop := ∀ (a0 : ByteArray), a0.size ≤ 140737488351232 → ∃ k, basculelaw21_TableParses.f k a0 = some true
theorem basculelaw21_TableParses.walk (P : basculelaw21_TableParses.Pure) (a0 : ByteArray) (w : World) (hLd_ : Val.Laid w) (w0 : a0.size ≤ 140737488351232) :
  Calls Tryz.prog 3 #[.string a0] w fun e w' => e = .returned (.bool true) ∧ Below w.heap.size w w' := by
 obtain ⟨k, h⟩ := P a0 w0
 refine (basculelaw21_TableParses.calls k a0 true w hLd_ h).mono ?_
 rintro e w' ⟨rfl, hd⟩
 exact ⟨rfl, hd⟩
end Go.Proofs.YtbfhiiokajbdhaaGreatDoor.Q
