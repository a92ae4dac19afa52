/- What the proof of TableBlanks leans on: Qx7. -/
import Derived.Test.YtbfhiiokajbdhaaDoorSTableBlanksQx0
import Derived.Test.YtbfhiiokajbdhaaDoorSTableBlanksQx1
import Derived.Test.YtbfhiiokajbdhaaDoorSTableBlanksParse
namespace Go.Proofs.YtbfhiiokajbdhaaDoor.Q
open Go.RowKit Go.Proofs.YtbfhiiokajbdhaaDoorW.PrintWords Go.Proofs.YtbfhiiokajbdhaaDoorW.PrintLast Go.Proofs.YtbfhiiokajbdhaaDoorW.PrintMore
attribute [local go_sem] max2_int max_two
set_option linter.unusedVariables false
set_option linter.unusedSimpArgs false
attribute [local go_sem high] eqA36
theorem zQx7a0_ {P_ : Prop} (h_ : P_ := by repeat (first | (with_reducible first | exact HB.out | apply below_alloc | apply pw_below_drewN | apply below_drew1) | exact HB.out)) : P_ := h_
theorem zQx7a1_ {P_ : Prop} (h_ : P_ := by (try simp only [List.map_toArray, List.map_cons, List.map_nil]); first | done | rfl | (simp only [List.length_drop, List.length_take]; rfl)) : P_ := h_
theorem zQx7a2_ {P_ : Prop} (h_ : P_ := by (with_reducible repeat (first | apply Kd.R_alloc | apply Kd.R_drewN | apply Kd.R_drew)); exact HO130.out) : P_ := h_
theorem zQx7a3_ {P_ : Prop} (h_ : P_ := by (with_reducible repeat (first | apply Kd.R_alloc | apply Kd.R_drewN | apply Kd.R_drew)); exact HO149.out) : P_ := h_
theorem zQx7a4_ {P_ : Prop} (h_ : P_ := by (with_reducible repeat (first | apply Kd.R_alloc | apply Kd.R_drewN | apply Kd.R_drew)); exact HO135.out) : P_ := h_
theorem zQx7a5_ {P_ : Prop} (h_ : P_ := by first | rfl | (simp [errW_none, errW_some] <;> rfl) | (simp [*, errW_none, errW_some] <;> rfl)) : P_ := h_
theorem zQx7a6_ {P_ : Prop} (h_ : P_ := by first | (with_reducible assumption) | assumption) : P_ := h_
theorem zQx7a7_ {P_ : Prop} (h_ : P_ := by first | rfl | (simp; done) | (simp [*]; done)) : P_ := h_
theorem zQx7a8_ {P_ : Prop} (h_ : P_ := by (with_reducible repeat (first | apply Kd.R_alloc | apply Kd.R_drewN | apply Kd.R_drew)); exact HO154.out) : P_ := h_
theorem zQx7a9_ {P_ : Prop} (h_ : P_ := by repeat (first | exact Drawn0.refl _ | apply Drawn0.step)) : P_ := h_
theorem zQx7a10_ {P_ : Prop} (h_ : P_ := by have := HJ2.out; have := HK2.out; have := HK3.out; omega) : P_ := h_
theorem znQx7_ {X_ : Prop} [Decidable X_] (h_ : ¬ X_ → False := by intro c_; rw [if_neg c_] at H; exact absurd H (by simp)) : X_ := Decidable.byContradiction h_
def basculelaw21_awake.f  : Option (Bool) := (table_Parse.f (⟨#[116, 97, 110, 107, 47, 108, 101, 118, 101, 108, 32, 51, 32, 51, 32, 49, 54, 32, 51, 32, 49, 32, 53, 32, 114]⟩ : ByteArray)).bind fun bt126 => ((table_Parse.f (⟨#[97, 32, 49, 32, 49, 32, 48, 32, 49, 32, 48, 32, 48, 32, 114, 10, 97, 32, 49, 32, 49, 32, 48, 32, 49, 32, 48, 32, 48, 32, 114, 10]⟩ : ByteArray)).bind fun bt131 => ((table_Parse.f (⟨#[97, 32, 49]⟩ : ByteArray)).bind fun bt136 => (if (bt126.1.length : Int) = 1 then (if bt126.2.1 = 0 then (if bt126.2.2 = 0 then (if 0 < (bt126.1.length : Int) then (if ((rd_T36 bt126.1 0).f3) = 16 then (if ((rd_T36 bt126.1 0).f6) = 5 then (if bt131.2.1 = 2 then (if bt131.2.2 = 210 then (if bt136.2.1 = 1 then (some (bt136.2.2 == 4)) else (some false)) else (some false)) else (some false)) else (some false)) else (some false)) else (none)) else (some false)) else (some false)) else (some false))))
set_option maxHeartbeats 8000000 in
set_option maxRecDepth 100000 in
theorem basculelaw21_awake.calls  (r : Bool) (w : World) (hLd_ : Val.Laid w) (h : basculelaw21_awake.f  = some r) :
  Calls Tryd.prog 5 #[] w fun e w' => e = .returned (.bool r) ∧ Below w.heap.size w w' := by
 have HB := Aside0.mk (Below.refl w.heap.size w)
 have H : ((table_Parse.f (⟨#[116, 97, 110, 107, 47, 108, 101, 118, 101, 108, 32, 51, 32, 51, 32, 49, 54, 32, 51, 32, 49, 32, 53, 32, 114]⟩ : ByteArray)).bind fun bt126 => ((table_Parse.f (⟨#[97, 32, 49, 32, 49, 32, 48, 32, 49, 32, 48, 32, 48, 32, 114, 10, 97, 32, 49, 32, 49, 32, 48, 32, 49, 32, 48, 32, 48, 32, 114, 10]⟩ : ByteArray)).bind fun bt131 => ((table_Parse.f (⟨#[97, 32, 49]⟩ : ByteArray)).bind fun bt136 => (if (bt126.1.length : Int) = 1 then (if bt126.2.1 = 0 then (if bt126.2.2 = 0 then (if 0 < (bt126.1.length : Int) then (if ((rd_T36 bt126.1 0).f3) = 16 then (if ((rd_T36 bt126.1 0).f6) = 5 then (if bt131.2.1 = 2 then (if bt131.2.2 = 210 then (if bt136.2.1 = 1 then (some (bt136.2.2 == 4)) else (some false)) else (some false)) else (some false)) else (some false)) else (some false)) else (none)) else (some false)) else (some false)) else (some false))))) = some r := h
 clear h
 replace H := Option.bind_eq_some_iff.mp H
 obtain ⟨⟨t126, t127, t128⟩, A10, H⟩ := H
 replace H : ((table_Parse.f (⟨#[97, 32, 49, 32, 49, 32, 48, 32, 49, 32, 48, 32, 48, 32, 114, 10, 97, 32, 49, 32, 49, 32, 48, 32, 49, 32, 48, 32, 48, 32, 114, 10]⟩ : ByteArray)).bind fun bt131 => ((table_Parse.f (⟨#[97, 32, 49]⟩ : ByteArray)).bind fun bt136 => (if (t126.length : Int) = 1 then (if t127 = 0 then (if t128 = 0 then (if 0 < (t126.length : Int) then (if ((rd_T36 t126 0).f3) = 16 then (if ((rd_T36 t126 0).f6) = 5 then (if bt131.2.1 = 2 then (if bt131.2.2 = 210 then (if bt136.2.1 = 1 then (some (bt136.2.2 == 4)) else (some false)) else (some false)) else (some false)) else (some false)) else (some false)) else (none)) else (some false)) else (some false)) else (some false)))) = some r := H
 have A1 := Aside0.mk A10
 clear A10
 replace H := Option.bind_eq_some_iff.mp H
 obtain ⟨⟨t131, t132, t133⟩, A20, H⟩ := H
 replace H : ((table_Parse.f (⟨#[97, 32, 49]⟩ : ByteArray)).bind fun bt136 => (if (t126.length : Int) = 1 then (if t127 = 0 then (if t128 = 0 then (if 0 < (t126.length : Int) then (if ((rd_T36 t126 0).f3) = 16 then (if ((rd_T36 t126 0).f6) = 5 then (if t132 = 2 then (if t133 = 210 then (if bt136.2.1 = 1 then (some (bt136.2.2 == 4)) else (some false)) else (some false)) else (some false)) else (some false)) else (some false)) else (none)) else (some false)) else (some false)) else (some false))) = some r := H
 have A2 := Aside0.mk A20
 clear A20
 replace H := Option.bind_eq_some_iff.mp H
 obtain ⟨⟨t136, t137, t138⟩, A30, H⟩ := H
 replace H : (if (t126.length : Int) = 1 then (if t127 = 0 then (if t128 = 0 then (if 0 < (t126.length : Int) then (if ((rd_T36 t126 0).f3) = 16 then (if ((rd_T36 t126 0).f6) = 5 then (if t132 = 2 then (if t133 = 210 then (if t137 = 1 then (some (t138 == 4)) else (some false)) else (some false)) else (some false)) else (some false)) else (some false)) else (none)) else (some false)) else (some false)) else (some false)) = some r := H
 have A3 := Aside0.mk A30
 clear A30
 by_cases c4 : (t126.length : Int) = 1
 rotate_left
 ·
  rw [if_neg c4] at H
  have c4b0 : ((t126.length : Int) == 1) = false := beq_eq_false_iff_ne.mpr c4
  have c4b1 : ((t126.length : Int) != 1) = true := bne_iff_ne.mpr c4
  obtain rfl := Option.some.inj H
  go_enter Tryd.func5, Tryd.ntmps5
  go_wp2_with (first | ((with_reducible refine gate_callee (f := 4) rfl ?_); refine goesL_ (some 11) rfl rfl Tryd.func4 (by kernel_rfl) rfl #[.string (⟨#[116, 97, 110, 107, 47, 108, 101, 118, 101, 108, 32, 51, 32, 51, 32, 49, 54, 32, 51, 32, 49, 32, 53, 32, 114]⟩ : ByteArray)] rfl zQx7a1_ ?_; (with_reducible refine (table_Parse.calls (⟨#[116, 97, 110, 107, 47, 108, 101, 118, 101, 108, 32, 51, 32, 51, 32, 49, 54, 32, 51, 32, 49, 32, 53, 32, 114]⟩ : ByteArray) t126 t127 t128 _ (Val.Laid.below hLd_ zQx7a0_) A1.out).mono ?_); rintro e w45 ⟨v129, rfl, ho0, hb⟩; refine ⟨_, rfl, ?_⟩; have n0_ := Aside0.mk (Kd.R_lower ho0 (below_size zQx7a0_)); have n1_ := Aside0.mk (below_step zQx7a0_ hb); clear HB; have HO130 := n0_; have HB := n1_; clear n0_ n1_; (try clear hb); (try clear hb2); (try clear hk); (try clear hi); (try clear ho0)) | ((with_reducible refine gate_callee (f := 4) rfl ?_); refine goesL_ (some 16) rfl rfl Tryd.func4 (by kernel_rfl) rfl #[.string (⟨#[97, 32, 49, 32, 49, 32, 48, 32, 49, 32, 48, 32, 48, 32, 114, 10, 97, 32, 49, 32, 49, 32, 48, 32, 49, 32, 48, 32, 48, 32, 114, 10]⟩ : ByteArray)] rfl zQx7a1_ ?_; (with_reducible refine (table_Parse.calls (⟨#[97, 32, 49, 32, 49, 32, 48, 32, 49, 32, 48, 32, 48, 32, 114, 10, 97, 32, 49, 32, 49, 32, 48, 32, 49, 32, 48, 32, 48, 32, 114, 10]⟩ : ByteArray) t131 t132 t133 _ (Val.Laid.below hLd_ zQx7a0_) A2.out).mono ?_); rintro e w46 ⟨v134, rfl, ho0, hb⟩; refine ⟨_, rfl, ?_⟩; have n0_ := Aside0.mk (Kd.R_elder' zQx7a2_ (Kd.R_base ho0) hb); have n1_ := Aside0.mk (Kd.R_lower (Kd.R_new' ho0 (Kd.R_lt zQx7a2_)) (below_size zQx7a0_)); have n2_ := Aside0.mk (below_step zQx7a0_ hb); clear HO130; clear HB; have HO130 := n0_; have HO135 := n1_; have HB := n2_; clear n0_ n1_ n2_; (try clear hb); (try clear hb2); (try clear hk); (try clear hi); (try clear ho0)) | ((with_reducible refine gate_callee (f := 4) rfl ?_); refine goesL_ (some 21) rfl rfl Tryd.func4 (by kernel_rfl) rfl #[.string (⟨#[97, 32, 49]⟩ : ByteArray)] rfl zQx7a1_ ?_; (with_reducible refine (table_Parse.calls (⟨#[97, 32, 49]⟩ : ByteArray) t136 t137 t138 _ (Val.Laid.below hLd_ zQx7a0_) A3.out).mono ?_); rintro e w47 ⟨v139, rfl, ho0, hb⟩; refine ⟨_, rfl, ?_⟩; have n0_ := Aside0.mk (Kd.R_elder' zQx7a2_ (Kd.R_base ho0) hb); have n1_ := Aside0.mk (Kd.R_elder' zQx7a4_ (Kd.R_base ho0) hb); have n2_ := Aside0.mk (Kd.R_lower (Kd.R_new' (Kd.R_new' ho0 (Kd.R_lt zQx7a2_)) (Kd.R_lt zQx7a4_)) (below_size zQx7a0_)); have n3_ := Aside0.mk (below_step zQx7a0_ hb); clear HO130; clear HO135; clear HB; have HO130 := n0_; have HO135 := n1_; have HO140 := n2_; have HB := n3_; clear n0_ n1_ n2_ n3_; (try clear hb); (try clear hb2); (try clear hk); (try clear hi); (try clear ho0); obtain ⟨Ao48, co48, eo48⟩ := Kd.R_slice HO130.out; subst eo48))
  go_ret
  exact ⟨zQx7a5_, zQx7a0_⟩
 rw [if_pos c4] at H
 have c4b0 : ((t126.length : Int) == 1) = true := beq_iff_eq.mpr c4
 have c4b1 : ((t126.length : Int) != 1) = false := bne_eq_false_iff_eq.mpr c4
 clear c4
 by_cases c5 : t127 = 0
 rotate_left
 ·
  rw [if_neg c5] at H
  have c5b0 : (t127 == 0) = false := beq_eq_false_iff_ne.mpr c5
  have c5b1 : (t127 != 0) = true := bne_iff_ne.mpr c5
  obtain rfl := Option.some.inj H
  go_enter Tryd.func5, Tryd.ntmps5
  go_wp2_with (first | ((with_reducible refine gate_callee (f := 4) rfl ?_); refine goesL_ (some 11) rfl rfl Tryd.func4 (by kernel_rfl) rfl #[.string (⟨#[116, 97, 110, 107, 47, 108, 101, 118, 101, 108, 32, 51, 32, 51, 32, 49, 54, 32, 51, 32, 49, 32, 53, 32, 114]⟩ : ByteArray)] rfl zQx7a1_ ?_; (with_reducible refine (table_Parse.calls (⟨#[116, 97, 110, 107, 47, 108, 101, 118, 101, 108, 32, 51, 32, 51, 32, 49, 54, 32, 51, 32, 49, 32, 53, 32, 114]⟩ : ByteArray) t126 t127 t128 _ (Val.Laid.below hLd_ zQx7a0_) A1.out).mono ?_); rintro e w41 ⟨v129, rfl, ho0, hb⟩; refine ⟨_, rfl, ?_⟩; have n0_ := Aside0.mk (Kd.R_lower ho0 (below_size zQx7a0_)); have n1_ := Aside0.mk (below_step zQx7a0_ hb); clear HB; have HO130 := n0_; have HB := n1_; clear n0_ n1_; (try clear hb); (try clear hb2); (try clear hk); (try clear hi); (try clear ho0)) | ((with_reducible refine gate_callee (f := 4) rfl ?_); refine goesL_ (some 16) rfl rfl Tryd.func4 (by kernel_rfl) rfl #[.string (⟨#[97, 32, 49, 32, 49, 32, 48, 32, 49, 32, 48, 32, 48, 32, 114, 10, 97, 32, 49, 32, 49, 32, 48, 32, 49, 32, 48, 32, 48, 32, 114, 10]⟩ : ByteArray)] rfl zQx7a1_ ?_; (with_reducible refine (table_Parse.calls (⟨#[97, 32, 49, 32, 49, 32, 48, 32, 49, 32, 48, 32, 48, 32, 114, 10, 97, 32, 49, 32, 49, 32, 48, 32, 49, 32, 48, 32, 48, 32, 114, 10]⟩ : ByteArray) t131 t132 t133 _ (Val.Laid.below hLd_ zQx7a0_) A2.out).mono ?_); rintro e w42 ⟨v134, rfl, ho0, hb⟩; refine ⟨_, rfl, ?_⟩; have n0_ := Aside0.mk (Kd.R_elder' zQx7a2_ (Kd.R_base ho0) hb); have n1_ := Aside0.mk (Kd.R_lower (Kd.R_new' ho0 (Kd.R_lt zQx7a2_)) (below_size zQx7a0_)); have n2_ := Aside0.mk (below_step zQx7a0_ hb); clear HO130; clear HB; have HO130 := n0_; have HO135 := n1_; have HB := n2_; clear n0_ n1_ n2_; (try clear hb); (try clear hb2); (try clear hk); (try clear hi); (try clear ho0)) | ((with_reducible refine gate_callee (f := 4) rfl ?_); refine goesL_ (some 21) rfl rfl Tryd.func4 (by kernel_rfl) rfl #[.string (⟨#[97, 32, 49]⟩ : ByteArray)] rfl zQx7a1_ ?_; (with_reducible refine (table_Parse.calls (⟨#[97, 32, 49]⟩ : ByteArray) t136 t137 t138 _ (Val.Laid.below hLd_ zQx7a0_) A3.out).mono ?_); rintro e w43 ⟨v139, rfl, ho0, hb⟩; refine ⟨_, rfl, ?_⟩; have n0_ := Aside0.mk (Kd.R_elder' zQx7a2_ (Kd.R_base ho0) hb); have n1_ := Aside0.mk (Kd.R_elder' zQx7a4_ (Kd.R_base ho0) hb); have n2_ := Aside0.mk (Kd.R_lower (Kd.R_new' (Kd.R_new' ho0 (Kd.R_lt zQx7a2_)) (Kd.R_lt zQx7a4_)) (below_size zQx7a0_)); have n3_ := Aside0.mk (below_step zQx7a0_ hb); clear HO130; clear HO135; clear HB; have HO130 := n0_; have HO135 := n1_; have HO140 := n2_; have HB := n3_; clear n0_ n1_ n2_ n3_; (try clear hb); (try clear hb2); (try clear hk); (try clear hi); (try clear ho0); obtain ⟨Ao44, co44, eo44⟩ := Kd.R_slice HO130.out; subst eo44))
  go_ret
  exact ⟨zQx7a5_, zQx7a0_⟩
 rw [if_pos c5] at H
 have c5b0 : (t127 == 0) = true := beq_iff_eq.mpr c5
 have c5b1 : (t127 != 0) = false := bne_eq_false_iff_eq.mpr c5
 clear c5
 by_cases c6 : t128 = 0
 rotate_left
 ·
  rw [if_neg c6] at H
  have c6b0 : (t128 == 0) = false := beq_eq_false_iff_ne.mpr c6
  have c6b1 : (t128 != 0) = true := bne_iff_ne.mpr c6
  obtain rfl := Option.some.inj H
  go_enter Tryd.func5, Tryd.ntmps5
  go_wp2_with (first | ((with_reducible refine gate_callee (f := 4) rfl ?_); refine goesL_ (some 11) rfl rfl Tryd.func4 (by kernel_rfl) rfl #[.string (⟨#[116, 97, 110, 107, 47, 108, 101, 118, 101, 108, 32, 51, 32, 51, 32, 49, 54, 32, 51, 32, 49, 32, 53, 32, 114]⟩ : ByteArray)] rfl zQx7a1_ ?_; (with_reducible refine (table_Parse.calls (⟨#[116, 97, 110, 107, 47, 108, 101, 118, 101, 108, 32, 51, 32, 51, 32, 49, 54, 32, 51, 32, 49, 32, 53, 32, 114]⟩ : ByteArray) t126 t127 t128 _ (Val.Laid.below hLd_ zQx7a0_) A1.out).mono ?_); rintro e w37 ⟨v129, rfl, ho0, hb⟩; refine ⟨_, rfl, ?_⟩; have n0_ := Aside0.mk (Kd.R_lower ho0 (below_size zQx7a0_)); have n1_ := Aside0.mk (below_step zQx7a0_ hb); clear HB; have HO130 := n0_; have HB := n1_; clear n0_ n1_; (try clear hb); (try clear hb2); (try clear hk); (try clear hi); (try clear ho0)) | ((with_reducible refine gate_callee (f := 4) rfl ?_); refine goesL_ (some 16) rfl rfl Tryd.func4 (by kernel_rfl) rfl #[.string (⟨#[97, 32, 49, 32, 49, 32, 48, 32, 49, 32, 48, 32, 48, 32, 114, 10, 97, 32, 49, 32, 49, 32, 48, 32, 49, 32, 48, 32, 48, 32, 114, 10]⟩ : ByteArray)] rfl zQx7a1_ ?_; (with_reducible refine (table_Parse.calls (⟨#[97, 32, 49, 32, 49, 32, 48, 32, 49, 32, 48, 32, 48, 32, 114, 10, 97, 32, 49, 32, 49, 32, 48, 32, 49, 32, 48, 32, 48, 32, 114, 10]⟩ : ByteArray) t131 t132 t133 _ (Val.Laid.below hLd_ zQx7a0_) A2.out).mono ?_); rintro e w38 ⟨v134, rfl, ho0, hb⟩; refine ⟨_, rfl, ?_⟩; have n0_ := Aside0.mk (Kd.R_elder' zQx7a2_ (Kd.R_base ho0) hb); have n1_ := Aside0.mk (Kd.R_lower (Kd.R_new' ho0 (Kd.R_lt zQx7a2_)) (below_size zQx7a0_)); have n2_ := Aside0.mk (below_step zQx7a0_ hb); clear HO130; clear HB; have HO130 := n0_; have HO135 := n1_; have HB := n2_; clear n0_ n1_ n2_; (try clear hb); (try clear hb2); (try clear hk); (try clear hi); (try clear ho0)) | ((with_reducible refine gate_callee (f := 4) rfl ?_); refine goesL_ (some 21) rfl rfl Tryd.func4 (by kernel_rfl) rfl #[.string (⟨#[97, 32, 49]⟩ : ByteArray)] rfl zQx7a1_ ?_; (with_reducible refine (table_Parse.calls (⟨#[97, 32, 49]⟩ : ByteArray) t136 t137 t138 _ (Val.Laid.below hLd_ zQx7a0_) A3.out).mono ?_); rintro e w39 ⟨v139, rfl, ho0, hb⟩; refine ⟨_, rfl, ?_⟩; have n0_ := Aside0.mk (Kd.R_elder' zQx7a2_ (Kd.R_base ho0) hb); have n1_ := Aside0.mk (Kd.R_elder' zQx7a4_ (Kd.R_base ho0) hb); have n2_ := Aside0.mk (Kd.R_lower (Kd.R_new' (Kd.R_new' ho0 (Kd.R_lt zQx7a2_)) (Kd.R_lt zQx7a4_)) (below_size zQx7a0_)); have n3_ := Aside0.mk (below_step zQx7a0_ hb); clear HO130; clear HO135; clear HB; have HO130 := n0_; have HO135 := n1_; have HO140 := n2_; have HB := n3_; clear n0_ n1_ n2_ n3_; (try clear hb); (try clear hb2); (try clear hk); (try clear hi); (try clear ho0); obtain ⟨Ao40, co40, eo40⟩ := Kd.R_slice HO130.out; subst eo40))
  go_ret
  exact ⟨zQx7a5_, zQx7a0_⟩
 rw [if_pos c6] at H
 have c6b0 : (t128 == 0) = true := beq_iff_eq.mpr c6
 have c6b1 : (t128 != 0) = false := bne_eq_false_iff_eq.mpr c6
 clear c6
 have c7 : 0 < (t126.length : Int) := znQx7_
 rw [if_pos c7] at H
 have c7b0 : decide (0 < (t126.length : Int)) = true := decide_eq_true c7
 have c7b1 : decide (0 < t126.length) = true := decide_eq_true (by omega)
 clear c7
 by_cases c8 : ((rd_T36 t126 0).f3) = 16
 rotate_left
 ·
  rw [if_neg c8] at H
  have c8b0 : (((rd_T36 t126 0).f3) == 16) = false := beq_eq_false_iff_ne.mpr c8
  have c8b1 : (((rd_T36 t126 0).f3) != 16) = true := bne_iff_ne.mpr c8
  obtain rfl := Option.some.inj H
  go_enter Tryd.func5, Tryd.ntmps5
  go_wp2_with (first | ((with_reducible refine gate_callee (f := 4) rfl ?_); refine goesL_ (some 11) rfl rfl Tryd.func4 (by kernel_rfl) rfl #[.string (⟨#[116, 97, 110, 107, 47, 108, 101, 118, 101, 108, 32, 51, 32, 51, 32, 49, 54, 32, 51, 32, 49, 32, 53, 32, 114]⟩ : ByteArray)] rfl zQx7a1_ ?_; (with_reducible refine (table_Parse.calls (⟨#[116, 97, 110, 107, 47, 108, 101, 118, 101, 108, 32, 51, 32, 51, 32, 49, 54, 32, 51, 32, 49, 32, 53, 32, 114]⟩ : ByteArray) t126 t127 t128 _ (Val.Laid.below hLd_ zQx7a0_) A1.out).mono ?_); rintro e w33 ⟨v129, rfl, ho0, hb⟩; refine ⟨_, rfl, ?_⟩; have n0_ := Aside0.mk (Kd.R_lower ho0 (below_size zQx7a0_)); have n1_ := Aside0.mk (below_step zQx7a0_ hb); clear HB; have HO130 := n0_; have HB := n1_; clear n0_ n1_; (try clear hb); (try clear hb2); (try clear hk); (try clear hi); (try clear ho0)) | ((with_reducible refine gate_callee (f := 4) rfl ?_); refine goesL_ (some 16) rfl rfl Tryd.func4 (by kernel_rfl) rfl #[.string (⟨#[97, 32, 49, 32, 49, 32, 48, 32, 49, 32, 48, 32, 48, 32, 114, 10, 97, 32, 49, 32, 49, 32, 48, 32, 49, 32, 48, 32, 48, 32, 114, 10]⟩ : ByteArray)] rfl zQx7a1_ ?_; (with_reducible refine (table_Parse.calls (⟨#[97, 32, 49, 32, 49, 32, 48, 32, 49, 32, 48, 32, 48, 32, 114, 10, 97, 32, 49, 32, 49, 32, 48, 32, 49, 32, 48, 32, 48, 32, 114, 10]⟩ : ByteArray) t131 t132 t133 _ (Val.Laid.below hLd_ zQx7a0_) A2.out).mono ?_); rintro e w34 ⟨v134, rfl, ho0, hb⟩; refine ⟨_, rfl, ?_⟩; have n0_ := Aside0.mk (Kd.R_elder' zQx7a2_ (Kd.R_base ho0) hb); have n1_ := Aside0.mk (Kd.R_lower (Kd.R_new' ho0 (Kd.R_lt zQx7a2_)) (below_size zQx7a0_)); have n2_ := Aside0.mk (below_step zQx7a0_ hb); clear HO130; clear HB; have HO130 := n0_; have HO135 := n1_; have HB := n2_; clear n0_ n1_ n2_; (try clear hb); (try clear hb2); (try clear hk); (try clear hi); (try clear ho0)) | ((with_reducible refine gate_callee (f := 4) rfl ?_); refine goesL_ (some 21) rfl rfl Tryd.func4 (by kernel_rfl) rfl #[.string (⟨#[97, 32, 49]⟩ : ByteArray)] rfl zQx7a1_ ?_; (with_reducible refine (table_Parse.calls (⟨#[97, 32, 49]⟩ : ByteArray) t136 t137 t138 _ (Val.Laid.below hLd_ zQx7a0_) A3.out).mono ?_); rintro e w35 ⟨v139, rfl, ho0, hb⟩; refine ⟨_, rfl, ?_⟩; have n0_ := Aside0.mk (Kd.R_elder' zQx7a2_ (Kd.R_base ho0) hb); have n1_ := Aside0.mk (Kd.R_elder' zQx7a4_ (Kd.R_base ho0) hb); have n2_ := Aside0.mk (Kd.R_lower (Kd.R_new' (Kd.R_new' ho0 (Kd.R_lt zQx7a2_)) (Kd.R_lt zQx7a4_)) (below_size zQx7a0_)); have n3_ := Aside0.mk (below_step zQx7a0_ hb); clear HO130; clear HO135; clear HB; have HO130 := n0_; have HO135 := n1_; have HO140 := n2_; have HB := n3_; clear n0_ n1_ n2_ n3_; (try clear hb); (try clear hb2); (try clear hk); (try clear hi); (try clear ho0); obtain ⟨Ao36, co36, eo36⟩ := Kd.R_slice HO130.out; subst eo36; have p141 : 0 ≤ (0 : Int) := (by omega); have q141 : 0 < (t126.length : Int) := of_decide_eq_true zQx7a6_; obtain ⟨ad141, e141, hx141_0, hx141_1, hx141_2, hx141_3, hx141_4, hx141_5, hx141_6, hx141_7⟩ := at_T36 (Kd.R_reads' HO130.out).2.2 0 p141 q141; cases e141; have qi141 : (0 < t126.length) = True := eq_true (by omega); (try rw [show ((0 : Int)).toNat = 0 from rfl] at hx141_0); (try rw [show 0 * 8 = 0 from rfl] at hx141_0); (try rw [Addr.add_zero'] at hx141_0); (try rw [show ((0 : Int)).toNat = 0 from rfl] at hx141_1); (try rw [show 0 * 8 = 0 from rfl] at hx141_1); (try rw [Addr.add_zero'] at hx141_1); (try rw [show ((0 : Int)).toNat = 0 from rfl] at hx141_2); (try rw [show 0 * 8 = 0 from rfl] at hx141_2); (try rw [Addr.add_zero'] at hx141_2); (try rw [show ((0 : Int)).toNat = 0 from rfl] at hx141_3); (try rw [show 0 * 8 = 0 from rfl] at hx141_3); (try rw [Addr.add_zero'] at hx141_3); (try rw [show ((0 : Int)).toNat = 0 from rfl] at hx141_4); (try rw [show 0 * 8 = 0 from rfl] at hx141_4); (try rw [Addr.add_zero'] at hx141_4); (try rw [show ((0 : Int)).toNat = 0 from rfl] at hx141_5); (try rw [show 0 * 8 = 0 from rfl] at hx141_5); (try rw [Addr.add_zero'] at hx141_5); (try rw [show ((0 : Int)).toNat = 0 from rfl] at hx141_6); (try rw [show 0 * 8 = 0 from rfl] at hx141_6); (try rw [Addr.add_zero'] at hx141_6); (try rw [show ((0 : Int)).toNat = 0 from rfl] at hx141_7); (try rw [show 0 * 8 = 0 from rfl] at hx141_7); (try rw [Addr.add_zero'] at hx141_7); replace p141 := eq_true p141; replace q141 := eq_true q141))
  go_ret
  exact ⟨zQx7a5_, zQx7a0_⟩
 rw [if_pos c8] at H
 have c8b0 : (((rd_T36 t126 0).f3) == 16) = true := beq_iff_eq.mpr c8
 have c8b1 : (((rd_T36 t126 0).f3) != 16) = false := bne_eq_false_iff_eq.mpr c8
 clear c8
 by_cases c9 : ((rd_T36 t126 0).f6) = 5
 rotate_left
 ·
  rw [if_neg c9] at H
  have c9b0 : (((rd_T36 t126 0).f6) == 5) = false := beq_eq_false_iff_ne.mpr c9
  have c9b1 : (((rd_T36 t126 0).f6) != 5) = true := bne_iff_ne.mpr c9
  obtain rfl := Option.some.inj H
  go_enter Tryd.func5, Tryd.ntmps5
  go_wp2_with (first | ((with_reducible refine gate_callee (f := 4) rfl ?_); refine goesL_ (some 11) rfl rfl Tryd.func4 (by kernel_rfl) rfl #[.string (⟨#[116, 97, 110, 107, 47, 108, 101, 118, 101, 108, 32, 51, 32, 51, 32, 49, 54, 32, 51, 32, 49, 32, 53, 32, 114]⟩ : ByteArray)] rfl zQx7a1_ ?_; (with_reducible refine (table_Parse.calls (⟨#[116, 97, 110, 107, 47, 108, 101, 118, 101, 108, 32, 51, 32, 51, 32, 49, 54, 32, 51, 32, 49, 32, 53, 32, 114]⟩ : ByteArray) t126 t127 t128 _ (Val.Laid.below hLd_ zQx7a0_) A1.out).mono ?_); rintro e w29 ⟨v129, rfl, ho0, hb⟩; refine ⟨_, rfl, ?_⟩; have n0_ := Aside0.mk (Kd.R_lower ho0 (below_size zQx7a0_)); have n1_ := Aside0.mk (below_step zQx7a0_ hb); clear HB; have HO130 := n0_; have HB := n1_; clear n0_ n1_; (try clear hb); (try clear hb2); (try clear hk); (try clear hi); (try clear ho0)) | ((with_reducible refine gate_callee (f := 4) rfl ?_); refine goesL_ (some 16) rfl rfl Tryd.func4 (by kernel_rfl) rfl #[.string (⟨#[97, 32, 49, 32, 49, 32, 48, 32, 49, 32, 48, 32, 48, 32, 114, 10, 97, 32, 49, 32, 49, 32, 48, 32, 49, 32, 48, 32, 48, 32, 114, 10]⟩ : ByteArray)] rfl zQx7a1_ ?_; (with_reducible refine (table_Parse.calls (⟨#[97, 32, 49, 32, 49, 32, 48, 32, 49, 32, 48, 32, 48, 32, 114, 10, 97, 32, 49, 32, 49, 32, 48, 32, 49, 32, 48, 32, 48, 32, 114, 10]⟩ : ByteArray) t131 t132 t133 _ (Val.Laid.below hLd_ zQx7a0_) A2.out).mono ?_); rintro e w30 ⟨v134, rfl, ho0, hb⟩; refine ⟨_, rfl, ?_⟩; have n0_ := Aside0.mk (Kd.R_elder' zQx7a2_ (Kd.R_base ho0) hb); have n1_ := Aside0.mk (Kd.R_lower (Kd.R_new' ho0 (Kd.R_lt zQx7a2_)) (below_size zQx7a0_)); have n2_ := Aside0.mk (below_step zQx7a0_ hb); clear HO130; clear HB; have HO130 := n0_; have HO135 := n1_; have HB := n2_; clear n0_ n1_ n2_; (try clear hb); (try clear hb2); (try clear hk); (try clear hi); (try clear ho0)) | ((with_reducible refine gate_callee (f := 4) rfl ?_); refine goesL_ (some 21) rfl rfl Tryd.func4 (by kernel_rfl) rfl #[.string (⟨#[97, 32, 49]⟩ : ByteArray)] rfl zQx7a1_ ?_; (with_reducible refine (table_Parse.calls (⟨#[97, 32, 49]⟩ : ByteArray) t136 t137 t138 _ (Val.Laid.below hLd_ zQx7a0_) A3.out).mono ?_); rintro e w31 ⟨v139, rfl, ho0, hb⟩; refine ⟨_, rfl, ?_⟩; have n0_ := Aside0.mk (Kd.R_elder' zQx7a2_ (Kd.R_base ho0) hb); have n1_ := Aside0.mk (Kd.R_elder' zQx7a4_ (Kd.R_base ho0) hb); have n2_ := Aside0.mk (Kd.R_lower (Kd.R_new' (Kd.R_new' ho0 (Kd.R_lt zQx7a2_)) (Kd.R_lt zQx7a4_)) (below_size zQx7a0_)); have n3_ := Aside0.mk (below_step zQx7a0_ hb); clear HO130; clear HO135; clear HB; have HO130 := n0_; have HO135 := n1_; have HO140 := n2_; have HB := n3_; clear n0_ n1_ n2_ n3_; (try clear hb); (try clear hb2); (try clear hk); (try clear hi); (try clear ho0); obtain ⟨Ao32, co32, eo32⟩ := Kd.R_slice HO130.out; subst eo32; have p141 : 0 ≤ (0 : Int) := (by omega); have q141 : 0 < (t126.length : Int) := of_decide_eq_true zQx7a6_; obtain ⟨ad141, e141, hx141_0, hx141_1, hx141_2, hx141_3, hx141_4, hx141_5, hx141_6, hx141_7⟩ := at_T36 (Kd.R_reads' HO130.out).2.2 0 p141 q141; cases e141; have qi141 : (0 < t126.length) = True := eq_true (by omega); (try rw [show ((0 : Int)).toNat = 0 from rfl] at hx141_0); (try rw [show 0 * 8 = 0 from rfl] at hx141_0); (try rw [Addr.add_zero'] at hx141_0); (try rw [show ((0 : Int)).toNat = 0 from rfl] at hx141_1); (try rw [show 0 * 8 = 0 from rfl] at hx141_1); (try rw [Addr.add_zero'] at hx141_1); (try rw [show ((0 : Int)).toNat = 0 from rfl] at hx141_2); (try rw [show 0 * 8 = 0 from rfl] at hx141_2); (try rw [Addr.add_zero'] at hx141_2); (try rw [show ((0 : Int)).toNat = 0 from rfl] at hx141_3); (try rw [show 0 * 8 = 0 from rfl] at hx141_3); (try rw [Addr.add_zero'] at hx141_3); (try rw [show ((0 : Int)).toNat = 0 from rfl] at hx141_4); (try rw [show 0 * 8 = 0 from rfl] at hx141_4); (try rw [Addr.add_zero'] at hx141_4); (try rw [show ((0 : Int)).toNat = 0 from rfl] at hx141_5); (try rw [show 0 * 8 = 0 from rfl] at hx141_5); (try rw [Addr.add_zero'] at hx141_5); (try rw [show ((0 : Int)).toNat = 0 from rfl] at hx141_6); (try rw [show 0 * 8 = 0 from rfl] at hx141_6); (try rw [Addr.add_zero'] at hx141_6); (try rw [show ((0 : Int)).toNat = 0 from rfl] at hx141_7); (try rw [show 0 * 8 = 0 from rfl] at hx141_7); (try rw [Addr.add_zero'] at hx141_7); replace p141 := eq_true p141; replace q141 := eq_true q141; have p142 : 0 ≤ (0 : Int) := (by omega); have q142 : 0 < (t126.length : Int) := of_decide_eq_true zQx7a6_; obtain ⟨ad142, e142, hx142_0, hx142_1, hx142_2, hx142_3, hx142_4, hx142_5, hx142_6, hx142_7⟩ := at_T36 (Kd.R_reads' HO130.out).2.2 0 p142 q142; obtain rfl : ad141 = ad142 := (by injection e142); have qi142 : (0 < t126.length) = True := eq_true (by omega); (try rw [show ((0 : Int)).toNat = 0 from rfl] at hx142_0); (try rw [show 0 * 8 = 0 from rfl] at hx142_0); (try rw [Addr.add_zero'] at hx142_0); (try rw [show ((0 : Int)).toNat = 0 from rfl] at hx142_1); (try rw [show 0 * 8 = 0 from rfl] at hx142_1); (try rw [Addr.add_zero'] at hx142_1); (try rw [show ((0 : Int)).toNat = 0 from rfl] at hx142_2); (try rw [show 0 * 8 = 0 from rfl] at hx142_2); (try rw [Addr.add_zero'] at hx142_2); (try rw [show ((0 : Int)).toNat = 0 from rfl] at hx142_3); (try rw [show 0 * 8 = 0 from rfl] at hx142_3); (try rw [Addr.add_zero'] at hx142_3); (try rw [show ((0 : Int)).toNat = 0 from rfl] at hx142_4); (try rw [show 0 * 8 = 0 from rfl] at hx142_4); (try rw [Addr.add_zero'] at hx142_4); (try rw [show ((0 : Int)).toNat = 0 from rfl] at hx142_5); (try rw [show 0 * 8 = 0 from rfl] at hx142_5); (try rw [Addr.add_zero'] at hx142_5); (try rw [show ((0 : Int)).toNat = 0 from rfl] at hx142_6); (try rw [show 0 * 8 = 0 from rfl] at hx142_6); (try rw [Addr.add_zero'] at hx142_6); (try rw [show ((0 : Int)).toNat = 0 from rfl] at hx142_7); (try rw [show 0 * 8 = 0 from rfl] at hx142_7); (try rw [Addr.add_zero'] at hx142_7); replace p142 := eq_true p142; replace q142 := eq_true q142))
  go_ret
  exact ⟨zQx7a5_, zQx7a0_⟩
 rw [if_pos c9] at H
 have c9b0 : (((rd_T36 t126 0).f6) == 5) = true := beq_iff_eq.mpr c9
 have c9b1 : (((rd_T36 t126 0).f6) != 5) = false := bne_eq_false_iff_eq.mpr c9
 clear c9
 by_cases c10 : t132 = 2
 rotate_left
 ·
  rw [if_neg c10] at H
  have c10b0 : (t132 == 2) = false := beq_eq_false_iff_ne.mpr c10
  have c10b1 : (t132 != 2) = true := bne_iff_ne.mpr c10
  obtain rfl := Option.some.inj H
  go_enter Tryd.func5, Tryd.ntmps5
  go_wp2_with (first | ((with_reducible refine gate_callee (f := 4) rfl ?_); refine goesL_ (some 11) rfl rfl Tryd.func4 (by kernel_rfl) rfl #[.string (⟨#[116, 97, 110, 107, 47, 108, 101, 118, 101, 108, 32, 51, 32, 51, 32, 49, 54, 32, 51, 32, 49, 32, 53, 32, 114]⟩ : ByteArray)] rfl zQx7a1_ ?_; (with_reducible refine (table_Parse.calls (⟨#[116, 97, 110, 107, 47, 108, 101, 118, 101, 108, 32, 51, 32, 51, 32, 49, 54, 32, 51, 32, 49, 32, 53, 32, 114]⟩ : ByteArray) t126 t127 t128 _ (Val.Laid.below hLd_ zQx7a0_) A1.out).mono ?_); rintro e w25 ⟨v129, rfl, ho0, hb⟩; refine ⟨_, rfl, ?_⟩; have n0_ := Aside0.mk (Kd.R_lower ho0 (below_size zQx7a0_)); have n1_ := Aside0.mk (below_step zQx7a0_ hb); clear HB; have HO130 := n0_; have HB := n1_; clear n0_ n1_; (try clear hb); (try clear hb2); (try clear hk); (try clear hi); (try clear ho0)) | ((with_reducible refine gate_callee (f := 4) rfl ?_); refine goesL_ (some 16) rfl rfl Tryd.func4 (by kernel_rfl) rfl #[.string (⟨#[97, 32, 49, 32, 49, 32, 48, 32, 49, 32, 48, 32, 48, 32, 114, 10, 97, 32, 49, 32, 49, 32, 48, 32, 49, 32, 48, 32, 48, 32, 114, 10]⟩ : ByteArray)] rfl zQx7a1_ ?_; (with_reducible refine (table_Parse.calls (⟨#[97, 32, 49, 32, 49, 32, 48, 32, 49, 32, 48, 32, 48, 32, 114, 10, 97, 32, 49, 32, 49, 32, 48, 32, 49, 32, 48, 32, 48, 32, 114, 10]⟩ : ByteArray) t131 t132 t133 _ (Val.Laid.below hLd_ zQx7a0_) A2.out).mono ?_); rintro e w26 ⟨v134, rfl, ho0, hb⟩; refine ⟨_, rfl, ?_⟩; have n0_ := Aside0.mk (Kd.R_elder' zQx7a2_ (Kd.R_base ho0) hb); have n1_ := Aside0.mk (Kd.R_lower (Kd.R_new' ho0 (Kd.R_lt zQx7a2_)) (below_size zQx7a0_)); have n2_ := Aside0.mk (below_step zQx7a0_ hb); clear HO130; clear HB; have HO130 := n0_; have HO135 := n1_; have HB := n2_; clear n0_ n1_ n2_; (try clear hb); (try clear hb2); (try clear hk); (try clear hi); (try clear ho0)) | ((with_reducible refine gate_callee (f := 4) rfl ?_); refine goesL_ (some 21) rfl rfl Tryd.func4 (by kernel_rfl) rfl #[.string (⟨#[97, 32, 49]⟩ : ByteArray)] rfl zQx7a1_ ?_; (with_reducible refine (table_Parse.calls (⟨#[97, 32, 49]⟩ : ByteArray) t136 t137 t138 _ (Val.Laid.below hLd_ zQx7a0_) A3.out).mono ?_); rintro e w27 ⟨v139, rfl, ho0, hb⟩; refine ⟨_, rfl, ?_⟩; have n0_ := Aside0.mk (Kd.R_elder' zQx7a2_ (Kd.R_base ho0) hb); have n1_ := Aside0.mk (Kd.R_elder' zQx7a4_ (Kd.R_base ho0) hb); have n2_ := Aside0.mk (Kd.R_lower (Kd.R_new' (Kd.R_new' ho0 (Kd.R_lt zQx7a2_)) (Kd.R_lt zQx7a4_)) (below_size zQx7a0_)); have n3_ := Aside0.mk (below_step zQx7a0_ hb); clear HO130; clear HO135; clear HB; have HO130 := n0_; have HO135 := n1_; have HO140 := n2_; have HB := n3_; clear n0_ n1_ n2_ n3_; (try clear hb); (try clear hb2); (try clear hk); (try clear hi); (try clear ho0); obtain ⟨Ao28, co28, eo28⟩ := Kd.R_slice HO130.out; subst eo28; have p141 : 0 ≤ (0 : Int) := (by omega); have q141 : 0 < (t126.length : Int) := of_decide_eq_true zQx7a6_; obtain ⟨ad141, e141, hx141_0, hx141_1, hx141_2, hx141_3, hx141_4, hx141_5, hx141_6, hx141_7⟩ := at_T36 (Kd.R_reads' HO130.out).2.2 0 p141 q141; cases e141; have qi141 : (0 < t126.length) = True := eq_true (by omega); (try rw [show ((0 : Int)).toNat = 0 from rfl] at hx141_0); (try rw [show 0 * 8 = 0 from rfl] at hx141_0); (try rw [Addr.add_zero'] at hx141_0); (try rw [show ((0 : Int)).toNat = 0 from rfl] at hx141_1); (try rw [show 0 * 8 = 0 from rfl] at hx141_1); (try rw [Addr.add_zero'] at hx141_1); (try rw [show ((0 : Int)).toNat = 0 from rfl] at hx141_2); (try rw [show 0 * 8 = 0 from rfl] at hx141_2); (try rw [Addr.add_zero'] at hx141_2); (try rw [show ((0 : Int)).toNat = 0 from rfl] at hx141_3); (try rw [show 0 * 8 = 0 from rfl] at hx141_3); (try rw [Addr.add_zero'] at hx141_3); (try rw [show ((0 : Int)).toNat = 0 from rfl] at hx141_4); (try rw [show 0 * 8 = 0 from rfl] at hx141_4); (try rw [Addr.add_zero'] at hx141_4); (try rw [show ((0 : Int)).toNat = 0 from rfl] at hx141_5); (try rw [show 0 * 8 = 0 from rfl] at hx141_5); (try rw [Addr.add_zero'] at hx141_5); (try rw [show ((0 : Int)).toNat = 0 from rfl] at hx141_6); (try rw [show 0 * 8 = 0 from rfl] at hx141_6); (try rw [Addr.add_zero'] at hx141_6); (try rw [show ((0 : Int)).toNat = 0 from rfl] at hx141_7); (try rw [show 0 * 8 = 0 from rfl] at hx141_7); (try rw [Addr.add_zero'] at hx141_7); replace p141 := eq_true p141; replace q141 := eq_true q141; have p142 : 0 ≤ (0 : Int) := (by omega); have q142 : 0 < (t126.length : Int) := of_decide_eq_true zQx7a6_; obtain ⟨ad142, e142, hx142_0, hx142_1, hx142_2, hx142_3, hx142_4, hx142_5, hx142_6, hx142_7⟩ := at_T36 (Kd.R_reads' HO130.out).2.2 0 p142 q142; obtain rfl : ad141 = ad142 := (by injection e142); have qi142 : (0 < t126.length) = True := eq_true (by omega); (try rw [show ((0 : Int)).toNat = 0 from rfl] at hx142_0); (try rw [show 0 * 8 = 0 from rfl] at hx142_0); (try rw [Addr.add_zero'] at hx142_0); (try rw [show ((0 : Int)).toNat = 0 from rfl] at hx142_1); (try rw [show 0 * 8 = 0 from rfl] at hx142_1); (try rw [Addr.add_zero'] at hx142_1); (try rw [show ((0 : Int)).toNat = 0 from rfl] at hx142_2); (try rw [show 0 * 8 = 0 from rfl] at hx142_2); (try rw [Addr.add_zero'] at hx142_2); (try rw [show ((0 : Int)).toNat = 0 from rfl] at hx142_3); (try rw [show 0 * 8 = 0 from rfl] at hx142_3); (try rw [Addr.add_zero'] at hx142_3); (try rw [show ((0 : Int)).toNat = 0 from rfl] at hx142_4); (try rw [show 0 * 8 = 0 from rfl] at hx142_4); (try rw [Addr.add_zero'] at hx142_4); (try rw [show ((0 : Int)).toNat = 0 from rfl] at hx142_5); (try rw [show 0 * 8 = 0 from rfl] at hx142_5); (try rw [Addr.add_zero'] at hx142_5); (try rw [show ((0 : Int)).toNat = 0 from rfl] at hx142_6); (try rw [show 0 * 8 = 0 from rfl] at hx142_6); (try rw [Addr.add_zero'] at hx142_6); (try rw [show ((0 : Int)).toNat = 0 from rfl] at hx142_7); (try rw [show 0 * 8 = 0 from rfl] at hx142_7); (try rw [Addr.add_zero'] at hx142_7); replace p142 := eq_true p142; replace q142 := eq_true q142))
  go_ret
  exact ⟨zQx7a5_, zQx7a0_⟩
 rw [if_pos c10] at H
 have c10b0 : (t132 == 2) = true := beq_iff_eq.mpr c10
 have c10b1 : (t132 != 2) = false := bne_eq_false_iff_eq.mpr c10
 clear c10
 by_cases c11 : t133 = 210
 rotate_left
 ·
  rw [if_neg c11] at H
  have c11b0 : (t133 == 210) = false := beq_eq_false_iff_ne.mpr c11
  have c11b1 : (t133 != 210) = true := bne_iff_ne.mpr c11
  obtain rfl := Option.some.inj H
  go_enter Tryd.func5, Tryd.ntmps5
  go_wp2_with (first | ((with_reducible refine gate_callee (f := 4) rfl ?_); refine goesL_ (some 11) rfl rfl Tryd.func4 (by kernel_rfl) rfl #[.string (⟨#[116, 97, 110, 107, 47, 108, 101, 118, 101, 108, 32, 51, 32, 51, 32, 49, 54, 32, 51, 32, 49, 32, 53, 32, 114]⟩ : ByteArray)] rfl zQx7a1_ ?_; (with_reducible refine (table_Parse.calls (⟨#[116, 97, 110, 107, 47, 108, 101, 118, 101, 108, 32, 51, 32, 51, 32, 49, 54, 32, 51, 32, 49, 32, 53, 32, 114]⟩ : ByteArray) t126 t127 t128 _ (Val.Laid.below hLd_ zQx7a0_) A1.out).mono ?_); rintro e w21 ⟨v129, rfl, ho0, hb⟩; refine ⟨_, rfl, ?_⟩; have n0_ := Aside0.mk (Kd.R_lower ho0 (below_size zQx7a0_)); have n1_ := Aside0.mk (below_step zQx7a0_ hb); clear HB; have HO130 := n0_; have HB := n1_; clear n0_ n1_; (try clear hb); (try clear hb2); (try clear hk); (try clear hi); (try clear ho0)) | ((with_reducible refine gate_callee (f := 4) rfl ?_); refine goesL_ (some 16) rfl rfl Tryd.func4 (by kernel_rfl) rfl #[.string (⟨#[97, 32, 49, 32, 49, 32, 48, 32, 49, 32, 48, 32, 48, 32, 114, 10, 97, 32, 49, 32, 49, 32, 48, 32, 49, 32, 48, 32, 48, 32, 114, 10]⟩ : ByteArray)] rfl zQx7a1_ ?_; (with_reducible refine (table_Parse.calls (⟨#[97, 32, 49, 32, 49, 32, 48, 32, 49, 32, 48, 32, 48, 32, 114, 10, 97, 32, 49, 32, 49, 32, 48, 32, 49, 32, 48, 32, 48, 32, 114, 10]⟩ : ByteArray) t131 t132 t133 _ (Val.Laid.below hLd_ zQx7a0_) A2.out).mono ?_); rintro e w22 ⟨v134, rfl, ho0, hb⟩; refine ⟨_, rfl, ?_⟩; have n0_ := Aside0.mk (Kd.R_elder' zQx7a2_ (Kd.R_base ho0) hb); have n1_ := Aside0.mk (Kd.R_lower (Kd.R_new' ho0 (Kd.R_lt zQx7a2_)) (below_size zQx7a0_)); have n2_ := Aside0.mk (below_step zQx7a0_ hb); clear HO130; clear HB; have HO130 := n0_; have HO135 := n1_; have HB := n2_; clear n0_ n1_ n2_; (try clear hb); (try clear hb2); (try clear hk); (try clear hi); (try clear ho0)) | ((with_reducible refine gate_callee (f := 4) rfl ?_); refine goesL_ (some 21) rfl rfl Tryd.func4 (by kernel_rfl) rfl #[.string (⟨#[97, 32, 49]⟩ : ByteArray)] rfl zQx7a1_ ?_; (with_reducible refine (table_Parse.calls (⟨#[97, 32, 49]⟩ : ByteArray) t136 t137 t138 _ (Val.Laid.below hLd_ zQx7a0_) A3.out).mono ?_); rintro e w23 ⟨v139, rfl, ho0, hb⟩; refine ⟨_, rfl, ?_⟩; have n0_ := Aside0.mk (Kd.R_elder' zQx7a2_ (Kd.R_base ho0) hb); have n1_ := Aside0.mk (Kd.R_elder' zQx7a4_ (Kd.R_base ho0) hb); have n2_ := Aside0.mk (Kd.R_lower (Kd.R_new' (Kd.R_new' ho0 (Kd.R_lt zQx7a2_)) (Kd.R_lt zQx7a4_)) (below_size zQx7a0_)); have n3_ := Aside0.mk (below_step zQx7a0_ hb); clear HO130; clear HO135; clear HB; have HO130 := n0_; have HO135 := n1_; have HO140 := n2_; have HB := n3_; clear n0_ n1_ n2_ n3_; (try clear hb); (try clear hb2); (try clear hk); (try clear hi); (try clear ho0); obtain ⟨Ao24, co24, eo24⟩ := Kd.R_slice HO130.out; subst eo24; have p141 : 0 ≤ (0 : Int) := (by omega); have q141 : 0 < (t126.length : Int) := of_decide_eq_true zQx7a6_; obtain ⟨ad141, e141, hx141_0, hx141_1, hx141_2, hx141_3, hx141_4, hx141_5, hx141_6, hx141_7⟩ := at_T36 (Kd.R_reads' HO130.out).2.2 0 p141 q141; cases e141; have qi141 : (0 < t126.length) = True := eq_true (by omega); (try rw [show ((0 : Int)).toNat = 0 from rfl] at hx141_0); (try rw [show 0 * 8 = 0 from rfl] at hx141_0); (try rw [Addr.add_zero'] at hx141_0); (try rw [show ((0 : Int)).toNat = 0 from rfl] at hx141_1); (try rw [show 0 * 8 = 0 from rfl] at hx141_1); (try rw [Addr.add_zero'] at hx141_1); (try rw [show ((0 : Int)).toNat = 0 from rfl] at hx141_2); (try rw [show 0 * 8 = 0 from rfl] at hx141_2); (try rw [Addr.add_zero'] at hx141_2); (try rw [show ((0 : Int)).toNat = 0 from rfl] at hx141_3); (try rw [show 0 * 8 = 0 from rfl] at hx141_3); (try rw [Addr.add_zero'] at hx141_3); (try rw [show ((0 : Int)).toNat = 0 from rfl] at hx141_4); (try rw [show 0 * 8 = 0 from rfl] at hx141_4); (try rw [Addr.add_zero'] at hx141_4); (try rw [show ((0 : Int)).toNat = 0 from rfl] at hx141_5); (try rw [show 0 * 8 = 0 from rfl] at hx141_5); (try rw [Addr.add_zero'] at hx141_5); (try rw [show ((0 : Int)).toNat = 0 from rfl] at hx141_6); (try rw [show 0 * 8 = 0 from rfl] at hx141_6); (try rw [Addr.add_zero'] at hx141_6); (try rw [show ((0 : Int)).toNat = 0 from rfl] at hx141_7); (try rw [show 0 * 8 = 0 from rfl] at hx141_7); (try rw [Addr.add_zero'] at hx141_7); replace p141 := eq_true p141; replace q141 := eq_true q141; have p142 : 0 ≤ (0 : Int) := (by omega); have q142 : 0 < (t126.length : Int) := of_decide_eq_true zQx7a6_; obtain ⟨ad142, e142, hx142_0, hx142_1, hx142_2, hx142_3, hx142_4, hx142_5, hx142_6, hx142_7⟩ := at_T36 (Kd.R_reads' HO130.out).2.2 0 p142 q142; obtain rfl : ad141 = ad142 := (by injection e142); have qi142 : (0 < t126.length) = True := eq_true (by omega); (try rw [show ((0 : Int)).toNat = 0 from rfl] at hx142_0); (try rw [show 0 * 8 = 0 from rfl] at hx142_0); (try rw [Addr.add_zero'] at hx142_0); (try rw [show ((0 : Int)).toNat = 0 from rfl] at hx142_1); (try rw [show 0 * 8 = 0 from rfl] at hx142_1); (try rw [Addr.add_zero'] at hx142_1); (try rw [show ((0 : Int)).toNat = 0 from rfl] at hx142_2); (try rw [show 0 * 8 = 0 from rfl] at hx142_2); (try rw [Addr.add_zero'] at hx142_2); (try rw [show ((0 : Int)).toNat = 0 from rfl] at hx142_3); (try rw [show 0 * 8 = 0 from rfl] at hx142_3); (try rw [Addr.add_zero'] at hx142_3); (try rw [show ((0 : Int)).toNat = 0 from rfl] at hx142_4); (try rw [show 0 * 8 = 0 from rfl] at hx142_4); (try rw [Addr.add_zero'] at hx142_4); (try rw [show ((0 : Int)).toNat = 0 from rfl] at hx142_5); (try rw [show 0 * 8 = 0 from rfl] at hx142_5); (try rw [Addr.add_zero'] at hx142_5); (try rw [show ((0 : Int)).toNat = 0 from rfl] at hx142_6); (try rw [show 0 * 8 = 0 from rfl] at hx142_6); (try rw [Addr.add_zero'] at hx142_6); (try rw [show ((0 : Int)).toNat = 0 from rfl] at hx142_7); (try rw [show 0 * 8 = 0 from rfl] at hx142_7); (try rw [Addr.add_zero'] at hx142_7); replace p142 := eq_true p142; replace q142 := eq_true q142))
  go_ret
  exact ⟨zQx7a5_, zQx7a0_⟩
 rw [if_pos c11] at H
 have c11b0 : (t133 == 210) = true := beq_iff_eq.mpr c11
 have c11b1 : (t133 != 210) = false := bne_eq_false_iff_eq.mpr c11
 clear c11
 by_cases c12 : t137 = 1
 rotate_left
 ·
  rw [if_neg c12] at H
  have c12b0 : (t137 == 1) = false := beq_eq_false_iff_ne.mpr c12
  have c12b1 : (t137 != 1) = true := bne_iff_ne.mpr c12
  obtain rfl := Option.some.inj H
  go_enter Tryd.func5, Tryd.ntmps5
  go_wp2_with (first | ((with_reducible refine gate_callee (f := 4) rfl ?_); refine goesL_ (some 11) rfl rfl Tryd.func4 (by kernel_rfl) rfl #[.string (⟨#[116, 97, 110, 107, 47, 108, 101, 118, 101, 108, 32, 51, 32, 51, 32, 49, 54, 32, 51, 32, 49, 32, 53, 32, 114]⟩ : ByteArray)] rfl zQx7a1_ ?_; (with_reducible refine (table_Parse.calls (⟨#[116, 97, 110, 107, 47, 108, 101, 118, 101, 108, 32, 51, 32, 51, 32, 49, 54, 32, 51, 32, 49, 32, 53, 32, 114]⟩ : ByteArray) t126 t127 t128 _ (Val.Laid.below hLd_ zQx7a0_) A1.out).mono ?_); rintro e w17 ⟨v129, rfl, ho0, hb⟩; refine ⟨_, rfl, ?_⟩; have n0_ := Aside0.mk (Kd.R_lower ho0 (below_size zQx7a0_)); have n1_ := Aside0.mk (below_step zQx7a0_ hb); clear HB; have HO130 := n0_; have HB := n1_; clear n0_ n1_; (try clear hb); (try clear hb2); (try clear hk); (try clear hi); (try clear ho0)) | ((with_reducible refine gate_callee (f := 4) rfl ?_); refine goesL_ (some 16) rfl rfl Tryd.func4 (by kernel_rfl) rfl #[.string (⟨#[97, 32, 49, 32, 49, 32, 48, 32, 49, 32, 48, 32, 48, 32, 114, 10, 97, 32, 49, 32, 49, 32, 48, 32, 49, 32, 48, 32, 48, 32, 114, 10]⟩ : ByteArray)] rfl zQx7a1_ ?_; (with_reducible refine (table_Parse.calls (⟨#[97, 32, 49, 32, 49, 32, 48, 32, 49, 32, 48, 32, 48, 32, 114, 10, 97, 32, 49, 32, 49, 32, 48, 32, 49, 32, 48, 32, 48, 32, 114, 10]⟩ : ByteArray) t131 t132 t133 _ (Val.Laid.below hLd_ zQx7a0_) A2.out).mono ?_); rintro e w18 ⟨v134, rfl, ho0, hb⟩; refine ⟨_, rfl, ?_⟩; have n0_ := Aside0.mk (Kd.R_elder' zQx7a2_ (Kd.R_base ho0) hb); have n1_ := Aside0.mk (Kd.R_lower (Kd.R_new' ho0 (Kd.R_lt zQx7a2_)) (below_size zQx7a0_)); have n2_ := Aside0.mk (below_step zQx7a0_ hb); clear HO130; clear HB; have HO130 := n0_; have HO135 := n1_; have HB := n2_; clear n0_ n1_ n2_; (try clear hb); (try clear hb2); (try clear hk); (try clear hi); (try clear ho0)) | ((with_reducible refine gate_callee (f := 4) rfl ?_); refine goesL_ (some 21) rfl rfl Tryd.func4 (by kernel_rfl) rfl #[.string (⟨#[97, 32, 49]⟩ : ByteArray)] rfl zQx7a1_ ?_; (with_reducible refine (table_Parse.calls (⟨#[97, 32, 49]⟩ : ByteArray) t136 t137 t138 _ (Val.Laid.below hLd_ zQx7a0_) A3.out).mono ?_); rintro e w19 ⟨v139, rfl, ho0, hb⟩; refine ⟨_, rfl, ?_⟩; have n0_ := Aside0.mk (Kd.R_elder' zQx7a2_ (Kd.R_base ho0) hb); have n1_ := Aside0.mk (Kd.R_elder' zQx7a4_ (Kd.R_base ho0) hb); have n2_ := Aside0.mk (Kd.R_lower (Kd.R_new' (Kd.R_new' ho0 (Kd.R_lt zQx7a2_)) (Kd.R_lt zQx7a4_)) (below_size zQx7a0_)); have n3_ := Aside0.mk (below_step zQx7a0_ hb); clear HO130; clear HO135; clear HB; have HO130 := n0_; have HO135 := n1_; have HO140 := n2_; have HB := n3_; clear n0_ n1_ n2_ n3_; (try clear hb); (try clear hb2); (try clear hk); (try clear hi); (try clear ho0); obtain ⟨Ao20, co20, eo20⟩ := Kd.R_slice HO130.out; subst eo20; have p141 : 0 ≤ (0 : Int) := (by omega); have q141 : 0 < (t126.length : Int) := of_decide_eq_true zQx7a6_; obtain ⟨ad141, e141, hx141_0, hx141_1, hx141_2, hx141_3, hx141_4, hx141_5, hx141_6, hx141_7⟩ := at_T36 (Kd.R_reads' HO130.out).2.2 0 p141 q141; cases e141; have qi141 : (0 < t126.length) = True := eq_true (by omega); (try rw [show ((0 : Int)).toNat = 0 from rfl] at hx141_0); (try rw [show 0 * 8 = 0 from rfl] at hx141_0); (try rw [Addr.add_zero'] at hx141_0); (try rw [show ((0 : Int)).toNat = 0 from rfl] at hx141_1); (try rw [show 0 * 8 = 0 from rfl] at hx141_1); (try rw [Addr.add_zero'] at hx141_1); (try rw [show ((0 : Int)).toNat = 0 from rfl] at hx141_2); (try rw [show 0 * 8 = 0 from rfl] at hx141_2); (try rw [Addr.add_zero'] at hx141_2); (try rw [show ((0 : Int)).toNat = 0 from rfl] at hx141_3); (try rw [show 0 * 8 = 0 from rfl] at hx141_3); (try rw [Addr.add_zero'] at hx141_3); (try rw [show ((0 : Int)).toNat = 0 from rfl] at hx141_4); (try rw [show 0 * 8 = 0 from rfl] at hx141_4); (try rw [Addr.add_zero'] at hx141_4); (try rw [show ((0 : Int)).toNat = 0 from rfl] at hx141_5); (try rw [show 0 * 8 = 0 from rfl] at hx141_5); (try rw [Addr.add_zero'] at hx141_5); (try rw [show ((0 : Int)).toNat = 0 from rfl] at hx141_6); (try rw [show 0 * 8 = 0 from rfl] at hx141_6); (try rw [Addr.add_zero'] at hx141_6); (try rw [show ((0 : Int)).toNat = 0 from rfl] at hx141_7); (try rw [show 0 * 8 = 0 from rfl] at hx141_7); (try rw [Addr.add_zero'] at hx141_7); replace p141 := eq_true p141; replace q141 := eq_true q141; have p142 : 0 ≤ (0 : Int) := (by omega); have q142 : 0 < (t126.length : Int) := of_decide_eq_true zQx7a6_; obtain ⟨ad142, e142, hx142_0, hx142_1, hx142_2, hx142_3, hx142_4, hx142_5, hx142_6, hx142_7⟩ := at_T36 (Kd.R_reads' HO130.out).2.2 0 p142 q142; obtain rfl : ad141 = ad142 := (by injection e142); have qi142 : (0 < t126.length) = True := eq_true (by omega); (try rw [show ((0 : Int)).toNat = 0 from rfl] at hx142_0); (try rw [show 0 * 8 = 0 from rfl] at hx142_0); (try rw [Addr.add_zero'] at hx142_0); (try rw [show ((0 : Int)).toNat = 0 from rfl] at hx142_1); (try rw [show 0 * 8 = 0 from rfl] at hx142_1); (try rw [Addr.add_zero'] at hx142_1); (try rw [show ((0 : Int)).toNat = 0 from rfl] at hx142_2); (try rw [show 0 * 8 = 0 from rfl] at hx142_2); (try rw [Addr.add_zero'] at hx142_2); (try rw [show ((0 : Int)).toNat = 0 from rfl] at hx142_3); (try rw [show 0 * 8 = 0 from rfl] at hx142_3); (try rw [Addr.add_zero'] at hx142_3); (try rw [show ((0 : Int)).toNat = 0 from rfl] at hx142_4); (try rw [show 0 * 8 = 0 from rfl] at hx142_4); (try rw [Addr.add_zero'] at hx142_4); (try rw [show ((0 : Int)).toNat = 0 from rfl] at hx142_5); (try rw [show 0 * 8 = 0 from rfl] at hx142_5); (try rw [Addr.add_zero'] at hx142_5); (try rw [show ((0 : Int)).toNat = 0 from rfl] at hx142_6); (try rw [show 0 * 8 = 0 from rfl] at hx142_6); (try rw [Addr.add_zero'] at hx142_6); (try rw [show ((0 : Int)).toNat = 0 from rfl] at hx142_7); (try rw [show 0 * 8 = 0 from rfl] at hx142_7); (try rw [Addr.add_zero'] at hx142_7); replace p142 := eq_true p142; replace q142 := eq_true q142))
  go_ret
  exact ⟨zQx7a5_, zQx7a0_⟩
 rw [if_pos c12] at H
 have c12b0 : (t137 == 1) = true := beq_iff_eq.mpr c12
 have c12b1 : (t137 != 1) = false := bne_eq_false_iff_eq.mpr c12
 clear c12
 obtain rfl := Option.some.inj H
 go_enter Tryd.func5, Tryd.ntmps5
 go_wp2_with (first | ((with_reducible refine gate_callee (f := 4) rfl ?_); refine goesL_ (some 11) rfl rfl Tryd.func4 (by kernel_rfl) rfl #[.string (⟨#[116, 97, 110, 107, 47, 108, 101, 118, 101, 108, 32, 51, 32, 51, 32, 49, 54, 32, 51, 32, 49, 32, 53, 32, 114]⟩ : ByteArray)] rfl zQx7a1_ ?_; (with_reducible refine (table_Parse.calls (⟨#[116, 97, 110, 107, 47, 108, 101, 118, 101, 108, 32, 51, 32, 51, 32, 49, 54, 32, 51, 32, 49, 32, 53, 32, 114]⟩ : ByteArray) t126 t127 t128 _ (Val.Laid.below hLd_ zQx7a0_) A1.out).mono ?_); rintro e w13 ⟨v129, rfl, ho0, hb⟩; refine ⟨_, rfl, ?_⟩; have n0_ := Aside0.mk (Kd.R_lower ho0 (below_size zQx7a0_)); have n1_ := Aside0.mk (below_step zQx7a0_ hb); clear HB; have HO130 := n0_; have HB := n1_; clear n0_ n1_; (try clear hb); (try clear hb2); (try clear hk); (try clear hi); (try clear ho0)) | ((with_reducible refine gate_callee (f := 4) rfl ?_); refine goesL_ (some 16) rfl rfl Tryd.func4 (by kernel_rfl) rfl #[.string (⟨#[97, 32, 49, 32, 49, 32, 48, 32, 49, 32, 48, 32, 48, 32, 114, 10, 97, 32, 49, 32, 49, 32, 48, 32, 49, 32, 48, 32, 48, 32, 114, 10]⟩ : ByteArray)] rfl zQx7a1_ ?_; (with_reducible refine (table_Parse.calls (⟨#[97, 32, 49, 32, 49, 32, 48, 32, 49, 32, 48, 32, 48, 32, 114, 10, 97, 32, 49, 32, 49, 32, 48, 32, 49, 32, 48, 32, 48, 32, 114, 10]⟩ : ByteArray) t131 t132 t133 _ (Val.Laid.below hLd_ zQx7a0_) A2.out).mono ?_); rintro e w14 ⟨v134, rfl, ho0, hb⟩; refine ⟨_, rfl, ?_⟩; have n0_ := Aside0.mk (Kd.R_elder' zQx7a2_ (Kd.R_base ho0) hb); have n1_ := Aside0.mk (Kd.R_lower (Kd.R_new' ho0 (Kd.R_lt zQx7a2_)) (below_size zQx7a0_)); have n2_ := Aside0.mk (below_step zQx7a0_ hb); clear HO130; clear HB; have HO130 := n0_; have HO135 := n1_; have HB := n2_; clear n0_ n1_ n2_; (try clear hb); (try clear hb2); (try clear hk); (try clear hi); (try clear ho0)) | ((with_reducible refine gate_callee (f := 4) rfl ?_); refine goesL_ (some 21) rfl rfl Tryd.func4 (by kernel_rfl) rfl #[.string (⟨#[97, 32, 49]⟩ : ByteArray)] rfl zQx7a1_ ?_; (with_reducible refine (table_Parse.calls (⟨#[97, 32, 49]⟩ : ByteArray) t136 t137 t138 _ (Val.Laid.below hLd_ zQx7a0_) A3.out).mono ?_); rintro e w15 ⟨v139, rfl, ho0, hb⟩; refine ⟨_, rfl, ?_⟩; have n0_ := Aside0.mk (Kd.R_elder' zQx7a2_ (Kd.R_base ho0) hb); have n1_ := Aside0.mk (Kd.R_elder' zQx7a4_ (Kd.R_base ho0) hb); have n2_ := Aside0.mk (Kd.R_lower (Kd.R_new' (Kd.R_new' ho0 (Kd.R_lt zQx7a2_)) (Kd.R_lt zQx7a4_)) (below_size zQx7a0_)); have n3_ := Aside0.mk (below_step zQx7a0_ hb); clear HO130; clear HO135; clear HB; have HO130 := n0_; have HO135 := n1_; have HO140 := n2_; have HB := n3_; clear n0_ n1_ n2_ n3_; (try clear hb); (try clear hb2); (try clear hk); (try clear hi); (try clear ho0); obtain ⟨Ao16, co16, eo16⟩ := Kd.R_slice HO130.out; subst eo16; have p141 : 0 ≤ (0 : Int) := (by omega); have q141 : 0 < (t126.length : Int) := of_decide_eq_true zQx7a6_; obtain ⟨ad141, e141, hx141_0, hx141_1, hx141_2, hx141_3, hx141_4, hx141_5, hx141_6, hx141_7⟩ := at_T36 (Kd.R_reads' HO130.out).2.2 0 p141 q141; cases e141; have qi141 : (0 < t126.length) = True := eq_true (by omega); (try rw [show ((0 : Int)).toNat = 0 from rfl] at hx141_0); (try rw [show 0 * 8 = 0 from rfl] at hx141_0); (try rw [Addr.add_zero'] at hx141_0); (try rw [show ((0 : Int)).toNat = 0 from rfl] at hx141_1); (try rw [show 0 * 8 = 0 from rfl] at hx141_1); (try rw [Addr.add_zero'] at hx141_1); (try rw [show ((0 : Int)).toNat = 0 from rfl] at hx141_2); (try rw [show 0 * 8 = 0 from rfl] at hx141_2); (try rw [Addr.add_zero'] at hx141_2); (try rw [show ((0 : Int)).toNat = 0 from rfl] at hx141_3); (try rw [show 0 * 8 = 0 from rfl] at hx141_3); (try rw [Addr.add_zero'] at hx141_3); (try rw [show ((0 : Int)).toNat = 0 from rfl] at hx141_4); (try rw [show 0 * 8 = 0 from rfl] at hx141_4); (try rw [Addr.add_zero'] at hx141_4); (try rw [show ((0 : Int)).toNat = 0 from rfl] at hx141_5); (try rw [show 0 * 8 = 0 from rfl] at hx141_5); (try rw [Addr.add_zero'] at hx141_5); (try rw [show ((0 : Int)).toNat = 0 from rfl] at hx141_6); (try rw [show 0 * 8 = 0 from rfl] at hx141_6); (try rw [Addr.add_zero'] at hx141_6); (try rw [show ((0 : Int)).toNat = 0 from rfl] at hx141_7); (try rw [show 0 * 8 = 0 from rfl] at hx141_7); (try rw [Addr.add_zero'] at hx141_7); replace p141 := eq_true p141; replace q141 := eq_true q141; have p142 : 0 ≤ (0 : Int) := (by omega); have q142 : 0 < (t126.length : Int) := of_decide_eq_true zQx7a6_; obtain ⟨ad142, e142, hx142_0, hx142_1, hx142_2, hx142_3, hx142_4, hx142_5, hx142_6, hx142_7⟩ := at_T36 (Kd.R_reads' HO130.out).2.2 0 p142 q142; obtain rfl : ad141 = ad142 := (by injection e142); have qi142 : (0 < t126.length) = True := eq_true (by omega); (try rw [show ((0 : Int)).toNat = 0 from rfl] at hx142_0); (try rw [show 0 * 8 = 0 from rfl] at hx142_0); (try rw [Addr.add_zero'] at hx142_0); (try rw [show ((0 : Int)).toNat = 0 from rfl] at hx142_1); (try rw [show 0 * 8 = 0 from rfl] at hx142_1); (try rw [Addr.add_zero'] at hx142_1); (try rw [show ((0 : Int)).toNat = 0 from rfl] at hx142_2); (try rw [show 0 * 8 = 0 from rfl] at hx142_2); (try rw [Addr.add_zero'] at hx142_2); (try rw [show ((0 : Int)).toNat = 0 from rfl] at hx142_3); (try rw [show 0 * 8 = 0 from rfl] at hx142_3); (try rw [Addr.add_zero'] at hx142_3); (try rw [show ((0 : Int)).toNat = 0 from rfl] at hx142_4); (try rw [show 0 * 8 = 0 from rfl] at hx142_4); (try rw [Addr.add_zero'] at hx142_4); (try rw [show ((0 : Int)).toNat = 0 from rfl] at hx142_5); (try rw [show 0 * 8 = 0 from rfl] at hx142_5); (try rw [Addr.add_zero'] at hx142_5); (try rw [show ((0 : Int)).toNat = 0 from rfl] at hx142_6); (try rw [show 0 * 8 = 0 from rfl] at hx142_6); (try rw [Addr.add_zero'] at hx142_6); (try rw [show ((0 : Int)).toNat = 0 from rfl] at hx142_7); (try rw [show 0 * 8 = 0 from rfl] at hx142_7); (try rw [Addr.add_zero'] at hx142_7); replace p142 := eq_true p142; replace q142 := eq_true q142))
 go_ret
 exact ⟨zQx7a5_, zQx7a0_⟩
def basculeref21_Rows.l0 : Nat → List (S36) → List (S36) → Int → Option (Bool)
 | 0, _, _, _ => none
 | k + 1, x0, x1, x5 => if x5 < (x0.length : Int) then (if 0 ≤ x5 then (if x5 < (x1.length : Int) then (if (!((((rd_T36 x0 x5).f0).toList) == (((rd_T36 x1 x5).f0).toList)) || (!(((rd_T36 x0 x5).f1) == ((rd_T36 x1 x5).f1)) || (!(((rd_T36 x0 x5).f2) == ((rd_T36 x1 x5).f2)) || (!(((rd_T36 x0 x5).f3) == ((rd_T36 x1 x5).f3)) || (!(((rd_T36 x0 x5).f4) == ((rd_T36 x1 x5).f4)) || (!(((rd_T36 x0 x5).f5) == ((rd_T36 x1 x5).f5)) || (!(((rd_T36 x0 x5).f6) == ((rd_T36 x1 x5).f6)) || (!(((rd_T36 x0 x5).f7) == ((rd_T36 x1 x5).f7)))))))))) = true then (some false) else (basculeref21_Rows.l0 k x0 x1 (wrap64 (x5 + 1)))) else (none)) else (none)) else (some true)
def basculeref21_Rows.f (k : Nat) (l0 : List (S36)) (l1 : List (S36)) : Option (Bool) := if (l0.length : Int) = (l1.length : Int) then (basculeref21_Rows.l0 k l0 l1 0) else (some false)
set_option maxHeartbeats 8000000 in
set_option maxRecDepth 100000 in
theorem basculeref21_Rows.calls (k : Nat) (A0 : Option Addr) (c0 : Nat) (l0 : List (S36)) (A1 : Option Addr) (c1 : Nat) (l1 : List (S36)) (r : Bool) (w : World) (hr0 : Kd.C k36 w A0 l0.length l0) (hc0 : l0.length ≤ c0) (hr1 : Kd.C k36 w A1 l1.length l1) (hc1 : l1.length ≤ c1) (h : basculeref21_Rows.f k l0 l1 = some r) :
  Calls Tryd.prog 6 #[.slice A0 l0.length c0, .slice A1 l1.length c1] w fun e w' => e = .returned (.bool r) ∧ Drawn0 w w' := by
 have hu36 := Tryd.underlying36
 have HR0 := Aside0.mk hr0
 have HC0 := Aside0.mk hc0
 clear hr0 hc0
 have HR1 := Aside0.mk hr1
 have HC1 := Aside0.mk hc1
 clear hr1 hc1
 have H : (if (l0.length : Int) = (l1.length : Int) then (basculeref21_Rows.l0 k l0 l1 0) else (some false)) = some r := h
 clear h
 by_cases c3 : (l0.length : Int) = (l1.length : Int)
 rotate_left
 ·
  rw [if_neg c3] at H
  have c3b0 : ((l0.length : Int) == (l1.length : Int)) = false := beq_eq_false_iff_ne.mpr c3
  have c3b1 : ((l0.length : Int) != (l1.length : Int)) = true := bne_iff_ne.mpr c3
  have c3b2 : (l0.length == l1.length) = false := by first | simpa using c3 | (simp at c3 ⊢; omega)
  obtain rfl := Option.some.inj H
  go_enter Tryd.func6, Tryd.ntmps6
  go_wp2
  repeat (go_quiet (fail); try go_wp2)
  go_ret
  exact ⟨zQx7a7_, zQx7a9_⟩
 rw [if_pos c3] at H
 have c3b0 : ((l0.length : Int) == (l1.length : Int)) = true := beq_iff_eq.mpr c3
 have c3b1 : ((l0.length : Int) != (l1.length : Int)) = false := bne_eq_false_iff_eq.mpr c3
 have c3b2 : (l0.length == l1.length) = true := by first | simpa using c3 | (simp at c3 ⊢; omega)
 clear c3
 have H' := Aside0.mk H
 clear H
 go_enter Tryd.func6, Tryd.ntmps6
 go_wp2
 repeat (go_quiet (fail); try go_wp2)
 go_loopg [5] k (fun kq v5 w' => ∃ (x5_1 : Int), v5 = .int .i64 x5_1 ∧ Aside0 (basculeref21_Rows.l0 kq l0 l1 x5_1 = some r) ∧ Aside0 (kq ≤ k) ∧ Drawn0 w w')
 case atStart => exact ⟨(0), zQx7a7_, H', ⟨Nat.le_refl _⟩, zQx7a9_⟩
 case round =>
  clear H'
  try clear c1
  try clear p2
  try clear c3
  try clear c3b0
  try clear c3b1
  try clear c3b2
  obtain ⟨x5_1, rfl, HA, HK1, ⟨m1, rfl⟩⟩ := hrel
  cases gk with
  | zero => exact absurd HA.out (by simp [basculeref21_Rows.l0])
  | succ k1 =>
   have H := HA.out
   clear HA
   simp only [basculeref21_Rows.l0] at H
   by_cases c4 : x5_1 < (l0.length : Int)
   rotate_left
   ·
    rw [if_neg c4] at H
    have c4b0 : decide (x5_1 < (l0.length : Int)) = false := decide_eq_false c4
    clear c4
    obtain rfl := Option.some.inj H
    go_wp2
    repeat (go_quiet (fail); try go_wp2)
    go_ret
    exact ⟨zQx7a7_, zQx7a9_⟩
   rw [if_pos c4] at H
   have c4b0 : decide (x5_1 < (l0.length : Int)) = true := decide_eq_true c4
   clear c4
   have c5 : 0 ≤ x5_1 := znQx7_
   rw [if_pos c5] at H
   have c5b0 : decide (0 ≤ x5_1) = true := decide_eq_true c5
   clear c5
   have c6 : x5_1 < (l1.length : Int) := znQx7_
   rw [if_pos c6] at H
   have c6b0 : decide (x5_1 < (l1.length : Int)) = true := decide_eq_true c6
   clear c6
   by_cases c7 : (!((((rd_T36 l0 x5_1).f0).toList) == (((rd_T36 l1 x5_1).f0).toList)) || (!(((rd_T36 l0 x5_1).f1) == ((rd_T36 l1 x5_1).f1)) || (!(((rd_T36 l0 x5_1).f2) == ((rd_T36 l1 x5_1).f2)) || (!(((rd_T36 l0 x5_1).f3) == ((rd_T36 l1 x5_1).f3)) || (!(((rd_T36 l0 x5_1).f4) == ((rd_T36 l1 x5_1).f4)) || (!(((rd_T36 l0 x5_1).f5) == ((rd_T36 l1 x5_1).f5)) || (!(((rd_T36 l0 x5_1).f6) == ((rd_T36 l1 x5_1).f6)) || (!(((rd_T36 l0 x5_1).f7) == ((rd_T36 l1 x5_1).f7)))))))))) = true
   ·
    rw [if_pos c7] at H
    have c7b0 : (!((((rd_T36 l0 x5_1).f0).toList) == (((rd_T36 l1 x5_1).f0).toList)) || (!(((rd_T36 l0 x5_1).f1) == ((rd_T36 l1 x5_1).f1)) || (!(((rd_T36 l0 x5_1).f2) == ((rd_T36 l1 x5_1).f2)) || (!(((rd_T36 l0 x5_1).f3) == ((rd_T36 l1 x5_1).f3)) || (!(((rd_T36 l0 x5_1).f4) == ((rd_T36 l1 x5_1).f4)) || (!(((rd_T36 l0 x5_1).f5) == ((rd_T36 l1 x5_1).f5)) || (!(((rd_T36 l0 x5_1).f6) == ((rd_T36 l1 x5_1).f6)) || (!(((rd_T36 l0 x5_1).f7) == ((rd_T36 l1 x5_1).f7)))))))))) = true := c7
    clear c7
    obtain rfl := Option.some.inj H
    have p143 : 0 ≤ (x5_1 : Int) := of_decide_eq_true zQx7a6_
    have q143 : x5_1 < (l0.length : Int) := of_decide_eq_true zQx7a6_
    obtain ⟨ad143, e143, hx143_0, hx143_1, hx143_2, hx143_3, hx143_4, hx143_5, hx143_6, hx143_7⟩ := at_T36 HR0.out x5_1 p143 q143
    cases e143
    replace p143 := eq_true p143
    replace q143 := eq_true q143
    have p144 : 0 ≤ (x5_1 : Int) := of_decide_eq_true zQx7a6_
    have q144 : x5_1 < (l1.length : Int) := of_decide_eq_true zQx7a6_
    obtain ⟨ad144, e144, hx144_0, hx144_1, hx144_2, hx144_3, hx144_4, hx144_5, hx144_6, hx144_7⟩ := at_T36 HR1.out x5_1 p144 q144
    cases e144
    replace p144 := eq_true p144
    replace q144 := eq_true q144
    go_wp2
    repeat (go_quiet (fail); try go_wp2)
    go_ret
    exact ⟨zQx7a7_, zQx7a9_⟩
   rw [if_neg c7] at H
   have c7b0 : (!((((rd_T36 l0 x5_1).f0).toList) == (((rd_T36 l1 x5_1).f0).toList)) || (!(((rd_T36 l0 x5_1).f1) == ((rd_T36 l1 x5_1).f1)) || (!(((rd_T36 l0 x5_1).f2) == ((rd_T36 l1 x5_1).f2)) || (!(((rd_T36 l0 x5_1).f3) == ((rd_T36 l1 x5_1).f3)) || (!(((rd_T36 l0 x5_1).f4) == ((rd_T36 l1 x5_1).f4)) || (!(((rd_T36 l0 x5_1).f5) == ((rd_T36 l1 x5_1).f5)) || (!(((rd_T36 l0 x5_1).f6) == ((rd_T36 l1 x5_1).f6)) || (!(((rd_T36 l0 x5_1).f7) == ((rd_T36 l1 x5_1).f7)))))))))) = false := by simpa using c7
   clear c7
   have H' := Aside0.mk H
   clear H
   have p143 : 0 ≤ (x5_1 : Int) := of_decide_eq_true zQx7a6_
   have q143 : x5_1 < (l0.length : Int) := of_decide_eq_true zQx7a6_
   obtain ⟨ad143, e143, hx143_0, hx143_1, hx143_2, hx143_3, hx143_4, hx143_5, hx143_6, hx143_7⟩ := at_T36 HR0.out x5_1 p143 q143
   cases e143
   replace p143 := eq_true p143
   replace q143 := eq_true q143
   have p144 : 0 ≤ (x5_1 : Int) := of_decide_eq_true zQx7a6_
   have q144 : x5_1 < (l1.length : Int) := of_decide_eq_true zQx7a6_
   obtain ⟨ad144, e144, hx144_0, hx144_1, hx144_2, hx144_3, hx144_4, hx144_5, hx144_6, hx144_7⟩ := at_T36 HR1.out x5_1 p144 q144
   cases e144
   replace p144 := eq_true p144
   replace q144 := eq_true q144
   go_wp2
   repeat (go_quiet (fail); try go_wp2)
   go_roundg k1
   case measure => have := HK1.out; omega
   case rel => exact ⟨(wrap64 (x5_1 + 1)), zQx7a7_, H', ⟨by have := HK1.out; omega⟩, zQx7a9_⟩
mutual
def basculelaw21_TableBlanks.j0 : Nat → ByteArray → Int → Bool → Option (Bool)
 | 0, _, _, _ => none
 | k + 1, x0, x1, x24 => if x24 = true then (some true) else (basculelaw21_TableBlanks.l0 k x0 x1 (⟨#[]⟩ : ByteArray) 0)
def basculelaw21_TableBlanks.l0 : Nat → ByteArray → Int → ByteArray → Int → Option (Bool)
 | 0, _, _, _, _ => none
 | k + 1, x0, x1, x5, x6 => if x6 < x1 then (if x5.size + 6 ≤ 9223372036854775807 then (basculelaw21_TableBlanks.l0 k x0 x1 (x5 ++ (⟨#[32, 32, 35, 32, 120, 10]⟩ : ByteArray)) (wrap64 (x6 + 1))) else (none)) else (basculelaw21_TableBlanks.l1 k x0 x1 x5 0)
def basculelaw21_TableBlanks.l1 : Nat → ByteArray → Int → ByteArray → Int → Option (Bool)
 | 0, _, _, _, _ => none
 | k + 1, x0, x1, x5, x7 => if x7 < (x0.size : Int) then (if 0 ≤ x7 then (if (bt x0 x7) = 10 then (if x5.size + 2 ≤ 9223372036854775807 then (if x7 ≤ (wrap64 (x7 + 1)) then (if (wrap64 (x7 + 1)) ≤ (x0.size : Int) then (if (x5 ++ (⟨#[32, 32]⟩ : ByteArray)).size + (x0.extract (x7 : Int).toNat ((wrap64 (x7 + 1)) : Int).toNat).size ≤ 9223372036854775807 then (basculelaw21_TableBlanks.l1 k x0 x1 ((x5 ++ (⟨#[32, 32]⟩ : ByteArray)) ++ (x0.extract (x7 : Int).toNat ((wrap64 (x7 + 1)) : Int).toNat)) (wrap64 (x7 + 1))) else (none)) else (none)) else (none)) else (none)) else (if (bt x0 x7) = 32 then (if x5.size + 2 ≤ 9223372036854775807 then (if x7 ≤ (wrap64 (x7 + 1)) then (if (wrap64 (x7 + 1)) ≤ (x0.size : Int) then (if (x5 ++ (⟨#[32, 32]⟩ : ByteArray)).size + (x0.extract (x7 : Int).toNat ((wrap64 (x7 + 1)) : Int).toNat).size ≤ 9223372036854775807 then (basculelaw21_TableBlanks.l1 k x0 x1 ((x5 ++ (⟨#[32, 32]⟩ : ByteArray)) ++ (x0.extract (x7 : Int).toNat ((wrap64 (x7 + 1)) : Int).toNat)) (wrap64 (x7 + 1))) else (none)) else (none)) else (none)) else (none)) else (if x7 ≤ (wrap64 (x7 + 1)) then (if (wrap64 (x7 + 1)) ≤ (x0.size : Int) then (if x5.size + (x0.extract (x7 : Int).toNat ((wrap64 (x7 + 1)) : Int).toNat).size ≤ 9223372036854775807 then (basculelaw21_TableBlanks.l1 k x0 x1 (x5 ++ (x0.extract (x7 : Int).toNat ((wrap64 (x7 + 1)) : Int).toNat)) (wrap64 (x7 + 1))) else (none)) else (none)) else (none)))) else (none)) else ((table_Parse.f x0).bind fun bt145 => (if x5.size + 2 ≤ 9223372036854775807 then ((table_Parse.f (x5 ++ (⟨#[32, 32]⟩ : ByteArray))).bind fun bt150 => (if bt145.2.2 = 0 then ((basculelaw21_awake.f).bind fun t155 => (if t155 = true then ((basculeref21_Rows.f k bt145.1 bt150.1).bind fun t156 => (if t156 = true then (if bt145.2.1 = bt150.2.1 then (some (bt145.2.2 == bt150.2.2)) else (some false)) else (some false))) else (some false))) else ((basculelaw21_awake.f).bind fun t157 => (if t157 = true then ((basculeref21_Rows.f k bt145.1 bt150.1).bind fun t158 => (if t158 = true then (if (wrap64 (bt145.2.1 + x1)) = bt150.2.1 then (some (bt145.2.2 == bt150.2.2)) else (some false)) else (some false))) else (some false))))) else (none)))
end
def basculelaw21_TableBlanks.f (k : Nat) (a0 : ByteArray) (a1 : Int) : Option (Bool) := if (a0.size : Int) > 2000 then (basculelaw21_TableBlanks.j0 k a0 a1 true) else (if a1 < 0 then (basculelaw21_TableBlanks.j0 k a0 a1 true) else (basculelaw21_TableBlanks.j0 k a0 a1 (decide (a1 > 20))))
set_option maxHeartbeats 8000000 in
set_option maxRecDepth 100000 in
theorem basculelaw21_TableBlanks.calls (k : Nat) (a0 : ByteArray) (a1 : Int) (r : Bool) (w : World) (hLd_ : Val.Laid w) (h : basculelaw21_TableBlanks.f k a0 a1 = some r) :
  Calls Tryd.prog 3 #[.string a0, .int .i64 a1] w fun e w' => e = .returned (.bool r) ∧ Below w.heap.size w w' := by
 have HB := Aside0.mk (Below.refl w.heap.size w)
 have H : (if (a0.size : Int) > 2000 then (basculelaw21_TableBlanks.j0 k a0 a1 true) else (if a1 < 0 then (basculelaw21_TableBlanks.j0 k a0 a1 true) else (basculelaw21_TableBlanks.j0 k a0 a1 (decide (a1 > 20))))) = some r := h
 clear h
 have HC3 := Aside0.mk H
 clear H
 go_enter Tryd.func3, Tryd.ntmps3
 go_upto_region 1 with (fail)
 go_cut [24] (fun v24 wc => ∃ (kq : Nat) (x24_2 : Bool), v24 = .bool x24_2 ∧ Aside0 (basculelaw21_TableBlanks.j0 kq a0 a1 x24_2 = some r) ∧ Aside0 (kq ≤ k) ∧ Aside0 (Below w.heap.size w wc))
 case first =>
  have H := HC3.out
  clear HC3
  by_cases c4 : (a0.size : Int) > 2000
  ·
   rw [if_pos c4] at H
   have c4b0 : decide (2000 < (a0.size : Int)) = true := decide_eq_true c4
   have c4b1 : decide (2000 < a0.size) = true := decide_eq_true (by omega)
   have c4b7 : (2000 < a0.size) := of_decide_eq_true c4b1
   clear c4
   (first | rw [c4b0] | (simp only [i64_w, i32_w]; rw [c4b0]) | skip)
   have H' := Aside0.mk H
   clear H
   go_wp2
   go_meet
   case rel => exact ⟨_, (true), zQx7a7_, H', ⟨by first | omega | exact Nat.le_refl _⟩, ⟨zQx7a0_⟩⟩
  rw [if_neg c4] at H
  have c4b0 : decide (2000 < (a0.size : Int)) = false := decide_eq_false c4
  have c4b1 : decide (2000 < a0.size) = false := decide_eq_false (by omega)
  clear c4
  (first | rw [c4b0] | (simp only [i64_w, i32_w]; rw [c4b0]) | skip)
  by_cases c5 : a1 < 0
  ·
   rw [if_pos c5] at H
   have c5b0 : decide (a1 < 0) = true := decide_eq_true c5
   clear c5
   have H' := Aside0.mk H
   clear H
   go_wp2
   go_meet
   case rel => exact ⟨_, (true), zQx7a7_, H', ⟨by first | omega | exact Nat.le_refl _⟩, ⟨zQx7a0_⟩⟩
  rw [if_neg c5] at H
  have c5b0 : decide (a1 < 0) = false := decide_eq_false c5
  clear c5
  have H' := Aside0.mk H
  clear H
  go_wp2
  go_meet
  case rel => exact ⟨_, (decide (a1 > 20)), zQx7a7_, H', ⟨by first | omega | exact Nat.le_refl _⟩, ⟨zQx7a0_⟩⟩
 case rest =>
  clear HC3
  try clear p2
  try clear c3
  try clear c4
  try clear c4b0
  try clear c4b1
  try clear c5
  try clear c5b0
  obtain ⟨kq, x24_2, rfl, HA, HJ2, HB⟩ := hcut
  cases kq with
  | zero => exact absurd HA.out (by simp [basculelaw21_TableBlanks.j0])
  | succ kj2 =>
   have H := HA.out
   clear HA
   simp only [basculelaw21_TableBlanks.j0] at H
   by_cases c6 : x24_2 = true
   ·
    subst c6
    have H1 : (some true) = some r := by rw [if_pos rfl] at H; exact H
    clear H
    have H := H1
    clear H1
    obtain rfl := Option.some.inj H
    go_wp2
    go_ret
    exact ⟨zQx7a5_, zQx7a0_⟩
   replace c6 := Bool.eq_false_iff.mpr c6
   subst c6
   have H1 : (basculelaw21_TableBlanks.l0 kj2 a0 a1 (⟨#[]⟩ : ByteArray) 0) = some r := by rw [if_neg (show ¬ (false = true) by decide)] at H; exact H
   clear H
   have H := H1
   clear H1
   have H' := Aside0.mk H
   clear H
   go_wp2
   go_loopg [5, 6] kj2 (fun kq v5 v6 w' => ∃ (x5_2 : ByteArray) (x6_2 : Int), v5 = .string x5_2 ∧ v6 = .int .i64 x6_2 ∧ Aside0 (basculelaw21_TableBlanks.l0 kq a0 a1 x5_2 x6_2 = some r) ∧ Aside0 (kq ≤ kj2) ∧ Aside0 (Below w.heap.size w w'))
   case atStart => exact ⟨((⟨#[]⟩ : ByteArray)), (0), zQx7a7_, zQx7a7_, H', ⟨Nat.le_refl _⟩, ⟨zQx7a0_⟩⟩
   case round =>
    clear H'
    try clear p2
    try clear c3
    try clear c4
    try clear c4b0
    try clear c4b1
    try clear c5
    try clear c5b0
    try clear c6
    try clear p2
    obtain ⟨x5_2, x6_2, rfl, rfl, HA, HK2, HB⟩ := hrel
    cases gk with
    | zero => exact absurd HA.out (by simp [basculelaw21_TableBlanks.l0])
    | succ k2 =>
     have H := HA.out
     clear HA
     simp only [basculelaw21_TableBlanks.l0] at H
     by_cases c7 : x6_2 < a1
     ·
      rw [if_pos c7] at H
      have c7b0 : decide (x6_2 < a1) = true := decide_eq_true c7
      clear c7
      have c8 : x5_2.size + 6 ≤ 9223372036854775807 := znQx7_
      rw [if_pos c8] at H
      have c8b0 := eq_true c8
      have c8b1 : decide (x5_2.size + 6 ≤ 9223372036854775807) = true := decide_eq_true c8
      try have c8b2 : (9223372036854775807 < x5_2.size + 6) = False := eq_false (Nat.not_lt.2 c8)
      have H' := Aside0.mk H
      clear H
      go_wp2
      go_roundg k2
      case measure => have := HJ2.out; have := HK2.out; omega
      case rel => exact ⟨(x5_2 ++ (⟨#[32, 32, 35, 32, 120, 10]⟩ : ByteArray)), (wrap64 (x6_2 + 1)), zQx7a7_, zQx7a7_, H', ⟨by have := HJ2.out; have := HK2.out; omega⟩, ⟨zQx7a0_⟩⟩
     rw [if_neg c7] at H
     have c7b0 : decide (x6_2 < a1) = false := decide_eq_false c7
     clear c7
     have H' := Aside0.mk H
     clear H
     go_wp2
     go_loopg [5, 7] k2 (fun kq v5 v7 w' => ∃ (x5_3 : ByteArray) (x7_3 : Int), v5 = .string x5_3 ∧ v7 = .int .i64 x7_3 ∧ Aside0 (basculelaw21_TableBlanks.l1 kq a0 a1 x5_3 x7_3 = some r) ∧ Aside0 (kq ≤ k2) ∧ Aside0 (Below w.heap.size w w'))
     case atStart => exact ⟨(x5_2), (0), zQx7a7_, zQx7a7_, H', ⟨Nat.le_refl _⟩, ⟨zQx7a0_⟩⟩
     case round =>
      clear H'
      try clear p2
      try clear c3
      try clear c4
      try clear c4b0
      try clear c4b1
      try clear c5
      try clear c5b0
      try clear c6
      try clear p6
      try clear c7
      try clear c7b0
      try clear c8
      try clear c8b0
      try clear c8b1
      try clear c8b2
      try clear p2
      obtain ⟨x5_3, x7_3, rfl, rfl, HA, HK3, HB⟩ := hrel
      cases gk with
      | zero => exact absurd HA.out (by simp [basculelaw21_TableBlanks.l1])
      | succ k3 =>
       have H := HA.out
       clear HA
       simp only [basculelaw21_TableBlanks.l1] at H
       by_cases c9 : x7_3 < (a0.size : Int)
       ·
        rw [if_pos c9] at H
        have c9b0 : decide (x7_3 < (a0.size : Int)) = true := decide_eq_true c9
        clear c9
        have c10 : 0 ≤ x7_3 := znQx7_
        rw [if_pos c10] at H
        have c10b0 : decide (0 ≤ x7_3) = true := decide_eq_true c10
        clear c10
        by_cases c12 : (bt a0 x7_3) = 10
        ·
         rw [if_pos c12] at H
         have c12b0 : ((bt a0 x7_3) == 10) = true := beq_iff_eq.mpr c12
         have c12b1 : ((bt a0 x7_3) != 10) = false := bne_eq_false_iff_eq.mpr c12
         clear c12
         have c13 : x5_3.size + 2 ≤ 9223372036854775807 := znQx7_
         rw [if_pos c13] at H
         have c13b0 := eq_true c13
         have c13b1 : decide (x5_3.size + 2 ≤ 9223372036854775807) = true := decide_eq_true c13
         try have c13b2 : (9223372036854775807 < x5_3.size + 2) = False := eq_false (Nat.not_lt.2 c13)
         have c14b0 := eq_true (of_decide_eq_true zQx7a6_ : 0 ≤ x7_3)
         have c15 : x7_3 ≤ (wrap64 (x7_3 + 1)) := znQx7_
         rw [if_pos c15] at H
         have c15b0 := eq_true c15
         have c15b1 : decide (x7_3 ≤ (wrap64 (x7_3 + 1))) = true := decide_eq_true c15
         have c16 : (wrap64 (x7_3 + 1)) ≤ (a0.size : Int) := znQx7_
         rw [if_pos c16] at H
         have c16b0 := eq_true c16
         have c16b1 : decide ((wrap64 (x7_3 + 1)) ≤ (a0.size : Int)) = true := decide_eq_true c16
         have c17 : (x5_3 ++ (⟨#[32, 32]⟩ : ByteArray)).size + (a0.extract (x7_3 : Int).toNat ((wrap64 (x7_3 + 1)) : Int).toNat).size ≤ 9223372036854775807 := znQx7_
         rw [if_pos c17] at H
         have c17b0 := eq_true c17
         have c17b1 : decide ((x5_3 ++ (⟨#[32, 32]⟩ : ByteArray)).size + (a0.extract (x7_3 : Int).toNat ((wrap64 (x7_3 + 1)) : Int).toNat).size ≤ 9223372036854775807) = true := decide_eq_true c17
         try have c17b2 : (9223372036854775807 < (x5_3 ++ (⟨#[32, 32]⟩ : ByteArray)).size + (a0.extract (x7_3 : Int).toNat ((wrap64 (x7_3 + 1)) : Int).toNat).size) = False := eq_false (Nat.not_lt.2 c17)
         try have c17b7 : (9223372036854775807 < x5_3.size + 2 + ((a0.extract (x7_3 : Int).toNat ((wrap64 (x7_3 + 1)) : Int).toNat).size)) = False := eq_false (by have h9_ := c17; simp only [ByteArray.size_append] at h9_; simp only [ByteArray.size, List.size_toArray, List.length_cons, List.length_nil] at h9_ ⊢; omega)
         have H' := Aside0.mk H
         clear H
         have p11 : 0 ≤ (x7_3 : Int) := of_decide_eq_true zQx7a6_
         have q11 : x7_3 < (a0.size : Int) := of_decide_eq_true zQx7a6_
         have hx11 := bt_at a0 x7_3
         replace p11 := eq_true p11
         replace q11 := eq_true q11
         go_wp2
         go_roundg k3
         case measure => have := HJ2.out; have := HK2.out; have := HK3.out; omega
         case rel => exact ⟨((x5_3 ++ (⟨#[32, 32]⟩ : ByteArray)) ++ (a0.extract (x7_3 : Int).toNat ((wrap64 (x7_3 + 1)) : Int).toNat)), (wrap64 (x7_3 + 1)), zQx7a7_, zQx7a7_, H', ⟨zQx7a10_⟩, ⟨zQx7a0_⟩⟩
        rw [if_neg c12] at H
        have c12b0 : ((bt a0 x7_3) == 10) = false := beq_eq_false_iff_ne.mpr c12
        have c12b1 : ((bt a0 x7_3) != 10) = true := bne_iff_ne.mpr c12
        by_cases c19 : (bt a0 x7_3) = 32
        rotate_left
        ·
         rw [if_neg c19] at H
         have c19b0 : ((bt a0 x7_3) == 32) = false := beq_eq_false_iff_ne.mpr c19
         have c19b1 : ((bt a0 x7_3) != 32) = true := bne_iff_ne.mpr c19
         have c25b0 := eq_true (of_decide_eq_true zQx7a6_ : 0 ≤ x7_3)
         have c26 : x7_3 ≤ (wrap64 (x7_3 + 1)) := znQx7_
         rw [if_pos c26] at H
         have c26b0 := eq_true c26
         have c26b1 : decide (x7_3 ≤ (wrap64 (x7_3 + 1))) = true := decide_eq_true c26
         have c27 : (wrap64 (x7_3 + 1)) ≤ (a0.size : Int) := znQx7_
         rw [if_pos c27] at H
         have c27b0 := eq_true c27
         have c27b1 : decide ((wrap64 (x7_3 + 1)) ≤ (a0.size : Int)) = true := decide_eq_true c27
         have c28 : x5_3.size + (a0.extract (x7_3 : Int).toNat ((wrap64 (x7_3 + 1)) : Int).toNat).size ≤ 9223372036854775807 := znQx7_
         rw [if_pos c28] at H
         have c28b0 := eq_true c28
         have c28b1 : decide (x5_3.size + (a0.extract (x7_3 : Int).toNat ((wrap64 (x7_3 + 1)) : Int).toNat).size ≤ 9223372036854775807) = true := decide_eq_true c28
         try have c28b2 : (9223372036854775807 < x5_3.size + (a0.extract (x7_3 : Int).toNat ((wrap64 (x7_3 + 1)) : Int).toNat).size) = False := eq_false (Nat.not_lt.2 c28)
         have H' := Aside0.mk H
         clear H
         have p11 : 0 ≤ (x7_3 : Int) := of_decide_eq_true zQx7a6_
         have q11 : x7_3 < (a0.size : Int) := of_decide_eq_true zQx7a6_
         have hx11 := bt_at a0 x7_3
         replace p11 := eq_true p11
         replace q11 := eq_true q11
         have p18 : 0 ≤ (x7_3 : Int) := of_decide_eq_true zQx7a6_
         have q18 : x7_3 < (a0.size : Int) := of_decide_eq_true zQx7a6_
         have hx18 := bt_at a0 x7_3
         replace p18 := eq_true p18
         replace q18 := eq_true q18
         go_wp2
         go_roundg k3
         case measure => have := HJ2.out; have := HK2.out; have := HK3.out; omega
         case rel => exact ⟨(x5_3 ++ (a0.extract (x7_3 : Int).toNat ((wrap64 (x7_3 + 1)) : Int).toNat)), (wrap64 (x7_3 + 1)), zQx7a7_, zQx7a7_, H', ⟨zQx7a10_⟩, ⟨zQx7a0_⟩⟩
        rw [if_pos c19] at H
        have c19b0 : ((bt a0 x7_3) == 32) = true := beq_iff_eq.mpr c19
        have c19b1 : ((bt a0 x7_3) != 32) = false := bne_eq_false_iff_eq.mpr c19
        clear c19
        have c20 : x5_3.size + 2 ≤ 9223372036854775807 := znQx7_
        rw [if_pos c20] at H
        have c20b0 := eq_true c20
        have c20b1 : decide (x5_3.size + 2 ≤ 9223372036854775807) = true := decide_eq_true c20
        try have c20b2 : (9223372036854775807 < x5_3.size + 2) = False := eq_false (Nat.not_lt.2 c20)
        have c21b0 := eq_true (of_decide_eq_true zQx7a6_ : 0 ≤ x7_3)
        have c22 : x7_3 ≤ (wrap64 (x7_3 + 1)) := znQx7_
        rw [if_pos c22] at H
        have c22b0 := eq_true c22
        have c22b1 : decide (x7_3 ≤ (wrap64 (x7_3 + 1))) = true := decide_eq_true c22
        have c23 : (wrap64 (x7_3 + 1)) ≤ (a0.size : Int) := znQx7_
        rw [if_pos c23] at H
        have c23b0 := eq_true c23
        have c23b1 : decide ((wrap64 (x7_3 + 1)) ≤ (a0.size : Int)) = true := decide_eq_true c23
        have c24 : (x5_3 ++ (⟨#[32, 32]⟩ : ByteArray)).size + (a0.extract (x7_3 : Int).toNat ((wrap64 (x7_3 + 1)) : Int).toNat).size ≤ 9223372036854775807 := znQx7_
        rw [if_pos c24] at H
        have c24b0 := eq_true c24
        have c24b1 : decide ((x5_3 ++ (⟨#[32, 32]⟩ : ByteArray)).size + (a0.extract (x7_3 : Int).toNat ((wrap64 (x7_3 + 1)) : Int).toNat).size ≤ 9223372036854775807) = true := decide_eq_true c24
        try have c24b2 : (9223372036854775807 < (x5_3 ++ (⟨#[32, 32]⟩ : ByteArray)).size + (a0.extract (x7_3 : Int).toNat ((wrap64 (x7_3 + 1)) : Int).toNat).size) = False := eq_false (Nat.not_lt.2 c24)
        try have c24b7 : (9223372036854775807 < x5_3.size + 2 + ((a0.extract (x7_3 : Int).toNat ((wrap64 (x7_3 + 1)) : Int).toNat).size)) = False := eq_false (by have h9_ := c24; simp only [ByteArray.size_append] at h9_; simp only [ByteArray.size, List.size_toArray, List.length_cons, List.length_nil] at h9_ ⊢; omega)
        have H' := Aside0.mk H
        clear H
        have p11 : 0 ≤ (x7_3 : Int) := of_decide_eq_true zQx7a6_
        have q11 : x7_3 < (a0.size : Int) := of_decide_eq_true zQx7a6_
        have hx11 := bt_at a0 x7_3
        replace p11 := eq_true p11
        replace q11 := eq_true q11
        have p18 : 0 ≤ (x7_3 : Int) := of_decide_eq_true zQx7a6_
        have q18 : x7_3 < (a0.size : Int) := of_decide_eq_true zQx7a6_
        have hx18 := bt_at a0 x7_3
        replace p18 := eq_true p18
        replace q18 := eq_true q18
        go_wp2
        go_roundg k3
        case measure => have := HJ2.out; have := HK2.out; have := HK3.out; omega
        case rel => exact ⟨((x5_3 ++ (⟨#[32, 32]⟩ : ByteArray)) ++ (a0.extract (x7_3 : Int).toNat ((wrap64 (x7_3 + 1)) : Int).toNat)), (wrap64 (x7_3 + 1)), zQx7a7_, zQx7a7_, H', ⟨zQx7a10_⟩, ⟨zQx7a0_⟩⟩
       rw [if_neg c9] at H
       have c9b0 : decide (x7_3 < (a0.size : Int)) = false := decide_eq_false c9
       clear c9
       replace H := Option.bind_eq_some_iff.mp H
       obtain ⟨⟨t145, t146, t147⟩, A290, H⟩ := H
       replace H : (if x5_3.size + 2 ≤ 9223372036854775807 then ((table_Parse.f (x5_3 ++ (⟨#[32, 32]⟩ : ByteArray))).bind fun bt150 => (if t147 = 0 then ((basculelaw21_awake.f).bind fun t155 => (if t155 = true then ((basculeref21_Rows.f k3 t145 bt150.1).bind fun t156 => (if t156 = true then (if t146 = bt150.2.1 then (some (t147 == bt150.2.2)) else (some false)) else (some false))) else (some false))) else ((basculelaw21_awake.f).bind fun t157 => (if t157 = true then ((basculeref21_Rows.f k3 t145 bt150.1).bind fun t158 => (if t158 = true then (if (wrap64 (t146 + a1)) = bt150.2.1 then (some (t147 == bt150.2.2)) else (some false)) else (some false))) else (some false))))) else (none)) = some r := H
       have A29 := Aside0.mk A290
       clear A290
       have c30 : x5_3.size + 2 ≤ 9223372036854775807 := znQx7_
       rw [if_pos c30] at H
       have c30b0 := eq_true c30
       have c30b1 : decide (x5_3.size + 2 ≤ 9223372036854775807) = true := decide_eq_true c30
       try have c30b2 : (9223372036854775807 < x5_3.size + 2) = False := eq_false (Nat.not_lt.2 c30)
       replace H := Option.bind_eq_some_iff.mp H
       obtain ⟨⟨t150, t151, t152⟩, A310, H⟩ := H
       replace H : (if t147 = 0 then ((basculelaw21_awake.f).bind fun t155 => (if t155 = true then ((basculeref21_Rows.f k3 t145 t150).bind fun t156 => (if t156 = true then (if t146 = t151 then (some (t147 == t152)) else (some false)) else (some false))) else (some false))) else ((basculelaw21_awake.f).bind fun t157 => (if t157 = true then ((basculeref21_Rows.f k3 t145 t150).bind fun t158 => (if t158 = true then (if (wrap64 (t146 + a1)) = t151 then (some (t147 == t152)) else (some false)) else (some false))) else (some false)))) = some r := H
       have A31 := Aside0.mk A310
       clear A310
       by_cases c32 : t147 = 0
       ·
        rw [if_pos c32] at H
        have c32b0 : (t147 == 0) = true := beq_iff_eq.mpr c32
        have c32b1 : (t147 != 0) = false := bne_eq_false_iff_eq.mpr c32
        clear c32
        replace H := Option.bind_eq_some_iff.mp H
        obtain ⟨t155, A330, H⟩ := H
        replace H : (if t155 = true then ((basculeref21_Rows.f k3 t145 t150).bind fun t156 => (if t156 = true then (if t146 = t151 then (some (t147 == t152)) else (some false)) else (some false))) else (some false)) = some r := H
        have A33 := Aside0.mk A330
        clear A330
        by_cases c34 : t155 = true
        rotate_left
        ·
         replace c34 := Bool.eq_false_iff.mpr c34
         subst c34
         have H1 : (some false) = some r := by rw [if_neg (show ¬ (false = true) by decide)] at H; exact H
         clear H
         have H := H1
         clear H1
         obtain rfl := Option.some.inj H
         go_wp2_with (first | ((with_reducible refine gate_callee (f := 4) rfl ?_); refine goesL_ (some 59) rfl rfl Tryd.func4 (by kernel_rfl) rfl #[.string a0] rfl zQx7a1_ ?_; (with_reducible refine (table_Parse.calls a0 t145 t146 t147 _ (Val.Laid.below hLd_ zQx7a0_) A29.out).mono ?_); rintro e w53 ⟨v148, rfl, ho0, hb⟩; refine ⟨_, rfl, ?_⟩; have n0_ := Aside0.mk (Kd.R_lower ho0 (below_size zQx7a0_)); have n1_ := Aside0.mk (below_step zQx7a0_ hb); clear HB; have HO149 := n0_; have HB := n1_; clear n0_ n1_; (try clear hb); (try clear hb2); (try clear hk); (try clear hi); (try clear ho0)) | ((with_reducible refine gate_callee (f := 4) rfl ?_); refine goesL_ (some 66) rfl rfl Tryd.func4 (by kernel_rfl) rfl #[.string (x5_3 ++ (⟨#[32, 32]⟩ : ByteArray))] rfl zQx7a1_ ?_; (with_reducible refine (table_Parse.calls (x5_3 ++ (⟨#[32, 32]⟩ : ByteArray)) t150 t151 t152 _ (Val.Laid.below hLd_ zQx7a0_) A31.out).mono ?_); rintro e w54 ⟨v153, rfl, ho0, hb⟩; refine ⟨_, rfl, ?_⟩; have n0_ := Aside0.mk (Kd.R_elder' zQx7a3_ (Kd.R_base ho0) hb); have n1_ := Aside0.mk (Kd.R_lower (Kd.R_new' ho0 (Kd.R_lt zQx7a3_)) (below_size zQx7a0_)); have n2_ := Aside0.mk (below_step zQx7a0_ hb); clear HO149; clear HB; have HO149 := n0_; have HO154 := n1_; have HB := n2_; clear n0_ n1_ n2_; (try clear hb); (try clear hb2); (try clear hk); (try clear hi); (try clear ho0)) | ((with_reducible refine gate_callee (f := 5) rfl ?_); refine goesL_ (some 75) rfl rfl Tryd.func5 (by kernel_rfl) rfl #[] rfl zQx7a1_ ?_; (with_reducible refine (basculelaw21_awake.calls  false _ (Val.Laid.below hLd_ zQx7a0_) A33.out).mono ?_); rintro e w55 ⟨rfl, hb⟩; refine ⟨_, rfl, ?_⟩; have n0_ := Aside0.mk (Kd.R_below zQx7a3_ hb); have n1_ := Aside0.mk (Kd.R_below zQx7a8_ hb); have n2_ := Aside0.mk (below_step zQx7a0_ hb); clear HO149; clear HO154; clear HB; have HO149 := n0_; have HO154 := n1_; have HB := n2_; clear n0_ n1_ n2_; (try clear hb); (try clear hb2); (try clear hk); (try clear hi)))
         go_ret
         exact ⟨zQx7a5_, zQx7a0_⟩
        subst c34
        have H1 : ((basculeref21_Rows.f k3 t145 t150).bind fun t156 => (if t156 = true then (if t146 = t151 then (some (t147 == t152)) else (some false)) else (some false))) = some r := by rw [if_pos rfl] at H; exact H
        clear H
        have H := H1
        clear H1
        replace H := Option.bind_eq_some_iff.mp H
        obtain ⟨t156, A350, H⟩ := H
        replace H : (if t156 = true then (if t146 = t151 then (some (t147 == t152)) else (some false)) else (some false)) = some r := H
        have A35 := Aside0.mk A350
        clear A350
        by_cases c36 : t156 = true
        rotate_left
        ·
         replace c36 := Bool.eq_false_iff.mpr c36
         subst c36
         have H1 : (some false) = some r := by rw [if_neg (show ¬ (false = true) by decide)] at H; exact H
         clear H
         have H := H1
         clear H1
         obtain rfl := Option.some.inj H
         go_wp2_with (first | ((with_reducible refine gate_callee (f := 4) rfl ?_); refine goesL_ (some 59) rfl rfl Tryd.func4 (by kernel_rfl) rfl #[.string a0] rfl zQx7a1_ ?_; (with_reducible refine (table_Parse.calls a0 t145 t146 t147 _ (Val.Laid.below hLd_ zQx7a0_) A29.out).mono ?_); rintro e w48 ⟨v148, rfl, ho0, hb⟩; refine ⟨_, rfl, ?_⟩; have n0_ := Aside0.mk (Kd.R_lower ho0 (below_size zQx7a0_)); have n1_ := Aside0.mk (below_step zQx7a0_ hb); clear HB; have HO149 := n0_; have HB := n1_; clear n0_ n1_; (try clear hb); (try clear hb2); (try clear hk); (try clear hi); (try clear ho0)) | ((with_reducible refine gate_callee (f := 4) rfl ?_); refine goesL_ (some 66) rfl rfl Tryd.func4 (by kernel_rfl) rfl #[.string (x5_3 ++ (⟨#[32, 32]⟩ : ByteArray))] rfl zQx7a1_ ?_; (with_reducible refine (table_Parse.calls (x5_3 ++ (⟨#[32, 32]⟩ : ByteArray)) t150 t151 t152 _ (Val.Laid.below hLd_ zQx7a0_) A31.out).mono ?_); rintro e w49 ⟨v153, rfl, ho0, hb⟩; refine ⟨_, rfl, ?_⟩; have n0_ := Aside0.mk (Kd.R_elder' zQx7a3_ (Kd.R_base ho0) hb); have n1_ := Aside0.mk (Kd.R_lower (Kd.R_new' ho0 (Kd.R_lt zQx7a3_)) (below_size zQx7a0_)); have n2_ := Aside0.mk (below_step zQx7a0_ hb); clear HO149; clear HB; have HO149 := n0_; have HO154 := n1_; have HB := n2_; clear n0_ n1_ n2_; (try clear hb); (try clear hb2); (try clear hk); (try clear hi); (try clear ho0)) | ((with_reducible refine gate_callee (f := 5) rfl ?_); refine goesL_ (some 75) rfl rfl Tryd.func5 (by kernel_rfl) rfl #[] rfl zQx7a1_ ?_; (with_reducible refine (basculelaw21_awake.calls  true _ (Val.Laid.below hLd_ zQx7a0_) A33.out).mono ?_); rintro e w50 ⟨rfl, hb⟩; refine ⟨_, rfl, ?_⟩; have n0_ := Aside0.mk (Kd.R_below zQx7a3_ hb); have n1_ := Aside0.mk (Kd.R_below zQx7a8_ hb); have n2_ := Aside0.mk (below_step zQx7a0_ hb); clear HO149; clear HO154; clear HB; have HO149 := n0_; have HO154 := n1_; have HB := n2_; clear n0_ n1_ n2_; (try clear hb); (try clear hb2); (try clear hk); (try clear hi); obtain ⟨Ao51, co51, eo51⟩ := Kd.R_slice HO149.out; subst eo51; obtain ⟨Ao52, co52, eo52⟩ := Kd.R_slice HO154.out; subst eo52) | (go_at_call 6; (with_reducible refine (basculeref21_Rows.calls k3 _ _ t145 _ _ t150 false _ ?side1 ?side2 ?side3 ?side4 A35.out).mono ?_); (case side1 => repeat (first | exact (Kd.R_reads' HO149.out).2.2 | (with_reducible refine Kd.C_alloc ?_ _) | (with_reducible refine Kd.C_drewN ?_ _) | (with_reducible refine Kd.C_drew ?_))); (case side2 => exact (Kd.R_reads' HO149.out).2.1); (case side3 => repeat (first | exact (Kd.R_reads' HO154.out).2.2 | (with_reducible refine Kd.C_alloc ?_ _) | (with_reducible refine Kd.C_drewN ?_ _) | (with_reducible refine Kd.C_drew ?_))); (case side4 => exact (Kd.R_reads' HO154.out).2.1); rintro e w' ⟨rfl, ⟨nd, rfl⟩⟩))
         go_ret
         exact ⟨zQx7a5_, zQx7a0_⟩
        subst c36
        have H1 : (if t146 = t151 then (some (t147 == t152)) else (some false)) = some r := by rw [if_pos rfl] at H; exact H
        clear H
        have H := H1
        clear H1
        by_cases c37 : t146 = t151
        rotate_left
        ·
         rw [if_neg c37] at H
         have c37b0 : (t146 == t151) = false := beq_eq_false_iff_ne.mpr c37
         have c37b1 : (t146 != t151) = true := bne_iff_ne.mpr c37
         obtain rfl := Option.some.inj H
         go_wp2_with (first | ((with_reducible refine gate_callee (f := 4) rfl ?_); refine goesL_ (some 59) rfl rfl Tryd.func4 (by kernel_rfl) rfl #[.string a0] rfl zQx7a1_ ?_; (with_reducible refine (table_Parse.calls a0 t145 t146 t147 _ (Val.Laid.below hLd_ zQx7a0_) A29.out).mono ?_); rintro e w43 ⟨v148, rfl, ho0, hb⟩; refine ⟨_, rfl, ?_⟩; have n0_ := Aside0.mk (Kd.R_lower ho0 (below_size zQx7a0_)); have n1_ := Aside0.mk (below_step zQx7a0_ hb); clear HB; have HO149 := n0_; have HB := n1_; clear n0_ n1_; (try clear hb); (try clear hb2); (try clear hk); (try clear hi); (try clear ho0)) | ((with_reducible refine gate_callee (f := 4) rfl ?_); refine goesL_ (some 66) rfl rfl Tryd.func4 (by kernel_rfl) rfl #[.string (x5_3 ++ (⟨#[32, 32]⟩ : ByteArray))] rfl zQx7a1_ ?_; (with_reducible refine (table_Parse.calls (x5_3 ++ (⟨#[32, 32]⟩ : ByteArray)) t150 t151 t152 _ (Val.Laid.below hLd_ zQx7a0_) A31.out).mono ?_); rintro e w44 ⟨v153, rfl, ho0, hb⟩; refine ⟨_, rfl, ?_⟩; have n0_ := Aside0.mk (Kd.R_elder' zQx7a3_ (Kd.R_base ho0) hb); have n1_ := Aside0.mk (Kd.R_lower (Kd.R_new' ho0 (Kd.R_lt zQx7a3_)) (below_size zQx7a0_)); have n2_ := Aside0.mk (below_step zQx7a0_ hb); clear HO149; clear HB; have HO149 := n0_; have HO154 := n1_; have HB := n2_; clear n0_ n1_ n2_; (try clear hb); (try clear hb2); (try clear hk); (try clear hi); (try clear ho0)) | ((with_reducible refine gate_callee (f := 5) rfl ?_); refine goesL_ (some 75) rfl rfl Tryd.func5 (by kernel_rfl) rfl #[] rfl zQx7a1_ ?_; (with_reducible refine (basculelaw21_awake.calls  true _ (Val.Laid.below hLd_ zQx7a0_) A33.out).mono ?_); rintro e w45 ⟨rfl, hb⟩; refine ⟨_, rfl, ?_⟩; have n0_ := Aside0.mk (Kd.R_below zQx7a3_ hb); have n1_ := Aside0.mk (Kd.R_below zQx7a8_ hb); have n2_ := Aside0.mk (below_step zQx7a0_ hb); clear HO149; clear HO154; clear HB; have HO149 := n0_; have HO154 := n1_; have HB := n2_; clear n0_ n1_ n2_; (try clear hb); (try clear hb2); (try clear hk); (try clear hi); obtain ⟨Ao46, co46, eo46⟩ := Kd.R_slice HO149.out; subst eo46; obtain ⟨Ao47, co47, eo47⟩ := Kd.R_slice HO154.out; subst eo47) | (go_at_call 6; (with_reducible refine (basculeref21_Rows.calls k3 _ _ t145 _ _ t150 true _ ?side1 ?side2 ?side3 ?side4 A35.out).mono ?_); (case side1 => repeat (first | exact (Kd.R_reads' HO149.out).2.2 | (with_reducible refine Kd.C_alloc ?_ _) | (with_reducible refine Kd.C_drewN ?_ _) | (with_reducible refine Kd.C_drew ?_))); (case side2 => exact (Kd.R_reads' HO149.out).2.1); (case side3 => repeat (first | exact (Kd.R_reads' HO154.out).2.2 | (with_reducible refine Kd.C_alloc ?_ _) | (with_reducible refine Kd.C_drewN ?_ _) | (with_reducible refine Kd.C_drew ?_))); (case side4 => exact (Kd.R_reads' HO154.out).2.1); rintro e w' ⟨rfl, ⟨nd, rfl⟩⟩))
         go_ret
         exact ⟨zQx7a5_, zQx7a0_⟩
        rw [if_pos c37] at H
        have c37b0 : (t146 == t151) = true := beq_iff_eq.mpr c37
        have c37b1 : (t146 != t151) = false := bne_eq_false_iff_eq.mpr c37
        clear c37
        obtain rfl := Option.some.inj H
        go_wp2_with (first | ((with_reducible refine gate_callee (f := 4) rfl ?_); refine goesL_ (some 59) rfl rfl Tryd.func4 (by kernel_rfl) rfl #[.string a0] rfl zQx7a1_ ?_; (with_reducible refine (table_Parse.calls a0 t145 t146 t147 _ (Val.Laid.below hLd_ zQx7a0_) A29.out).mono ?_); rintro e w38 ⟨v148, rfl, ho0, hb⟩; refine ⟨_, rfl, ?_⟩; have n0_ := Aside0.mk (Kd.R_lower ho0 (below_size zQx7a0_)); have n1_ := Aside0.mk (below_step zQx7a0_ hb); clear HB; have HO149 := n0_; have HB := n1_; clear n0_ n1_; (try clear hb); (try clear hb2); (try clear hk); (try clear hi); (try clear ho0)) | ((with_reducible refine gate_callee (f := 4) rfl ?_); refine goesL_ (some 66) rfl rfl Tryd.func4 (by kernel_rfl) rfl #[.string (x5_3 ++ (⟨#[32, 32]⟩ : ByteArray))] rfl zQx7a1_ ?_; (with_reducible refine (table_Parse.calls (x5_3 ++ (⟨#[32, 32]⟩ : ByteArray)) t150 t151 t152 _ (Val.Laid.below hLd_ zQx7a0_) A31.out).mono ?_); rintro e w39 ⟨v153, rfl, ho0, hb⟩; refine ⟨_, rfl, ?_⟩; have n0_ := Aside0.mk (Kd.R_elder' zQx7a3_ (Kd.R_base ho0) hb); have n1_ := Aside0.mk (Kd.R_lower (Kd.R_new' ho0 (Kd.R_lt zQx7a3_)) (below_size zQx7a0_)); have n2_ := Aside0.mk (below_step zQx7a0_ hb); clear HO149; clear HB; have HO149 := n0_; have HO154 := n1_; have HB := n2_; clear n0_ n1_ n2_; (try clear hb); (try clear hb2); (try clear hk); (try clear hi); (try clear ho0)) | ((with_reducible refine gate_callee (f := 5) rfl ?_); refine goesL_ (some 75) rfl rfl Tryd.func5 (by kernel_rfl) rfl #[] rfl zQx7a1_ ?_; (with_reducible refine (basculelaw21_awake.calls  true _ (Val.Laid.below hLd_ zQx7a0_) A33.out).mono ?_); rintro e w40 ⟨rfl, hb⟩; refine ⟨_, rfl, ?_⟩; have n0_ := Aside0.mk (Kd.R_below zQx7a3_ hb); have n1_ := Aside0.mk (Kd.R_below zQx7a8_ hb); have n2_ := Aside0.mk (below_step zQx7a0_ hb); clear HO149; clear HO154; clear HB; have HO149 := n0_; have HO154 := n1_; have HB := n2_; clear n0_ n1_ n2_; (try clear hb); (try clear hb2); (try clear hk); (try clear hi); obtain ⟨Ao41, co41, eo41⟩ := Kd.R_slice HO149.out; subst eo41; obtain ⟨Ao42, co42, eo42⟩ := Kd.R_slice HO154.out; subst eo42) | (go_at_call 6; (with_reducible refine (basculeref21_Rows.calls k3 _ _ t145 _ _ t150 true _ ?side1 ?side2 ?side3 ?side4 A35.out).mono ?_); (case side1 => repeat (first | exact (Kd.R_reads' HO149.out).2.2 | (with_reducible refine Kd.C_alloc ?_ _) | (with_reducible refine Kd.C_drewN ?_ _) | (with_reducible refine Kd.C_drew ?_))); (case side2 => exact (Kd.R_reads' HO149.out).2.1); (case side3 => repeat (first | exact (Kd.R_reads' HO154.out).2.2 | (with_reducible refine Kd.C_alloc ?_ _) | (with_reducible refine Kd.C_drewN ?_ _) | (with_reducible refine Kd.C_drew ?_))); (case side4 => exact (Kd.R_reads' HO154.out).2.1); rintro e w' ⟨rfl, ⟨nd, rfl⟩⟩))
        go_ret
        exact ⟨zQx7a5_, zQx7a0_⟩
       rw [if_neg c32] at H
       have c32b0 : (t147 == 0) = false := beq_eq_false_iff_ne.mpr c32
       have c32b1 : (t147 != 0) = true := bne_iff_ne.mpr c32
       replace H := Option.bind_eq_some_iff.mp H
       obtain ⟨t157, A560, H⟩ := H
       replace H : (if t157 = true then ((basculeref21_Rows.f k3 t145 t150).bind fun t158 => (if t158 = true then (if (wrap64 (t146 + a1)) = t151 then (some (t147 == t152)) else (some false)) else (some false))) else (some false)) = some r := H
       have A56 := Aside0.mk A560
       clear A560
       by_cases c57 : t157 = true
       rotate_left
       ·
        replace c57 := Bool.eq_false_iff.mpr c57
        subst c57
        have H1 : (some false) = some r := by rw [if_neg (show ¬ (false = true) by decide)] at H; exact H
        clear H
        have H := H1
        clear H1
        obtain rfl := Option.some.inj H
        go_wp2_with (first | ((with_reducible refine gate_callee (f := 4) rfl ?_); refine goesL_ (some 59) rfl rfl Tryd.func4 (by kernel_rfl) rfl #[.string a0] rfl zQx7a1_ ?_; (with_reducible refine (table_Parse.calls a0 t145 t146 t147 _ (Val.Laid.below hLd_ zQx7a0_) A29.out).mono ?_); rintro e w76 ⟨v148, rfl, ho0, hb⟩; refine ⟨_, rfl, ?_⟩; have n0_ := Aside0.mk (Kd.R_lower ho0 (below_size zQx7a0_)); have n1_ := Aside0.mk (below_step zQx7a0_ hb); clear HB; have HO149 := n0_; have HB := n1_; clear n0_ n1_; (try clear hb); (try clear hb2); (try clear hk); (try clear hi); (try clear ho0)) | ((with_reducible refine gate_callee (f := 4) rfl ?_); refine goesL_ (some 66) rfl rfl Tryd.func4 (by kernel_rfl) rfl #[.string (x5_3 ++ (⟨#[32, 32]⟩ : ByteArray))] rfl zQx7a1_ ?_; (with_reducible refine (table_Parse.calls (x5_3 ++ (⟨#[32, 32]⟩ : ByteArray)) t150 t151 t152 _ (Val.Laid.below hLd_ zQx7a0_) A31.out).mono ?_); rintro e w77 ⟨v153, rfl, ho0, hb⟩; refine ⟨_, rfl, ?_⟩; have n0_ := Aside0.mk (Kd.R_elder' zQx7a3_ (Kd.R_base ho0) hb); have n1_ := Aside0.mk (Kd.R_lower (Kd.R_new' ho0 (Kd.R_lt zQx7a3_)) (below_size zQx7a0_)); have n2_ := Aside0.mk (below_step zQx7a0_ hb); clear HO149; clear HB; have HO149 := n0_; have HO154 := n1_; have HB := n2_; clear n0_ n1_ n2_; (try clear hb); (try clear hb2); (try clear hk); (try clear hi); (try clear ho0)) | ((with_reducible refine gate_callee (f := 5) rfl ?_); refine goesL_ (some 75) rfl rfl Tryd.func5 (by kernel_rfl) rfl #[] rfl zQx7a1_ ?_; (with_reducible refine (basculelaw21_awake.calls  false _ (Val.Laid.below hLd_ zQx7a0_) A56.out).mono ?_); rintro e w78 ⟨rfl, hb⟩; refine ⟨_, rfl, ?_⟩; have n0_ := Aside0.mk (Kd.R_below zQx7a3_ hb); have n1_ := Aside0.mk (Kd.R_below zQx7a8_ hb); have n2_ := Aside0.mk (below_step zQx7a0_ hb); clear HO149; clear HO154; clear HB; have HO149 := n0_; have HO154 := n1_; have HB := n2_; clear n0_ n1_ n2_; (try clear hb); (try clear hb2); (try clear hk); (try clear hi)))
        go_ret
        exact ⟨zQx7a5_, zQx7a0_⟩
       subst c57
       have H1 : ((basculeref21_Rows.f k3 t145 t150).bind fun t158 => (if t158 = true then (if (wrap64 (t146 + a1)) = t151 then (some (t147 == t152)) else (some false)) else (some false))) = some r := by rw [if_pos rfl] at H; exact H
       clear H
       have H := H1
       clear H1
       replace H := Option.bind_eq_some_iff.mp H
       obtain ⟨t158, A580, H⟩ := H
       replace H : (if t158 = true then (if (wrap64 (t146 + a1)) = t151 then (some (t147 == t152)) else (some false)) else (some false)) = some r := H
       have A58 := Aside0.mk A580
       clear A580
       by_cases c59 : t158 = true
       rotate_left
       ·
        replace c59 := Bool.eq_false_iff.mpr c59
        subst c59
        have H1 : (some false) = some r := by rw [if_neg (show ¬ (false = true) by decide)] at H; exact H
        clear H
        have H := H1
        clear H1
        obtain rfl := Option.some.inj H
        go_wp2_with (first | ((with_reducible refine gate_callee (f := 4) rfl ?_); refine goesL_ (some 59) rfl rfl Tryd.func4 (by kernel_rfl) rfl #[.string a0] rfl zQx7a1_ ?_; (with_reducible refine (table_Parse.calls a0 t145 t146 t147 _ (Val.Laid.below hLd_ zQx7a0_) A29.out).mono ?_); rintro e w71 ⟨v148, rfl, ho0, hb⟩; refine ⟨_, rfl, ?_⟩; have n0_ := Aside0.mk (Kd.R_lower ho0 (below_size zQx7a0_)); have n1_ := Aside0.mk (below_step zQx7a0_ hb); clear HB; have HO149 := n0_; have HB := n1_; clear n0_ n1_; (try clear hb); (try clear hb2); (try clear hk); (try clear hi); (try clear ho0)) | ((with_reducible refine gate_callee (f := 4) rfl ?_); refine goesL_ (some 66) rfl rfl Tryd.func4 (by kernel_rfl) rfl #[.string (x5_3 ++ (⟨#[32, 32]⟩ : ByteArray))] rfl zQx7a1_ ?_; (with_reducible refine (table_Parse.calls (x5_3 ++ (⟨#[32, 32]⟩ : ByteArray)) t150 t151 t152 _ (Val.Laid.below hLd_ zQx7a0_) A31.out).mono ?_); rintro e w72 ⟨v153, rfl, ho0, hb⟩; refine ⟨_, rfl, ?_⟩; have n0_ := Aside0.mk (Kd.R_elder' zQx7a3_ (Kd.R_base ho0) hb); have n1_ := Aside0.mk (Kd.R_lower (Kd.R_new' ho0 (Kd.R_lt zQx7a3_)) (below_size zQx7a0_)); have n2_ := Aside0.mk (below_step zQx7a0_ hb); clear HO149; clear HB; have HO149 := n0_; have HO154 := n1_; have HB := n2_; clear n0_ n1_ n2_; (try clear hb); (try clear hb2); (try clear hk); (try clear hi); (try clear ho0)) | ((with_reducible refine gate_callee (f := 5) rfl ?_); refine goesL_ (some 75) rfl rfl Tryd.func5 (by kernel_rfl) rfl #[] rfl zQx7a1_ ?_; (with_reducible refine (basculelaw21_awake.calls  true _ (Val.Laid.below hLd_ zQx7a0_) A56.out).mono ?_); rintro e w73 ⟨rfl, hb⟩; refine ⟨_, rfl, ?_⟩; have n0_ := Aside0.mk (Kd.R_below zQx7a3_ hb); have n1_ := Aside0.mk (Kd.R_below zQx7a8_ hb); have n2_ := Aside0.mk (below_step zQx7a0_ hb); clear HO149; clear HO154; clear HB; have HO149 := n0_; have HO154 := n1_; have HB := n2_; clear n0_ n1_ n2_; (try clear hb); (try clear hb2); (try clear hk); (try clear hi); obtain ⟨Ao74, co74, eo74⟩ := Kd.R_slice HO149.out; subst eo74; obtain ⟨Ao75, co75, eo75⟩ := Kd.R_slice HO154.out; subst eo75) | (go_at_call 6; (with_reducible refine (basculeref21_Rows.calls k3 _ _ t145 _ _ t150 false _ ?side1 ?side2 ?side3 ?side4 A58.out).mono ?_); (case side1 => repeat (first | exact (Kd.R_reads' HO149.out).2.2 | (with_reducible refine Kd.C_alloc ?_ _) | (with_reducible refine Kd.C_drewN ?_ _) | (with_reducible refine Kd.C_drew ?_))); (case side2 => exact (Kd.R_reads' HO149.out).2.1); (case side3 => repeat (first | exact (Kd.R_reads' HO154.out).2.2 | (with_reducible refine Kd.C_alloc ?_ _) | (with_reducible refine Kd.C_drewN ?_ _) | (with_reducible refine Kd.C_drew ?_))); (case side4 => exact (Kd.R_reads' HO154.out).2.1); rintro e w' ⟨rfl, ⟨nd, rfl⟩⟩))
        go_ret
        exact ⟨zQx7a5_, zQx7a0_⟩
       subst c59
       have H1 : (if (wrap64 (t146 + a1)) = t151 then (some (t147 == t152)) else (some false)) = some r := by rw [if_pos rfl] at H; exact H
       clear H
       have H := H1
       clear H1
       by_cases c60 : (wrap64 (t146 + a1)) = t151
       rotate_left
       ·
        rw [if_neg c60] at H
        have c60b0 : ((wrap64 (t146 + a1)) == t151) = false := beq_eq_false_iff_ne.mpr c60
        have c60b1 : ((wrap64 (t146 + a1)) != t151) = true := bne_iff_ne.mpr c60
        obtain rfl := Option.some.inj H
        go_wp2_with (first | ((with_reducible refine gate_callee (f := 4) rfl ?_); refine goesL_ (some 59) rfl rfl Tryd.func4 (by kernel_rfl) rfl #[.string a0] rfl zQx7a1_ ?_; (with_reducible refine (table_Parse.calls a0 t145 t146 t147 _ (Val.Laid.below hLd_ zQx7a0_) A29.out).mono ?_); rintro e w66 ⟨v148, rfl, ho0, hb⟩; refine ⟨_, rfl, ?_⟩; have n0_ := Aside0.mk (Kd.R_lower ho0 (below_size zQx7a0_)); have n1_ := Aside0.mk (below_step zQx7a0_ hb); clear HB; have HO149 := n0_; have HB := n1_; clear n0_ n1_; (try clear hb); (try clear hb2); (try clear hk); (try clear hi); (try clear ho0)) | ((with_reducible refine gate_callee (f := 4) rfl ?_); refine goesL_ (some 66) rfl rfl Tryd.func4 (by kernel_rfl) rfl #[.string (x5_3 ++ (⟨#[32, 32]⟩ : ByteArray))] rfl zQx7a1_ ?_; (with_reducible refine (table_Parse.calls (x5_3 ++ (⟨#[32, 32]⟩ : ByteArray)) t150 t151 t152 _ (Val.Laid.below hLd_ zQx7a0_) A31.out).mono ?_); rintro e w67 ⟨v153, rfl, ho0, hb⟩; refine ⟨_, rfl, ?_⟩; have n0_ := Aside0.mk (Kd.R_elder' zQx7a3_ (Kd.R_base ho0) hb); have n1_ := Aside0.mk (Kd.R_lower (Kd.R_new' ho0 (Kd.R_lt zQx7a3_)) (below_size zQx7a0_)); have n2_ := Aside0.mk (below_step zQx7a0_ hb); clear HO149; clear HB; have HO149 := n0_; have HO154 := n1_; have HB := n2_; clear n0_ n1_ n2_; (try clear hb); (try clear hb2); (try clear hk); (try clear hi); (try clear ho0)) | ((with_reducible refine gate_callee (f := 5) rfl ?_); refine goesL_ (some 75) rfl rfl Tryd.func5 (by kernel_rfl) rfl #[] rfl zQx7a1_ ?_; (with_reducible refine (basculelaw21_awake.calls  true _ (Val.Laid.below hLd_ zQx7a0_) A56.out).mono ?_); rintro e w68 ⟨rfl, hb⟩; refine ⟨_, rfl, ?_⟩; have n0_ := Aside0.mk (Kd.R_below zQx7a3_ hb); have n1_ := Aside0.mk (Kd.R_below zQx7a8_ hb); have n2_ := Aside0.mk (below_step zQx7a0_ hb); clear HO149; clear HO154; clear HB; have HO149 := n0_; have HO154 := n1_; have HB := n2_; clear n0_ n1_ n2_; (try clear hb); (try clear hb2); (try clear hk); (try clear hi); obtain ⟨Ao69, co69, eo69⟩ := Kd.R_slice HO149.out; subst eo69; obtain ⟨Ao70, co70, eo70⟩ := Kd.R_slice HO154.out; subst eo70) | (go_at_call 6; (with_reducible refine (basculeref21_Rows.calls k3 _ _ t145 _ _ t150 true _ ?side1 ?side2 ?side3 ?side4 A58.out).mono ?_); (case side1 => repeat (first | exact (Kd.R_reads' HO149.out).2.2 | (with_reducible refine Kd.C_alloc ?_ _) | (with_reducible refine Kd.C_drewN ?_ _) | (with_reducible refine Kd.C_drew ?_))); (case side2 => exact (Kd.R_reads' HO149.out).2.1); (case side3 => repeat (first | exact (Kd.R_reads' HO154.out).2.2 | (with_reducible refine Kd.C_alloc ?_ _) | (with_reducible refine Kd.C_drewN ?_ _) | (with_reducible refine Kd.C_drew ?_))); (case side4 => exact (Kd.R_reads' HO154.out).2.1); rintro e w' ⟨rfl, ⟨nd, rfl⟩⟩))
        go_ret
        exact ⟨zQx7a5_, zQx7a0_⟩
       rw [if_pos c60] at H
       have c60b0 : ((wrap64 (t146 + a1)) == t151) = true := beq_iff_eq.mpr c60
       have c60b1 : ((wrap64 (t146 + a1)) != t151) = false := bne_eq_false_iff_eq.mpr c60
       clear c60
       obtain rfl := Option.some.inj H
       go_wp2_with (first | ((with_reducible refine gate_callee (f := 4) rfl ?_); refine goesL_ (some 59) rfl rfl Tryd.func4 (by kernel_rfl) rfl #[.string a0] rfl zQx7a1_ ?_; (with_reducible refine (table_Parse.calls a0 t145 t146 t147 _ (Val.Laid.below hLd_ zQx7a0_) A29.out).mono ?_); rintro e w61 ⟨v148, rfl, ho0, hb⟩; refine ⟨_, rfl, ?_⟩; have n0_ := Aside0.mk (Kd.R_lower ho0 (below_size zQx7a0_)); have n1_ := Aside0.mk (below_step zQx7a0_ hb); clear HB; have HO149 := n0_; have HB := n1_; clear n0_ n1_; (try clear hb); (try clear hb2); (try clear hk); (try clear hi); (try clear ho0)) | ((with_reducible refine gate_callee (f := 4) rfl ?_); refine goesL_ (some 66) rfl rfl Tryd.func4 (by kernel_rfl) rfl #[.string (x5_3 ++ (⟨#[32, 32]⟩ : ByteArray))] rfl zQx7a1_ ?_; (with_reducible refine (table_Parse.calls (x5_3 ++ (⟨#[32, 32]⟩ : ByteArray)) t150 t151 t152 _ (Val.Laid.below hLd_ zQx7a0_) A31.out).mono ?_); rintro e w62 ⟨v153, rfl, ho0, hb⟩; refine ⟨_, rfl, ?_⟩; have n0_ := Aside0.mk (Kd.R_elder' zQx7a3_ (Kd.R_base ho0) hb); have n1_ := Aside0.mk (Kd.R_lower (Kd.R_new' ho0 (Kd.R_lt zQx7a3_)) (below_size zQx7a0_)); have n2_ := Aside0.mk (below_step zQx7a0_ hb); clear HO149; clear HB; have HO149 := n0_; have HO154 := n1_; have HB := n2_; clear n0_ n1_ n2_; (try clear hb); (try clear hb2); (try clear hk); (try clear hi); (try clear ho0)) | ((with_reducible refine gate_callee (f := 5) rfl ?_); refine goesL_ (some 75) rfl rfl Tryd.func5 (by kernel_rfl) rfl #[] rfl zQx7a1_ ?_; (with_reducible refine (basculelaw21_awake.calls  true _ (Val.Laid.below hLd_ zQx7a0_) A56.out).mono ?_); rintro e w63 ⟨rfl, hb⟩; refine ⟨_, rfl, ?_⟩; have n0_ := Aside0.mk (Kd.R_below zQx7a3_ hb); have n1_ := Aside0.mk (Kd.R_below zQx7a8_ hb); have n2_ := Aside0.mk (below_step zQx7a0_ hb); clear HO149; clear HO154; clear HB; have HO149 := n0_; have HO154 := n1_; have HB := n2_; clear n0_ n1_ n2_; (try clear hb); (try clear hb2); (try clear hk); (try clear hi); obtain ⟨Ao64, co64, eo64⟩ := Kd.R_slice HO149.out; subst eo64; obtain ⟨Ao65, co65, eo65⟩ := Kd.R_slice HO154.out; subst eo65) | (go_at_call 6; (with_reducible refine (basculeref21_Rows.calls k3 _ _ t145 _ _ t150 true _ ?side1 ?side2 ?side3 ?side4 A58.out).mono ?_); (case side1 => repeat (first | exact (Kd.R_reads' HO149.out).2.2 | (with_reducible refine Kd.C_alloc ?_ _) | (with_reducible refine Kd.C_drewN ?_ _) | (with_reducible refine Kd.C_drew ?_))); (case side2 => exact (Kd.R_reads' HO149.out).2.1); (case side3 => repeat (first | exact (Kd.R_reads' HO154.out).2.2 | (with_reducible refine Kd.C_alloc ?_ _) | (with_reducible refine Kd.C_drewN ?_ _) | (with_reducible refine Kd.C_drew ?_))); (case side4 => exact (Kd.R_reads' HO154.out).2.1); rintro e w' ⟨rfl, ⟨nd, rfl⟩⟩))
       go_ret
       exact ⟨zQx7a5_, zQx7a0_⟩
def basculelaw21_TableBlanks.Pure : Prop := ∀ (a0 : ByteArray) (a1 : Int), a0.size ≤ 140737488351232 → (Lit.int .i64 a1).wf = true → ∃ k, basculelaw21_TableBlanks.f k a0 a1 = some true
theorem basculelaw21_TableBlanks.walk (P : basculelaw21_TableBlanks.Pure) (a0 : ByteArray) (a1 : Int) (w : World) (hLd_ : Val.Laid w) (w0 : a0.size ≤ 140737488351232) (w1 : (Lit.int .i64 a1).wf = true) :
  Calls Tryd.prog 3 #[.string a0, .int .i64 a1] w fun e w' => e = .returned (.bool true) ∧ Below w.heap.size w w' := by
 obtain ⟨k, h⟩ := P a0 a1 w0 w1
 refine (basculelaw21_TableBlanks.calls k a0 a1 true w hLd_ h).mono ?_
 rintro e w' ⟨rfl, hd⟩
 exact ⟨rfl, hd⟩
end Go.Proofs.YtbfhiiokajbdhaaDoor.Q
