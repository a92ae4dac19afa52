/- What the proof of TableChecks leans on: Qx14. -/
import Derived.Test.YtbfhiiokajbdhaaGreatDoorSTableChecksQx0
import Derived.Test.YtbfhiiokajbdhaaGreatDoorSTableChecksQx1
import Derived.Test.YtbfhiiokajbdhaaGreatDoorSTableChecksTabF
import Derived.Test.YtbfhiiokajbdhaaGreatDoorSTableChecksQx3
import Derived.Test.YtbfhiiokajbdhaaGreatDoorSTableChecksQx11
import Derived.Test.YtbfhiiokajbdhaaGreatDoorSTableChecksQx12
import Derived.Test.YtbfhiiokajbdhaaGreatDoorSTableChecksQx13
namespace Go.Proofs.YtbfhiiokajbdhaaGreatDoor.Q
open Go.RowKit Go.Proofs.YtbfhiiokajbdhaaGreatDoorW.PrintWords Go.Proofs.YtbfhiiokajbdhaaGreatDoorW.PrintLast Go.Proofs.YtbfhiiokajbdhaaGreatDoorW.PrintMore
attribute [local go_sem] max2_int max_two
set_option linter.unusedVariables false
set_option linter.unusedSimpArgs false
attribute [local go_sem high] eqA34
theorem zQx14a0_ {P_ : Prop} (h_ : P_ := by (with_reducible repeat (first | refine blk_drewN ?_ _ | refine blk_drew ?_ | refine blk_alloc ?_ _)); refine blk_put (cs := #[.string t230, .int .i64 t231, .int .i64 t232, .int .i64 t233, .int .i64 t234, .int .i64 t235, .int .i64 t236, .bool false]) ?_ 7 _ rfl; (with_reducible repeat (first | refine blk_drewN ?_ _ | refine blk_drew ?_ | refine blk_alloc ?_ _)); refine blk_put (cs := #[.string t230, .int .i64 t231, .int .i64 t232, .int .i64 t233, .int .i64 t234, .int .i64 t235, .int .i64 0, .bool false]) ?_ 6 _ rfl; (with_reducible repeat (first | refine blk_drewN ?_ _ | refine blk_drew ?_ | refine blk_alloc ?_ _)); refine blk_put (cs := #[.string t230, .int .i64 t231, .int .i64 t232, .int .i64 t233, .int .i64 t234, .int .i64 0, .int .i64 0, .bool false]) ?_ 5 _ rfl; (with_reducible repeat (first | refine blk_drewN ?_ _ | refine blk_drew ?_ | refine blk_alloc ?_ _)); refine blk_put (cs := #[.string t230, .int .i64 t231, .int .i64 t232, .int .i64 t233, .int .i64 0, .int .i64 0, .int .i64 0, .bool false]) ?_ 4 _ rfl; (with_reducible repeat (first | refine blk_drewN ?_ _ | refine blk_drew ?_ | refine blk_alloc ?_ _)); refine blk_put (cs := #[.string t230, .int .i64 t231, .int .i64 t232, .int .i64 0, .int .i64 0, .int .i64 0, .int .i64 0, .bool false]) ?_ 3 _ rfl; (with_reducible repeat (first | refine blk_drewN ?_ _ | refine blk_drew ?_ | refine blk_alloc ?_ _)); refine blk_put (cs := #[.string t230, .int .i64 t231, .int .i64 0, .int .i64 0, .int .i64 0, .int .i64 0, .int .i64 0, .bool false]) ?_ 2 _ rfl; (with_reducible repeat (first | refine blk_drewN ?_ _ | refine blk_drew ?_ | refine blk_alloc ?_ _)); refine blk_put (cs := #[.string t230, .int .i64 0, .int .i64 0, .int .i64 0, .int .i64 0, .int .i64 0, .int .i64 0, .bool false]) ?_ 1 _ rfl; (with_reducible repeat (first | refine blk_drewN ?_ _ | refine blk_drew ?_ | refine blk_alloc ?_ _)); refine blk_put (cs := #[.string (⟨#[]⟩ : ByteArray), .int .i64 0, .int .i64 0, .int .i64 0, .int .i64 0, .int .i64 0, .int .i64 0, .bool false]) ?_ 0 _ rfl; (with_reducible repeat (first | refine blk_drewN ?_ _ | refine blk_drew ?_ | refine blk_alloc ?_ _)); exact BK239.out) : P_ := h_
theorem zQx14a1_ {P_ : Prop} (h_ : P_ := by repeat (first | (with_reducible first | exact HB.out | apply below_alloc | apply pw_below_drewN | apply below_drew1 | refine below_set ?_ GE239.out | refine below_set ?_ GE240.out) | exact HB.out)) : P_ := h_
theorem zQx14a2_ {P_ : Prop} (h_ : P_ := by (try simp only [List.map_toArray, List.map_cons, List.map_nil]); first | done | rfl | (simp only [List.length_drop, List.length_take]; rfl)) : P_ := h_
theorem zQx14a3_ {P_ : Prop} (h_ : P_ := by (with_reducible repeat (first | refine blk_drewN ?_ _ | refine blk_drew ?_ | refine blk_alloc ?_ _)); refine blk_far ?_ NB239_240.out _; (with_reducible repeat (first | refine blk_drewN ?_ _ | refine blk_drew ?_ | refine blk_alloc ?_ _)); refine blk_far ?_ NB239_240.out _; (with_reducible repeat (first | refine blk_drewN ?_ _ | refine blk_drew ?_ | refine blk_alloc ?_ _)); refine blk_far ?_ NB239_240.out _; (with_reducible repeat (first | refine blk_drewN ?_ _ | refine blk_drew ?_ | refine blk_alloc ?_ _)); refine blk_far ?_ NB239_240.out _; (with_reducible repeat (first | refine blk_drewN ?_ _ | refine blk_drew ?_ | refine blk_alloc ?_ _)); refine blk_far ?_ NB239_240.out _; (with_reducible repeat (first | refine blk_drewN ?_ _ | refine blk_drew ?_ | refine blk_alloc ?_ _)); refine blk_far ?_ NB239_240.out _; (with_reducible repeat (first | refine blk_drewN ?_ _ | refine blk_drew ?_ | refine blk_alloc ?_ _)); refine blk_far ?_ NB239_240.out _; (with_reducible repeat (first | refine blk_drewN ?_ _ | refine blk_drew ?_ | refine blk_alloc ?_ _)); refine blk_far ?_ NB239_240.out _; (with_reducible repeat (first | refine blk_drewN ?_ _ | refine blk_drew ?_ | refine blk_alloc ?_ _)); exact BK239.out) : P_ := h_
theorem zQx14a4_ {P_ : Prop} (h_ : P_ := by (with_reducible repeat (first | refine blk_drewN ?_ _ | refine blk_drew ?_ | refine blk_alloc ?_ _)); exact BK239.out) : P_ := h_
theorem zQx14a5_ {P_ : Prop} (h_ : P_ := by (with_reducible repeat (first | refine blk_drewN ?_ _ | refine blk_drew ?_ | refine blk_alloc ?_ _)); exact BK240.out) : P_ := h_
theorem zQx14a6_ {P_ : Prop} (h_ : P_ := by repeat (first | (with_reducible first | exact HB.out | apply below_alloc | apply pw_below_drewN | apply below_drew1) | exact HB.out)) : P_ := h_
theorem zQx14a7_ {P_ : Prop} (h_ : P_ := by first | rfl | (simp [errW_none, errW_some] <;> rfl) | (simp [*, errW_none, errW_some] <;> rfl)) : P_ := h_
theorem zQx14a8_ {P_ : Prop} (h_ : P_ := by first | rfl | (simp; done) | (simp [*]; done)) : P_ := h_
theorem zQx14a9_ {P_ : Prop} (h_ : P_ := by repeat (first | (with_reducible first | exact HB.out | apply below_alloc | apply pw_below_drewN | apply below_drew1 | refine below_set ?_ GE239.out) | exact HB.out)) : P_ := h_
theorem zQx14a10_ {P_ : Prop} (h_ : P_ := by first | (with_reducible assumption) | assumption) : P_ := h_
theorem zQx14a11_ {P_ : Prop} (h_ : P_ := by have := HK1.out; have := HJ17.out; first | omega | exact Nat.le_refl _) : P_ := h_
theorem znQx14_ {X_ : Prop} [Decidable X_] (h_ : ¬ X_ → False := by intro c_; rw [if_neg c_] at H; exact absurd H (by simp)) : X_ := Decidable.byContradiction h_
mutual
def basculelaw21_TableChecks.l0 : Nat → List (S34) → Int → ByteArray → Int → Int → Int → Int → Int → Int → Bool → Bool → Int → ByteArray → Int → Int → Int → Int → Int → Int → Bool → ByteArray → Int → Int → Int → Int → Int → Int → Bool → Option (Bool)
 | 0, _, _, _, _, _, _, _, _, _, _, _, _, _, _, _, _, _, _, _, _, _, _, _, _, _, _, _, _ => none
 | k + 1, x0, x1, x2, x7, x8, x9, x10, x11, x12, x14, x16, x17, x240000, x240001, x240002, x240003, x240004, x240005, x240006, x240007, x241000, x241001, x241002, x241003, x241004, x241005, x241006, x241007 => if x17 < (x0.length : Int) then (basculelaw21_TableChecks.j1 k x0 x1 x2 x7 x8 x9 x10 x11 x12 x14 x16 x17 (!x16) x240000 x240001 x240002 x240003 x240004 x240005 x240006 x240007 x241000 x241001 x241002 x241003 x241004 x241005 x241006 x241007) else (basculelaw21_TableChecks.j1 k x0 x1 x2 x7 x8 x9 x10 x11 x12 x14 x16 x17 false x240000 x240001 x240002 x240003 x240004 x240005 x240006 x240007 x241000 x241001 x241002 x241003 x241004 x241005 x241006 x241007)
def basculelaw21_TableChecks.j1 : Nat → List (S34) → Int → ByteArray → Int → Int → Int → Int → Int → Int → Bool → Bool → Int → Bool → ByteArray → Int → Int → Int → Int → Int → Int → Bool → ByteArray → Int → Int → Int → Int → Int → Int → Bool → Option (Bool)
 | 0, _, _, _, _, _, _, _, _, _, _, _, _, _, _, _, _, _, _, _, _, _, _, _, _, _, _, _, _, _ => none
 | k + 1, x0, x1, x2, x7, x8, x9, x10, x11, x12, x14, x16, x17, x50, x240000, x240001, x240002, x240003, x240004, x240005, x240006, x240007, x241000, x241001, x241002, x241003, x241004, x241005, x241006, x241007 => if x50 = true then (if 0 ≤ x17 then (if x17 < (x0.length : Int) then (if ((rd_T34 x0 x17).f0).toList = x2.toList then (basculelaw21_TableChecks.l0 k x0 x1 x2 x7 x8 x9 x10 x11 x12 x14 true (wrap64 (x17 + 1)) x240000 x240001 x240002 x240003 x240004 x240005 x240006 x240007 ((rd_T34 x0 x17).f0) ((rd_T34 x0 x17).f1) ((rd_T34 x0 x17).f2) ((rd_T34 x0 x17).f3) ((rd_T34 x0 x17).f4) ((rd_T34 x0 x17).f5) ((rd_T34 x0 x17).f6) ((rd_T34 x0 x17).f7)) else (basculelaw21_TableChecks.l0 k x0 x1 x2 x7 x8 x9 x10 x11 x12 x14 x16 (wrap64 (x17 + 1)) x240000 x240001 x240002 x240003 x240004 x240005 x240006 x240007 x241000 x241001 x241002 x241003 x241004 x241005 x241006 x241007)) else (none)) else (none)) else (if x7 = x9 then (if x8 = x10 then (if (!(x240000.toList == x241000.toList) || (!(x240001 == x241001) || (!(x240002 == x241002) || (!(x240003 == x241003) || (!(x240004 == x241004) || (!(x240005 == x241005) || (!(x240006 == x241006) || (!(x240007 == x241007))))))))) = true then (basculelaw21_TableChecks.j2 k x1 x11 x12 true) else (basculelaw21_TableChecks.j2 k x1 x11 x12 (x14 != x16))) else (basculelaw21_TableChecks.j2 k x1 x11 x12 true)) else (basculelaw21_TableChecks.j2 k x1 x11 x12 true))
def basculelaw21_TableChecks.j2 : Nat → Int → Int → Int → Bool → Option (Bool)
 | 0, _, _, _, _ => none
 | k + 1, x1, x11, x12, x81 => if x81 = true then (some false) else ((basculeref21_Kind.f x1).bind fun t243 => (if t243 = true then ((basculelaw21_awake.f).bind fun t244 => (if t244 = true then ((basculeref21_Words.f k x1).bind fun t245 => (if x11 = t245 then (some (x12 == 0)) else (some false))) else (some false))) else ((basculelaw21_awake.f).bind fun t246 => (if t246 = true then (if x11 = 0 then (some (x12 == 1)) else (some false)) else (some false)))))
end
def basculelaw21_TableChecks.f (k : Nat) (l0 : List (S34)) (a1 : Int) (a2 : ByteArray) : Option (Bool) := (basculelaw21_few.f k l0).bind fun t223 => (if t223 = true then ((table_Check.f k l0).bind fun bt224 => ((basculeref21_Check.f k l0).bind fun bt226 => ((table_Words.f k a1).bind fun bt228 => ((table_Find.f l0 a2).bind fun bt230 => (basculelaw21_TableChecks.l0 k l0 a1 a2 bt224.1 bt224.2 bt226.1 bt226.2 bt228.1 bt228.2 bt230.2.2.2.2.2.2.2.2 false 0 bt230.1 bt230.2.1 bt230.2.2.1 bt230.2.2.2.1 bt230.2.2.2.2.1 bt230.2.2.2.2.2.1 bt230.2.2.2.2.2.2.1 bt230.2.2.2.2.2.2.2.1 (⟨#[]⟩ : ByteArray) 0 0 0 0 0 0 false))))) else (some true))
set_option maxHeartbeats 8000000 in
set_option maxRecDepth 100000 in
theorem basculelaw21_TableChecks.calls (k : Nat) (A0 : Option Addr) (c0 : Nat) (l0 : List (S34)) (a1 : Int) (a2 : ByteArray) (r : Bool) (w : World) (hr0 : Kd.C k34 w A0 l0.length l0) (hc0 : l0.length ≤ c0) (hLd_ : Val.Laid w) (h : basculelaw21_TableChecks.f k l0 a1 a2 = some r) :
  Calls Tryz.prog 4 #[.slice A0 l0.length c0, .int .i64 a1, .string a2] w fun e w' => e = .returned (.bool r) ∧ Below w.heap.size w w' := by
 have hu34 := Tryz.underlying34
 have HR0 := Aside0.mk hr0
 have HC0 := Aside0.mk hc0
 clear hr0 hc0
 have HB := Aside0.mk (Below.refl w.heap.size w)
 have H : ((basculelaw21_few.f k l0).bind fun t223 => (if t223 = true then ((table_Check.f k l0).bind fun bt224 => ((basculeref21_Check.f k l0).bind fun bt226 => ((table_Words.f k a1).bind fun bt228 => ((table_Find.f l0 a2).bind fun bt230 => (basculelaw21_TableChecks.l0 k l0 a1 a2 bt224.1 bt224.2 bt226.1 bt226.2 bt228.1 bt228.2 bt230.2.2.2.2.2.2.2.2 false 0 bt230.1 bt230.2.1 bt230.2.2.1 bt230.2.2.2.1 bt230.2.2.2.2.1 bt230.2.2.2.2.2.1 bt230.2.2.2.2.2.2.1 bt230.2.2.2.2.2.2.2.1 (⟨#[]⟩ : ByteArray) 0 0 0 0 0 0 false))))) else (some true))) = some r := h
 clear h
 replace H := Option.bind_eq_some_iff.mp H
 obtain ⟨t223, A40, H⟩ := H
 replace H : (if t223 = true then ((table_Check.f k l0).bind fun bt224 => ((basculeref21_Check.f k l0).bind fun bt226 => ((table_Words.f k a1).bind fun bt228 => ((table_Find.f l0 a2).bind fun bt230 => (basculelaw21_TableChecks.l0 k l0 a1 a2 bt224.1 bt224.2 bt226.1 bt226.2 bt228.1 bt228.2 bt230.2.2.2.2.2.2.2.2 false 0 bt230.1 bt230.2.1 bt230.2.2.1 bt230.2.2.2.1 bt230.2.2.2.2.1 bt230.2.2.2.2.2.1 bt230.2.2.2.2.2.2.1 bt230.2.2.2.2.2.2.2.1 (⟨#[]⟩ : ByteArray) 0 0 0 0 0 0 false))))) else (some true)) = some r := H
 have A4 := Aside0.mk A40
 clear A40
 by_cases c5 : t223 = true
 rotate_left
 ·
  replace c5 := Bool.eq_false_iff.mpr c5
  subst c5
  have H1 : (some true) = some r := by rw [if_neg (show ¬ (false = true) by decide)] at H; exact H
  clear H
  have H := H1
  clear H1
  obtain rfl := Option.some.inj H
  go_enter Tryz.func4, Tryz.ntmps4
  go_wp2_with (first | ((with_reducible refine gate_callee (f := 11) rfl ?_); refine goesL_ (some 19) rfl rfl Tryz.func11 (by kernel_rfl) rfl #[.slice A0 l0.length c0] rfl zQx14a2_ ?_; (with_reducible refine (basculelaw21_few.calls k _ _ l0 false _ ?side1 ?side2 A4.out).mono ?_); (case side1 => repeat (first | exact HR0.out | (with_reducible refine Kd.C_alloc ?_ _) | (with_reducible refine Kd.C_drewN ?_ _) | (with_reducible refine Kd.C_drew ?_))); (case side2 => exact HC0.out); rintro e w' ⟨rfl, ⟨nd, rfl⟩⟩; refine ⟨_, rfl, ?_⟩))
  go_ret
  exact ⟨zQx14a7_, zQx14a6_⟩
 subst c5
 have H1 : ((table_Check.f k l0).bind fun bt224 => ((basculeref21_Check.f k l0).bind fun bt226 => ((table_Words.f k a1).bind fun bt228 => ((table_Find.f l0 a2).bind fun bt230 => (basculelaw21_TableChecks.l0 k l0 a1 a2 bt224.1 bt224.2 bt226.1 bt226.2 bt228.1 bt228.2 bt230.2.2.2.2.2.2.2.2 false 0 bt230.1 bt230.2.1 bt230.2.2.1 bt230.2.2.2.1 bt230.2.2.2.2.1 bt230.2.2.2.2.2.1 bt230.2.2.2.2.2.2.1 bt230.2.2.2.2.2.2.2.1 (⟨#[]⟩ : ByteArray) 0 0 0 0 0 0 false))))) = some r := by rw [if_pos rfl] at H; exact H
 clear H
 have H := H1
 clear H1
 replace H := Option.bind_eq_some_iff.mp H
 obtain ⟨⟨t224, t225⟩, A60, H⟩ := H
 replace H : ((basculeref21_Check.f k l0).bind fun bt226 => ((table_Words.f k a1).bind fun bt228 => ((table_Find.f l0 a2).bind fun bt230 => (basculelaw21_TableChecks.l0 k l0 a1 a2 t224 t225 bt226.1 bt226.2 bt228.1 bt228.2 bt230.2.2.2.2.2.2.2.2 false 0 bt230.1 bt230.2.1 bt230.2.2.1 bt230.2.2.2.1 bt230.2.2.2.2.1 bt230.2.2.2.2.2.1 bt230.2.2.2.2.2.2.1 bt230.2.2.2.2.2.2.2.1 (⟨#[]⟩ : ByteArray) 0 0 0 0 0 0 false)))) = some r := H
 have A6 := Aside0.mk A60
 clear A60
 replace H := Option.bind_eq_some_iff.mp H
 obtain ⟨⟨t226, t227⟩, A70, H⟩ := H
 replace H : ((table_Words.f k a1).bind fun bt228 => ((table_Find.f l0 a2).bind fun bt230 => (basculelaw21_TableChecks.l0 k l0 a1 a2 t224 t225 t226 t227 bt228.1 bt228.2 bt230.2.2.2.2.2.2.2.2 false 0 bt230.1 bt230.2.1 bt230.2.2.1 bt230.2.2.2.1 bt230.2.2.2.2.1 bt230.2.2.2.2.2.1 bt230.2.2.2.2.2.2.1 bt230.2.2.2.2.2.2.2.1 (⟨#[]⟩ : ByteArray) 0 0 0 0 0 0 false))) = some r := H
 have A7 := Aside0.mk A70
 clear A70
 replace H := Option.bind_eq_some_iff.mp H
 obtain ⟨⟨t228, t229⟩, A80, H⟩ := H
 replace H : ((table_Find.f l0 a2).bind fun bt230 => (basculelaw21_TableChecks.l0 k l0 a1 a2 t224 t225 t226 t227 t228 t229 bt230.2.2.2.2.2.2.2.2 false 0 bt230.1 bt230.2.1 bt230.2.2.1 bt230.2.2.2.1 bt230.2.2.2.2.1 bt230.2.2.2.2.2.1 bt230.2.2.2.2.2.2.1 bt230.2.2.2.2.2.2.2.1 (⟨#[]⟩ : ByteArray) 0 0 0 0 0 0 false)) = some r := H
 have A8 := Aside0.mk A80
 clear A80
 replace H := Option.bind_eq_some_iff.mp H
 obtain ⟨⟨t230, t231, t232, t233, t234, t235, t236, t237, t238⟩, A90, H⟩ := H
 replace H : (basculelaw21_TableChecks.l0 k l0 a1 a2 t224 t225 t226 t227 t228 t229 t238 false 0 t230 t231 t232 t233 t234 t235 t236 t237 (⟨#[]⟩ : ByteArray) 0 0 0 0 0 0 false) = some r := H
 have A9 := Aside0.mk A90
 clear A90
 have H' := Aside0.mk H
 clear H
 go_enter Tryz.func4, Tryz.ntmps4
 go_wp2_with (first | ((with_reducible refine gate_callee (f := 11) rfl ?_); refine goesL_ (some 19) rfl rfl Tryz.func11 (by kernel_rfl) rfl #[.slice A0 l0.length c0] rfl zQx14a2_ ?_; (with_reducible refine (basculelaw21_few.calls k _ _ l0 true _ ?side1 ?side2 A4.out).mono ?_); (case side1 => repeat (first | exact HR0.out | (with_reducible refine Kd.C_alloc ?_ _) | (with_reducible refine Kd.C_drewN ?_ _) | (with_reducible refine Kd.C_drew ?_))); (case side2 => exact HC0.out); rintro e w' ⟨rfl, ⟨nd, rfl⟩⟩; refine ⟨_, rfl, ?_⟩) | ((with_reducible refine gate_callee (f := 12) rfl ?_); refine goesL_ (some 23) rfl rfl Tryz.func12 (by kernel_rfl) rfl #[.slice A0 l0.length c0] rfl zQx14a2_ ?_; (with_reducible refine (table_Check.calls k _ _ l0 t224 t225 _ ?side1 ?side2 (Val.Laid.below hLd_ zQx14a6_) A6.out).mono ?_); (case side1 => repeat (first | exact HR0.out | (with_reducible refine Kd.C_alloc ?_ _) | (with_reducible refine Kd.C_drewN ?_ _) | (with_reducible refine Kd.C_drew ?_))); (case side2 => exact HC0.out); rintro e w10 ⟨rfl, hb⟩; refine ⟨_, rfl, ?_⟩; have n0_ := Aside0.mk (below_step zQx14a6_ hb); clear HB; have HB := n0_; clear n0_; (try clear hb); (try clear hb2); (try clear hk); (try clear hi)) | ((with_reducible refine gate_callee (f := 13) rfl ?_); refine goesL_ (some 28) rfl rfl Tryz.func13 (by kernel_rfl) rfl #[.slice A0 l0.length c0] rfl zQx14a2_ ?_; (with_reducible refine (basculeref21_Check.calls k _ _ l0 t226 t227 _ ?side1 ?side2 A7.out).mono ?_); (case side1 => repeat (first | exact (Kd.C_below HR0.out HB.out) | (with_reducible refine Kd.C_alloc ?_ _) | (with_reducible refine Kd.C_drewN ?_ _) | (with_reducible refine Kd.C_drew ?_))); (case side2 => exact HC0.out); rintro e w11 ⟨rfl, hb⟩; refine ⟨_, rfl, ?_⟩; have n0_ := Aside0.mk (below_step zQx14a6_ hb); clear HB; have HB := n0_; clear n0_; (try clear hb); (try clear hb2); (try clear hk); (try clear hi)) | ((with_reducible refine gate_callee (f := 14) rfl ?_); refine goesL_ (some 33) rfl rfl Tryz.func14 (by kernel_rfl) rfl #[.int .i64 a1] rfl zQx14a2_ ?_; (with_reducible refine (table_Words.calls k a1 t228 t229 _ A8.out).mono ?_); rintro e w' ⟨rfl, ⟨nd, rfl⟩⟩; refine ⟨_, rfl, ?_⟩; (try (rw [drewN_self w11]; generalize hq_ : World.drewN w11 _ = w11; have n0_ : Aside0 (Below w.heap.size w w11) := ⟨by rw [← hq_]; exact zQx14a6_⟩; clear HB hq_; have HB := n0_; clear n0_))) | ((with_reducible refine gate_callee (f := 15) rfl ?_); refine goesL_ (some 39) rfl rfl Tryz.func15 (by kernel_rfl) rfl #[.slice A0 l0.length c0, .string a2] rfl zQx14a2_ ?_; (with_reducible refine (table_Find.calls _ _ l0 a2 t230 t231 t232 t233 t234 t235 t236 t237 t238 _ ?side1 ?side2 A9.out).mono ?_); (case side1 => repeat (first | exact (Kd.C_below HR0.out HB.out) | (with_reducible refine Kd.C_alloc ?_ _) | (with_reducible refine Kd.C_drewN ?_ _) | (with_reducible refine Kd.C_drew ?_))); (case side2 => exact HC0.out); rintro e w12 ⟨rfl, hb⟩; refine ⟨_, rfl, ?_⟩; have n0_ := Aside0.mk (below_step zQx14a6_ hb); clear HB; have HB := n0_; clear n0_; (try clear hb); (try clear hb2); (try clear hk); (try clear hi)) | ((with_reducible refine gate_dst (N := 13) rfl ?_); refine box_event ?hg (N := 13) ?hd (cs := #[.string (⟨#[]⟩ : ByteArray), .int .i64 0, .int .i64 0, .int .i64 0, .int .i64 0, .int .i64 0, .int .i64 0, .bool false]) (t := 34) ?hr ?_; (case hd => rfl); (case hg => rfl); (case hr => first | (go_simp; done) | (go_simp; rfl)); intro gb239 hg w13 hbox hb; have n0_ := Aside0.mk (below_step zQx14a6_ hb); have n1_ := Aside0.mk (hbox); have n2_ := Aside0.mk ((by rw [hg]; exact (below_size zQx14a6_) : w.heap.size ≤ gb239)); have n3_ := Aside0.mk ((by rw [hg]; exact (below_size zQx14a6_) : w.heap.size ≤ gb239)); clear HB; have HB := n0_; have BK239 := n1_; have GW239 := n2_; have GE239 := n3_; clear n0_ n1_ n2_ n3_; clear hb hbox hg; have hcz14_0 : w13.cell? ⟨gb239, 0, none⟩ = some (.string (⟨#[]⟩ : ByteArray)) := (blk_cell BK239.out 0).trans rfl; have hcz14_1 : w13.cell? ⟨gb239, 1, none⟩ = some (.int .i64 0) := (blk_cell BK239.out 1).trans rfl; have hcz14_2 : w13.cell? ⟨gb239, 2, none⟩ = some (.int .i64 0) := (blk_cell BK239.out 2).trans rfl; have hcz14_3 : w13.cell? ⟨gb239, 3, none⟩ = some (.int .i64 0) := (blk_cell BK239.out 3).trans rfl; have hcz14_4 : w13.cell? ⟨gb239, 4, none⟩ = some (.int .i64 0) := (blk_cell BK239.out 4).trans rfl; have hcz14_5 : w13.cell? ⟨gb239, 5, none⟩ = some (.int .i64 0) := (blk_cell BK239.out 5).trans rfl; have hcz14_6 : w13.cell? ⟨gb239, 6, none⟩ = some (.int .i64 0) := (blk_cell BK239.out 6).trans rfl; have hcz14_7 : w13.cell? ⟨gb239, 7, none⟩ = some (.bool false) := (blk_cell BK239.out 7).trans rfl; have hfz14_0 := blk_frozen BK239.out 0; have hfz14_1 := blk_frozen BK239.out 1; have hfz14_2 := blk_frozen BK239.out 2; have hfz14_3 := blk_frozen BK239.out 3; have hfz14_4 := blk_frozen BK239.out 4; have hfz14_5 := blk_frozen BK239.out 5; have hfz14_6 := blk_frozen BK239.out 6; have hfz14_7 := blk_frozen BK239.out 7) | ((with_reducible refine gate_dst (N := 15) rfl ?_); refine box_event ?hg (N := 15) ?hd (cs := #[.string (⟨#[]⟩ : ByteArray), .int .i64 0, .int .i64 0, .int .i64 0, .int .i64 0, .int .i64 0, .int .i64 0, .bool false]) (t := 34) ?hr ?_; (case hd => rfl); (case hg => rfl); (case hr => first | (go_simp; done) | (go_simp; rfl)); intro gb240 hg w15 hbox hb; have n0_ := Aside0.mk (blk_below (g := gb239) (o := .cells #[.string t230, .int .i64 t231, .int .i64 t232, .int .i64 t233, .int .i64 t234, .int .i64 t235, .int .i64 t236, .bool t237] 34 (0, 0)) zQx14a0_ hb); have n1_ := Aside0.mk (below_step zQx14a9_ hb); have n2_ := Aside0.mk (hbox); have n3_ := Aside0.mk ((by rw [hg]; exact (below_size zQx14a9_) : w.heap.size ≤ gb240)); have n4_ := Aside0.mk ((by rw [hg]; exact (below_size zQx14a9_) : w.heap.size ≤ gb240)); have n5_ := Aside0.mk ((by rw [hg]; exact Nat.ne_of_lt (blk_lt (g := gb239) (o := .cells #[.string t230, .int .i64 t231, .int .i64 t232, .int .i64 t233, .int .i64 t234, .int .i64 t235, .int .i64 t236, .bool t237] 34 (0, 0)) zQx14a0_) : gb239 ≠ gb240)); have n6_ := Aside0.mk ((by rw [hg]; exact Nat.ne_of_gt (blk_lt (g := gb239) (o := .cells #[.string t230, .int .i64 t231, .int .i64 t232, .int .i64 t233, .int .i64 t234, .int .i64 t235, .int .i64 t236, .bool t237] 34 (0, 0)) zQx14a0_) : gb240 ≠ gb239)); clear BK239; clear HB; have BK239 := n0_; have HB := n1_; have BK240 := n2_; have GW240 := n3_; have GE240 := n4_; have NB239_240 := n5_; have NB240_239 := n6_; clear n0_ n1_ n2_ n3_ n4_ n5_ n6_; clear hb hbox hg; have hnb16 := NB240_239.out; have hnc16 := NB239_240.out; have hcz17_0 : w15.cell? ⟨gb240, 0, none⟩ = some (.string (⟨#[]⟩ : ByteArray)) := (blk_cell BK240.out 0).trans rfl; have hcz17_1 : w15.cell? ⟨gb240, 1, none⟩ = some (.int .i64 0) := (blk_cell BK240.out 1).trans rfl; have hcz17_2 : w15.cell? ⟨gb240, 2, none⟩ = some (.int .i64 0) := (blk_cell BK240.out 2).trans rfl; have hcz17_3 : w15.cell? ⟨gb240, 3, none⟩ = some (.int .i64 0) := (blk_cell BK240.out 3).trans rfl; have hcz17_4 : w15.cell? ⟨gb240, 4, none⟩ = some (.int .i64 0) := (blk_cell BK240.out 4).trans rfl; have hcz17_5 : w15.cell? ⟨gb240, 5, none⟩ = some (.int .i64 0) := (blk_cell BK240.out 5).trans rfl; have hcz17_6 : w15.cell? ⟨gb240, 6, none⟩ = some (.int .i64 0) := (blk_cell BK240.out 6).trans rfl; have hcz17_7 : w15.cell? ⟨gb240, 7, none⟩ = some (.bool false) := (blk_cell BK240.out 7).trans rfl; have hfz17_0 := blk_frozen BK240.out 0; have hfz17_1 := blk_frozen BK240.out 1; have hfz17_2 := blk_frozen BK240.out 2; have hfz17_3 := blk_frozen BK240.out 3; have hfz17_4 := blk_frozen BK240.out 4; have hfz17_5 := blk_frozen BK240.out 5; have hfz17_6 := blk_frozen BK240.out 6; have hfz17_7 := blk_frozen BK240.out 7))
 go_loopg [16, 17] k (fun kq v16 v17 w' => ∃ (x16_1 : Bool) (x17_1 : Int) (x241000_1 : ByteArray) (x241001_1 : Int) (x241002_1 : Int) (x241003_1 : Int) (x241004_1 : Int) (x241005_1 : Int) (x241006_1 : Int) (x241007_1 : Bool), v16 = .bool x16_1 ∧ v17 = .int .i64 x17_1 ∧ Aside0 (basculelaw21_TableChecks.l0 kq l0 a1 a2 t224 t225 t226 t227 t228 t229 t238 x16_1 x17_1 t230 t231 t232 t233 t234 t235 t236 t237 x241000_1 x241001_1 x241002_1 x241003_1 x241004_1 x241005_1 x241006_1 x241007_1 = some r) ∧ Aside0 (kq ≤ k) ∧ Aside0 (w'.heap[gb239]? = some (.cells #[.string t230, .int .i64 t231, .int .i64 t232, .int .i64 t233, .int .i64 t234, .int .i64 t235, .int .i64 t236, .bool t237] 34 (0, 0))) ∧ Aside0 (w'.heap[gb240]? = some (.cells #[.string x241000_1, .int .i64 x241001_1, .int .i64 x241002_1, .int .i64 x241003_1, .int .i64 x241004_1, .int .i64 x241005_1, .int .i64 x241006_1, .bool x241007_1] 34 (0, 0))) ∧ Aside0 (Below w.heap.size w w'))
 case atStart => exact ⟨(false), (0), ((⟨#[]⟩ : ByteArray)), (0), (0), (0), (0), (0), (0), (false), zQx14a8_, zQx14a8_, H', ⟨Nat.le_refl _⟩, ⟨zQx14a3_⟩, ⟨by (with_reducible repeat (first | refine blk_drewN ?_ _ | refine blk_drew ?_ | refine blk_alloc ?_ _)); refine blk_put (cs := #[.string (⟨#[]⟩ : ByteArray), .int .i64 0, .int .i64 0, .int .i64 0, .int .i64 0, .int .i64 0, .int .i64 0, .bool false]) ?_ 7 _ rfl; (with_reducible repeat (first | refine blk_drewN ?_ _ | refine blk_drew ?_ | refine blk_alloc ?_ _)); refine blk_put (cs := #[.string (⟨#[]⟩ : ByteArray), .int .i64 0, .int .i64 0, .int .i64 0, .int .i64 0, .int .i64 0, .int .i64 0, .bool false]) ?_ 6 _ rfl; (with_reducible repeat (first | refine blk_drewN ?_ _ | refine blk_drew ?_ | refine blk_alloc ?_ _)); refine blk_put (cs := #[.string (⟨#[]⟩ : ByteArray), .int .i64 0, .int .i64 0, .int .i64 0, .int .i64 0, .int .i64 0, .int .i64 0, .bool false]) ?_ 5 _ rfl; (with_reducible repeat (first | refine blk_drewN ?_ _ | refine blk_drew ?_ | refine blk_alloc ?_ _)); refine blk_put (cs := #[.string (⟨#[]⟩ : ByteArray), .int .i64 0, .int .i64 0, .int .i64 0, .int .i64 0, .int .i64 0, .int .i64 0, .bool false]) ?_ 4 _ rfl; (with_reducible repeat (first | refine blk_drewN ?_ _ | refine blk_drew ?_ | refine blk_alloc ?_ _)); refine blk_put (cs := #[.string (⟨#[]⟩ : ByteArray), .int .i64 0, .int .i64 0, .int .i64 0, .int .i64 0, .int .i64 0, .int .i64 0, .bool false]) ?_ 3 _ rfl; (with_reducible repeat (first | refine blk_drewN ?_ _ | refine blk_drew ?_ | refine blk_alloc ?_ _)); refine blk_put (cs := #[.string (⟨#[]⟩ : ByteArray), .int .i64 0, .int .i64 0, .int .i64 0, .int .i64 0, .int .i64 0, .int .i64 0, .bool false]) ?_ 2 _ rfl; (with_reducible repeat (first | refine blk_drewN ?_ _ | refine blk_drew ?_ | refine blk_alloc ?_ _)); refine blk_put (cs := #[.string (⟨#[]⟩ : ByteArray), .int .i64 0, .int .i64 0, .int .i64 0, .int .i64 0, .int .i64 0, .int .i64 0, .bool false]) ?_ 1 _ rfl; (with_reducible repeat (first | refine blk_drewN ?_ _ | refine blk_drew ?_ | refine blk_alloc ?_ _)); refine blk_put (cs := #[.string (⟨#[]⟩ : ByteArray), .int .i64 0, .int .i64 0, .int .i64 0, .int .i64 0, .int .i64 0, .int .i64 0, .bool false]) ?_ 0 _ rfl; (with_reducible repeat (first | refine blk_drewN ?_ _ | refine blk_drew ?_ | refine blk_alloc ?_ _)); exact BK240.out⟩, ⟨zQx14a1_⟩⟩
 case round =>
  clear H'
  try clear c1
  try clear p2
  try clear c4
  try clear c5
  try clear c11
  try clear c12
  try clear c13
  try clear c14
  try clear c15
  try clear c16
  try clear hcz14_0
  try clear hcz14_1
  try clear hcz14_2
  try clear hcz14_3
  try clear hcz14_4
  try clear hcz14_5
  try clear hcz14_6
  try clear hcz14_7
  try clear hcz17_0
  try clear hcz17_1
  try clear hcz17_2
  try clear hcz17_3
  try clear hcz17_4
  try clear hcz17_5
  try clear hcz17_6
  try clear hcz17_7
  try clear hfz14_0
  try clear hfz14_1
  try clear hfz14_2
  try clear hfz14_3
  try clear hfz14_4
  try clear hfz14_5
  try clear hfz14_6
  try clear hfz14_7
  try clear hfz17_0
  try clear hfz17_1
  try clear hfz17_2
  try clear hfz17_3
  try clear hfz17_4
  try clear hfz17_5
  try clear hfz17_6
  try clear hfz17_7
  obtain ⟨x16_1, x17_1, x241000_1, x241001_1, x241002_1, x241003_1, x241004_1, x241005_1, x241006_1, x241007_1, rfl, rfl, HA, HK1, BK239, BK240, HB⟩ := hrel
  cases gk with
  | zero => exact absurd HA.out (by simp [basculelaw21_TableChecks.l0])
  | succ k1 =>
   have H := HA.out
   clear HA
   simp only [basculelaw21_TableChecks.l0] at H
   have HC18 := Aside0.mk H
   clear H
   go_upto_region 10 with (fail)
   go_cut [50] (fun v50 wc => ∃ (kq : Nat) (x50_17 : Bool), v50 = .bool x50_17 ∧ Aside0 (basculelaw21_TableChecks.j1 kq l0 a1 a2 t224 t225 t226 t227 t228 t229 t238 x16_1 x17_1 x50_17 t230 t231 t232 t233 t234 t235 t236 t237 x241000_1 x241001_1 x241002_1 x241003_1 x241004_1 x241005_1 x241006_1 x241007_1 = some r) ∧ Aside0 (kq ≤ k1) ∧ Aside0 (wc.heap[gb239]? = some (.cells #[.string t230, .int .i64 t231, .int .i64 t232, .int .i64 t233, .int .i64 t234, .int .i64 t235, .int .i64 t236, .bool t237] 34 (0, 0))) ∧ Aside0 (wc.heap[gb240]? = some (.cells #[.string x241000_1, .int .i64 x241001_1, .int .i64 x241002_1, .int .i64 x241003_1, .int .i64 x241004_1, .int .i64 x241005_1, .int .i64 x241006_1, .bool x241007_1] 34 (0, 0))) ∧ Aside0 (Below w.heap.size w wc))
   case first =>
    have H := HC18.out
    clear HC18
    by_cases c19 : x17_1 < (l0.length : Int)
    ·
     rw [if_pos c19] at H
     have c19b0 : decide (x17_1 < (l0.length : Int)) = true := decide_eq_true c19
     clear c19
     (first | rw [c19b0] | (simp only [i64_w, i32_w]; rw [c19b0]) | skip)
     have H' := Aside0.mk H
     clear H
     go_wp2
     go_meet
     case rel => exact ⟨_, (!x16_1), zQx14a8_, H', ⟨by have := HK1.out; first | omega | exact Nat.le_refl _⟩, ⟨zQx14a4_⟩, ⟨zQx14a5_⟩, ⟨zQx14a1_⟩⟩
    rw [if_neg c19] at H
    have c19b0 : decide (x17_1 < (l0.length : Int)) = false := decide_eq_false c19
    clear c19
    (first | rw [c19b0] | (simp only [i64_w, i32_w]; rw [c19b0]) | skip)
    have H' := Aside0.mk H
    clear H
    go_wp2
    go_meet
    case rel => exact ⟨_, (false), zQx14a8_, H', ⟨by have := HK1.out; first | omega | exact Nat.le_refl _⟩, ⟨zQx14a4_⟩, ⟨zQx14a5_⟩, ⟨zQx14a1_⟩⟩
   case rest =>
    clear HC18
    try clear c1
    try clear p2
    try clear c4
    try clear c5
    try clear c11
    try clear c12
    try clear c13
    try clear c14
    try clear c15
    try clear c16
    try clear c19
    try clear c19b0
    try clear hcz14_0
    try clear hcz14_1
    try clear hcz14_2
    try clear hcz14_3
    try clear hcz14_4
    try clear hcz14_5
    try clear hcz14_6
    try clear hcz14_7
    try clear hcz17_0
    try clear hcz17_1
    try clear hcz17_2
    try clear hcz17_3
    try clear hcz17_4
    try clear hcz17_5
    try clear hcz17_6
    try clear hcz17_7
    try clear hfz14_0
    try clear hfz14_1
    try clear hfz14_2
    try clear hfz14_3
    try clear hfz14_4
    try clear hfz14_5
    try clear hfz14_6
    try clear hfz14_7
    try clear hfz17_0
    try clear hfz17_1
    try clear hfz17_2
    try clear hfz17_3
    try clear hfz17_4
    try clear hfz17_5
    try clear hfz17_6
    try clear hfz17_7
    try clear p2
    obtain ⟨kq, x50_17, rfl, HA, HJ17, BK239, BK240, HB⟩ := hcut
    cases kq with
    | zero => exact absurd HA.out (by simp [basculelaw21_TableChecks.j1])
    | succ kj17 =>
     have H := HA.out
     clear HA
     simp only [basculelaw21_TableChecks.j1] at H
     by_cases c20 : x50_17 = true
     ·
      subst c20
      have H1 : (if 0 ≤ x17_1 then (if x17_1 < (l0.length : Int) then (if ((rd_T34 l0 x17_1).f0).toList = a2.toList then (basculelaw21_TableChecks.l0 kj17 l0 a1 a2 t224 t225 t226 t227 t228 t229 t238 true (wrap64 (x17_1 + 1)) t230 t231 t232 t233 t234 t235 t236 t237 ((rd_T34 l0 x17_1).f0) ((rd_T34 l0 x17_1).f1) ((rd_T34 l0 x17_1).f2) ((rd_T34 l0 x17_1).f3) ((rd_T34 l0 x17_1).f4) ((rd_T34 l0 x17_1).f5) ((rd_T34 l0 x17_1).f6) ((rd_T34 l0 x17_1).f7)) else (basculelaw21_TableChecks.l0 kj17 l0 a1 a2 t224 t225 t226 t227 t228 t229 t238 x16_1 (wrap64 (x17_1 + 1)) t230 t231 t232 t233 t234 t235 t236 t237 x241000_1 x241001_1 x241002_1 x241003_1 x241004_1 x241005_1 x241006_1 x241007_1)) else (none)) else (none)) = some r := by rw [if_pos rfl] at H; exact H
      clear H
      have H := H1
      clear H1
      have c21 : 0 ≤ x17_1 := znQx14_
      rw [if_pos c21] at H
      have c21b0 : decide (0 ≤ x17_1) = true := decide_eq_true c21
      clear c21
      have c22 : x17_1 < (l0.length : Int) := znQx14_
      rw [if_pos c22] at H
      have c22b0 : decide (x17_1 < (l0.length : Int)) = true := decide_eq_true c22
      clear c22
      by_cases c23 : ((rd_T34 l0 x17_1).f0).toList = a2.toList
      rotate_left
      ·
       rw [if_neg c23] at H
       have c23b0 : (((rd_T34 l0 x17_1).f0).toList == a2.toList) = false := beq_eq_false_iff_ne.mpr c23
       have c23b1 : (((rd_T34 l0 x17_1).f0).toList != a2.toList) = true := bne_iff_ne.mpr c23
       have H' := Aside0.mk H
       clear H
       have p241 : 0 ≤ (x17_1 : Int) := of_decide_eq_true zQx14a10_
       have q241 : x17_1 < (l0.length : Int) := of_decide_eq_true zQx14a10_
       obtain ⟨ad241, e241, hx241_0, hx241_1, hx241_2, hx241_3, hx241_4, hx241_5, hx241_6, hx241_7⟩ := at_T34 HR0.out x17_1 p241 q241
       cases e241
       replace hx241_0 := (HB.out.cell (World.block_lt_of_cell? w _ hx241_0)).trans hx241_0
       replace hx241_1 := (HB.out.cell (World.block_lt_of_cell? w _ hx241_1)).trans hx241_1
       replace hx241_2 := (HB.out.cell (World.block_lt_of_cell? w _ hx241_2)).trans hx241_2
       replace hx241_3 := (HB.out.cell (World.block_lt_of_cell? w _ hx241_3)).trans hx241_3
       replace hx241_4 := (HB.out.cell (World.block_lt_of_cell? w _ hx241_4)).trans hx241_4
       replace hx241_5 := (HB.out.cell (World.block_lt_of_cell? w _ hx241_5)).trans hx241_5
       replace hx241_6 := (HB.out.cell (World.block_lt_of_cell? w _ hx241_6)).trans hx241_6
       replace hx241_7 := (HB.out.cell (World.block_lt_of_cell? w _ hx241_7)).trans hx241_7
       replace p241 := eq_true p241
       replace q241 := eq_true q241
       go_wp2
       go_roundg kj17
       case measure => have := HK1.out; have := HJ17.out; omega
       case rel => exact ⟨(x16_1), (wrap64 (x17_1 + 1)), (x241000_1), (x241001_1), (x241002_1), (x241003_1), (x241004_1), (x241005_1), (x241006_1), (x241007_1), zQx14a8_, zQx14a8_, H', ⟨by have := HK1.out; have := HJ17.out; omega⟩, ⟨zQx14a4_⟩, ⟨zQx14a5_⟩, ⟨zQx14a1_⟩⟩
      rw [if_pos c23] at H
      have c23b0 : (((rd_T34 l0 x17_1).f0).toList == a2.toList) = true := beq_iff_eq.mpr c23
      have c23b1 : (((rd_T34 l0 x17_1).f0).toList != a2.toList) = false := bne_eq_false_iff_eq.mpr c23
      clear c23
      have H' := Aside0.mk H
      clear H
      have p241 : 0 ≤ (x17_1 : Int) := of_decide_eq_true zQx14a10_
      have q241 : x17_1 < (l0.length : Int) := of_decide_eq_true zQx14a10_
      obtain ⟨ad241, e241, hx241_0, hx241_1, hx241_2, hx241_3, hx241_4, hx241_5, hx241_6, hx241_7⟩ := at_T34 HR0.out x17_1 p241 q241
      cases e241
      replace hx241_0 := (HB.out.cell (World.block_lt_of_cell? w _ hx241_0)).trans hx241_0
      replace hx241_1 := (HB.out.cell (World.block_lt_of_cell? w _ hx241_1)).trans hx241_1
      replace hx241_2 := (HB.out.cell (World.block_lt_of_cell? w _ hx241_2)).trans hx241_2
      replace hx241_3 := (HB.out.cell (World.block_lt_of_cell? w _ hx241_3)).trans hx241_3
      replace hx241_4 := (HB.out.cell (World.block_lt_of_cell? w _ hx241_4)).trans hx241_4
      replace hx241_5 := (HB.out.cell (World.block_lt_of_cell? w _ hx241_5)).trans hx241_5
      replace hx241_6 := (HB.out.cell (World.block_lt_of_cell? w _ hx241_6)).trans hx241_6
      replace hx241_7 := (HB.out.cell (World.block_lt_of_cell? w _ hx241_7)).trans hx241_7
      replace p241 := eq_true p241
      replace q241 := eq_true q241
      have p242 : 0 ≤ (x17_1 : Int) := of_decide_eq_true zQx14a10_
      have q242 : x17_1 < (l0.length : Int) := of_decide_eq_true zQx14a10_
      obtain ⟨ad242, e242, hx242_0, hx242_1, hx242_2, hx242_3, hx242_4, hx242_5, hx242_6, hx242_7⟩ := at_T34 HR0.out x17_1 p242 q242
      obtain rfl : ad241 = ad242 := (by injection e242)
      replace hx242_0 := (HB.out.cell (World.block_lt_of_cell? w _ hx242_0)).trans hx242_0
      replace hx242_1 := (HB.out.cell (World.block_lt_of_cell? w _ hx242_1)).trans hx242_1
      replace hx242_2 := (HB.out.cell (World.block_lt_of_cell? w _ hx242_2)).trans hx242_2
      replace hx242_3 := (HB.out.cell (World.block_lt_of_cell? w _ hx242_3)).trans hx242_3
      replace hx242_4 := (HB.out.cell (World.block_lt_of_cell? w _ hx242_4)).trans hx242_4
      replace hx242_5 := (HB.out.cell (World.block_lt_of_cell? w _ hx242_5)).trans hx242_5
      replace hx242_6 := (HB.out.cell (World.block_lt_of_cell? w _ hx242_6)).trans hx242_6
      replace hx242_7 := (HB.out.cell (World.block_lt_of_cell? w _ hx242_7)).trans hx242_7
      replace p242 := eq_true p242
      replace q242 := eq_true q242
      have hnb24 := NB240_239.out
      have hnc24 := NB239_240.out
      have hcz25_0 : wc.cell? ⟨gb240, 0, none⟩ = some (.string x241000_1) := (blk_cell BK240.out 0).trans rfl
      have hcz25_1 : wc.cell? ⟨gb240, 1, none⟩ = some (.int .i64 x241001_1) := (blk_cell BK240.out 1).trans rfl
      have hcz25_2 : wc.cell? ⟨gb240, 2, none⟩ = some (.int .i64 x241002_1) := (blk_cell BK240.out 2).trans rfl
      have hcz25_3 : wc.cell? ⟨gb240, 3, none⟩ = some (.int .i64 x241003_1) := (blk_cell BK240.out 3).trans rfl
      have hcz25_4 : wc.cell? ⟨gb240, 4, none⟩ = some (.int .i64 x241004_1) := (blk_cell BK240.out 4).trans rfl
      have hcz25_5 : wc.cell? ⟨gb240, 5, none⟩ = some (.int .i64 x241005_1) := (blk_cell BK240.out 5).trans rfl
      have hcz25_6 : wc.cell? ⟨gb240, 6, none⟩ = some (.int .i64 x241006_1) := (blk_cell BK240.out 6).trans rfl
      have hcz25_7 : wc.cell? ⟨gb240, 7, none⟩ = some (.bool x241007_1) := (blk_cell BK240.out 7).trans rfl
      have hfz25_0 := blk_frozen BK240.out 0
      have hfz25_1 := blk_frozen BK240.out 1
      have hfz25_2 := blk_frozen BK240.out 2
      have hfz25_3 := blk_frozen BK240.out 3
      have hfz25_4 := blk_frozen BK240.out 4
      have hfz25_5 := blk_frozen BK240.out 5
      have hfz25_6 := blk_frozen BK240.out 6
      have hfz25_7 := blk_frozen BK240.out 7
      go_wp2
      go_roundg kj17
      case measure => have := HK1.out; have := HJ17.out; omega
      case rel => exact ⟨(true), (wrap64 (x17_1 + 1)), ((rd_T34 l0 x17_1).f0), ((rd_T34 l0 x17_1).f1), ((rd_T34 l0 x17_1).f2), ((rd_T34 l0 x17_1).f3), ((rd_T34 l0 x17_1).f4), ((rd_T34 l0 x17_1).f5), ((rd_T34 l0 x17_1).f6), ((rd_T34 l0 x17_1).f7), zQx14a8_, zQx14a8_, H', ⟨by have := HK1.out; have := HJ17.out; omega⟩, ⟨zQx14a3_⟩, ⟨by (with_reducible repeat (first | refine blk_drewN ?_ _ | refine blk_drew ?_ | refine blk_alloc ?_ _)); refine blk_put (cs := #[.string ((rd_T34 l0 x17_1).f0), .int .i64 ((rd_T34 l0 x17_1).f1), .int .i64 ((rd_T34 l0 x17_1).f2), .int .i64 ((rd_T34 l0 x17_1).f3), .int .i64 ((rd_T34 l0 x17_1).f4), .int .i64 ((rd_T34 l0 x17_1).f5), .int .i64 ((rd_T34 l0 x17_1).f6), .bool x241007_1]) ?_ 7 _ rfl; (with_reducible repeat (first | refine blk_drewN ?_ _ | refine blk_drew ?_ | refine blk_alloc ?_ _)); refine blk_put (cs := #[.string ((rd_T34 l0 x17_1).f0), .int .i64 ((rd_T34 l0 x17_1).f1), .int .i64 ((rd_T34 l0 x17_1).f2), .int .i64 ((rd_T34 l0 x17_1).f3), .int .i64 ((rd_T34 l0 x17_1).f4), .int .i64 ((rd_T34 l0 x17_1).f5), .int .i64 x241006_1, .bool x241007_1]) ?_ 6 _ rfl; (with_reducible repeat (first | refine blk_drewN ?_ _ | refine blk_drew ?_ | refine blk_alloc ?_ _)); refine blk_put (cs := #[.string ((rd_T34 l0 x17_1).f0), .int .i64 ((rd_T34 l0 x17_1).f1), .int .i64 ((rd_T34 l0 x17_1).f2), .int .i64 ((rd_T34 l0 x17_1).f3), .int .i64 ((rd_T34 l0 x17_1).f4), .int .i64 x241005_1, .int .i64 x241006_1, .bool x241007_1]) ?_ 5 _ rfl; (with_reducible repeat (first | refine blk_drewN ?_ _ | refine blk_drew ?_ | refine blk_alloc ?_ _)); refine blk_put (cs := #[.string ((rd_T34 l0 x17_1).f0), .int .i64 ((rd_T34 l0 x17_1).f1), .int .i64 ((rd_T34 l0 x17_1).f2), .int .i64 ((rd_T34 l0 x17_1).f3), .int .i64 x241004_1, .int .i64 x241005_1, .int .i64 x241006_1, .bool x241007_1]) ?_ 4 _ rfl; (with_reducible repeat (first | refine blk_drewN ?_ _ | refine blk_drew ?_ | refine blk_alloc ?_ _)); refine blk_put (cs := #[.string ((rd_T34 l0 x17_1).f0), .int .i64 ((rd_T34 l0 x17_1).f1), .int .i64 ((rd_T34 l0 x17_1).f2), .int .i64 x241003_1, .int .i64 x241004_1, .int .i64 x241005_1, .int .i64 x241006_1, .bool x241007_1]) ?_ 3 _ rfl; (with_reducible repeat (first | refine blk_drewN ?_ _ | refine blk_drew ?_ | refine blk_alloc ?_ _)); refine blk_put (cs := #[.string ((rd_T34 l0 x17_1).f0), .int .i64 ((rd_T34 l0 x17_1).f1), .int .i64 x241002_1, .int .i64 x241003_1, .int .i64 x241004_1, .int .i64 x241005_1, .int .i64 x241006_1, .bool x241007_1]) ?_ 2 _ rfl; (with_reducible repeat (first | refine blk_drewN ?_ _ | refine blk_drew ?_ | refine blk_alloc ?_ _)); refine blk_put (cs := #[.string ((rd_T34 l0 x17_1).f0), .int .i64 x241001_1, .int .i64 x241002_1, .int .i64 x241003_1, .int .i64 x241004_1, .int .i64 x241005_1, .int .i64 x241006_1, .bool x241007_1]) ?_ 1 _ rfl; (with_reducible repeat (first | refine blk_drewN ?_ _ | refine blk_drew ?_ | refine blk_alloc ?_ _)); refine blk_put (cs := #[.string x241000_1, .int .i64 x241001_1, .int .i64 x241002_1, .int .i64 x241003_1, .int .i64 x241004_1, .int .i64 x241005_1, .int .i64 x241006_1, .bool x241007_1]) ?_ 0 _ rfl; (with_reducible repeat (first | refine blk_drewN ?_ _ | refine blk_drew ?_ | refine blk_alloc ?_ _)); exact BK240.out⟩, ⟨zQx14a1_⟩⟩
     replace c20 := Bool.eq_false_iff.mpr c20
     subst c20
     have H1 : (if t224 = t226 then (if t225 = t227 then (if (!(t230.toList == x241000_1.toList) || (!(t231 == x241001_1) || (!(t232 == x241002_1) || (!(t233 == x241003_1) || (!(t234 == x241004_1) || (!(t235 == x241005_1) || (!(t236 == x241006_1) || (!(t237 == x241007_1))))))))) = true then (basculelaw21_TableChecks.j2 kj17 a1 t228 t229 true) else (basculelaw21_TableChecks.j2 kj17 a1 t228 t229 (t238 != x16_1))) else (basculelaw21_TableChecks.j2 kj17 a1 t228 t229 true)) else (basculelaw21_TableChecks.j2 kj17 a1 t228 t229 true)) = some r := by rw [if_neg (show ¬ (false = true) by decide)] at H; exact H
     clear H
     have H := H1
     clear H1
     have HC26 := Aside0.mk H
     clear H
     go_upto_region 15 with (fail)
     go_cut [81] (fun v81 wc => ∃ (kq : Nat) (x81_25 : Bool), v81 = .bool x81_25 ∧ Aside0 (basculelaw21_TableChecks.j2 kq a1 t228 t229 x81_25 = some r) ∧ Aside0 (kq ≤ kj17) ∧ Aside0 (wc.heap[gb239]? = some (.cells #[.string t230, .int .i64 t231, .int .i64 t232, .int .i64 t233, .int .i64 t234, .int .i64 t235, .int .i64 t236, .bool t237] 34 (0, 0))) ∧ Aside0 (wc.heap[gb240]? = some (.cells #[.string x241000_1, .int .i64 x241001_1, .int .i64 x241002_1, .int .i64 x241003_1, .int .i64 x241004_1, .int .i64 x241005_1, .int .i64 x241006_1, .bool x241007_1] 34 (0, 0))) ∧ Aside0 (Below w.heap.size w wc))
     case first =>
      have H := HC26.out
      clear HC26
      by_cases c27 : t224 = t226
      rotate_left
      ·
       rw [if_neg c27] at H
       have c27b0 : (t224 == t226) = false := beq_eq_false_iff_ne.mpr c27
       have c27b1 : (t224 != t226) = true := bne_iff_ne.mpr c27
       (first | rw [c27b0] | (simp only [i64_w, i32_w]; rw [c27b0]) | skip)
       have H' := Aside0.mk H
       clear H
       go_wp2
       go_meet
       case rel => exact ⟨_, (true), zQx14a8_, H', ⟨zQx14a11_⟩, ⟨zQx14a4_⟩, ⟨zQx14a5_⟩, ⟨zQx14a1_⟩⟩
      rw [if_pos c27] at H
      have c27b0 : (t224 == t226) = true := beq_iff_eq.mpr c27
      have c27b1 : (t224 != t226) = false := bne_eq_false_iff_eq.mpr c27
      clear c27
      (first | rw [c27b0] | (simp only [i64_w, i32_w]; rw [c27b0]) | skip)
      by_cases c28 : t225 = t227
      rotate_left
      ·
       rw [if_neg c28] at H
       have c28b0 : (t225 == t227) = false := beq_eq_false_iff_ne.mpr c28
       have c28b1 : (t225 != t227) = true := bne_iff_ne.mpr c28
       have H' := Aside0.mk H
       clear H
       go_wp2
       go_meet
       case rel => exact ⟨_, (true), zQx14a8_, H', ⟨zQx14a11_⟩, ⟨zQx14a4_⟩, ⟨zQx14a5_⟩, ⟨zQx14a1_⟩⟩
      rw [if_pos c28] at H
      have c28b0 : (t225 == t227) = true := beq_iff_eq.mpr c28
      have c28b1 : (t225 != t227) = false := bne_eq_false_iff_eq.mpr c28
      clear c28
      by_cases c29 : (!(t230.toList == x241000_1.toList) || (!(t231 == x241001_1) || (!(t232 == x241002_1) || (!(t233 == x241003_1) || (!(t234 == x241004_1) || (!(t235 == x241005_1) || (!(t236 == x241006_1) || (!(t237 == x241007_1))))))))) = true
      ·
       rw [if_pos c29] at H
       have c29b0 : (!(t230.toList == x241000_1.toList) || (!(t231 == x241001_1) || (!(t232 == x241002_1) || (!(t233 == x241003_1) || (!(t234 == x241004_1) || (!(t235 == x241005_1) || (!(t236 == x241006_1) || (!(t237 == x241007_1))))))))) = true := c29
       clear c29
       have H' := Aside0.mk H
       clear H
       have hnb30 := NB239_240.out
       have hnc30 := NB240_239.out
       have hcz31_0 : wc.cell? ⟨gb239, 0, none⟩ = some (.string t230) := (blk_cell BK239.out 0).trans rfl
       have hcz31_1 : wc.cell? ⟨gb239, 1, none⟩ = some (.int .i64 t231) := (blk_cell BK239.out 1).trans rfl
       have hcz31_2 : wc.cell? ⟨gb239, 2, none⟩ = some (.int .i64 t232) := (blk_cell BK239.out 2).trans rfl
       have hcz31_3 : wc.cell? ⟨gb239, 3, none⟩ = some (.int .i64 t233) := (blk_cell BK239.out 3).trans rfl
       have hcz31_4 : wc.cell? ⟨gb239, 4, none⟩ = some (.int .i64 t234) := (blk_cell BK239.out 4).trans rfl
       have hcz31_5 : wc.cell? ⟨gb239, 5, none⟩ = some (.int .i64 t235) := (blk_cell BK239.out 5).trans rfl
       have hcz31_6 : wc.cell? ⟨gb239, 6, none⟩ = some (.int .i64 t236) := (blk_cell BK239.out 6).trans rfl
       have hcz31_7 : wc.cell? ⟨gb239, 7, none⟩ = some (.bool t237) := (blk_cell BK239.out 7).trans rfl
       have hfz31_0 := blk_frozen BK239.out 0
       have hfz31_1 := blk_frozen BK239.out 1
       have hfz31_2 := blk_frozen BK239.out 2
       have hfz31_3 := blk_frozen BK239.out 3
       have hfz31_4 := blk_frozen BK239.out 4
       have hfz31_5 := blk_frozen BK239.out 5
       have hfz31_6 := blk_frozen BK239.out 6
       have hfz31_7 := blk_frozen BK239.out 7
       have hcz32_0 : wc.cell? ⟨gb240, 0, none⟩ = some (.string x241000_1) := (blk_cell BK240.out 0).trans rfl
       have hcz32_1 : wc.cell? ⟨gb240, 1, none⟩ = some (.int .i64 x241001_1) := (blk_cell BK240.out 1).trans rfl
       have hcz32_2 : wc.cell? ⟨gb240, 2, none⟩ = some (.int .i64 x241002_1) := (blk_cell BK240.out 2).trans rfl
       have hcz32_3 : wc.cell? ⟨gb240, 3, none⟩ = some (.int .i64 x241003_1) := (blk_cell BK240.out 3).trans rfl
       have hcz32_4 : wc.cell? ⟨gb240, 4, none⟩ = some (.int .i64 x241004_1) := (blk_cell BK240.out 4).trans rfl
       have hcz32_5 : wc.cell? ⟨gb240, 5, none⟩ = some (.int .i64 x241005_1) := (blk_cell BK240.out 5).trans rfl
       have hcz32_6 : wc.cell? ⟨gb240, 6, none⟩ = some (.int .i64 x241006_1) := (blk_cell BK240.out 6).trans rfl
       have hcz32_7 : wc.cell? ⟨gb240, 7, none⟩ = some (.bool x241007_1) := (blk_cell BK240.out 7).trans rfl
       have hfz32_0 := blk_frozen BK240.out 0
       have hfz32_1 := blk_frozen BK240.out 1
       have hfz32_2 := blk_frozen BK240.out 2
       have hfz32_3 := blk_frozen BK240.out 3
       have hfz32_4 := blk_frozen BK240.out 4
       have hfz32_5 := blk_frozen BK240.out 5
       have hfz32_6 := blk_frozen BK240.out 6
       have hfz32_7 := blk_frozen BK240.out 7
       go_wp2
       go_meet
       case rel => exact ⟨_, (true), zQx14a8_, H', ⟨zQx14a11_⟩, ⟨zQx14a4_⟩, ⟨zQx14a5_⟩, ⟨zQx14a1_⟩⟩
      rw [if_neg c29] at H
      have c29b0 : (!(t230.toList == x241000_1.toList) || (!(t231 == x241001_1) || (!(t232 == x241002_1) || (!(t233 == x241003_1) || (!(t234 == x241004_1) || (!(t235 == x241005_1) || (!(t236 == x241006_1) || (!(t237 == x241007_1))))))))) = false := by simpa using c29
      clear c29
      have H' := Aside0.mk H
      clear H
      have hnb33 := NB239_240.out
      have hnc33 := NB240_239.out
      have hcz34_0 : wc.cell? ⟨gb239, 0, none⟩ = some (.string t230) := (blk_cell BK239.out 0).trans rfl
      have hcz34_1 : wc.cell? ⟨gb239, 1, none⟩ = some (.int .i64 t231) := (blk_cell BK239.out 1).trans rfl
      have hcz34_2 : wc.cell? ⟨gb239, 2, none⟩ = some (.int .i64 t232) := (blk_cell BK239.out 2).trans rfl
      have hcz34_3 : wc.cell? ⟨gb239, 3, none⟩ = some (.int .i64 t233) := (blk_cell BK239.out 3).trans rfl
      have hcz34_4 : wc.cell? ⟨gb239, 4, none⟩ = some (.int .i64 t234) := (blk_cell BK239.out 4).trans rfl
      have hcz34_5 : wc.cell? ⟨gb239, 5, none⟩ = some (.int .i64 t235) := (blk_cell BK239.out 5).trans rfl
      have hcz34_6 : wc.cell? ⟨gb239, 6, none⟩ = some (.int .i64 t236) := (blk_cell BK239.out 6).trans rfl
      have hcz34_7 : wc.cell? ⟨gb239, 7, none⟩ = some (.bool t237) := (blk_cell BK239.out 7).trans rfl
      have hfz34_0 := blk_frozen BK239.out 0
      have hfz34_1 := blk_frozen BK239.out 1
      have hfz34_2 := blk_frozen BK239.out 2
      have hfz34_3 := blk_frozen BK239.out 3
      have hfz34_4 := blk_frozen BK239.out 4
      have hfz34_5 := blk_frozen BK239.out 5
      have hfz34_6 := blk_frozen BK239.out 6
      have hfz34_7 := blk_frozen BK239.out 7
      have hcz35_0 : wc.cell? ⟨gb240, 0, none⟩ = some (.string x241000_1) := (blk_cell BK240.out 0).trans rfl
      have hcz35_1 : wc.cell? ⟨gb240, 1, none⟩ = some (.int .i64 x241001_1) := (blk_cell BK240.out 1).trans rfl
      have hcz35_2 : wc.cell? ⟨gb240, 2, none⟩ = some (.int .i64 x241002_1) := (blk_cell BK240.out 2).trans rfl
      have hcz35_3 : wc.cell? ⟨gb240, 3, none⟩ = some (.int .i64 x241003_1) := (blk_cell BK240.out 3).trans rfl
      have hcz35_4 : wc.cell? ⟨gb240, 4, none⟩ = some (.int .i64 x241004_1) := (blk_cell BK240.out 4).trans rfl
      have hcz35_5 : wc.cell? ⟨gb240, 5, none⟩ = some (.int .i64 x241005_1) := (blk_cell BK240.out 5).trans rfl
      have hcz35_6 : wc.cell? ⟨gb240, 6, none⟩ = some (.int .i64 x241006_1) := (blk_cell BK240.out 6).trans rfl
      have hcz35_7 : wc.cell? ⟨gb240, 7, none⟩ = some (.bool x241007_1) := (blk_cell BK240.out 7).trans rfl
      have hfz35_0 := blk_frozen BK240.out 0
      have hfz35_1 := blk_frozen BK240.out 1
      have hfz35_2 := blk_frozen BK240.out 2
      have hfz35_3 := blk_frozen BK240.out 3
      have hfz35_4 := blk_frozen BK240.out 4
      have hfz35_5 := blk_frozen BK240.out 5
      have hfz35_6 := blk_frozen BK240.out 6
      have hfz35_7 := blk_frozen BK240.out 7
      go_wp2
      go_meet
      case rel => exact ⟨_, ((t238 != x16_1)), zQx14a8_, H', ⟨zQx14a11_⟩, ⟨zQx14a4_⟩, ⟨zQx14a5_⟩, ⟨zQx14a1_⟩⟩
     case rest =>
      clear HC26
      try clear c1
      try clear c2
      try clear p2
      try clear q2
      try clear hx2
      try clear c3
      try clear c4
      try clear c5
      try clear p6
      try clear c11
      try clear c12
      try clear c13
      try clear c14
      try clear c15
      try clear c16
      try clear c19
      try clear c19b0
      try clear c20
      try clear c21
      try clear c21b0
      try clear c22
      try clear c22b0
      try clear c23
      try clear c23b0
      try clear c23b1
      try clear c24
      try clear p24
      try clear q24
      try clear hx24
      try clear c27
      try clear c27b0
      try clear c27b1
      try clear c28
      try clear c28b0
      try clear c28b1
      try clear c29
      try clear c29b0
      try clear c30
      try clear c33
      try clear hcz14_0
      try clear hcz14_1
      try clear hcz14_2
      try clear hcz14_3
      try clear hcz14_4
      try clear hcz14_5
      try clear hcz14_6
      try clear hcz14_7
      try clear hcz17_0
      try clear hcz17_1
      try clear hcz17_2
      try clear hcz17_3
      try clear hcz17_4
      try clear hcz17_5
      try clear hcz17_6
      try clear hcz17_7
      try clear hcz25_0
      try clear hcz25_1
      try clear hcz25_2
      try clear hcz25_3
      try clear hcz25_4
      try clear hcz25_5
      try clear hcz25_6
      try clear hcz25_7
      try clear hcz31_0
      try clear hcz31_1
      try clear hcz31_2
      try clear hcz31_3
      try clear hcz31_4
      try clear hcz31_5
      try clear hcz31_6
      try clear hcz31_7
      try clear hcz32_0
      try clear hcz32_1
      try clear hcz32_2
      try clear hcz32_3
      try clear hcz32_4
      try clear hcz32_5
      try clear hcz32_6
      try clear hcz32_7
      try clear hcz34_0
      try clear hcz34_1
      try clear hcz34_2
      try clear hcz34_3
      try clear hcz34_4
      try clear hcz34_5
      try clear hcz34_6
      try clear hcz34_7
      try clear hcz35_0
      try clear hcz35_1
      try clear hcz35_2
      try clear hcz35_3
      try clear hcz35_4
      try clear hcz35_5
      try clear hcz35_6
      try clear hcz35_7
      try clear hfz14_0
      try clear hfz14_1
      try clear hfz14_2
      try clear hfz14_3
      try clear hfz14_4
      try clear hfz14_5
      try clear hfz14_6
      try clear hfz14_7
      try clear hfz17_0
      try clear hfz17_1
      try clear hfz17_2
      try clear hfz17_3
      try clear hfz17_4
      try clear hfz17_5
      try clear hfz17_6
      try clear hfz17_7
      try clear hfz25_0
      try clear hfz25_1
      try clear hfz25_2
      try clear hfz25_3
      try clear hfz25_4
      try clear hfz25_5
      try clear hfz25_6
      try clear hfz25_7
      try clear hfz31_0
      try clear hfz31_1
      try clear hfz31_2
      try clear hfz31_3
      try clear hfz31_4
      try clear hfz31_5
      try clear hfz31_6
      try clear hfz31_7
      try clear hfz32_0
      try clear hfz32_1
      try clear hfz32_2
      try clear hfz32_3
      try clear hfz32_4
      try clear hfz32_5
      try clear hfz32_6
      try clear hfz32_7
      try clear hfz34_0
      try clear hfz34_1
      try clear hfz34_2
      try clear hfz34_3
      try clear hfz34_4
      try clear hfz34_5
      try clear hfz34_6
      try clear hfz34_7
      try clear hfz35_0
      try clear hfz35_1
      try clear hfz35_2
      try clear hfz35_3
      try clear hfz35_4
      try clear hfz35_5
      try clear hfz35_6
      try clear hfz35_7
      try clear hx241_0
      try clear hx241_1
      try clear hx241_2
      try clear hx241_3
      try clear hx241_4
      try clear hx241_5
      try clear hx241_6
      try clear hx241_7
      try clear hx242_0
      try clear hx242_1
      try clear hx242_2
      try clear hx242_3
      try clear hx242_4
      try clear hx242_5
      try clear hx242_6
      try clear hx242_7
      try clear p2
      try clear p241
      try clear p242
      try clear q241
      try clear q242
      obtain ⟨kq, x81_25, rfl, HA, HJ25, BK239, BK240, HB⟩ := hcut
      cases kq with
      | zero => exact absurd HA.out (by simp [basculelaw21_TableChecks.j2])
      | succ kj25 =>
       have H := HA.out
       clear HA
       simp only [basculelaw21_TableChecks.j2] at H
       by_cases c36 : x81_25 = true
       ·
        subst c36
        have H1 : (some false) = some r := by rw [if_pos rfl] at H; exact H
        clear H
        have H := H1
        clear H1
        obtain rfl := Option.some.inj H
        go_wp2
        go_ret
        exact ⟨zQx14a7_, zQx14a1_⟩
       replace c36 := Bool.eq_false_iff.mpr c36
       subst c36
       have H1 : ((basculeref21_Kind.f a1).bind fun t243 => (if t243 = true then ((basculelaw21_awake.f).bind fun t244 => (if t244 = true then ((basculeref21_Words.f kj25 a1).bind fun t245 => (if t228 = t245 then (some (t229 == 0)) else (some false))) else (some false))) else ((basculelaw21_awake.f).bind fun t246 => (if t246 = true then (if t228 = 0 then (some (t229 == 1)) else (some false)) else (some false))))) = some r := by rw [if_neg (show ¬ (false = true) by decide)] at H; exact H
       clear H
       have H := H1
       clear H1
       replace H := Option.bind_eq_some_iff.mp H
       obtain ⟨t243, A370, H⟩ := H
       replace H : (if t243 = true then ((basculelaw21_awake.f).bind fun t244 => (if t244 = true then ((basculeref21_Words.f kj25 a1).bind fun t245 => (if t228 = t245 then (some (t229 == 0)) else (some false))) else (some false))) else ((basculelaw21_awake.f).bind fun t246 => (if t246 = true then (if t228 = 0 then (some (t229 == 1)) else (some false)) else (some false)))) = some r := H
       have A37 := Aside0.mk A370
       clear A370
       by_cases c38 : t243 = true
       rotate_left
       ·
        replace c38 := Bool.eq_false_iff.mpr c38
        subst c38
        have H1 : ((basculelaw21_awake.f).bind fun t246 => (if t246 = true then (if t228 = 0 then (some (t229 == 1)) else (some false)) else (some false))) = some r := by rw [if_neg (show ¬ (false = true) by decide)] at H; exact H
        clear H
        have H := H1
        clear H1
        replace H := Option.bind_eq_some_iff.mp H
        obtain ⟨t246, A460, H⟩ := H
        replace H : (if t246 = true then (if t228 = 0 then (some (t229 == 1)) else (some false)) else (some false)) = some r := H
        have A46 := Aside0.mk A460
        clear A460
        by_cases c47 : t246 = true
        rotate_left
        ·
         replace c47 := Bool.eq_false_iff.mpr c47
         subst c47
         have H1 : (some false) = some r := by rw [if_neg (show ¬ (false = true) by decide)] at H; exact H
         clear H
         have H := H1
         clear H1
         obtain rfl := Option.some.inj H
         go_wp2_with (first | ((with_reducible refine gate_callee (f := 16) rfl ?_); refine goesL_ (some 83) rfl rfl Tryz.func16 (by kernel_rfl) rfl #[.int .i64 a1] rfl zQx14a2_ ?_; (with_reducible refine (basculeref21_Kind.calls a1 false _ A37.out).mono ?_); rintro e w' ⟨rfl, ⟨nd, rfl⟩⟩; refine ⟨_, rfl, ?_⟩) | ((with_reducible refine gate_callee (f := 9) rfl ?_); refine goesL_ (some 85) rfl rfl Tryz.func9 (by kernel_rfl) rfl #[] rfl zQx14a2_ ?_; (with_reducible refine (basculelaw21_awake.calls  false _ (Val.Laid.below hLd_ zQx14a1_) A46.out).mono ?_); rintro e w51 ⟨rfl, hb⟩; refine ⟨_, rfl, ?_⟩; have n0_ := Aside0.mk (blk_below (g := gb239) (o := .cells #[.string t230, .int .i64 t231, .int .i64 t232, .int .i64 t233, .int .i64 t234, .int .i64 t235, .int .i64 t236, .bool t237] 34 (0, 0)) zQx14a4_ hb); have n1_ := Aside0.mk (blk_below (g := gb240) (o := .cells #[.string x241000_1, .int .i64 x241001_1, .int .i64 x241002_1, .int .i64 x241003_1, .int .i64 x241004_1, .int .i64 x241005_1, .int .i64 x241006_1, .bool x241007_1] 34 (0, 0)) zQx14a5_ hb); have n2_ := Aside0.mk (below_step zQx14a1_ hb); clear BK239; clear BK240; clear HB; have BK239 := n0_; have BK240 := n1_; have HB := n2_; clear n0_ n1_ n2_; (try clear hb); (try clear hb2); (try clear hk); (try clear hi)))
         go_ret
         exact ⟨zQx14a7_, zQx14a1_⟩
        subst c47
        have H1 : (if t228 = 0 then (some (t229 == 1)) else (some false)) = some r := by rw [if_pos rfl] at H; exact H
        clear H
        have H := H1
        clear H1
        by_cases c48 : t228 = 0
        rotate_left
        ·
         rw [if_neg c48] at H
         have c48b0 : (t228 == 0) = false := beq_eq_false_iff_ne.mpr c48
         have c48b1 : (t228 != 0) = true := bne_iff_ne.mpr c48
         obtain rfl := Option.some.inj H
         go_wp2_with (first | ((with_reducible refine gate_callee (f := 16) rfl ?_); refine goesL_ (some 83) rfl rfl Tryz.func16 (by kernel_rfl) rfl #[.int .i64 a1] rfl zQx14a2_ ?_; (with_reducible refine (basculeref21_Kind.calls a1 false _ A37.out).mono ?_); rintro e w' ⟨rfl, ⟨nd, rfl⟩⟩; refine ⟨_, rfl, ?_⟩) | ((with_reducible refine gate_callee (f := 9) rfl ?_); refine goesL_ (some 85) rfl rfl Tryz.func9 (by kernel_rfl) rfl #[] rfl zQx14a2_ ?_; (with_reducible refine (basculelaw21_awake.calls  true _ (Val.Laid.below hLd_ zQx14a1_) A46.out).mono ?_); rintro e w50 ⟨rfl, hb⟩; refine ⟨_, rfl, ?_⟩; have n0_ := Aside0.mk (blk_below (g := gb239) (o := .cells #[.string t230, .int .i64 t231, .int .i64 t232, .int .i64 t233, .int .i64 t234, .int .i64 t235, .int .i64 t236, .bool t237] 34 (0, 0)) zQx14a4_ hb); have n1_ := Aside0.mk (blk_below (g := gb240) (o := .cells #[.string x241000_1, .int .i64 x241001_1, .int .i64 x241002_1, .int .i64 x241003_1, .int .i64 x241004_1, .int .i64 x241005_1, .int .i64 x241006_1, .bool x241007_1] 34 (0, 0)) zQx14a5_ hb); have n2_ := Aside0.mk (below_step zQx14a1_ hb); clear BK239; clear BK240; clear HB; have BK239 := n0_; have BK240 := n1_; have HB := n2_; clear n0_ n1_ n2_; (try clear hb); (try clear hb2); (try clear hk); (try clear hi)))
         go_ret
         exact ⟨zQx14a7_, zQx14a1_⟩
        rw [if_pos c48] at H
        have c48b0 : (t228 == 0) = true := beq_iff_eq.mpr c48
        have c48b1 : (t228 != 0) = false := bne_eq_false_iff_eq.mpr c48
        clear c48
        obtain rfl := Option.some.inj H
        go_wp2_with (first | ((with_reducible refine gate_callee (f := 16) rfl ?_); refine goesL_ (some 83) rfl rfl Tryz.func16 (by kernel_rfl) rfl #[.int .i64 a1] rfl zQx14a2_ ?_; (with_reducible refine (basculeref21_Kind.calls a1 false _ A37.out).mono ?_); rintro e w' ⟨rfl, ⟨nd, rfl⟩⟩; refine ⟨_, rfl, ?_⟩) | ((with_reducible refine gate_callee (f := 9) rfl ?_); refine goesL_ (some 85) rfl rfl Tryz.func9 (by kernel_rfl) rfl #[] rfl zQx14a2_ ?_; (with_reducible refine (basculelaw21_awake.calls  true _ (Val.Laid.below hLd_ zQx14a1_) A46.out).mono ?_); rintro e w49 ⟨rfl, hb⟩; refine ⟨_, rfl, ?_⟩; have n0_ := Aside0.mk (blk_below (g := gb239) (o := .cells #[.string t230, .int .i64 t231, .int .i64 t232, .int .i64 t233, .int .i64 t234, .int .i64 t235, .int .i64 t236, .bool t237] 34 (0, 0)) zQx14a4_ hb); have n1_ := Aside0.mk (blk_below (g := gb240) (o := .cells #[.string x241000_1, .int .i64 x241001_1, .int .i64 x241002_1, .int .i64 x241003_1, .int .i64 x241004_1, .int .i64 x241005_1, .int .i64 x241006_1, .bool x241007_1] 34 (0, 0)) zQx14a5_ hb); have n2_ := Aside0.mk (below_step zQx14a1_ hb); clear BK239; clear BK240; clear HB; have BK239 := n0_; have BK240 := n1_; have HB := n2_; clear n0_ n1_ n2_; (try clear hb); (try clear hb2); (try clear hk); (try clear hi)))
        go_ret
        exact ⟨zQx14a7_, zQx14a1_⟩
       subst c38
       have H1 : ((basculelaw21_awake.f).bind fun t244 => (if t244 = true then ((basculeref21_Words.f kj25 a1).bind fun t245 => (if t228 = t245 then (some (t229 == 0)) else (some false))) else (some false))) = some r := by rw [if_pos rfl] at H; exact H
       clear H
       have H := H1
       clear H1
       replace H := Option.bind_eq_some_iff.mp H
       obtain ⟨t244, A390, H⟩ := H
       replace H : (if t244 = true then ((basculeref21_Words.f kj25 a1).bind fun t245 => (if t228 = t245 then (some (t229 == 0)) else (some false))) else (some false)) = some r := H
       have A39 := Aside0.mk A390
       clear A390
       by_cases c40 : t244 = true
       rotate_left
       ·
        replace c40 := Bool.eq_false_iff.mpr c40
        subst c40
        have H1 : (some false) = some r := by rw [if_neg (show ¬ (false = true) by decide)] at H; exact H
        clear H
        have H := H1
        clear H1
        obtain rfl := Option.some.inj H
        go_wp2_with (first | ((with_reducible refine gate_callee (f := 16) rfl ?_); refine goesL_ (some 83) rfl rfl Tryz.func16 (by kernel_rfl) rfl #[.int .i64 a1] rfl zQx14a2_ ?_; (with_reducible refine (basculeref21_Kind.calls a1 true _ A37.out).mono ?_); rintro e w' ⟨rfl, ⟨nd, rfl⟩⟩; refine ⟨_, rfl, ?_⟩) | ((with_reducible refine gate_callee (f := 9) rfl ?_); refine goesL_ (some 94) rfl rfl Tryz.func9 (by kernel_rfl) rfl #[] rfl zQx14a2_ ?_; (with_reducible refine (basculelaw21_awake.calls  false _ (Val.Laid.below hLd_ zQx14a1_) A39.out).mono ?_); rintro e w45 ⟨rfl, hb⟩; refine ⟨_, rfl, ?_⟩; have n0_ := Aside0.mk (blk_below (g := gb239) (o := .cells #[.string t230, .int .i64 t231, .int .i64 t232, .int .i64 t233, .int .i64 t234, .int .i64 t235, .int .i64 t236, .bool t237] 34 (0, 0)) zQx14a4_ hb); have n1_ := Aside0.mk (blk_below (g := gb240) (o := .cells #[.string x241000_1, .int .i64 x241001_1, .int .i64 x241002_1, .int .i64 x241003_1, .int .i64 x241004_1, .int .i64 x241005_1, .int .i64 x241006_1, .bool x241007_1] 34 (0, 0)) zQx14a5_ hb); have n2_ := Aside0.mk (below_step zQx14a1_ hb); clear BK239; clear BK240; clear HB; have BK239 := n0_; have BK240 := n1_; have HB := n2_; clear n0_ n1_ n2_; (try clear hb); (try clear hb2); (try clear hk); (try clear hi)))
        go_ret
        exact ⟨zQx14a7_, zQx14a1_⟩
       subst c40
       have H1 : ((basculeref21_Words.f kj25 a1).bind fun t245 => (if t228 = t245 then (some (t229 == 0)) else (some false))) = some r := by rw [if_pos rfl] at H; exact H
       clear H
       have H := H1
       clear H1
       replace H := Option.bind_eq_some_iff.mp H
       obtain ⟨t245, A410, H⟩ := H
       replace H : (if t228 = t245 then (some (t229 == 0)) else (some false)) = some r := H
       have A41 := Aside0.mk A410
       clear A410
       by_cases c42 : t228 = t245
       rotate_left
       ·
        rw [if_neg c42] at H
        have c42b0 : (t228 == t245) = false := beq_eq_false_iff_ne.mpr c42
        have c42b1 : (t228 != t245) = true := bne_iff_ne.mpr c42
        obtain rfl := Option.some.inj H
        go_wp2_with (first | ((with_reducible refine gate_callee (f := 16) rfl ?_); refine goesL_ (some 83) rfl rfl Tryz.func16 (by kernel_rfl) rfl #[.int .i64 a1] rfl zQx14a2_ ?_; (with_reducible refine (basculeref21_Kind.calls a1 true _ A37.out).mono ?_); rintro e w' ⟨rfl, ⟨nd, rfl⟩⟩; refine ⟨_, rfl, ?_⟩) | ((with_reducible refine gate_callee (f := 9) rfl ?_); refine goesL_ (some 94) rfl rfl Tryz.func9 (by kernel_rfl) rfl #[] rfl zQx14a2_ ?_; (with_reducible refine (basculelaw21_awake.calls  true _ (Val.Laid.below hLd_ zQx14a1_) A39.out).mono ?_); rintro e w44 ⟨rfl, hb⟩; refine ⟨_, rfl, ?_⟩; have n0_ := Aside0.mk (blk_below (g := gb239) (o := .cells #[.string t230, .int .i64 t231, .int .i64 t232, .int .i64 t233, .int .i64 t234, .int .i64 t235, .int .i64 t236, .bool t237] 34 (0, 0)) zQx14a4_ hb); have n1_ := Aside0.mk (blk_below (g := gb240) (o := .cells #[.string x241000_1, .int .i64 x241001_1, .int .i64 x241002_1, .int .i64 x241003_1, .int .i64 x241004_1, .int .i64 x241005_1, .int .i64 x241006_1, .bool x241007_1] 34 (0, 0)) zQx14a5_ hb); have n2_ := Aside0.mk (below_step zQx14a1_ hb); clear BK239; clear BK240; clear HB; have BK239 := n0_; have BK240 := n1_; have HB := n2_; clear n0_ n1_ n2_; (try clear hb); (try clear hb2); (try clear hk); (try clear hi)) | (go_at_call 17; (with_reducible refine (basculeref21_Words.calls kj25 a1 t245 _ A41.out).mono ?_); rintro e w' ⟨rfl, ⟨nd, rfl⟩⟩))
        go_ret
        exact ⟨zQx14a7_, zQx14a1_⟩
       rw [if_pos c42] at H
       have c42b0 : (t228 == t245) = true := beq_iff_eq.mpr c42
       have c42b1 : (t228 != t245) = false := bne_eq_false_iff_eq.mpr c42
       clear c42
       obtain rfl := Option.some.inj H
       go_wp2_with (first | ((with_reducible refine gate_callee (f := 16) rfl ?_); refine goesL_ (some 83) rfl rfl Tryz.func16 (by kernel_rfl) rfl #[.int .i64 a1] rfl zQx14a2_ ?_; (with_reducible refine (basculeref21_Kind.calls a1 true _ A37.out).mono ?_); rintro e w' ⟨rfl, ⟨nd, rfl⟩⟩; refine ⟨_, rfl, ?_⟩) | ((with_reducible refine gate_callee (f := 9) rfl ?_); refine goesL_ (some 94) rfl rfl Tryz.func9 (by kernel_rfl) rfl #[] rfl zQx14a2_ ?_; (with_reducible refine (basculelaw21_awake.calls  true _ (Val.Laid.below hLd_ zQx14a1_) A39.out).mono ?_); rintro e w43 ⟨rfl, hb⟩; refine ⟨_, rfl, ?_⟩; have n0_ := Aside0.mk (blk_below (g := gb239) (o := .cells #[.string t230, .int .i64 t231, .int .i64 t232, .int .i64 t233, .int .i64 t234, .int .i64 t235, .int .i64 t236, .bool t237] 34 (0, 0)) zQx14a4_ hb); have n1_ := Aside0.mk (blk_below (g := gb240) (o := .cells #[.string x241000_1, .int .i64 x241001_1, .int .i64 x241002_1, .int .i64 x241003_1, .int .i64 x241004_1, .int .i64 x241005_1, .int .i64 x241006_1, .bool x241007_1] 34 (0, 0)) zQx14a5_ hb); have n2_ := Aside0.mk (below_step zQx14a1_ hb); clear BK239; clear BK240; clear HB; have BK239 := n0_; have BK240 := n1_; have HB := n2_; clear n0_ n1_ n2_; (try clear hb); (try clear hb2); (try clear hk); (try clear hi)) | (go_at_call 17; (with_reducible refine (basculeref21_Words.calls kj25 a1 t245 _ A41.out).mono ?_); rintro e w' ⟨rfl, ⟨nd, rfl⟩⟩))
       go_ret
       exact ⟨zQx14a7_, zQx14a1_⟩
end Go.Proofs.YtbfhiiokajbdhaaGreatDoor.Q
