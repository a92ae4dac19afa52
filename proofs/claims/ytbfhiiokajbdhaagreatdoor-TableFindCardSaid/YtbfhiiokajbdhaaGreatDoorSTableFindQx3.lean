/- What the proof of TableFind leans on: Qx3. -/
import Derived.Test.YtbfhiiokajbdhaaGreatDoorSTableFindQx0
namespace Go.Proofs.YtbfhiiokajbdhaaGreatDoor.Q
open Go.RowKit Go.Proofs.YtbfhiiokajbdhaaGreatDoorW.PrintWords Go.Proofs.YtbfhiiokajbdhaaGreatDoorW.PrintLast Go.Proofs.YtbfhiiokajbdhaaGreatDoorW.PrintMore
attribute [local go_sem] max2_int max_two
set_option linter.unusedVariables false
set_option linter.unusedSimpArgs false
theorem zQx3a0_ {P_ : Prop} (h_ : P_ := by repeat (first | (with_reducible first | exact HB.out | apply below_alloc | apply pw_below_drewN | apply below_drew1) | exact HB.out)) : P_ := h_
theorem zQx3a1_ {P_ : Prop} (h_ : P_ := by repeat (first | exact Drawn0.refl _ | apply Drawn0.step)) : P_ := h_
theorem zQx3a2_ {P_ : Prop} (h_ : P_ := by first | rfl | (simp; done) | (simp [*]; done)) : P_ := h_
theorem zQx3a3_ {P_ : Prop} (h_ : P_ := by first | rfl | (simp [errW_none, errW_some] <;> rfl) | (simp [*, errW_none, errW_some] <;> rfl)) : P_ := h_
theorem zQx3a4_ {P_ : Prop} (h_ : P_ := by have := HJ2.out; first | omega | exact Nat.le_refl _) : P_ := h_
theorem znQx3_ {X_ : Prop} [Decidable X_] (h_ : ¬ X_ → False := by intro c_; rw [if_neg c_] at H; exact absurd H (by simp)) : X_ := Decidable.byContradiction h_
def topic_Name.f (a0 : ByteArray) : Option (Int) := some (if Top.isName a0 then 0 else 120)
theorem topic_Name.calls (a0 : ByteArray) (r : Int) (w : World) (hLd_ : Val.Laid w) (h : topic_Name.f a0 = some r) :
  Calls Tryz.prog 61 #[.string a0] w fun e w' => e = .returned (.int .i64 r) ∧ Below w.heap.size w w' := by
 obtain rfl := Option.some.inj h
 exact Top.name_calls a0 w hLd_.top
def strings_ContainsAny.f (a0 : ByteArray) (a1 : ByteArray) : Option (Bool) := if 2 ≤ a1.size ∧ a0.size < 4294967281 ∧ a1.size < 4294967281 ∧ (a1.data.toList.all fun b => decide (b.toNat < 128)) = true then some (Top.hasAny a0.data.toList a1.data.toList) else none
theorem strings_ContainsAny.calls (a0 : ByteArray) (a1 : ByteArray) (r : Bool) (w : World) (h : strings_ContainsAny.f a0 a1 = some r) :
  Calls Tryz.prog 62 #[.string a0, .string a1] w fun e w' => e = .returned (.bool r) ∧ Below w.heap.size w w' := by
 unfold strings_ContainsAny.f at h
 split at h
 ·
  rename_i hc
  obtain ⟨h1, h2, h3, h4⟩ := hc
  obtain rfl := Option.some.inj h
  exact Top.containsAny_calls a0 a1 w h1 h2 h3 fun j b hb => of_decide_eq_true (List.all_eq_true.1 h4 b (List.mem_of_getElem? hb))
 ·
  cases h
def stringslite_HasPrefix.f (a0 : ByteArray) (a1 : ByteArray) : Option (Bool) := if (a0.size : Int) ≥ (a1.size : Int) then (if 0 ≤ (a1.size : Int) then (if (a1.size : Int) ≤ (a0.size : Int) then (some ((a0.extract 0 ((a1.size : Int) : Int).toNat).toList == a1.toList)) else (none)) else (none)) else (some false)
set_option maxHeartbeats 8000000 in
set_option maxRecDepth 100000 in
theorem stringslite_HasPrefix.calls (a0 : ByteArray) (a1 : ByteArray) (r : Bool) (w : World) (h : stringslite_HasPrefix.f a0 a1 = some r) :
  Calls Tryz.prog 84 #[.string a0, .string a1] w fun e w' => e = .returned (.bool r) ∧ Drawn0 w w' := by
 have H : (if (a0.size : Int) ≥ (a1.size : Int) then (if 0 ≤ (a1.size : Int) then (if (a1.size : Int) ≤ (a0.size : Int) then (some ((a0.extract 0 ((a1.size : Int) : Int).toNat).toList == a1.toList)) else (none)) else (none)) else (some false)) = some r := h
 clear h
 by_cases c3 : (a0.size : Int) ≥ (a1.size : Int)
 rotate_left
 ·
  rw [if_neg c3] at H
  have c3b0 : decide ((a1.size : Int) ≤ (a0.size : Int)) = false := decide_eq_false c3
  have c3b1 : decide (a1.size ≤ a0.size) = false := decide_eq_false (fun h => c3 (Int.ofNat_le.mpr h))
  clear c3
  obtain rfl := Option.some.inj H
  go_enter Tryz.func84, Tryz.ntmps84
  go_wp2
  go_ret
  exact ⟨zQx3a2_, zQx3a1_⟩
 rw [if_pos c3] at H
 have c3b0 : decide ((a1.size : Int) ≤ (a0.size : Int)) = true := decide_eq_true c3
 have c3b1 : decide (a1.size ≤ a0.size) = true := decide_eq_true (Int.ofNat_le.mp c3)
 clear c3
 have c4 : 0 ≤ (a1.size : Int) := znQx3_
 rw [if_pos c4] at H
 have c4b0 := eq_true c4
 have c4b1 : decide (0 ≤ (a1.size : Int)) = true := decide_eq_true c4
 clear c4
 have c5 : (a1.size : Int) ≤ (a0.size : Int) := znQx3_
 rw [if_pos c5] at H
 have c5b0 := eq_true c5
 have c5b1 : decide ((a1.size : Int) ≤ (a0.size : Int)) = true := decide_eq_true c5
 clear c5
 obtain rfl := Option.some.inj H
 go_enter Tryz.func84, Tryz.ntmps84
 go_wp2
 go_ret
 exact ⟨zQx3a2_, zQx3a1_⟩
def strings_HasPrefix.f (a0 : ByteArray) (a1 : ByteArray) : Option (Bool) := (stringslite_HasPrefix.f a0 a1).bind fun t101 => (some t101)
set_option maxHeartbeats 8000000 in
set_option maxRecDepth 100000 in
theorem strings_HasPrefix.calls (a0 : ByteArray) (a1 : ByteArray) (r : Bool) (w : World) (h : strings_HasPrefix.f a0 a1 = some r) :
  Calls Tryz.prog 63 #[.string a0, .string a1] w fun e w' => e = .returned (.bool r) ∧ Drawn0 w w' := by
 have H : ((stringslite_HasPrefix.f a0 a1).bind fun t101 => (some t101)) = some r := h
 clear h
 replace H := Option.bind_eq_some_iff.mp H
 obtain ⟨t101, A30, H⟩ := H
 replace H : (some t101) = some r := H
 have A3 := Aside0.mk A30
 clear A30
 obtain rfl := Option.some.inj H
 go_enter Tryz.func63, Tryz.ntmps63
 go_wp2_with (first | ((with_reducible refine gate_callee (f := 84) rfl ?_); refine goesL_ (some 7) rfl rfl Tryz.func84 (by kernel_rfl) rfl #[.string a0, .string a1] rfl (by (try simp only [List.map_toArray, List.map_cons, List.map_nil]); first | done | rfl | (simp only [List.length_drop, List.length_take]; rfl)) ?_; (with_reducible refine (stringslite_HasPrefix.calls a0 a1 t101 _ A3.out).mono ?_); rintro e w' ⟨rfl, ⟨nd, rfl⟩⟩; refine ⟨_, rfl, ?_⟩))
 go_ret
 exact ⟨zQx3a2_, zQx3a1_⟩
def table_named.f (a0 : ByteArray) : Option (Bool) := if (a0.size : Int) ≤ 200 then ((topic_Name.f a0).bind fun t102 => (if t102 = 0 then ((strings_ContainsAny.f a0 (⟨#[32, 9, 10]⟩ : ByteArray)).bind fun t103 => (if t103 = true then (some false) else ((strings_HasPrefix.f a0 (⟨#[36]⟩ : ByteArray)).bind fun t104 => (some (!t104))))) else (some false))) else (some false)
set_option maxHeartbeats 8000000 in
set_option maxRecDepth 100000 in
theorem table_named.calls (a0 : ByteArray) (r : Bool) (w : World) (hLd_ : Val.Laid w) (h : table_named.f a0 = some r) :
  Calls Tryz.prog 46 #[.string a0] w fun e w' => e = .returned (.bool r) ∧ Below w.heap.size w w' := by
 have HB := Aside0.mk (Below.refl w.heap.size w)
 have H : (if (a0.size : Int) ≤ 200 then ((topic_Name.f a0).bind fun t102 => (if t102 = 0 then ((strings_ContainsAny.f a0 (⟨#[32, 9, 10]⟩ : ByteArray)).bind fun t103 => (if t103 = true then (some false) else ((strings_HasPrefix.f a0 (⟨#[36]⟩ : ByteArray)).bind fun t104 => (some (!t104))))) else (some false))) else (some false)) = some r := h
 clear h
 by_cases c2 : (a0.size : Int) ≤ 200
 rotate_left
 ·
  rw [if_neg c2] at H
  have c2b0 : decide ((a0.size : Int) ≤ 200) = false := decide_eq_false c2
  have c2b1 : decide (a0.size ≤ 200) = false := decide_eq_false (by omega)
  clear c2
  obtain rfl := Option.some.inj H
  go_enter Tryz.func46, Tryz.ntmps46
  go_wp2
  go_ret
  exact ⟨zQx3a3_, zQx3a0_⟩
 rw [if_pos c2] at H
 have c2b0 : decide ((a0.size : Int) ≤ 200) = true := decide_eq_true c2
 have c2b1 : decide (a0.size ≤ 200) = true := decide_eq_true (by omega)
 clear c2
 replace H := Option.bind_eq_some_iff.mp H
 obtain ⟨t102, A30, H⟩ := H
 replace H : (if t102 = 0 then ((strings_ContainsAny.f a0 (⟨#[32, 9, 10]⟩ : ByteArray)).bind fun t103 => (if t103 = true then (some false) else ((strings_HasPrefix.f a0 (⟨#[36]⟩ : ByteArray)).bind fun t104 => (some (!t104))))) else (some false)) = some r := H
 have A3 := Aside0.mk A30
 clear A30
 by_cases c4 : t102 = 0
 rotate_left
 ·
  rw [if_neg c4] at H
  have c4b0 : (t102 == 0) = false := beq_eq_false_iff_ne.mpr c4
  have c4b1 : (t102 != 0) = true := bne_iff_ne.mpr c4
  obtain rfl := Option.some.inj H
  go_enter Tryz.func46, Tryz.ntmps46
  go_wp2_with (first | (go_at_call 61; (with_reducible refine (topic_Name.calls a0 t102 _ (Val.Laid.below hLd_ zQx3a0_) A3.out).mono ?_); rintro e w12 ⟨rfl, hb⟩; have n0_ := Aside0.mk (below_step zQx3a0_ hb); clear HB; have HB := n0_; clear n0_; (try clear hb); (try clear hb2); (try clear hk); (try clear hi)))
  go_ret
  exact ⟨zQx3a3_, zQx3a0_⟩
 rw [if_pos c4] at H
 have c4b0 : (t102 == 0) = true := beq_iff_eq.mpr c4
 have c4b1 : (t102 != 0) = false := bne_eq_false_iff_eq.mpr c4
 clear c4
 replace H := Option.bind_eq_some_iff.mp H
 obtain ⟨t103, A50, H⟩ := H
 replace H : (if t103 = true then (some false) else ((strings_HasPrefix.f a0 (⟨#[36]⟩ : ByteArray)).bind fun t104 => (some (!t104)))) = some r := H
 have A5 := Aside0.mk A50
 clear A50
 by_cases c6 : t103 = true
 ·
  subst c6
  have H1 : (some false) = some r := by rw [if_pos rfl] at H; exact H
  clear H
  have H := H1
  clear H1
  obtain rfl := Option.some.inj H
  go_enter Tryz.func46, Tryz.ntmps46
  go_wp2_with (first | (go_at_call 61; (with_reducible refine (topic_Name.calls a0 t102 _ (Val.Laid.below hLd_ zQx3a0_) A3.out).mono ?_); rintro e w7 ⟨rfl, hb⟩; have n0_ := Aside0.mk (below_step zQx3a0_ hb); clear HB; have HB := n0_; clear n0_; (try clear hb); (try clear hb2); (try clear hk); (try clear hi)) | (go_at_call 62; (with_reducible refine (strings_ContainsAny.calls a0 (⟨#[32, 9, 10]⟩ : ByteArray) true _ A5.out).mono ?_); rintro e w8 ⟨rfl, hb⟩; have n0_ := Aside0.mk (below_step zQx3a0_ hb); clear HB; have HB := n0_; clear n0_; (try clear hb); (try clear hb2); (try clear hk); (try clear hi)))
  go_ret
  exact ⟨zQx3a3_, zQx3a0_⟩
 replace c6 := Bool.eq_false_iff.mpr c6
 subst c6
 have H1 : ((strings_HasPrefix.f a0 (⟨#[36]⟩ : ByteArray)).bind fun t104 => (some (!t104))) = some r := by rw [if_neg (show ¬ (false = true) by decide)] at H; exact H
 clear H
 have H := H1
 clear H1
 replace H := Option.bind_eq_some_iff.mp H
 obtain ⟨t104, A90, H⟩ := H
 replace H : (some (!t104)) = some r := H
 have A9 := Aside0.mk A90
 clear A90
 obtain rfl := Option.some.inj H
 go_enter Tryz.func46, Tryz.ntmps46
 go_wp2_with (first | (go_at_call 61; (with_reducible refine (topic_Name.calls a0 t102 _ (Val.Laid.below hLd_ zQx3a0_) A3.out).mono ?_); rintro e w10 ⟨rfl, hb⟩; have n0_ := Aside0.mk (below_step zQx3a0_ hb); clear HB; have HB := n0_; clear n0_; (try clear hb); (try clear hb2); (try clear hk); (try clear hi)) | (go_at_call 62; (with_reducible refine (strings_ContainsAny.calls a0 (⟨#[32, 9, 10]⟩ : ByteArray) false _ A5.out).mono ?_); rintro e w11 ⟨rfl, hb⟩; have n0_ := Aside0.mk (below_step zQx3a0_ hb); clear HB; have HB := n0_; clear n0_; (try clear hb); (try clear hb2); (try clear hk); (try clear hi)) | (go_at_call 63; (with_reducible refine (strings_HasPrefix.calls a0 (⟨#[36]⟩ : ByteArray) t104 _ A9.out).mono ?_); rintro e w' ⟨rfl, ⟨nd, rfl⟩⟩))
 go_ret
 exact ⟨zQx3a3_, zQx3a0_⟩
mutual
def table_Words.j0 : Nat → Int → Bool → Option (Int × Int)
 | 0, _, _ => none
 | k + 1, x4, x7 => if x7 = true then (some (1, 0)) else (if x4 = 4 then (table_Words.j1 k x4 (x4 == 4)) else (if x4 = 5 then (table_Words.j1 k x4 (x4 == 5)) else (if x4 = 6 then (table_Words.j1 k x4 (x4 == 6)) else (if x4 = 7 then (table_Words.j1 k x4 (x4 == 7)) else (table_Words.j1 k x4 (x4 == 8))))))
def table_Words.j1 : Nat → Int → Bool → Option (Int × Int)
 | 0, _, _ => none
 | k + 1, x4, x10 => if x10 = true then (some (2, 0)) else (if x4 = 9 then (some (4, 0)) else (if x4 = 10 then (some (4, 0)) else (some (0, 1))))
end
def table_Words.f (k : Nat) (a0 : Int) : Option (Int × Int) := if a0 = 1 then (some (0, 0)) else (if a0 = 2 then (table_Words.j0 k a0 (a0 == 2)) else (table_Words.j0 k a0 (a0 == 3)))
set_option maxHeartbeats 8000000 in
set_option maxRecDepth 100000 in
theorem table_Words.calls (k : Nat) (a0 : Int) (r1 : Int) (r2 : Int) (w : World) (h : table_Words.f k a0 = some (r1, r2)) :
  Calls Tryz.prog 14 #[.int .i64 a0] w fun e w' => e = .returned (.tuple #[.int .i64 r1, .int .i64 r2]) ∧ Drawn0 w w' := by
 have H : (if a0 = 1 then (some (0, 0)) else (if a0 = 2 then (table_Words.j0 k a0 (a0 == 2)) else (table_Words.j0 k a0 (a0 == 3)))) = some (r1, r2) := h
 clear h
 by_cases c2 : a0 = 1
 ·
  rw [if_pos c2] at H
  have c2b0 : (a0 == 1) = true := beq_iff_eq.mpr c2
  have c2b1 : (a0 != 1) = false := bne_eq_false_iff_eq.mpr c2
  clear c2
  simp only [Option.some.injEq, Prod.mk.injEq] at H
  obtain ⟨rfl, rfl⟩ := H
  go_enter Tryz.func14, Tryz.ntmps14
  go_wp2
  go_ret2
  exact ⟨zQx3a2_, zQx3a1_⟩
 rw [if_neg c2] at H
 have c2b0 : (a0 == 1) = false := beq_eq_false_iff_ne.mpr c2
 have c2b1 : (a0 != 1) = true := bne_iff_ne.mpr c2
 have HC3 := Aside0.mk H
 clear H
 go_enter Tryz.func14, Tryz.ntmps14
 go_upto_if 7 with (fail)
 go_cut [7] (fun v7 wc => ∃ (kq : Nat) (x7_2 : Bool), v7 = .bool x7_2 ∧ Aside0 (table_Words.j0 kq a0 x7_2 = some (r1, r2)) ∧ Aside0 (kq ≤ k) ∧ Drawn0 w wc)
 case first =>
  have H := HC3.out
  clear HC3
  by_cases c4 : a0 = 2
  rotate_left
  ·
   rw [if_neg c4] at H
   have c4b0 : (a0 == 2) = false := beq_eq_false_iff_ne.mpr c4
   have c4b1 : (a0 != 2) = true := bne_iff_ne.mpr c4
   (first | rw [c4b0] | (simp only [i64_w, i32_w]; rw [c4b0]) | skip)
   have H' := Aside0.mk H
   clear H
   go_wp2
   go_meet
   case rel => exact ⟨_, ((a0 == 3)), zQx3a2_, H', ⟨by first | omega | exact Nat.le_refl _⟩, zQx3a1_⟩
  rw [if_pos c4] at H
  have c4b0 : (a0 == 2) = true := beq_iff_eq.mpr c4
  have c4b1 : (a0 != 2) = false := bne_eq_false_iff_eq.mpr c4
  clear c4
  (first | rw [c4b0] | (simp only [i64_w, i32_w]; rw [c4b0]) | skip)
  have H' := Aside0.mk H
  clear H
  go_wp2
  go_meet
  case rel => exact ⟨_, ((a0 == 2)), zQx3a2_, H', ⟨by first | omega | exact Nat.le_refl _⟩, zQx3a1_⟩
 case rest =>
  clear HC3
  try clear c1
  try clear c2
  try clear c2b0
  try clear c2b1
  try clear p2
  try clear c4
  try clear c4b0
  try clear c4b1
  obtain ⟨kq, x7_2, rfl, HA, HJ2, ⟨mc2, rfl⟩⟩ := hcut
  cases kq with
  | zero => exact absurd HA.out (by simp [table_Words.j0])
  | succ kj2 =>
   have H := HA.out
   clear HA
   simp only [table_Words.j0] at H
   by_cases c5 : x7_2 = true
   ·
    subst c5
    have H1 : (some (1, 0)) = some (r1, r2) := by rw [if_pos rfl] at H; exact H
    clear H
    have H := H1
    clear H1
    simp only [Option.some.injEq, Prod.mk.injEq] at H
    obtain ⟨rfl, rfl⟩ := H
    go_wp2
    go_ret2
    exact ⟨zQx3a2_, zQx3a1_⟩
   replace c5 := Bool.eq_false_iff.mpr c5
   subst c5
   have H1 : (if a0 = 4 then (table_Words.j1 kj2 a0 (a0 == 4)) else (if a0 = 5 then (table_Words.j1 kj2 a0 (a0 == 5)) else (if a0 = 6 then (table_Words.j1 kj2 a0 (a0 == 6)) else (if a0 = 7 then (table_Words.j1 kj2 a0 (a0 == 7)) else (table_Words.j1 kj2 a0 (a0 == 8)))))) = some (r1, r2) := by rw [if_neg (show ¬ (false = true) by decide)] at H; exact H
   clear H
   have H := H1
   clear H1
   have HC6 := Aside0.mk H
   clear H
   go_upto_if 10 with (fail)
   go_cut [10] (fun v10 wc => ∃ (kq : Nat) (x10_5 : Bool), v10 = .bool x10_5 ∧ Aside0 (table_Words.j1 kq a0 x10_5 = some (r1, r2)) ∧ Aside0 (kq ≤ kj2) ∧ Drawn0 w wc)
   case first =>
    have H := HC6.out
    clear HC6
    by_cases c7 : a0 = 4
    ·
     rw [if_pos c7] at H
     have c7b0 : (a0 == 4) = true := beq_iff_eq.mpr c7
     have c7b1 : (a0 != 4) = false := bne_eq_false_iff_eq.mpr c7
     clear c7
     (first | rw [c7b0] | (simp only [i64_w, i32_w]; rw [c7b0]) | skip)
     have H' := Aside0.mk H
     clear H
     go_wp2
     go_meet
     case rel => exact ⟨_, ((a0 == 4)), zQx3a2_, H', ⟨zQx3a4_⟩, zQx3a1_⟩
    rw [if_neg c7] at H
    have c7b0 : (a0 == 4) = false := beq_eq_false_iff_ne.mpr c7
    have c7b1 : (a0 != 4) = true := bne_iff_ne.mpr c7
    (first | rw [c7b0] | (simp only [i64_w, i32_w]; rw [c7b0]) | skip)
    by_cases c8 : a0 = 5
    ·
     rw [if_pos c8] at H
     have c8b0 : (a0 == 5) = true := beq_iff_eq.mpr c8
     have c8b1 : (a0 != 5) = false := bne_eq_false_iff_eq.mpr c8
     clear c8
     have H' := Aside0.mk H
     clear H
     go_wp2
     go_meet
     case rel => exact ⟨_, ((a0 == 5)), zQx3a2_, H', ⟨zQx3a4_⟩, zQx3a1_⟩
    rw [if_neg c8] at H
    have c8b0 : (a0 == 5) = false := beq_eq_false_iff_ne.mpr c8
    have c8b1 : (a0 != 5) = true := bne_iff_ne.mpr c8
    by_cases c9 : a0 = 6
    ·
     rw [if_pos c9] at H
     have c9b0 : (a0 == 6) = true := beq_iff_eq.mpr c9
     have c9b1 : (a0 != 6) = false := bne_eq_false_iff_eq.mpr c9
     clear c9
     have H' := Aside0.mk H
     clear H
     go_wp2
     go_meet
     case rel => exact ⟨_, ((a0 == 6)), zQx3a2_, H', ⟨zQx3a4_⟩, zQx3a1_⟩
    rw [if_neg c9] at H
    have c9b0 : (a0 == 6) = false := beq_eq_false_iff_ne.mpr c9
    have c9b1 : (a0 != 6) = true := bne_iff_ne.mpr c9
    by_cases c10 : a0 = 7
    rotate_left
    ·
     rw [if_neg c10] at H
     have c10b0 : (a0 == 7) = false := beq_eq_false_iff_ne.mpr c10
     have c10b1 : (a0 != 7) = true := bne_iff_ne.mpr c10
     have H' := Aside0.mk H
     clear H
     go_wp2
     go_meet
     case rel => exact ⟨_, ((a0 == 8)), zQx3a2_, H', ⟨zQx3a4_⟩, zQx3a1_⟩
    rw [if_pos c10] at H
    have c10b0 : (a0 == 7) = true := beq_iff_eq.mpr c10
    have c10b1 : (a0 != 7) = false := bne_eq_false_iff_eq.mpr c10
    clear c10
    have H' := Aside0.mk H
    clear H
    go_wp2
    go_meet
    case rel => exact ⟨_, ((a0 == 7)), zQx3a2_, H', ⟨zQx3a4_⟩, zQx3a1_⟩
   case rest =>
    clear HC6
    try clear c1
    try clear c2
    try clear c2b0
    try clear c2b1
    try clear p2
    try clear c4
    try clear c4b0
    try clear c4b1
    try clear c5
    try clear c7
    try clear c7b0
    try clear c7b1
    try clear c8
    try clear c8b0
    try clear c8b1
    try clear c9
    try clear c9b0
    try clear c9b1
    try clear c10
    try clear c10b0
    try clear c10b1
    try clear p2
    obtain ⟨kq, x10_5, rfl, HA, HJ5, ⟨mc5, rfl⟩⟩ := hcut
    cases kq with
    | zero => exact absurd HA.out (by simp [table_Words.j1])
    | succ kj5 =>
     have H := HA.out
     clear HA
     simp only [table_Words.j1] at H
     by_cases c11 : x10_5 = true
     ·
      subst c11
      have H1 : (some (2, 0)) = some (r1, r2) := by rw [if_pos rfl] at H; exact H
      clear H
      have H := H1
      clear H1
      simp only [Option.some.injEq, Prod.mk.injEq] at H
      obtain ⟨rfl, rfl⟩ := H
      go_wp2
      go_ret2
      exact ⟨zQx3a2_, zQx3a1_⟩
     replace c11 := Bool.eq_false_iff.mpr c11
     subst c11
     have H1 : (if a0 = 9 then (some (4, 0)) else (if a0 = 10 then (some (4, 0)) else (some (0, 1)))) = some (r1, r2) := by rw [if_neg (show ¬ (false = true) by decide)] at H; exact H
     clear H
     have H := H1
     clear H1
     by_cases c12 : a0 = 9
     ·
      rw [if_pos c12] at H
      have c12b0 : (a0 == 9) = true := beq_iff_eq.mpr c12
      have c12b1 : (a0 != 9) = false := bne_eq_false_iff_eq.mpr c12
      clear c12
      simp only [Option.some.injEq, Prod.mk.injEq] at H
      obtain ⟨rfl, rfl⟩ := H
      go_wp2
      go_ret2
      exact ⟨zQx3a2_, zQx3a1_⟩
     rw [if_neg c12] at H
     have c12b0 : (a0 == 9) = false := beq_eq_false_iff_ne.mpr c12
     have c12b1 : (a0 != 9) = true := bne_iff_ne.mpr c12
     by_cases c13 : a0 = 10
     rotate_left
     ·
      rw [if_neg c13] at H
      have c13b0 : (a0 == 10) = false := beq_eq_false_iff_ne.mpr c13
      have c13b1 : (a0 != 10) = true := bne_iff_ne.mpr c13
      simp only [Option.some.injEq, Prod.mk.injEq] at H
      obtain ⟨rfl, rfl⟩ := H
      go_wp2
      go_ret2
      exact ⟨zQx3a2_, zQx3a1_⟩
     rw [if_pos c13] at H
     have c13b0 : (a0 == 10) = true := beq_iff_eq.mpr c13
     have c13b1 : (a0 != 10) = false := bne_eq_false_iff_eq.mpr c13
     clear c13
     simp only [Option.some.injEq, Prod.mk.injEq] at H
     obtain ⟨rfl, rfl⟩ := H
     go_wp2
     go_ret2
     exact ⟨zQx3a2_, zQx3a1_⟩
def table_within.f (a0 : Int) (a1 : Int) (a2 : Int) : Option (Bool) := if a0 ≥ a1 then (some (decide (a0 ≤ a2))) else (some false)
set_option maxHeartbeats 8000000 in
set_option maxRecDepth 100000 in
theorem table_within.calls (a0 : Int) (a1 : Int) (a2 : Int) (r : Bool) (w : World) (h : table_within.f a0 a1 a2 = some r) :
  Calls Tryz.prog 64 #[.int .i64 a0, .int .i64 a1, .int .i64 a2] w fun e w' => e = .returned (.bool r) ∧ Drawn0 w w' := by
 have H : (if a0 ≥ a1 then (some (decide (a0 ≤ a2))) else (some false)) = some r := h
 clear h
 by_cases c4 : a0 ≥ a1
 ·
  rw [if_pos c4] at H
  have c4b0 : decide (a1 ≤ a0) = true := decide_eq_true c4
  clear c4
  obtain rfl := Option.some.inj H
  go_enter Tryz.func64, Tryz.ntmps64
  go_wp2
  go_ret
  exact ⟨zQx3a2_, zQx3a1_⟩
 rw [if_neg c4] at H
 have c4b0 : decide (a1 ≤ a0) = false := decide_eq_false c4
 clear c4
 obtain rfl := Option.some.inj H
 go_enter Tryz.func64, Tryz.ntmps64
 go_wp2
 go_ret
 exact ⟨zQx3a2_, zQx3a1_⟩
end Go.Proofs.YtbfhiiokajbdhaaGreatDoor.Q
