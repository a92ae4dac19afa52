/- What the proof of ValueAgain leans on: Qx25. -/
import Derived.Test.YtmkekhjbbapngaaGreatDoorSValueAgainQx0
import Derived.Test.YtmkekhjbbapngaaGreatDoorSValueAgainValT
import Derived.Test.YtmkekhjbbapngaaGreatDoorSValueAgainValW
import Derived.Test.YtmkekhjbbapngaaGreatDoorSValueAgainQx18
namespace Go.Proofs.YtmkekhjbbapngaaGreatDoor.Q
open Go.RowKit Go.Proofs.YtmkekhjbbapngaaGreatDoorW.PrintWords Go.Proofs.YtmkekhjbbapngaaGreatDoorW.PrintLast Go.Proofs.YtmkekhjbbapngaaGreatDoorW.PrintMore
attribute [local go_sem] max2_int min2_int max_two min_two
set_option linter.unusedVariables false
set_option linter.unusedSimpArgs false
mutual
def basculelaw22_ValueAgain.j0 : Nat → ByteArray → Bool → ByteArray → Int → Int → Int → Int → Int → Int → Bool → Option (Bool)
  | 0, _, _, _, _, _, _, _, _, _, _ => none
  | k + 1, x1, x42, x381000, x381001, x381002, x381003, x381004, x381005, x381006, x381007 => if x42 = true then (some false) else (if 1 + x1.size ≤ 9223372036854775807 then (if x1.size + 1 ≤ 9223372036854775807 then (basculelaw22_ValueAgain.l0 k (([(⟨#[43]⟩ : ByteArray) ++ x1, (⟨#[48]⟩ : ByteArray) ++ x1, x1 ++ (⟨#[32]⟩ : ByteArray), (⟨#[32]⟩ : ByteArray) ++ x1] : List ByteArray)) 0 x381000 x381001 x381002 x381003 x381004 x381005 x381006 x381007) else (none)) else (none))
def basculelaw22_ValueAgain.l0 : Nat → List ByteArray → Int → ByteArray → Int → Int → Int → Int → Int → Int → Bool → Option (Bool)
  | 0, _, _, _, _, _, _, _, _, _, _ => none
  | k + 1, x9, x10, x381000, x381001, x381002, x381003, x381004, x381005, x381006, x381007 => if x10 < (x9.length : Int) then (if 0 ≤ x10 then ((value_Words.f x381000 x381001 x381002 x381003 x381004 x381005 x381006 x381007 (rdOf ByteArray.empty x9 x10)).bind fun bt392 => (if bt392.2 = 4 then (basculelaw22_ValueAgain.l0 k x9 (wrap64 (x10 + 1)) x381000 x381001 x381002 x381003 x381004 x381005 x381006 x381007) else (some false))) else (none)) else ((basculelaw22_awake.f k).bind fun t396 => (some t396))
end
def basculelaw22_ValueAgain.f (k : Nat) (a0_0 : ByteArray) (a0_1 : Int) (a0_2 : Int) (a0_3 : Int) (a0_4 : Int) (a0_5 : Int) (a0_6 : Int) (a0_7 : Bool) (a1 : ByteArray) : Option (Bool) := if (a1.size : Int) > 300 then (some true) else ((value_Words.f a0_0 a0_1 a0_2 a0_3 a0_4 a0_5 a0_6 a0_7 a1).bind fun bt381 => (if bt381.2 = 0 then ((value_Text.f a0_0 a0_1 a0_2 a0_3 a0_4 a0_5 a0_6 a0_7 bt381.1).bind fun bt386 => (if bt386.2 = 0 then (basculelaw22_ValueAgain.j0 k a1 (bt386.1.toList != a1.toList) a0_0 a0_1 a0_2 a0_3 a0_4 a0_5 a0_6 a0_7) else (basculelaw22_ValueAgain.j0 k a1 true a0_0 a0_1 a0_2 a0_3 a0_4 a0_5 a0_6 a0_7))) else ((basculelaw22_awake.f k).bind fun t385 => (if t385 = true then (some ((bt381.1.length : Int) == 0)) else (some false)))))
def basculelaw22_ValueAgain.T13 : Bool × List (List Nat × List Nat) := (true, [([], []), ([], []), ([], []), ([1, 2], [1, 2]), ([3], [3]), ([0, 4], [0, 4]), ([5], [5]), ([6], [6]), ([6], [6]), ([7, 5, 0, 1, 2, 3, 4, 5, 6, 7], [7]), ([8, 9, 0, 1, 2, 3, 4, 5, 6, 7, 8, 9], [8])])
def basculelaw22_ValueAgain.B13 : List Nat := [0, 0, 0, 6, 14, 31, 63, 127, 127, 255, 1023]
theorem basculelaw22_ValueAgain.tab13 : rtab .any (opsOf Tryz.f6 13) = basculelaw22_ValueAgain.T13 := by kernel_rfl
theorem basculelaw22_ValueAgain.bits13 : waitsOk basculelaw22_ValueAgain.T13.2 basculelaw22_ValueAgain.B13 = true := by kernel_rfl
set_option maxHeartbeats 8000000 in
set_option maxRecDepth 100000 in
theorem basculelaw22_ValueAgain.calls (k : Nat) (a0_0 : ByteArray) (a0_1 : Int) (a0_2 : Int) (a0_3 : Int) (a0_4 : Int) (a0_5 : Int) (a0_6 : Int) (a0_7 : Bool) (a1 : ByteArray) (r : Bool) (w : World) (hLd_ : Go.Proofs.YtmkekhjbbapngaaGreatDoor.Val.Laid w) (h : basculelaw22_ValueAgain.f k a0_0 a0_1 a0_2 a0_3 a0_4 a0_5 a0_6 a0_7 a1 = some r) :
    Calls Tryz.prog 6 #[.agg #[.string a0_0, .int .i64 a0_1, .int .i64 a0_2, .int .i64 a0_3, .int .i64 a0_4, .int .i64 a0_5, .int .i64 a0_6, .bool a0_7], .string a1] w fun e w' => e = .returned (.bool r) ∧ Below w.heap.size w w' := by
  have hu23 := Tryz.underlying23
  have HB := Aside0.mk (Below.refl w.heap.size w)
  have H : (if (a1.size : Int) > 300 then (some true) else ((value_Words.f a0_0 a0_1 a0_2 a0_3 a0_4 a0_5 a0_6 a0_7 a1).bind fun bt381 => (if bt381.2 = 0 then ((value_Text.f a0_0 a0_1 a0_2 a0_3 a0_4 a0_5 a0_6 a0_7 bt381.1).bind fun bt386 => (if bt386.2 = 0 then (basculelaw22_ValueAgain.j0 k a1 (bt386.1.toList != a1.toList) a0_0 a0_1 a0_2 a0_3 a0_4 a0_5 a0_6 a0_7) else (basculelaw22_ValueAgain.j0 k a1 true a0_0 a0_1 a0_2 a0_3 a0_4 a0_5 a0_6 a0_7))) else ((basculelaw22_awake.f k).bind fun t385 => (if t385 = true then (some ((bt381.1.length : Int) == 0)) else (some false)))))) = some r := h
  clear h
  by_cases c3 : (a1.size : Int) > 300
  · rw [if_pos c3] at H
    have c3b0 : decide (300 < (a1.size : Int)) = true := decide_eq_true c3
    have c3b1 : decide (300 < a1.size) = true := decide_eq_true (by omega)
    have c3b7 : (300 < a1.size) := of_decide_eq_true c3b1
    clear c3
    obtain rfl := Option.some.inj H
    go_enter Tryz.func6, Tryz.ntmps6
    go_wp2_with (first | ((with_reducible refine gate_dst (N := 2) rfl ?_); (try (refine gate_guard (by rfl) ?_; dsimp only)); refine box_event ?hg (N := 2) ?hd (cs := #[.string a0_0, .int .i64 a0_1, .int .i64 a0_2, .int .i64 a0_3, .int .i64 a0_4, .int .i64 a0_5, .int .i64 a0_6, .bool a0_7]) (t := 23) ?hr ?_; (case hd => rfl); (case hg => rfl); (case hr => first | (go_simp; done) | (go_simp; rfl)); intro gb380 hg w4 hbox hb; have n0_ := Aside0.mk (below_step (by repeat (first | (with_reducible first | exact HB.out | apply below_alloc | apply pw_below_drewN | apply below_drew1) | exact HB.out)) hb); have n1_ := Aside0.mk (hbox); have n2_ := Aside0.mk ((by rw [hg]; exact (below_size (by repeat (first | (with_reducible first | exact HB.out | apply below_alloc | apply pw_below_drewN | apply below_drew1) | exact HB.out))) : w.heap.size ≤ gb380)); have n3_ := Aside0.mk ((by rw [hg]; exact (below_size (by repeat (first | (with_reducible first | exact HB.out | apply below_alloc | apply pw_below_drewN | apply below_drew1) | exact HB.out))) : w.heap.size ≤ gb380)); clear HB; have HB := n0_; have BK380 := n1_; have GW380 := n2_; have GE380 := n3_; clear n0_ n1_ n2_ n3_; clear hb hbox hg))
    go_ret
    exact ⟨by first | rfl | (simp [errW_none, errW_some] <;> rfl) | (simp [*, errW_none, errW_some] <;> rfl), by repeat (first | (with_reducible first | exact HB.out | apply below_alloc | apply pw_below_drewN | apply below_drew1 | refine below_set ?_ GE380.out) | exact HB.out)⟩
  · rw [if_neg c3] at H
    have c3b0 : decide (300 < (a1.size : Int)) = false := decide_eq_false c3
    have c3b1 : decide (300 < a1.size) = false := decide_eq_false (by omega)
    clear c3
    replace H := Option.bind_eq_some_iff.mp H
    obtain ⟨⟨t381, t384⟩, A50, H⟩ := H
    replace H : (if t384 = 0 then ((value_Text.f a0_0 a0_1 a0_2 a0_3 a0_4 a0_5 a0_6 a0_7 t381).bind fun bt386 => (if bt386.2 = 0 then (basculelaw22_ValueAgain.j0 k a1 (bt386.1.toList != a1.toList) a0_0 a0_1 a0_2 a0_3 a0_4 a0_5 a0_6 a0_7) else (basculelaw22_ValueAgain.j0 k a1 true a0_0 a0_1 a0_2 a0_3 a0_4 a0_5 a0_6 a0_7))) else ((basculelaw22_awake.f k).bind fun t385 => (if t385 = true then (some ((t381.length : Int) == 0)) else (some false)))) = some r := H
    have A5 := Aside0.mk A50
    clear A50
    by_cases c6 : t384 = 0
    · rw [if_pos c6] at H
      have c6b0 : (t384 == 0) = true := beq_iff_eq.mpr c6
      have c6b1 : (t384 != 0) = false := bne_eq_false_iff_eq.mpr c6
      clear c6
      replace H := Option.bind_eq_some_iff.mp H
      obtain ⟨⟨t386, t387⟩, A70, H⟩ := H
      replace H : (if t387 = 0 then (basculelaw22_ValueAgain.j0 k a1 (t386.toList != a1.toList) a0_0 a0_1 a0_2 a0_3 a0_4 a0_5 a0_6 a0_7) else (basculelaw22_ValueAgain.j0 k a1 true a0_0 a0_1 a0_2 a0_3 a0_4 a0_5 a0_6 a0_7)) = some r := H
      have A7 := Aside0.mk A70
      clear A70
      have HC8 := Aside0.mk H
      clear H
      go_enter Tryz.func6, Tryz.ntmps6
      go_upto_region 7 with (first | ((with_reducible refine gate_dst (N := 2) rfl ?_); (try (refine gate_guard (by rfl) ?_; dsimp only)); refine box_event ?hg (N := 2) ?hd (cs := #[.string a0_0, .int .i64 a0_1, .int .i64 a0_2, .int .i64 a0_3, .int .i64 a0_4, .int .i64 a0_5, .int .i64 a0_6, .bool a0_7]) (t := 23) ?hr ?_; (case hd => rfl); (case hg => rfl); (case hr => first | (go_simp; done) | (go_simp; rfl)); intro gb380 hg w9 hbox hb; have n0_ := Aside0.mk (below_step (by repeat (first | (with_reducible first | exact HB.out | apply below_alloc | apply pw_below_drewN | apply below_drew1) | exact HB.out)) hb); have n1_ := Aside0.mk (hbox); have n2_ := Aside0.mk ((by rw [hg]; exact (below_size (by repeat (first | (with_reducible first | exact HB.out | apply below_alloc | apply pw_below_drewN | apply below_drew1) | exact HB.out))) : w.heap.size ≤ gb380)); have n3_ := Aside0.mk ((by rw [hg]; exact (below_size (by repeat (first | (with_reducible first | exact HB.out | apply below_alloc | apply pw_below_drewN | apply below_drew1) | exact HB.out))) : w.heap.size ≤ gb380)); clear HB; have HB := n0_; have BK380 := n1_; have GW380 := n2_; have GE380 := n3_; clear n0_ n1_ n2_ n3_; clear hb hbox hg; have hcz10_0 : w9.cell? ⟨gb380, 0, none⟩ = some (.string a0_0) := (blk_cell BK380.out 0).trans rfl; have hcz10_1 : w9.cell? ⟨gb380, 1, none⟩ = some (.int .i64 a0_1) := (blk_cell BK380.out 1).trans rfl; have hcz10_2 : w9.cell? ⟨gb380, 2, none⟩ = some (.int .i64 a0_2) := (blk_cell BK380.out 2).trans rfl; have hcz10_3 : w9.cell? ⟨gb380, 3, none⟩ = some (.int .i64 a0_3) := (blk_cell BK380.out 3).trans rfl; have hcz10_4 : w9.cell? ⟨gb380, 4, none⟩ = some (.int .i64 a0_4) := (blk_cell BK380.out 4).trans rfl; have hcz10_5 : w9.cell? ⟨gb380, 5, none⟩ = some (.int .i64 a0_5) := (blk_cell BK380.out 5).trans rfl; have hcz10_6 : w9.cell? ⟨gb380, 6, none⟩ = some (.int .i64 a0_6) := (blk_cell BK380.out 6).trans rfl; have hcz10_7 : w9.cell? ⟨gb380, 7, none⟩ = some (.bool a0_7) := (blk_cell BK380.out 7).trans rfl; have hfz10_0 := blk_frozen BK380.out 0; have hfz10_1 := blk_frozen BK380.out 1; have hfz10_2 := blk_frozen BK380.out 2; have hfz10_3 := blk_frozen BK380.out 3; have hfz10_4 := blk_frozen BK380.out 4; have hfz10_5 := blk_frozen BK380.out 5; have hfz10_6 := blk_frozen BK380.out 6; have hfz10_7 := blk_frozen BK380.out 7) | ((with_reducible refine gate_callee (f := 18) rfl ?_); refine goesL_ (some 19) rfl rfl Tryz.func18 (by kernel_rfl) rfl #[.agg #[.string a0_0, .int .i64 a0_1, .int .i64 a0_2, .int .i64 a0_3, .int .i64 a0_4, .int .i64 a0_5, .int .i64 a0_6, .bool a0_7], .string a1] rfl (by (try simp only [List.map_toArray, List.map_cons, List.map_nil]); first | done | rfl | (simp only [List.length_drop, List.length_take]; rfl)) ?_; (with_reducible refine (value_Words.calls a0_0 a0_1 a0_2 a0_3 a0_4 a0_5 a0_6 a0_7 a1 t381 t384 _ (Go.Proofs.YtmkekhjbbapngaaGreatDoor.Val.Laid.below hLd_ (by repeat (first | (with_reducible first | exact HB.out | apply below_alloc | apply pw_below_drewN | apply below_drew1 | refine below_set ?_ GE380.out) | exact HB.out))) A5.out).mono ?_); rintro e w11 ⟨v382, rfl, ho0, hb⟩; refine ⟨_, rfl, ?_⟩; have n0_ := Aside0.mk (Kd.R_lower ho0 (below_size (by repeat (first | (with_reducible first | exact HB.out | apply below_alloc | apply pw_below_drewN | apply below_drew1 | refine below_set ?_ GE380.out) | exact HB.out)))); have n1_ := Aside0.mk (blk_below (g := gb380) (o := .cells #[.string a0_0, .int .i64 a0_1, .int .i64 a0_2, .int .i64 a0_3, .int .i64 a0_4, .int .i64 a0_5, .int .i64 a0_6, .bool a0_7] 23 (0, 0)) (by (with_reducible repeat (first | refine blk_drewN ?_ _ | refine blk_drew ?_ | refine blk_alloc ?_ _)); exact BK380.out) hb); have n2_ := Aside0.mk (below_step (by repeat (first | (with_reducible first | exact HB.out | apply below_alloc | apply pw_below_drewN | apply below_drew1 | refine below_set ?_ GE380.out) | exact HB.out)) hb); clear BK380; clear HB; have HO383 := n0_; have BK380 := n1_; have HB := n2_; clear n0_ n1_ n2_; (try clear hb); (try clear hb2); (try clear hk); (try clear hi); (try clear ho0); have hcz12_0 : w11.cell? ⟨gb380, 0, none⟩ = some (.string a0_0) := (blk_cell BK380.out 0).trans rfl; have hcz12_1 : w11.cell? ⟨gb380, 1, none⟩ = some (.int .i64 a0_1) := (blk_cell BK380.out 1).trans rfl; have hcz12_2 : w11.cell? ⟨gb380, 2, none⟩ = some (.int .i64 a0_2) := (blk_cell BK380.out 2).trans rfl; have hcz12_3 : w11.cell? ⟨gb380, 3, none⟩ = some (.int .i64 a0_3) := (blk_cell BK380.out 3).trans rfl; have hcz12_4 : w11.cell? ⟨gb380, 4, none⟩ = some (.int .i64 a0_4) := (blk_cell BK380.out 4).trans rfl; have hcz12_5 : w11.cell? ⟨gb380, 5, none⟩ = some (.int .i64 a0_5) := (blk_cell BK380.out 5).trans rfl; have hcz12_6 : w11.cell? ⟨gb380, 6, none⟩ = some (.int .i64 a0_6) := (blk_cell BK380.out 6).trans rfl; have hcz12_7 : w11.cell? ⟨gb380, 7, none⟩ = some (.bool a0_7) := (blk_cell BK380.out 7).trans rfl; have hfz12_0 := blk_frozen BK380.out 0; have hfz12_1 := blk_frozen BK380.out 1; have hfz12_2 := blk_frozen BK380.out 2; have hfz12_3 := blk_frozen BK380.out 3; have hfz12_4 := blk_frozen BK380.out 4; have hfz12_5 := blk_frozen BK380.out 5; have hfz12_6 := blk_frozen BK380.out 6; have hfz12_7 := blk_frozen BK380.out 7; obtain ⟨Ao13, co13, eo13⟩ := Kd.R_slice HO383.out; subst eo13) | ((with_reducible refine gate_callee (f := 12) rfl ?_); refine goesL_ (some 33) rfl rfl Tryz.func12 (by kernel_rfl) rfl #[.agg #[.string a0_0, .int .i64 a0_1, .int .i64 a0_2, .int .i64 a0_3, .int .i64 a0_4, .int .i64 a0_5, .int .i64 a0_6, .bool a0_7], .slice Ao13 t381.length co13] rfl (by (try simp only [List.map_toArray, List.map_cons, List.map_nil]); first | done | rfl | (simp only [List.length_drop, List.length_take]; rfl)) ?_; (with_reducible refine (value_Text.calls a0_0 a0_1 a0_2 a0_3 a0_4 a0_5 a0_6 a0_7 _ _ t381 t386 t387 _ ?side1 ?side2 (Go.Proofs.YtmkekhjbbapngaaGreatDoor.Val.Laid.below hLd_ (by repeat (first | (with_reducible first | exact HB.out | apply below_alloc | apply pw_below_drewN | apply below_drew1 | refine below_set ?_ GE380.out) | exact HB.out))) A7.out).mono ?_); (case side1 => repeat (first | exact (Kd.R_reads' HO383.out).2.2 | (with_reducible refine Kd.C_alloc ?_ _) | (with_reducible refine Kd.C_drewN ?_ _) | (with_reducible refine Kd.C_drew ?_))); (case side2 => exact (Kd.R_reads' HO383.out).2.1); rintro e w14 ⟨rfl, hb⟩; refine ⟨_, rfl, ?_⟩; have n0_ := Aside0.mk (Kd.R_below (by (with_reducible repeat (first | apply Kd.R_alloc | apply Kd.R_drewN | apply Kd.R_drew)); exact HO383.out) hb); have n1_ := Aside0.mk (blk_below (g := gb380) (o := .cells #[.string a0_0, .int .i64 a0_1, .int .i64 a0_2, .int .i64 a0_3, .int .i64 a0_4, .int .i64 a0_5, .int .i64 a0_6, .bool a0_7] 23 (0, 0)) (by (with_reducible repeat (first | refine blk_drewN ?_ _ | refine blk_drew ?_ | refine blk_alloc ?_ _)); exact BK380.out) hb); have n2_ := Aside0.mk (below_step (by repeat (first | (with_reducible first | exact HB.out | apply below_alloc | apply pw_below_drewN | apply below_drew1 | refine below_set ?_ GE380.out) | exact HB.out)) hb); clear HO383; clear BK380; clear HB; have HO383 := n0_; have BK380 := n1_; have HB := n2_; clear n0_ n1_ n2_; (try clear hb); (try clear hb2); (try clear hk); (try clear hi)))
      (try simp only [Act.put, List.setIfInBounds_toArray, List.set_cons_zero, List.set_cons_succ])
      go_cut [42] (fun v42 wc => ∃ (kq : Nat) (x42_7 : Bool), v42 = .bool x42_7 ∧ Aside0 (basculelaw22_ValueAgain.j0 kq a1 x42_7 a0_0 a0_1 a0_2 a0_3 a0_4 a0_5 a0_6 a0_7 = some r) ∧ Aside0 (kq ≤ k) ∧ Aside0 (wc.heap[gb380]? = some (.cells #[.string a0_0, .int .i64 a0_1, .int .i64 a0_2, .int .i64 a0_3, .int .i64 a0_4, .int .i64 a0_5, .int .i64 a0_6, .bool a0_7] 23 (0, 0))) ∧ Aside0 (Below w.heap.size w wc))
      case first =>
        have H := HC8.out
        clear HC8
        by_cases c15 : t387 = 0
        · rw [if_pos c15] at H
          have c15b0 : (t387 == 0) = true := beq_iff_eq.mpr c15
          have c15b1 : (t387 != 0) = false := bne_eq_false_iff_eq.mpr c15
          clear c15
          (first | rw [c15b0] | (simp only [i64_w, i32_w]; rw [c15b0]) | skip)
          have H' := Aside0.mk H
          clear H
          go_wp2
          go_meet
          case rel => exact ⟨_, ((t386.toList != a1.toList)), (by first | rfl | (simp; done) | (simp [*]; done)), H', ⟨by first | omega | exact Nat.le_refl _⟩, ⟨by (with_reducible repeat (first | refine blk_drewN ?_ _ | refine blk_drew ?_ | refine blk_alloc ?_ _)); exact BK380.out⟩, ⟨by repeat (first | (with_reducible first | exact HB.out | apply below_alloc | apply pw_below_drewN | apply below_drew1 | refine below_set ?_ GE380.out) | exact HB.out)⟩⟩
        · rw [if_neg c15] at H
          have c15b0 : (t387 == 0) = false := beq_eq_false_iff_ne.mpr c15
          have c15b1 : (t387 != 0) = true := bne_iff_ne.mpr c15
          (first | rw [c15b0] | (simp only [i64_w, i32_w]; rw [c15b0]) | skip)
          have H' := Aside0.mk H
          clear H
          go_wp2
          go_meet
          case rel => exact ⟨_, (true), (by first | rfl | (simp; done) | (simp [*]; done)), H', ⟨by first | omega | exact Nat.le_refl _⟩, ⟨by (with_reducible repeat (first | refine blk_drewN ?_ _ | refine blk_drew ?_ | refine blk_alloc ?_ _)); exact BK380.out⟩, ⟨by repeat (first | (with_reducible first | exact HB.out | apply below_alloc | apply pw_below_drewN | apply below_drew1 | refine below_set ?_ GE380.out) | exact HB.out)⟩⟩
      case rest =>
        clear HC8
        try clear c1
        try clear p2
        try clear c3
        try clear c3b0
        try clear c3b1
        try clear c6
        try clear c6b0
        try clear c6b1
        try clear c12
        try clear c15
        try clear c15b0
        try clear c15b1
        try clear hcz10_0
        try clear hcz10_1
        try clear hcz10_2
        try clear hcz10_3
        try clear hcz10_4
        try clear hcz10_5
        try clear hcz10_6
        try clear hcz10_7
        try clear hcz12_0
        try clear hcz12_1
        try clear hcz12_2
        try clear hcz12_3
        try clear hcz12_4
        try clear hcz12_5
        try clear hcz12_6
        try clear hcz12_7
        try clear hfz10_0
        try clear hfz10_1
        try clear hfz10_2
        try clear hfz10_3
        try clear hfz10_4
        try clear hfz10_5
        try clear hfz10_6
        try clear hfz10_7
        try clear hfz12_0
        try clear hfz12_1
        try clear hfz12_2
        try clear hfz12_3
        try clear hfz12_4
        try clear hfz12_5
        try clear hfz12_6
        try clear hfz12_7
        obtain ⟨kq, x42_7, rfl, HA, HJ7, BK380, HB⟩ := hcut
        cases kq with
        | zero => exact absurd HA.out (by simp [basculelaw22_ValueAgain.j0])
        | succ kj7 =>
          have H := HA.out
          clear HA
          simp only [basculelaw22_ValueAgain.j0] at H
          by_cases c16 : x42_7 = true
          · subst c16
            have H1 : (some false) = some r := by rw [if_pos rfl] at H; exact H
            clear H
            have H := H1
            clear H1
            obtain rfl := Option.some.inj H
            go_wp2
            go_ret
            exact ⟨by first | rfl | (simp [errW_none, errW_some] <;> rfl) | (simp [*, errW_none, errW_some] <;> rfl), by repeat (first | (with_reducible first | exact HB.out | apply below_alloc | apply pw_below_drewN | apply below_drew1 | refine below_set ?_ GE380.out) | exact HB.out)⟩
          · replace c16 := Bool.eq_false_iff.mpr c16
            subst c16
            have H1 : (if 1 + a1.size ≤ 9223372036854775807 then (if a1.size + 1 ≤ 9223372036854775807 then (basculelaw22_ValueAgain.l0 kj7 (([(⟨#[43]⟩ : ByteArray) ++ a1, (⟨#[48]⟩ : ByteArray) ++ a1, a1 ++ (⟨#[32]⟩ : ByteArray), (⟨#[32]⟩ : ByteArray) ++ a1] : List ByteArray)) 0 a0_0 a0_1 a0_2 a0_3 a0_4 a0_5 a0_6 a0_7) else (none)) else (none)) = some r := by rw [if_neg (show ¬ (false = true) by decide)] at H; exact H
            clear H
            have H := H1
            clear H1
            by_cases c17 : 1 + a1.size ≤ 9223372036854775807
            · rw [if_pos c17] at H
              have c17b0 := eq_true c17
              have c17b1 : decide (1 + a1.size ≤ 9223372036854775807) = true := decide_eq_true c17
              try have c17b2 : (9223372036854775807 < 1 + a1.size) = False := eq_false (Nat.not_lt.2 c17)
              by_cases c18 : a1.size + 1 ≤ 9223372036854775807
              · rw [if_pos c18] at H
                have c18b0 := eq_true c18
                have c18b1 : decide (a1.size + 1 ≤ 9223372036854775807) = true := decide_eq_true c18
                try have c18b2 : (9223372036854775807 < a1.size + 1) = False := eq_false (Nat.not_lt.2 c18)
                obtain ⟨y388, hy388⟩ : ∃ y_ : List ByteArray, y_ = (([(⟨#[43]⟩ : ByteArray) ++ a1, (⟨#[48]⟩ : ByteArray) ++ a1, a1 ++ (⟨#[32]⟩ : ByteArray), (⟨#[32]⟩ : ByteArray) ++ a1] : List ByteArray)) := ⟨_, rfl⟩
                replace H : (basculelaw22_ValueAgain.l0 kj7 y388 0 a0_0 a0_1 a0_2 a0_3 a0_4 a0_5 a0_6 a0_7) = some r := by first | (rw [hy388]; with_reducible exact H) | (have H2_ := (Option.bind_some _ _).symm.trans H; rw [hy388]; with_reducible exact H2_) | (have H2_ := (Option.bind_some _ _).symm.trans H; with_reducible exact H2_) | with_reducible exact H | (rw [hy388]; exact H) | exact H
                have Ny388 := Aside0.mk hy388
                clear hy388
                have H' := Aside0.mk H
                clear H
                go_wp2_with (first | ((with_reducible refine gate_dst (N := 51) rfl ?_); (try (refine gate_guard (by rfl) ?_; dsimp only)); refine Kd.R_lit Kd.string _ 9 ?hg (N := 51) ?hd (xs := ([(⟨#[43]⟩ : ByteArray) ++ a1, (⟨#[48]⟩ : ByteArray) ++ a1, a1 ++ (⟨#[32]⟩ : ByteArray), (⟨#[32]⟩ : ByteArray) ++ a1] : List ByteArray)) (inner := [.string ((⟨#[43]⟩ : ByteArray) ++ a1), .string ((⟨#[48]⟩ : ByteArray) ++ a1), .string (a1 ++ (⟨#[32]⟩ : ByteArray)), .string ((⟨#[32]⟩ : ByteArray) ++ a1)]) (ok := fun _ => True) (okp := fun _ => True) ?hr ?hp (fun _ hk => hk) trivial (Below.refl _ _) (Nat.le_refl _) (by simp) ?_; (case hd => rfl); (case hg => rfl); (case hr => first | (go_simp; done) | (go_simp; rfl)); (case hp => exact (Reps.one (show Kd.M Kd.string _ _ _ ((⟨#[43]⟩ : ByteArray) ++ a1) [.string ((⟨#[43]⟩ : ByteArray) ++ a1)] from rfl) (Reps.one (show Kd.M Kd.string _ _ _ ((⟨#[48]⟩ : ByteArray) ++ a1) [.string ((⟨#[48]⟩ : ByteArray) ++ a1)] from rfl) (Reps.one (show Kd.M Kd.string _ _ _ (a1 ++ (⟨#[32]⟩ : ByteArray)) [.string (a1 ++ (⟨#[32]⟩ : ByteArray))] from rfl) (Reps.one (show Kd.M Kd.string _ _ _ ((⟨#[32]⟩ : ByteArray) ++ a1) [.string ((⟨#[32]⟩ : ByteArray) ++ a1)] from rfl) (Reps.none _ _)))))); intro v389 w19 ho20 hb hg_ hnew_; clear hg_ hnew_; (first | rw [← Ny388.out] at ho20 | (simp only [Int.reduceToNat] at ho20; rw [← Ny388.out] at ho20)); have n0_ := Aside0.mk (Kd.R_lower ho20 (below_size (by repeat (first | (with_reducible first | exact HB.out | apply below_alloc | apply pw_below_drewN | apply below_drew1 | refine below_set ?_ GE380.out) | exact HB.out)))); have n1_ := Aside0.mk (blk_below (g := gb380) (o := .cells #[.string a0_0, .int .i64 a0_1, .int .i64 a0_2, .int .i64 a0_3, .int .i64 a0_4, .int .i64 a0_5, .int .i64 a0_6, .bool a0_7] 23 (0, 0)) (by (with_reducible repeat (first | refine blk_drewN ?_ _ | refine blk_drew ?_ | refine blk_alloc ?_ _)); exact BK380.out) hb); have n2_ := Aside0.mk (below_step (by repeat (first | (with_reducible first | exact HB.out | apply below_alloc | apply pw_below_drewN | apply below_drew1 | refine below_set ?_ GE380.out) | exact HB.out)) hb); clear BK380; clear HB; have HO390 := n0_; have BK380 := n1_; have HB := n2_; clear n0_ n1_ n2_; clear hb ho20))
                go_loopg [10] kj7 (fun kq v10 w' => ∃ (x10_2 : Int), v10 = .int .i64 x10_2 ∧ Aside0 (basculelaw22_ValueAgain.l0 kq y388 x10_2 a0_0 a0_1 a0_2 a0_3 a0_4 a0_5 a0_6 a0_7 = some r) ∧ Aside0 (kq ≤ kj7) ∧ Aside0 (Kd.R Kd.string 9 w' w.heap.size (fun _ => True) v389 y388) ∧ Aside0 (w'.heap[gb380]? = some (.cells #[.string a0_0, .int .i64 a0_1, .int .i64 a0_2, .int .i64 a0_3, .int .i64 a0_4, .int .i64 a0_5, .int .i64 a0_6, .bool a0_7] 23 (0, 0))) ∧ Aside0 (Below w.heap.size w w'))
                case atStart => exact ⟨(0), (by first | rfl | (simp; done) | (simp [*]; done)), H', ⟨Nat.le_refl _⟩, ⟨by (with_reducible repeat (first | apply Kd.R_alloc | apply Kd.R_drewN | apply Kd.R_drew)); exact HO390.out⟩, ⟨by (with_reducible repeat (first | refine blk_drewN ?_ _ | refine blk_drew ?_ | refine blk_alloc ?_ _)); exact BK380.out⟩, ⟨by repeat (first | (with_reducible first | exact HB.out | apply below_alloc | apply pw_below_drewN | apply below_drew1 | refine below_set ?_ GE380.out) | exact HB.out)⟩⟩
                case round =>
                  clear H'
                  try clear c1
                  try clear p2
                  try clear c3
                  try clear c3b0
                  try clear c3b1
                  try clear c6
                  try clear c6b0
                  try clear c6b1
                  try clear c12
                  try clear c15
                  try clear c15b0
                  try clear c15b1
                  try clear c16
                  try clear c17
                  try clear c17b0
                  try clear c17b1
                  try clear c17b2
                  try clear c18
                  try clear c18b0
                  try clear c18b1
                  try clear c18b2
                  try clear hcz10_0
                  try clear hcz10_1
                  try clear hcz10_2
                  try clear hcz10_3
                  try clear hcz10_4
                  try clear hcz10_5
                  try clear hcz10_6
                  try clear hcz10_7
                  try clear hcz12_0
                  try clear hcz12_1
                  try clear hcz12_2
                  try clear hcz12_3
                  try clear hcz12_4
                  try clear hcz12_5
                  try clear hcz12_6
                  try clear hcz12_7
                  try clear hfz10_0
                  try clear hfz10_1
                  try clear hfz10_2
                  try clear hfz10_3
                  try clear hfz10_4
                  try clear hfz10_5
                  try clear hfz10_6
                  try clear hfz10_7
                  try clear hfz12_0
                  try clear hfz12_1
                  try clear hfz12_2
                  try clear hfz12_3
                  try clear hfz12_4
                  try clear hfz12_5
                  try clear hfz12_6
                  try clear hfz12_7
                  try clear p2
                  obtain ⟨x10_2, rfl, HA, HK2, HO_9, BK380, HB⟩ := hrel
                  cases gk with
                  | zero => exact absurd HA.out (by simp [basculelaw22_ValueAgain.l0])
                  | succ k2 =>
                    have H := HA.out
                    clear HA
                    simp only [basculelaw22_ValueAgain.l0] at H
                    by_cases c21 : x10_2 < (y388.length : Int)
                    · rw [if_pos c21] at H
                      have c21b0 : decide (x10_2 < (y388.length : Int)) = true := decide_eq_true c21
                      clear c21
                      by_cases c22 : 0 ≤ x10_2
                      · rw [if_pos c22] at H
                        have c22b0 : decide (0 ≤ x10_2) = true := decide_eq_true c22
                        clear c22
                        replace H := Option.bind_eq_some_iff.mp H
                        obtain ⟨⟨t392, t395⟩, A230, H⟩ := H
                        replace H : (if t395 = 4 then (basculelaw22_ValueAgain.l0 k2 y388 (wrap64 (x10_2 + 1)) a0_0 a0_1 a0_2 a0_3 a0_4 a0_5 a0_6 a0_7) else (some false)) = some r := H
                        have A23 := Aside0.mk A230
                        clear A230
                        by_cases c24 : t395 = 4
                        · rw [if_pos c24] at H
                          have c24b0 : (t395 == 4) = true := beq_iff_eq.mpr c24
                          have c24b1 : (t395 != 4) = false := bne_eq_false_iff_eq.mpr c24
                          clear c24
                          have H' := Aside0.mk H
                          clear H
                          obtain ⟨Ao25, co25, eo25⟩ := Kd.R_slice HO_9.out
                          subst eo25
                          try go_wp2
                          have n0_ := Aside0.mk (Kd.R_drew HO_9.out)
                          have n1_ := Aside0.mk (blk_drew BK380.out)
                          have n2_ := Aside0.mk (below_drew1 HB.out)
                          clear HO_9
                          clear BK380
                          clear HB
                          have HO_9 := n0_
                          have BK380 := n1_
                          have HB := n2_
                          clear n0_ n1_ n2_
                          have p391 : 0 ≤ (x10_2 : Int) := of_decide_eq_true (by first | (with_reducible assumption) | assumption)
                          have q391 : x10_2 < (y388.length : Int) := of_decide_eq_true (by first | (with_reducible assumption) | assumption)
                          obtain ⟨ad391, e391, hx391_0⟩ := Kd.at_string (Kd.R_reads' HO_9.out).2.2 x10_2 p391 q391
                          cases e391
                          replace p391 := eq_true p391
                          replace q391 := eq_true q391
                          refine start_ (n := 11) (S := fun w' => w'.cell? ⟨gb380, 0, none⟩ = some (.string a0_0) ∧ w'.cell? ⟨gb380, 1, none⟩ = some (.int .i64 a0_1) ∧ w'.cell? ⟨gb380, 2, none⟩ = some (.int .i64 a0_2) ∧ w'.cell? ⟨gb380, 3, none⟩ = some (.int .i64 a0_3) ∧ w'.cell? ⟨gb380, 4, none⟩ = some (.int .i64 a0_4) ∧ w'.cell? ⟨gb380, 5, none⟩ = some (.int .i64 a0_5) ∧ w'.cell? ⟨gb380, 6, none⟩ = some (.int .i64 a0_6) ∧ w'.cell? ⟨gb380, 7, none⟩ = some (.bool a0_7) ∧ w'.cell? (ad391.add (x10_2).toNat) = some (.string (rdOf ByteArray.empty y388 x10_2))) (ds := []) #[false, false, false, false, false, false, false, false, false, false, false] (by kernel_rfl) rfl rfl ⟨(blk_cell BK380.out 0).trans rfl, (blk_cell BK380.out 1).trans rfl, (blk_cell BK380.out 2).trans rfl, (blk_cell BK380.out 3).trans rfl, (blk_cell BK380.out 4).trans rfl, (blk_cell BK380.out 5).trans rfl, (blk_cell BK380.out 6).trans rfl, (blk_cell BK380.out 7).trans rfl, hx391_0⟩ (fun hHeld => ?_); refine with_tabW basculelaw22_ValueAgain.tab13 basculelaw22_ValueAgain.bits13 (fun HT_ HW_ => ?_)
                          generalize wr.drew = w26 at HO_9 BK380 HB hx391_0 hHeld ⊢
                          refine pure_ (i := 1) (N := some 60) (v := ?_) (a' := ?_) #[false, true, false, false, false, false, false, false, false, false, false] rfl rfl (any_of HT_.out (by kernel_rfl)) (fun _ _ _ h => h) (Or.inl ⟨by rfl, ?_⟩) ?_ ?_
                          rotate_left
                          · intro w'
                            go_simp
                            with_reducible rfl
                          rotate_left
                          · simp only [Act.put, List.setIfInBounds_toArray, List.set_cons_zero, List.set_cons_succ, i64_w, i32_w]
                            rfl
                          refine pure_ (i := 2) (N := some 61) (v := ?_) (a' := ?_) #[false, true, true, false, false, false, false, false, false, false, false] rfl rfl (any_of HT_.out (by kernel_rfl)) (fun _ _ _ h => h) (Or.inl ⟨by rfl, ?_⟩) ?_ ?_
                          rotate_left
                          · intro w'
                            go_simp
                            with_reducible rfl
                          rotate_left
                          · simp only [Act.put, List.setIfInBounds_toArray, List.set_cons_zero, List.set_cons_succ, i64_w, i32_w]
                            rfl
                          refine pure_ (i := 3) (N := some 62) (v := ?_) (a' := ?_) #[false, true, true, true, false, false, false, false, false, false, false] rfl rfl (any_of HT_.out (by kernel_rfl)) (fun _ _ _ h => h) (Or.inl ⟨by rfl, ?_⟩) ?_ ?_
                          rotate_left
                          · intro w'
                            go_simp
                            with_reducible rfl
                          rotate_left
                          · simp only [Act.put, List.setIfInBounds_toArray, List.set_cons_zero, List.set_cons_succ, i64_w, i32_w]
                            rfl
                          refine take_ (i := 0) (N := some 59) (v := ?_) (a' := ?_) #[true, true, true, true, false, false, false, false, false, false, false] rfl rfl (take_ofW HT_.out HW_.out (by kernel_rfl)) (fun _ _ _ h => h) (Or.inl ⟨by rfl, ?_⟩) hHeld ?_ ?_
                          rotate_left
                          · rintro w' ⟨s0, s1, s2, s3, s4, s5, s6, s7, s8⟩
                            go_simp
                            with_reducible rfl
                          rotate_left
                          · simp only [Act.put, List.setIfInBounds_toArray, List.set_cons_zero, List.set_cons_succ, i64_w, i32_w]
                            rfl
                          refine take_ (i := 4) (N := some 63) (v := ?_) (a' := ?_) #[true, true, true, true, true, false, false, false, false, false, false] rfl rfl (take_ofW HT_.out HW_.out (by kernel_rfl)) (fun _ _ _ h => h) (Or.inl ⟨by rfl, ?_⟩) hHeld ?_ ?_
                          rotate_left
                          · rintro w' ⟨s0, s1, s2, s3, s4, s5, s6, s7, s8⟩
                            go_simp
                            with_reducible rfl
                          rotate_left
                          · simp only [Act.put, List.setIfInBounds_toArray, List.set_cons_zero, List.set_cons_succ, i64_w, i32_w]
                            rfl
                          refine one_ (i := 5) (N := some 64) #[true, true, true, true, true, true, false, false, false, false, false] rfl rfl (one_of HT_.out (by kernel_rfl)) (by decide) (fun K hK => ?_)
                          refine goes_ Tryz.func18 (by kernel_rfl) rfl #[.agg #[.string a0_0, .int .i64 a0_1, .int .i64 a0_2, .int .i64 a0_3, .int .i64 a0_4, .int .i64 a0_5, .int .i64 a0_6, .bool a0_7], .string (rdOf ByteArray.empty y388 x10_2)] (by rfl) rfl rfl (by (try simp only [List.map_toArray, List.map_cons, List.map_nil]); first | done | rfl | (simp only [List.length_drop, List.length_take]; rfl)) ?_
                          with_reducible refine (value_Words.calls a0_0 a0_1 a0_2 a0_3 a0_4 a0_5 a0_6 a0_7 (rdOf ByteArray.empty y388 x10_2) t392 t395 _ (Go.Proofs.YtmkekhjbbapngaaGreatDoor.Val.Laid.below hLd_ (by repeat (first | (with_reducible first | exact HB.out | apply below_alloc | apply pw_below_drewN | apply below_drew1 | refine below_set ?_ GE380.out) | exact HB.out))) A23.out).mono ?_
                          rintro e w27 ⟨v393, rfl, ho0, hb⟩
                          have HS8_ := (hb.cell (World.block_lt_of_cell? _ _ (hHeld.2.2.2.2.2.2.2.2))).trans (hHeld.2.2.2.2.2.2.2.2)
                          refine ⟨_, rfl, ?_⟩
                          have n0_ := Aside0.mk (Kd.R_below (by (with_reducible repeat (first | apply Kd.R_alloc | apply Kd.R_drewN | apply Kd.R_drew)); exact HO_9.out) hb)
                          have n1_ := Aside0.mk (Kd.R_lower ho0 (below_size (by repeat (first | (with_reducible first | exact HB.out | apply below_alloc | apply pw_below_drewN | apply below_drew1 | refine below_set ?_ GE380.out) | exact HB.out))))
                          have n2_ := Aside0.mk (blk_below (g := gb380) (o := .cells #[.string a0_0, .int .i64 a0_1, .int .i64 a0_2, .int .i64 a0_3, .int .i64 a0_4, .int .i64 a0_5, .int .i64 a0_6, .bool a0_7] 23 (0, 0)) (by (with_reducible repeat (first | refine blk_drewN ?_ _ | refine blk_drew ?_ | refine blk_alloc ?_ _)); exact BK380.out) hb)
                          have n3_ := Aside0.mk (below_step (by repeat (first | (with_reducible first | exact HB.out | apply below_alloc | apply pw_below_drewN | apply below_drew1 | refine below_set ?_ GE380.out) | exact HB.out)) hb)
                          clear HO_9
                          clear BK380
                          clear HB
                          have HO_9 := n0_
                          have HO394 := n1_
                          have BK380 := n2_
                          have HB := n3_
                          clear n0_ n1_ n2_ n3_
                          (try clear hb)
                          (try clear hb2)
                          (try clear hk)
                          (try clear hi)
                          (try clear ho0)
                          refine hK.out _ _ ⟨(blk_cell BK380.out 0).trans rfl, (blk_cell BK380.out 1).trans rfl, (blk_cell BK380.out 2).trans rfl, (blk_cell BK380.out 3).trans rfl, (blk_cell BK380.out 4).trans rfl, (blk_cell BK380.out 5).trans rfl, (blk_cell BK380.out 6).trans rfl, (blk_cell BK380.out 7).trans rfl, HS8_⟩ (fun hHeld => ?_)
                          clear hK K
                          refine norm_ (a' := ?_) ?_ ?_
                          rotate_left
                          · show Act.put _ (some 64) _ = _
                            simp only [Act.put, List.setIfInBounds_toArray, List.set_cons_zero, List.set_cons_succ, i64_w, i32_w]
                            rfl
                          refine pure_ (i := 6) (N := some 58) (v := ?_) (a' := ?_) #[true, true, true, true, true, true, true, false, false, false, false] rfl rfl (any_of HT_.out (by kernel_rfl)) (fun _ _ _ h => h) (Or.inl ⟨by rfl, ?_⟩) ?_ ?_
                          rotate_left
                          · intro w'
                            go_simp
                            with_reducible rfl
                          rotate_left
                          · simp only [Act.put, List.setIfInBounds_toArray, List.set_cons_zero, List.set_cons_succ, i64_w, i32_w]
                            rfl
                          refine pure_ (i := 7) (N := some 65) (v := ?_) (a' := ?_) #[true, true, true, true, true, true, true, true, false, false, false] rfl rfl (any_of HT_.out (by kernel_rfl)) (fun _ _ _ h => h) (Or.inl ⟨by rfl, ?_⟩) ?_ ?_
                          rotate_left
                          · intro w'
                            go_simp
                            with_reducible rfl
                          rotate_left
                          · simp only [Act.put, List.setIfInBounds_toArray, List.set_cons_zero, List.set_cons_succ, i64_w, i32_w]
                            rfl
                          refine pure_ (i := 8) (N := some 66) (v := ?_) (a' := ?_) #[true, true, true, true, true, true, true, true, true, false, false] rfl rfl (any_of HT_.out (by kernel_rfl)) (fun _ _ _ h => h) (Or.inl ⟨by rfl, ?_⟩) ?_ ?_
                          rotate_left
                          · intro w'
                            go_simp
                            with_reducible rfl
                          rotate_left
                          · simp only [Act.put, List.setIfInBounds_toArray, List.set_cons_zero, List.set_cons_succ, i64_w, i32_w]
                            rfl
                          refine pure_ (i := 9) (N := some 11) (v := ?_) (a' := ?_) #[true, true, true, true, true, true, true, true, true, true, false] rfl rfl (any_of HT_.out (by kernel_rfl)) (fun _ _ _ h => h) (Or.inl ⟨by rfl, ?_⟩) ?_ ?_
                          rotate_left
                          · intro w'
                            go_simp
                            with_reducible rfl
                          rotate_left
                          · simp only [Act.put, List.setIfInBounds_toArray, List.set_cons_zero, List.set_cons_succ, i64_w, i32_w]
                            rfl
                          refine pure_ (i := 10) (N := some 12) (v := ?_) (a' := ?_) #[true, true, true, true, true, true, true, true, true, true, true] rfl rfl (any_of HT_.out (by kernel_rfl)) (fun _ _ _ h => h) (Or.inl ⟨by rfl, ?_⟩) ?_ ?_
                          rotate_left
                          · intro w'
                            go_simp
                            with_reducible rfl
                          rotate_left
                          · simp only [Act.put, List.setIfInBounds_toArray, List.set_cons_zero, List.set_cons_succ, i64_w, i32_w]
                            rfl
                          refine done_ (done_of HT_.out (by kernel_rfl)) ?_
                          try go_wp2
                          go_roundg k2
                          case measure => have := HJ7.out; have := HK2.out; omega
                          case rel => exact ⟨(wrap64 (x10_2 + 1)), (by first | rfl | (simp; done) | (simp [*]; done)), H', ⟨by have := HJ7.out; have := HK2.out; omega⟩, ⟨by (with_reducible repeat (first | apply Kd.R_alloc | apply Kd.R_drewN | apply Kd.R_drew)); exact HO_9.out⟩, ⟨by (with_reducible repeat (first | refine blk_drewN ?_ _ | refine blk_drew ?_ | refine blk_alloc ?_ _)); exact BK380.out⟩, ⟨by repeat (first | (with_reducible first | exact HB.out | apply below_alloc | apply pw_below_drewN | apply below_drew1 | refine below_set ?_ GE380.out) | exact HB.out)⟩⟩
                        · rw [if_neg c24] at H
                          have c24b0 : (t395 == 4) = false := beq_eq_false_iff_ne.mpr c24
                          have c24b1 : (t395 != 4) = true := bne_iff_ne.mpr c24
                          obtain rfl := Option.some.inj H
                          obtain ⟨Ao28, co28, eo28⟩ := Kd.R_slice HO_9.out
                          subst eo28
                          try go_wp2
                          have n0_ := Aside0.mk (Kd.R_drew HO_9.out)
                          have n1_ := Aside0.mk (blk_drew BK380.out)
                          have n2_ := Aside0.mk (below_drew1 HB.out)
                          clear HO_9
                          clear BK380
                          clear HB
                          have HO_9 := n0_
                          have BK380 := n1_
                          have HB := n2_
                          clear n0_ n1_ n2_
                          have p391 : 0 ≤ (x10_2 : Int) := of_decide_eq_true (by first | (with_reducible assumption) | assumption)
                          have q391 : x10_2 < (y388.length : Int) := of_decide_eq_true (by first | (with_reducible assumption) | assumption)
                          obtain ⟨ad391, e391, hx391_0⟩ := Kd.at_string (Kd.R_reads' HO_9.out).2.2 x10_2 p391 q391
                          cases e391
                          replace p391 := eq_true p391
                          replace q391 := eq_true q391
                          refine start_ (n := 11) (S := fun w' => w'.cell? ⟨gb380, 0, none⟩ = some (.string a0_0) ∧ w'.cell? ⟨gb380, 1, none⟩ = some (.int .i64 a0_1) ∧ w'.cell? ⟨gb380, 2, none⟩ = some (.int .i64 a0_2) ∧ w'.cell? ⟨gb380, 3, none⟩ = some (.int .i64 a0_3) ∧ w'.cell? ⟨gb380, 4, none⟩ = some (.int .i64 a0_4) ∧ w'.cell? ⟨gb380, 5, none⟩ = some (.int .i64 a0_5) ∧ w'.cell? ⟨gb380, 6, none⟩ = some (.int .i64 a0_6) ∧ w'.cell? ⟨gb380, 7, none⟩ = some (.bool a0_7) ∧ w'.cell? (ad391.add (x10_2).toNat) = some (.string (rdOf ByteArray.empty y388 x10_2))) (ds := []) #[false, false, false, false, false, false, false, false, false, false, false] (by kernel_rfl) rfl rfl ⟨(blk_cell BK380.out 0).trans rfl, (blk_cell BK380.out 1).trans rfl, (blk_cell BK380.out 2).trans rfl, (blk_cell BK380.out 3).trans rfl, (blk_cell BK380.out 4).trans rfl, (blk_cell BK380.out 5).trans rfl, (blk_cell BK380.out 6).trans rfl, (blk_cell BK380.out 7).trans rfl, hx391_0⟩ (fun hHeld => ?_); refine with_tabW basculelaw22_ValueAgain.tab13 basculelaw22_ValueAgain.bits13 (fun HT_ HW_ => ?_)
                          generalize wr.drew = w29 at HO_9 BK380 HB hx391_0 hHeld ⊢
                          refine pure_ (i := 1) (N := some 60) (v := ?_) (a' := ?_) #[false, true, false, false, false, false, false, false, false, false, false] rfl rfl (any_of HT_.out (by kernel_rfl)) (fun _ _ _ h => h) (Or.inl ⟨by rfl, ?_⟩) ?_ ?_
                          rotate_left
                          · intro w'
                            go_simp
                            with_reducible rfl
                          rotate_left
                          · simp only [Act.put, List.setIfInBounds_toArray, List.set_cons_zero, List.set_cons_succ, i64_w, i32_w]
                            rfl
                          refine pure_ (i := 2) (N := some 61) (v := ?_) (a' := ?_) #[false, true, true, false, false, false, false, false, false, false, false] rfl rfl (any_of HT_.out (by kernel_rfl)) (fun _ _ _ h => h) (Or.inl ⟨by rfl, ?_⟩) ?_ ?_
                          rotate_left
                          · intro w'
                            go_simp
                            with_reducible rfl
                          rotate_left
                          · simp only [Act.put, List.setIfInBounds_toArray, List.set_cons_zero, List.set_cons_succ, i64_w, i32_w]
                            rfl
                          refine pure_ (i := 3) (N := some 62) (v := ?_) (a' := ?_) #[false, true, true, true, false, false, false, false, false, false, false] rfl rfl (any_of HT_.out (by kernel_rfl)) (fun _ _ _ h => h) (Or.inl ⟨by rfl, ?_⟩) ?_ ?_
                          rotate_left
                          · intro w'
                            go_simp
                            with_reducible rfl
                          rotate_left
                          · simp only [Act.put, List.setIfInBounds_toArray, List.set_cons_zero, List.set_cons_succ, i64_w, i32_w]
                            rfl
                          refine take_ (i := 0) (N := some 59) (v := ?_) (a' := ?_) #[true, true, true, true, false, false, false, false, false, false, false] rfl rfl (take_ofW HT_.out HW_.out (by kernel_rfl)) (fun _ _ _ h => h) (Or.inl ⟨by rfl, ?_⟩) hHeld ?_ ?_
                          rotate_left
                          · rintro w' ⟨s0, s1, s2, s3, s4, s5, s6, s7, s8⟩
                            go_simp
                            with_reducible rfl
                          rotate_left
                          · simp only [Act.put, List.setIfInBounds_toArray, List.set_cons_zero, List.set_cons_succ, i64_w, i32_w]
                            rfl
                          refine take_ (i := 4) (N := some 63) (v := ?_) (a' := ?_) #[true, true, true, true, true, false, false, false, false, false, false] rfl rfl (take_ofW HT_.out HW_.out (by kernel_rfl)) (fun _ _ _ h => h) (Or.inl ⟨by rfl, ?_⟩) hHeld ?_ ?_
                          rotate_left
                          · rintro w' ⟨s0, s1, s2, s3, s4, s5, s6, s7, s8⟩
                            go_simp
                            with_reducible rfl
                          rotate_left
                          · simp only [Act.put, List.setIfInBounds_toArray, List.set_cons_zero, List.set_cons_succ, i64_w, i32_w]
                            rfl
                          refine one_ (i := 5) (N := some 64) #[true, true, true, true, true, true, false, false, false, false, false] rfl rfl (one_of HT_.out (by kernel_rfl)) (by decide) (fun K hK => ?_)
                          refine goes_ Tryz.func18 (by kernel_rfl) rfl #[.agg #[.string a0_0, .int .i64 a0_1, .int .i64 a0_2, .int .i64 a0_3, .int .i64 a0_4, .int .i64 a0_5, .int .i64 a0_6, .bool a0_7], .string (rdOf ByteArray.empty y388 x10_2)] (by rfl) rfl rfl (by (try simp only [List.map_toArray, List.map_cons, List.map_nil]); first | done | rfl | (simp only [List.length_drop, List.length_take]; rfl)) ?_
                          with_reducible refine (value_Words.calls a0_0 a0_1 a0_2 a0_3 a0_4 a0_5 a0_6 a0_7 (rdOf ByteArray.empty y388 x10_2) t392 t395 _ (Go.Proofs.YtmkekhjbbapngaaGreatDoor.Val.Laid.below hLd_ (by repeat (first | (with_reducible first | exact HB.out | apply below_alloc | apply pw_below_drewN | apply below_drew1 | refine below_set ?_ GE380.out) | exact HB.out))) A23.out).mono ?_
                          rintro e w30 ⟨v393, rfl, ho0, hb⟩
                          have HS8_ := (hb.cell (World.block_lt_of_cell? _ _ (hHeld.2.2.2.2.2.2.2.2))).trans (hHeld.2.2.2.2.2.2.2.2)
                          refine ⟨_, rfl, ?_⟩
                          have n0_ := Aside0.mk (Kd.R_below (by (with_reducible repeat (first | apply Kd.R_alloc | apply Kd.R_drewN | apply Kd.R_drew)); exact HO_9.out) hb)
                          have n1_ := Aside0.mk (Kd.R_lower ho0 (below_size (by repeat (first | (with_reducible first | exact HB.out | apply below_alloc | apply pw_below_drewN | apply below_drew1 | refine below_set ?_ GE380.out) | exact HB.out))))
                          have n2_ := Aside0.mk (blk_below (g := gb380) (o := .cells #[.string a0_0, .int .i64 a0_1, .int .i64 a0_2, .int .i64 a0_3, .int .i64 a0_4, .int .i64 a0_5, .int .i64 a0_6, .bool a0_7] 23 (0, 0)) (by (with_reducible repeat (first | refine blk_drewN ?_ _ | refine blk_drew ?_ | refine blk_alloc ?_ _)); exact BK380.out) hb)
                          have n3_ := Aside0.mk (below_step (by repeat (first | (with_reducible first | exact HB.out | apply below_alloc | apply pw_below_drewN | apply below_drew1 | refine below_set ?_ GE380.out) | exact HB.out)) hb)
                          clear HO_9
                          clear BK380
                          clear HB
                          have HO_9 := n0_
                          have HO394 := n1_
                          have BK380 := n2_
                          have HB := n3_
                          clear n0_ n1_ n2_ n3_
                          (try clear hb)
                          (try clear hb2)
                          (try clear hk)
                          (try clear hi)
                          (try clear ho0)
                          refine hK.out _ _ ⟨(blk_cell BK380.out 0).trans rfl, (blk_cell BK380.out 1).trans rfl, (blk_cell BK380.out 2).trans rfl, (blk_cell BK380.out 3).trans rfl, (blk_cell BK380.out 4).trans rfl, (blk_cell BK380.out 5).trans rfl, (blk_cell BK380.out 6).trans rfl, (blk_cell BK380.out 7).trans rfl, HS8_⟩ (fun hHeld => ?_)
                          clear hK K
                          refine norm_ (a' := ?_) ?_ ?_
                          rotate_left
                          · show Act.put _ (some 64) _ = _
                            simp only [Act.put, List.setIfInBounds_toArray, List.set_cons_zero, List.set_cons_succ, i64_w, i32_w]
                            rfl
                          refine pure_ (i := 6) (N := some 58) (v := ?_) (a' := ?_) #[true, true, true, true, true, true, true, false, false, false, false] rfl rfl (any_of HT_.out (by kernel_rfl)) (fun _ _ _ h => h) (Or.inl ⟨by rfl, ?_⟩) ?_ ?_
                          rotate_left
                          · intro w'
                            go_simp
                            with_reducible rfl
                          rotate_left
                          · simp only [Act.put, List.setIfInBounds_toArray, List.set_cons_zero, List.set_cons_succ, i64_w, i32_w]
                            rfl
                          refine pure_ (i := 7) (N := some 65) (v := ?_) (a' := ?_) #[true, true, true, true, true, true, true, true, false, false, false] rfl rfl (any_of HT_.out (by kernel_rfl)) (fun _ _ _ h => h) (Or.inl ⟨by rfl, ?_⟩) ?_ ?_
                          rotate_left
                          · intro w'
                            go_simp
                            with_reducible rfl
                          rotate_left
                          · simp only [Act.put, List.setIfInBounds_toArray, List.set_cons_zero, List.set_cons_succ, i64_w, i32_w]
                            rfl
                          refine pure_ (i := 8) (N := some 66) (v := ?_) (a' := ?_) #[true, true, true, true, true, true, true, true, true, false, false] rfl rfl (any_of HT_.out (by kernel_rfl)) (fun _ _ _ h => h) (Or.inl ⟨by rfl, ?_⟩) ?_ ?_
                          rotate_left
                          · intro w'
                            go_simp
                            with_reducible rfl
                          rotate_left
                          · simp only [Act.put, List.setIfInBounds_toArray, List.set_cons_zero, List.set_cons_succ, i64_w, i32_w]
                            rfl
                          refine pure_ (i := 9) (N := some 11) (v := ?_) (a' := ?_) #[true, true, true, true, true, true, true, true, true, true, false] rfl rfl (any_of HT_.out (by kernel_rfl)) (fun _ _ _ h => h) (Or.inl ⟨by rfl, ?_⟩) ?_ ?_
                          rotate_left
                          · intro w'
                            go_simp
                            with_reducible rfl
                          rotate_left
                          · simp only [Act.put, List.setIfInBounds_toArray, List.set_cons_zero, List.set_cons_succ, i64_w, i32_w]
                            rfl
                          refine pure_ (i := 10) (N := some 12) (v := ?_) (a' := ?_) #[true, true, true, true, true, true, true, true, true, true, true] rfl rfl (any_of HT_.out (by kernel_rfl)) (fun _ _ _ h => h) (Or.inl ⟨by rfl, ?_⟩) ?_ ?_
                          rotate_left
                          · intro w'
                            go_simp
                            with_reducible rfl
                          rotate_left
                          · simp only [Act.put, List.setIfInBounds_toArray, List.set_cons_zero, List.set_cons_succ, i64_w, i32_w]
                            rfl
                          refine done_ (done_of HT_.out (by kernel_rfl)) ?_
                          try go_wp2
                          go_ret
                          exact ⟨by first | rfl | (simp [errW_none, errW_some] <;> rfl) | (simp [*, errW_none, errW_some] <;> rfl), by repeat (first | (with_reducible first | exact HB.out | apply below_alloc | apply pw_below_drewN | apply below_drew1 | refine below_set ?_ GE380.out) | exact HB.out)⟩
                      · rw [if_neg c22] at H
                        exact absurd H (by simp)
                    · rw [if_neg c21] at H
                      have c21b0 : decide (x10_2 < (y388.length : Int)) = false := decide_eq_false c21
                      clear c21
                      replace H := Option.bind_eq_some_iff.mp H
                      obtain ⟨t396, A310, H⟩ := H
                      replace H : (some t396) = some r := H
                      have A31 := Aside0.mk A310
                      clear A310
                      obtain rfl := Option.some.inj H
                      obtain ⟨Ao32, co32, eo32⟩ := Kd.R_slice HO_9.out
                      subst eo32
                      go_wp2_with (first | ((with_reducible refine gate_callee (f := 16) rfl ?_); refine goesL_ (some 69) rfl rfl Tryz.func16 (by kernel_rfl) rfl #[] rfl (by (try simp only [List.map_toArray, List.map_cons, List.map_nil]); first | done | rfl | (simp only [List.length_drop, List.length_take]; rfl)) ?_; (with_reducible refine (basculelaw22_awake.calls k2  t396 _ (Go.Proofs.YtmkekhjbbapngaaGreatDoor.Val.Laid.below hLd_ (by repeat (first | (with_reducible first | exact HB.out | apply below_alloc | apply pw_below_drewN | apply below_drew1 | refine below_set ?_ GE380.out) | exact HB.out))) A31.out).mono ?_); rintro e w33 ⟨rfl, hb⟩; refine ⟨_, rfl, ?_⟩; have n0_ := Aside0.mk (Kd.R_below (by (with_reducible repeat (first | apply Kd.R_alloc | apply Kd.R_drewN | apply Kd.R_drew)); exact HO_9.out) hb); have n1_ := Aside0.mk (blk_below (g := gb380) (o := .cells #[.string a0_0, .int .i64 a0_1, .int .i64 a0_2, .int .i64 a0_3, .int .i64 a0_4, .int .i64 a0_5, .int .i64 a0_6, .bool a0_7] 23 (0, 0)) (by (with_reducible repeat (first | refine blk_drewN ?_ _ | refine blk_drew ?_ | refine blk_alloc ?_ _)); exact BK380.out) hb); have n2_ := Aside0.mk (below_step (by repeat (first | (with_reducible first | exact HB.out | apply below_alloc | apply pw_below_drewN | apply below_drew1 | refine below_set ?_ GE380.out) | exact HB.out)) hb); clear HO_9; clear BK380; clear HB; have HO_9 := n0_; have BK380 := n1_; have HB := n2_; clear n0_ n1_ n2_; (try clear hb); (try clear hb2); (try clear hk); (try clear hi)))
                      go_ret
                      exact ⟨by first | rfl | (simp [errW_none, errW_some] <;> rfl) | (simp [*, errW_none, errW_some] <;> rfl), by repeat (first | (with_reducible first | exact HB.out | apply below_alloc | apply pw_below_drewN | apply below_drew1 | refine below_set ?_ GE380.out) | exact HB.out)⟩
              · rw [if_neg c18] at H
                exact absurd H (by simp)
            · rw [if_neg c17] at H
              exact absurd H (by simp)
    · rw [if_neg c6] at H
      have c6b0 : (t384 == 0) = false := beq_eq_false_iff_ne.mpr c6
      have c6b1 : (t384 != 0) = true := bne_iff_ne.mpr c6
      replace H := Option.bind_eq_some_iff.mp H
      obtain ⟨t385, A340, H⟩ := H
      replace H : (if t385 = true then (some ((t381.length : Int) == 0)) else (some false)) = some r := H
      have A34 := Aside0.mk A340
      clear A340
      by_cases c35 : t385 = true
      · subst c35
        have H1 : (some ((t381.length : Int) == 0)) = some r := by rw [if_pos rfl] at H; exact H
        clear H
        have H := H1
        clear H1
        obtain rfl := Option.some.inj H
        go_enter Tryz.func6, Tryz.ntmps6
        go_wp2_with (first | ((with_reducible refine gate_dst (N := 2) rfl ?_); (try (refine gate_guard (by rfl) ?_; dsimp only)); refine box_event ?hg (N := 2) ?hd (cs := #[.string a0_0, .int .i64 a0_1, .int .i64 a0_2, .int .i64 a0_3, .int .i64 a0_4, .int .i64 a0_5, .int .i64 a0_6, .bool a0_7]) (t := 23) ?hr ?_; (case hd => rfl); (case hg => rfl); (case hr => first | (go_simp; done) | (go_simp; rfl)); intro gb380 hg w36 hbox hb; have n0_ := Aside0.mk (below_step (by repeat (first | (with_reducible first | exact HB.out | apply below_alloc | apply pw_below_drewN | apply below_drew1) | exact HB.out)) hb); have n1_ := Aside0.mk (hbox); have n2_ := Aside0.mk ((by rw [hg]; exact (below_size (by repeat (first | (with_reducible first | exact HB.out | apply below_alloc | apply pw_below_drewN | apply below_drew1) | exact HB.out))) : w.heap.size ≤ gb380)); have n3_ := Aside0.mk ((by rw [hg]; exact (below_size (by repeat (first | (with_reducible first | exact HB.out | apply below_alloc | apply pw_below_drewN | apply below_drew1) | exact HB.out))) : w.heap.size ≤ gb380)); clear HB; have HB := n0_; have BK380 := n1_; have GW380 := n2_; have GE380 := n3_; clear n0_ n1_ n2_ n3_; clear hb hbox hg; have hcz37_0 : w36.cell? ⟨gb380, 0, none⟩ = some (.string a0_0) := (blk_cell BK380.out 0).trans rfl; have hcz37_1 : w36.cell? ⟨gb380, 1, none⟩ = some (.int .i64 a0_1) := (blk_cell BK380.out 1).trans rfl; have hcz37_2 : w36.cell? ⟨gb380, 2, none⟩ = some (.int .i64 a0_2) := (blk_cell BK380.out 2).trans rfl; have hcz37_3 : w36.cell? ⟨gb380, 3, none⟩ = some (.int .i64 a0_3) := (blk_cell BK380.out 3).trans rfl; have hcz37_4 : w36.cell? ⟨gb380, 4, none⟩ = some (.int .i64 a0_4) := (blk_cell BK380.out 4).trans rfl; have hcz37_5 : w36.cell? ⟨gb380, 5, none⟩ = some (.int .i64 a0_5) := (blk_cell BK380.out 5).trans rfl; have hcz37_6 : w36.cell? ⟨gb380, 6, none⟩ = some (.int .i64 a0_6) := (blk_cell BK380.out 6).trans rfl; have hcz37_7 : w36.cell? ⟨gb380, 7, none⟩ = some (.bool a0_7) := (blk_cell BK380.out 7).trans rfl; have hfz37_0 := blk_frozen BK380.out 0; have hfz37_1 := blk_frozen BK380.out 1; have hfz37_2 := blk_frozen BK380.out 2; have hfz37_3 := blk_frozen BK380.out 3; have hfz37_4 := blk_frozen BK380.out 4; have hfz37_5 := blk_frozen BK380.out 5; have hfz37_6 := blk_frozen BK380.out 6; have hfz37_7 := blk_frozen BK380.out 7) | ((with_reducible refine gate_callee (f := 18) rfl ?_); refine goesL_ (some 19) rfl rfl Tryz.func18 (by kernel_rfl) rfl #[.agg #[.string a0_0, .int .i64 a0_1, .int .i64 a0_2, .int .i64 a0_3, .int .i64 a0_4, .int .i64 a0_5, .int .i64 a0_6, .bool a0_7], .string a1] rfl (by (try simp only [List.map_toArray, List.map_cons, List.map_nil]); first | done | rfl | (simp only [List.length_drop, List.length_take]; rfl)) ?_; (with_reducible refine (value_Words.calls a0_0 a0_1 a0_2 a0_3 a0_4 a0_5 a0_6 a0_7 a1 t381 t384 _ (Go.Proofs.YtmkekhjbbapngaaGreatDoor.Val.Laid.below hLd_ (by repeat (first | (with_reducible first | exact HB.out | apply below_alloc | apply pw_below_drewN | apply below_drew1 | refine below_set ?_ GE380.out) | exact HB.out))) A5.out).mono ?_); rintro e w38 ⟨v382, rfl, ho0, hb⟩; refine ⟨_, rfl, ?_⟩; have n0_ := Aside0.mk (Kd.R_lower ho0 (below_size (by repeat (first | (with_reducible first | exact HB.out | apply below_alloc | apply pw_below_drewN | apply below_drew1 | refine below_set ?_ GE380.out) | exact HB.out)))); have n1_ := Aside0.mk (blk_below (g := gb380) (o := .cells #[.string a0_0, .int .i64 a0_1, .int .i64 a0_2, .int .i64 a0_3, .int .i64 a0_4, .int .i64 a0_5, .int .i64 a0_6, .bool a0_7] 23 (0, 0)) (by (with_reducible repeat (first | refine blk_drewN ?_ _ | refine blk_drew ?_ | refine blk_alloc ?_ _)); exact BK380.out) hb); have n2_ := Aside0.mk (below_step (by repeat (first | (with_reducible first | exact HB.out | apply below_alloc | apply pw_below_drewN | apply below_drew1 | refine below_set ?_ GE380.out) | exact HB.out)) hb); clear BK380; clear HB; have HO383 := n0_; have BK380 := n1_; have HB := n2_; clear n0_ n1_ n2_; (try clear hb); (try clear hb2); (try clear hk); (try clear hi); (try clear ho0)) | ((with_reducible refine gate_callee (f := 16) rfl ?_); refine goesL_ (some 24) rfl rfl Tryz.func16 (by kernel_rfl) rfl #[] rfl (by (try simp only [List.map_toArray, List.map_cons, List.map_nil]); first | done | rfl | (simp only [List.length_drop, List.length_take]; rfl)) ?_; (with_reducible refine (basculelaw22_awake.calls k  true _ (Go.Proofs.YtmkekhjbbapngaaGreatDoor.Val.Laid.below hLd_ (by repeat (first | (with_reducible first | exact HB.out | apply below_alloc | apply pw_below_drewN | apply below_drew1 | refine below_set ?_ GE380.out) | exact HB.out))) A34.out).mono ?_); rintro e w39 ⟨rfl, hb⟩; refine ⟨_, rfl, ?_⟩; have n0_ := Aside0.mk (Kd.R_below (by (with_reducible repeat (first | apply Kd.R_alloc | apply Kd.R_drewN | apply Kd.R_drew)); exact HO383.out) hb); have n1_ := Aside0.mk (blk_below (g := gb380) (o := .cells #[.string a0_0, .int .i64 a0_1, .int .i64 a0_2, .int .i64 a0_3, .int .i64 a0_4, .int .i64 a0_5, .int .i64 a0_6, .bool a0_7] 23 (0, 0)) (by (with_reducible repeat (first | refine blk_drewN ?_ _ | refine blk_drew ?_ | refine blk_alloc ?_ _)); exact BK380.out) hb); have n2_ := Aside0.mk (below_step (by repeat (first | (with_reducible first | exact HB.out | apply below_alloc | apply pw_below_drewN | apply below_drew1 | refine below_set ?_ GE380.out) | exact HB.out)) hb); clear HO383; clear BK380; clear HB; have HO383 := n0_; have BK380 := n1_; have HB := n2_; clear n0_ n1_ n2_; (try clear hb); (try clear hb2); (try clear hk); (try clear hi); obtain ⟨Ao40, co40, eo40⟩ := Kd.R_slice HO383.out; subst eo40))
        go_ret
        exact ⟨by first | rfl | (simp [errW_none, errW_some] <;> rfl) | (simp [*, errW_none, errW_some] <;> rfl), by repeat (first | (with_reducible first | exact HB.out | apply below_alloc | apply pw_below_drewN | apply below_drew1 | refine below_set ?_ GE380.out) | exact HB.out)⟩
      · replace c35 := Bool.eq_false_iff.mpr c35
        subst c35
        have H1 : (some false) = some r := by rw [if_neg (show ¬ (false = true) by decide)] at H; exact H
        clear H
        have H := H1
        clear H1
        obtain rfl := Option.some.inj H
        go_enter Tryz.func6, Tryz.ntmps6
        go_wp2_with (first | ((with_reducible refine gate_dst (N := 2) rfl ?_); (try (refine gate_guard (by rfl) ?_; dsimp only)); refine box_event ?hg (N := 2) ?hd (cs := #[.string a0_0, .int .i64 a0_1, .int .i64 a0_2, .int .i64 a0_3, .int .i64 a0_4, .int .i64 a0_5, .int .i64 a0_6, .bool a0_7]) (t := 23) ?hr ?_; (case hd => rfl); (case hg => rfl); (case hr => first | (go_simp; done) | (go_simp; rfl)); intro gb380 hg w41 hbox hb; have n0_ := Aside0.mk (below_step (by repeat (first | (with_reducible first | exact HB.out | apply below_alloc | apply pw_below_drewN | apply below_drew1) | exact HB.out)) hb); have n1_ := Aside0.mk (hbox); have n2_ := Aside0.mk ((by rw [hg]; exact (below_size (by repeat (first | (with_reducible first | exact HB.out | apply below_alloc | apply pw_below_drewN | apply below_drew1) | exact HB.out))) : w.heap.size ≤ gb380)); have n3_ := Aside0.mk ((by rw [hg]; exact (below_size (by repeat (first | (with_reducible first | exact HB.out | apply below_alloc | apply pw_below_drewN | apply below_drew1) | exact HB.out))) : w.heap.size ≤ gb380)); clear HB; have HB := n0_; have BK380 := n1_; have GW380 := n2_; have GE380 := n3_; clear n0_ n1_ n2_ n3_; clear hb hbox hg; have hcz42_0 : w41.cell? ⟨gb380, 0, none⟩ = some (.string a0_0) := (blk_cell BK380.out 0).trans rfl; have hcz42_1 : w41.cell? ⟨gb380, 1, none⟩ = some (.int .i64 a0_1) := (blk_cell BK380.out 1).trans rfl; have hcz42_2 : w41.cell? ⟨gb380, 2, none⟩ = some (.int .i64 a0_2) := (blk_cell BK380.out 2).trans rfl; have hcz42_3 : w41.cell? ⟨gb380, 3, none⟩ = some (.int .i64 a0_3) := (blk_cell BK380.out 3).trans rfl; have hcz42_4 : w41.cell? ⟨gb380, 4, none⟩ = some (.int .i64 a0_4) := (blk_cell BK380.out 4).trans rfl; have hcz42_5 : w41.cell? ⟨gb380, 5, none⟩ = some (.int .i64 a0_5) := (blk_cell BK380.out 5).trans rfl; have hcz42_6 : w41.cell? ⟨gb380, 6, none⟩ = some (.int .i64 a0_6) := (blk_cell BK380.out 6).trans rfl; have hcz42_7 : w41.cell? ⟨gb380, 7, none⟩ = some (.bool a0_7) := (blk_cell BK380.out 7).trans rfl; have hfz42_0 := blk_frozen BK380.out 0; have hfz42_1 := blk_frozen BK380.out 1; have hfz42_2 := blk_frozen BK380.out 2; have hfz42_3 := blk_frozen BK380.out 3; have hfz42_4 := blk_frozen BK380.out 4; have hfz42_5 := blk_frozen BK380.out 5; have hfz42_6 := blk_frozen BK380.out 6; have hfz42_7 := blk_frozen BK380.out 7) | ((with_reducible refine gate_callee (f := 18) rfl ?_); refine goesL_ (some 19) rfl rfl Tryz.func18 (by kernel_rfl) rfl #[.agg #[.string a0_0, .int .i64 a0_1, .int .i64 a0_2, .int .i64 a0_3, .int .i64 a0_4, .int .i64 a0_5, .int .i64 a0_6, .bool a0_7], .string a1] rfl (by (try simp only [List.map_toArray, List.map_cons, List.map_nil]); first | done | rfl | (simp only [List.length_drop, List.length_take]; rfl)) ?_; (with_reducible refine (value_Words.calls a0_0 a0_1 a0_2 a0_3 a0_4 a0_5 a0_6 a0_7 a1 t381 t384 _ (Go.Proofs.YtmkekhjbbapngaaGreatDoor.Val.Laid.below hLd_ (by repeat (first | (with_reducible first | exact HB.out | apply below_alloc | apply pw_below_drewN | apply below_drew1 | refine below_set ?_ GE380.out) | exact HB.out))) A5.out).mono ?_); rintro e w43 ⟨v382, rfl, ho0, hb⟩; refine ⟨_, rfl, ?_⟩; have n0_ := Aside0.mk (Kd.R_lower ho0 (below_size (by repeat (first | (with_reducible first | exact HB.out | apply below_alloc | apply pw_below_drewN | apply below_drew1 | refine below_set ?_ GE380.out) | exact HB.out)))); have n1_ := Aside0.mk (blk_below (g := gb380) (o := .cells #[.string a0_0, .int .i64 a0_1, .int .i64 a0_2, .int .i64 a0_3, .int .i64 a0_4, .int .i64 a0_5, .int .i64 a0_6, .bool a0_7] 23 (0, 0)) (by (with_reducible repeat (first | refine blk_drewN ?_ _ | refine blk_drew ?_ | refine blk_alloc ?_ _)); exact BK380.out) hb); have n2_ := Aside0.mk (below_step (by repeat (first | (with_reducible first | exact HB.out | apply below_alloc | apply pw_below_drewN | apply below_drew1 | refine below_set ?_ GE380.out) | exact HB.out)) hb); clear BK380; clear HB; have HO383 := n0_; have BK380 := n1_; have HB := n2_; clear n0_ n1_ n2_; (try clear hb); (try clear hb2); (try clear hk); (try clear hi); (try clear ho0)) | ((with_reducible refine gate_callee (f := 16) rfl ?_); refine goesL_ (some 24) rfl rfl Tryz.func16 (by kernel_rfl) rfl #[] rfl (by (try simp only [List.map_toArray, List.map_cons, List.map_nil]); first | done | rfl | (simp only [List.length_drop, List.length_take]; rfl)) ?_; (with_reducible refine (basculelaw22_awake.calls k  false _ (Go.Proofs.YtmkekhjbbapngaaGreatDoor.Val.Laid.below hLd_ (by repeat (first | (with_reducible first | exact HB.out | apply below_alloc | apply pw_below_drewN | apply below_drew1 | refine below_set ?_ GE380.out) | exact HB.out))) A34.out).mono ?_); rintro e w44 ⟨rfl, hb⟩; refine ⟨_, rfl, ?_⟩; have n0_ := Aside0.mk (Kd.R_below (by (with_reducible repeat (first | apply Kd.R_alloc | apply Kd.R_drewN | apply Kd.R_drew)); exact HO383.out) hb); have n1_ := Aside0.mk (blk_below (g := gb380) (o := .cells #[.string a0_0, .int .i64 a0_1, .int .i64 a0_2, .int .i64 a0_3, .int .i64 a0_4, .int .i64 a0_5, .int .i64 a0_6, .bool a0_7] 23 (0, 0)) (by (with_reducible repeat (first | refine blk_drewN ?_ _ | refine blk_drew ?_ | refine blk_alloc ?_ _)); exact BK380.out) hb); have n2_ := Aside0.mk (below_step (by repeat (first | (with_reducible first | exact HB.out | apply below_alloc | apply pw_below_drewN | apply below_drew1 | refine below_set ?_ GE380.out) | exact HB.out)) hb); clear HO383; clear BK380; clear HB; have HO383 := n0_; have BK380 := n1_; have HB := n2_; clear n0_ n1_ n2_; (try clear hb); (try clear hb2); (try clear hk); (try clear hi)))
        go_ret
        exact ⟨by first | rfl | (simp [errW_none, errW_some] <;> rfl) | (simp [*, errW_none, errW_some] <;> rfl), by repeat (first | (with_reducible first | exact HB.out | apply below_alloc | apply pw_below_drewN | apply below_drew1 | refine below_set ?_ GE380.out) | exact HB.out)⟩
end Go.Proofs.YtmkekhjbbapngaaGreatDoor.Q
namespace Go.Proofs.YtmkekhjbbapngaaGreatDoor.Q
open Go.RowKit Go.Proofs.YtmkekhjbbapngaaGreatDoorW.PrintWords Go.Proofs.YtmkekhjbbapngaaGreatDoorW.PrintLast Go.Proofs.YtmkekhjbbapngaaGreatDoorW.PrintMore
set_option linter.unusedVariables false
def basculelaw22_ValueAgain.Pure : Prop := ∀ (a0_0 : ByteArray) (a0_1 a0_2 a0_3 a0_4 a0_5 a0_6 : Int) (a0_7 : Bool) (a1 : ByteArray), (Lit.int .i64 a0_1).wf = true → (Lit.int .i64 a0_2).wf = true → (Lit.int .i64 a0_3).wf = true → (Lit.int .i64 a0_4).wf = true → (Lit.int .i64 a0_5).wf = true → (Lit.int .i64 a0_6).wf = true → a1.size ≤ 140737488351232 → ∃ k, basculelaw22_ValueAgain.f k a0_0 a0_1 a0_2 a0_3 a0_4 a0_5 a0_6 a0_7 a1 = some true
theorem basculelaw22_ValueAgain.walk (P : basculelaw22_ValueAgain.Pure) (a0_0 : ByteArray) (a0_1 a0_2 a0_3 a0_4 a0_5 a0_6 : Int) (a0_7 : Bool) (a1 : ByteArray) (w : World) (hLd_ : Go.Proofs.YtmkekhjbbapngaaGreatDoor.Val.Laid w) (w0_1 : (Lit.int .i64 a0_1).wf = true) (w0_2 : (Lit.int .i64 a0_2).wf = true) (w0_3 : (Lit.int .i64 a0_3).wf = true) (w0_4 : (Lit.int .i64 a0_4).wf = true) (w0_5 : (Lit.int .i64 a0_5).wf = true) (w0_6 : (Lit.int .i64 a0_6).wf = true) (w1 : a1.size ≤ 140737488351232) :
    Calls Tryz.prog 6 #[.agg #[.string a0_0, .int .i64 a0_1, .int .i64 a0_2, .int .i64 a0_3, .int .i64 a0_4, .int .i64 a0_5, .int .i64 a0_6, .bool a0_7], .string a1] w fun e w' => e = .returned (.bool true) ∧ Below w.heap.size w w' := by
  obtain ⟨k, h⟩ := P a0_0 a0_1 a0_2 a0_3 a0_4 a0_5 a0_6 a0_7 a1 w0_1 w0_2 w0_3 w0_4 w0_5 w0_6 w1
  refine (basculelaw22_ValueAgain.calls k a0_0 a0_1 a0_2 a0_3 a0_4 a0_5 a0_6 a0_7 a1 true w  hLd_ h).mono ?_
  rintro e w' ⟨rfl, hd⟩
  exact ⟨rfl, hd⟩
end Go.Proofs.YtmkekhjbbapngaaGreatDoor.Q
