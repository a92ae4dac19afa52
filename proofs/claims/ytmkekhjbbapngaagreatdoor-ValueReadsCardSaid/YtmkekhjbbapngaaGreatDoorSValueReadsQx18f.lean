/- Qx18f -/
import Derived.Test.YtmkekhjbbapngaaGreatDoorSValueReadsValW
import Derived.Test.YtmkekhjbbapngaaGreatDoorSValueReadsValD
namespace Go.Proofs.YtmkekhjbbapngaaGreatDoor.Q
open Go.RowKit YtmkekhjbbapngaaGreatDoorW.PrintWords YtmkekhjbbapngaaGreatDoorW.PrintLast YtmkekhjbbapngaaGreatDoorW.PrintMore
attribute [local go_sem] max2_int min2_int max_two min_two
set_option linter.all false
theorem zQx18fa0_ {P_ : Prop} (h_ : P_ := by repeat (first | (with_reducible first | exact HB.out | apply below_alloc | apply pw_below_drewN | apply below_drew1) | exact HB.out)) : P_ := h_
def basculelaw22_row.f (a0 : Int) (a1 : Int) (a2 : Int) : Option (ByteArray × Int × Int × Int × Int × Int × Int × Bool) := some ((⟨#[97]⟩ : ByteArray), 1, 3, 0, a0, a1, a2, false)
set_option maxHeartbeats 8000000 in
set_option maxRecDepth 100000 in
theorem basculelaw22_row.calls (a0 : Int) (a1 : Int) (a2 : Int) (r1 : ByteArray) (r2 : Int) (r3 : Int) (r4 : Int) (r5 : Int) (r6 : Int) (r7 : Int) (r8 : Bool) (w : World) (h : basculelaw22_row.f a0 a1 a2 = some (r1, r2, r3, r4, r5, r6, r7, r8)) :
    Calls Tryz.prog 22 #[.int .i64 a0, .int .i64 a1, .int .i64 a2] w fun e w' => e = .returned (.agg #[.string r1, .int .i64 r2, .int .i64 r3, .int .i64 r4, .int .i64 r5, .int .i64 r6, .int .i64 r7, .bool r8]) ∧ Below w.heap.size w w' := by
  have hu23 := Tryz.underlying23
  have HB := Aside0.mk (Below.refl w.heap.size w)
  have H : (some ((⟨#[97]⟩ : ByteArray), 1, 3, 0, a0, a1, a2, false)) = some (r1, r2, r3, r4, r5, r6, r7, r8) := h
  clear h
  simp only [Option.some.injEq, Prod.mk.injEq] at H
  obtain ⟨rfl, rfl, rfl, rfl, rfl, rfl, rfl, rfl⟩ := H
  go_enter Tryz.func22, Tryz.ntmps22
  go_wp2_with (first | ((with_reducible refine gate_dst (N := 6) rfl ?_); refine box_event ?hg (N := 6) ?hd (cs := #[.string (⟨#[]⟩ : ByteArray), .int .i64 0, .int .i64 0, .int .i64 0, .int .i64 0, .int .i64 0, .int .i64 0, .bool false]) (t := 23) ?hr ?_; (case hd => rfl); (case hg => rfl); (case hr => first | (go_simp; done) | (go_simp; rfl)); intro gb217 hg w4 hbox hb; have n0_ := Aside0.mk (below_step zQx18fa0_ hb); have n1_ := Aside0.mk (hbox); have n2_ := Aside0.mk ((by rw [hg]; exact (below_size zQx18fa0_) : w.heap.size ≤ gb217)); have n3_ := Aside0.mk ((by rw [hg]; exact (below_size zQx18fa0_) : w.heap.size ≤ gb217)); clear HB; have HB := n0_; have BK217 := n1_; have GW217 := n2_; have GE217 := n3_; clear n0_ n1_ n2_ n3_; clear hb hbox hg; have hcz5_0 : w4.cell? ⟨gb217, 0, none⟩ = some (.string (⟨#[]⟩ : ByteArray)) := (blk_cell BK217.out 0).trans rfl; have hcz5_1 : w4.cell? ⟨gb217, 1, none⟩ = some (.int .i64 0) := (blk_cell BK217.out 1).trans rfl; have hcz5_2 : w4.cell? ⟨gb217, 2, none⟩ = some (.int .i64 0) := (blk_cell BK217.out 2).trans rfl; have hcz5_3 : w4.cell? ⟨gb217, 3, none⟩ = some (.int .i64 0) := (blk_cell BK217.out 3).trans rfl; have hcz5_4 : w4.cell? ⟨gb217, 4, none⟩ = some (.int .i64 0) := (blk_cell BK217.out 4).trans rfl; have hcz5_5 : w4.cell? ⟨gb217, 5, none⟩ = some (.int .i64 0) := (blk_cell BK217.out 5).trans rfl; have hcz5_6 : w4.cell? ⟨gb217, 6, none⟩ = some (.int .i64 0) := (blk_cell BK217.out 6).trans rfl; have hcz5_7 : w4.cell? ⟨gb217, 7, none⟩ = some (.bool false) := (blk_cell BK217.out 7).trans rfl; have hfz5_0 := blk_frozen BK217.out 0; have hfz5_1 := blk_frozen BK217.out 1; have hfz5_2 := blk_frozen BK217.out 2; have hfz5_3 := blk_frozen BK217.out 3; have hfz5_4 := blk_frozen BK217.out 4; have hfz5_5 := blk_frozen BK217.out 5; have hfz5_6 := blk_frozen BK217.out 6; have hfz5_7 := blk_frozen BK217.out 7))
  refine bodyPost_ret (results_cell_row rfl _ _ gb217 23 #[.string (⟨#[97]⟩ : ByteArray), .int .i64 1, .int .i64 3, .int .i64 0, .int .i64 a0, .int .i64 a1, .int .i64 a2, .bool false] (0, 0) _ rfl (by (with_reducible repeat (first | refine blk_drewN ?_ _ | refine blk_drew ?_ | refine blk_alloc ?_ _)); refine blk_put (cs := #[.string (⟨#[97]⟩ : ByteArray), .int .i64 1, .int .i64 3, .int .i64 0, .int .i64 a0, .int .i64 a1, .int .i64 a2, .bool false]) ?_ 7 _ rfl; (with_reducible repeat (first | refine blk_drewN ?_ _ | refine blk_drew ?_ | refine blk_alloc ?_ _)); refine blk_put (cs := #[.string (⟨#[97]⟩ : ByteArray), .int .i64 1, .int .i64 3, .int .i64 0, .int .i64 a0, .int .i64 a1, .int .i64 0, .bool false]) ?_ 6 _ rfl; (with_reducible repeat (first | refine blk_drewN ?_ _ | refine blk_drew ?_ | refine blk_alloc ?_ _)); refine blk_put (cs := #[.string (⟨#[97]⟩ : ByteArray), .int .i64 1, .int .i64 3, .int .i64 0, .int .i64 a0, .int .i64 0, .int .i64 0, .bool false]) ?_ 5 _ rfl; (with_reducible repeat (first | refine blk_drewN ?_ _ | refine blk_drew ?_ | refine blk_alloc ?_ _)); refine blk_put (cs := #[.string (⟨#[97]⟩ : ByteArray), .int .i64 1, .int .i64 3, .int .i64 0, .int .i64 0, .int .i64 0, .int .i64 0, .bool false]) ?_ 4 _ rfl; (with_reducible repeat (first | refine blk_drewN ?_ _ | refine blk_drew ?_ | refine blk_alloc ?_ _)); refine blk_put (cs := #[.string (⟨#[97]⟩ : ByteArray), .int .i64 1, .int .i64 3, .int .i64 0, .int .i64 0, .int .i64 0, .int .i64 0, .bool false]) ?_ 3 _ rfl; (with_reducible repeat (first | refine blk_drewN ?_ _ | refine blk_drew ?_ | refine blk_alloc ?_ _)); refine blk_put (cs := #[.string (⟨#[97]⟩ : ByteArray), .int .i64 1, .int .i64 0, .int .i64 0, .int .i64 0, .int .i64 0, .int .i64 0, .bool false]) ?_ 2 _ rfl; (with_reducible repeat (first | refine blk_drewN ?_ _ | refine blk_drew ?_ | refine blk_alloc ?_ _)); refine blk_put (cs := #[.string (⟨#[97]⟩ : ByteArray), .int .i64 0, .int .i64 0, .int .i64 0, .int .i64 0, .int .i64 0, .int .i64 0, .bool false]) ?_ 1 _ rfl; (with_reducible repeat (first | refine blk_drewN ?_ _ | refine blk_drew ?_ | refine blk_alloc ?_ _)); refine blk_put (cs := #[.string (⟨#[]⟩ : ByteArray), .int .i64 0, .int .i64 0, .int .i64 0, .int .i64 0, .int .i64 0, .int .i64 0, .bool false]) ?_ 0 _ rfl; (with_reducible repeat (first | refine blk_drewN ?_ _ | refine blk_drew ?_ | refine blk_alloc ?_ _)); exact BK217.out) Tryz.underlying23 rfl (by kernel_rfl)) rfl ?_
  exact ⟨by first | rfl | (simp [errW_none, errW_some] <;> rfl) | (simp [*, errW_none, errW_some] <;> rfl), by repeat (first | (with_reducible first | exact HB.out | apply below_alloc | apply pw_below_drewN | apply below_drew1 | refine below_set ?_ GE217.out) | exact HB.out)⟩
def basculelaw22_awake.f (k : Nat)  : Option (Bool) := (basculelaw22_row.f 3 1 0).bind fun bt218 => ((value_Text.f bt218.1 bt218.2.1 bt218.2.2.1 bt218.2.2.2.1 bt218.2.2.2.2.1 bt218.2.2.2.2.2.1 bt218.2.2.2.2.2.2.1 bt218.2.2.2.2.2.2.2 (([65531] : List Int))).bind fun bt229 => ((basculelaw22_row.f 6 0 0).bind fun bt231 => ((value_Text.f bt231.1 bt231.2.1 bt231.2.2.1 bt231.2.2.2.1 bt231.2.2.2.2.1 bt231.2.2.2.2.2.1 bt231.2.2.2.2.2.2.1 bt231.2.2.2.2.2.2.2 (([1, 2] : List Int))).bind fun bt242 => ((basculelaw22_row.f 3 1 0).bind fun bt244 => ((value_Words.f bt244.1 bt244.2.1 bt244.2.2.1 bt244.2.2.2.1 bt244.2.2.2.2.1 bt244.2.2.2.2.2.1 bt244.2.2.2.2.2.2.1 bt244.2.2.2.2.2.2.2 (⟨#[45, 48, 46, 53]⟩ : ByteArray)).bind fun bt252 => ((basculelaw22_row.f 3 1 0).bind fun bt256 => ((value_Words.f bt256.1 bt256.2.1 bt256.2.2.1 bt256.2.2.2.1 bt256.2.2.2.2.1 bt256.2.2.2.2.2.1 bt256.2.2.2.2.2.2.1 bt256.2.2.2.2.2.2.2 (⟨#[51, 50, 55, 54, 46, 56]⟩ : ByteArray)).bind fun bt264 => ((basculelaw22_row.f 2 0 5).bind fun bt268 => ((value_Apart.f bt268.1 bt268.2.1 bt268.2.2.1 bt268.2.2.2.1 bt268.2.2.2.2.1 bt268.2.2.2.2.2.1 bt268.2.2.2.2.2.2.1 bt268.2.2.2.2.2.2.2 (([10] : List Int)) (([15] : List Int))).bind fun bt282 => (if bt229.1.toList = ([45, 48, 46, 53] : List UInt8) then (if bt229.2 = 0 then (if bt242.1.toList = ([49, 51, 49, 48, 55, 51] : List UInt8) then (if bt242.2 = 0 then ((basculeref01_Ints.f k bt252.1 (([65531] : List Int))).bind fun t287 => (if t287 = true then (if bt252.2 = 0 then (if bt264.2 = 220 then (if bt282.1 = true then (some (bt282.2 == 0)) else (some false)) else (some false)) else (some false)) else (some false))) else (some false)) else (some false)) else (some false)) else (some false)))))))))))
theorem basculelaw22_awake.mono : ∀ k, LeO (basculelaw22_awake.f k ) (basculelaw22_awake.f (k + 1) ) := by
  intro  k
  unfold basculelaw22_awake.f
  repeat' first
      | (with_reducible first | exact basculeref01_Ints.mono _ _ _ | exact LeO.refl _ | exact LeO.none _ | refine LeO.ite ?_ ?_ | refine LeO.bind ?_ (fun _ => ?_))
end Go.Proofs.YtmkekhjbbapngaaGreatDoor.Q
set_option linter.all false
namespace Go.Proofs.YtmkekhjbbapngaaGreatDoor.Q
open Go.RowKit Go.Proofs.YtmkekhjbbapngaaGreatDoor.Val YtmkekhjbbapngaaGreatDoorW.PrintWords
theorem name_a : namedB ⟨#[97]⟩ = true := by decide +kernel
theorem row_law (kd s d : Int) : rowB ⟨#[97]⟩ 1 3 0 kd s d false = Tab.rangeB 1 3 0 kd s d false := by
  unfold rowB
  rw [name_a, Bool.true_and]
theorem dec1 (u : Nat) (h : u < 10) : Lib.decDigits u = [UInt8.ofNat (48 + u)] := by rw [Lib.decDigits, dif_pos h]
theorem dec2 (u : Nat) (h : ¬ u < 10) : Lib.decDigits u = Lib.decDigits (u / 10) ++ [UInt8.ofNat (48 + u % 10)] := by rw [Lib.decDigits, dif_neg h]
theorem may1 : mayB ⟨#[97]⟩ 1 3 0 3 1 0 false [65531] = true := by unfold mayB; rw [row_law]; decide +kernel
theorem may2 : mayB ⟨#[97]⟩ 1 3 0 6 0 0 false [1, 2] = true := by unfold mayB; rw [row_law]; decide +kernel
theorem may3 : mayB ⟨#[97]⟩ 1 3 0 2 0 5 false [10] = true := by unfold mayB; rw [row_law]; decide +kernel
theorem may4 : mayB ⟨#[97]⟩ 1 3 0 2 0 5 false [15] = true := by unfold mayB; rw [row_law]; decide +kernel
theorem text1 : textR ⟨#[97]⟩ 1 3 0 3 1 0 false [65531] = ⟨#[45, 48, 46, 53]⟩ := by
  unfold textR
  rw [may1, if_pos rfl]
  have e : numOf 3 [65531] = (true, 5) := by decide +kernel
  unfold textL
  rw [if_neg (by decide), if_neg (by decide), e]
  unfold pointL padL
  rw [dec1 5 (by decide)]
  rfl
theorem text2 : textR ⟨#[97]⟩ 1 3 0 6 0 0 false [1, 2] = ⟨#[49, 51, 49, 48, 55, 51]⟩ := by
  unfold textR
  rw [may2, if_pos rfl]
  have e : numOf 6 [1, 2] = (false, 131073) := by decide +kernel
  unfold textL
  rw [if_neg (by decide), if_neg (by decide), e]
  have e2 : Lib.decDigits 131073 = [49, 51, 49, 48, 55, 51] := by
    rw [dec2 131073 (by decide), show 131073 / 10 = 13107 by decide, dec2 13107 (by decide), show 13107 / 10 = 1310 by decide, dec2 1310 (by decide), show 1310 / 10 = 131 by decide, dec2 131 (by decide), show 131 / 10 = 13 by decide, dec2 13 (by decide), show 13 / 10 = 1 by decide, dec1 1 (by decide)]
    decide +kernel
  unfold pointL
  simp only [Int.toNat_zero, if_true, Bool.false_eq_true, if_false, List.nil_append, e2]
theorem words1 : wordsRE ⟨#[97]⟩ 1 3 0 3 1 0 false ⟨#[45, 48, 46, 53]⟩ = ([65531], 0) := by
  unfold wordsRE
  rw [row_law, show Tab.rangeB 1 3 0 3 1 0 false = true by decide, if_pos rfl, if_neg (by decide)]
  have e1 : plainP (⟨#[45, 48, 46, 53]⟩ : ByteArray).data.toList 1 = ([48, 53], true, true) := by decide +kernel
  rw [e1]
  have e2 : Lib.parseUintB 64 [48, 53] = .ok 5 := by rfl
  simp only [e2]
  have e3 : wordsN 3 true 5 = ([65531], true) := by decide +kernel
  rw [e3]
  unfold finL finE
  rw [may1, text1, decide_eq_true rfl]
  simp
theorem words2 : wordsRE ⟨#[97]⟩ 1 3 0 3 1 0 false ⟨#[51, 50, 55, 54, 46, 56]⟩ = ([], 220) := by
  unfold wordsRE
  rw [row_law, show Tab.rangeB 1 3 0 3 1 0 false = true by decide, if_pos rfl, if_neg (by decide)]
  have e1 : plainP (⟨#[51, 50, 55, 54, 46, 56]⟩ : ByteArray).data.toList 1 = ([48, 51, 50, 55, 54, 56], false, true) := by decide +kernel
  rw [e1]
  have e2 : Lib.parseUintB 64 [48, 51, 50, 55, 54, 56] = .ok 32768 := by rfl
  simp only [e2]
  have e3 : wordsN 3 false 32768 = ([], false) := by decide +kernel
  rw [e3]
  rfl
theorem apart1 : apartR ⟨#[97]⟩ 1 3 0 2 0 5 false [10] [15] = true := by
  unfold apartR
  rw [may3, may4]
  decide +kernel
theorem ints1 (k : Nat) : basculeref01_Ints.f (k + 3) [65531] [65531] = some true := by
  have w : wrap64 (0 + 1) = 1 := by unfold wrap64; decide
  unfold basculeref01_Ints.f
  rw [if_pos rfl]
  show (if (0 : Int) < 1 then (if (0 : Int) ≤ 0 then (if (0 : Int) < 1 then (if (65531 : Int) = 65531 then basculeref01_Ints.l0 (k + 2) [65531] [65531] (wrap64 (0 + 1)) else some false) else none) else none) else some true) = _
  rw [if_pos (by decide), if_pos (by decide), if_pos (by decide), if_pos rfl, w]
  show (if (1 : Int) < 1 then _ else some true) = _
  rw [if_neg (by decide)]
theorem t1 : value_Text.f ⟨#[97]⟩ 1 3 0 3 1 0 false [65531] = some (⟨#[45, 48, 46, 53]⟩, 0) := by unfold value_Text.f; rw [if_pos (by simp), text1, may1]; rfl
theorem t2 : value_Text.f ⟨#[97]⟩ 1 3 0 6 0 0 false [1, 2] = some (⟨#[49, 51, 49, 48, 55, 51]⟩, 0) := by unfold value_Text.f; rw [if_pos (by simp), text2, may2]; rfl
theorem w1 : value_Words.f ⟨#[97]⟩ 1 3 0 3 1 0 false ⟨#[45, 48, 46, 53]⟩ = some ([65531], 0) := by unfold value_Words.f wordsR wordsE; rw [if_pos (by decide), words1]
theorem w2 : value_Words.f ⟨#[97]⟩ 1 3 0 3 1 0 false ⟨#[51, 50, 55, 54, 46, 56]⟩ = some ([], 220) := by unfold value_Words.f wordsR wordsE; rw [if_pos (by decide), words2]
theorem a1 : value_Apart.f ⟨#[97]⟩ 1 3 0 2 0 5 false [10] [15] = some (true, 0) := by unfold value_Apart.f; rw [if_pos (by simp), apart1, may3, may4]; rfl
theorem awake_eq (k : Nat) : basculelaw22_awake.f (k + 3) = some true := by
  unfold basculelaw22_awake.f basculelaw22_row.f
  simp only [Option.bind_some, t1, t2, w1, w2, a1]
  rw [if_pos (by rw [Lib.toList_data]), if_pos trivial, if_pos (by rw [Lib.toList_data]), if_pos trivial, ints1]
  rfl
theorem awake_only (k : Nat) (r : Bool) (h : basculelaw22_awake.f k = some r) : r = true :=
  Option.some.inj ((at_rounds basculelaw22_awake.mono (Nat.le_add_right k 3) h).symm.trans (awake_eq k))
end Go.Proofs.YtmkekhjbbapngaaGreatDoor.Q
