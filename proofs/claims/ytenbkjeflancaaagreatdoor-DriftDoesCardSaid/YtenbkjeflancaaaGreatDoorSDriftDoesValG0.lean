/- What the proof of DriftDoes leans on: ValG0. -/
import Derived.Test.YtenbkjeflancaaaGreatDoorSDriftDoesValF
import Derived.Test.YtenbkjeflancaaaGreatDoorSDriftDoesQx14
import Derived.Test.YtenbkjeflancaaaGreatDoorSDriftDoesValO
namespace Go.Proofs.YtenbkjeflancaaaGreatDoor.Q
open Go.RowKit Go.Proofs.YtenbkjeflancaaaGreatDoorW.PrintWords Go.Proofs.YtenbkjeflancaaaGreatDoorW.PrintLast Go.Proofs.YtenbkjeflancaaaGreatDoorW.PrintMore
attribute [local go_sem] max2_int min2_int max_two min_two
set_option linter.unusedVariables false
set_option linter.unusedSimpArgs false
theorem zValG0a0_ {P_ : Prop} (h_ : P_ := by repeat (first | (with_reducible first | exact HB.out | apply below_alloc | apply pw_below_drewN | apply below_drew1 | refine below_set ?_ GE222.out) | exact HB.out)) : P_ := h_
theorem zValG0a1_ {P_ : Prop} (h_ : P_ := by (with_reducible repeat (first | refine blk_drewN ?_ _ | refine blk_drew ?_ | refine blk_alloc ?_ _)); exact BK222.out) : P_ := h_
theorem zValG0a2_ {P_ : Prop} (h_ : P_ := by (try simp only [List.map_toArray, List.map_cons, List.map_nil]); first | done | rfl | (simp only [List.length_drop, List.length_take]; rfl)) : P_ := h_
theorem zValG0a3_ {P_ : Prop} (h_ : P_ := by (with_reducible repeat (first | apply Kd.R_alloc | apply Kd.R_drewN | apply Kd.R_drew)); exact HO_10.out) : P_ := h_
theorem zValG0a4_ {P_ : Prop} (h_ : P_ := by first | rfl | (simp; done) | (simp [*]; done)) : P_ := h_
theorem zValG0a5_ {P_ : Prop} (h_ : P_ := by first | (with_reducible assumption) | assumption) : P_ := h_
theorem zValG0a6_ {P_ : Prop} (h_ : P_ := by repeat (first | (with_reducible first | exact HB.out | apply below_alloc | apply pw_below_drewN | apply below_drew1) | exact HB.out)) : P_ := h_
theorem zValG0a7_ {P_ : Prop} (h_ : P_ := by first | exact Kd.R_nil _ _ _ _ _ | exact Kd.N_nil _ _ _ _ _ | exact Kd.V_nil _ _ _ _ _ | exact Kd.Q_nil _ _ _ _ _ | exact Kd.S_nil _ _ _ _ _) : P_ := h_
theorem zValG0a8_ {P_ : Prop} (h_ : P_ := by (with_reducible repeat (first | apply Kd.R_alloc | apply Kd.R_drewN | apply Kd.R_drew)); exact HO_8.out) : P_ := h_
theorem znValG0_ {X_ : Prop} [Decidable X_] (h_ : ¬ X_ → False := by intro c_; rw [if_neg c_] at H; exact absurd H (by simp)) : X_ := Decidable.byContradiction h_
mutual
def digP.j0 : Nat → List Int → Bool → Option (List Int × Bool)
 | 0, _, _ => none
 | k + 1, x6, x7 => digP.l0 k x6 x7 1 ([] : List Int) (wrap64 ((x6.length : Int) - 1))
def digP.l0 : Nat → List Int → Bool → Int → List Int → Int → Option (List Int × Bool)
 | 0, _, _, _, _, _ => none
 | k + 1, x6, x7, x9, x10, x11 => if x11 ≥ 0 then (if 0 ≤ x11 then (if x11 < (x6.length : Int) then (if x7 = true then (if x10.length < 17592186044416 then (digP.l0 k x6 x7 (wrap64 (Int.tdiv (wrap64 ((wrap64 (65535 - (rd x6 x11))) + x9)) 65536)) (x10 ++ [Int.tmod (wrap64 ((wrap64 (65535 - (rd x6 x11))) + x9)) 65536]) (wrap64 (x11 - 1))) else (none)) else (if x10.length < 17592186044416 then (digP.l0 k x6 x7 x9 (x10 ++ [rd x6 x11]) (wrap64 (x11 - 1))) else (none))) else (none)) else (none)) else (digP.l1 k x7 ([] : List Int) x10 (wrap64 ((x10.length : Int) - 1)))
def digP.l1 : Nat → Bool → List Int → List Int → Int → Option (List Int × Bool)
 | 0, _, _, _, _ => none
 | k + 1, x7, x8, x10, x13 => if x13 ≥ 0 then (if 0 ≤ x13 then (if x13 < (x10.length : Int) then ((basculeref22_times.f k x8 65536 (rd x10 x13)).bind fun t234 => (digP.l1 k x7 t234 x10 (wrap64 (x13 - 1)))) else (none)) else (none)) else ((basculeref22_trim.f k x8).bind fun t237 => (some (t237, x7)))
end
def digP.f (k : Nat) (a0_0 : ByteArray) (a0_1 : Int) (a0_2 : Int) (a0_3 : Int) (a0_4 : Int) (a0_5 : Int) (a0_6 : Int) (a0_7 : Bool) (l1 : List Int) : Option (List Int × Bool) := (basculeref22_Signed.f a0_4).bind fun t223 => (if t223 = true then (if 0 < (l1.length : Int) then (digP.j0 k l1 (decide ((rd l1 0) ≥ 32768))) else (none)) else (digP.j0 k l1 false))
set_option maxHeartbeats 8000000 in
set_option maxRecDepth 100000 in
theorem digP.calls (k : Nat) (a0_0 : ByteArray) (a0_1 : Int) (a0_2 : Int) (a0_3 : Int) (a0_4 : Int) (a0_5 : Int) (a0_6 : Int) (a0_7 : Bool) (A1 : Option Addr) (c1 : Nat) (l1 : List Int) (r1 : List Int) (r2 : Bool) (w : World) (hr1 : Kd.C (Kd.int .i64) w A1 l1.length l1) (hc1 : l1.length ≤ c1) (hl2 : a0_4 = 6 ∨ a0_4 = 7 → 2 ≤ l1.length) (h : digP.f k a0_0 a0_1 a0_2 a0_3 a0_4 a0_5 a0_6 a0_7 (Val.ordL a0_4 l1) = some (r1, r2)) :
  Calls Tryz.prog 37 #[.agg #[.string a0_0, .int .i64 a0_1, .int .i64 a0_2, .int .i64 a0_3, .int .i64 a0_4, .int .i64 a0_5, .int .i64 a0_6, .bool a0_7], .slice A1 l1.length c1] w fun e w' => ∃ v0_ : Value, e = .returned (.tuple #[v0_, .bool r2]) ∧ Kd.R (Kd.int .i64) 3 w' w.heap.size (fun _ => True) v0_ r1 ∧ Below w.heap.size w w' := by
 obtain ⟨lx, hlx⟩ : ∃ x, x = Val.ordL a0_4 l1 := ⟨_, rfl⟩
 rw [← hlx] at h
 have cO := fun W hb hw => Val.order_calls a0_0 a0_1 a0_2 a0_3 a0_4 a0_5 a0_6 a0_7 A1 c1 l1 W (Kd.C_below (w := w) hr1 hb) hw hl2
 rw [← hlx] at cO
 clear hlx hl2
 have hu23 := Tryz.underlying23
 have HR1 := Aside0.mk hr1
 have HC1 := Aside0.mk hc1
 clear hr1 hc1
 have HB := Aside0.mk (Below.refl w.heap.size w)
 have H : ((basculeref22_Signed.f a0_4).bind fun t223 => (if t223 = true then (if 0 < (lx.length : Int) then (digP.j0 k lx (decide ((rd lx 0) ≥ 32768))) else (none)) else (digP.j0 k lx false))) = some (r1, r2) := h
 clear h
 have HC3 := Aside0.mk H
 clear H
 go_enter Tryz.func37, Tryz.ntmps37
 go_upto_region 1 with (first | ((with_reducible refine gate_dst (N := 2) rfl ?_); refine box_event ?hg (N := 2) ?hd (cs := #[.string a0_0, .int .i64 a0_1, .int .i64 a0_2, .int .i64 a0_3, .int .i64 a0_4, .int .i64 a0_5, .int .i64 a0_6, .bool a0_7]) (t := 23) ?hr ?_; (case hd => rfl); (case hg => rfl); (case hr => first | (go_simp; done) | (go_simp; rfl)); intro gb222 hg w4 hbox hb; have n0_ := Aside0.mk (below_step zValG0a6_ hb); have n1_ := Aside0.mk (hbox); have n2_ := Aside0.mk ((by rw [hg]; exact (below_size zValG0a6_) : w.heap.size ≤ gb222)); have n3_ := Aside0.mk ((by rw [hg]; exact (below_size zValG0a6_) : w.heap.size ≤ gb222)); clear HB; have HB := n0_; have BK222 := n1_; have GW222 := n2_; have GE222 := n3_; clear n0_ n1_ n2_ n3_; clear hb hbox hg; have hcz5_0 : w4.cell? ⟨gb222, 0, none⟩ = some (.string a0_0) := (blk_cell BK222.out 0).trans rfl; have hcz5_1 : w4.cell? ⟨gb222, 1, none⟩ = some (.int .i64 a0_1) := (blk_cell BK222.out 1).trans rfl; have hcz5_2 : w4.cell? ⟨gb222, 2, none⟩ = some (.int .i64 a0_2) := (blk_cell BK222.out 2).trans rfl; have hcz5_3 : w4.cell? ⟨gb222, 3, none⟩ = some (.int .i64 a0_3) := (blk_cell BK222.out 3).trans rfl; have hcz5_4 : w4.cell? ⟨gb222, 4, none⟩ = some (.int .i64 a0_4) := (blk_cell BK222.out 4).trans rfl; have hcz5_5 : w4.cell? ⟨gb222, 5, none⟩ = some (.int .i64 a0_5) := (blk_cell BK222.out 5).trans rfl; have hcz5_6 : w4.cell? ⟨gb222, 6, none⟩ = some (.int .i64 a0_6) := (blk_cell BK222.out 6).trans rfl; have hcz5_7 : w4.cell? ⟨gb222, 7, none⟩ = some (.bool a0_7) := (blk_cell BK222.out 7).trans rfl; have hfz5_0 := blk_frozen BK222.out 0; have hfz5_1 := blk_frozen BK222.out 1; have hfz5_2 := blk_frozen BK222.out 2; have hfz5_3 := blk_frozen BK222.out 3; have hfz5_4 := blk_frozen BK222.out 4; have hfz5_5 := blk_frozen BK222.out 5; have hfz5_6 := blk_frozen BK222.out 6; have hfz5_7 := blk_frozen BK222.out 7))
 (try simp only [Act.put, List.setIfInBounds_toArray, List.set_cons_zero, List.set_cons_succ])
 have cO := cO w4 HB.out HC1.out
 go_upto_region 2 with (go_at_call 64; refine cO.mono ?_; rintro e wx ⟨ax, cx, rfl, hcx, hrx, hbx⟩)
 (try simp only [Act.put, List.setIfInBounds_toArray, List.set_cons_zero, List.set_cons_succ])
 have hBX : Below w.heap.size w wx := HB.out.trans (hbx.mono HB.out.size)
 have hLW : w.heap.size ≤ wx.heap.size := hBX.size
 have FIN_ := Aside0.mk (fun (e : Ending) (w' : World) (h : ∃ v0_ : Value, e = .returned (.tuple #[v0_, .bool r2]) ∧ Kd.R (Kd.int .i64) 3 w' wx.heap.size (fun _ => True) v0_ r1 ∧ Below wx.heap.size wx w') => (show ∃ v0_ : Value, e = .returned (.tuple #[v0_, .bool r2]) ∧ Kd.R (Kd.int .i64) 3 w' w.heap.size (fun _ => True) v0_ r1 ∧ Below w.heap.size w w' from h.elim fun v h => ⟨v, h.1, Kd.R_lower h.2.1 hLW, hBX.trans (h.2.2.mono hLW)⟩))
 have BKx := Aside0.mk (blk_below BK222.out hbx)
 clear BK222 hcz5_0 hcz5_1 hcz5_2 hcz5_3 hcz5_4 hcz5_5 hcz5_6 hcz5_7 hfz5_0 hfz5_1 hfz5_2 hfz5_3 hfz5_4 hfz5_5 hfz5_6 hfz5_7 HB HR1 HC1 cO hBX hLW hbx
 have BK222 := BKx
 clear BKx
 have HR1 := Aside0.mk hrx
 have HC1 := Aside0.mk hcx
 clear hrx hcx
 have HB := Aside0.mk (Below.refl wx.heap.size wx)
 have hcz5_0 : wx.cell? ⟨gb222, 0, none⟩ = some (.string a0_0) := (blk_cell BK222.out 0).trans rfl
 have hcz5_1 : wx.cell? ⟨gb222, 1, none⟩ = some (.int .i64 a0_1) := (blk_cell BK222.out 1).trans rfl
 have hcz5_2 : wx.cell? ⟨gb222, 2, none⟩ = some (.int .i64 a0_2) := (blk_cell BK222.out 2).trans rfl
 have hcz5_3 : wx.cell? ⟨gb222, 3, none⟩ = some (.int .i64 a0_3) := (blk_cell BK222.out 3).trans rfl
 have hcz5_4 : wx.cell? ⟨gb222, 4, none⟩ = some (.int .i64 a0_4) := (blk_cell BK222.out 4).trans rfl
 have hcz5_5 : wx.cell? ⟨gb222, 5, none⟩ = some (.int .i64 a0_5) := (blk_cell BK222.out 5).trans rfl
 have hcz5_6 : wx.cell? ⟨gb222, 6, none⟩ = some (.int .i64 a0_6) := (blk_cell BK222.out 6).trans rfl
 have hcz5_7 : wx.cell? ⟨gb222, 7, none⟩ = some (.bool a0_7) := (blk_cell BK222.out 7).trans rfl
 have hfz5_0 := blk_frozen BK222.out 0
 have hfz5_1 := blk_frozen BK222.out 1
 have hfz5_2 := blk_frozen BK222.out 2
 have hfz5_3 := blk_frozen BK222.out 3
 have hfz5_4 := blk_frozen BK222.out 4
 have hfz5_5 := blk_frozen BK222.out 5
 have hfz5_6 := blk_frozen BK222.out 6
 have hfz5_7 := blk_frozen BK222.out 7
 (try simp only [Act.put, List.setIfInBounds_toArray, List.set_cons_zero, List.set_cons_succ])
 go_cut [7] (fun v7 wc => ∃ (kq : Nat) (x7_2 : Bool), v7 = .bool x7_2 ∧ Aside0 (digP.j0 kq lx x7_2 = some (r1, r2)) ∧ Aside0 (kq ≤ k) ∧ Aside0 (wc.heap[gb222]? = some (.cells #[.string a0_0, .int .i64 a0_1, .int .i64 a0_2, .int .i64 a0_3, .int .i64 a0_4, .int .i64 a0_5, .int .i64 a0_6, .bool a0_7] 23 (0, 0))) ∧ Aside0 (Below wx.heap.size wx wc))
 case first =>
  have H := HC3.out
  clear HC3
  replace H := Option.bind_eq_some_iff.mp H
  obtain ⟨t223, A60, H⟩ := H
  replace H : (if t223 = true then (if 0 < (lx.length : Int) then (digP.j0 k lx (decide ((rd lx 0) ≥ 32768))) else (none)) else (digP.j0 k lx false)) = some (r1, r2) := H
  have A6 := Aside0.mk A60
  clear A60
  by_cases c7 : t223 = true
  rotate_left
  ·
   replace c7 := Bool.eq_false_iff.mpr c7
   subst c7
   have H1 : (digP.j0 k lx false) = some (r1, r2) := by rw [if_neg (show ¬ (false = true) by decide)] at H; exact H
   clear H
   have H := H1
   clear H1
   have H' := Aside0.mk H
   clear H
   have hcz10_0 : wx.cell? ⟨gb222, 0, none⟩ = some (.string a0_0) := (blk_cell BK222.out 0).trans rfl
   have hcz10_1 : wx.cell? ⟨gb222, 1, none⟩ = some (.int .i64 a0_1) := (blk_cell BK222.out 1).trans rfl
   have hcz10_2 : wx.cell? ⟨gb222, 2, none⟩ = some (.int .i64 a0_2) := (blk_cell BK222.out 2).trans rfl
   have hcz10_3 : wx.cell? ⟨gb222, 3, none⟩ = some (.int .i64 a0_3) := (blk_cell BK222.out 3).trans rfl
   have hcz10_4 : wx.cell? ⟨gb222, 4, none⟩ = some (.int .i64 a0_4) := (blk_cell BK222.out 4).trans rfl
   have hcz10_5 : wx.cell? ⟨gb222, 5, none⟩ = some (.int .i64 a0_5) := (blk_cell BK222.out 5).trans rfl
   have hcz10_6 : wx.cell? ⟨gb222, 6, none⟩ = some (.int .i64 a0_6) := (blk_cell BK222.out 6).trans rfl
   have hcz10_7 : wx.cell? ⟨gb222, 7, none⟩ = some (.bool a0_7) := (blk_cell BK222.out 7).trans rfl
   have hfz10_0 := blk_frozen BK222.out 0
   have hfz10_1 := blk_frozen BK222.out 1
   have hfz10_2 := blk_frozen BK222.out 2
   have hfz10_3 := blk_frozen BK222.out 3
   have hfz10_4 := blk_frozen BK222.out 4
   have hfz10_5 := blk_frozen BK222.out 5
   have hfz10_6 := blk_frozen BK222.out 6
   have hfz10_7 := blk_frozen BK222.out 7
   go_wp2_with (first | ((with_reducible refine gate_callee (f := 65) rfl ?_); refine goesL_ (some 19) rfl rfl Tryz.func65 (by kernel_rfl) rfl #[.int .i64 a0_4] rfl zValG0a2_ ?_; (with_reducible refine (basculeref22_Signed.calls a0_4 false _ A6.out).mono ?_); rintro e w' ⟨rfl, ⟨nd, rfl⟩⟩; refine ⟨_, rfl, ?_⟩))
   go_meet
   case rel => exact ⟨_, (false), zValG0a4_, H', ⟨by first | omega | exact Nat.le_refl _⟩, ⟨zValG0a1_⟩, ⟨zValG0a0_⟩⟩
  subst c7
  have H1 : (if 0 < (lx.length : Int) then (digP.j0 k lx (decide ((rd lx 0) ≥ 32768))) else (none)) = some (r1, r2) := by rw [if_pos rfl] at H; exact H
  clear H
  have H := H1
  clear H1
  have c8 : 0 < (lx.length : Int) := znValG0_
  rw [if_pos c8] at H
  have c8b0 : decide (0 < (lx.length : Int)) = true := decide_eq_true c8
  have c8b1 : decide (0 < lx.length) = true := decide_eq_true (by omega)
  clear c8
  (first | rw [c8b0] | (simp only [i64_w, i32_w]; rw [c8b0]) | skip)
  have H' := Aside0.mk H
  clear H
  have hcz9_0 : wx.cell? ⟨gb222, 0, none⟩ = some (.string a0_0) := (blk_cell BK222.out 0).trans rfl
  have hcz9_1 : wx.cell? ⟨gb222, 1, none⟩ = some (.int .i64 a0_1) := (blk_cell BK222.out 1).trans rfl
  have hcz9_2 : wx.cell? ⟨gb222, 2, none⟩ = some (.int .i64 a0_2) := (blk_cell BK222.out 2).trans rfl
  have hcz9_3 : wx.cell? ⟨gb222, 3, none⟩ = some (.int .i64 a0_3) := (blk_cell BK222.out 3).trans rfl
  have hcz9_4 : wx.cell? ⟨gb222, 4, none⟩ = some (.int .i64 a0_4) := (blk_cell BK222.out 4).trans rfl
  have hcz9_5 : wx.cell? ⟨gb222, 5, none⟩ = some (.int .i64 a0_5) := (blk_cell BK222.out 5).trans rfl
  have hcz9_6 : wx.cell? ⟨gb222, 6, none⟩ = some (.int .i64 a0_6) := (blk_cell BK222.out 6).trans rfl
  have hcz9_7 : wx.cell? ⟨gb222, 7, none⟩ = some (.bool a0_7) := (blk_cell BK222.out 7).trans rfl
  have hfz9_0 := blk_frozen BK222.out 0
  have hfz9_1 := blk_frozen BK222.out 1
  have hfz9_2 := blk_frozen BK222.out 2
  have hfz9_3 := blk_frozen BK222.out 3
  have hfz9_4 := blk_frozen BK222.out 4
  have hfz9_5 := blk_frozen BK222.out 5
  have hfz9_6 := blk_frozen BK222.out 6
  have hfz9_7 := blk_frozen BK222.out 7
  go_wp2_with (first | ((with_reducible refine gate_callee (f := 65) rfl ?_); refine goesL_ (some 19) rfl rfl Tryz.func65 (by kernel_rfl) rfl #[.int .i64 a0_4] rfl zValG0a2_ ?_; (with_reducible refine (basculeref22_Signed.calls a0_4 true _ A6.out).mono ?_); rintro e w' ⟨rfl, ⟨nd, rfl⟩⟩; refine ⟨_, rfl, ?_⟩; have p224 : 0 ≤ (0 : Int) := (by omega); have q224 : 0 < (lx.length : Int) := of_decide_eq_true zValG0a5_; obtain ⟨ad224, e224, hx224_0⟩ := Kd.at_int HR1.out 0 p224 q224; cases e224; have qi224 : (0 < lx.length) = True := eq_true (by omega); (try rw [show ((0 : Int)).toNat = 0 from rfl] at hx224_0); (try rw [Addr.add_zero'] at hx224_0); replace hx224_0 := (HB.out.cell (World.block_lt_of_cell? wx _ hx224_0)).trans hx224_0; replace p224 := eq_true p224; replace q224 := eq_true q224))
  go_meet
  case rel => exact ⟨_, (decide ((rd lx 0) ≥ 32768)), zValG0a4_, H', ⟨by first | omega | exact Nat.le_refl _⟩, ⟨zValG0a1_⟩, ⟨zValG0a0_⟩⟩
 case rest =>
  clear HC3
  try clear c1
  try clear p2
  try clear q2
  try clear hx2
  try clear qi2
  try clear c3
  try clear c6
  try clear c7
  try clear c8
  try clear c8b0
  try clear c8b1
  try clear hcz10_0
  try clear hcz10_1
  try clear hcz10_2
  try clear hcz10_3
  try clear hcz10_4
  try clear hcz10_5
  try clear hcz10_6
  try clear hcz10_7
  try clear hcz5_0
  try clear hcz5_1
  try clear hcz5_2
  try clear hcz5_3
  try clear hcz5_4
  try clear hcz5_5
  try clear hcz5_6
  try clear hcz5_7
  try clear hcz9_0
  try clear hcz9_1
  try clear hcz9_2
  try clear hcz9_3
  try clear hcz9_4
  try clear hcz9_5
  try clear hcz9_6
  try clear hcz9_7
  try clear hfz10_0
  try clear hfz10_1
  try clear hfz10_2
  try clear hfz10_3
  try clear hfz10_4
  try clear hfz10_5
  try clear hfz10_6
  try clear hfz10_7
  try clear hfz5_0
  try clear hfz5_1
  try clear hfz5_2
  try clear hfz5_3
  try clear hfz5_4
  try clear hfz5_5
  try clear hfz5_6
  try clear hfz5_7
  try clear hfz9_0
  try clear hfz9_1
  try clear hfz9_2
  try clear hfz9_3
  try clear hfz9_4
  try clear hfz9_5
  try clear hfz9_6
  try clear hfz9_7
  try clear hx224_0
  try clear p224
  try clear q224
  obtain ⟨kq, x7_2, rfl, HA, HJ2, BK222, HB⟩ := hcut
  cases kq with
  | zero => exact absurd HA.out (by simp [digP.j0])
  | succ kj2 =>
   have H := HA.out
   clear HA
   simp only [digP.j0] at H
   have H' := Aside0.mk H
   clear H
   go_wp2
   go_loopg [9, 10, 11] kj2 (fun kq v9 v10 v11 w' => ∃ (x9_2 : Int) (x10_2 : List Int) (x11_2 : Int), v9 = .int .i64 x9_2 ∧ v11 = .int .i64 x11_2 ∧ Aside0 (digP.l0 kq lx x7_2 x9_2 x10_2 x11_2 = some (r1, r2)) ∧ Aside0 (kq ≤ kj2) ∧ Aside0 (Kd.R (Kd.int .i64) 3 w' wx.heap.size (fun _ => True) v10 x10_2) ∧ Aside0 (w'.heap[gb222]? = some (.cells #[.string a0_0, .int .i64 a0_1, .int .i64 a0_2, .int .i64 a0_3, .int .i64 a0_4, .int .i64 a0_5, .int .i64 a0_6, .bool a0_7] 23 (0, 0))) ∧ Aside0 (Below wx.heap.size wx w'))
   case atStart => exact ⟨(1), (([] : List Int)), (wrap64 ((lx.length : Int) - 1)), zValG0a4_, zValG0a4_, H', ⟨Nat.le_refl _⟩, ⟨zValG0a7_⟩, ⟨zValG0a1_⟩, ⟨zValG0a0_⟩⟩
   case round =>
    clear H'
    try clear c1
    try clear p2
    try clear q2
    try clear hx2
    try clear qi2
    try clear c3
    try clear c6
    try clear p6
    try clear c7
    try clear c8
    try clear c8b0
    try clear c8b1
    try clear hcz10_0
    try clear hcz10_1
    try clear hcz10_2
    try clear hcz10_3
    try clear hcz10_4
    try clear hcz10_5
    try clear hcz10_6
    try clear hcz10_7
    try clear hcz5_0
    try clear hcz5_1
    try clear hcz5_2
    try clear hcz5_3
    try clear hcz5_4
    try clear hcz5_5
    try clear hcz5_6
    try clear hcz5_7
    try clear hcz9_0
    try clear hcz9_1
    try clear hcz9_2
    try clear hcz9_3
    try clear hcz9_4
    try clear hcz9_5
    try clear hcz9_6
    try clear hcz9_7
    try clear hfz10_0
    try clear hfz10_1
    try clear hfz10_2
    try clear hfz10_3
    try clear hfz10_4
    try clear hfz10_5
    try clear hfz10_6
    try clear hfz10_7
    try clear hfz5_0
    try clear hfz5_1
    try clear hfz5_2
    try clear hfz5_3
    try clear hfz5_4
    try clear hfz5_5
    try clear hfz5_6
    try clear hfz5_7
    try clear hfz9_0
    try clear hfz9_1
    try clear hfz9_2
    try clear hfz9_3
    try clear hfz9_4
    try clear hfz9_5
    try clear hfz9_6
    try clear hfz9_7
    try clear hx224_0
    try clear p2
    try clear p224
    try clear q2
    try clear q224
    obtain ⟨x9_2, x10_2, x11_2, rfl, rfl, HA, HK2, HO_10, BK222, HB⟩ := hrel
    cases gk with
    | zero => exact absurd HA.out (by simp [digP.l0])
    | succ k2 =>
     have H := HA.out
     clear HA
     simp only [digP.l0] at H
     by_cases c11 : x11_2 ≥ 0
     ·
      rw [if_pos c11] at H
      have c11b0 : decide (0 ≤ x11_2) = true := decide_eq_true c11
      clear c11
      have c12 : 0 ≤ x11_2 := znValG0_
      rw [if_pos c12] at H
      have c12b0 : decide (0 ≤ x11_2) = true := decide_eq_true c12
      clear c12
      have c13 : x11_2 < (lx.length : Int) := znValG0_
      rw [if_pos c13] at H
      have c13b0 : decide (x11_2 < (lx.length : Int)) = true := decide_eq_true c13
      clear c13
      by_cases c14 : x7_2 = true
      rotate_left
      ·
       replace c14 := Bool.eq_false_iff.mpr c14
       subst c14
       have H1 : (if x10_2.length < 17592186044416 then (digP.l0 k2 lx false x9_2 (x10_2 ++ [rd lx x11_2]) (wrap64 (x11_2 - 1))) else (none)) = some (r1, r2) := by rw [if_neg (show ¬ (false = true) by decide)] at H; exact H
       clear H
       have H := H1
       clear H1
       have c17 : x10_2.length < 17592186044416 := znValG0_
       rw [if_pos c17] at H
       have LMc17 := Aside0.mk c17
       clear c17
       obtain ⟨y230, hy230⟩ : ∃ y_ : List Int, y_ = (x10_2 ++ [rd lx x11_2]) := ⟨_, rfl⟩
       replace H : (digP.l0 k2 lx false x9_2 y230 (wrap64 (x11_2 - 1))) = some (r1, r2) := by first | (rw [hy230]; with_reducible exact H) | (have H2_ := (Option.bind_some _ _).symm.trans H; rw [hy230]; with_reducible exact H2_) | (have H2_ := (Option.bind_some _ _).symm.trans H; with_reducible exact H2_) | with_reducible exact H | (rw [hy230]; exact H) | exact H
       have Ny230 := Aside0.mk hy230
       clear hy230
       have H' := Aside0.mk H
       clear H
       have p225 : 0 ≤ (x11_2 : Int) := of_decide_eq_true zValG0a5_
       have q225 : x11_2 < (lx.length : Int) := of_decide_eq_true zValG0a5_
       obtain ⟨ad225, e225, hx225_0⟩ := Kd.at_int HR1.out x11_2 p225 q225
       cases e225
       replace hx225_0 := (HB.out.cell (World.block_lt_of_cell? wx _ hx225_0)).trans hx225_0
       replace p225 := eq_true p225
       replace q225 := eq_true q225
       go_wp2_with (first | ((with_reducible refine gate_builtin (b := .append) (xs := #[.tmp 49, .tmp 51]) rfl ?_); at_builtin; refine Kd.R_append (Kd.int .i64) (w0 := wx) wx.heap.size rfl (.tmp 49) (.tmp 51) 33 3 (.int .i64 0) 8 rfl Tryz.underlying33 info3 rfl (by decide) (by omega) u10 x10_2 (rd lx x11_2) [.int .i64 (rd lx x11_2)] (fun _ => True) (fun _ => False) rfl rfl ?aP (fun _ hk => hk.elim) ?aF ?aO ?aB ?aS ?aL ?_; (case aP => exact rfl); (case aB => exact zValG0a0_); (case aF => exact (fun _ _ => trivial)); (case aO => exact zValG0a3_); (case aS => exact (below_size zValG0a0_)); (case aL => have := LMc17.out; omega); intro v231 w18 ho hb hg hat; rw [← Ny230.out] at ho; have n0_ := Aside0.mk (blk_grown (g := gb222) (o := .cells #[.string a0_0, .int .i64 a0_1, .int .i64 a0_2, .int .i64 a0_3, .int .i64 a0_4, .int .i64 a0_5, .int .i64 a0_6, .bool a0_7] 23 (0, 0)) zValG0a1_ hg (Kd.R_ne HO_10.out BK222.out (by decide))); have n1_ := Aside0.mk (hb); have n2_ := Aside0.mk (ho); clear BK222; clear HB; clear HO_10; have BK222 := n0_; have HB := n1_; have HO232 := n2_; clear n0_ n1_ n2_; clear ho hb hg hat))
       go_roundg k2
       case measure => have := HJ2.out; have := HK2.out; omega
       case rel => exact ⟨(x9_2), (y230), (wrap64 (x11_2 - 1)), zValG0a4_, zValG0a4_, H', ⟨by have := HJ2.out; have := HK2.out; omega⟩, ⟨by (with_reducible repeat (first | apply Kd.R_alloc | apply Kd.R_drewN | apply Kd.R_drew)); exact HO232.out⟩, ⟨zValG0a1_⟩, ⟨zValG0a0_⟩⟩
      subst c14
      have H1 : (if x10_2.length < 17592186044416 then (digP.l0 k2 lx true (wrap64 (Int.tdiv (wrap64 ((wrap64 (65535 - (rd lx x11_2))) + x9_2)) 65536)) (x10_2 ++ [Int.tmod (wrap64 ((wrap64 (65535 - (rd lx x11_2))) + x9_2)) 65536]) (wrap64 (x11_2 - 1))) else (none)) = some (r1, r2) := by rw [if_pos rfl] at H; exact H
      clear H
      have H := H1
      clear H1
      have c15 : x10_2.length < 17592186044416 := znValG0_
      rw [if_pos c15] at H
      have LMc15 := Aside0.mk c15
      clear c15
      obtain ⟨y227, hy227⟩ : ∃ y_ : List Int, y_ = (x10_2 ++ [Int.tmod (wrap64 ((wrap64 (65535 - (rd lx x11_2))) + x9_2)) 65536]) := ⟨_, rfl⟩
      replace H : (digP.l0 k2 lx true (wrap64 (Int.tdiv (wrap64 ((wrap64 (65535 - (rd lx x11_2))) + x9_2)) 65536)) y227 (wrap64 (x11_2 - 1))) = some (r1, r2) := by first | (rw [hy227]; with_reducible exact H) | (have H2_ := (Option.bind_some _ _).symm.trans H; rw [hy227]; with_reducible exact H2_) | (have H2_ := (Option.bind_some _ _).symm.trans H; with_reducible exact H2_) | with_reducible exact H | (rw [hy227]; exact H) | exact H
      have Ny227 := Aside0.mk hy227
      clear hy227
      have H' := Aside0.mk H
      clear H
      have p225 : 0 ≤ (x11_2 : Int) := of_decide_eq_true zValG0a5_
      have q225 : x11_2 < (lx.length : Int) := of_decide_eq_true zValG0a5_
      obtain ⟨ad225, e225, hx225_0⟩ := Kd.at_int HR1.out x11_2 p225 q225
      cases e225
      replace hx225_0 := (HB.out.cell (World.block_lt_of_cell? wx _ hx225_0)).trans hx225_0
      replace p225 := eq_true p225
      replace q225 := eq_true q225
      have p226 : 0 ≤ (x11_2 : Int) := of_decide_eq_true zValG0a5_
      have q226 : x11_2 < (lx.length : Int) := of_decide_eq_true zValG0a5_
      obtain ⟨ad226, e226, hx226_0⟩ := Kd.at_int HR1.out x11_2 p226 q226
      obtain rfl : ad225 = ad226 := (by injection e226)
      replace hx226_0 := (HB.out.cell (World.block_lt_of_cell? wx _ hx226_0)).trans hx226_0
      replace p226 := eq_true p226
      replace q226 := eq_true q226
      go_wp2_with (first | ((with_reducible refine gate_builtin (b := .append) (xs := #[.tmp 49, .tmp 51]) rfl ?_); at_builtin; refine Kd.R_append (Kd.int .i64) (w0 := wx) wx.heap.size rfl (.tmp 49) (.tmp 51) 33 3 (.int .i64 0) 8 rfl Tryz.underlying33 info3 rfl (by decide) (by omega) u10 x10_2 (Int.tmod (wrap64 ((wrap64 (65535 - (rd lx x11_2))) + x9_2)) 65536) [.int .i64 (Int.tmod (wrap64 ((wrap64 (65535 - (rd lx x11_2))) + x9_2)) 65536)] (fun _ => True) (fun _ => False) rfl rfl ?aP (fun _ hk => hk.elim) ?aF ?aO ?aB ?aS ?aL ?_; (case aP => exact rfl); (case aB => exact zValG0a0_); (case aF => exact (fun _ _ => trivial)); (case aO => exact zValG0a3_); (case aS => exact (below_size zValG0a0_)); (case aL => have := LMc15.out; omega); intro v228 w16 ho hb hg hat; rw [← Ny227.out] at ho; have n0_ := Aside0.mk (blk_grown (g := gb222) (o := .cells #[.string a0_0, .int .i64 a0_1, .int .i64 a0_2, .int .i64 a0_3, .int .i64 a0_4, .int .i64 a0_5, .int .i64 a0_6, .bool a0_7] 23 (0, 0)) zValG0a1_ hg (Kd.R_ne HO_10.out BK222.out (by decide))); have n1_ := Aside0.mk (hb); have n2_ := Aside0.mk (ho); clear BK222; clear HB; clear HO_10; have BK222 := n0_; have HB := n1_; have HO229 := n2_; clear n0_ n1_ n2_; clear ho hb hg hat))
      go_roundg k2
      case measure => have := HJ2.out; have := HK2.out; omega
      case rel => exact ⟨(wrap64 (Int.tdiv (wrap64 ((wrap64 (65535 - (rd lx x11_2))) + x9_2)) 65536)), (y227), (wrap64 (x11_2 - 1)), zValG0a4_, zValG0a4_, H', ⟨by have := HJ2.out; have := HK2.out; omega⟩, ⟨by (with_reducible repeat (first | apply Kd.R_alloc | apply Kd.R_drewN | apply Kd.R_drew)); exact HO229.out⟩, ⟨zValG0a1_⟩, ⟨zValG0a0_⟩⟩
     rw [if_neg c11] at H
     have c11b0 : decide (0 ≤ x11_2) = false := decide_eq_false c11
     clear c11
     have H' := Aside0.mk H
     clear H
     obtain ⟨Ao19, co19, eo19⟩ := Kd.R_slice HO_10.out
     subst eo19
     go_wp2
     go_loopg [8, 13] k2 (fun kq v8 v13 w' => ∃ (x8_3 : List Int) (x13_3 : Int), v13 = .int .i64 x13_3 ∧ Aside0 (digP.l1 kq x7_2 x8_3 x10_2 x13_3 = some (r1, r2)) ∧ Aside0 (kq ≤ k2) ∧ Aside0 (Kd.R (Kd.int .i64) 3 w' wx.heap.size (fun k_ => some k_ ≠ ((.slice Ao19 x10_2.length co19) : Value).ownBlock) v8 x8_3) ∧ Aside0 (Kd.R (Kd.int .i64) 3 w' wx.heap.size (fun k_ => some k_ ≠ (v8 : Value).ownBlock) (.slice Ao19 x10_2.length co19) x10_2) ∧ Aside0 (w'.heap[gb222]? = some (.cells #[.string a0_0, .int .i64 a0_1, .int .i64 a0_2, .int .i64 a0_3, .int .i64 a0_4, .int .i64 a0_5, .int .i64 a0_6, .bool a0_7] 23 (0, 0))) ∧ Aside0 (Below wx.heap.size wx w'))
     case atStart => exact ⟨(([] : List Int)), (wrap64 ((x10_2.length : Int) - 1)), zValG0a4_, H', ⟨Nat.le_refl _⟩, ⟨zValG0a7_⟩, ⟨by (with_reducible repeat (first | apply Kd.R_alloc | apply Kd.R_drewN | apply Kd.R_drew)); exact Kd.R_mono HO_10.out (fun _ hk => (by simp [Value.ownBlock]))⟩, ⟨zValG0a1_⟩, ⟨zValG0a0_⟩⟩
     case round =>
      clear H'
      try clear c1
      try clear p2
      try clear q2
      try clear hx2
      try clear qi2
      try clear c3
      try clear c6
      try clear p6
      try clear c7
      try clear c8
      try clear c8b0
      try clear c8b1
      try clear c11
      try clear c11b0
      try clear c12
      try clear c12b0
      try clear c13
      try clear c13b0
      try clear c14
      try clear c15
      try clear c17
      try clear hcz10_0
      try clear hcz10_1
      try clear hcz10_2
      try clear hcz10_3
      try clear hcz10_4
      try clear hcz10_5
      try clear hcz10_6
      try clear hcz10_7
      try clear hcz5_0
      try clear hcz5_1
      try clear hcz5_2
      try clear hcz5_3
      try clear hcz5_4
      try clear hcz5_5
      try clear hcz5_6
      try clear hcz5_7
      try clear hcz9_0
      try clear hcz9_1
      try clear hcz9_2
      try clear hcz9_3
      try clear hcz9_4
      try clear hcz9_5
      try clear hcz9_6
      try clear hcz9_7
      try clear hfz10_0
      try clear hfz10_1
      try clear hfz10_2
      try clear hfz10_3
      try clear hfz10_4
      try clear hfz10_5
      try clear hfz10_6
      try clear hfz10_7
      try clear hfz5_0
      try clear hfz5_1
      try clear hfz5_2
      try clear hfz5_3
      try clear hfz5_4
      try clear hfz5_5
      try clear hfz5_6
      try clear hfz5_7
      try clear hfz9_0
      try clear hfz9_1
      try clear hfz9_2
      try clear hfz9_3
      try clear hfz9_4
      try clear hfz9_5
      try clear hfz9_6
      try clear hfz9_7
      try clear hx224_0
      try clear hx225_0
      try clear hx226_0
      try clear p2
      try clear p224
      try clear p225
      try clear p226
      try clear p6
      try clear q2
      try clear q224
      try clear q225
      try clear q226
      obtain ⟨x8_3, x13_3, rfl, HA, HK3, HO_8, HO_10, BK222, HB⟩ := hrel
      cases gk with
      | zero => exact absurd HA.out (by simp [digP.l1])
      | succ k3 =>
       have H := HA.out
       clear HA
       simp only [digP.l1] at H
       by_cases c20 : x13_3 ≥ 0
       rotate_left
       ·
        rw [if_neg c20] at H
        have c20b0 : decide (0 ≤ x13_3) = false := decide_eq_false c20
        clear c20
        replace H := Option.bind_eq_some_iff.mp H
        obtain ⟨t237, A260, H⟩ := H
        replace H : (some (t237, x7_2)) = some (r1, r2) := H
        have A26 := Aside0.mk A260
        clear A260
        simp only [Option.some.injEq, Prod.mk.injEq] at H
        obtain ⟨rfl, rfl⟩ := H
        obtain ⟨Ao27, co27, eo27⟩ := Kd.R_slice HO_8.out
        subst eo27
        go_wp2_with (first | ((with_reducible refine gate_callee (f := 66) rfl ?_); refine goesL_ (some 67) rfl rfl Tryz.func66 (by kernel_rfl) rfl #[.slice Ao27 x8_3.length co27] rfl zValG0a2_ ?_; (with_reducible refine (basculeref22_trim.calls k3 (fun k_ => some k_ = (.slice Ao27 x8_3.length co27 : Value).ownBlock) (.slice Ao27 x8_3.length co27) x8_3 t237 wx _ ?side1 ?side2 A26.out).mono ?_); (case side1 => repeat (first | (with_reducible first | exact HB.out | apply below_alloc | apply pw_below_drewN | apply below_drew1 | refine below_set ?_ GE222.out) | exact HB.out)); (case side2 => exact Kd.R_tight rfl HO_8.out); rintro e w28 ⟨v238, rfl, ho0, hb, hkp⟩; refine ⟨_, rfl, ?_⟩; have n0_ := Aside0.mk (Kd.R_mono (ok' := fun k_ => some k_ ≠ (v238 : Value).ownBlock) (Kd.R_keptB (HO_10.out) hkp (fun k_ hk_ hs_ => (hk_) hs_)) (fun k_ hk_ => fun e_ => Or.elim (ho0.1 k_ e_.symm) (fun hs_ => hk_.2.1 hs_) (fun hn_ => Nat.not_le.2 hk_.2.2 hn_))); have n1_ := Aside0.mk (blk_kept zValG0a1_ hkp (fun hs_ => (fun e_ => (Kd.R_ne HO_8.out BK222.out (by decide)) e_) hs_)); have n2_ := Aside0.mk (Kd.R_mono (ok' := fun k_ => some k_ ≠ (.slice Ao19 x10_2.length co19 : Value).ownBlock) ho0 (fun k_ hk_ => Or.elim hk_ (fun hs_ => fun e_ => (((HO_10.out).1 k_ e_.symm)) hs_) (fun hn_ => (Kd.fresh' (Kd.R_lt zValG0a3_) k_ hn_)))); have n3_ := Aside0.mk (hb); clear HO_10; clear BK222; clear HB; clear HO_8; have HO_10 := n0_; have BK222 := n1_; have HO239 := n2_; have HB := n3_; clear n0_ n1_ n2_ n3_; (try clear hb); (try clear hkp); (try clear ho0)))
        go_ret2
        refine FIN_.out _ _ ?_
        exact ⟨_, by first | rfl | (simp [errW_none, errW_some] <;> rfl) | (simp [*, errW_none, errW_some] <;> rfl), by (with_reducible repeat (first | apply Kd.R_alloc | apply Kd.R_drewN | apply Kd.R_drew)); exact Kd.R_mono HO239.out (fun _ hk => trivial), zValG0a0_⟩
       rw [if_pos c20] at H
       have c20b0 : decide (0 ≤ x13_3) = true := decide_eq_true c20
       clear c20
       have c21 : 0 ≤ x13_3 := znValG0_
       rw [if_pos c21] at H
       have c21b0 : decide (0 ≤ x13_3) = true := decide_eq_true c21
       clear c21
       have c22 : x13_3 < (x10_2.length : Int) := znValG0_
       rw [if_pos c22] at H
       have c22b0 : decide (x13_3 < (x10_2.length : Int)) = true := decide_eq_true c22
       clear c22
       replace H := Option.bind_eq_some_iff.mp H
       obtain ⟨t234, A230, H⟩ := H
       replace H : (digP.l1 k3 x7_2 t234 x10_2 (wrap64 (x13_3 - 1))) = some (r1, r2) := H
       have A23 := Aside0.mk A230
       clear A230
       have H' := Aside0.mk H
       clear H
       have p233 : 0 ≤ (x13_3 : Int) := of_decide_eq_true zValG0a5_
       have q233 : x13_3 < (x10_2.length : Int) := of_decide_eq_true zValG0a5_
       obtain ⟨ad233, e233, hx233_0⟩ := Kd.at_int (Kd.R_reads' HO_10.out).2.2 x13_3 p233 q233
       cases e233
       replace p233 := eq_true p233
       replace q233 := eq_true q233
       obtain ⟨Ao24, co24, eo24⟩ := Kd.R_slice HO_8.out
       subst eo24
       go_wp2_with (first | ((with_reducible refine gate_callee (f := 41) rfl ?_); refine goesL_ (some 65) rfl rfl Tryz.func41 (by kernel_rfl) rfl #[.slice Ao24 x8_3.length co24, .int .i64 65536, .int .i64 (rd x10_2 x13_3)] rfl zValG0a2_ ?_; (with_reducible refine (basculeref22_times.calls k3 _ _ x8_3 65536 (rd x10_2 x13_3) t234 _ ?side1 ?side2 A23.out).mono ?_); (case side1 => repeat (first | exact (Kd.R_reads' HO_8.out).2.2 | (with_reducible refine Kd.C_alloc ?_ _) | (with_reducible refine Kd.C_drewN ?_ _) | (with_reducible refine Kd.C_drew ?_))); (case side2 => exact (Kd.R_reads' HO_8.out).2.1); rintro e w25 ⟨v235, rfl, ho0, hb⟩; refine ⟨_, rfl, ?_⟩; have n0_ := Aside0.mk (Kd.R_elder' zValG0a8_ (Kd.R_base ho0) hb); have n1_ := Aside0.mk (Kd.R_elder' zValG0a3_ (Kd.R_base ho0) hb); have n2_ := Aside0.mk (Kd.R_lower (Kd.R_new' (Kd.R_new' ho0 (Kd.R_lt zValG0a8_)) (Kd.R_lt zValG0a3_)) (below_size zValG0a0_)); have n3_ := Aside0.mk (blk_below (g := gb222) (o := .cells #[.string a0_0, .int .i64 a0_1, .int .i64 a0_2, .int .i64 a0_3, .int .i64 a0_4, .int .i64 a0_5, .int .i64 a0_6, .bool a0_7] 23 (0, 0)) zValG0a1_ hb); have n4_ := Aside0.mk (below_step zValG0a0_ hb); clear HO_8; clear HO_10; clear BK222; clear HB; have HO_8 := n0_; have HO_10 := n1_; have HO236 := n2_; have BK222 := n3_; have HB := n4_; clear n0_ n1_ n2_ n3_ n4_; (try clear hb); (try clear hb2); (try clear hk); (try clear hi); (try clear ho0)))
       go_roundg k3
       case measure => have := HJ2.out; have := HK2.out; have := HK3.out; omega
       case rel => exact ⟨(t234), (wrap64 (x13_3 - 1)), zValG0a4_, H', ⟨by have := HJ2.out; have := HK2.out; have := HK3.out; omega⟩, ⟨by (with_reducible repeat (first | apply Kd.R_alloc | apply Kd.R_drewN | apply Kd.R_drew)); exact Kd.R_mono HO236.out (fun _ hk => hk.2)⟩, ⟨by (with_reducible repeat (first | apply Kd.R_alloc | apply Kd.R_drewN | apply Kd.R_drew)); exact Kd.R_mono HO_10.out (fun _ hk => hk.2)⟩, ⟨zValG0a1_⟩, ⟨zValG0a0_⟩⟩
end Go.Proofs.YtenbkjeflancaaaGreatDoor.Q
