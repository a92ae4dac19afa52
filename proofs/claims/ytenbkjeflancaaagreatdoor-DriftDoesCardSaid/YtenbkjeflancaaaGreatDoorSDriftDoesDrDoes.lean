/- What the proof of DriftDoes leans on: DrDoes. -/
import Derived.Test.YtenbkjeflancaaaGreatDoorSDriftDoesDrF
import Derived.Test.YtenbkjeflancaaaGreatDoorSDriftDoesDrRef
set_option linter.unusedVariables false
set_option linter.unusedSimpArgs false
namespace Go.Proofs.YtenbkjeflancaaaGreatDoor.Dr
open Go Go.RowKit Go.Proofs.YtenbkjeflancaaaGreatDoorW.PrintWords Go.Proofs.YtenbkjeflancaaaGreatDoor.Val Go.Proofs.YtenbkjeflancaaaGreatDoor.Q Go.Proofs.YtenbkjeflancaaaGreatDoor.Cnt
theorem bw {A w w' : World} (h : Below A.heap.size A w) (hb : Below w.heap.size w w') : Below A.heap.size A w' := h.trans (hb.mono h.size)
theorem own_shape {e B : Nat} {W : World} {v : Value} {xs : List Int} {ok : Nat → Prop} (h : (Kd.scalar (Value.int .i64) (fun _ => rfl)).R e W B ok v xs) (hx : 0 < xs.length) : ∃ g cap, v = .slice (some ⟨g, 0, none⟩) xs.length cap ∧ B ≤ g ∧ g < W.heap.size ∧ xs.length ≤ cap := by
  obtain ⟨inner, ho⟩ := Kd.R_own h
  rcases ho.2 with ⟨_, h0⟩ | ⟨g, cap, cur, hv, hg, hh, hle, _⟩
  · omega
  · exact ⟨g, cap, hv, hg, blk_lt hh, hle⟩
theorem rd_set (y : List Int) (k j : Nat) (v : Int) (h : k ≠ j) : rd (y.set k v) (j : Int) = rd y (j : Int) := by
  unfold rd
  rw [Int.toNat_natCast, List.getD_eq_getElem?_getD, List.getD_eq_getElem?_getD, List.getElem?_set_ne h]
theorem rrow_calls (n : ByteArray) (u f a kd s d : Int) (wt : Bool) (w : World) : Calls Tryz.prog 6 #[.agg #[.string n, .int .i64 u, .int .i64 f, .int .i64 a, .int .i64 kd, .int .i64 s, .int .i64 d, .bool wt]] w fun e w' => e = .returned (.bool (rowB n u f a kd s d wt)) ∧ Below w.heap.size w w' := by
  obtain ⟨k, hk⟩ := (row22_ev n u f a kd s d wt).rounds
  exact basculeref22_Row.calls k n u f a kd s d wt _ w hk
set_option maxHeartbeats 8000000 in
set_option maxRecDepth 1000000 in
theorem rlast_calls {ok : Nat → Prop} {n : ByteArray} {u f a kd s d : Int} {wr : Bool} {B : Nat} {W : World} {rb : Nat} {st : DS} (hD : RAt ok n u f a kd s d wr B W rb st) :
    Calls Tryz.prog 12 #[.pointer (some ⟨rb, 0, none⟩)] W fun e W' => e = .returned (.tuple #[.string (lastT n u f a kd s d wr st), .bool st.has]) ∧ Below W.heap.size W W' := by
  obtain ⟨v, hb, h2, h3⟩ := hD
  obtain ⟨has, base, told, seen⟩ := st
  simp only at hb h2 h3
  unfold lastT
  have q0 : W.cell? ⟨rb, 0, none⟩ = some (.string n) := blk_cell hb 0
  have q1 : W.cell? ⟨rb, 1, none⟩ = some (.int .i64 u) := blk_cell hb 1
  have q2 : W.cell? ⟨rb, 2, none⟩ = some (.int .i64 f) := blk_cell hb 2
  have q3 : W.cell? ⟨rb, 3, none⟩ = some (.int .i64 a) := blk_cell hb 3
  have q4 : W.cell? ⟨rb, 4, none⟩ = some (.int .i64 kd) := blk_cell hb 4
  have q5 : W.cell? ⟨rb, 5, none⟩ = some (.int .i64 s) := blk_cell hb 5
  have q6 : W.cell? ⟨rb, 6, none⟩ = some (.int .i64 d) := blk_cell hb 6
  have q7 : W.cell? ⟨rb, 7, none⟩ = some (.bool wr) := blk_cell hb 7
  have q8 : W.cell? ⟨rb, 8, none⟩ = some (.bool has) := blk_cell hb 8
  have q9 : W.cell? ⟨rb, 9, none⟩ = some v := blk_cell hb 9
  clear hb
  cases has
  · clear h2 h3
    go_enter Tryz.func12, Tryz.ntmps12
    go_wp2
    go_ret2
    exact ⟨rfl, Below.refl _ _⟩
  · obtain ⟨hmb, hbl⟩ := h3 rfl
    obtain ⟨Ab, cb, rfl, hcb, hC⟩ := Kd.R_reads h2
    have cT := rtext_calls n u f a kd s d wr Ab cb base (W.drewN 1) hmb (Kd.C_drewN hC 1) hcb
    clear h2 h3 hmb hbl hC hcb
    generalize textR n u f a kd s d wr base = T at *
    go_enter Tryz.func12, Tryz.ntmps12
    go_wp2
    go_region_with (go_at_call 21; refine cT.mono ?_; rintro e w1 ⟨rfl, hb1⟩)
    all_goals go_wp2
    all_goals (go_ret2; exact ⟨rfl, (pw_below_drewN (Below.refl W.heap.size W) 1).trans hb1⟩)
theorem rfeed_calls {ok : Nat → Prop} {n : ByteArray} {u f a kd s d : Int} {wr : Bool} {B : Nat} {W : World} {rb : Nat} {st : DS} (hok : ∀ k, W.heap.size ≤ k → ok k) (hrow : rowB n u f a kd s d wr = true) (hrB : rb < B) (hBW : B ≤ W.heap.size) (hD : RAt ok n u f a kd s d wr B W rb st)
    {A : Option Addr} {c : Nat} {l : List Int} (hr : ∀ W1, W.grownBy W1 (some rb) → Kd.C (Kd.int .i64) W1 A l.length l) (hc : l.length ≤ c) (hlen : l.length ≤ 1000) (hm : mayB n u f a kd s d wr l = true) (ht : st.told ≤ 299) (hs : st.seen ≤ 299) :
    Calls Tryz.prog 10 #[.pointer (some ⟨rb, 0, none⟩), .slice A l.length c] W fun e W' => e = .returned (.tuple #[.string (if feedB n u f a kd s d wr st l then textR n u f a kd s d wr l else ⟨#[]⟩), .bool (feedB n u f a kd s d wr st l), .int .i64 0]) ∧ W.grownBy W' (some rb) ∧ RAt ok n u f a kd s d wr B W' rb (feedS n u f a kd s d wr st l) := by
  cases hf : feedB n u f a kd s d wr st l
  · obtain ⟨has, lb, told, seen⟩ := st
    have hh : has = true := by
      unfold feedB at hf
      cases has
      · simp at hf
      · rfl
    subst hh
    have hap : apartR n u f a kd s d wr lb l = false := by
      unfold feedB at hf
      simpa using hf
    unfold feedS
    rw [hf]
    exact rfeed_same hrow hrB hD hr hc hlen hm hap hs
  · have hap : st.has = true → apartR n u f a kd s d wr st.base l = true := by
      intro hh
      unfold feedB at hf
      rw [hh] at hf
      simpa using hf
    unfold feedS
    rw [hf]
    exact rfeed_told hok hrow hrB hBW hD hr hc hlen hm hap ht hs
theorem feed_pair (n : ByteArray) (u f a kd s d : Int) (wr : Bool) (has : Bool) (base base2 : List Int) (told seen : Nat) (l : List Int) (h : has = true → base2 = base) :
    feedB n u f a kd s d wr ⟨has, base2, told, seen⟩ l = feedB n u f a kd s d wr ⟨has, base, told, seen⟩ l ∧
    ∃ has' base' base2' told', feedS n u f a kd s d wr ⟨has, base, told, seen⟩ l = ⟨has', base', told', seen + 1⟩ ∧ feedS n u f a kd s d wr ⟨has, base2, told, seen⟩ l = ⟨has', base2', told', seen + 1⟩ ∧ (has' = true → base2' = base') ∧ told' ≤ told + 1 := by
  have e : feedB n u f a kd s d wr ⟨has, base2, told, seen⟩ l = feedB n u f a kd s d wr ⟨has, base, told, seen⟩ l := by
    cases has
    · rfl
    · rw [h rfl]
  refine ⟨e, ?_⟩
  unfold feedS
  rw [e]
  cases feedB n u f a kd s d wr ⟨has, base, told, seen⟩ l
  · exact ⟨has, base, base2, told, rfl, rfl, h, Nat.le_succ _⟩
  · exact ⟨true, l, l, told + 1, rfl, rfl, fun _ => rfl, Nat.le_refl _⟩
set_option maxHeartbeats 16000000 in
set_option maxRecDepth 1000000 in
theorem driftDoes_calls (n : ByteArray) (u f a kd s d : Int) (wt : Bool) (A : Option Addr) (c : Nat) (l : List (List Int)) (w : World) (hL : Laid w) (hr : kM.C w A l.length l) (hl : l.length ≤ c) (hlen : l.length ≤ 9223372036854775807) (hw : ∀ x ∈ l, x.length ≤ 9223372036854775807) :
    Calls Tryz.prog 3 #[.agg #[.string n, .int .i64 u, .int .i64 f, .int .i64 a, .int .i64 kd, .int .i64 s, .int .i64 d, .bool wt], .slice A l.length c] w fun e w' => e = .returned (.bool true) ∧ Below w.heap.size w w' := by
  have HB0 := (Below.refl w.heap.size w).alloc (Nat.le_refl _) (.cells #[.string n, .int .i64 u, .int .i64 f, .int .i64 a, .int .i64 kd, .int .i64 s, .int .i64 d, .bool wt] 23 (0, 0))
  have hg0 := blk_new w (.cells #[.string n, .int .i64 u, .int .i64 f, .int .i64 a, .int .i64 kd, .int .i64 s, .int .i64 d, .bool wt] 23 (0, 0))
  have cF := few_calls A c l _ (Kd.C_below hr HB0) hl hlen hw
  have cA := fun w1 (h : Below w.heap.size w w1) => awake_calls w1 (hL.below h)
  have cNo := fun h => new_no n u f a kd s d wt _ (hL.below HB0) h
  have cYes := fun h => new_yes n u f a kd s d wt _ (hL.below HB0) h
  have cRow := fun w1 => rrow_calls n u f a kd s d wt w1
  cases hfew : fewB l
  · rw [hfew] at cF
    go_enter Tryz.func3, Tryz.ntmps3
    go_wp2_with (go_at_call 4; refine cF.mono ?_; rintro e w1 ⟨rfl, rfl⟩)
    go_ret
    exact ⟨rfl, HB0⟩
  rw [hfew] at cF
  go_enter Tryz.func3, Tryz.ntmps3
  cases hrow : rowB n u f a kd s d wt
  · rw [hrow] at cRow
    go_wp2_with (first | (go_at_call 4; refine cF.mono ?_; rintro e w1 ⟨rfl, rfl⟩) | (go_at_call 5; refine (cNo hrow).mono ?_; rintro e w2 ⟨rfl, hb2⟩; have hg2 := blk_below hg0 hb2; have r0 := blk_cell hg2 0; have r1 := blk_cell hg2 1; have r2 := blk_cell hg2 2; have r3 := blk_cell hg2 3; have r4 := blk_cell hg2 4; have r5 := blk_cell hg2 5; have r6 := blk_cell hg2 6; have r7 := blk_cell hg2 7) | (go_at_call 6; refine (cRow _).mono ?_; rintro e w3 ⟨rfl, hb3⟩; have HB3 := bw (bw HB0 hb2) hb3) | (go_at_call 7; refine (cA _ HB3).mono ?_; rintro e w4 ⟨rfl, hb4⟩))
    go_ret
    exact ⟨rfl, bw HB3 hb4⟩
  rw [hrow] at cRow
  obtain ⟨hl200, hx20⟩ := few_all hfew
  go_wp2_with (first | (go_at_call 4; refine cF.mono ?_; rintro e w1 ⟨rfl, rfl⟩) | (go_at_call 5; refine (cYes hrow).mono ?_; rintro e w2 ⟨db, rfl, hdb, hb2, hk⟩; have hg2 := blk_below hg0 hb2; have r0 := blk_cell hg2 0; have r1 := blk_cell hg2 1; have r2 := blk_cell hg2 2; have r3 := blk_cell hg2 3; have r4 := blk_cell hg2 4; have r5 := blk_cell hg2 5; have r6 := blk_cell hg2 6; have r7 := blk_cell hg2 7) | (go_at_call 6; refine (cRow _).mono ?_; rintro e w3 ⟨rfl, hb3⟩; have hg3 := blk_below hg2 hb3; have k0 := blk_cell hg3 0; have k1 := blk_cell hg3 1; have k2 := blk_cell hg3 2; have k3 := blk_cell hg3 3; have k4 := blk_cell hg3 4; have k5 := blk_cell hg3 5; have k6 := blk_cell hg3 6; have k7 := blk_cell hg3 7))
  have HB3 := bw (bw HB0 hb2) hb3
  have hsz : (w.alloc (.cells #[.string n, .int .i64 u, .int .i64 f, .int .i64 a, .int .i64 kd, .int .i64 s, .int .i64 d, .bool wt] 23 (0, 0))).heap.size = w.heap.size + 1 := by simp
  have hdw : w.heap.size ≤ db := by omega
  have hk3 := blk_below hk hb3
  have hd3 := blk_lt hk3
  obtain ⟨rb, hrb⟩ : ∃ rb, rb = w3.heap.size := ⟨_, rfl⟩
  have hal : ∀ o, Below w3.heap.size w3 (w3.alloc o) := fun o => (Below.refl w3.heap.size w3).alloc (Nat.le_refl _) o
  have hD0 : ∀ o, DAt n u f a kd s d wt (rb + 1) (w3.alloc o) db ⟨false, [], 0, 0⟩ := fun o => ⟨_, blk_below hk3 (hal o), Kd.R_nil _ _ _ _ _, fun h => by cases h⟩
  have hR0 : RAt (fun _ => True) n u f a kd s d wt (rb + 1) (w3.alloc (.cells (cellsR n u f a kd s d wt false (.slice none 0 0) 0 0) 35 (0, 0))) rb ⟨false, [], 0, 0⟩ := ⟨_, by rw [hrb]; exact blk_new w3 _, Kd.R_nil _ _ _ _ _, fun h => by cases h⟩
  have HBa : ∀ o, Below w.heap.size w (w3.alloc o) := fun o => bw HB3 (hal o)
  have hza : ∀ o, rb + 1 ≤ (w3.alloc o).heap.size := fun o => by rw [hrb]; simp
  have hdb' : db < rb := by omega
  have hrw : w.heap.size ≤ rb := by omega
  rw [← hrb]
  have info3 : (Tryz.prog.info? 3).map (fun i => (i.zero, i.size, i.bytes)) = some (some (.int .i64 0), 1, 8) := by kernel_rfl
  have HR := Lib.hid hr
  clear hr hk cF cNo cYes hg0 r0 r1 r2 r3 r4 r5 r6 r7 k0 k1 k2 k3 k4 k5 k6 k7 hg2 hg3 hk3 cRow hd3
  have hrbH := Lib.hid hrb
  clear hrb
  go_loopg [8] l.length (fun gk v8 wx => ∃ (i : Nat) (has_ : Bool) (base_ base2_ : List Int) (told_ seen_ : Nat), v8 = .int .i64 i ∧ i + gk = l.length ∧ Below w.heap.size w wx ∧ rb + 1 ≤ wx.heap.size ∧ DAt n u f a kd s d wt (rb + 1) wx db ⟨has_, base_, told_, seen_⟩ ∧ RAt (fun _ => True) n u f a kd s d wt (rb + 1) wx rb ⟨has_, base2_, told_, seen_⟩ ∧ (has_ = true → base2_ = base_) ∧ told_ ≤ i ∧ seen_ ≤ i)
  case atStart => exact ⟨0, false, [], [], 0, 0, rfl, by omega, HBa _, hza _, hD0 _, hR0, fun _ => rfl, Nat.le_refl _, Nat.le_refl _⟩
  case round =>
    obtain ⟨i, has_, base_, base2_, told_, seen_, rfl, hig, hB1, hBx, hD, hR, hS, hto, hse⟩ := hrel
    cases gk with
    | zero =>
      have hi : i = l.length := by omega
      have hlt1 : decide ((i : Int) < (l.length : Int)) = false := decide_eq_false (by omega)
      go_wp2_with (first | (go_at_call 7; refine (cA _ hB1).mono ?_; rintro e w3 ⟨rfl, hb3⟩))
      go_ret
      exact ⟨rfl, bw hB1 hb3⟩
    | succ gk =>
      have hi : i < l.length := by omega
      have hlt1 : decide ((i : Int) < (l.length : Int)) = true := decide_eq_true (by omega)
      obtain ⟨ad, Ax, cx, eA, h0, hcx, hC⟩ := at_M HR.out i hi
      subst eA
      have hx := hx20 (l.getD i []) (by rw [List.getD_eq_getElem?_getD, List.getElem?_eq_getElem hi]; exact List.getElem_mem hi)
      have hlt := World.block_lt_of_cell? w _ h0
      have k0 := (hB1.cell hlt).trans h0
      have p0 : ((0 : Int) ≤ (i : Int)) = True := eq_true (by omega)
      have p1 : ((i : Int) < (l.length : Int)) = True := eq_true (by omega)
      have hs1 : IntKind.i64.wrap ((i : Int) + 1) = ((i + 1 : Nat) : Int) := by rw [IntWalk.i64_in _ (by omega)]; rfl
      have hi200 : i ≤ 199 := by omega
      generalize l.getD i [] = x at *
      have hne : db ≠ rb := Nat.ne_of_lt hdb'
      clear hD0 hR0 HBa hza hal
      by_cases hx0 : x.length = 0
      · obtain rfl : x = [] := List.eq_nil_of_length_eq_zero hx0
        clear hx0 hx
        have cX := resets hD
        have hR1 := hR
        have hD' := hD
        go_wp2_with (go_at_call 8; refine cX.mono ?_; rintro e w3 ⟨rfl, hg3, hD3⟩; obtain ⟨vx, hkx, hRx, -⟩ := hR.other hg3 (Nat.lt_succ_of_lt hdb') (Ne.symm hne); have c8 := blk_cell hkx 8; have f8 := fun j => blk_frozen hkx j; have hB3 := below_grown hB1 hg3 hdw)
        have hXs : Below w3.heap.size w3 w3 := Below.refl _ _
        have hgs := grown_set (grown_below (r := some rb) hXs) 8 (.bool false)
        have hB4 := below_grown hB3 hgs hrw
        have hD4 := hD3.other hgs (Nat.lt_succ_self rb) hne
        have hk4 := blk_set hkx 8 (.bool false)
        have hR4 : RAt (fun _ => True) n u f a kd s d wt (rb + 1) (w3.setCell ⟨rb, 8, none⟩ (.bool false)) rb ⟨false, base2_, told_, seen_⟩ := ⟨vx, hk4, R_keepO hRx hgs (Nat.lt_succ_self rb), fun h => by cases h⟩
        have hBx4 : rb + 1 ≤ (w3.setCell ⟨rb, 8, none⟩ (.bool false)).heap.size := Nat.le_trans hBx (Nat.le_trans hg3.size hgs.size)
        clear hR1 hD' hR hD hD3 cX hk4 hkx hRx c8 f8
        obtain ⟨vR_, hkR_, -, -⟩ := id hR4
        have cL_ := last_calls hL hB4 hD4
        have cR_ := fun W1 (h : Below (w3.setCell ⟨rb, 8, none⟩ (.bool false)).heap.size (w3.setCell ⟨rb, 8, none⟩ (.bool false)) W1) => rlast_calls (hR4.below h)
        have cC_ := fun W1 (h : Below (w3.setCell ⟨rb, 8, none⟩ (.bool false)).heap.size (w3.setCell ⟨rb, 8, none⟩ (.bool false)) W1) => count_calls (hD4.below h) (show told_ ≤ 300 by omega) (show seen_ ≤ 300 by omega)
        have eL_ : lastT n u f a kd s d wt ⟨false, base2_, told_, seen_⟩ = lastT n u f a kd s d wt ⟨false, [], told_, seen_⟩ := rfl
        rw [eL_] at cR_
        clear eL_
        generalize lastT n u f a kd s d wt ⟨false, [], told_, seen_⟩ = tl_ at *
        have HR_ := Aside0.mk hR4
        have HD_ := Aside0.mk hD4
        go_wp2_with (first
          | (go_at_call 11; refine cL_.mono ?_; rintro e wa_ ⟨rfl, ha_⟩)
          | (go_at_call 12; refine (cR_ _ ha_).mono ?_; rintro e wb_ ⟨rfl, hb0_⟩; have hb_ := ha_.trans (hb0_.mono ha_.size))
          | (go_at_call 13; refine (cC_ _ hb_).mono ?_; rintro e wc_ ⟨rfl, hc0_⟩; have hc_ := hb_.trans (hc0_.mono hb_.size); have hkc_ := blk_below hkR_ hc_; have s0_ : wc_.cell? ⟨rb, 10, none⟩ = some (.int .i64 (told_ : Int)) := blk_cell hkc_ 10; have s1_ : wc_.cell? ⟨rb, 11, none⟩ = some (.int .i64 (seen_ : Int)) := blk_cell hkc_ 11))
        go_roundg gk
        case measure => omega
        case rel => exact ⟨i + 1, false, [], base2_, told_, seen_, by first | rfl | (rw [hs1]), by omega, bw hB4 hc_, Nat.le_trans hBx4 hc_.size, HD_.out.below hc_, (HR_.out.below hc_).mono (fun _ _ => trivial), (fun h => by cases h), by omega, by omega⟩
      · have hxp : 0 < x.length := by omega
        have hx0' : ((x.length : Int) == 0) = false := beq_eq_false_iff_ne.2 (by omega)
        clear hx0
        have HRO := Aside0.mk hR
        have HDO := Aside0.mk hD
        have HSO := Aside0.mk hS
        obtain ⟨go_, rfl⟩ : ∃ x : Nat, x = gk := ⟨_, rfl⟩
        obtain ⟨wo, rfl⟩ : ∃ x : World, x = wr := ⟨_, rfl⟩
        clear hR hD hS
        go_wp2_with (at_builtin; refine Kd.R_append_row (Value.int .i64) (0 : Int) (h1 := fun _ => rfl) (w0 := wo) wo.heap.size rfl (.tmp 69) (.tmp 73) 33 3 (.int .i64 0) 8 rfl Tryz.underlying33 info3 rfl (by decide) (.slice none 0 0) [] x Ax x.length cx (fun _ => True) rfl rfl (fun _ _ => trivial) (Kd.R_nil _ _ _ _ _) (Kd.C_below hC hB1) (Below.refl _ _) (Nat.le_refl _) (by simp; omega) ?_; intro v1 w3 hR3 hb3 hg3' hat3; simp only [List.nil_append] at hR3; obtain ⟨g, cap, ev, hgB, hgl, hcap⟩ := own_shape hR3 hxp; subst ev; clear hat3 hg3')
        have hB3 := bw hB1 hb3
        have hgw : w.heap.size ≤ g := Nat.le_trans hB1.size hgB
        have hdg : db ≠ g := by omega
        have hrg : rb ≠ g := by omega
        have hDo : DAtO (fun k => k ≠ g) n u f a kd s d wt (rb + 1) w3 db ⟨has_, base_, told_, seen_⟩ := (HDO.out.old.mono (fun k hk => by omega)).below hb3
        have hRo : RAt (fun k => k ≠ g) n u f a kd s d wt (rb + 1) w3 rb ⟨has_, base2_, told_, seen_⟩ := (HRO.out.old.mono (fun k hk => by omega)).below hb3
        have hBx3 : rb + 1 ≤ w3.heap.size := Nat.le_trans hBx hb3.size
        have hRown : ∀ W1, w3.grownBy W1 (some db) → Kd.C (Kd.int .i64) W1 (some ⟨g, 0, none⟩) x.length x := fun W1 h => (Kd.R_reads' (R_keepO hR3 h (by omega))).2.2
        have OWN0 : Aside0 (∀ W1 r, w3.grownBy W1 (some r) → r < wo.heap.size → (Kd.scalar (Value.int .i64) (fun _ => rfl)).R 3 W1 wo.heap.size (fun _ => True) (.slice (some ⟨g, 0, none⟩) x.length cap) x) := Aside0.mk (fun W1 r h hr => R_keepO hR3 h hr)
        clear HDO HRO
        cases hm : mayB n u f a kd s d wt x
        · have cX := feed_bad hL hB3 hDo.all (hRown w3 (grown_below (Below.refl _ _))) hcap (by omega) hm
          have cY := fun W1 (h : Below w3.heap.size w3 W1) => rfeed_bad hrow (hRo.below h) (Kd.C_below hC (bw hB3 h)) hcx (by omega) hm
          clear hRown OWN0
          have HDo := Aside0.mk hDo
          have HRo := Aside0.mk hRo
          have HR3 := Aside0.mk hR3
          clear hDo hRo hR3
          go_wp2_with (first
            | (go_at_call 9; refine cX.mono ?_; rintro e w4 ⟨rfl, hb4, -⟩; have hB4 := bw hB3 hb4; have k4 := (hB4.cell hlt).trans h0)
            | (go_at_call 10; refine (cY _ hb4).mono ?_; rintro e w5 ⟨rfl, hb5⟩; have hb5 := hb4.trans (hb5.mono hb4.size)))
          have hBq := bw hB3 hb5
          have hDq := HDo.out.below hb5
          have hRq := HRo.out.below hb5
          have hOq := Kd.R_below HR3.out hb5
          have hsq := Nat.le_trans hBx3 hb5.size
          clear cX cY hb5 hb4 hB4 hm
          obtain ⟨wq, rfl⟩ : ∃ z : World, z = w5 := ⟨_, rfl⟩
          go_loopg [16] x.length (fun gk v16 wy => ∃ (k : Nat) (y : List Int), v16 = .int .i64 k ∧ k + gk = x.length ∧ Below w.heap.size w wy ∧ rb + 1 ≤ wy.heap.size ∧ DAtO (fun k => k ≠ g) n u f a kd s d wt (rb + 1) wy db ⟨has_, base_, told_, seen_⟩ ∧ RAt (fun k => k ≠ g) n u f a kd s d wt (rb + 1) wy rb ⟨has_, base2_, told_, seen_⟩ ∧ (Kd.scalar (Value.int .i64) (fun _ => rfl)).R 3 wy wo.heap.size (fun _ => True) (.slice (some ⟨g, 0, none⟩) x.length cap) y ∧ y.length = x.length ∧ ∀ j : Nat, k ≤ j → j < x.length → rd y (j : Int) = rd x (j : Int))
          case atStart => exact ⟨0, x, rfl, by omega, hBq, hsq, hDq, hRq, hOq, rfl, fun _ _ _ => rfl⟩
          case round =>
            obtain ⟨k, y, rfl, hkg, hBy, hsy, hDy, hRy, hOy, hyl, hyx⟩ := hrel
            cases gk with
            | zero =>
              have hk : k = x.length := by omega
              have hn_ : (k < x.length) = False := eq_false (by omega)
              have hDz := hDy.all
              have hRz := hRy
              clear hBq hDq hRq hOq hDy hRy hOy hyx hyl hkg hk
              obtain ⟨vR_, hkR_, -, -⟩ := id hRz
              have cL_ := last_calls hL hBy hDz
              have cR_ := fun W1 (h : Below (wr).heap.size (wr) W1) => rlast_calls (hRz.below h)
              have cC_ := fun W1 (h : Below (wr).heap.size (wr) W1) => count_calls (hDz.below h) (show told_ ≤ 300 by omega) (show seen_ ≤ 300 by omega)
              have eL_ : lastT n u f a kd s d wt ⟨has_, base2_, told_, seen_⟩ = lastT n u f a kd s d wt ⟨has_, base_, told_, seen_⟩ := by unfold lastT; cases has_ <;> first | rfl | (rw [HSO.out rfl])
              rw [eL_] at cR_
              clear eL_
              generalize lastT n u f a kd s d wt ⟨has_, base_, told_, seen_⟩ = tl_ at *
              have HR_ := Aside0.mk hRz
              have HD_ := Aside0.mk hDz
              go_wp2_with (first
                | (go_at_call 11; refine cL_.mono ?_; rintro e wa_ ⟨rfl, ha_⟩)
                | (go_at_call 12; refine (cR_ _ ha_).mono ?_; rintro e wb_ ⟨rfl, hb0_⟩; have hb_ := ha_.trans (hb0_.mono ha_.size))
                | (go_at_call 13; refine (cC_ _ hb_).mono ?_; rintro e wc_ ⟨rfl, hc0_⟩; have hc_ := hb_.trans (hc0_.mono hb_.size); have hkc_ := blk_below hkR_ hc_; have s0_ : wc_.cell? ⟨rb, 10, none⟩ = some (.int .i64 (told_ : Int)) := blk_cell hkc_ 10; have s1_ : wc_.cell? ⟨rb, 11, none⟩ = some (.int .i64 (seen_ : Int)) := blk_cell hkc_ 11))
              go_roundg go_
              case measure => omega
              case rel => exact ⟨i + 1, has_, base_, base2_, told_, seen_, by first | rfl | (rw [hs1]), by omega, bw hBy hc_, Nat.le_trans hsy hc_.size, HD_.out.below hc_, (HR_.out.below hc_).mono (fun _ _ => trivial), HSO.out, by omega, by omega⟩
            | succ gk =>
              have hk : k < x.length := by omega
              have hy := hyx k (Nat.le_refl _) hk
              have hcc := Kd.R_celln (0 : Int) hOy (k : Int) (by omega) (by omega)
              obtain ⟨adx, eX, hc2⟩ := Kd.at_int hC (k : Int) (by omega) (by omega)
              have hlt2 := World.block_lt_of_cell? w _ hc2
              rw [Int.toNat_natCast] at hcc hc2 hlt2
              have hf1 := hcc.2
              have hc1 : wr.cell? ⟨g, k, none⟩ = some (.int .i64 (rd x (k : Int))) := by rw [← hy]; exact hcc.1
              clear hcc
              have hc3 := (hBy.cell hlt2).trans hc2
              have hc4 := (hBy.cell hlt).trans h0
              have HX := Aside0.mk (And.intro (hBy.setCell (p := ⟨g, k, none⟩) hgw (.int .i64 0)) (And.intro (hDy.set (g := g) (fun j hj => hj) hdg k (.int .i64 0)) (And.intro (hRy.set (g := g) (fun j hj => hj) hrg k (.int .i64 0)) (Kd.R_putn hOy (k : Int) (0 : Int)))))
              have hyx2 : ∀ j : Nat, k + 1 ≤ j → j < x.length → rd (y.set k 0) (j : Int) = rd x (j : Int) := fun j h1 h2 => (rd_set y k j 0 (by omega)).trans (hyx j (by omega) h2)
              have hyl2 : (y.set k 0).length = x.length := by rw [List.length_set]; exact hyl
              have pk0 : ((0 : Int) ≤ (k : Int)) = True := eq_true (by omega)
              have pk1 : ((k : Int) < (x.length : Int)) = True := eq_true (by omega)
              have hs2 : IntKind.i64.wrap ((k : Int) + 1) = ((k + 1 : Nat) : Int) := by rw [IntWalk.i64_in _ (by omega)]; rfl
              have hsy2 := hsy
              subst eX
              clear hyx hy hDy hRy hOy hyl hBq hDq hRq hOq hc2
              generalize rd x (k : Int) = xk at *
              go_wp2
              go_region
              all_goals go_wp2
              all_goals (
                obtain ⟨hX1, hX2, hX3, hX4⟩ := HX.out
                have hdr := pw_below_drewN (Below.refl (wr.setCell ⟨g, k, none⟩ (.int .i64 0)).heap.size (wr.setCell ⟨g, k, none⟩ (.int .i64 0))) 1
                rw [Int.toNat_natCast] at hX4
                go_roundg gk
                case measure => omega
                case rel => exact ⟨k + 1, y.set k 0, by first | rfl | (rw [hs2]), by omega, bw hX1 hdr, by simp; exact hsy2, hX2.below hdr, hX3.below hdr, Kd.R_below hX4 hdr, hyl2, hyx2⟩)
        · have cX := feedO_calls (fun k hk => by have : w3.heap.size ≤ k := hk; omega) hL hB3 hdw (Nat.lt_succ_of_lt hdb') hBx3 hDo hRown hcap (by omega) hm (show told_ ≤ 299 by omega) (show seen_ ≤ 299 by omega)
          have cY := fun W1 (hsz : w3.heap.size ≤ W1.heap.size) (hB : Below w.heap.size w W1) (hR : RAt (fun k => k ≠ g) n u f a kd s d wt (rb + 1) W1 rb ⟨has_, base2_, told_, seen_⟩) => rfeed_calls (fun k (hk : W1.heap.size ≤ k) => (by omega : k ≠ g)) hrow (Nat.lt_succ_self rb) (Nat.le_trans hBx3 hsz) hR (fun W2 h => Kd.C_below hC (below_grown hB h hrw)) hcx (show x.length ≤ 1000 by omega) hm (show told_ ≤ 299 by omega) (show seen_ ≤ 299 by omega)
          obtain ⟨ef, h1, b1, b2, t1, es1, es2, hsn, htn⟩ := feed_pair n u f a kd s d wt has_ base_ base2_ told_ seen_ x HSO.out
          rw [es1] at cX
          rw [es2, ef] at cY
          clear es1 es2 ef hRown hDo hm HSO
          generalize feedB n u f a kd s d wt ⟨has_, base_, told_, seen_⟩ x = q_ at *
          generalize (if q_ then textR n u f a kd s d wt x else ⟨#[]⟩) = tq_ at *
          have HRo := Aside0.mk hRo
          clear hRo hR3
          go_wp2_with (first
            | (go_at_call 9; refine cX.mono ?_; rintro e w4 ⟨rfl, hg4, hD4⟩; have hB4 := below_grown hB3 hg4 hdw; have k4 := (hB4.cell hlt).trans h0; have hR4 := HRo.out.other hg4 (Nat.lt_succ_of_lt hdb') (Ne.symm hne))
            | (go_at_call 10; refine (cY _ hg4.size hB4 hR4).mono ?_; rintro e w5 ⟨rfl, hg5, hR5⟩))
          have hBq := below_grown hB4 hg5 hrw
          have hDq := hD4.other hg5 (Nat.lt_succ_self rb) hne
          have hRq := hR5
          have hOq := R_keepO (OWN0.out w4 db hg4 (by omega)) hg5 (by omega)
          have hsq := Nat.le_trans hBx3 (Nat.le_trans hg4.size hg5.size)
          clear cX cY hR5 hD4 hR4 hB4 hg4 hg5 OWN0
          obtain ⟨wq, rfl⟩ : ∃ z : World, z = w5 := ⟨_, rfl⟩
          go_loopg [16] x.length (fun gk v16 wy => ∃ (k : Nat) (y : List Int), v16 = .int .i64 k ∧ k + gk = x.length ∧ Below w.heap.size w wy ∧ rb + 1 ≤ wy.heap.size ∧ DAtO (fun k => k ≠ g) n u f a kd s d wt (rb + 1) wy db ⟨h1, b1, t1, (seen_ + 1)⟩ ∧ RAt (fun k => k ≠ g) n u f a kd s d wt (rb + 1) wy rb ⟨h1, b2, t1, (seen_ + 1)⟩ ∧ (Kd.scalar (Value.int .i64) (fun _ => rfl)).R 3 wy wo.heap.size (fun _ => True) (.slice (some ⟨g, 0, none⟩) x.length cap) y ∧ y.length = x.length ∧ ∀ j : Nat, k ≤ j → j < x.length → rd y (j : Int) = rd x (j : Int))
          case atStart => exact ⟨0, x, rfl, by omega, hBq, hsq, hDq, hRq, hOq, rfl, fun _ _ _ => rfl⟩
          case round =>
            obtain ⟨k, y, rfl, hkg, hBy, hsy, hDy, hRy, hOy, hyl, hyx⟩ := hrel
            cases gk with
            | zero =>
              have hk : k = x.length := by omega
              have hn_ : (k < x.length) = False := eq_false (by omega)
              have hDz := hDy.all
              have hRz := hRy
              clear hBq hDq hRq hOq hDy hRy hOy hyx hyl hkg hk
              obtain ⟨vR_, hkR_, -, -⟩ := id hRz
              have cL_ := last_calls hL hBy hDz
              have cR_ := fun W1 (h : Below (wr).heap.size (wr) W1) => rlast_calls (hRz.below h)
              have cC_ := fun W1 (h : Below (wr).heap.size (wr) W1) => count_calls (hDz.below h) (show t1 ≤ 300 by omega) (show (seen_ + 1) ≤ 300 by omega)
              have eL_ : lastT n u f a kd s d wt ⟨h1, b2, t1, (seen_ + 1)⟩ = lastT n u f a kd s d wt ⟨h1, b1, t1, (seen_ + 1)⟩ := by unfold lastT; cases h1 <;> first | rfl | (rw [hsn rfl])
              rw [eL_] at cR_
              clear eL_
              generalize lastT n u f a kd s d wt ⟨h1, b1, t1, (seen_ + 1)⟩ = tl_ at *
              have HR_ := Aside0.mk hRz
              have HD_ := Aside0.mk hDz
              go_wp2_with (first
                | (go_at_call 11; refine cL_.mono ?_; rintro e wa_ ⟨rfl, ha_⟩)
                | (go_at_call 12; refine (cR_ _ ha_).mono ?_; rintro e wb_ ⟨rfl, hb0_⟩; have hb_ := ha_.trans (hb0_.mono ha_.size))
                | (go_at_call 13; refine (cC_ _ hb_).mono ?_; rintro e wc_ ⟨rfl, hc0_⟩; have hc_ := hb_.trans (hc0_.mono hb_.size); have hkc_ := blk_below hkR_ hc_; have s0_ : wc_.cell? ⟨rb, 10, none⟩ = some (.int .i64 (t1 : Int)) := blk_cell hkc_ 10; have s1_ : wc_.cell? ⟨rb, 11, none⟩ = some (.int .i64 ((seen_ + 1) : Int)) := blk_cell hkc_ 11))
              go_roundg go_
              case measure => omega
              case rel => exact ⟨i + 1, h1, b1, b2, t1, (seen_ + 1), by first | rfl | (rw [hs1]), by omega, bw hBy hc_, Nat.le_trans hsy hc_.size, HD_.out.below hc_, (HR_.out.below hc_).mono (fun _ _ => trivial), hsn, by omega, by omega⟩
            | succ gk =>
              have hk : k < x.length := by omega
              have hy := hyx k (Nat.le_refl _) hk
              have hcc := Kd.R_celln (0 : Int) hOy (k : Int) (by omega) (by omega)
              obtain ⟨adx, eX, hc2⟩ := Kd.at_int hC (k : Int) (by omega) (by omega)
              have hlt2 := World.block_lt_of_cell? w _ hc2
              rw [Int.toNat_natCast] at hcc hc2 hlt2
              have hf1 := hcc.2
              have hc1 : wr.cell? ⟨g, k, none⟩ = some (.int .i64 (rd x (k : Int))) := by rw [← hy]; exact hcc.1
              clear hcc
              have hc3 := (hBy.cell hlt2).trans hc2
              have hc4 := (hBy.cell hlt).trans h0
              have HX := Aside0.mk (And.intro (hBy.setCell (p := ⟨g, k, none⟩) hgw (.int .i64 0)) (And.intro (hDy.set (g := g) (fun j hj => hj) hdg k (.int .i64 0)) (And.intro (hRy.set (g := g) (fun j hj => hj) hrg k (.int .i64 0)) (Kd.R_putn hOy (k : Int) (0 : Int)))))
              have hyx2 : ∀ j : Nat, k + 1 ≤ j → j < x.length → rd (y.set k 0) (j : Int) = rd x (j : Int) := fun j h1 h2 => (rd_set y k j 0 (by omega)).trans (hyx j (by omega) h2)
              have hyl2 : (y.set k 0).length = x.length := by rw [List.length_set]; exact hyl
              have pk0 : ((0 : Int) ≤ (k : Int)) = True := eq_true (by omega)
              have pk1 : ((k : Int) < (x.length : Int)) = True := eq_true (by omega)
              have hs2 : IntKind.i64.wrap ((k : Int) + 1) = ((k + 1 : Nat) : Int) := by rw [IntWalk.i64_in _ (by omega)]; rfl
              have hsy2 := hsy
              subst eX
              clear hyx hy hDy hRy hOy hyl hBq hDq hRq hOq hc2
              generalize rd x (k : Int) = xk at *
              go_wp2
              go_region
              all_goals go_wp2
              all_goals (
                obtain ⟨hX1, hX2, hX3, hX4⟩ := HX.out
                have hdr := pw_below_drewN (Below.refl (wr.setCell ⟨g, k, none⟩ (.int .i64 0)).heap.size (wr.setCell ⟨g, k, none⟩ (.int .i64 0))) 1
                rw [Int.toNat_natCast] at hX4
                go_roundg gk
                case measure => omega
                case rel => exact ⟨k + 1, y.set k 0, by first | rfl | (rw [hs2]), by omega, bw hX1 hdr, by simp; exact hsy2, hX2.below hdr, hX3.below hdr, Kd.R_below hX4 hdr, hyl2, hyx2⟩)
end Go.Proofs.YtenbkjeflancaaaGreatDoor.Dr
