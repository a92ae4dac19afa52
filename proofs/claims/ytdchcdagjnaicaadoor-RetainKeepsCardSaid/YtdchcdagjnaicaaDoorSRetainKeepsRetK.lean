/- What the proof of RetainKeeps leans on: RetK. -/
import Derived.Test.YtdchcdagjnaicaaDoorSRetainKeepsRetJ
set_option linter.unusedVariables false
set_option linter.unusedSimpArgs false
namespace Go.Proofs.YtdchcdagjnaicaaDoor.Rt
open Go Go.RowKit Go.ChangeMaps Go.MapKept Go.Proofs.YtdchcdagjnaicaaDoorW.PrintWords Go.Proofs.YtdchcdagjnaicaaDoor.Q Go.Proofs.YtdchcdagjnaicaaDoor.Mp Go.Proofs.YtdchcdagjnaicaaDoor.Top
def refStep (m : Msg) (s : Bool × List Msg) (x : Msg) : Bool × List Msg :=
  (s.1 || ltS m.f0 x.f0, (if (!s.1 && ltS m.f0 x.f0) = true then s.2 ++ [m] else s.2) ++ (if x.f0 = m.f0 then [] else [x]))
def refFold (m : Msg) (l : List Msg) : Bool × List Msg := l.foldl (refStep m) (m.f1.toList.isEmpty, [])
def refEnd (m : Msg) (s : Bool × List Msg) : List Msg := if s.1 = true then s.2 else s.2 ++ [m]
theorem fold_done (m : Msg) : ∀ (l acc : List Msg), l.foldl (refStep m) (true, acc) = (true, acc ++ delS tpc l m.f0)
  | [], acc => by simp [delS]
  | x :: r, acc => by
    have e : refStep m (true, acc) x = (true, acc ++ (if x.f0 = m.f0 then [] else [x])) := by simp [refStep]
    rw [List.foldl_cons, e, fold_done m r]
    by_cases h : x.f0 = m.f0
    · simp [delS, h, tpc]
    · simp [delS, h, tpc]
theorem del_all {l : List Msg} {t : ByteArray} (h : ∀ x ∈ l, x.f0 ≠ t) : delS tpc l t = l := by
  unfold delS
  refine List.filter_eq_self.2 (fun x hx => ?_)
  rw [decide_eq_false (show ¬ tpc x = t from h x hx)]
  rfl
theorem put_low {l : List Msg} {m : Msg} (h : ∀ x ∈ l, ltS m.f0 x.f0 = true) : putS tpc l m = m :: l := by
  cases l with
  | nil => rfl
  | cons x r =>
    unfold putS
    rw [if_pos (show ltS (tpc m) (tpc x) = true from h x (by simp))]
theorem fold_put (m : Msg) : ∀ (l acc : List Msg), Srt tpc l → refEnd m (l.foldl (refStep m) (false, acc)) = acc ++ putS tpc l m
  | [], acc, _ => by simp [refEnd, putS]
  | x :: r, acc, h => by
    obtain ⟨h1, h2⟩ := List.pairwise_cons.1 h
    rw [List.foldl_cons]
    unfold putS
    cases hl : ltS m.f0 x.f0
    · rw [if_neg (show ¬ ltS (tpc m) (tpc x) = true by unfold tpc; rw [hl]; decide)]
      by_cases he : x.f0 = m.f0
      · have e : refStep m (false, acc) x = (false, acc) := by simp [refStep, he, ltS_irrefl]
        rw [e, fold_put m r acc h2, if_pos (show tpc x = tpc m from he), put_low (fun y hy => by rw [← he]; exact h1 y hy)]
      · have e : refStep m (false, acc) x = (false, acc ++ [x]) := by simp [refStep, hl, he]
        rw [e, fold_put m r _ h2, if_neg (show ¬ tpc x = tpc m from he), List.append_assoc]
        rfl
    · rw [if_pos (show ltS (tpc m) (tpc x) = true from hl)]
      have hne : x.f0 ≠ m.f0 := fun e => by rw [e, ltS_irrefl] at hl; cases hl
      have e : refStep m (false, acc) x = (true, acc ++ [m] ++ [x]) := by simp [refStep, hl, hne]
      rw [e, fold_done, del_all (fun y hy e2 => by
        have := ltS_trans hl (show ltS x.f0 y.f0 = true from h1 y hy)
        rw [e2, ltS_irrefl] at this
        cases this)]
      simp [refEnd]
theorem ref_end {m : Msg} {st : List Msg} (h : Srt tpc st) (hp : putB m = true) : refEnd m (refFold m st) = putF st m := by
  unfold putF refFold
  rw [hp, if_pos rfl]
  cases he : m.f1.toList.isEmpty
  · rw [fold_put m st [] h]
    rfl
  · rw [fold_done]
    rfl
theorem ref_take (m : Msg) (st : List Msg) (i : Nat) (h : i < st.length) : refFold m (st.take (i + 1)) = refStep m (refFold m (st.take i)) (rd_T27 st (i : Int)) := by
  unfold refFold
  rw [take_M st i h, List.foldl_append]
  rfl
theorem ref_len (m : Msg) (st : List Msg) : ∀ i, i ≤ st.length → (refFold m (st.take i)).2.length ≤ 2 * i := by
  intro i
  induction i with
  | zero => intro _; simp [refFold]
  | succ i ih =>
    intro h
    have := ih (by omega)
    rw [ref_take m st i (by omega)]
    unfold refStep
    simp only [List.length_append]
    split <;> split <;> simp <;> omega
theorem name12_calls (s : ByteArray) (w : World) :
    Calls Tryd.prog 31 #[.string s] w fun e w' => e = .returned (.bool (isName s)) ∧ Below w.heap.size w w' := by
  obtain ⟨k, hk⟩ := (name_ev s).rounds
  exact basculeref12_Name.calls k s _ w hk
def RAt (W : World) (rb : Nat) (st : List Msg) : Prop :=
  ∃ v, W.heap[rb]? = some (.cells #[v] 44 (0, 0)) ∧ Kd.R k27 27 W 0 (fun _ => True) v st
theorem RAt.below {W W' : World} {rb : Nat} {st : List Msg} (h : RAt W rb st) (hb : Below W.heap.size W W') : RAt W' rb st := by
  obtain ⟨v, h1, h2⟩ := h
  exact ⟨v, blk_below h1 hb, Kd.R_below h2 hb⟩
theorem RAt.grown {W W' : World} {rb r : Nat} {st : List Msg} (h : RAt W rb st) (hg : W.grownBy W' (some r)) (hne : rb ≠ r) (ht : ∀ cells, W.heap[r]? ≠ some (.cells cells 27 (0, 0))) : RAt W' rb st := by
  obtain ⟨v, h1, h2⟩ := h
  have hown : ∀ k, v.ownBlock = some k → k ≠ r := fun k hk e => by
    obtain ⟨cells, hc⟩ := Kd.R_typed h2 k hk
    exact ht cells (by rw [← e]; exact hc)
  refine ⟨v, (hg.block rb (blk_lt h1) (fun e => hne (by injection e))).trans h1, ?_⟩
  have h3 : Kd.R k27 27 W 0 (fun k => v.ownBlock = some k) v st := R_own h2
  have h4 := Kd.R_grown h3 hg (fun k hk e => hown k hk (by injection e))
  obtain ⟨h0, rest⟩ := h4
  obtain ⟨inner, ho, hr⟩ := rest
  exact ⟨fun k hk => trivial, inner, ho, hr.imp_ (fun x cs hp => by rw [k27_openM hp]; exact k27_mkM _ _ _ x)⟩
theorem R_box {W : World} {base rb : Nat} {ok : Nat → Prop} {v u u' : Value} {xs : List Msg} (h2 : Kd.R k27 27 W base ok v xs) (h1 : W.heap[rb]? = some (.cells #[u] 44 (0, 0))) : Kd.R k27 27 (W.setCell ⟨rb, 0, none⟩ u') 0 (fun _ => True) v xs := by
  have hg := grown_set (grown_below (r := some rb) (Below.refl W.heap.size W)) 0 u'
  have h3 : Kd.R k27 27 W 0 (fun k => v.ownBlock = some k) v xs := R_own (Kd.R_lower h2 (Nat.zero_le _))
  have h4 := Kd.R_grown h3 hg (fun k hk e => by
    obtain ⟨cells, hc⟩ := Kd.R_typed h2 k hk
    injection e with e
    rw [e, h1] at hc
    simp at hc)
  obtain ⟨h0, inner, ho, hr⟩ := h4
  exact ⟨fun k hk => trivial, inner, ho, hr.imp_ (fun x cs hp => by rw [k27_openM hp]; exact k27_mkM _ _ _ x)⟩
def RefRel (W2 : World) (st : List Msg) (m : Msg) (gk : Nat) (v6 v7 v8 : Value) (wx : World) : Prop :=
  ∃ (i : Nat), v8 = .int .i64 i ∧ i + gk = st.length ∧ v7 = .bool (refFold m (st.take i)).1 ∧ Kd.R k27 27 wx W2.heap.size (fun _ => True) v6 (refFold m (st.take i)).2 ∧ Below W2.heap.size W2 wx
def RefPost (W : World) (rb : Nat) (st : List Msg) (m : Msg) (e : Ending) (W' : World) : Prop :=
  e = .returned (.tuple #[.bool (putB m), .int .i64 (putE m)]) ∧ W.grownBy W' (some rb) ∧ RAt W' rb (putF st m)
set_option maxHeartbeats 8000000 in
set_option maxRecDepth 1000000 in
theorem rput_calls (W : World) (rb : Nat) (st : List Msg) (m : Msg) (hR : RAt W rb st) (hs : Srt tpc st) (hlen : st.length ≤ 1000) :
    Calls Tryd.prog 18 #[.pointer (some ⟨rb, 0, none⟩), .agg #[.string m.f0, .string m.f1, .int .i64 m.f2, .bool m.f3]] W (RefPost W rb st m) := by
  have hal := (Below.refl W.heap.size W).alloc (Nat.le_refl _) (.cells #[.string m.f0, .string m.f1, .int .i64 m.f2, .bool m.f3] 27 (0, 0))
  have hbx := blk_new W (.cells #[.string m.f0, .string m.f1, .int .i64 m.f2, .bool m.f3] 27 (0, 0))
  have hR1 := hR.below hal
  have cN := name12_calls m.f0
  have b0 := blk_cell hbx 0
  have HB := Lib.hid hbx
  -- the ways that leave what is kept alone
  have quiet : ∀ (b : Bool) (er : Int) (w1 : World), putB m = false → putE m = er → b = false → Below (W.alloc (.cells #[.string m.f0, .string m.f1, .int .i64 m.f2, .bool m.f3] 27 (0, 0))).heap.size (W.alloc (.cells #[.string m.f0, .string m.f1, .int .i64 m.f2, .bool m.f3] 27 (0, 0))) w1 → RefPost W rb st m (.returned (.tuple #[.bool b, .int .i64 er])) w1 := by
    intro b er w1 h1 h2 h3 h4
    have hb := hal.trans (h4.mono hal.size)
    refine ⟨by rw [h1, h2, h3], grown_below hb, ?_⟩
    unfold putF
    rw [if_neg (by rw [h1]; decide)]
    exact hR.below hb
  have Q := Aside0.mk quiet
  have HAL := Lib.hid hal
  clear quiet hbx hal
  cases hn : isName m.f0
  · rw [hn] at cN
    have F := Lib.hid (show putB m = false ∧ putE m = 120 by unfold putB putE; rw [hn]; exact ⟨rfl, rfl⟩)
    clear hn hR hs hlen hR1
    go_enter Tryd.func18, Tryd.ntmps18
    go_wp2_with (go_at_call 31; refine (cN _).mono ?_; rintro e w1 ⟨rfl, hb1⟩)
    go_ret2
    exact Q.out false 120 w1 F.out.1 F.out.2 rfl hb1
  rw [hn] at cN
  cases h0 : decide (m.f2 < 0)
  · cases h2 : decide (2 < m.f2)
    · cases h3 : m.f3
      · have F := Lib.hid (show putB m = false ∧ putE m = 0 by unfold putB putE; rw [hn, h0, h2, h3]; exact ⟨rfl, rfl⟩)
        rw [h3] at b0 HB Q HAL
        clear hn hR hs hlen h3 hR1
        have h2' : decide (m.f2 > 2) = false := h2
        go_enter Tryd.func18, Tryd.ntmps18
        go_wp2_with (go_at_call 31; refine (cN _).mono ?_; rintro e w1 ⟨rfl, hb1⟩; have hk1 := blk_below HB.out hb1; have q0 := blk_cell hk1 0; have q1 := blk_cell hk1 1; have q2 := blk_cell hk1 2; have q3 := blk_cell hk1 3)
        go_ret2
        exact Q.out false 0 w1 F.out.1 F.out.2 rfl hb1
      · have hpb : putB m = true := by unfold putB; rw [hn, h0, h2, h3]; rfl
        have hpe : putE m = 0 := by unfold putE; rw [hn, h0, h2]; rfl
        have FE := Lib.hid (ref_end hs hpb)
        have F := Lib.hid (And.intro hpb hpe)
        have HL := Lib.hid hlen
        have hf3 := Lib.hid h3
        obtain ⟨v, hvb, hvR⟩ := hR1
        have HVR := Lib.hid (And.intro hvb hvR)
        rw [h3] at b0 HB HAL HVR hvb hvR
        have h2' : decide (m.f2 > 2) = false := h2
        have e1 : (m.f1.toList == []) = m.f1.toList.isEmpty := by cases m.f1.toList <;> rfl
        obtain ⟨A0, c0, rfl⟩ := Kd.R_slice hvR
        clear hn hR hs hlen h3 Q hpb hpe hvb hvR
        go_enter Tryd.func18, Tryd.ntmps18
        go_wp2_with (go_at_call 31; refine (cN _).mono ?_; rintro e w1 ⟨rfl, hb1⟩; have hk1 := blk_below HB.out hb1; have q0 := blk_cell hk1 0; have q1 := blk_cell hk1 1; have q2 := blk_cell hk1 2; have q3 := blk_cell hk1 3)
        have hrb1 := blk_below HVR.out.1 hb1
        have hRv1 := Kd.R_below HVR.out.2 hb1
        have hw1 := HAL.out.trans (hb1.mono HAL.out.size)
        have HQ := Lib.hid (show ∀ wx, Below w1.heap.size w1 wx → wx.heap[rb]? = some (.cells #[.slice A0 st.length c0] 44 (0, 0)) ∧ wx.heap[W.heap.size]? = some (.cells #[.string m.f0, .string m.f1, .int .i64 m.f2, .bool true] 27 (0, 0)) ∧ Kd.R k27 27 wx 0 (fun _ => True) (.slice A0 st.length c0) st from fun wx hb => ⟨blk_below hrb1 hb, blk_below hk1 hb, Kd.R_below hRv1 hb⟩)
        have HW := Lib.hid hw1
        clear hrb1 hRv1 hk1 q0 q1 q2 q3 hb1 HVR hw1 HB b0 HAL cN
        go_loopg [6, 7, 8] st.length (fun gk v6 v7 v8 wx => RefRel w1 st m gk v6 v7 v8 wx)
        case atStart => exact ⟨0, rfl, by omega, rfl, Kd.R_nil _ _ _ _ _, Below.refl _ _⟩
        case round =>
          obtain ⟨i, rfl, hig, rfl, hX, hBx⟩ := hrel
          obtain ⟨hrb, hbb, hRv⟩ := HQ.out wr hBx
          have r0 := blk_cell hrb 0
          have b0 := blk_cell hbb 0
          have b1 := blk_cell hbb 1
          have b2 := blk_cell hbb 2
          have b3 := blk_cell hbb 3
          obtain ⟨A6, c6, rfl⟩ := Kd.R_slice hX
          have hlx := ref_len m st i (by omega)
          cases gk with
          | zero =>
            have hi : i = st.length := by omega
            have hnl : (i < st.length) = False := eq_false (by omega)
            have hFE := FE.out
            rw [hi, List.take_length] at hX hlx ⊢
            generalize refFold m st = s at hX hlx hFE ⊢
            obtain ⟨done, acc⟩ := s
            dsimp only at hX hlx ⊢
            clear hig
            cases done
            · have hEq : acc ++ [m] = putF st m := by simpa [refEnd] using hFE
              have HEq := Lib.hid hEq
              clear hEq hFE
              go_wp2_with (at_builtin; refine Kd.R_append k27 (w0 := w1) w1.heap.size rfl (.tmp 78) (.tmp 80) 22 27 (.agg #[.string ⟨#[]⟩, .string ⟨#[]⟩, .int .i64 0, .bool false]) 48 rfl Tryd.underlying22 (by kernel_rfl) rfl (by decide) (by omega) (.slice A6 (acc).length c6) (acc) m [.string m.f0, .string m.f1, .int .i64 m.f2, .bool true] (fun _ => True) (fun _ => False) rfl rfl (by have h_ := k27_mkM wr w1.heap.size (fun _ => False) m; rw [hf3.out] at h_; exact h_) (fun _ hk => hk.elim) (fun _ _ => trivial) hX hBx hBx.size (by have := HL.out; (try simp only [List.length_append, List.length_singleton]); omega) ?_; intro v7 w7 hX7 hB7 hg7 hat7; obtain ⟨A7, c7, rfl⟩ := Kd.R_slice hX7; obtain ⟨hrb7, hbb7, -⟩ := HQ.out w7 hB7; have r7 := blk_cell hrb7 0; have qf7 := blk_frozen hrb7 0)
              go_ret2
              have hBw := HW.out.trans (hB7.mono HW.out.size)
              refine ⟨by rw [F.out.1, F.out.2]; rfl, grown_set (grown_below hBw) 0 _, ⟨_, blk_set hrb7 0 _, ?_⟩⟩
              rw [show (acc ++ [m]).length = acc.length + 1 by simp] at hX7
              rw [← HEq.out]
              exact R_box hX7 hrb7
            · have hEq : acc = putF st m := by simpa [refEnd] using hFE
              have HEq := Lib.hid hEq
              have qf := blk_frozen hrb 0
              clear hEq hFE
              go_wp2
              go_ret2
              have hBw := HW.out.trans (hBx.mono HW.out.size)
              refine ⟨by rw [F.out.1, F.out.2]; rfl, grown_set (grown_below hBw) 0 _, ⟨_, blk_set hrb 0 _, ?_⟩⟩
              rw [← HEq.out]
              exact R_box hX hrb
          | succ gk =>
            have hi : i < st.length := by omega
            have hltN : (i < st.length) = True := eq_true hi
            have hlt2 : decide ((i : Int) < (st.length : Int)) = true := decide_eq_true (by omega)
            have p0 : ((0 : Int) ≤ (i : Int)) = True := eq_true (by omega)
            have p1 : ((i : Int) < (st.length : Int)) = True := eq_true (by omega)
            have hs1 : IntKind.i64.wrap ((i : Int) + 1) = ((i + 1 : Nat) : Int) := by rw [IntWalk.i64_in _ (by have := HL.out; omega)]; rfl
            obtain ⟨ad, eA, -⟩ := cells_any (Kd.R_reads' hRv).2.2 i hi
            subst eA
            obtain ⟨k0, k1, k2, k3⟩ := cells_some (Kd.R_reads' hRv).2.2 i hi
            have hstep := ref_take m st i hi
            obtain ⟨x, hxe⟩ : ∃ x, rd_T27 st (i : Int) = x := ⟨_, rfl⟩
            rw [hxe] at k0 k1 k2 k3 hstep
            have HXX := Lib.hid hxe
            clear hxe
            generalize refFold m (st.take i) = s at hX hstep hlx ⊢
            obtain ⟨done, acc⟩ := s
            dsimp only at hX hlx ⊢
            cases done
            · cases hl : ltS m.f0 x.f0
              · by_cases he : x.f0 = m.f0
                · have hl0 : ltS m.f0 x.f0 = false := hl
                  have hne : (x.f0.toList == m.f0.toList) = true := by rw [ba_eq]; exact decide_eq_true he
                  have HE := Lib.hid (And.intro he hl0)
                  clear he hl0 hl
                  go_wp2
                  go_quiet (fail)
                  have hb5 := pw_below_drewN (Below.refl wr.heap.size wr) nq
                  generalize wr.drewN nq = w5 at hb5 ⊢
                  have hB5 := hBx.trans (hb5.mono hBx.size)
                  have hX5 := Kd.R_below hX hb5
                  obtain ⟨hrb5, hbb5, hRv5⟩ := HQ.out w5 hB5
                  have r5 := blk_cell hrb5 0
                  have b50 := blk_cell hbb5 0
                  have b51 := blk_cell hbb5 1
                  have b52 := blk_cell hbb5 2
                  have b53 := blk_cell hbb5 3
                  obtain ⟨k50, k51, k52, k53⟩ := cells_some (Kd.R_reads' hRv5).2.2 i hi
                  rw [HXX.out] at k50 k51 k52 k53
                  go_wp2
                  go_quiet (fail)
                  have hb8 := pw_below_drewN (Below.refl w5.heap.size w5) nq
                  generalize w5.drewN nq = w8 at hb8 ⊢
                  have hB8 := hB5.trans (hb8.mono hB5.size)
                  have hX8 := Kd.R_below hX5 hb8
                  obtain ⟨hrb8, hbb8, hRv8⟩ := HQ.out w8 hB8
                  have r8 := blk_cell hrb8 0
                  have b80 := blk_cell hbb8 0
                  have b81 := blk_cell hbb8 1
                  have b82 := blk_cell hbb8 2
                  have b83 := blk_cell hbb8 3
                  obtain ⟨k80, k81, k82, k83⟩ := cells_some (Kd.R_reads' hRv8).2.2 i hi
                  rw [HXX.out] at k80 k81 k82 k83
                  go_wp2
                  obtain ⟨he, hl0⟩ := HE.out
                  go_roundg gk
                  case measure => omega
                  case rel => exact ⟨i + 1, by first | rfl | (rw [hs1]), by omega, by rw [hstep]; simp [refStep, hl0, he, ltS_irrefl], by rw [hstep]; simpa [refStep, hl0, he, ltS_irrefl] using hX8, hB8⟩
                · have hl0 : ltS m.f0 x.f0 = false := hl
                  have hne : (x.f0.toList == m.f0.toList) = false := by rw [ba_eq]; exact decide_eq_false he
                  have hgt : Op.bytesLess x.f0.toList m.f0.toList = true := by
                    cases h_ : ltS x.f0 m.f0 with
                    | true => exact h_
                    | false => exact absurd (ltS_total h_ hl) he
                  have HE := Lib.hid (And.intro he hl0)
                  clear he hl0 hl
                  go_wp2
                  go_quiet (fail)
                  have hb5 := pw_below_drewN (Below.refl wr.heap.size wr) nq
                  generalize wr.drewN nq = w5 at hb5 ⊢
                  have hB5 := hBx.trans (hb5.mono hBx.size)
                  have hX5 := Kd.R_below hX hb5
                  obtain ⟨hrb5, hbb5, hRv5⟩ := HQ.out w5 hB5
                  have r5 := blk_cell hrb5 0
                  have b50 := blk_cell hbb5 0
                  have b51 := blk_cell hbb5 1
                  have b52 := blk_cell hbb5 2
                  have b53 := blk_cell hbb5 3
                  obtain ⟨k50, k51, k52, k53⟩ := cells_some (Kd.R_reads' hRv5).2.2 i hi
                  rw [HXX.out] at k50 k51 k52 k53
                  go_wp2
                  go_quiet (fail)
                  have hb8 := pw_below_drewN (Below.refl w5.heap.size w5) nq
                  generalize w5.drewN nq = w8 at hb8 ⊢
                  have hB8 := hB5.trans (hb8.mono hB5.size)
                  have hX8 := Kd.R_below hX5 hb8
                  obtain ⟨hrb8, hbb8, hRv8⟩ := HQ.out w8 hB8
                  have r8 := blk_cell hrb8 0
                  have b80 := blk_cell hbb8 0
                  have b81 := blk_cell hbb8 1
                  have b82 := blk_cell hbb8 2
                  have b83 := blk_cell hbb8 3
                  obtain ⟨k80, k81, k82, k83⟩ := cells_some (Kd.R_reads' hRv8).2.2 i hi
                  rw [HXX.out] at k80 k81 k82 k83
                  go_wp2_with (at_builtin; refine Kd.R_append k27 (w0 := w1) w1.heap.size rfl (.tmp 66) (.tmp 74) 22 27 (.agg #[.string ⟨#[]⟩, .string ⟨#[]⟩, .int .i64 0, .bool false]) 48 rfl Tryd.underlying22 (by kernel_rfl) rfl (by decide) (by omega) (.slice A6 (acc).length c6) (acc) x [.string x.f0, .string x.f1, .int .i64 x.f2, .bool x.f3] (fun _ => True) (fun _ => False) rfl rfl (by exact k27_mkM w8 _ _ x) (fun _ hk => hk.elim) (fun _ _ => trivial) hX8 hB8 hB8.size (by have := HL.out; (try simp only [List.length_append, List.length_singleton]); omega) ?_; intro v9 w9 hX9 hB9 hg9 hat9)
                  obtain ⟨he, hl0⟩ := HE.out
                  go_roundg gk
                  case measure => omega
                  case rel => exact ⟨i + 1, by first | rfl | (rw [hs1]), by omega, by rw [hstep]; simp [refStep, hl0, he, ltS_irrefl], by rw [hstep]; simpa [refStep, hl0, he, ltS_irrefl] using hX9, hB9⟩
              · have he : ¬ x.f0 = m.f0 := fun e => by rw [e, ltS_irrefl] at hl; cases hl
                have hl0 : ltS m.f0 x.f0 = true := hl
                have hne : (x.f0.toList == m.f0.toList) = false := by rw [ba_eq]; exact decide_eq_false he
                have hgt : Op.bytesLess x.f0.toList m.f0.toList = false := ltS_asymm hl
                have HE := Lib.hid (And.intro he hl0)
                clear he hl0 hl
                go_wp2
                go_quiet (fail)
                have hb5 := pw_below_drewN (Below.refl wr.heap.size wr) nq
                generalize wr.drewN nq = w5 at hb5 ⊢
                have hB5 := hBx.trans (hb5.mono hBx.size)
                have hX5 := Kd.R_below hX hb5
                obtain ⟨hrb5, hbb5, hRv5⟩ := HQ.out w5 hB5
                have r5 := blk_cell hrb5 0
                have b50 := blk_cell hbb5 0
                have b51 := blk_cell hbb5 1
                have b52 := blk_cell hbb5 2
                have b53 := blk_cell hbb5 3
                obtain ⟨k50, k51, k52, k53⟩ := cells_some (Kd.R_reads' hRv5).2.2 i hi
                rw [HXX.out] at k50 k51 k52 k53
                go_wp2_with (at_builtin; refine Kd.R_append k27 (w0 := w1) w1.heap.size rfl (.tmp 51) (.tmp 53) 22 27 (.agg #[.string ⟨#[]⟩, .string ⟨#[]⟩, .int .i64 0, .bool false]) 48 rfl Tryd.underlying22 (by kernel_rfl) rfl (by decide) (by omega) (.slice A6 (acc).length c6) (acc) m [.string m.f0, .string m.f1, .int .i64 m.f2, .bool true] (fun _ => True) (fun _ => False) rfl rfl (by have h_ := k27_mkM w5 w1.heap.size (fun _ => False) m; rw [hf3.out] at h_; exact h_) (fun _ hk => hk.elim) (fun _ _ => trivial) hX5 hB5 hB5.size (by have := HL.out; (try simp only [List.length_append, List.length_singleton]); omega) ?_; intro v7 w7 hX7 hB7 hg7 hat7)
                obtain ⟨A7, c7, rfl⟩ := Kd.R_slice hX7
                have hbz := HQ.out w7 hB7
                obtain ⟨hrb7, hbb7, hRv7⟩ := HQ.out w7 hB7
                have r7 := blk_cell hrb7 0
                have b70 := blk_cell hbb7 0
                have b71 := blk_cell hbb7 1
                have b72 := blk_cell hbb7 2
                have b73 := blk_cell hbb7 3
                obtain ⟨k70, k71, k72, k73⟩ := cells_some (Kd.R_reads' hRv7).2.2 i hi
                rw [HXX.out] at k70 k71 k72 k73
                try go_wp2
                go_quiet (fail)
                have hb8 := pw_below_drewN (Below.refl w7.heap.size w7) nq
                generalize w7.drewN nq = w8 at hb8 ⊢
                have hB8 := hB7.trans (hb8.mono hB7.size)
                have hX8 := Kd.R_below hX7 hb8
                obtain ⟨hrb8, hbb8, hRv8⟩ := HQ.out w8 hB8
                have r8 := blk_cell hrb8 0
                have b80 := blk_cell hbb8 0
                have b81 := blk_cell hbb8 1
                have b82 := blk_cell hbb8 2
                have b83 := blk_cell hbb8 3
                obtain ⟨k80, k81, k82, k83⟩ := cells_some (Kd.R_reads' hRv8).2.2 i hi
                rw [HXX.out] at k80 k81 k82 k83
                go_wp2_with (at_builtin; refine Kd.R_append k27 (w0 := w1) w1.heap.size rfl (.tmp 66) (.tmp 74) 22 27 (.agg #[.string ⟨#[]⟩, .string ⟨#[]⟩, .int .i64 0, .bool false]) 48 rfl Tryd.underlying22 (by kernel_rfl) rfl (by decide) (by omega) (.slice A7 (acc ++ [m]).length c7) (acc ++ [m]) x [.string x.f0, .string x.f1, .int .i64 x.f2, .bool x.f3] (fun _ => True) (fun _ => False) rfl rfl (by exact k27_mkM w8 _ _ x) (fun _ hk => hk.elim) (fun _ _ => trivial) hX8 hB8 hB8.size (by have := HL.out; (try simp only [List.length_append, List.length_singleton]); omega) ?_; intro v9 w9 hX9 hB9 hg9 hat9)
                obtain ⟨he, hl0⟩ := HE.out
                go_roundg gk
                case measure => omega
                case rel => exact ⟨i + 1, by first | rfl | (rw [hs1]), by omega, by rw [hstep]; simp [refStep, hl0, he, ltS_irrefl], by rw [hstep]; simpa [refStep, hl0, he, ltS_irrefl] using hX9, hB9⟩
            · by_cases he : x.f0 = m.f0
              · have hl0 : ltS m.f0 x.f0 = ltS m.f0 x.f0 := rfl
                have hne : (x.f0.toList == m.f0.toList) = true := by rw [ba_eq]; exact decide_eq_true he
                have HE := Lib.hid (And.intro he hl0)
                clear he hl0
                go_wp2
                go_quiet (fail)
                have hb5 := pw_below_drewN (Below.refl wr.heap.size wr) nq
                generalize wr.drewN nq = w5 at hb5 ⊢
                have hB5 := hBx.trans (hb5.mono hBx.size)
                have hX5 := Kd.R_below hX hb5
                obtain ⟨hrb5, hbb5, hRv5⟩ := HQ.out w5 hB5
                have r5 := blk_cell hrb5 0
                have b50 := blk_cell hbb5 0
                have b51 := blk_cell hbb5 1
                have b52 := blk_cell hbb5 2
                have b53 := blk_cell hbb5 3
                obtain ⟨k50, k51, k52, k53⟩ := cells_some (Kd.R_reads' hRv5).2.2 i hi
                rw [HXX.out] at k50 k51 k52 k53
                go_wp2
                go_quiet (fail)
                have hb8 := pw_below_drewN (Below.refl w5.heap.size w5) nq
                generalize w5.drewN nq = w8 at hb8 ⊢
                have hB8 := hB5.trans (hb8.mono hB5.size)
                have hX8 := Kd.R_below hX5 hb8
                obtain ⟨hrb8, hbb8, hRv8⟩ := HQ.out w8 hB8
                have r8 := blk_cell hrb8 0
                have b80 := blk_cell hbb8 0
                have b81 := blk_cell hbb8 1
                have b82 := blk_cell hbb8 2
                have b83 := blk_cell hbb8 3
                obtain ⟨k80, k81, k82, k83⟩ := cells_some (Kd.R_reads' hRv8).2.2 i hi
                rw [HXX.out] at k80 k81 k82 k83
                go_wp2
                obtain ⟨he, hl0⟩ := HE.out
                go_roundg gk
                case measure => omega
                case rel => exact ⟨i + 1, by first | rfl | (rw [hs1]), by omega, by rw [hstep]; simp [refStep, hl0, he, ltS_irrefl], by rw [hstep]; simpa [refStep, hl0, he, ltS_irrefl] using hX8, hB8⟩
              · have hl0 : ltS m.f0 x.f0 = ltS m.f0 x.f0 := rfl
                have hne : (x.f0.toList == m.f0.toList) = false := by rw [ba_eq]; exact decide_eq_false he
                have HE := Lib.hid (And.intro he hl0)
                clear he hl0
                go_wp2
                go_quiet (fail)
                have hb5 := pw_below_drewN (Below.refl wr.heap.size wr) nq
                generalize wr.drewN nq = w5 at hb5 ⊢
                have hB5 := hBx.trans (hb5.mono hBx.size)
                have hX5 := Kd.R_below hX hb5
                obtain ⟨hrb5, hbb5, hRv5⟩ := HQ.out w5 hB5
                have r5 := blk_cell hrb5 0
                have b50 := blk_cell hbb5 0
                have b51 := blk_cell hbb5 1
                have b52 := blk_cell hbb5 2
                have b53 := blk_cell hbb5 3
                obtain ⟨k50, k51, k52, k53⟩ := cells_some (Kd.R_reads' hRv5).2.2 i hi
                rw [HXX.out] at k50 k51 k52 k53
                go_wp2
                go_quiet (fail)
                have hb8 := pw_below_drewN (Below.refl w5.heap.size w5) nq
                generalize w5.drewN nq = w8 at hb8 ⊢
                have hB8 := hB5.trans (hb8.mono hB5.size)
                have hX8 := Kd.R_below hX5 hb8
                obtain ⟨hrb8, hbb8, hRv8⟩ := HQ.out w8 hB8
                have r8 := blk_cell hrb8 0
                have b80 := blk_cell hbb8 0
                have b81 := blk_cell hbb8 1
                have b82 := blk_cell hbb8 2
                have b83 := blk_cell hbb8 3
                obtain ⟨k80, k81, k82, k83⟩ := cells_some (Kd.R_reads' hRv8).2.2 i hi
                rw [HXX.out] at k80 k81 k82 k83
                go_wp2_with (at_builtin; refine Kd.R_append k27 (w0 := w1) w1.heap.size rfl (.tmp 66) (.tmp 74) 22 27 (.agg #[.string ⟨#[]⟩, .string ⟨#[]⟩, .int .i64 0, .bool false]) 48 rfl Tryd.underlying22 (by kernel_rfl) rfl (by decide) (by omega) (.slice A6 (acc).length c6) (acc) x [.string x.f0, .string x.f1, .int .i64 x.f2, .bool x.f3] (fun _ => True) (fun _ => False) rfl rfl (by exact k27_mkM w8 _ _ x) (fun _ hk => hk.elim) (fun _ _ => trivial) hX8 hB8 hB8.size (by have := HL.out; (try simp only [List.length_append, List.length_singleton]); omega) ?_; intro v9 w9 hX9 hB9 hg9 hat9)
                obtain ⟨he, hl0⟩ := HE.out
                go_roundg gk
                case measure => omega
                case rel => exact ⟨i + 1, by first | rfl | (rw [hs1]), by omega, by rw [hstep]; simp [refStep, hl0, he, ltS_irrefl], by rw [hstep]; simpa [refStep, hl0, he, ltS_irrefl] using hX9, hB9⟩
    · have F := Lib.hid (show putB m = false ∧ putE m = 1 by unfold putB putE; rw [hn, h0, h2]; exact ⟨rfl, rfl⟩)
      clear hn hR hs hlen hR1
      have h2' : decide (m.f2 > 2) = true := h2
      go_enter Tryd.func18, Tryd.ntmps18
      go_wp2_with (go_at_call 31; refine (cN _).mono ?_; rintro e w1 ⟨rfl, hb1⟩; have hk1 := blk_below HB.out hb1; have q0 := blk_cell hk1 0; have q1 := blk_cell hk1 1; have q2 := blk_cell hk1 2; have q3 := blk_cell hk1 3)
      go_ret2
      exact Q.out false 1 w1 F.out.1 F.out.2 rfl hb1
  · have F := Lib.hid (show putB m = false ∧ putE m = 1 by unfold putB putE; rw [hn, h0]; exact ⟨rfl, rfl⟩)
    clear hn hR hs hlen hR1
    go_enter Tryd.func18, Tryd.ntmps18
    go_wp2_with (go_at_call 31; refine (cN _).mono ?_; rintro e w1 ⟨rfl, hb1⟩; have hk1 := blk_below HB.out hb1; have q0 := blk_cell hk1 0; have q1 := blk_cell hk1 1; have q2 := blk_cell hk1 2; have q3 := blk_cell hk1 3)
    go_ret2
    exact Q.out false 1 w1 F.out.1 F.out.2 rfl hb1
end Go.Proofs.YtdchcdagjnaicaaDoor.Rt
