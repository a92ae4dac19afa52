/- What the proof of RetainKeeps leans on: RetD. -/
import Derived.Test.YtdchcdagjnaicaaDoorSRetainKeepsRetC
import Derived.Deep.LoopGhost
set_option linter.unusedVariables false
set_option linter.unusedSimpArgs false
namespace Go.Proofs.YtdchcdagjnaicaaDoor.Rt
open Go Go.RowKit Go.ChangeMaps Go.MapKept Go.Proofs.YtdchcdagjnaicaaDoorW.PrintWords Go.Proofs.YtdchcdagjnaicaaDoor.Q Go.Proofs.YtdchcdagjnaicaaDoor.Mp Go.Proofs.YtdchcdagjnaicaaDoor.Top
theorem range_app {W W' : World} {mb rb : Nat} {L left : List (ByteArray × Msg)} {v : Value} {xs : List Msg} {base : Nat} {ok : Nat → Prop} (h : RangeAt Value.string msgV okS W mb rb L left) (hR : Kd.R k27 27 W base ok v xs) (hg : W.grownBy W' v.ownBlock) : RangeAt Value.string msgV okS W' mb rb L left := by
  have h1 : some mb ≠ v.ownBlock := fun e => by
    obtain ⟨cells, hc⟩ := Kd.R_typed hR mb e.symm
    obtain ⟨es, clock, hb, _⟩ := h.map
    rw [hc] at hb
    cases hb
  have h2 : some rb ≠ v.ownBlock := fun e => by
    obtain ⟨cells, hc⟩ := Kd.R_typed hR rb e.symm
    obtain ⟨es, clock, since, seen, c0, _, _, _, _, hr, _⟩ := h
    rw [hc] at hr
    cases hr
  exact h.grown hg h1 h2
theorem erase_perm {α : Type} : ∀ {l : List α} {j : Nat} {p : α}, l[j]? = some p → l.Perm (p :: l.eraseIdx j)
  | [], _, _, h => by simp at h
  | q :: l, 0, p, h => by
    obtain rfl : q = p := by simpa using h
    exact List.Perm.refl _
  | q :: l, j + 1, p, h => by
    have hj : l[j]? = some p := by simpa using h
    exact ((erase_perm hj).cons q).trans (List.Perm.swap p q _)
theorem erase_len {α : Type} {l : List α} {j : Nat} {p : α} (h : l[j]? = some p) : (l.eraseIdx j).length + 1 = l.length := by
  obtain ⟨hj, rfl⟩ := List.getElem?_eq_some_iff.1 h
  rw [List.length_eraseIdx, if_pos hj]
  omega
theorem R_next {W W' : World} {mb rb : Nat} {L left : List (ByteArray × Msg)} {v : Value} {xs : List Msg} {base : Nat} (h : RangeAt Value.string msgV okS W mb rb L left) (hR : Kd.R k27 27 W base (fun _ => True) v xs) (hg : W.grownBy W' (some rb)) : Kd.R k27 27 W' base (fun _ => True) v xs := by
  refine Kd.R_mono (Kd.R_grown (Kd.R_bound hR) hg (fun k hk e => ?_)) (fun _ _ => trivial)
  injection e with e
  subst e
  obtain ⟨_, _, _, q, _, cells, hc⟩ := hk
  obtain ⟨es, clock, since, seen, c0, _, _, _, _, hr, _⟩ := h
  rw [hc] at hr
  cases hr
def AllRel (W : World) (mb rb : Nat) (L : List (ByteArray × Msg)) (gk : Nat) (v : Value) (wx : World) : Prop :=
  ∃ (acc : List Msg) (left : List (ByteArray × Msg)), left.length = gk ∧ acc.length + gk = L.length ∧ Kd.R k27 27 wx W.heap.size (fun _ => True) v acc ∧ (acc ++ left.map (·.2)).Perm (L.map (·.2)) ∧ RangeAt Value.string msgV okS wx mb rb L left ∧ Below W.heap.size W wx
set_option maxHeartbeats 4000000 in
set_option maxRecDepth 1000000 in
theorem all_calls (W : World) (kb mb : Nat) (st : List Msg) (hK : KAt W kb mb st) (hlen : st.length ≤ 1000000) :
    Calls Tryd.prog 15 #[.pointer (some ⟨kb, 0, none⟩)] W fun e W' => ∃ v, e = .returned v ∧ Kd.R k27 27 W' W.heap.size (fun _ => True) v st ∧ Below W.heap.size W W' := by
  obtain ⟨hk, L, hM, hA⟩ := hK
  have qk := blk_cell hk 0
  have hl := hA.len
  have HL := Lib.hid (show L.length ≤ 1000000 by omega)
  have HA := Lib.hid hA
  have hsz := Lib.hid (show st.length < 4611686018427387904 by omega)
  clear hl hk hA hlen
  go_enter Tryd.func15, Tryd.ntmps15
  go_wp2_with (first | (at_range; refine wpList_range (mk := Value.string) (mv := msgV) (ok := okS) _ rfl _ 46 rfl 9 27 Tryd.underlying46 mb L rfl hM ?_; intro w0 hr0 hg0 hs0))
  go_frame
  have hB0 : Below W.heap.size W w0 := ⟨hg0.os, hg0.tape, hg0.output, hg0.size, fun k hk => hg0.block k hk (by simp)⟩
  clear hg0 hs0 qk hM
  go_loopg [3] L.length (fun gk v3 wx => AllRel W mb W.heap.size L gk v3 wx)
  case atStart => exact ⟨[], L, rfl, by simp, Kd.R_nil _ _ _ _ _, by simp, hr0, hB0⟩
  case round =>
    obtain ⟨acc, left, hlg, hag, hR, hp, hr, hB⟩ := hrel
    have HP := Lib.hid (And.intro hlg (And.intro hag hp))
    clear hlg hag hp hr0 hB0
    go_wp2_with (first | (at_next; refine wpList_mapstep (mk := Value.string) (mv := msgV) (ok := okS) _ rfl _ rfl mb W.heap.size L left rfl hr ?_ ?_))
    · intro hl0
      subst hl0
      obtain ⟨hlg, hag, hp⟩ := HP.out
      have hst : acc.Perm st := by
        simp only [List.map_nil, List.append_nil] at hp
        exact hp.trans HA.out.perm
      have hac : acc.length < 4611686018427387904 := by rw [hst.length_eq]; exact hsz.out
      have cS := sortM_calls 30 (enters_of Tryd.func30 (by kernel_rfl) rfl) clos_all hR hac HA.out.srt hst
      have HR := Lib.hid hR
      have hbase := Kd.R_base hR
      clear hR hst hac hlg hag hp hr
      go_wp2_with (first | (go_at_call 27; refine cS.mono ?_; rintro e w5 ⟨rfl, hR5, hg5⟩))
      go_ret
      exact ⟨_, rfl, hR5, hB.grown hg5 hB.size hbase⟩
    · intro j x c w1 hj hr1 hg1 hs1 hen
      have hl1 := erase_len hj
      have hpm := erase_perm hj
      unfold msgV at hen
      have hR1 := R_next hr hR hg1
      have hB1 := hB.grown hg1 hB.size (fun k e => by injection e with e; omega)
      have hal := (Below.refl w1.heap.size w1).alloc (Nat.le_refl _) (.cells #[.string c.f0, .string c.f1, .int .i64 c.f2, .bool c.f3] 27 (0, 0))
      have hB2 := hB1.trans (hal.mono hB1.size)
      have hR2 := Kd.R_below hR1 hal
      have hr2 := hr1.below hal
      have hac : acc.length ≤ 1000000 := by have := HP.out.2.1; have := HL.out; omega
      have HQ := Lib.hid (And.intro hl1 hpm)
      have HS2 := Lib.hid (show (w1.alloc (.cells #[.string c.f0, .string c.f1, .int .i64 c.f2, .bool c.f3] 27 (0, 0))).heap.size = w1.heap.size + 1 by simp)
      obtain ⟨A3, c3, e3⟩ := Kd.R_slice hR2
      subst e3
      clear hl1 hpm hj hg1 hs1 hr hR1 hB1 hal hr1 hR hB
      go_wp2_with (first | (at_builtin; refine Kd.R_append k27 (w0 := W) W.heap.size rfl (.tmp 17) (.tmp 19) 22 27 (.agg #[.string ⟨#[]⟩, .string ⟨#[]⟩, .int .i64 0, .bool false]) 48 rfl Tryd.underlying22 (by kernel_rfl) rfl (by decide) (by omega) (.slice A3 acc.length c3) acc c [.string c.f0, .string c.f1, .int .i64 c.f2, .bool c.f3] (fun _ => True) (fun _ => False) rfl (by rw [HS2.out]; rfl) (k27_mkM _ _ _ c) (fun _ hk => hk.elim) (fun _ _ => trivial) hR2 hB2 hB2.size (by omega) ?_; intro v1 w5 hR5 hB5 hg5 hat5))
      obtain ⟨gk', rfl⟩ : ∃ x, gk = x + 1 := ⟨gk - 1, by have := HP.out.1; have := HQ.out.1; omega⟩
      go_roundg gk'
      case measure => omega
      case rel =>
        obtain ⟨hlg, hag, hp⟩ := HP.out
        obtain ⟨hl1, hpm⟩ := HQ.out
        refine ⟨acc ++ [c], left.eraseIdx j, by omega, by rw [List.length_append]; simp; omega, hR5, ?_, range_app hr2 hR2 hg5, hB5⟩
        refine List.Perm.trans ?_ hp
        rw [List.append_assoc]
        exact List.Perm.append_left acc (show ([c] ++ (left.eraseIdx j).map (·.2)).Perm (left.map (·.2)) from (hpm.map (fun q : ByteArray × Msg => q.2)).symm)
def takesM (flt : ByteArray) (m : Msg) : Bool := matchB flt m.f0
def findS (st : List Msg) (flt : ByteArray) : List Msg := if isFilter flt = true then st.filter (takesM flt) else []
def findE (flt : ByteArray) : Int := if isFilter flt = true then 0 else 121
def FindRel (W : World) (mb rb : Nat) (L : List (ByteArray × Msg)) (p : Msg → Bool) (gk : Nat) (v : Value) (wx : World) : Prop :=
  ∃ (acc : List Msg) (left : List (ByteArray × Msg)), left.length = gk ∧ acc.length + gk ≤ L.length ∧ Kd.R k27 27 wx W.heap.size (fun _ => True) v acc ∧ (acc ++ (left.map (·.2)).filter p).Perm ((L.map (·.2)).filter p) ∧ RangeAt Value.string msgV okS wx mb rb L left ∧ Below W.heap.size W wx ∧ rb < wx.heap.size ∧ ∀ q ∈ left, q ∈ L
theorem filter_no {s : ByteArray} (h : isFilter s = false) (W : World) (hL : Laid W) : Calls Tryd.prog 25 #[.string s] W fun e W' => e = .returned (.int .i64 121) ∧ Below W.heap.size W W' := by
  have := filter_calls s W hL
  rw [h] at this
  exact this
theorem filter_yes {s : ByteArray} (h : isFilter s = true) (W : World) (hL : Laid W) : Calls Tryd.prog 25 #[.string s] W fun e W' => e = .returned (.int .i64 0) ∧ Below W.heap.size W W' := by
  have := filter_calls s W hL
  rw [h] at this
  exact this
set_option maxHeartbeats 4000000 in
set_option maxRecDepth 1000000 in
theorem find_calls (W : World) (kb mb : Nat) (st : List Msg) (flt : ByteArray) (hL : Laid W) (hK : KAt W kb mb st) (hlen : st.length ≤ 1000000) :
    Calls Tryd.prog 13 #[.pointer (some ⟨kb, 0, none⟩), .string flt] W fun e W' => ∃ v, e = .returned (.tuple #[v, .int .i64 (findE flt)]) ∧ Kd.R k27 27 W' W.heap.size (fun _ => True) v (findS st flt) ∧ Below W.heap.size W W' := by
  unfold findE findS
  cases hf : isFilter flt
  · have cF := filter_no hf W hL
    rw [if_neg (by decide), if_neg (by decide)]
    clear hf hK hL hlen
    go_enter Tryd.func13, Tryd.ntmps13
    go_wp2_with (go_at_call 25; refine cF.mono ?_; rintro e w1 ⟨rfl, hb1⟩)
    go_ret2
    exact ⟨_, rfl, Kd.R_nil _ _ _ _ _, hb1⟩
  · have cF := filter_yes hf W hL
    rw [if_pos rfl, if_pos rfl]
    obtain ⟨L, -, hA⟩ := hK.2
    have HK := Lib.hid hK
    have HLd := Lib.hid hL
    have hl := hA.len
    have hsz := Lib.hid (show st.length < 4611686018427387904 ∧ st.length ≤ 1000000 by omega)
    clear hl hA hK hf hlen hL L
    go_enter Tryd.func13, Tryd.ntmps13
    go_wp2_with (first
      | (go_at_call 25; refine cF.mono ?_; rintro e w1 ⟨rfl, hb1⟩; have hK1 := HK.out.below hb1; obtain ⟨hk, L, hM, hA⟩ := hK1; have HA := Lib.hid hA; have qk := blk_cell hk 0; clear hk hA)
      | (at_range; refine wpList_range (mk := Value.string) (mv := msgV) (ok := okS) _ rfl _ 46 rfl 9 27 Tryd.underlying46 mb L rfl hM ?_; intro w0 hr0 hg0 hs0))
    go_frame
    have hB0 : Below W.heap.size W w0 := hb1.trans (Below.mono ⟨hg0.os, hg0.tape, hg0.output, hg0.size, fun k hk => hg0.block k hk (by simp)⟩ hb1.size)
    have hrb : w1.heap.size < w0.heap.size := by omega
    have HW := Lib.hid hb1
    obtain ⟨rb, hrbe⟩ : ∃ rb, rb = w1.heap.size := ⟨_, rfl⟩
    have hLL : L.length ≤ 1000000 := by rw [HA.out.len]; exact hsz.out.2
    have HLL := Lib.hid hLL
    have hrbW : W.heap.size ≤ rb := by rw [hrbe]; exact hb1.size
    rw [← hrbe] at hr0 hrb ⊢
    clear hg0 hs0 qk hM hb1 hLL hrbe
    go_loopg [7] L.length (fun gk v7 wx => FindRel W mb rb L (takesM flt) gk v7 wx)
    case atStart => exact ⟨[], L, rfl, by simp, Kd.R_nil _ _ _ _ _, by simp, hr0, hB0, hrb, fun q hq => hq⟩
    case round =>
      obtain ⟨acc, left, hlg, hag, hR, hp, hr, hB, hrbx, hsub⟩ := hrel
      have HP := Lib.hid (And.intro hlg (And.intro hag hp))
      have HSB := Lib.hid hsub
      clear hlg hag hp hr0 hB0 hrb hsub
      go_wp2_with (first | (at_next; refine wpList_mapstep (mk := Value.string) (mv := msgV) (ok := okS) _ rfl _ rfl mb rb L left rfl hr ?_ ?_))
      · intro hl0
        subst hl0
        obtain ⟨hlg, hag, hp⟩ := HP.out
        have hst : acc.Perm (st.filter (takesM flt)) := by
          simp only [List.map_nil, List.filter_nil, List.append_nil] at hp
          exact hp.trans (HA.out.perm.filter _)
        have hac : acc.length < 4611686018427387904 := by
          have := HLL.out
          omega
        have cS := sortM_calls 28 (enters_of Tryd.func28 (by kernel_rfl) rfl) clos_find hR hac (HA.out.srt.filter _) hst
        have hbase := Kd.R_base hR
        clear hR hst hac hlg hag hp hr
        go_wp2_with (first | (go_at_call 27; refine cS.mono ?_; rintro e w5 ⟨rfl, hR5, hg5⟩))
        go_ret2
        exact ⟨_, rfl, hR5, hB.grown hg5 hB.size hbase⟩
      · intro j x c w1 hj hr1 hg1 hs1 hen
        have hl1 := erase_len hj
        have hpm := erase_perm hj
        obtain rfl : x = c.f0 := HA.out.own (x, c) (HSB.out _ (List.mem_of_getElem? hj))
        unfold msgV at hen
        have hR1 := R_next hr hR hg1
        have hB1 := hB.grown hg1 hB.size (fun k e => by injection e with e; omega)
        have hal := (Below.refl w1.heap.size w1).alloc (Nat.le_refl _) (.cells #[.string c.f0, .string c.f1, .int .i64 c.f2, .bool c.f3] 27 (0, 0))
        have hk0 := blk_new w1 (.cells #[.string c.f0, .string c.f1, .int .i64 c.f2, .bool c.f3] 27 (0, 0))
        have hB2 := hB1.trans (hal.mono hB1.size)
        have hR2 := Kd.R_below hR1 hal
        have hr2 := hr1.below hal
        have cM := matches_calls flt c.f0 _ (HLd.out.below hB2)
        have hac : acc.length ≤ 1000000 := by have := HP.out.2.1; have := HLL.out; omega
        have HQ := Lib.hid (And.intro hl1 (And.intro hpm (And.intro hk0 (And.intro hB2 (And.intro hR2 hr2)))))
        have hrb1 : rb < w1.heap.size := by rw [hs1]; exact hrbx
        have HRB := Lib.hid hrb1
        have hsub2 : ∀ q ∈ left.eraseIdx j, q ∈ L := fun q hq => HSB.out q (List.mem_of_mem_eraseIdx hq)
        have HSB2 := Lib.hid hsub2
        obtain ⟨A3, c3, e3⟩ := Kd.R_slice hR2
        subst e3
        clear hl1 hpm hj hg1 hs1 hr hR hB1 hal hr1 hB hk0 hB2 hR2 hr2 hrb1 hsub2 hrbx
        have hps : ∀ b, takesM flt c = b → ((left.map (·.2)).filter (takesM flt)).Perm ((if b = true then [c] else []) ++ ((left.eraseIdx j).map (·.2)).filter (takesM flt)) := by
          intro b hb
          have h := (HQ.out.2.1.map (fun q : ByteArray × Msg => q.2)).filter (takesM flt)
          rw [List.map_cons, List.filter_cons, hb] at h
          cases b
          · exact h
          · exact h
        have HPS := Lib.hid hps
        clear hps
        generalize matchE flt c.f0 = er at cM
        cases ht : matchB flt c.f0
        · rw [ht] at cM
          have hps := Lib.hid (HPS.out false ht)
          clear ht
          go_wp2_with (first | (go_at_call 26; refine cM.mono ?_; rintro e w4 ⟨rfl, hb4⟩))
          have h1 := HP.out.1
          have h2 := HQ.out.1
          have h3 := HP.out.2.1
          obtain ⟨gk', rfl⟩ : ∃ x, gk = x + 1 := ⟨gk - 1, by omega⟩
          go_roundg gk'
          case measure => omega
          case rel =>
            exact ⟨acc, left.eraseIdx j, by omega, by omega, Kd.R_below HQ.out.2.2.2.2.1 hb4, (List.Perm.append_left acc hps.out.symm).trans HP.out.2.2, HQ.out.2.2.2.2.2.below hb4, HQ.out.2.2.2.1.trans (hb4.mono HQ.out.2.2.2.1.size), by have := hb4.size; have := HRB.out; simp at *; omega, HSB2.out⟩
        · rw [ht] at cM
          have hps := Lib.hid (HPS.out true ht)
          clear ht
          go_wp2_with (first
            | (go_at_call 26; refine cM.mono ?_; rintro e w4 ⟨rfl, hb4⟩; have hk4 := blk_below HQ.out.2.2.1 hb4; have q0 := blk_cell hk4 0; have q1 := blk_cell hk4 1; have q2 := blk_cell hk4 2; have q3 := blk_cell hk4 3; have hR4 := Kd.R_below HQ.out.2.2.2.2.1 hb4; have hB4 := HQ.out.2.2.2.1.trans (hb4.mono HQ.out.2.2.2.1.size))
            | (at_builtin; refine Kd.R_append k27 (w0 := W) W.heap.size rfl (.tmp 36) (.tmp 38) 22 27 (.agg #[.string ⟨#[]⟩, .string ⟨#[]⟩, .int .i64 0, .bool false]) 48 rfl Tryd.underlying22 (by kernel_rfl) rfl (by decide) (by omega) (.slice A3 acc.length c3) acc c [.string c.f0, .string c.f1, .int .i64 c.f2, .bool c.f3] (fun _ => True) (fun _ => False) rfl rfl (k27_mkM _ _ _ c) (fun _ hk => hk.elim) (fun _ _ => trivial) hR4 hB4 hB4.size (by omega) ?_; intro v1 w5 hR5 hB5 hg5 hat5))
          have h1 := HP.out.1
          have h2 := HQ.out.1
          have h3 := HP.out.2.1
          obtain ⟨gk', rfl⟩ : ∃ x, gk = x + 1 := ⟨gk - 1, by omega⟩
          go_roundg gk'
          case measure => omega
          case rel =>
            refine ⟨acc ++ [c], left.eraseIdx j, by omega, by rw [List.length_append]; simp; omega, hR5, ?_, range_app (HQ.out.2.2.2.2.2.below hb4) hR4 hg5, hB5, ?_, HSB2.out⟩
            · refine List.Perm.trans ?_ HP.out.2.2
              rw [List.append_assoc]
              exact List.Perm.append_left acc hps.out.symm
            · have e1 := hb4.size
              have e2 := HRB.out
              have e3 := hg5.size
              simp at e1
              omega
end Go.Proofs.YtdchcdagjnaicaaDoor.Rt
