/- What the proof of RetainKeeps leans on: RetL. -/
import Derived.Test.YtdchcdagjnaicaaDoorSRetainKeepsRetK
set_option linter.unusedVariables false
set_option linter.unusedSimpArgs false
namespace Go.Proofs.YtdchcdagjnaicaaDoor.Rt
open Go Go.RowKit Go.ChangeMaps Go.MapKept Go.Proofs.YtdchcdagjnaicaaDoorW.PrintWords Go.Proofs.YtdchcdagjnaicaaDoor.Q Go.Proofs.YtdchcdagjnaicaaDoor.Mp Go.Proofs.YtdchcdagjnaicaaDoor.Top
theorem getS_no {st : List Msg} {t : ByteArray} (h : ∀ x ∈ st, tpc x ≠ t) : getS tpc st t = none := by
  cases hg : getS tpc st t with
  | none => rfl
  | some x => exact absurd (getS_some hg).2 (h x (getS_some hg).1)
def LookRel (W1 : World) (st : List Msg) (t : ByteArray) (gk : Nat) (v6 : Value) (wx : World) : Prop :=
  ∃ (i : Nat), v6 = .int .i64 i ∧ i + gk = st.length ∧ (∀ x ∈ st.take i, tpc x ≠ t) ∧ W1 = wx
set_option maxHeartbeats 4000000 in
set_option maxRecDepth 1000000 in
theorem rat_calls (W : World) (rb : Nat) (st : List Msg) (t : ByteArray) (hR : RAt W rb st) (hs : Srt tpc st) (hlen : st.length ≤ 1000) :
    Calls Tryd.prog 19 #[.pointer (some ⟨rb, 0, none⟩), .string t] W fun e W' => e = .returned (.tuple #[msgV (atR st t), .bool (atB st t)]) ∧ Below W.heap.size W W' := by
  have hal := (Below.refl W.heap.size W).alloc (Nat.le_refl _) (.cells #[.string ⟨#[]⟩, .string ⟨#[]⟩, .int .i64 0, .bool false] 27 (0, 0))
  have hk0 := blk_new W (.cells #[.string ⟨#[]⟩, .string ⟨#[]⟩, .int .i64 0, .bool false] 27 (0, 0))
  obtain ⟨v, hvb, hvR⟩ := hR.below hal
  obtain ⟨A0, c0, rfl⟩ := Kd.R_slice hvR
  have HVR := Lib.hid hvR
  have HS := Lib.hid (And.intro hs (And.intro hlen hal))
  have HK := Lib.hid hk0
  have r0 := blk_cell hvb 0
  have g0 := blk_cell hk0 0
  have g1 := blk_cell hk0 1
  have g2 := blk_cell hk0 2
  have g3 := blk_cell hk0 3
  have gf := fun j => blk_frozen hk0 j
  clear hR hs hlen hal hk0 hvb hvR
  go_enter Tryd.func19, Tryd.ntmps19
  go_wp2
  have HW : (W.alloc (.cells #[.string ⟨#[]⟩, .string ⟨#[]⟩, .int .i64 0, .bool false] 27 (0, 0))) = (W.alloc (.cells #[.string ⟨#[]⟩, .string ⟨#[]⟩, .int .i64 0, .bool false] 27 (0, 0))) := rfl
  go_loopg [6] st.length (fun gk v6 wx => LookRel (W.alloc (.cells #[.string ⟨#[]⟩, .string ⟨#[]⟩, .int .i64 0, .bool false] 27 (0, 0))) st t gk v6 wx)
  case atStart => exact ⟨0, rfl, by omega, fun x hx => by simp at hx, rfl⟩
  case round =>
    obtain ⟨i, rfl, hig, hno, rfl⟩ := hrel
    cases gk with
    | zero =>
      have hi : i = st.length := by omega
      have hnl : (i < st.length) = False := eq_false (by omega)
      rw [hi, List.take_length] at hno
      have eG := getS_no hno
      have eR : atR st t = zM := by unfold atR; rw [eG]; rfl
      have eB : atB st t = false := by unfold atB; rw [eG]; rfl
      have HE := Lib.hid (And.intro eR eB)
      clear eG eR eB hno hig
      go_wp2
      have b3 := blk_set (blk_set (blk_set (blk_set HK.out 0 (.string ⟨#[]⟩)) 1 (.string ⟨#[]⟩)) 2 (.int .i64 0)) 3 (.bool false)
      have q0 := blk_cell b3 0
      have q1 := blk_cell b3 1
      have q2 := blk_cell b3 2
      have q3 := blk_cell b3 3
      clear g0 g1 g2 g3 gf
      try simp only [Exit.inBlock, Exit.then]
      refine bodyPost_ret (v := .tuple #[.agg #[.string ⟨#[]⟩, .string ⟨#[]⟩, .int .i64 0, .bool false], .bool false]) (by simp [results, Tryd.f19, go_sem, q0, q1, q2, q3]) rfl ⟨by rw [HE.out.1, HE.out.2]; rfl, ?_⟩
      repeat refine below_set ?_ (Nat.le_refl _)
      exact HS.out.2.2
    | succ gk =>
      have hi : i < st.length := by omega
      have hltN : (i < st.length) = True := eq_true hi
      have p0 : ((0 : Int) ≤ (i : Int)) = True := eq_true (by omega)
      have p1 : ((i : Int) < (st.length : Int)) = True := eq_true (by omega)
      have hs1 : IntKind.i64.wrap ((i : Int) + 1) = ((i + 1 : Nat) : Int) := by rw [IntWalk.i64_in _ (by have := HS.out.2.1; omega)]; rfl
      obtain ⟨ad, eA, -⟩ := cells_any (Kd.R_reads' HVR.out).2.2 i hi
      subst eA
      obtain ⟨k0, k1, k2, k3⟩ := cells_some (Kd.R_reads' HVR.out).2.2 i hi
      have hmem := rd_mem st i hi
      have htk := take_M st i hi
      obtain ⟨x, hxe⟩ : ∃ x, rd_T27 st (i : Int) = x := ⟨_, rfl⟩
      rw [hxe] at k0 k1 k2 k3 hmem htk
      clear hxe
      by_cases he : x.f0 = t
      · have hq : (x.f0.toList == t.toList) = true := by rw [ba_eq]; exact decide_eq_true he
        have eG : getS tpc st t = some x := by rw [← he]; exact getS_of HS.out.1.keys hmem
        have eR : atR st t = x := by unfold atR; rw [eG]; rfl
        have eB : atB st t = true := by unfold atB; rw [eG]; rfl
        have HE := Lib.hid (And.intro eR eB)
        clear eG eR eB htk hmem hno hig he
        go_wp2
        have b3 := blk_set (blk_set (blk_set (blk_set HK.out 0 (.string x.f0)) 1 (.string x.f1)) 2 (.int .i64 x.f2)) 3 (.bool x.f3)
        have q0 := blk_cell b3 0
        have q1 := blk_cell b3 1
        have q2 := blk_cell b3 2
        have q3 := blk_cell b3 3
        clear g0 g1 g2 g3 gf
        try simp only [Exit.inBlock, Exit.then]
        refine bodyPost_ret (v := .tuple #[.agg #[.string x.f0, .string x.f1, .int .i64 x.f2, .bool x.f3], .bool true]) (by simp [results, Tryd.f19, go_sem, q0, q1, q2, q3]) rfl ⟨by rw [HE.out.1, HE.out.2]; rfl, ?_⟩
        exact (Below.refl _ _).alloc (Nat.le_refl _) _
      · have hq : (x.f0.toList == t.toList) = false := by rw [ba_eq]; exact decide_eq_false he
        have HE := Lib.hid (And.intro he (And.intro htk hno))
        clear he htk hmem hno
        go_wp2
        go_roundg gk
        case measure => omega
        case rel =>
          refine ⟨i + 1, by first | rfl | (rw [hs1]), by omega, fun y hy => ?_, rfl⟩
          rw [HE.out.2.1, List.mem_append, List.mem_singleton] at hy
          rcases hy with hy | rfl
          · exact HE.out.2.2 y hy
          · exact HE.out.1
def RFRel (W : World) (st : List Msg) (flt : ByteArray) (gk : Nat) (v5 v6 : Value) (wx : World) : Prop :=
  ∃ (i : Nat), v6 = .int .i64 i ∧ i + gk = st.length ∧ Kd.R k27 27 wx W.heap.size (fun _ => True) v5 ((st.take i).filter (takesM flt)) ∧ Below W.heap.size W wx
def RFPost (W : World) (st : List Msg) (flt : ByteArray) (e : Ending) (W' : World) : Prop :=
  ∃ v, e = .returned v ∧ Kd.R k27 27 W' W.heap.size (fun _ => True) v (st.filter (takesM flt)) ∧ Below W.heap.size W W'
set_option maxHeartbeats 4000000 in
set_option maxRecDepth 1000000 in
theorem rfind_calls (W : World) (rb : Nat) (st : List Msg) (flt : ByteArray) (hR : RAt W rb st) (hG : Good st) (hf : isFilter flt = true) (hlen : st.length ≤ 1000) :
    Calls Tryd.prog 20 #[.pointer (some ⟨rb, 0, none⟩), .string flt] W (RFPost W st flt) := by
  obtain ⟨v, hvb, hvR⟩ := hR
  obtain ⟨A0, c0, rfl⟩ := Kd.R_slice hvR
  have HQ := Lib.hid (show ∀ wx, Below W.heap.size W wx → wx.heap[rb]? = some (.cells #[.slice A0 st.length c0] 44 (0, 0)) ∧ Kd.R k27 27 wx 0 (fun _ => True) (.slice A0 st.length c0) st from fun wx hb => ⟨blk_below hvb hb, Kd.R_below hvR hb⟩)
  have HS := Lib.hid (And.intro hG (And.intro hf hlen))
  clear hvb hvR hG hf hlen
  go_enter Tryd.func20, Tryd.ntmps20
  go_wp2
  go_loopg [5, 6] st.length (fun gk v5 v6 wx => RFRel W st flt gk v5 v6 wx)
  case atStart => exact ⟨0, rfl, by omega, Kd.R_nil _ _ _ _ _, Below.refl _ _⟩
  case round =>
    obtain ⟨i, rfl, hig, hX, hBx⟩ := hrel
    obtain ⟨hrb, hRv⟩ := HQ.out wr hBx
    have r0 := blk_cell hrb 0
    obtain ⟨A5, c5, rfl⟩ := Kd.R_slice hX
    cases gk with
    | zero =>
      have hi : i = st.length := by omega
      have hnl : (i < st.length) = False := eq_false (by omega)
      rw [hi, List.take_length] at hX ⊢
      go_wp2
      go_ret
      exact ⟨_, rfl, hX, hBx⟩
    | succ gk =>
      have hi : i < st.length := by omega
      have hltN : (i < st.length) = True := eq_true hi
      have p0 : ((0 : Int) ≤ (i : Int)) = True := eq_true (by omega)
      have p1 : ((i : Int) < (st.length : Int)) = True := eq_true (by omega)
      have hs1 : IntKind.i64.wrap ((i : Int) + 1) = ((i + 1 : Nat) : Int) := by rw [IntWalk.i64_in _ (by have := HS.out.2.2; omega)]; rfl
      have hlx : ((st.take i).filter (takesM flt)).length ≤ 1000 := Nat.le_trans (List.length_filter_le _ _) (by rw [List.length_take]; have := HS.out.2.2; omega)
      obtain ⟨ad, eA, -⟩ := cells_any (Kd.R_reads' hRv).2.2 i hi
      subst eA
      obtain ⟨k0, k1, k2, k3⟩ := cells_some (Kd.R_reads' hRv).2.2 i hi
      have hmem := rd_mem st i hi
      have htk := take_M st i hi
      have hkn := (keep_name (HS.out.1 _ hmem)).1
      have hte := takesM_eq HS.out.2.1 hkn
      have cT := takes_calls flt (rd_T27 st (i : Int)).f0 HS.out.2.1 hkn wr
      rw [← hte] at cT
      obtain ⟨x, hxe⟩ : ∃ x, rd_T27 st (i : Int) = x := ⟨_, rfl⟩
      rw [hxe] at k0 k1 k2 k3 htk cT
      have HXX := Lib.hid hxe
      have HT := Lib.hid htk
      clear hxe htk hte hkn hmem
      cases hb : takesM flt x
      · rw [hb] at cT
        have e2 : (st.take (i + 1)).filter (takesM flt) = (st.take i).filter (takesM flt) := by
          rw [HT.out, List.filter_append, List.filter_cons, hb]
          simp
        have HE := Lib.hid e2
        clear hb e2
        go_wp2_with (go_at_call 14; refine cT.mono ?_; rintro e w5 ⟨rfl, hb5⟩)
        go_roundg gk
        case measure => omega
        case rel => exact ⟨i + 1, by first | rfl | (rw [hs1]), by omega, by rw [HE.out]; exact Kd.R_below hX hb5, hBx.trans (hb5.mono hBx.size)⟩
      · rw [hb] at cT
        have e2 : (st.take (i + 1)).filter (takesM flt) = (st.take i).filter (takesM flt) ++ [x] := by
          rw [HT.out, List.filter_append, List.filter_cons, hb]
          rfl
        have HE := Lib.hid e2
        clear hb e2
        go_wp2_with (first
          | (go_at_call 14; refine cT.mono ?_; rintro e w5 ⟨rfl, hb5⟩; have hB5 := hBx.trans (hb5.mono hBx.size); have hX5 := Kd.R_below hX hb5; obtain ⟨hrb5, hRv5⟩ := HQ.out w5 hB5; have r5 := blk_cell hrb5 0; obtain ⟨j0, j1, j2, j3⟩ := cells_some (Kd.R_reads' hRv5).2.2 i hi; rw [HXX.out] at j0 j1 j2 j3)
          | (at_builtin; refine Kd.R_append k27 (w0 := W) W.heap.size rfl (.tmp 26) (.tmp 34) 22 27 (.agg #[.string ⟨#[]⟩, .string ⟨#[]⟩, .int .i64 0, .bool false]) 48 rfl Tryd.underlying22 (by kernel_rfl) rfl (by decide) (by omega) (.slice A5 ((st.take i).filter (takesM flt)).length c5) ((st.take i).filter (takesM flt)) x [.string x.f0, .string x.f1, .int .i64 x.f2, .bool x.f3] (fun _ => True) (fun _ => False) rfl rfl (k27_mkM w5 _ _ x) (fun _ hk => hk.elim) (fun _ _ => trivial) hX5 hB5 hB5.size (by omega) ?_; intro v7 w7 hX7 hB7 hg7 hat7))
        go_roundg gk
        case measure => omega
        case rel => exact ⟨i + 1, by first | rfl | (rw [hs1]), by omega, by rw [HE.out]; exact hX7, hB7⟩
end Go.Proofs.YtdchcdagjnaicaaDoor.Rt
