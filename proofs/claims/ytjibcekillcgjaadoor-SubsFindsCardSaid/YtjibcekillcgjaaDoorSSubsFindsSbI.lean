/- What the proof of SubsFinds leans on: SbI. -/
import Derived.Test.YtjibcekillcgjaaDoorSSubsFindsSbH
set_option linter.unusedVariables false
set_option linter.unusedSimpArgs false
namespace Go.Proofs.YtjibcekillcgjaaDoor.Sb
open Go Go.RowKit Go.ChangeMaps Go.MapKept Go.Proofs.YtjibcekillcgjaaDoorW.PrintWords Go.Proofs.YtjibcekillcgjaaDoorW.PrintMore Go.Proofs.YtjibcekillcgjaaDoor.Q Go.Proofs.YtjibcekillcgjaaDoor.Mp Go.Proofs.YtjibcekillcgjaaDoor.Top Go.Proofs.YtjibcekillcgjaaDoor.Fm
attribute [local go_sem] max2_int max_two
theorem name_yes {s : ByteArray} (h : isName s = true) (W : World) (hL : Laid W) : Calls Tryd.prog 27 #[.string s] W fun e W' => e = .returned (.int .i64 0) ∧ Below W.heap.size W W' := by
  have := name_calls s W hL
  rw [h] at this
  exact this
def FindPost (W : World) (es : List Ent) (name : ByteArray) (e : Ending) (W' : World) : Prop :=
  ∃ v ws, e = .returned (.tuple #[v, .int .i64 0]) ∧ FindIs es name ws ∧ Kd.R k48 48 W' W.heap.size (fun _ => True) v ws ∧ Below W.heap.size W W'
def toW (p : ByteArray × Int) : WantT := ⟨p.1, p.2⟩
def FindRel (W : World) (mb rb bb : Nat) (L : List Ent) (name : ByteArray) (gk : Nat) (wx : World) : Prop :=
  ∃ (D left : List Ent) (B : List (ByteArray × Int)), left.length = gk ∧ B.length + gk ≤ L.length ∧ (D ++ left).Perm L ∧ RangeAt keyV entV okK wx mb rb L left ∧ MapAt Value.string (Value.int .i64) okS wx bb B ∧ (∀ c, BestIs D name c (getL B c)) ∧ Below W.heap.size W wx ∧ rb < wx.heap.size
def FindRel2 (W : World) (bb rb : Nat) (B : List (ByteArray × Int)) (gk : Nat) (v : Value) (wx : World) : Prop :=
  ∃ (acc : List WantT) (left : List (ByteArray × Int)), left.length = gk ∧ acc.length + gk = B.length ∧ Kd.R k48 48 wx W.heap.size (fun _ => True) v acc ∧ (acc ++ left.map toW).Perm (B.map toW) ∧ RangeAt Value.string (Value.int .i64) okS wx bb rb B left ∧ Below W.heap.size W wx
theorem find_is {es D L : List Ent} {n : Int} {name : ByteArray} {B : List (ByteArray × Int)} {ws : List WantT} (hA : AsP L es n) (hD : D.Perm L) (hB : ∀ c, BestIs D name c (getL B c)) (hap : Apart B) (hp : (B.map toW).Perm ws) (hs : Srt wcl ws) : FindIs es name ws := by
  have hmem : ∀ w : WantT, w ∈ ws ↔ getL B w.f0 = some w.f1 := fun w => by
    rw [← hp.mem_iff, List.mem_map]
    constructor
    · rintro ⟨p, hp, rfl⟩
      exact getL_some hap (show (p.1, p.2) ∈ B from hp)
    · intro h
      exact ⟨(w.f0, w.f1), getL_mem h, rfl⟩
  have hDe : D.Perm es := hD.trans hA.perm
  refine ⟨hs, fun w => (hmem w).trans ⟨fun h => ?_, fun h => ?_⟩⟩
  · have := hB w.f0
    rw [h] at this
    exact this.perm hDe
  · have h1 := h.perm hDe.symm
    have h2 := hB w.f0
    cases ho : getL B w.f0 with
    | none =>
      rw [ho] at h2
      obtain ⟨⟨p, hp, ht, hc, _⟩, _⟩ := h1
      exact absurd hc (h2 p hp ht)
    | some m =>
      rw [ho] at h2
      rw [h1.one h2]
theorem want_keys {B : List (ByteArray × Int)} {ws : List WantT} (hap : Apart B) (hp : ws.Perm (B.map toW)) : KeyD wcl ws := by
  refine KeyD.perm ?_ hp.symm
  unfold KeyD
  rw [List.pairwise_map]
  exact hap
set_option maxHeartbeats 8000000 in
set_option maxRecDepth 1000000 in
theorem find_calls (W : World) (xb mb : Nat) (es : List Ent) (n : Int) (name : ByteArray) (hL : Laid W) (hI : IAt W xb mb es n) (hlen : es.length ≤ 1000000) (hq : ∀ p ∈ es, 0 ≤ p.2.1) (hn : isName name = true) :
    Calls Tryd.prog 16 #[.pointer (some ⟨xb, 0, none⟩), .string name] W (FindPost W es name) := by
  have cN := name_yes hn W hL
  have HLd := Lib.hid hL
  have hmm := @run_makeMap Tryd.prog
  have hlt := hI.lt
  have HI := Lib.hid (And.intro hI (And.intro hlen (And.intro hq hlt)))
  clear hL hI hlen hq hn hlt
  go_enter Tryd.func16, Tryd.ntmps16
  go_wp2_with (first
    | (go_at_call 27; refine cN.mono ?_; rintro e w1 ⟨rfl, hb1⟩; have hbm := hb1.alloc hb1.size (.map #[] 0); have hI1 := HI.out.1.below hbm; have hMb := MapAt.made (mk := Value.string) (mv := Value.int .i64) (ok := okS) w1; obtain ⟨hx1, L, hM1, hA1⟩ := hI1; have x0 := blk_cell hx1 0; have HA := Lib.hid (And.intro hA1 (And.intro hMb hbm)); clear hx1 hA1 hMb hbm)
    | (at_range; refine wpList_range (mk := keyV) (mv := entV) (ok := okK) _ rfl _ 56 rfl 61 63 Tryd.underlying56 mb L rfl hM1 ?_; intro w0 hr0 hg0 hs0))
  go_frame
  obtain ⟨hA1, hMb, hbm⟩ := HA.out
  have hsw : (w1.alloc (.map #[] 0)).heap.size = w1.heap.size + 1 := by simp
  have hMb0 := hMb.grown hg0 (by simp)
  have hB0 : Below W.heap.size W w0 := hbm.grown hg0 hbm.size (fun k e => by cases e)
  rw [hsw] at hr0 hs0 ⊢
  have hb1s := hb1.size
  clear hMb hbm hg0 hM1 x0 hsw hb1 hmm cN HA
  obtain ⟨bb, hbe⟩ : ∃ x, x = w1.heap.size := ⟨_, rfl⟩
  rw [← hbe] at hr0 hs0 hMb0 hb1s ⊢
  have HA := Lib.hid (And.intro hA1 (show L.length ≤ 1000000 by rw [hA1.len]; exact HI.out.2.1))
  have HW := Lib.hid (And.intro hb1s (And.intro (show mb < bb by have := HI.out.2.2.2.2; omega) (show bb + 1 < w0.heap.size by omega)))
  clear hA1 hb1s hbe hs0
  go_loopg [8] L.length (fun gk v8 wx => FindRel W mb (bb + 1) bb L name gk wx)
  case atStart => exact ⟨[], L, [], rfl, by simp, by simp, hr0, hMb0, fun c p hp => by simp at hp, hB0, HW.out.2.2⟩
  case round =>
    obtain ⟨D, left, B, hlg, hag, hp, hr, hMB, hBst, hB, hrbx⟩ := hrel
    have HP := Lib.hid (And.intro hlg (And.intro hag (And.intro hp hBst)))
    clear hlg hag hp hr0 hB0 hMb0 hBst
    go_wp2_with (first
      | (at_next; refine wpList_mapstep (mk := keyV) (mv := entV) (ok := okK) _ rfl _ rfl mb (bb + 1) L left rfl hr ?_ ?_))
    · intro hl0
      subst hl0
      obtain ⟨hlg, hag, hp, hBst⟩ := HP.out
      simp only [List.append_nil] at hp
      have HQ := Lib.hid (And.intro hag (And.intro hp hBst))
      clear hlg hag hp hBst hr HP hrbx
      go_wp2_with (first
        | (at_range; refine wpList_range (mk := Value.string) (mv := Value.int .i64) (ok := okS) _ rfl _ 69 rfl 9 3 Tryd.underlying69 bb B rfl hMB ?_; intro w5 hr5 hg5 hs5))
      go_frame
      have hB5 : Below W.heap.size W w5 := hB.grown hg5 hB.size (fun k e => by cases e)
      have hrbW : W.heap.size ≤ wr.heap.size := hB.size
      obtain ⟨rb2, hre⟩ : ∃ x, x = wr.heap.size := ⟨_, rfl⟩
      rw [← hre] at hr5 hrbW ⊢
      have HAP := Lib.hid hMB.apart
      have HR := Lib.hid hrbW
      clear hg5 hs5 hB hMB hre hrbW
      go_loopg [12] B.length (fun gk v12 wx => FindRel2 W bb rb2 B gk v12 wx)
      case atStart => exact ⟨[], B, rfl, by simp, Kd.R_nil _ _ _ _ _, by simp, hr5, hB5⟩
      case round =>
        obtain ⟨acc, left, hlg, hag, hR, hpp, hr, hB⟩ := hrel
        have HP := Lib.hid (And.intro hlg (And.intro hag hpp))
        clear hlg hag hpp hr5 hB5
        go_wp2_with (first | (at_next; refine wpList_mapstep (mk := Value.string) (mv := Value.int .i64) (ok := okS) _ rfl _ rfl bb rb2 B left rfl hr ?_ ?_))
        · intro hl0
          subst hl0
          obtain ⟨hlg, hag, hpp⟩ := HP.out
          simp only [List.map_nil, List.append_nil] at hpp
          have hBl : B.length ≤ 1000000 := by have := HQ.out.1; have := HA.out.2; omega
          have cS := sortW_calls hR (by omega) (want_keys HAP.out hpp)
          have HPP := Lib.hid hpp
          have hbase := Kd.R_base hR
          clear hR hlg hag hr hpp
          go_wp2_with (first | (go_at_call 29; refine cS.mono ?_; rintro e w6 ⟨rfl, ws, hys, hsr, hR6, hg6⟩))
          go_ret2
          exact ⟨_, ws, rfl, find_is HA.out.1 HQ.out.2.1 HQ.out.2.2 HAP.out (HPP.out.symm.trans hys) hsr, hR6, hB.grown hg6 hB.size hbase⟩
        · intro j x q0 w1 hj hr1 hg1 hs1 hen
          have hl1 := erase_len hj
          have hpm := erase_perm hj
          have hR1 := R_next hr hR hg1
          have hB1 := hB.grown hg1 hB.size (fun k e => by injection e with e; have := HR.out; omega)
          have hac : acc.length ≤ 1000000 := by have := HP.out.2.1; have := HQ.out.1; have := HA.out.2; omega
          have HQ2 := Lib.hid (And.intro hl1 hpm)
          obtain ⟨A3, c3, e3⟩ := Kd.R_slice hR1
          subst e3
          clear hl1 hpm hj hg1 hr hR hB hs1
          go_wp2_with (first | (at_builtin; refine Kd.R_append k48 (w0 := W) W.heap.size rfl (.tmp 58) (.tmp 62) 41 48 (.agg #[.string ⟨#[]⟩, .int .i64 0]) 24 rfl Tryd.underlying41 (by kernel_rfl) rfl (by decide) (by omega) (.slice A3 acc.length c3) acc ⟨x, q0⟩ [.string x, .int .i64 q0] (fun _ => True) (fun _ => False) rfl rfl (k48_mkM _ _ _ ⟨x, q0⟩) (fun _ hk => hk.elim) (fun _ _ => trivial) hR1 hB1 hB1.size (by omega) ?_; intro v1 w5 hR5 hB5 hg5 hat5))
          have h1 := HP.out.1
          have h2 := HQ2.out.1
          have h3 := HP.out.2.1
          obtain ⟨gk', rfl⟩ : ∃ x, gk = x + 1 := ⟨gk - 1, by omega⟩
          go_roundg gk'
          case measure => omega
          case rel =>
            refine ⟨acc ++ [⟨x, q0⟩], left.eraseIdx j, by omega, by rw [List.length_append]; simp; omega, hR5, ?_, range_app hr1 hR1 hg5, hB5⟩
            refine List.Perm.trans ?_ HP.out.2.2
            rw [List.append_assoc]
            exact List.Perm.append_left acc (show ([(⟨x, q0⟩ : WantT)] ++ (left.eraseIdx j).map toW).Perm (left.map toW) from (HQ2.out.2.map toW).symm)
    · intro j k1 k2 q0 p0 w1 hj hr1 hg1 hs1 hen
      have hl1 := erase_len hj
      have hpm := erase_perm hj
      have hmemL : ((k1, k2), (q0, p0)) ∈ L := HP.out.2.2.1.mem_iff.1 (List.mem_append_right _ (List.mem_of_getElem? hj))
      have hok : okK (k1, k2) := hr.map.oks _ hmemL
      have hq0 : 0 ≤ q0 := HI.out.2.2.1 _ (HA.out.1.perm.mem_iff.1 hmemL)
      have HOK := Lib.hid (And.intro hok hq0)
      have hB1 := hB.grown hg1 hB.size (fun k e => by injection e with e; have := HW.out.1; omega)
      have hMB1 := hMB.grown hg1 (fun e => by injection e with e; omega)
      have ha1 := (Below.refl w1.heap.size w1).alloc (Nat.le_refl _) (.cells #[.string k1, .string k2] 61 (0, 0))
      have ha2 := ha1.alloc ha1.size (.cells #[.int .i64 q0, .int .i64 p0] 63 (0, 0))
      have hr2 := hr1.below ha2
      have hMB2 := hMB1.below ha2
      have hB2 := hB1.trans (ha2.mono hB1.size)
      have hk2 := blk_alloc (blk_new w1 (.cells #[.string k1, .string k2] 61 (0, 0))) (.cells #[.int .i64 q0, .int .i64 p0] 63 (0, 0))
      have he2 := blk_new (w1.alloc (.cells #[.string k1, .string k2] 61 (0, 0))) (.cells #[.int .i64 q0, .int .i64 p0] 63 (0, 0))
      rw [show (w1.alloc (.cells #[.string k1, .string k2] 61 (0, 0))).heap.size = wr.heap.size + 1 by simp [hs1]] at he2
      rw [hs1] at hk2
      have cM := matches_calls k2 name _ (HLd.out.below hB2)
      have HZ := Lib.hid (show bb + 1 < ((w1.alloc (.cells #[.string k1, .string k2] 61 (0, 0))).alloc (.cells #[.int .i64 q0, .int .i64 p0] 63 (0, 0))).heap.size by simp; omega)
      have HQ := Lib.hid (And.intro hl1 (And.intro hpm (And.intro hr2 (And.intro hMB2 (And.intro hk2 (And.intro he2 hB2))))))
      clear hl1 hpm hmemL hok hq0 hB1 hMB1 ha1 ha2 hr2 hMB2 hB2 hk2 he2 hr1 hr hj hB hMB hrbx hg1
      generalize matchE k2 name = er at cM
      have ht : ∀ b, matchB k2 name = b → tkE name ((k1, k2), (q0, p0)) = b := fun b h => h
      unfold keyV entV at hen ⊢
      cases hm : matchB k2 name
      · rw [hm] at cM
        have HT := Lib.hid (ht false hm)
        clear hm ht
        go_wp2_with (go_at_call 28; refine cM.mono ?_; rintro e w4 ⟨rfl, hb4⟩)
        have h1 := HP.out.1
        have h2 := HQ.out.1
        have h3 := HP.out.2.1
        obtain ⟨gk', rfl⟩ : ∃ x, gk = x + 1 := ⟨gk - 1, by omega⟩
        go_roundg gk'
        case measure => omega
        case rel =>
          refine ⟨D ++ [((k1, k2), (q0, p0))], left.eraseIdx j, B, by omega, by omega, ?_, HQ.out.2.2.1.below hb4, HQ.out.2.2.2.1.below hb4, fun c => best_no HT.out (HP.out.2.2.2 c), HQ.out.2.2.2.2.2.2.trans (hb4.mono HQ.out.2.2.2.2.2.2.size), by have := hb4.size; have := HZ.out; omega⟩
          rw [List.append_assoc]
          exact (List.Perm.append_left D (show ([((k1, k2), (q0, p0))] ++ left.eraseIdx j).Perm left from HQ.out.2.1.symm)).trans HP.out.2.2.1
      · rw [hm] at cM
        have HT := Lib.hid (ht true hm)
        clear hm ht
        have hV : (if false = true then Value.tuple #[lookV (Value.int .i64) (.int .i64 0) (getL B k1), .bool (getL B k1).isSome] else lookV (Value.int .i64) (.int .i64 0) (getL B k1)) = .int .i64 ((getL B k1).getD 0) := by
          rw [if_neg (by decide)]
          cases getL B k1 <;> rfl
        have hIF : (if (getL B k1).getD 0 < q0 then q0 else (getL B k1).getD 0) = (if (getL B k1).getD 0 < q0 then q0 else (getL B k1).getD 0) := rfl
        obtain ⟨o, ho⟩ : ∃ o, (getL B k1).getD 0 = o := ⟨_, rfl⟩
        rw [ho] at hV
        have HIF := Lib.hid (show (if (getL B k1).getD 0 < q0 then q0 else (getL B k1).getD 0) = (if o < q0 then q0 else o) by rw [ho])
        have HV := Lib.hid hV
        clear hV ho hIF
        by_cases hoq : o < q0
        all_goals have HOQ := Lib.hid hoq
        · have hif := Lib.hid (HIF.out.trans (if_pos HOQ.out))
          go_wp2_with (first
            | (go_at_call 28; refine cM.mono ?_; rintro e w4 ⟨rfl, hb4⟩; have hk4 := blk_below HQ.out.2.2.2.2.1 hb4; have he4 := blk_below HQ.out.2.2.2.2.2.1 hb4; have z0 := blk_cell hk4 0; have z1 := blk_cell hk4 1; have y0 := blk_cell he4 0; have y1 := blk_cell he4 1; have hMB4 := HQ.out.2.2.2.1.below hb4)
            | (at_lookup; refine wpList_look (mk := Value.string) (mv := Value.int .i64) (ok := okS) _ rfl _ _ 69 false rfl 9 3 strT Tryd.underlying69 (.int .i64 0) (zeroI _) bb B rfl hMB4 k1 rfl HOK.out.1.1 (.int .i64 o) HV.out ?_)
            | (refine wpList_put (mk := Value.string) (mv := Value.int .i64) (ok := okS) _ rfl _ _ _ 69 rfl 9 3 strT Tryd.underlying69 bb B rfl hMB4 k1 q0 rfl HOK.out.1.1 rfl ?_; intro w6 hm6 hg6 hz6))
          have h1 := HP.out.1
          have h2 := HQ.out.1
          have h3 := HP.out.2.1
          obtain ⟨gk', rfl⟩ : ∃ x, gk = x + 1 := ⟨gk - 1, by omega⟩
          go_roundg gk'
          case measure => omega
          case rel =>
            have hr4 := (HQ.out.2.2.1.below hb4).grown hg6 (fun e => by injection e with e; have := HW.out.2.1; omega) (fun e => by injection e with e; omega)
            have hB4 := HQ.out.2.2.2.2.2.2.trans (hb4.mono HQ.out.2.2.2.2.2.2.size)
            refine ⟨D ++ [((k1, k2), (q0, p0))], left.eraseIdx j, _, by omega, by have := putL_len B k1 q0; omega, ?_, hr4, hm6, fun c => ?_, hB4.grown hg6 hB4.size (fun k e => by injection e with e; have := HW.out.1; omega), ?_⟩
            · rw [List.append_assoc]
              exact (List.Perm.append_left D (show ([((k1, k2), (q0, p0))] ++ left.eraseIdx j).Perm left from HQ.out.2.1.symm)).trans HP.out.2.2.1
            · have := best_yes (name := name) (p := ((k1, k2), (q0, p0))) HT.out HOK.out.2 (HP.out.2.2.2 c)
              have e2 : (if (getL B k1).getD 0 < q0 then q0 else (getL B k1).getD 0) = q0 := hif.out
              rw [show (if (getL B ((k1, k2), (q0, p0)).1.1).getD 0 < ((k1, k2), (q0, p0)).2.1 then ((k1, k2), (q0, p0)).2.1 else (getL B ((k1, k2), (q0, p0)).1.1).getD 0) = q0 from e2] at this
              exact this
            · have e1 := hb4.size
              have e2 := hg6.size
              have e3 := HZ.out
              omega
        · have hif := Lib.hid (HIF.out.trans (if_neg HOQ.out))
          go_wp2_with (first
            | (go_at_call 28; refine cM.mono ?_; rintro e w4 ⟨rfl, hb4⟩; have hk4 := blk_below HQ.out.2.2.2.2.1 hb4; have he4 := blk_below HQ.out.2.2.2.2.2.1 hb4; have z0 := blk_cell hk4 0; have z1 := blk_cell hk4 1; have y0 := blk_cell he4 0; have y1 := blk_cell he4 1; have hMB4 := HQ.out.2.2.2.1.below hb4)
            | (at_lookup; refine wpList_look (mk := Value.string) (mv := Value.int .i64) (ok := okS) _ rfl _ _ 69 false rfl 9 3 strT Tryd.underlying69 (.int .i64 0) (zeroI _) bb B rfl hMB4 k1 rfl HOK.out.1.1 (.int .i64 o) HV.out ?_)
            | (refine wpList_put (mk := Value.string) (mv := Value.int .i64) (ok := okS) _ rfl _ _ _ 69 rfl 9 3 strT Tryd.underlying69 bb B rfl hMB4 k1 o rfl HOK.out.1.1 rfl ?_; intro w6 hm6 hg6 hz6))
          have h1 := HP.out.1
          have h2 := HQ.out.1
          have h3 := HP.out.2.1
          obtain ⟨gk', rfl⟩ : ∃ x, gk = x + 1 := ⟨gk - 1, by omega⟩
          go_roundg gk'
          case measure => omega
          case rel =>
            have hr4 := (HQ.out.2.2.1.below hb4).grown hg6 (fun e => by injection e with e; have := HW.out.2.1; omega) (fun e => by injection e with e; omega)
            have hB4 := HQ.out.2.2.2.2.2.2.trans (hb4.mono HQ.out.2.2.2.2.2.2.size)
            refine ⟨D ++ [((k1, k2), (q0, p0))], left.eraseIdx j, _, by omega, by have := putL_len B k1 o; omega, ?_, hr4, hm6, fun c => ?_, hB4.grown hg6 hB4.size (fun k e => by injection e with e; have := HW.out.1; omega), ?_⟩
            · rw [List.append_assoc]
              exact (List.Perm.append_left D (show ([((k1, k2), (q0, p0))] ++ left.eraseIdx j).Perm left from HQ.out.2.1.symm)).trans HP.out.2.2.1
            · have := best_yes (name := name) (p := ((k1, k2), (q0, p0))) HT.out HOK.out.2 (HP.out.2.2.2 c)
              have e2 : (if (getL B k1).getD 0 < q0 then q0 else (getL B k1).getD 0) = o := hif.out
              rw [show (if (getL B ((k1, k2), (q0, p0)).1.1).getD 0 < ((k1, k2), (q0, p0)).2.1 then ((k1, k2), (q0, p0)).2.1 else (getL B ((k1, k2), (q0, p0)).1.1).getD 0) = o from e2] at this
              exact this
            · have e1 := hb4.size
              have e2 := hg6.size
              have e3 := HZ.out
              omega
end Go.Proofs.YtjibcekillcgjaaDoor.Sb
