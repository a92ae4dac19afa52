/- What the proof of SubsFinds leans on: SbG. -/
import Derived.Test.YtjibcekillcgjaaDoorSSubsFindsSbF
set_option linter.unusedVariables false
set_option linter.unusedSimpArgs false
namespace Go.Proofs.YtjibcekillcgjaaDoor.Sb
open Go Go.RowKit Go.ChangeMaps Go.MapKept Go.Proofs.YtjibcekillcgjaaDoorW.PrintWords Go.Proofs.YtjibcekillcgjaaDoor.Q Go.Proofs.YtjibcekillcgjaaDoor.Mp Go.Proofs.YtjibcekillcgjaaDoor.Top Go.Proofs.YtjibcekillcgjaaDoor.Fm
def goneF (es : List Ent) (c : ByteArray) : List Ent := es.filter fun p => !ownB c p
def dropL (es : List Ent) (c : ByteArray) (l : List SubT) : List Ent := l.foldl (fun e s => delL e (c, s.f0)) es
theorem dropL_eq (c : ByteArray) : ∀ (l : List SubT) (es : List Ent), dropL es c l = es.filter fun p => !(l.any fun s => decide (p.1 = (c, s.f0)))
  | [], es => by
    unfold dropL
    exact (List.filter_eq_self.2 (fun p _ => rfl)).symm
  | s :: l, es => by
    have ih := dropL_eq c l (delL es (c, s.f0))
    unfold dropL at ih ⊢
    rw [List.foldl_cons, ih]
    unfold delL
    rw [List.filter_filter]
    refine List.filter_congr (fun p _ => ?_)
    rw [List.any_cons]
    cases decide (p.1 = (c, s.f0)) <;> simp
theorem dropL_all (es : List Ent) (c : ByteArray) : dropL es c (ofF es c) = goneF es c := by
  rw [dropL_eq]
  unfold goneF
  refine List.filter_congr (fun p hp => ?_)
  congr 1
  unfold ownB
  by_cases h : p.1.1 = c
  · rw [decide_eq_true h, List.any_eq_true]
    refine ⟨⟨p.1.2, p.2.1⟩, ?_, ?_⟩
    · unfold ofF
      exact List.mem_map.2 ⟨p, List.mem_filter.2 ⟨hp, by unfold ownB; exact decide_eq_true h⟩, rfl⟩
    · rw [decide_eq_true (show p.1 = (c, p.1.2) by rw [← h])]
  · rw [decide_eq_false h, List.any_eq_false]
    intro s _ e
    have := of_decide_eq_true e
    exact h (by rw [this])
theorem IAt.oks {W : World} {xb mb : Nat} {es : List Ent} {n : Int} (h : IAt W xb mb es n) : ∀ p ∈ es, okK p.1 := by
  obtain ⟨_, L, hM, hA⟩ := h
  exact fun p hp => hM.oks p (hA.perm.mem_iff.2 hp)
theorem of_len (es : List Ent) (c : ByteArray) : (ofF es c).length ≤ es.length := by
  unfold ofF
  rw [List.length_map]
  exact List.length_filter_le _ _
theorem ownS {e : Nat} {W : World} {base : Nat} {v : Value} {xs : List SubT} {ok : Nat → Prop} (h : Kd.R k33 e W base ok v xs) : Kd.R k33 e W base (fun k => v.ownBlock = some k) v xs := by
  obtain ⟨h0, inner, ho, hr⟩ := h
  exact ⟨fun k hk => hk, inner, ho, hr.imp_ (fun x cs hp => by rw [k33_openM hp]; exact k33_mkM _ _ _ x)⟩
def GonePost (W : World) (xb mb : Nat) (es : List Ent) (n : Int) (c : ByteArray) (e : Ending) (W' : World) : Prop :=
  e = .returned (.tuple #[.int .i64 (ofF es c).length, .int .i64 0]) ∧ Frm (XB xb mb) W W' ∧ IAt W' xb mb (goneF es c) n
def GoneRel (W : World) (xb mb : Nat) (es : List Ent) (n : Int) (c : ByteArray) (l : List SubT) (v : Value) (gk : Nat) (v18 : Value) (wx : World) : Prop :=
  ∃ (i : Nat), v18 = .int .i64 i ∧ i + gk = l.length ∧ IAt wx xb mb (dropL es c (l.take i)) n ∧ Kd.R k33 33 wx W.heap.size (fun k => v.ownBlock = some k) v l ∧ Frm (XB xb mb) W wx
set_option maxHeartbeats 8000000 in
set_option maxRecDepth 1000000 in
theorem gone_calls (W : World) (xb mb : Nat) (es : List Ent) (n : Int) (c : ByteArray) (hI : IAt W xb mb es n) (hlen : es.length ≤ 1000000) :
    Calls Tryd.prog 18 #[.pointer (some ⟨xb, 0, none⟩), .string c] W (GonePost W xb mb es n c) := by
  have cO := of_calls W xb mb es n c hI hlen
  have HI := Lib.hid (And.intro hI (And.intro hlen hI.oks))
  have HE : ∀ s ∈ ofF es c, okK (c, s.f0) := by
    intro s hs
    unfold ofF at hs
    obtain ⟨p, hp, rfl⟩ := List.mem_map.1 hs
    have := hI.oks p (List.mem_filter.1 hp).1
    have e := of_decide_eq_true (List.mem_filter.1 hp).2
    exact ⟨by rw [← e]; exact this.1, this.2⟩
  have hll := of_len es c
  obtain ⟨l, hle⟩ : ∃ l, l = ofF es c := ⟨_, rfl⟩
  rw [← hle] at cO HE hll
  have HL := Lib.hid (And.intro hle (And.intro HE (show l.length ≤ 1000000 by omega)))
  clear hI hlen hle HE hll
  unfold GonePost
  go_enter Tryd.func18, Tryd.ntmps18
  go_wp2_with (go_at_call 11; refine cO.mono ?_; rintro e w1 ⟨v, rfl, hR1, hb1⟩; obtain ⟨A6, c6, rfl⟩ := Kd.R_slice hR1)
  have hR1' := ownS hR1
  have hI1 := HI.out.1.below hb1
  have hF1 := Frm.of_below (S := XB xb mb) hb1
  clear hR1 hb1
  go_loopg [18] l.length (fun gk v18 wx => GoneRel W xb mb es n c l (.slice A6 l.length c6) gk v18 wx)
  case atStart => exact ⟨0, rfl, by omega, hI1, hR1', hF1⟩
  case round =>
    obtain ⟨i, rfl, hig, hIx, hRx, hFx⟩ := hrel
    clear hR1' hI1 hF1
    cases gk with
    | zero =>
      have hi : i = l.length := by omega
      have hnl : (i < l.length) = False := eq_false (by omega)
      rw [hi, List.take_length] at hIx
      go_wp2
      go_ret2
      refine ⟨by rw [← HL.out.1]; rfl, hFx, ?_⟩
      rw [← dropL_all, ← HL.out.1]
      exact hIx
    | succ gk =>
      have hi : i < l.length := by omega
      have hyl : (i < l.length) = True := eq_true hi
      have p0 : ((0 : Int) ≤ (i : Int)) = True := eq_true (by omega)
      have p1 : ((i : Int) < (l.length : Int)) = True := eq_true (by omega)
      have hs1 : IntKind.i64.wrap ((i : Int) + 1) = ((i + 1 : Nat) : Int) := by rw [IntWalk.i64_in _ (by have := HL.out.2.2; omega)]; rfl
      obtain ⟨ad, eA, k0, k1⟩ := at_T33 (Kd.R_reads' hRx).2.2 (i : Int) (by omega) (by omega)
      rw [Int.toNat_natCast] at k0 k1
      subst eA
      obtain ⟨y, hy⟩ : ∃ y, rd_T33 l (i : Int) = y := ⟨_, rfl⟩
      rw [hy] at k0 k1
      have hyi : l[i] = y := by
        rw [← hy]
        unfold rd_T33
        rw [Int.toNat_natCast, List.getD_eq_getElem?_getD, List.getElem?_eq_getElem hi]
        rfl
      have HYI := Lib.hid hyi
      have hal := (Below.refl wr.heap.size wr).alloc (Nat.le_refl _) (.cells #[.string y.f0, .int .i64 y.f1] 33 (0, 0))
      have cxb := blk_cell (hIx.below hal).1 0
      have HH := Lib.hid (And.intro hRx (And.intro hIx (And.intro hFx (And.intro hig hal))))
      clear hRx hIx hFx hig hal hy hyi
      go_wp2
      obtain ⟨hRx, ⟨hx, L, hM, hA⟩, hFx, hig, hal⟩ := HH.out
      have hk0 := blk_new wr (.cells #[.string y.f0, .int .i64 y.f1] 33 (0, 0))
      have hR2 := Kd.R_below hRx hal
      have hF2 := hFx.below hal
      have hx2 := blk_below hx hal
      have hM2 := hM.below hal
      have HA := Lib.hid hA
      clear hRx hx hM hA hFx hal cxb HH k0 k1
      generalize wr.alloc (.cells #[.string y.f0, .int .i64 y.f1] 33 (0, 0)) = W2 at hk0 hR2 hF2 hx2 hM2 ⊢
      obtain ⟨kb, hkbe⟩ : ∃ x, x = wr.heap.size := ⟨_, rfl⟩
      rw [← hkbe] at hk0 ⊢
      have y0 := blk_cell hk0 0
      have y1 := blk_cell hk0 1
      have x0 := blk_cell hx2 0
      have HH := Lib.hid (And.intro hR2 (And.intro hF2 hx2))
      clear hR2 hF2 hx2 hk0 hkbe
      go_still_tail 8, (by kernel_rfl)
      change wpList _ _ _ _ _ (W2.drewN 1)
      have hM5 := hM2.below (pw_below_drewN (Below.refl W2.heap.size W2) 1)
      have hF5 := HH.out.2.1.drewN 1
      have hR5 := Kd.R_drewN HH.out.1 1
      have hx5 := blk_drewN HH.out.2.2 1
      have HX5 := Lib.hid (And.intro hx5 (And.intro hR5 hF5))
      clear hM2 HH hF5 hR5 hx5
      generalize W2.drewN 1 = w5 at hM5 HX5 ⊢
      have hok : okK (c, y.f0) := HL.out.2.1 y (by rw [← HYI.out]; exact List.getElem_mem hi)
      have HOK := Lib.hid hok
      clear hok
      go_wp2_with (first | (refine wpList_drop (mk := keyV) (mv := entV) (ok := okK) _ rfl _ _ 56 61 rfl 63 keyT Tryd.underlying56 mb L rfl hM5 (c, y.f0) rfl HOK.out ?_; intro w6 hm6 hg6 hz6))
      go_roundg gk
      case measure => omega
      case rel =>
        obtain ⟨hx5, hR5, hF5⟩ := HX5.out
        have hlt := HI.out.1.lt
        have hne := HI.out.1.ne
        have hR6 := Kd.R_grown hR5 hg6 (fun k hk e => by injection e with e; have := Kd.R_base hR5 k hk; omega)
        refine ⟨i + 1, by first | rfl | (rw [hs1]), by omega, ⟨(hg6.block xb (blk_lt hx5) (fun e => by injection e with e; exact hne e)).trans hx5, delL L (c, y.f0), hm6, ?_⟩, hR6, hF5.grown hg6 (fun j e => by injection e with e; exact .inl (.inr e.symm))⟩
        have e9 : dropL es c (l.take (i + 1)) = delL (dropL es c (l.take i)) (c, y.f0) := by
          unfold dropL
          rw [List.take_succ_eq_append_getElem hi, List.foldl_append, HYI.out]
          rfl
        rw [e9]
        exact HA.out.del (c, y.f0)
end Go.Proofs.YtjibcekillcgjaaDoor.Sb
