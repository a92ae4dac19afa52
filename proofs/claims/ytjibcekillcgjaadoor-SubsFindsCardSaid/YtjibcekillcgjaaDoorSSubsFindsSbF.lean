/- What the proof of SubsFinds leans on: SbF. -/
import Derived.Test.YtjibcekillcgjaaDoorSSubsFindsSbE
import Derived.Deep.LoopGhost
set_option linter.unusedVariables false
set_option linter.unusedSimpArgs false
namespace Go.Proofs.YtjibcekillcgjaaDoor.Sb
open Go Go.RowKit Go.ChangeMaps Go.MapKept Go.Proofs.YtjibcekillcgjaaDoorW.PrintWords Go.Proofs.YtjibcekillcgjaaDoor.Q Go.Proofs.YtjibcekillcgjaaDoor.Mp Go.Proofs.YtjibcekillcgjaaDoor.Top Go.Proofs.YtjibcekillcgjaaDoor.Fm
abbrev SubT := S33
def ownB (c : ByteArray) (p : Ent) : Bool := decide (p.1.1 = c)
def ofF (es : List Ent) (c : ByteArray) : List SubT := (es.filter (ownB c)).map fun p => ⟨p.1.2, p.2.1⟩
theorem ba_eq (a b : ByteArray) : (a.toList == b.toList) = decide (a = b) := by
  by_cases h : a = b
  · rw [decide_eq_true h, h]; simp
  · rw [decide_eq_false h]
    exact beq_eq_false_iff_ne.2 (fun e => h (ba_inj (by rw [← Lib.toList_data, ← Lib.toList_data]; exact e)))
theorem range_app {α β γ : Type} {mk : α → Value} {mv : β → Value} {okp : α → Prop} {W W' : World} {mb rb : Nat} {L left : List (α × β)} {d : Kd γ} {e : Nat} {v : Value} {xs : List γ} {base : Nat} {ok : Nat → Prop} (h : RangeAt mk mv okp W mb rb L left) (hR : Kd.R d e W base ok v xs) (hg : W.grownBy W' v.ownBlock) : RangeAt mk mv okp W' mb rb L left := by
  have h1 : some mb ≠ v.ownBlock := fun e => by
    obtain ⟨cells, hc⟩ := Kd.R_typed hR mb e.symm
    obtain ⟨es, clock, hb, _⟩ := h.map
    rw [hc] at hb
    cases hb
  have h2 : some rb ≠ v.ownBlock := fun e => by
    obtain ⟨cells, hc⟩ := Kd.R_typed hR rb e.symm
    obtain ⟨es, clock, since, seen, c0, _, _, _, _, hr, _⟩ := h
    rw [hc] at hr
    cases hr
  exact h.grown hg h1 h2
theorem R_next {α β γ : Type} {mk : α → Value} {mv : β → Value} {okp : α → Prop} {W W' : World} {mb rb : Nat} {L left : List (α × β)} {d : Kd γ} {e : Nat} {v : Value} {xs : List γ} {base : Nat} (h : RangeAt mk mv okp W mb rb L left) (hR : Kd.R d e W base (fun _ => True) v xs) (hg : W.grownBy W' (some rb)) : Kd.R d e W' base (fun _ => True) v xs := by
  refine Kd.R_mono (Kd.R_grown (Kd.R_bound hR) hg (fun k hk e => ?_)) (fun _ _ => trivial)
  injection e with e
  subst e
  obtain ⟨_, _, _, q, _, cells, hc⟩ := hk
  obtain ⟨es, clock, since, seen, c0, _, _, _, _, hr, _⟩ := h
  rw [hc] at hr
  cases hr
theorem erase_perm {α : Type} : ∀ {l : List α} {j : Nat} {p : α}, l[j]? = some p → l.Perm (p :: l.eraseIdx j)
  | [], _, _, h => by simp at h
  | q :: l, 0, p, h => by
    obtain rfl : q = p := by simpa using h
    exact List.Perm.refl _
  | q :: l, j + 1, p, h => by
    have hj : l[j]? = some p := by simpa using h
    exact ((erase_perm hj).cons q).trans (List.Perm.swap p q _)
theorem erase_len {α : Type} {l : List α} {j : Nat} {p : α} (h : l[j]? = some p) : (l.eraseIdx j).length + 1 = l.length := by
  obtain ⟨hj, rfl⟩ := List.getElem?_eq_some_iff.1 h
  rw [List.length_eraseIdx, if_pos hj]
  omega
theorem ownK {e : Nat} {W : World} {base : Nat} {v : Value} {xs : List KeyS} {ok : Nat → Prop} (h : Kd.R kK e W base ok v xs) : Kd.R kK e W base (fun k => v.ownBlock = some k) v xs := by
  obtain ⟨h0, inner, ho, hr⟩ := h
  exact ⟨fun k hk => hk, inner, ho, hr.imp_ (fun x cs hp => by rw [kK_openM hp]; exact kK_mkM _ _ _ x)⟩
def OfRel (W : World) (mb rb : Nat) (L : List Ent) (c : ByteArray) (gk : Nat) (v : Value) (wx : World) : Prop :=
  ∃ (acc : List KeyS) (left : List Ent), left.length = gk ∧ acc.length + gk ≤ L.length ∧ Kd.R kK 61 wx W.heap.size (fun _ => True) v acc ∧ (acc.map (·.1) ++ (left.filter (ownB c)).map (·.1)).Perm ((L.filter (ownB c)).map (·.1)) ∧ RangeAt keyV entV okK wx mb rb L left ∧ Below W.heap.size W wx ∧ rb < wx.heap.size ∧ ∀ q ∈ left, q ∈ L
def OfRel2 (W : World) (ks : List KeyS) (es : List Ent) (v6 : Value) (gk : Nat) (v8 v37 : Value) (wx : World) : Prop :=
  ∃ (i : Nat), v37 = .int .i64 i ∧ i + gk = ks.length ∧ Kd.R k33 33 wx W.heap.size (fun k => some k ≠ v6.ownBlock) v8 ((ks.take i).map fun k => ⟨k.1.2, qty es k.1⟩) ∧ Kd.R kK 61 wx W.heap.size (fun k => v6.ownBlock = some k) v6 ks ∧ Below W.heap.size W wx
theorem of_keys {L es : List Ent} {n : Int} (h : AsP L es n) (c : ByteArray) : ((L.filter (ownB c)).map (·.1)).Perm ((es.filter (ownB c)).map (·.1)) := (h.perm.filter _).map _
theorem plc_of {L es : List Ent} {n : Int} (h : AsP L es n) {p : Ent} (hp : p ∈ es) : plc es p.1 = p.2.2 ∧ qty es p.1 = p.2.1 := by
  have := getL_some h.apart' (show (p.1, p.2) ∈ es from hp)
  unfold plc qty
  rw [this]
  exact ⟨rfl, rfl⟩
theorem of_rise {L es : List Ent} {n : Int} (h : AsP L es n) (c : ByteArray) : ((es.filter (ownB c)).map (·.1)).Pairwise (fun a b => plc es a < plc es b) := by
  rw [List.pairwise_map]
  have h1 : (es.filter (ownB c)).Pairwise (fun p q => p.2.2 < q.2.2) := h.srt.filter _
  refine List.Pairwise.imp_of_mem ?_ h1
  intro a b ha hb hab
  rw [(plc_of h (List.mem_filter.1 ha).1).1, (plc_of h (List.mem_filter.1 hb).1).1]
  exact hab
theorem of_subs {L es : List Ent} {n : Int} (h : AsP L es n) (c : ByteArray) {ks : List KeyS} (hk : ks.map (·.1) = (es.filter (ownB c)).map (·.1)) : (ks.map fun k => (⟨k.1.2, qty es k.1⟩ : SubT)) = ofF es c := by
  have e1 : (ks.map fun k => (⟨k.1.2, qty es k.1⟩ : SubT)) = (ks.map (·.1)).map fun k => ⟨k.2, qty es k⟩ := by rw [List.map_map]; rfl
  rw [e1, hk, List.map_map]
  unfold ofF
  refine List.map_congr_left (fun p hp => ?_)
  show (⟨p.1.2, qty es p.1⟩ : SubT) = ⟨p.1.2, p.2.1⟩
  rw [(plc_of h (List.mem_filter.1 hp).1).2]
def OfS (B : Nat → Prop) (W : World) (bx xb mb kb : Nat) (y : Key) (q p : Int) (w : World) : Prop :=
  Frm B W w ∧ w.cell? ⟨bx, 0, none⟩ = some (.pointer (some ⟨xb, 0, none⟩)) ∧ w.cell? ⟨xb, 0, none⟩ = some (.map (some mb)) ∧ w.cell? ⟨kb, 0, none⟩ = some (.string y.1) ∧ w.cell? ⟨kb, 1, none⟩ = some (.string y.2) ∧ (Instr.lookup 56 (.map (some mb)) (.agg #[.string y.1, .string y.2]) false).run Tryd.prog w = .ok (.agg #[.int .i64 q, .int .i64 p]) w
structure OfH (B : Nat → Prop) (W : World) (bx xb mb kb : Nat) (y : Key) (q p : Int) : Prop where
  look : ∀ w, Frm B W w → (Instr.lookup 56 (.map (some mb)) (.agg #[.string y.1, .string y.2]) false).run Tryd.prog w = .ok (.agg #[.int .i64 q, .int .i64 p]) w
  now : OfS B W bx xb mb kb y q p W
  n1 : ¬ B bx
  n2 : ¬ B xb
  n3 : ¬ B kb
theorem OfH.of {B : Nat → Prop} {W w : World} {bx xb mb kb : Nat} {y : Key} {q p : Int} (h : OfH B W bx xb mb kb y q p) (hf : Frm B W w) : OfS B W bx xb mb kb y q p w :=
  ⟨hf, hf.cell h.now.2.1 h.n1, hf.cell h.now.2.2.1 h.n2, hf.cell h.now.2.2.2.1 h.n3, hf.cell h.now.2.2.2.2.1 h.n3, h.look w hf⟩
set_option maxHeartbeats 8000000 in
set_option maxRecDepth 1000000 in
theorem of_calls (W : World) (xb mb : Nat) (es : List Ent) (n : Int) (c : ByteArray) (hI : IAt W xb mb es n) (hlen : es.length ≤ 1000000) :
    Calls Tryd.prog 11 #[.pointer (some ⟨xb, 0, none⟩), .string c] W fun e W' => ∃ v, e = .returned (.tuple #[v, .int .i64 0]) ∧ Kd.R k33 33 W' W.heap.size (fun _ => True) v (ofF es c) ∧ Below W.heap.size W W' := by
  have hal := (Below.refl W.heap.size W).alloc (Nat.le_refl _) (.cells #[.pointer (some ⟨xb, 0, none⟩)] 25 (0, 0))
  have hbx := blk_new W (.cells #[.pointer (some ⟨xb, 0, none⟩)] 25 (0, 0))
  have hI1 := hI.below hal
  have hIx := hI1
  obtain ⟨hx, L, hM, hA⟩ := hI1
  have x0 := blk_cell hx 0
  have HA := Lib.hid hA
  have HLe := Lib.hid (show L.length ≤ 1000000 by rw [hA.len]; exact hlen)
  have F0 := Lib.hid (And.intro hal (And.intro hbx hIx))
  clear hal hbx hI hx hIx hlen hA
  go_enter Tryd.func11, Tryd.ntmps11
  go_wp2_with (first | (at_range; refine wpList_range (mk := keyV) (mv := entV) (ok := okK) _ rfl _ 56 rfl 61 63 Tryd.underlying56 mb L rfl hM ?_; intro w0 hr0 hg0 hs0))
  go_frame
  generalize hW1 : W.alloc (.cells #[.pointer (some ⟨xb, 0, none⟩)] 25 (0, 0)) = W1 at F0 hM x0 hg0 hs0 hr0 ⊢
  have hbs : W.heap.size < W1.heap.size := by rw [← hW1]; simp
  have hB0 : Below W1.heap.size W1 w0 := ⟨hg0.os, hg0.tape, hg0.output, hg0.size, fun k hk => hg0.block k hk (by simp)⟩
  obtain ⟨bx, hbe⟩ : ∃ x, x = W.heap.size := ⟨_, rfl⟩
  obtain ⟨rb, hre⟩ : ∃ x, x = W1.heap.size := ⟨_, rfl⟩
  have hrb : rb < w0.heap.size := by omega
  rw [← hbe] at F0 ⊢
  rw [← hre] at hr0 ⊢
  have HW := Lib.hid (And.intro hW1 (And.intro hbe (And.intro hre hbs)))
  clear hW1 hg0 hs0 hbs hbe hre hM x0
  go_loopg [6] L.length (fun gk v6 wx => OfRel W1 mb rb L c gk v6 wx)
  case atStart => exact ⟨[], L, rfl, by simp, Kd.R_nil _ _ _ _ _, by simp, hr0, hB0, hrb, fun q hq => hq⟩
  case round =>
    obtain ⟨acc, left, hlg, hag, hR, hp, hr, hB, hrbx, hsub⟩ := hrel
    have HP := Lib.hid (And.intro hlg (And.intro hag hp))
    have HSB := Lib.hid hsub
    clear hlg hag hp hr0 hB0 hrb hsub
    have cbx := cell_later (hB.mono (Nat.le_refl _)) (blk_cell F0.out.2.1 0)
    have cxb := cell_later hB (blk_cell F0.out.2.2.1 0)
    go_wp2_with (first | (at_next; refine wpList_mapstep (mk := keyV) (mv := entV) (ok := okK) _ rfl _ rfl mb rb L left rfl hr ?_ ?_))
    · intro hl0
      subst hl0
      obtain ⟨hlg, hag, hp⟩ := HP.out
      have hst : (acc.map (·.1)).Perm ((es.filter (ownB c)).map (·.1)) := by
        simp only [List.filter_nil, List.map_nil, List.append_nil] at hp
        exact hp.trans (of_keys HA.out c)
      have hac : acc.length < 4611686018427387904 := by have := HLe.out; omega
      obtain ⟨A6, c6, e6⟩ := Kd.R_slice hR
      subst e6
      have cS := sortK_calls (blk_below F0.out.2.1 hB) (F0.out.2.2.below hB) hR hac (of_rise HA.out c) hst
      have hbase := Kd.R_base hR
      clear hR hst hac hlg hag hp hr
      go_wp2_with (first | (go_at_call 24; refine cS.mono ?_; rintro e w5 ⟨rfl, ys, hys, hR5, hg5⟩))
      have hB5 := hB.grown hg5 hB.size hbase
      have hl5 := (Kd.R_reads' hR5).1
      rw [hl5] at hR5 ⊢
      have hR5' := ownK hR5
      have hys2 := of_subs HA.out c hys
      have HY := Lib.hid (And.intro hys2 (show ys.length ≤ 1000000 by have h1 := congrArg List.length hys2; have h2 : (ofF es c).length ≤ es.length := (by unfold ofF; rw [List.length_map]; exact List.length_filter_le _ _); have := HA.out.len; have := HLe.out; rw [List.length_map] at h1; omega))
      clear hB hg5 hR5 hbase hys hys2 hl5 cbx cxb hrbx cS
      go_loopg [8, 37] ys.length (fun gk v8 v37 wx => OfRel2 W1 ys es (.slice A6 ys.length c6) gk v8 v37 wx)
      case atStart => exact ⟨0, rfl, by omega, Kd.R_nil _ _ _ _ _, hR5', hB5⟩
      case round =>
        obtain ⟨i, rfl, hig, hR8, hX, hBx⟩ := hrel
        clear hB5 hR5'
        cases gk with
        | zero =>
          have hi : i = ys.length := by omega
          have hnl : (i < ys.length) = False := eq_false (by omega)
          rw [hi, List.take_length, HY.out.1] at hR8
          go_wp2
          go_ret2
          have hW := HW.out
          exact ⟨_, rfl, Kd.R_mono (Kd.R_lower hR8 (by omega)) (fun _ _ => trivial), (by have := F0.out.1; rw [hW.2.1] at this; exact this.trans (hBx.mono this.size))⟩
        | succ gk =>
          have hi : i < ys.length := by omega
          have hyl : (i < ys.length) = True := eq_true hi
          have p0 : ((0 : Int) ≤ (i : Int)) = True := eq_true (by omega)
          have p1 : ((i : Int) < (ys.length : Int)) = True := eq_true (by omega)
          have hs1 : IntKind.i64.wrap ((i : Int) + 1) = ((i + 1 : Nat) : Int) := by rw [IntWalk.i64_in _ (by have := HY.out.2; omega)]; rfl
          obtain ⟨ad, eA, k0, k1⟩ := at_K (Kd.R_reads' hX).2.2 (i : Int) (by omega) (by omega)
          rw [Int.toNat_natCast] at k0 k1
          subst eA
          obtain ⟨y, hy⟩ : ∃ y, rd_K ys (i : Int) = y := ⟨_, rfl⟩
          rw [hy] at k0 k1
          have HYI := Lib.hid hy
          have hal := (Below.refl wr.heap.size wr).alloc (Nat.le_refl _) (.cells #[.string y.1.1, .string y.1.2] 61 (0, 0))
          have hBa := hBx.trans (hal.mono hBx.size)
          have L1 := look_run (F0.out.2.2.below hBa) (Below.refl _ _) y.1 y.2 false (look_one es y.1)
          have f1 := field0
          have cbx := blk_cell (blk_below F0.out.2.1 hBa) 0
          have cxb := blk_cell (F0.out.2.2.below hBa).1 0
          have HH := Lib.hid (And.intro hR8 (And.intro hX (And.intro hBx hig)))
          clear hR8 hX hBx hig hal hBa hy
          obtain ⟨acc8, ha8⟩ : ∃ x, x = (ys.take i).map fun k => (⟨k.1.2, qty es k.1⟩ : SubT) := ⟨_, rfl⟩
          rw [← ha8] at HH
          have hl8 : acc8.length ≤ 1000000 := by rw [ha8, List.length_map, List.length_take]; have := HY.out.2; omega
          have HA8 := Lib.hid ha8
          obtain ⟨A8, c8, e8⟩ := Kd.R_slice HH.out.1
          subst e8
          clear ha8
          go_wp2
          obtain ⟨hR8, hX, hBx, hig⟩ := HH.out
          have hbk := Kd.R_base hR8
          have hty := Kd.R_typed hR8
          have hal := (Below.refl wr.heap.size wr).alloc (Nat.le_refl _) (.cells #[.string y.1.1, .string y.1.2] 61 (0, 0))
          have hBa := hBx.trans (hal.mono hBx.size)
          have hk0 := blk_new wr (.cells #[.string y.1.1, .string y.1.2] 61 (0, 0))
          have hR8a := Kd.R_below hR8 hal
          have hXa := Kd.R_below hX hal
          have hlt8 := Kd.R_lt hR8
          have hsa : (wr.alloc (.cells #[.string y.1.1, .string y.1.2] 61 (0, 0))).heap.size = wr.heap.size + 1 := by simp
          have hW4 := HW.out
          have hlt1 := F0.out.2.2.lt
          obtain ⟨B, hBe⟩ : ∃ B : Nat → Prop, B = fun k => (Value.slice A8 acc8.length c8).ownBlock = some k := ⟨_, rfl⟩
          have m1 : ¬ B bx := by rw [hBe]; intro e; have := hbk _ e; omega
          have m2 : ¬ B xb := by rw [hBe]; intro e; have := hbk _ e; omega
          have m3 : ¬ B mb := by rw [hBe]; intro e; have := hbk _ e; omega
          have m4 : ¬ B wr.heap.size := by rw [hBe]; intro e; have := hlt8 _ e; omega
          have hBf : ∀ k, (Value.slice A8 acc8.length c8).ownBlock = some k → B k := by rw [hBe]; exact fun k h => h
          have hBb : ∀ k, B k → W1.heap.size ≤ k := by rw [hBe]; exact fun k h => hbk _ h
          have hIa := F0.out.2.2.below hBa
          have hba := blk_below F0.out.2.1 hBa
          clear cbx cxb L1 hBe hbk hlt8 hlt1 k0 k1 hyl p0 p1
          generalize wr.alloc (.cells #[.string y.1.1, .string y.1.2] 61 (0, 0)) = W2 at hal hBa hk0 hR8a hXa hIa hba hsa ⊢
          obtain ⟨kb, hkbe⟩ : ∃ x, x = wr.heap.size := ⟨_, rfl⟩
          rw [← hkbe] at hk0 m4 ⊢
          have hH : OfH B W2 bx xb mb kb y.1 (qty es y.1) (plc es y.1) := by
            have hl : ∀ w, Frm B W2 w → (Instr.lookup 56 (.map (some mb)) (.agg #[.string y.1.1, .string y.1.2]) false).run Tryd.prog w = .ok (.agg #[.int .i64 (qty es y.1), .int .i64 (plc es y.1)]) w := fun w hf => look_run (hIa.frm hf m2 m3) (Below.refl _ _) y.1 y.2 false (look_one es y.1)
            exact ⟨hl, ⟨Frm.refl _ _, blk_cell hba 0, blk_cell hIa.1 0, blk_cell hk0 0, blk_cell hk0 1, hl _ (Frm.refl _ _)⟩, m1, m2, m4⟩
          obtain ⟨q, hq⟩ : ∃ q, q = qty es y.1 := ⟨_, rfl⟩
          rw [← hq] at hH
          have hS := hH.now
          have HH2 := Lib.hid (And.intro hR8a (And.intro hXa (And.intro hBa (And.intro hig (And.intro hBf (And.intro hBb (And.intro hq hBx)))))))
          have hlx := Lib.hid (Kd.R_lt hXa)
          clear hR8 hX hBx hty hal hR8a hXa hsa hW4 hBa hba hIa hk0 m1 m2 m3 m4 hBf hBb hkbe hq hig HH
          have hHd := Aside0.mk hH
          clear hH
          go_region_held3 (fun w' => Frm B W2 w' ∧ w'.cell? ⟨bx, 0, none⟩ = some (.pointer (some ⟨xb, 0, none⟩)) ∧ w'.cell? ⟨xb, 0, none⟩ = some (.map (some mb)) ∧ w'.cell? ⟨kb, 0, none⟩ = some (.string y.1.1) ∧ w'.cell? ⟨kb, 1, none⟩ = some (.string y.1.2) ∧ (Instr.lookup 56 (.map (some mb)) (.agg #[.string y.1.1, .string y.1.2]) false).run Tryd.prog w' = .ok (.agg #[.int .i64 q, .int .i64 (plc es y.1)]) w')
            (first | assumption | exact hHd.out.of ((Frm.refl _ _).alloc _) | exact hHd.out.of ((Frm.refl _ _).alloc _).drew | exact hHd.out.of (Frm.refl _ _).drew | exact hHd.out.of ((Frm.refl _ _).drew.grown (by assumption) (fun k hk => .inl (HH2.out.2.2.2.2.1 k hk))))
            (first | ((refine Kd.R_append_step k33 (w0 := W1) (W := W2.drew) W1.heap.size (by rfl) (.tmp 41) (.tmp 52) 34 33 (.agg #[.string ⟨#[]⟩, .int .i64 0]) 24 (by rfl) Tryd.underlying34 (by kernel_rfl) (by rfl) (by decide) (by omega) (.slice A8 acc8.length c8) acc8 ⟨y.1.2, q⟩ [.string y.1.2, .int .i64 q] (fun k => some k ≠ (Value.slice (some ad) ys.length c6).ownBlock) (fun _ => False) (by rfl) (by rfl) (k33_mkM _ _ _ ⟨y.1.2, q⟩) (fun _ hk => hk.elim) (fun k hk e => by have := hlx.out k e.symm; simp at hk; omega) (Kd.R_drew HH2.out.1) HH2.out.2.2.1.drew (by have := HH2.out.2.2.1.size; simpa using this) (by omega) ?_; intro v9 w9 hR9 hB9 hg9 hat9)))
          all_goals
            rename_i hHeld9
            clear hHeld9 hS
            go_wp2
            go_roundg gk
            case measure => omega
            case rel =>
              obtain ⟨hR8, hX, hBa, hig, hBf, hBb, hq, hBx⟩ := HH2.out
              have hX9 := Kd.R_grown (Kd.R_drew hX) hg9 (fun k hk e => hR8.1 k e.symm hk.symm)
              have e9 : acc8 ++ [⟨y.1.2, q⟩] = (ys.take (i + 1)).map fun k => (⟨k.1.2, qty es k.1⟩ : SubT) := by
                rw [List.take_succ_eq_append_getElem hi, List.map_append, ← HA8.out, hq]
                have : ys[i] = y := by
                  rw [← HYI.out]
                  unfold rd_K
                  rw [Int.toNat_natCast, List.getD_eq_getElem?_getD, List.getElem?_eq_getElem hi]
                  rfl
                rw [this]
                rfl
              rw [e9] at hR9
              exact ⟨i + 1, by first | rfl | (rw [hs1]), by omega, hR9, hX9, hB9⟩
    · intro j k1 k2 q0 p0 w1 hj hr1 hg1 hs1 hen
      have hl1 := erase_len hj
      have hpm := erase_perm hj
      have hok : okK (k1, k2) := hr.map.oks _ (HSB.out _ (List.mem_of_getElem? hj))
      have hR1 := R_next hr hR hg1
      have hB1 := hB.grown hg1 hB.size (fun k e => by injection e with e; have := HW.out.2.2.1; omega)
      have hal := (Below.refl w1.heap.size w1).alloc (Nat.le_refl _) (.cells #[.string k1, .string k2] 61 (0, 0))
      have hB2 := hB1.trans (hal.mono hB1.size)
      have hR2 := Kd.R_below hR1 hal
      have hr2 := hr1.below hal
      have hac : acc.length ≤ 1000000 := by have := HP.out.2.1; have := HLe.out; omega
      have HS2 := Lib.hid (show (w1.alloc (.cells #[.string k1, .string k2] 61 (0, 0))).heap.size = w1.heap.size + 1 by simp)
      have hrb2 : rb < w1.heap.size + 1 := by omega
      have hsub2 : ∀ q ∈ left.eraseIdx j, q ∈ L := fun q hq => HSB.out q (List.mem_of_mem_eraseIdx hq)
      have HQ := Lib.hid (And.intro hl1 (And.intro hpm (And.intro hok (And.intro hrb2 hsub2))))
      obtain ⟨A3, c3, e3⟩ := Kd.R_slice hR2
      subst e3
      clear hl1 hpm hj hg1 hs1 hr hR hB1 hal hr1 hR1 hB hok hrb2 hsub2 hrbx cbx cxb
      unfold keyV entV at hen ⊢
      by_cases hc : k1 = c
      · subst hc
        go_wp2_with (first | (at_builtin; refine Kd.R_append kK (w0 := W1) W1.heap.size rfl (.tmp 28) (.tmp 30) 65 61 (.agg #[.string ⟨#[]⟩, .string ⟨#[]⟩]) 32 rfl Tryd.underlying65 (by kernel_rfl) rfl (by decide) (by omega) (.slice A3 acc.length c3) acc ⟨(k1, k2), HQ.out.2.2.1⟩ [.string k1, .string k2] (fun _ => True) (fun _ => False) rfl (by rw [HS2.out]; rfl) (kK_mkM _ _ _ ⟨(k1, k2), HQ.out.2.2.1⟩) (fun _ hk => hk.elim) (fun _ _ => trivial) hR2 hB2 hB2.size (by omega) ?_; intro v1 w5 hR5 hB5 hg5 hat5))
        have h1 := HP.out.1
        have h2 := HQ.out.1
        have h3 := HP.out.2.1
        obtain ⟨gk', rfl⟩ : ∃ x, gk = x + 1 := ⟨gk - 1, by omega⟩
        go_roundg gk'
        case measure => omega
        case rel =>
          refine ⟨acc ++ [⟨(k1, k2), HQ.out.2.2.1⟩], left.eraseIdx j, by omega, by rw [List.length_append]; simp; omega, hR5, ?_, range_app hr2 hR2 hg5, hB5, by have := hg5.size; simp at this; have := HQ.out.2.2.2.1; omega, HQ.out.2.2.2.2⟩
          refine List.Perm.trans ?_ HP.out.2.2
          have h := (HQ.out.2.1.filter (ownB k1)).map (fun p : Ent => p.1)
          rw [List.filter_cons, if_pos (by unfold ownB; exact decide_eq_true rfl)] at h
          rw [List.map_append, List.append_assoc]
          exact List.Perm.append_left _ h.symm
      · have he : (k1.toList == c.toList) = false := by rw [ba_eq, decide_eq_false hc]
        have HC := Lib.hid hc
        clear hc
        go_wp2
        have h1 := HP.out.1
        have h2 := HQ.out.1
        have h3 := HP.out.2.1
        obtain ⟨gk', rfl⟩ : ∃ x, gk = x + 1 := ⟨gk - 1, by omega⟩
        go_roundg gk'
        case measure => omega
        case rel =>
          refine ⟨acc, left.eraseIdx j, by omega, by omega, hR2, ?_, hr2, hB2, by simp; have := HQ.out.2.2.2.1; omega, HQ.out.2.2.2.2⟩
          refine List.Perm.trans ?_ HP.out.2.2
          have h := (HQ.out.2.1.filter (ownB c)).map (fun p : Ent => p.1)
          rw [List.filter_cons, if_neg (by unfold ownB; rw [decide_eq_false HC.out]; decide)] at h
          exact List.Perm.append_left _ h.symm
end Go.Proofs.YtjibcekillcgjaaDoor.Sb
