/- What the proof of RetainFew leans on: RetI. -/
import Derived.Test.YtdchcdagjnaicaaDoorSRetainFewRetH
set_option linter.unusedVariables false
set_option linter.unusedSimpArgs false
namespace Go.Proofs.YtdchcdagjnaicaaDoor.Rt
open Go Go.RowKit Go.ChangeMaps Go.MapKept Go.Proofs.YtdchcdagjnaicaaDoorW.PrintWords Go.Proofs.YtdchcdagjnaicaaDoor.Q Go.Proofs.YtdchcdagjnaicaaDoor.Mp Go.Proofs.YtdchcdagjnaicaaDoor.Top
theorem R_own {e : Nat} {W : World} {base : Nat} {v : Value} {xs : List Msg} {ok : Nat → Prop} (h : Kd.R k27 e W base ok v xs) : Kd.R k27 e W base (fun k => v.ownBlock = some k) v xs := by
  obtain ⟨h0, inner, ho, hr⟩ := h
  exact ⟨fun k hk => hk, inner, ho, hr.imp_ (fun x cs hp => by rw [k27_openM hp]; exact k27_mkM _ _ _ x)⟩
def FewRel (w : World) (kb mb jb nb : Nat) (l : List Msg) (gk : Nat) (v5 : Value) (wx : World) : Prop :=
  ∃ (i : Nat) (st : List Msg), v5 = .int .i64 i ∧ i + gk = l.length ∧ KAt wx kb mb st ∧ KAt wx jb nb st ∧ Good st ∧ st.length ≤ i ∧ Below w.heap.size w wx
def PlainRel (w : World) (kb mb jb nb : Nat) (st : List Msg) (v6 v7 : Value) (gk : Nat) (v9 v10 : Value) (wx : World) : Prop :=
  ∃ (i : Nat), v10 = .int .i64 i ∧ i + gk = st.length ∧ KAt wx kb mb st ∧ KAt wx jb nb st ∧ Kd.R k27 27 wx w.heap.size (fun k => v6.ownBlock = some k) v6 st ∧ Kd.R k27 27 wx w.heap.size (fun k => v7.ownBlock = some k) v7 (st.filter plainM) ∧ Kd.R k27 27 wx w.heap.size (fun k => some k ≠ v6.ownBlock ∧ some k ≠ v7.ownBlock) v9 ((st.take i).filter plainM) ∧ Below w.heap.size w wx
theorem R_other {e : Nat} {W W' : World} {base : Nat} {u v : Value} {xs ys : List Msg} {ok : Nat → Prop} (h : Kd.R k27 e W base (fun k => u.ownBlock = some k) u xs) (hv : Kd.R k27 e W base ok v ys) (hok : ∀ k, ok k → some k ≠ u.ownBlock) (hg : W.grownBy W' v.ownBlock) : Kd.R k27 e W' base (fun k => u.ownBlock = some k) u xs :=
  Kd.R_grown h hg (fun k hk e => hok k (hv.1 k e.symm) hk.symm)
theorem KAt.app {W W' : World} {kb mb : Nat} {st : List Msg} {v : Value} {xs : List Msg} {base : Nat} {ok : Nat → Prop} (h : KAt W kb mb st) (hR : Kd.R k27 27 W base ok v xs) (hg : W.grownBy W' v.ownBlock) : KAt W' kb mb st := by
  have hl := h.lt
  obtain ⟨h1, L, h2, h3⟩ := h
  refine ⟨(hg.block kb hl.1 (fun e => ?_)).trans h1, L, h2.grown hg (fun e => ?_), h3⟩
  · obtain ⟨cells, hc⟩ := Kd.R_typed hR kb e.symm
    rw [h1] at hc
    cases hc
  · obtain ⟨cells, hc⟩ := Kd.R_typed hR mb e.symm
    obtain ⟨es, clock, hb, _⟩ := h2
    rw [hc] at hb
    cases hb
theorem take_M (st : List Msg) (i : Nat) (h : i < st.length) : st.take (i + 1) = st.take i ++ [rd_T27 st (i : Int)] := by
  rw [List.take_succ_eq_append_getElem h]
  unfold rd_T27
  rw [Int.toNat_natCast, List.getD_eq_getElem?_getD, List.getElem?_eq_getElem h]
  rfl
theorem name_pos {m : Msg} (h : isName m.f0 = true) : 0 < m.f0.size := by
  unfold isName at h
  simp only [Bool.and_eq_true, Bool.not_eq_true'] at h
  rw [Lib.size_eq]
  cases hd : m.f0.data.toList with
  | nil => rw [hd] at h; simp at h
  | cons x l => simp
theorem plain_at {m : Msg} (h : 0 < m.f0.size) : plainM m = ((((m.f0[0]'h).toNat : Int)) != 36) := by
  unfold plainM
  have hd : m.f0.data.toList.head? = some (m.f0[0]'h) := by
    have := Lib.data_getElem? m.f0 0 h
    rw [List.head?_eq_getElem?]
    exact this
  rw [hd]
  generalize m.f0[0]'h = b
  by_cases hb : b = 36
  · subst hb; rfl
  · have h1 : ((b.toNat : Int) != 36) = true := bne_iff_ne.2 (fun e => hb (UInt8.toNat_inj.1 (by show b.toNat = 36; omega)))
    rw [h1]
    have h2 : (some b == some 36) = false := beq_eq_false_iff_ne.2 (fun e => hb (by injection e))
    rw [h2]
    rfl
set_option maxHeartbeats 8000000 in
set_option maxRecDepth 1000000 in
theorem few14_calls (A : Option Addr) (c : Nat) (l : List Msg) (w : World) (hL : Laid w) (hr : Kd.C k27 w A l.length l) (hc : l.length ≤ c) :
    Calls Tryd.prog 5 #[.slice A l.length c] w fun e w' => e = .returned (.bool true) ∧ Below w.heap.size w w' := by
  have cF := few_calls A c l w hr hc
  cases hf : fewM l
  · rw [hf] at cF
    clear hf hL hr hc
    go_enter Tryd.func5, Tryd.ntmps5
    go_wp2_with (go_at_call 7; refine cF.mono ?_; rintro e w1 ⟨rfl, hb1⟩)
    go_ret
    exact ⟨rfl, hb1⟩
  · rw [hf] at cF
    obtain ⟨hl, hsz⟩ := few_all hf
    have HF := Lib.hid (And.intro hl hsz)
    have HC := Lib.hid hr
    have HLd := Lib.hid hL
    clear hf hL hr hl hsz hc
    have cN := fun W => new_calls W
    go_enter Tryd.func5, Tryd.ntmps5
    go_wp2_with (first
      | (go_at_call 7; refine cF.mono ?_; rintro e w1 ⟨rfl, hb1⟩; clear cF)
      | (go_at_call 8; refine (cN w1).mono ?_; rintro e w2 ⟨rfl, hK2, hb2⟩)
      | (go_at_call 8; refine (cN w2).mono ?_; rintro e w3 ⟨rfl, hJ3, hb3⟩))
    have hB2 := hb1.trans (hb2.mono hb1.size)
    have hB3 := hB2.trans (hb3.mono hB2.size)
    have hK3 := hK2.below hb3
    have hlt := hK2.lt
    have hn0 : w.heap.size ≤ w1.heap.size ∧ w.heap.size ≤ w2.heap.size ∧ w1.heap.size + 1 < w2.heap.size := ⟨hb1.size, hB2.size, hlt.1⟩
    obtain ⟨mb, hmbe⟩ : ∃ x, x = w1.heap.size := ⟨_, rfl⟩
    obtain ⟨nb, hnbe⟩ : ∃ x, x = w2.heap.size := ⟨_, rfl⟩
    rw [← hmbe] at hK3 hn0 ⊢
    rw [← hnbe] at hJ3 hn0 ⊢
    have HN := Lib.hid hn0
    clear hn0 hlt hB2 hb1 hb2 hb3 hK2 hmbe hnbe cN
    go_loopg [5] l.length (fun gk v5 wx => FewRel w (mb + 1) mb (nb + 1) nb l gk v5 wx)
    case atStart => exact ⟨0, [], rfl, by omega, hK3, hJ3, fun m hm => by simp at hm, Nat.le_refl _, hB3⟩
    case round =>
      obtain ⟨i, st, rfl, hig, hKr, hJr, hG, hsl, hBr⟩ := hrel
      clear hK3 hJ3 hB3
      cases gk with
      | zero =>
        have hi : i = l.length := by omega
        have hlt1 : decide ((i : Int) < (l.length : Int)) = false := decide_eq_false (by omega)
        have hst : st.length ≤ 1000000 := by have := HF.out.1; omega
        have cA := all_calls wr (mb + 1) mb st hKr hst
        have cD := fun W (hb : Below wr.heap.size wr W) => find_calls W (mb + 1) mb st fAll (HLd.out.below (hBr.trans (hb.mono hBr.size))) (hKr.below hb) hst
        rw [find_all hG, f2] at cD
        unfold fAll at cD
        have HG := Lib.hid (And.intro hG (And.intro hsl hst))
        clear hG hsl hst
        go_wp2_with (first
          | (go_at_call 15; refine cA.mono ?_; rintro e w4 ⟨v6, rfl, hR6, hb4⟩)
          | (go_at_call 13; refine (cD _ hb4).mono ?_; rintro e w5 ⟨v7, rfl, hR7, hb5⟩))
        have hB4 := hBr.trans (hb4.mono hBr.size)
        have hB5 := hB4.trans (hb5.mono hB4.size)
        have hK5 := (hKr.below hb4).below hb5
        have hJ5 := (hJr.below hb4).below hb5
        have hR6' := R_own (Kd.R_lower (Kd.R_below hR6 hb5) hBr.size)
        have hR7' := R_own (Kd.R_lower hR7 hB4.size)
        have hlst : decide ((st.length : Int) ≤ (l.length : Int)) = true := decide_eq_true (by have := HG.out.2.1; omega)
        have hlst2 := Lib.hid hlst
        obtain ⟨A6, c6, rfl⟩ := Kd.R_slice hR6'
        obtain ⟨A7, c7, rfl⟩ := Kd.R_slice hR7'
        clear hlt1 hlst hR6 hR7 hb4 hb5 hB4 hKr hJr hBr hi hig cD
        go_loopg [9, 10] st.length (fun gk v9 v10 wx => PlainRel w (mb + 1) mb (nb + 1) nb st (.slice A6 st.length c6) (.slice A7 (st.filter plainM).length c7) gk v9 v10 wx)
        case atStart => exact ⟨0, rfl, by omega, hK5, hJ5, hR6', hR7', Kd.R_nil _ _ _ _ _, hB5⟩
        case round =>
          obtain ⟨i, rfl, hig, hKx, hJx, hX6, hX7, hX9, hBx⟩ := hrel
          clear hK5 hJ5 hR6' hR7' hB5
          cases gk with
          | zero =>
            have hi : i = st.length := by omega
            have hlt1 : decide ((i : Int) < (st.length : Int)) = false := decide_eq_false (by omega)
            rw [hi, List.take_length] at hX9
            have cW := awake_calls _ (HLd.out.below hBx)
            obtain ⟨A9, c9, rfl⟩ := Kd.R_slice hX9
            have hst := HG.out.2.2
            have hfl : (st.filter plainM).length ≤ 1000000 := Nat.le_trans (List.length_filter_le _ _) hst
            have HX := Lib.hid (And.intro hX6 (And.intro hX7 (And.intro hX9 (And.intro hKx (And.intro hJx (And.intro hst hfl))))))
            have hlst := hlst2.out
            have hlstN : decide (st.length ≤ l.length) = true := decide_eq_true (by have := of_decide_eq_true hlst2.out; omega)
            have hlstP : (st.length ≤ l.length) = True := eq_true (of_decide_eq_true hlstN)
            have hnl : (i < st.length) = False := eq_false (by omega)
            clear hX6 hX7 hX9 hKx hJx hst hfl hi hig
            have cR1 := fun W (hb : Below wr.heap.size wr W) => rows_calls (st.filter plainM) A7 A9 c7 c9 W (Kd.R_reads' (Kd.R_below HX.out.2.1 hb)).2.2 (Kd.R_reads' HX.out.2.1).2.1 (Kd.R_reads' (Kd.R_below HX.out.2.2.1 hb)).2.2 (Kd.R_reads' HX.out.2.2.1).2.1 HX.out.2.2.2.2.2.2
            have cA2 := fun W (hb : Below wr.heap.size wr W) => all_calls W (nb + 1) nb st (HX.out.2.2.2.2.1.below hb) HX.out.2.2.2.2.2.1
            have cC := fun W (hb : Below wr.heap.size wr W) => count_calls W (mb + 1) mb st (HX.out.2.2.2.1.below hb)
            go_wp2_with (first
              | (go_at_call 11; refine cW.mono ?_; rintro e w6 ⟨rfl, hb6⟩)
              | (go_at_call 15; refine (cA2 _ hb7).mono ?_; rintro e w8 ⟨v8, rfl, hR8, hb8⟩; have hb8' := hb7.trans (hb8.mono hb7.size); obtain ⟨A8, c8, rfl⟩ := Kd.R_slice hR8; have cR2 := rows_calls st A6 A8 c6 c8 w8 (Kd.R_reads' (Kd.R_below HX.out.1 hb8')).2.2 (Kd.R_reads' HX.out.1).2.1 (Kd.R_reads' hR8).2.2 (Kd.R_reads' hR8).2.1 HX.out.2.2.2.2.2.1)
              | (go_at_call 16; first
                  | (refine cR2.mono ?_; rintro e w9 ⟨rfl, hb9⟩; have hb9' := hb8'.trans (hb9.mono hb8'.size))
                  | (refine (cR1 _ hb6).mono ?_; rintro e w7 ⟨rfl, hb7_⟩; have hb7 := hb6.trans (hb7_.mono hb6.size)))
              | (go_at_call 17; refine (cC _ hb9').mono ?_; rintro e w10 ⟨rfl, rfl⟩))
            go_ret
            exact ⟨rfl, hBx.trans (hb9'.mono hBx.size)⟩
          | succ gk =>
            have hi : i < st.length := by omega
            have hlt1 : decide ((i : Int) < (st.length : Int)) = true := decide_eq_true (by omega)
            have hC := (Kd.R_reads' hX6).2.2
            obtain ⟨ad, eA, -⟩ := cells_any hC i hi
            subst eA
            obtain ⟨k0, k1, k2, k3⟩ := cells_some hC i hi
            have p0 : ((0 : Int) ≤ (i : Int)) = True := eq_true (by omega)
            have p1 : ((i : Int) < (st.length : Int)) = True := eq_true (by omega)
            have hs1 : IntKind.i64.wrap ((i : Int) + 1) = ((i + 1 : Nat) : Int) := by rw [IntWalk.i64_in _ (by have := HG.out.2.2; omega)]; rfl
            have hk := keep_name (HG.out.1 _ (rd_mem st i hi))
            have htk := take_M st i hi
            obtain ⟨m, hmm⟩ : ∃ m, rd_T27 st (i : Int) = m := ⟨_, rfl⟩
            rw [hmm] at k0 k1 k2 k3 hk htk
            have HM := Lib.hid hmm
            have hpos := name_pos hk.1
            have hpl := plain_at hpos
            have e1 : (m.f1.toList == []) = false := by
              cases h : m.f1.toList with
              | nil => rw [h] at hk; exact absurd hk.2.2 (by decide)
              | cons x l => rfl
            rw [hk.2.1] at k3
            have HT := Lib.hid htk
            have hf3 := Lib.hid hk.2.1
            clear hk htk hmm
            cases h36 : (((m.f0[0]'hpos).toNat : Int) == 36)
            · have hp : plainM m = true := by rw [hpl, bne, h36]; rfl
              obtain ⟨A9, c9, rfl⟩ := Kd.R_slice hX9
              have hlen9 : ((st.take i).filter plainM).length ≤ 1000000 := Nat.le_trans (List.length_filter_le _ _) (by rw [List.length_take]; have := HG.out.2.2; omega)
              have hfr : ∀ k, wr.heap.size ≤ k → (some k ≠ (Value.slice (some ad) st.length c6).ownBlock ∧ some k ≠ (Value.slice A7 (st.filter plainM).length c7).ownBlock) := fun k hk => ⟨fun e => by have := Kd.R_lt hX6 k e.symm; omega, fun e => by have := Kd.R_lt hX7 k e.symm; omega⟩
              have HX := Lib.hid (And.intro hX6 (And.intro hX7 (And.intro hX9 (And.intro hKx (And.intro hJx (And.intro hfr hp))))))
              clear hX6 hX7 hKx hJx hfr hp hC hpl
              go_wp2_with (first | (at_builtin; refine Kd.R_append k27 (w0 := w) w.heap.size rfl (.tmp 66) (.tmp 71) 22 27 (.agg #[.string ⟨#[]⟩, .string ⟨#[]⟩, .int .i64 0, .bool false]) 48 rfl Tryd.underlying22 (by kernel_rfl) rfl (by decide) (by omega) (.slice A9 ((st.take i).filter plainM).length c9) ((st.take i).filter plainM) m [.string m.f0, .string m.f1, .int .i64 m.f2, .bool true] (fun k => some k ≠ (Value.slice (some ad) st.length c6).ownBlock ∧ some k ≠ (Value.slice A7 (st.filter plainM).length c7).ownBlock) (fun _ => False) rfl rfl (by have h_ := k27_mkM wr w.heap.size (fun _ => False) m; rw [hf3.out] at h_; exact h_) (fun _ hk => hk.elim) HX.out.2.2.2.2.2.1 hX9 hBx hBx.size (by omega) ?_; intro v1 w5 hR5 hB5 hg5 hat5; have hX65 := R_other HX.out.1 HX.out.2.2.1 (fun k hk => hk.1) hg5; obtain ⟨j0, j1, j2, j3⟩ := cells_some (Kd.R_reads' hX65).2.2 i hi; rw [HM.out] at j0 j1 j2 j3; rw [hf3.out] at j3))
              go_roundg gk
              case measure => omega
              case rel =>
                have e2 : (st.take (i + 1)).filter plainM = (st.take i).filter plainM ++ [m] := by
                  rw [HT.out, List.filter_append, List.filter_cons, HX.out.2.2.2.2.2.2]
                  rfl
                exact ⟨i + 1, by first | rfl | (rw [hs1]), by omega, HX.out.2.2.2.1.app HX.out.2.2.1 hg5, HX.out.2.2.2.2.1.app HX.out.2.2.1 hg5, hX65, R_other HX.out.2.1 HX.out.2.2.1 (fun k hk => hk.2) hg5, by rw [e2]; exact hR5, hB5⟩
            · have hp : plainM m = false := by rw [hpl, bne, h36]; rfl
              have HX := Lib.hid (And.intro hX6 (And.intro hX7 (And.intro hX9 (And.intro hKx (And.intro hJx hp)))))
              clear hX6 hX7 hX9 hKx hJx hp hC hpl
              go_wp2
              go_roundg gk
              case measure => omega
              case rel =>
                have e2 : (st.take (i + 1)).filter plainM = (st.take i).filter plainM := by
                  rw [HT.out, List.filter_append, List.filter_cons, HX.out.2.2.2.2.2]
                  simp
                exact ⟨i + 1, by first | rfl | (rw [hs1]), by omega, HX.out.2.2.2.1, HX.out.2.2.2.2.1, HX.out.1, HX.out.2.1, by rw [e2]; exact HX.out.2.2.1, hBx⟩
      | succ gk =>
        have hi : i < l.length := by omega
        have hlt1 : decide ((i : Int) < (l.length : Int)) = true := decide_eq_true (by omega)
        have hC := Kd.C_below HC.out hBr
        obtain ⟨ad, eA, -⟩ := cells_any hC i hi
        subst eA
        obtain ⟨k0, k1, k2, k3⟩ := cells_some hC i hi
        have p0 : ((0 : Int) ≤ (i : Int)) = True := eq_true (by omega)
        have p1 : ((i : Int) < (l.length : Int)) = True := eq_true (by omega)
        have hs1 : IntKind.i64.wrap ((i : Int) + 1) = ((i + 1 : Nat) : Int) := by rw [IntWalk.i64_in _ (by have := HF.out.1; omega)]; rfl
        have hm := HF.out.2 _ (rd_mem l i hi)
        obtain ⟨m, hmm⟩ : ∃ m, rd_T27 l (i : Int) = m := ⟨_, rfl⟩
        rw [hmm] at k0 k1 k2 k3 hm
        have HM := Lib.hid hmm
        have HS := Lib.hid hKr.srt
        have hok : okS m.f0 := by unfold okS maxLen; omega
        have cP := put_calls wr (mb + 1) mb st m (HLd.out.below hBr) hKr hok
        have cP1 := fun W (hb : Below w.heap.size w W) hK => put_calls W (nb + 1) nb st m (HLd.out.below hb) hK hok
        have cP2 := fun W (hb : Below w.heap.size w W) hK => put_calls W (nb + 1) nb (putF st m) m (HLd.out.below hb) hK hok
        unfold msgV PutPost at cP cP1 cP2
        have HT := Lib.hid (putF_twice hKr.srt m)
        have HG := Lib.hid (And.intro hG hsl)
        clear hmm hC hm hKr hG hsl
        go_wp2_with (go_at_call 9; first
          | (refine cP.mono ?_; rintro e w4 ⟨rfl, hg4, hK4⟩; have hB4 := hBr.grown hg4 hBr.size (fun k e => by injection e with e; have := HN.out.1; omega); have hJ4 := hJr.grown hg4 (by have := HN.out.2.2; omega) (by have := HN.out.2.2; omega); obtain ⟨q0, q1, q2, q3⟩ := cells_some (Kd.C_below HC.out hB4) i hi; rw [HM.out] at q0 q1 q2 q3; clear cP)
          | (refine (cP2 _ hB5 hJ5).mono ?_; rintro e w6 ⟨rfl, hg6, hJ6⟩; have hB6 := hB5.grown hg6 hB5.size (fun k e => by injection e with e; have := HN.out.2.1; omega); have hK6 := hK5.grown hg6 (by have := HN.out.2.2; omega) (by have := HN.out.2.2; omega); clear cP2)
          | (refine (cP1 _ hB4 hJ4).mono ?_; rintro e w5 ⟨rfl, hg5, hJ5⟩; have hB5 := hB4.grown hg5 hB4.size (fun k e => by injection e with e; have := HN.out.2.1; omega); have hK5 := hK4.grown hg5 (by have := HN.out.2.2; omega) (by have := HN.out.2.2; omega); obtain ⟨r0, r1, r2, r3⟩ := cells_some (Kd.C_below HC.out hB5) i hi; rw [HM.out] at r0 r1 r2 r3; clear cP1))
        go_roundg gk
        case measure => omega
        case rel =>
          rw [HT.out] at hJ6
          exact ⟨i + 1, _, by first | rfl | (rw [hs1]), by omega, hK6, hJ6, Good.put HS.out HG.out.1 m, by have := putF_len st m; have := HG.out.2; omega, hB6⟩
end Go.Proofs.YtdchcdagjnaicaaDoor.Rt
