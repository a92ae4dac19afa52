/- What the proof of SubsOrder leans on: SbN. -/
import Derived.Test.YtjibcekillcgjaaDoorSSubsOrderSbQ
import Derived.Test.YtjibcekillcgjaaDoorSSubsOrderQx6
set_option linter.unusedVariables false
set_option linter.unusedSimpArgs false
namespace Go.Proofs.YtjibcekillcgjaaDoor.Sb
open Go Go.RowKit Go.ChangeMaps Go.MapKept Go.Proofs.YtjibcekillcgjaaDoorW.PrintWords Go.Proofs.YtjibcekillcgjaaDoor.Q Go.Proofs.YtjibcekillcgjaaDoor.Mp Go.Proofs.YtjibcekillcgjaaDoor.Top Go.Proofs.YtjibcekillcgjaaDoor.Fm
theorem name12_calls (n : ByteArray) (w : World) :
    Calls Tryd.prog 15 #[.string n] w fun e w' => e = .returned (.bool (isName n)) ∧ Below w.heap.size w w' := by
  obtain ⟨k, hk⟩ := (name_ev n).rounds
  exact basculeref12_Name.calls k n _ w hk
theorem ownW {e : Nat} {W : World} {base : Nat} {v : Value} {xs : List WantT} {ok : Nat → Prop} (h : Kd.R k48 e W base ok v xs) : Kd.R k48 e W base (fun k => v.ownBlock = some k) v xs := by
  obtain ⟨h0, inner, ho, hr⟩ := h
  exact ⟨fun k hk => hk, inner, ho, hr.imp_ (fun x cs hp => by rw [k48_openM hp]; exact k48_mkM _ _ _ x)⟩
theorem nodup_len {α : Type} [DecidableEq α] : ∀ (xs ys : List α), xs.Nodup → (∀ x ∈ xs, x ∈ ys) → xs.length ≤ ys.length
  | [], ys, _, _ => Nat.zero_le _
  | x :: xs, ys, h, hs => by
    obtain ⟨h1, h2⟩ := List.nodup_cons.1 h
    have hx := hs x List.mem_cons_self
    have := nodup_len xs (ys.erase x) h2 (fun z hz => (List.mem_erase_of_ne (fun e => h1 (by rw [← e]; exact hz))).2 (hs z (List.mem_cons_of_mem _ hz)))
    rw [List.length_erase_of_mem hx] at this
    have hp : 0 < ys.length := List.length_pos_of_mem hx
    rw [List.length_cons]
    omega
theorem bestis_len {D : List Ent} {name : ByteArray} {ws : List WantT} (h : FindIs D name ws) : ws.length ≤ D.length := by
  have hs : (ws.map wcl).Nodup := by
    unfold List.Nodup
    rw [List.pairwise_map]
    exact h.1.keys
  have hsub : ∀ x ∈ ws.map wcl, x ∈ D.map fun p : Ent => p.1.1 := by
    intro x hx
    obtain ⟨w, hw, rfl⟩ := List.mem_map.1 hx
    obtain ⟨⟨p, hp, _, hc, _⟩, _⟩ := (h.2 w).1 hw
    exact List.mem_map.2 ⟨p, hp, hc⟩
  have := nodup_len _ _ hs hsub
  simpa using this
def OrdRel (w : World) (xb mb yb nb : Nat) (l : List OpT) (b : Nat) (gk : Nat) (v9 : Value) (wx : World) : Prop :=
  ∃ (i : Nat), v9 = .int .i64 i ∧ i + gk = l.length ∧ IAt wx xb mb (addAll (l.take i)).1 (addAll (l.take i)).2 ∧ IAt wx yb nb (addAll (yops l b i)).1 (addAll (yops l b i)).2 ∧ ApartO (l.take i) ∧ Below w.heap.size w wx
def ApRel (wo : World) (l : List OpT) (i : Nat) (gk : Nat) (v11 : Value) (wx : World) : Prop :=
  ∃ (h : Nat), v11 = .int .i64 h ∧ h + gk = i ∧ (∀ k, k < h → keyO (opAt l k) ≠ keyO (opAt l i)) ∧ Below wo.heap.size wo wx
def GonRel (w : World) (c : ByteArray) (ws cs : List WantT) (va vc : Value) (gk : Nat) (v22 v23 : Value) (wx : World) : Prop :=
  ∃ (i : Nat), v23 = .int .i64 i ∧ i + gk = ws.length ∧ Kd.R k48 48 wx w.heap.size (fun k => some k ≠ va.ownBlock ∧ some k ≠ vc.ownBlock) v22 (wantF (ws.take i) c) ∧ Kd.R k48 48 wx w.heap.size (fun k => va.ownBlock = some k) va ws ∧ Kd.R k48 48 wx w.heap.size (fun k => vc.ownBlock = some k) vc cs ∧ Below w.heap.size w wx
set_option maxHeartbeats 8000000 in
set_option maxRecDepth 1000000 in
theorem order_calls (A : Option Addr) (cp : Nat) (l : List OpT) (by_ : Int) (name : ByteArray) (w : World) (hL : Laid w) (hr : Kd.C k28 w A l.length l) (hc : l.length ≤ cp) :
    Calls Tryd.prog 4 #[.slice A l.length cp, .int .i64 by_, .string name] w fun e w' => e = .returned (.bool true) ∧ Below w.heap.size w w' := by
  have cF := few_calls A cp l w hr hc
  have cI := fun W => name12_calls name W
  cases hf : fewO l
  · rw [hf] at cF
    clear hf hL hr hc cI
    go_enter Tryd.func4, Tryd.ntmps4
    go_wp2_with (go_at_call 7; refine cF.mono ?_; rintro e w1 ⟨rfl, hb1⟩)
    go_ret
    exact ⟨rfl, hb1⟩
  rw [hf] at cF
  cases b0 : decide (by_ < 0)
  rotate_left
  · clear hf hL hr hc cI
    go_enter Tryd.func4, Tryd.ntmps4
    go_wp2_with (go_at_call 7; refine cF.mono ?_; rintro e w1 ⟨rfl, hb1⟩)
    go_ret
    exact ⟨rfl, hb1⟩
  obtain ⟨b, rfl⟩ : ∃ b : Nat, by_ = b := ⟨by_.toNat, by have := of_decide_eq_false b0; omega⟩
  by_cases hbl : l.length ≤ b
  · clear hf hL hr hc cI
    have b1 : decide ((b : Int) ≥ (l.length : Int)) = true := decide_eq_true (by omega)
    go_enter Tryd.func4, Tryd.ntmps4
    go_wp2_with (go_at_call 7; refine cF.mono ?_; rintro e w1 ⟨rfl, hb1⟩)
    go_ret
    exact ⟨rfl, hb1⟩
  have b1 : decide ((b : Int) ≥ (l.length : Int)) = false := decide_eq_false (by omega)
  have b1N : (l.length ≤ b) = False := eq_false hbl
  cases hin : isName name
  · rw [hin] at cI
    clear hf hL hr hc hin
    go_enter Tryd.func4, Tryd.ntmps4
    go_wp2_with (first
      | (go_at_call 7; refine cF.mono ?_; rintro e w1 ⟨rfl, hb1⟩)
      | (go_at_call 15; refine (cI _).mono ?_; rintro e w2 ⟨rfl, hb2⟩))
    go_ret
    exact ⟨rfl, hb1.trans (hb2.mono hb1.size)⟩
  rw [hin] at cI
  by_cases d1 : 100 < name.size
  · clear hf hL hr hc hin
    have ed1 : decide ((100 : Int) < (name.size : Int)) = true := decide_eq_true (by omega)
    go_enter Tryd.func4, Tryd.ntmps4
    go_wp2_with (first
      | (go_at_call 7; refine cF.mono ?_; rintro e w1 ⟨rfl, hb1⟩)
      | (go_at_call 15; refine (cI _).mono ?_; rintro e w2 ⟨rfl, hb2⟩))
    go_ret
    exact ⟨rfl, hb1.trans (hb2.mono hb1.size)⟩
  have ed1 : decide ((100 : Int) < (name.size : Int)) = false := decide_eq_false (by omega)
  have fd1 : (100 < name.size) = False := eq_false d1
  obtain ⟨hl, hsz⟩ := few_all hf
  have HF := Lib.hid (And.intro hl (And.intro hsz (And.intro hin (show b < l.length by omega))))
  have HC := Lib.hid hr
  have HLd := Lib.hid hL
  clear hf hL hr hl hsz hc hin d1 hbl
  have cN := fun W => new_calls W
  go_enter Tryd.func4, Tryd.ntmps4
  go_wp2_with (first
    | (go_at_call 7; refine cF.mono ?_; rintro e w1 ⟨rfl, hb1⟩; clear cF)
    | (go_at_call 15; refine (cI w1).mono ?_; rintro e w2 ⟨rfl, hb2⟩; have hB2 := hb1.trans (hb2.mono hb1.size); clear cI)
    | (go_at_call 9; first
        | (refine (cN w2).mono ?_; rintro e w3 ⟨rfl, hI3, hb3⟩; have hB3 := hB2.trans (hb3.mono hB2.size); clear hb2)
        | (refine (cN w3).mono ?_; rintro e w4 ⟨rfl, hJ4, hb4⟩; have hB4 := hB3.trans (hb4.mono hB3.size); have hI4 := hI3.below hb4)))
  have hxl := hI3.lt
  have hb3s := hb3.size
  have hW : w.heap.size ≤ w2.heap.size := hB2.size
  obtain ⟨mb, hmb⟩ : ∃ x, x = w2.heap.size := ⟨_, rfl⟩
  obtain ⟨nb, hnb⟩ : ∃ x, x = w3.heap.size := ⟨_, rfl⟩
  rw [← hmb] at hI4 hxl hW ⊢
  rw [← hnb] at hJ4 hxl ⊢
  have HN := Lib.hid (And.intro hW (show mb + 1 < nb by omega))
  clear hxl hb3s hW hmb hnb hb1 hb3 hb4 hB2 hB3 hI3 cN b0 b1 b1N ed1 fd1
  go_loopg [9] l.length (fun gk v9 wx => OrdRel w (mb + 1) mb (nb + 1) nb l b gk v9 wx)
  case atStart => exact ⟨0, rfl, by omega, hI4, hJ4, List.Pairwise.nil, hB4⟩
  case round =>
    obtain ⟨i, rfl, hig, hI, hJ, hap, hB⟩ := hrel
    clear hI4 hJ4 hB4
    cases gk with
    | zero =>
      have hi : i = l.length := by omega
      have hnl : (i < l.length) = False := eq_false (by omega)
      have hlt1 : decide ((i : Int) < (l.length : Int)) = false := decide_eq_false (by omega)
      rw [hi, List.take_length] at hI hap
      rw [hi] at hJ
      have hO := okay_all l
      have hP := okay_all (yops l b l.length)
      rw [yops_len] at hP
      have hsame := same_both HF.out.2.2.2 hap
      generalize (addAll l).1 = es at hI hO hsame
      generalize (addAll l).2 = n at hI hO
      generalize (addAll (yops l b l.length)).1 = fs at hJ hP hsame
      generalize (addAll (yops l b l.length)).2 = n2 at hJ hP
      have hl1 := HF.out.1
      obtain ⟨ad, eA, k0, k1, -⟩ := cells_O HC.out 0 (by have := HF.out.2.2.2; omega)
      subst eA
      rw [show ad.add (0 * 4) = ad by unfold Addr.add; simp] at k1
      obtain ⟨gc, hgc⟩ : ∃ c, c = (rd_T28 l ((0 : Nat) : Int)).f1 := ⟨_, rfl⟩
      rw [← hgc] at k1
      clear hgc k0
      have K1 := Lib.hid k1
      have p0 : (0 < l.length) = True := eq_true (by have := HF.out.2.2.2; omega)
      have p1 : ((0 : Int) < (l.length : Int)) = True := eq_true (by have := HF.out.2.2.2; omega)
      have hgo : (goneF es gc).length ≤ 1000 := by unfold goneF; have := List.length_filter_le (fun p => !ownB gc p) es; have := hO.len; omega
      have c1 := find_calls wr (mb + 1) mb es n name (HLd.out.below hB) hI (by have := hO.len; omega) hO.q0 HF.out.2.2.1
      have c2 := fun W (hb : Below w.heap.size w W) hK => find_calls W (nb + 1) nb fs n2 name (HLd.out.below hb) hK (by have := hP.len; omega) hP.q0 HF.out.2.2.1
      have c3 := fun W hK => gone_calls W (mb + 1) mb es n gc hK (by have := hO.len; omega)
      have c4 := fun W (hb : Below w.heap.size w W) hK => find_calls W (mb + 1) mb (goneF es gc) n name (HLd.out.below hb) hK (by omega) (fun p hp => hO.q0 p (List.mem_filter.1 hp).1) HF.out.2.2.1
      have cW := fun W (hb : Below w.heap.size w W) => awake_calls W (HLd.out.below hb)
      unfold GonePost at c3
      have HS := Lib.hid (And.intro hsame (And.intro hO.len (And.intro hI.lt hJ.lt)))
      clear hsame hO hP hl1 hap hig hi k1 hgo
      go_wp2_with (first
        | (go_at_call 16; first
            | (refine c1.mono ?_; rintro e w5 ⟨v5, ws, rfl, hF5, hR5, hb5⟩; have hB5 := hB.trans (hb5.mono hB.size); have hI5 := hI.below hb5; have hJ5 := hJ.below hb5; obtain ⟨A5, cp5, rfl⟩ := Kd.R_slice hR5; clear hb5 hI hJ c1)
            | (refine (c2 _ hB5 hJ5).mono ?_; rintro e w6 ⟨v6, ws', rfl, hF6, hR6, hb6⟩; have hB6 := hB5.trans (hb6.mono hB5.size); have hI6 := hI5.below hb6; have hR5b := Kd.R_below hR5 hb6; obtain rfl := FindIs.one (hF5.mem HS.out.1) hF6; obtain ⟨A6, cp6, rfl⟩ := Kd.R_slice hR6; have hwl := bestis_len hF5; clear hb6 hI5 hJ5 hR5 hF6 hB5 c2)
            | (refine (c4 _ hB8 hI8).mono ?_; rintro e w9 ⟨v9, cs, rfl, hF9, hR9, hb9⟩; have hB9 := hB8.trans (hb9.mono hB8.size); have hR5d := Kd.R_below hR5c hb9; obtain rfl := FindIs.one (find_gone hF5) hF9; obtain ⟨A9, cp9, rfl⟩ := Kd.R_slice hR9; clear hI8 hF9 c4))
        | (go_at_call 17; refine (wants_calls ws A5 A6 cp5 cp6 _ (Kd.R_reads' hR5b).2.2 (Kd.R_reads' hR5b).2.1 (Kd.R_reads' hR6).2.2 (Kd.R_reads' hR6).2.1 (by have := HS.out.2.1; have := HF.out.1; omega)).mono ?_; rintro e w7 ⟨rfl, hb7⟩; have hB7 := hB6.trans (hb7.mono hB6.size); have hI7 := hI6.below hb7; have hR5b' := Kd.R_below hR5b hb7; have k1 := cell_later hB7 K1.out; clear hb7 hI6 hR5b hR6 hB6)
        | (go_at_call 18; refine (c3 _ hI7).mono ?_; rintro e w8 ⟨rfl, hf8, hI8⟩; have hn8 := HN.out; have hx8 := HS.out.2.2.1; have hy8 := HS.out.2.2.2; have hB8 := hf8.far hB7 hB7.size (XB_le (by omega) (by omega)); have hR5c := R_frm hR5b' hf8 (fun k hk => by rintro (rfl | rfl) <;> omega); clear hf8 hI7 hR5b' hB7 c3))
      have hR5e := ownW (Kd.R_lower hR5d hB.size)
      have hR9e := ownW (Kd.R_lower hR9 hB8.size)
      have hwl2 : ws.length ≤ 1000 := by have := HS.out.2.1; have := HF.out.1; omega
      have hsep : ∀ k, (Value.slice A5 ws.length cp5).ownBlock = some k → some k ≠ (Value.slice A9 (wantF ws gc).length cp9).ownBlock := by
        intro k hk e
        have h1 := Kd.R_lt hR5c k hk
        have h2 := Kd.R_base hR9 k e.symm
        omega
      have HW := Lib.hid (And.intro hwl2 hsep)
      clear hR5d hR9 hB hB8 hR5c hwl hF5 hsep hwl2 hb9 k1 p0 p1 hnl hlt1 hn8 hx8 hy8
      go_loopg [22, 23] ws.length (fun gk v22 v23 wx => GonRel w gc ws (wantF ws gc) (.slice A5 ws.length cp5) (.slice A9 (wantF ws gc).length cp9) gk v22 v23 wx)
      case atStart => exact ⟨0, rfl, by omega, Kd.R_nil _ _ _ _ _, hR5e, hR9e, hB9⟩
      case round =>
        obtain ⟨i, rfl, hig, hRv, hRa, hRc, hBx⟩ := hrel
        clear hR5e hR9e hB9
        cases gk with
        | zero =>
          have hi : i = ws.length := by omega
          have hnl : (i < ws.length) = False := eq_false (by omega)
          have hlt1 : decide ((i : Int) < (ws.length : Int)) = false := decide_eq_false (by omega)
          rw [hi, List.take_length] at hRv
          obtain ⟨A22, cp22, rfl⟩ := Kd.R_slice hRv
          have hwf : (wantF ws gc).length ≤ 1000 := by unfold wantF; have := List.length_filter_le (fun w : WantT => !decide (w.f0 = gc)) ws; have := HW.out.1; omega
          have HWF := Lib.hid hwf
          clear hwf hRa hig
          go_wp2_with (first
            | (go_at_call 13; refine (cW _ hBx).mono ?_; rintro e w11 ⟨rfl, hb11⟩; have hB11 := hBx.trans (hb11.mono hBx.size); have hRv2 := Kd.R_below hRv hb11; have hRc2 := Kd.R_below hRc hb11; clear hb11 hBx hRv hRc)
            | (go_at_call 17; refine (wants_calls (wantF ws gc) A9 A22 cp9 cp22 _ (Kd.R_reads' hRc2).2.2 (Kd.R_reads' hRc2).2.1 (Kd.R_reads' hRv2).2.2 (Kd.R_reads' hRv2).2.1 (by have := HWF.out; omega)).mono ?_; rintro e w12 ⟨rfl, hb12⟩))
          go_ret
          exact ⟨rfl, hB11.trans (hb12.mono hB11.size)⟩
        | succ gk =>
          have hi : i < ws.length := by omega
          have hlt1 : decide ((i : Int) < (ws.length : Int)) = true := decide_eq_true (by omega)
          have hyl : (i < ws.length) = True := eq_true hi
          have p0 : ((0 : Int) ≤ (i : Int)) = True := eq_true (by omega)
          have p1 : ((i : Int) < (ws.length : Int)) = True := eq_true (by omega)
          have hs1 : IntKind.i64.wrap ((i : Int) + 1) = ((i + 1 : Nat) : Int) := by rw [IntWalk.i64_in _ (by have := HW.out.1; omega)]; rfl
          obtain ⟨ad5, eA, k0, k1⟩ := at_T48 (Kd.R_reads' hRa).2.2 (i : Int) (by omega) (by omega)
          rw [Int.toNat_natCast] at k0 k1
          subst eA
          obtain ⟨y, hy⟩ : ∃ y, rd_T48 ws (i : Int) = y := ⟨_, rfl⟩
          rw [hy] at k0 k1
          have hyi : ws[i] = y := by
            rw [← hy]
            unfold rd_T48
            rw [Int.toNat_natCast, List.getD_eq_getElem?_getD, List.getElem?_eq_getElem hi]
            rfl
          have hwt : wantF (ws.take (i + 1)) gc = wantF (ws.take i) gc ++ (if y.f0 = gc then [] else [y]) := by
            unfold wantF
            rw [List.take_succ_eq_append_getElem hi, List.filter_append, hyi, List.filter_cons]
            by_cases e : y.f0 = gc
            · rw [if_pos e, decide_eq_true e]; rfl
            · rw [if_neg e, decide_eq_false e]; rfl
          have hvl : (wantF (ws.take i) gc).length ≤ 1000 := by unfold wantF; have := List.length_filter_le (fun w : WantT => !decide (w.f0 = gc)) (ws.take i); have := List.length_take_le i ws; have := HW.out.1; omega
          have HY := Lib.hid (And.intro hwt hig)
          obtain ⟨acc, hacc⟩ : ∃ x, x = wantF (ws.take i) gc := ⟨_, rfl⟩
          rw [← hacc] at hRv hvl HY
          obtain ⟨A22, cp22, rfl⟩ := Kd.R_slice hRv
          clear hy hyi hwt hacc hig
          cases he : (y.f0.toList == gc.toList)
          · have hne : y.f0 ≠ gc := fun e => by rw [e] at he; simp at he
            have HNE := Lib.hid hne
            clear hne
            go_wp2_with (first | (at_builtin; refine Kd.R_append k48 (w0 := w) w.heap.size rfl (.tmp 168) (.tmp 173) 41 48 (.agg #[.string ⟨#[]⟩, .int .i64 0]) 24 rfl Tryd.underlying41 (by kernel_rfl) rfl (by decide) (by omega) (.slice A22 acc.length cp22) acc y [.string y.f0, .int .i64 y.f1] (fun k => some k ≠ (Value.slice (some ad5) ws.length cp5).ownBlock ∧ some k ≠ (Value.slice A9 (wantF ws gc).length cp9).ownBlock) (fun _ => False) rfl rfl (k48_mkM _ _ _ y) (fun _ hk => hk.elim) (fun k hk => ⟨fun e => by have := Kd.R_lt hRa k e.symm; omega, fun e => by have := Kd.R_lt hRc k e.symm; omega⟩) hRv hBx hBx.size (by omega) ?_; intro v9 w9 hR9 hB9 hg9 hat9))
            go_roundg gk
            case measure => omega
            case rel =>
              have hRa9 := Kd.R_grown hRa hg9 (fun k hk e => (hRv.1 k e.symm).1 hk.symm)
              have hRc9 := Kd.R_grown hRc hg9 (fun k hk e => (hRv.1 k e.symm).2 hk.symm)
              obtain ⟨hwt, hig⟩ := HY.out
              rw [if_neg HNE.out] at hwt
              exact ⟨i + 1, by first | rfl | (rw [hs1]), by omega, by rw [hwt]; exact hR9, hRa9, hRc9, hB9⟩
          · have hne : y.f0 = gc := by
              rw [ba_eq] at he
              exact of_decide_eq_true he
            have HNE := Lib.hid hne
            clear hne
            go_wp2
            go_roundg gk
            case measure => omega
            case rel =>
              obtain ⟨hwt, hig⟩ := HY.out
              rw [if_pos HNE.out, List.append_nil] at hwt
              exact ⟨i + 1, by first | rfl | (rw [hs1]), by omega, by rw [hwt]; exact hRv, hRa, hRc, hBx⟩
    | succ gk =>
      have hi : i < l.length := by omega
      have hlt1 : decide ((i : Int) < (l.length : Int)) = true := decide_eq_true (by omega)
      have hC := Kd.C_below HC.out hB
      obtain ⟨ad, eA, k0, k1, k2, k3⟩ := cells_O hC i hi
      subst eA
      have p0 : ((0 : Int) ≤ (i : Int)) = True := eq_true (by omega)
      have p1 : ((i : Int) < (l.length : Int)) = True := eq_true (by omega)
      have hm := HF.out.2.1 _ (rd_mem l i hi)
      obtain ⟨m, hmm⟩ : ∃ m, rd_T28 l (i : Int) = m := ⟨_, rfl⟩
      rw [hmm] at k0 k1 k2 k3 hm
      have hB5 := hB.alloc hB.size (.cells #[.int .i64 m.f0, .string m.f1, .string m.f2, .int .i64 m.f3] 28 (0, 0))
      have hal := (Below.refl wr.heap.size wr).alloc (Nat.le_refl _) (.cells #[.int .i64 m.f0, .string m.f1, .string m.f2, .int .i64 m.f3] 28 (0, 0))
      have hk5 := blk_new wr (.cells #[.int .i64 m.f0, .string m.f1, .string m.f2, .int .i64 m.f3] 28 (0, 0))
      have hI5 := hI.below hal
      have hJ5 := hJ.below hal
      have okm : okK (keyO m) := by unfold okK maxLen keyO; exact ⟨by show m.f1.size ≤ _; omega, by show m.f2.size ≤ _; omega⟩
      have hmO : opAt l i = m := hmm
      have HM := Lib.hid (And.intro okm (And.intro hap (And.intro hk5 (And.intro hI5 (And.intro hJ5 (And.intro hB5 (And.intro hI.lt (And.intro hJ.lt (And.intro hig hmO)))))))))
      clear hmm hC hm hal hk5 hI5 hJ5 hB5 okm hap hI hJ hB hig hmO
      obtain ⟨go_, rfl⟩ : ∃ x, x = gk := ⟨_, rfl⟩
      go_wp2
      generalize wr.alloc (.cells #[.int .i64 m.f0, .string m.f1, .string m.f2, .int .i64 m.f3] 28 (0, 0)) = wo at HM ⊢
      obtain ⟨bx, hbx⟩ : ∃ x, x = wr.heap.size := ⟨_, rfl⟩
      rw [← hbx] at HM ⊢
      clear hbx k0 k1 k2 k3 hlt1
      go_loopg [11] i (fun gk v11 wx => ApRel wo l i gk v11 wx)
      case atStart => exact ⟨0, rfl, by omega, fun k hk => by omega, Below.refl _ _⟩
      case round =>
        obtain ⟨h, rfl, hhg, hne, hBh⟩ := hrel
        cases gk with
        | zero =>
          have hh : h = i := by omega
          have hnl2 : (h < i) = False := eq_false (by omega)
          subst hh
          have hC := Kd.C_below HC.out (HM.out.2.2.2.2.2.1.trans (hBh.mono HM.out.2.2.2.2.2.1.size))
          obtain ⟨j, hj⟩ : ∃ j, j = (h + b) % l.length := ⟨_, rfl⟩
          have hjl : j < l.length := by rw [hj]; exact Nat.mod_lt _ (by omega)
          obtain ⟨ad', eA, k0, k1, k2, k3⟩ := cells_O hC j hjl
          injection eA with eA
          subst eA
          have q0 : ((0 : Int) ≤ (j : Int)) = True := eq_true (by omega)
          have q1 : ((j : Int) < (l.length : Int)) = True := eq_true (by omega)
          have hbl := HF.out.2.2.2
          have hl1 := HF.out.1
          have hmod : ((h : Int) + (b : Int)) % (l.length : Int) = (j : Int) := by rw [hj]; simp
          have hs1 : IntKind.i64.wrap ((h : Int) + 1) = ((h + 1 : Nat) : Int) := by rw [IntWalk.i64_in _ (by omega)]; rfl
          have hm := HF.out.2.1 _ (rd_mem l j hjl)
          have hoj : opAt l j = rd_T28 l (j : Int) := rfl
          generalize rd_T28 l (j : Int) = u at k0 k1 k2 k3 hm hoj
          have okm : okK (keyO u) := by unfold okK maxLen keyO; exact ⟨by show u.f1.size ≤ _; omega, by show u.f2.size ≤ _; omega⟩
          have hB5 := HM.out.2.2.2.2.2.1.trans (hBh.mono HM.out.2.2.2.2.2.1.size)
          have hB6 := hB5.alloc hB5.size (.cells #[.int .i64 u.f0, .string u.f1, .string u.f2, .int .i64 u.f3] 28 (0, 0))
          have hal := (Below.refl wr.heap.size wr).alloc (Nat.le_refl _) (.cells #[.int .i64 u.f0, .string u.f1, .string u.f2, .int .i64 u.f3] 28 (0, 0))
          have hba := hBh.trans (hal.mono hBh.size)
          have hI6 := HM.out.2.2.2.1.below hba
          have hJ6 := HM.out.2.2.2.2.1.below hba
          have hk6 := blk_below HM.out.2.2.1 hba
          have hp6 := blk_new wr (.cells #[.int .i64 u.f0, .string u.f1, .string u.f2, .int .i64 u.f3] 28 (0, 0))
          have z1 := blk_cell hk6 1
          have z2 := blk_cell hk6 2
          have z3 := blk_cell hk6 3
          have hO := okay_all (l.take h)
          have hP := okay_all (yops l b h)
          rw [yops_len] at hP
          rw [List.length_take] at hO
          have c1 := add_calls _ (mb + 1) mb (addAll (l.take h)).1 (addAll (l.take h)).2 (keyO m) m.f3 (HLd.out.below hB6) hI6 HM.out.1 hO.n0 (by have := hO.n1; omega)
          have c2 := fun W (hb : Below w.heap.size w W) hK => add_calls W (nb + 1) nb (addAll (yops l b h)).1 (addAll (yops l b h)).2 (keyO u) u.f3 (HLd.out.below hb) hK okm hP.n0 (by have := hP.n1; omega)
          unfold AddPost keyO at c1 c2
          have hbxl := blk_lt hk6
          have HQ := Lib.hid (And.intro hne (And.intro hB6 (And.intro hJ6 (And.intro hk6 (And.intro hp6 (And.intro hoj (And.intro hj (And.intro HM.out.2.2.2.1.lt HM.out.2.2.2.2.1.lt))))))))
          have hws : wr.heap.size + 1 = (wr.alloc (.cells #[.int .i64 u.f0, .string u.f1, .string u.f2, .int .i64 u.f3] 28 (0, 0))).heap.size := by simp
          have HWS := Lib.hid (And.intro hws (show wo.heap.size ≤ wr.heap.size from hBh.size))
          clear hC hm hB5 hal hba hI6 hk6 hp6 hO hP okm hoj hj hne hB6 hJ6 hbxl hws
          go_wp2_with (go_at_call 10; first
            | (refine c1.mono ?_; rintro e w6 ⟨rfl, hf6, hI6⟩; obtain ⟨hne, hB5, hJ5, hk5, hp5, hoj, hj, hxl, hyl⟩ := HQ.out; have hn6 := HN.out; have hws := HWS.out; have hB6 := hf6.far hB5 hB5.size (XB_le (by omega) (by omega)); have hJ6 := hJ5.frm hf6 (by rintro (e | e) <;> omega) (by rintro (e | e) <;> omega); have hp6 := (hf6.block wr.heap.size (blk_lt hp5) (by rintro (e | e) <;> omega)).trans hp5; have r0 := blk_cell hp6 0; have r1 := blk_cell hp6 1; have r2 := blk_cell hp6 2; have r3 := blk_cell hp6 3; have hxl6 := hI6.lt; clear hne hB5 hJ5 hk5 hp5 hf6 hp6 c1 hoj hj hws)
            | (refine (c2 _ hB6 hJ6).mono ?_; rintro e w7 ⟨rfl, hf7, hJ7⟩))
          have hB7 := hf7.far hB6 hB6.size (XB_le (by omega) (by omega))
          have hI7 := hI6.frm hf7 (by rintro (e | e) <;> omega) (by rintro (e | e) <;> omega)
          obtain ⟨gk, rfl⟩ : ∃ x, x = go_ := ⟨_, rfl⟩
          go_roundg gk
          case measure => omega
          case rel =>
            have hig := HM.out.2.2.2.2.2.2.2.2.1
            have e1 : addAll (l.take (h + 1)) = stepA (addAll (l.take h)) m := by
              rw [List.take_succ_eq_append_getElem hi, addAll_snoc]
              congr 1
              rw [← opAt_get hi]
              exact HM.out.2.2.2.2.2.2.2.2.2
            have e2 : addAll (yops l b (h + 1)) = stepA (addAll (yops l b h)) u := by
              rw [yops_succ, addAll_snoc, ← HQ.out.2.2.2.2.2.2.1]
              congr 1
              exact HQ.out.2.2.2.2.2.1
            refine ⟨h + 1, by first | rfl | (rw [hs1]), by omega, by rw [e1]; exact hI7, by rw [e2]; exact hJ7, HM.out.2.1.snoc hi HQ.out.1, hB7⟩
        | succ gk =>
          have hh : h < i := by omega
          have hltN : (h < i) = True := eq_true hh
          have hlt2 : decide ((h : Int) < (i : Int)) = true := decide_eq_true (by omega)
          have q0 : ((0 : Int) ≤ (h : Int)) = True := eq_true (by omega)
          have q1 : ((h : Int) < (l.length : Int)) = True := eq_true (by omega)
          have hs3 : IntKind.i64.wrap ((h : Int) + 1) = ((h + 1 : Nat) : Int) := by rw [IntWalk.i64_in _ (by have := HF.out.1; omega)]; rfl
          have hC := Kd.C_below HC.out (HM.out.2.2.2.2.2.1.trans (hBh.mono HM.out.2.2.2.2.2.1.size))
          obtain ⟨ad', eA, k0, k1, k2, k3⟩ := cells_O hC h (by omega)
          injection eA with eA
          subst eA
          have hk6 := blk_below HM.out.2.2.1 hBh
          have z1 := blk_cell hk6 1
          have z2 := blk_cell hk6 2
          have hoh : opAt l h = rd_T28 l (h : Int) := rfl
          generalize rd_T28 l (h : Int) = u at k0 k1 k2 k3 hoh
          have HE := Lib.hid (And.intro hne hoh)
          clear hC hk6 hne hoh
          cases he : (u.f1.toList == m.f1.toList)
          · go_wp2
            go_quiet (fail)
            go_wp2
            go_roundg gk
            case measure => omega
            case rel =>
              refine ⟨h + 1, by first | rfl | (rw [hs3]), by omega, fun k hk => ?_, pw_below_drewN hBh _⟩
              rcases Nat.lt_or_eq_of_le (Nat.le_of_lt_succ hk) with hk | rfl
              · exact HE.out.1 k hk
              · rw [HE.out.2, HM.out.2.2.2.2.2.2.2.2.2]
                intro e
                injection e with e1 e2
                rw [e1] at he
                simp at he
          · cases he2 : (u.f2.toList == m.f2.toList)
            · go_wp2
              go_quiet (fail)
              go_wp2
              go_roundg gk
              case measure => omega
              case rel =>
                refine ⟨h + 1, by first | rfl | (rw [hs3]), by omega, fun k hk => ?_, pw_below_drewN hBh _⟩
                rcases Nat.lt_or_eq_of_le (Nat.le_of_lt_succ hk) with hk | rfl
                · exact HE.out.1 k hk
                · rw [HE.out.2, HM.out.2.2.2.2.2.2.2.2.2]
                  intro e
                  injection e with e1 e2
                  rw [e2] at he2
                  simp at he2
            · go_wp2
              go_quiet (fail)
              go_wp2
              try simp only [Exit.inBlock, Exit.then]
              go_ret
              exact ⟨rfl, pw_below_drewN (HM.out.2.2.2.2.2.1.trans (hBh.mono HM.out.2.2.2.2.2.1.size)) _⟩
end Go.Proofs.YtjibcekillcgjaaDoor.Sb
