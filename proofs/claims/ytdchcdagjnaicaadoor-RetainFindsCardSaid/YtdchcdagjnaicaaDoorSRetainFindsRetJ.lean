/- What the proof of RetainFinds leans on: RetJ. -/
import Derived.Test.YtdchcdagjnaicaaDoorSRetainFindsRetI
import Derived.Test.YtdchcdagjnaicaaDoorSRetainFindsQx5
import Derived.Deep.RegionHeld3
import Derived.BigQuiet
import Derived.WalkSpells
set_option linter.unusedVariables false
set_option linter.unusedSimpArgs false
namespace Go.Proofs.YtdchcdagjnaicaaDoor.Rt
open Go Go.RowKit Go.ChangeMaps Go.MapKept Go.Proofs.YtdchcdagjnaicaaDoorW.PrintWords Go.Proofs.YtdchcdagjnaicaaDoor.Q Go.Proofs.YtdchcdagjnaicaaDoor.Mp Go.Proofs.YtdchcdagjnaicaaDoor.Top
theorem takes_calls (flt n : ByteArray) (hf : isFilter flt = true) (hn : isName n = true) (w : World) :
    Calls Tryd.prog 14 #[.string flt, .string n] w fun e w' => e = .returned (.bool (takesF flt.data.toList n.data.toList)) ∧ Below w.heap.size w w' := by
  obtain ⟨k, hk⟩ := (takes_ev flt n hf hn).rounds
  exact basculeref12_Takes.calls k flt n _ w hk
theorem filter12_calls (flt : ByteArray) (w : World) :
    Calls Tryd.prog 12 #[.string flt] w fun e w' => e = .returned (.bool (isFilter flt)) ∧ Below w.heap.size w w' := by
  obtain ⟨k, hk⟩ := (filter_ev flt).rounds
  exact basculeref12_Filter.calls k flt _ w hk
theorem takesM_eq {flt : ByteArray} {m : Msg} (hf : isFilter flt = true) (hn : isName m.f0 = true) : takesM flt m = takesF flt.data.toList m.f0.data.toList := by
  unfold takesM matchB
  rw [hf, hn]
  rfl
theorem putF_mem {st : List Msg} (hs : Srt tpc st) {m x : Msg} (h : x ∈ putF st m) : x = m ∨ x ∈ st := by
  unfold putF at h
  split at h
  · split at h
    · exact .inr (mem_delS.1 h).1
    · rcases (mem_putS hs).1 h with h | h
      · exact .inl h
      · exact .inr h.1
  · exact .inr h
theorem take_mem {l : List Msg} {i : Nat} (h : i < l.length) {x : Msg} : x ∈ l.take (i + 1) ↔ x ∈ l.take i ∨ x = rd_T27 l (i : Int) := by
  rw [take_M l i h, List.mem_append, List.mem_singleton]
def Cnt (l st D : List Msg) (flt : ByteArray) (i : Nat) : Prop := KeyD tpc D ∧ ∀ x, x ∈ D ↔ (x ∈ st ∧ takesM flt x = true ∧ ∃ y ∈ l.take i, y.f0 = x.f0)
def firstB (l : List Msg) (t : ByteArray) (h : Nat) : Bool := (l.take h).all fun y => !(y.f0.toList == t.toList)
theorem ba_eq (a b : ByteArray) : (a.toList == b.toList) = decide (a = b) := by
  by_cases h : a = b
  · rw [decide_eq_true h, h]; simp
  · rw [decide_eq_false h]
    exact beq_eq_false_iff_ne.2 (fun e => h (ba_inj (by rw [← Lib.toList_data, ← Lib.toList_data]; exact e)))
theorem first_iff {l : List Msg} {t : ByteArray} {h : Nat} : firstB l t h = true ↔ ¬ ∃ y ∈ l.take h, y.f0 = t := by
  unfold firstB
  rw [List.all_eq_true]
  constructor
  · rintro h1 ⟨y, hy, e⟩
    have := h1 y hy
    rw [ba_eq, decide_eq_true e] at this
    exact absurd this (by decide)
  · intro h1 y hy
    rw [ba_eq, decide_eq_false (fun e => h1 ⟨y, hy, e⟩)]
    rfl
theorem first_step (l : List Msg) (t : ByteArray) (h : Nat) (hh : h < l.length) : firstB l t (h + 1) = (firstB l t h && !((rd_T27 l (h : Int)).f0.toList == t.toList)) := by
  unfold firstB
  rw [take_M l h hh, List.all_append]
  simp
theorem seen_step {l : List Msg} {i : Nat} (h : i < l.length) {t : ByteArray} : (∃ y ∈ l.take (i + 1), y.f0 = t) ↔ (∃ y ∈ l.take i, y.f0 = t) ∨ (rd_T27 l (i : Int)).f0 = t := by
  constructor
  · rintro ⟨y, hy, e⟩
    rcases (take_mem h).1 hy with hy | rfl
    · exact .inl ⟨y, hy, e⟩
    · exact .inr e
  · rintro (⟨y, hy, e⟩ | e)
    · exact ⟨y, (take_mem h).2 (.inl hy), e⟩
    · exact ⟨_, (take_mem h).2 (.inr rfl), e⟩
theorem Cnt.same {l st D : List Msg} {flt : ByteArray} {i : Nat} (hi : i < l.length) (h : Cnt l st D flt i) (hn : ∀ x ∈ st, x.f0 = (rd_T27 l (i : Int)).f0 → takesM flt x = true → ∃ y ∈ l.take i, y.f0 = x.f0) : Cnt l st D flt (i + 1) := by
  refine ⟨h.1, fun x => (h.2 x).trans ?_⟩
  constructor
  · rintro ⟨h1, h2, h3⟩
    exact ⟨h1, h2, (seen_step hi).2 (.inl h3)⟩
  · rintro ⟨h1, h2, h3⟩
    refine ⟨h1, h2, ?_⟩
    rcases (seen_step hi).1 h3 with h3 | h3
    · exact h3
    · exact hn x h1 h3.symm h2
theorem Cnt.more {l st D : List Msg} {flt : ByteArray} {i : Nat} (hi : i < l.length) (hs : KeyD tpc st) (h : Cnt l st D flt i) {x : Msg} (hx : x ∈ st) (hf : x.f0 = (rd_T27 l (i : Int)).f0) (ht : takesM flt x = true) (hn : firstB l (rd_T27 l (i : Int)).f0 i = true) : Cnt l st (D ++ [x]) flt (i + 1) := by
  have hne := first_iff.1 hn
  refine ⟨?_, fun z => ?_⟩
  · refine List.pairwise_append.2 ⟨h.1, List.pairwise_singleton _ _, ?_⟩
    intro a ha b hb
    rw [List.mem_singleton] at hb
    subst hb
    intro e
    obtain ⟨y, hy, e2⟩ := ((h.2 a).1 ha).2.2
    exact hne ⟨y, hy, by rw [e2, ← hf]; exact e⟩
  · rw [List.mem_append, List.mem_singleton, h.2 z]
    constructor
    · rintro (⟨h1, h2, h3⟩ | rfl)
      · exact ⟨h1, h2, (seen_step hi).2 (.inl h3)⟩
      · exact ⟨hx, ht, (seen_step hi).2 (.inr hf.symm)⟩
    · rintro ⟨h1, h2, h3⟩
      rcases (seen_step hi).1 h3 with h3 | h3
      · exact .inl ⟨h1, h2, h3⟩
      · refine .inr ?_
        have e1 := getS_of hs h1
        have e2 := getS_of hs hx
        have : tpc z = tpc x := h3.symm.trans hf.symm
        rw [this, e2] at e1
        injection e1 with e1
        exact e1.symm
theorem Cnt.all {l st D : List Msg} {flt : ByteArray} (hf : isFilter flt = true) (hs : KeyD tpc st) (hm : ∀ x ∈ st, x ∈ l) (h : Cnt l st D flt l.length) : D.length = (findS st flt).length := by
  unfold findS
  rw [if_pos hf]
  refine (perm_of h.1 (List.Pairwise.filter _ hs) (fun x => ?_)).length_eq
  rw [h.2 x, List.mem_filter, List.take_length]
  constructor
  · rintro ⟨h1, h2, _⟩
    exact ⟨h1, h2⟩
  · rintro ⟨h1, h2⟩
    exact ⟨h1, h2, x, hm x h1, rfl⟩
def FoundS (W : World) (g i j : Nat) (ad : Addr) (m : Msg) (t : ByteArray) (w : World) : Prop :=
  Below W.heap.size W w ∧ w.cell? ⟨g, 0, none⟩ = some (.string m.f0) ∧ w.cell? ⟨g, 1, none⟩ = some (.string m.f1) ∧ w.cell? ⟨g, 2, none⟩ = some (.int .i64 m.f2) ∧ w.cell? ⟨g, 3, none⟩ = some (.bool m.f3) ∧ w.cell? (ad.add (i * 4)) = some (.string m.f0) ∧ w.cell? ⟨(ad.add (i * 4)).block, (ad.add (i * 4)).off + 1, none⟩ = some (.string m.f1) ∧ w.cell? ⟨(ad.add (i * 4)).block, (ad.add (i * 4)).off + 2, none⟩ = some (.int .i64 m.f2) ∧ w.cell? ⟨(ad.add (i * 4)).block, (ad.add (i * 4)).off + 3, none⟩ = some (.bool m.f3) ∧ w.cell? (ad.add (j * 4)) = some (.string t)
theorem FoundS.keep {W : World} {g i j : Nat} {ad : Addr} {m : Msg} {t : ByteArray} {w w' : World} (h : FoundS W g i j ad m t w) (hb : Below w.heap.size w w') : FoundS W g i j ad m t w' := by
  obtain ⟨h0, h1, h2, h3, h4, h5, h6, h7, h8, h9⟩ := h
  exact ⟨h0.trans (hb.mono h0.size), cell_later hb h1, cell_later hb h2, cell_later hb h3, cell_later hb h4, cell_later hb h5, cell_later hb h6, cell_later hb h7, cell_later hb h8, cell_later hb h9⟩
theorem FoundS.drew {W : World} {g i j : Nat} {ad : Addr} {m : Msg} {t : ByteArray} {w : World} (h : FoundS W g i j ad m t w) : FoundS W g i j ad m t w.drew := FoundS.keep h ((Below.refl _ _).drew)
def PutsRel (w : World) (kb mb : Nat) (l : List Msg) (gk : Nat) (v6 : Value) (wx : World) : Prop :=
  ∃ (i : Nat) (st : List Msg), v6 = .int .i64 i ∧ i + gk = l.length ∧ KAt wx kb mb st ∧ Good st ∧ st.length ≤ i ∧ (∀ x ∈ st, x ∈ l.take i) ∧ Below w.heap.size w wx
def FoundRel (w : World) (kb mb : Nat) (st F : List Msg) (v7 : Value) (gk : Nat) (v10 : Value) (wx : World) : Prop :=
  ∃ (i : Nat), v10 = .int .i64 i ∧ i + gk = F.length ∧ KAt wx kb mb st ∧ Kd.R k27 27 wx w.heap.size (fun k => v7.ownBlock = some k) v7 F ∧ Below w.heap.size w wx
def CountRel (w : World) (kb mb : Nat) (l st : List Msg) (flt : ByteArray) (gk : Nat) (v9 v13 : Value) (wx : World) : Prop :=
  ∃ (i : Nat) (D : List Msg), v9 = .int .i64 D.length ∧ v13 = .int .i64 i ∧ i + gk = l.length ∧ KAt wx kb mb st ∧ Cnt l st D flt i ∧ D.length ≤ i ∧ Below w.heap.size w wx
def FirstRel (wr : World) (l : List Msg) (t : ByteArray) (i : Nat) (gk : Nat) (v14 v15 : Value) (wx : World) : Prop :=
  ∃ (h : Nat), v14 = .bool (firstB l t h) ∧ v15 = .int .i64 h ∧ h + gk = i ∧ Below wr.heap.size wr wx
set_option maxHeartbeats 8000000 in
set_option maxRecDepth 1000000 in
theorem finds_calls (A : Option Addr) (c : Nat) (l : List Msg) (flt : ByteArray) (w : World) (hL : Laid w) (hr : Kd.C k27 w A l.length l) (hc : l.length ≤ c) :
    Calls Tryd.prog 4 #[.slice A l.length c, .string flt] w fun e w' => e = .returned (.bool true) ∧ Below w.heap.size w w' := by
  have cF := few_calls A c l w hr hc
  have cI := fun W => filter12_calls flt W
  cases hf : fewM l
  · rw [hf] at cF
    clear hf hL hr hc cI
    go_enter Tryd.func4, Tryd.ntmps4
    go_wp2_with (go_at_call 7; refine cF.mono ?_; rintro e w1 ⟨rfl, hb1⟩)
    go_ret
    exact ⟨rfl, hb1⟩
  · rw [hf] at cF
    by_cases h100 : 100 < flt.size
    · clear hf hL hr hc cI
      have hd : decide ((100 : Int) < (flt.size : Int)) = true := decide_eq_true (by omega)
      go_enter Tryd.func4, Tryd.ntmps4
      go_wp2_with (go_at_call 7; refine cF.mono ?_; rintro e w1 ⟨rfl, hb1⟩)
      go_ret
      exact ⟨rfl, hb1⟩
    have hd : decide ((100 : Int) < (flt.size : Int)) = false := decide_eq_false (by omega)
    have hdN : (100 < flt.size) = False := eq_false h100
    cases hif : isFilter flt
    · rw [hif] at cI
      clear hf hL hr hc hif
      go_enter Tryd.func4, Tryd.ntmps4
      go_wp2_with (first
        | (go_at_call 7; refine cF.mono ?_; rintro e w1 ⟨rfl, hb1⟩)
        | (go_at_call 12; refine (cI _).mono ?_; rintro e w2 ⟨rfl, hb2⟩))
      go_ret
      exact ⟨rfl, hb1.trans (hb2.mono hb1.size)⟩
    rw [hif] at cI
    obtain ⟨hl, hsz⟩ := few_all hf
    have HF := Lib.hid (And.intro hl hsz)
    have HC := Lib.hid hr
    have HLd := Lib.hid hL
    have HI := Lib.hid hif
    have HFL := Lib.hid h100
    clear hf hL hr hl hsz hc hif h100
    have cN := fun W => new_calls W
    go_enter Tryd.func4, Tryd.ntmps4
    go_wp2_with (first
      | (go_at_call 7; refine cF.mono ?_; rintro e w1 ⟨rfl, hb1⟩; clear cF)
      | (go_at_call 12; refine (cI w1).mono ?_; rintro e w2 ⟨rfl, hb2⟩)
      | (go_at_call 8; refine (cN w2).mono ?_; rintro e w3 ⟨rfl, hK3, hb3⟩))
    have hB2 := hb1.trans (hb2.mono hb1.size)
    have hB3 := hB2.trans (hb3.mono hB2.size)
    have hn0 : w.heap.size ≤ w2.heap.size := hB2.size
    obtain ⟨mb, hmbe⟩ : ∃ x, x = w2.heap.size := ⟨_, rfl⟩
    rw [← hmbe] at hK3 hn0 ⊢
    have HN := Lib.hid hn0
    clear hn0 hB2 hb1 hb2 hb3 hmbe cN cI hd hdN
    go_loopg [6] l.length (fun gk v6 wx => PutsRel w (mb + 1) mb l gk v6 wx)
    case atStart => exact ⟨0, [], rfl, by omega, hK3, fun m hm => by simp at hm, Nat.le_refl _, fun m hm => by simp at hm, hB3⟩
    case round =>
      obtain ⟨i, st, rfl, hig, hKr, hG, hsl, hms, hBr⟩ := hrel
      clear hK3 hB3
      cases gk with
      | zero =>
        have hi : i = l.length := by omega
        have hnl : (i < l.length) = False := eq_false (by omega)
        have hlt1 : decide ((i : Int) < (l.length : Int)) = false := decide_eq_false (by omega)
        have hst : st.length ≤ 100 := by have := HF.out.1; omega
        have cD := find_calls wr (mb + 1) mb st flt (HLd.out.below hBr) hKr (by omega)
        rw [hi, List.take_length] at hms
        have hkd := hKr.srt
        unfold findE at cD
        rw [if_pos HI.out] at cD
        have HG := Lib.hid (And.intro hG (And.intro hst (And.intro hms hkd)))
        have hFS := HG.out.2.1
        obtain ⟨F, hFe⟩ : ∃ x, x = findS st flt := ⟨_, rfl⟩
        rw [← hFe] at cD
        have HFe := Lib.hid hFe
        clear hG hst hsl hms hkd hFe hFS
        go_wp2_with (go_at_call 13; refine cD.mono ?_; rintro e w5 ⟨v7, rfl, hR7, hb5⟩)
        have hB5 := hBr.trans (hb5.mono hBr.size)
        have hK5 := hKr.below hb5
        have hR7' := R_own (Kd.R_lower hR7 hBr.size)
        obtain ⟨A7, c7, rfl⟩ := Kd.R_slice hR7'
        clear hlt1 hnl hR7 hb5 hKr hBr hi hig cD
        go_loopg [10] F.length (fun gk v10 wx => FoundRel w (mb + 1) mb st F (.slice A7 F.length c7) gk v10 wx)
        case atStart => exact ⟨0, rfl, by omega, hK5, hR7', hB5⟩
        case round =>
          obtain ⟨i, rfl, hig, hKx, hX7, hBx⟩ := hrel
          clear hK5 hR7' hB5
          cases gk with
          | zero =>
            have hi : i = F.length := by omega
            have hnl : (i < F.length) = False := eq_false (by omega)
            have hlt1 : decide ((i : Int) < (F.length : Int)) = false := decide_eq_false (by omega)
            clear hX7 hig
            go_wp2
            go_loopg [9, 13] l.length (fun gk v9 v13 wx => CountRel w (mb + 1) mb l st flt gk v9 v13 wx)
            case atStart => exact ⟨0, [], rfl, rfl, by omega, hKx, ⟨List.Pairwise.nil, fun x => by simp⟩, Nat.le_refl _, hBx⟩
            case round =>
              obtain ⟨i, D, rfl, rfl, hig, hKy, hCt, hD, hBy⟩ := hrel
              clear hKx hBx hnl hlt1 hi
              cases gk with
              | zero =>
                have hi : i = l.length := by omega
                have hnl : (i < l.length) = False := eq_false (by omega)
                have hlt1 : decide ((i : Int) < (l.length : Int)) = false := decide_eq_false (by omega)
                have cW := awake_calls _ (HLd.out.below hBy)
                rw [hi] at hCt
                have hDF : D.length = F.length := by rw [HFe.out]; exact Cnt.all HI.out HG.out.2.2.2.keys HG.out.2.2.1 hCt
                rw [hDF]
                clear hCt hD hKy
                go_wp2_with (go_at_call 11; refine cW.mono ?_; rintro e w6 ⟨rfl, hb6⟩)
                go_ret
                exact ⟨rfl, hBy.trans (hb6.mono hBy.size)⟩
              | succ gk =>
                have hi : i < l.length := by omega
                have hlt1 : decide ((i : Int) < (l.length : Int)) = true := decide_eq_true (by omega)
                have hm := HF.out.2 _ (rd_mem l i hi)
                have hC := Kd.C_below HC.out hBy
                obtain ⟨ad9, eA, -⟩ := cells_any hC i hi
                subst eA
                have p0 : ((0 : Int) ≤ (i : Int)) = True := eq_true (by omega)
                have p1 : ((i : Int) < (l.length : Int)) = True := eq_true (by omega)
                have hs1 : IntKind.i64.wrap ((i : Int) + 1) = ((i + 1 : Nat) : Int) := by rw [IntWalk.i64_in _ (by have := HF.out.1; omega)]; rfl
                have hs2 : IntKind.i64.wrap ((D.length : Int) + 1) = ((D.length + 1 : Nat) : Int) := by rw [IntWalk.i64_in _ (by have := HF.out.1; omega)]; rfl
                obtain ⟨t, hte⟩ : ∃ t, (rd_T27 l (i : Int)).f0 = t := ⟨_, rfl⟩
                rw [hte] at hm
                have HTe := Lib.hid hte
                have hok : okS t := by unfold okS maxLen; omega
                have HK := Lib.hid (And.intro hKy (And.intro hCt (And.intro hD hok)))
                have HBy := Lib.hid hBy
                have HS2 := Lib.hid hs2
                have hsr := hKy.srt
                have HSr := Lib.hid hsr
                clear hm hC hte hKy hCt hD hok hBy hs2 hsr
                obtain ⟨wo, rfl⟩ : ∃ x, x = wr := ⟨_, rfl⟩
                obtain ⟨go_, rfl⟩ : ∃ x, x = gk := ⟨_, rfl⟩
                go_wp2
                go_loopg [14, 15] i (fun gk v14 v15 wx => FirstRel wo l t i gk v14 v15 wx)
                case atStart => exact ⟨0, rfl, rfl, by omega, Below.refl _ _⟩
                case round =>
                  obtain ⟨h, rfl, rfl, hhg, hBh⟩ := hrel
                  cases gk with
                  | zero =>
                    have hh : h = i := by omega
                    subst hh
                    have hnl2 : (h < h) = False := eq_false (by omega)
                    have hC := Kd.C_below HC.out (HBy.out.trans (hBh.mono HBy.out.size))
                    obtain ⟨z0, -⟩ := cells_some hC h hi
                    rw [HTe.out] at z0
                    have hKh := HK.out.1.below hBh
                    have cA := at_calls wr (mb + 1) mb st t hKh HK.out.2.2.2
                    have hBw := HBy.out.trans (hBh.mono HBy.out.size)
                    clear hC hhg
                    cases hg : getS tpc st t
                    · have eR : atR st t = zM := by unfold atR; rw [hg]; rfl
                      have eB : atB st t = false := by unfold atB; rw [hg]; rfl
                      rw [eR, eB] at cA
                      simp only [msgV, zM] at cA
                      have hN := Lib.hid (Cnt.same hi HK.out.2.1 (fun x hx e _ => absurd (show tpc x = t from e.trans HTe.out) (getS_none hg x hx)))
                      clear eR eB hg hKh
                      go_wp2_with (go_at_call 10; refine cA.mono ?_; rintro e w6 ⟨rfl, hb6⟩; have hB6 := hBw.trans (hb6.mono hBw.size); have hB7 := hB6.alloc hB6.size (.cells #[.string ⟨#[]⟩, .string ⟨#[]⟩, .int .i64 0, .bool false] 27 (0, 0)))
                      have hB67 := hb6.alloc hb6.size (.cells #[.string ⟨#[]⟩, .string ⟨#[]⟩, .int .i64 0, .bool false] 27 (0, 0))
                      obtain ⟨gk, rfl⟩ : ∃ x, x = go_ := ⟨_, rfl⟩
                      go_roundg gk
                      case measure => omega
                      case rel =>
                        exact ⟨h + 1, D, rfl, by first | rfl | (rw [hs1]), by omega, (HK.out.1.below hBh).below hB67, hN.out, by have := HK.out.2.2.1; omega, hB7⟩
                    · rename_i x
                      obtain ⟨hx, hxt⟩ := getS_some hg
                      have eR : atR st t = x := by unfold atR; rw [hg]; rfl
                      have eB : atB st t = true := by unfold atB; rw [hg]; rfl
                      rw [eR, eB] at cA
                      unfold msgV at cA
                      have hkn := (keep_name (HG.out.1 _ hx)).1
                      have htk := takesM_eq HI.out hkn
                      have cT := fun W => takes_calls flt x.f0 HI.out hkn W
                      rw [← htk] at cT
                      clear eR eB hKh hkn htk
                      cases hfb : firstB l t h
                      · have hN := Lib.hid (Cnt.same hi HK.out.2.1 (fun x' hx' e _ => by
                          rw [HTe.out] at e
                          rw [e]
                          exact Classical.byContradiction (fun hne => by rw [first_iff.2 hne] at hfb; cases hfb)))
                        clear cT
                        go_wp2_with (go_at_call 10; refine cA.mono ?_; rintro e w6 ⟨rfl, hb6⟩; have hB6 := hBw.trans (hb6.mono hBw.size); have hB7 := hB6.alloc hB6.size (.cells #[.string x.f0, .string x.f1, .int .i64 x.f2, .bool x.f3] 27 (0, 0)))
                        have hB67 := hb6.alloc hb6.size (.cells #[.string x.f0, .string x.f1, .int .i64 x.f2, .bool x.f3] 27 (0, 0))
                        obtain ⟨gk, rfl⟩ : ∃ x, x = go_ := ⟨_, rfl⟩
                        go_roundg gk
                        case measure => omega
                        case rel =>
                          exact ⟨h + 1, D, rfl, by first | rfl | (rw [hs1]), by omega, (HK.out.1.below hBh).below hB67, hN.out, by have := HK.out.2.2.1; omega, hB7⟩
                      · cases htk : takesM flt x
                        · rw [htk] at cT
                          have hN := Lib.hid (Cnt.same hi HK.out.2.1 (fun x' hx' e ht => by
                            rw [HTe.out] at e
                            have e1 := getS_of HSr.out.keys hx'
                            rw [show tpc x' = t from e, hg] at e1
                            injection e1 with e1
                            rw [← e1, htk] at ht
                            cases ht))
                          clear htk hg
                          go_wp2_with (first
                            | (go_at_call 10; refine cA.mono ?_; rintro e w6 ⟨rfl, hb6⟩; have hB6 := hBw.trans (hb6.mono hBw.size); have hB7 := hB6.alloc hB6.size (.cells #[.string x.f0, .string x.f1, .int .i64 x.f2, .bool x.f3] 27 (0, 0)); have hk7 := blk_new w6 (.cells #[.string x.f0, .string x.f1, .int .i64 x.f2, .bool x.f3] 27 (0, 0)); have q0 := blk_cell hk7 0)
                            | (go_at_call 14; refine (cT _).mono ?_; rintro e w8 ⟨rfl, hb8⟩))
                          have hB8 := hB7.trans (hb8.mono hB7.size)
                          have hB67 := hb6.alloc hb6.size (.cells #[.string x.f0, .string x.f1, .int .i64 x.f2, .bool x.f3] 27 (0, 0))
                          have hB68 := hB67.trans (hb8.mono hB67.size)
                          obtain ⟨gk, rfl⟩ : ∃ x, x = go_ := ⟨_, rfl⟩
                          go_roundg gk
                          case measure => omega
                          case rel =>
                            exact ⟨h + 1, D, rfl, by first | rfl | (rw [hs1]), by omega, (HK.out.1.below hBh).below hB68, hN.out, by have := HK.out.2.2.1; omega, hB8⟩
                        · rw [htk] at cT
                          have hN := Lib.hid (Cnt.more hi HSr.out.keys HK.out.2.1 hx (hxt.trans HTe.out.symm) htk (by rw [HTe.out]; exact hfb))
                          have hs2 := HS2.out
                          clear htk hg
                          go_wp2_with (first
                            | (go_at_call 10; refine cA.mono ?_; rintro e w6 ⟨rfl, hb6⟩; have hB6 := hBw.trans (hb6.mono hBw.size); have hB7 := hB6.alloc hB6.size (.cells #[.string x.f0, .string x.f1, .int .i64 x.f2, .bool x.f3] 27 (0, 0)); have hk7 := blk_new w6 (.cells #[.string x.f0, .string x.f1, .int .i64 x.f2, .bool x.f3] 27 (0, 0)); have q0 := blk_cell hk7 0)
                            | (go_at_call 14; refine (cT _).mono ?_; rintro e w8 ⟨rfl, hb8⟩))
                          have hB8 := hB7.trans (hb8.mono hB7.size)
                          have hB67 := hb6.alloc hb6.size (.cells #[.string x.f0, .string x.f1, .int .i64 x.f2, .bool x.f3] 27 (0, 0))
                          have hB68 := hB67.trans (hb8.mono hB67.size)
                          obtain ⟨gk, rfl⟩ : ∃ x, x = go_ := ⟨_, rfl⟩
                          go_roundg gk
                          case measure => omega
                          case rel =>
                            exact ⟨h + 1, D ++ [x], (by rw [List.length_append]; first | rfl | (rw [hs2]; rfl)), by first | rfl | (rw [hs1]), by omega, (HK.out.1.below hBh).below hB68, hN.out, by have := HK.out.2.2.1; simp; omega, hB8⟩
                  | succ gk =>
                    have hh : h < i := by omega
                    have hltN : (h < i) = True := eq_true hh
                    have hlt2 : decide ((h : Int) < (i : Int)) = true := decide_eq_true (by omega)
                    have q0 : ((0 : Int) ≤ (h : Int)) = True := eq_true (by omega)
                    have q1 : ((h : Int) < (l.length : Int)) = True := eq_true (by omega)
                    have hs3 : IntKind.i64.wrap ((h : Int) + 1) = ((h + 1 : Nat) : Int) := by rw [IntWalk.i64_in _ (by have := HF.out.1; omega)]; rfl
                    have hC := Kd.C_below HC.out (HBy.out.trans (hBh.mono HBy.out.size))
                    obtain ⟨k0, -⟩ := cells_some hC h (by omega)
                    obtain ⟨z0, -⟩ := cells_some hC i hi
                    rw [HTe.out] at z0
                    have hst := Lib.hid (first_step l t h (by omega))
                    generalize (rd_T27 l (h : Int)).f0 = u at k0 hst
                    have HFB := Lib.hid (show firstB l t h = firstB l t h from rfl)
                    clear hC
                    cases hb : firstB l t h
                    · rw [hb] at hst
                      have HFb := Lib.hid hb
                      clear hb
                      go_wp2
                      go_quiet (fail)
                      go_wp2
                      go_roundg gk
                      case measure => omega
                      case rel =>
                        have hst' := hst.out
                        simp only [Bool.false_and] at hst'
                        exact ⟨h + 1, by rw [hst'], by first | rfl | (rw [hs3]), by omega, pw_below_drewN hBh _⟩
                    · rw [hb] at hst
                      have HFb := Lib.hid hb
                      clear hb
                      go_wp2
                      go_quiet (fail)
                      go_wp2
                      go_roundg gk
                      case measure => omega
                      case rel =>
                        have hst' := hst.out
                        simp only [Bool.true_and] at hst'
                        exact ⟨h + 1, by rw [hst'], by first | rfl | (rw [hs3]), by omega, pw_below_drewN hBh _⟩
          | succ gk =>
            have hi : i < F.length := by omega
            have hF := HFe.out
            unfold findS at hF
            rw [if_pos HI.out] at hF
            have hFl : F.length ≤ 100 := by have := List.length_filter_le (takesM flt) st; rw [hF]; have := HG.out.2.1; omega
            have hlt1 : decide ((i : Int) < (F.length : Int)) = true := decide_eq_true (by omega)
            have p0 : ((0 : Int) ≤ (i : Int)) = True := eq_true (by omega)
            have p1 : ((i : Int) < (F.length : Int)) = True := eq_true (by omega)
            have hs1 : IntKind.i64.wrap ((i : Int) + 1) = ((i + 1 : Nat) : Int) := by rw [IntWalk.i64_in _ (by omega)]; rfl
            have hmem := rd_mem F i hi
            have hmem2 := hmem
            rw [hF, List.mem_filter, ← hF] at hmem2
            have hgs : getS tpc st (rd_T27 F (i : Int)).f0 = some (rd_T27 F (i : Int)) := getS_of HG.out.2.2.2.keys hmem2.1
            have hat : atR st (rd_T27 F (i : Int)).f0 = rd_T27 F (i : Int) := by unfold atR; rw [hgs]; rfl
            have hab : atB st (rd_T27 F (i : Int)).f0 = true := by unfold atB; rw [hgs]; rfl
            have hkn := (keep_name (HG.out.1 _ hmem2.1)).1
            have htk := takesM_eq HI.out hkn
            rw [hmem2.2] at htk
            have cA := at_calls wr (mb + 1) mb st (rd_T27 F (i : Int)).f0 hKx (by have := HF.out.2 _ (HG.out.2.2.1 _ hmem2.1); unfold okS maxLen; omega)
            have cT := fun W => takes_calls flt (rd_T27 F (i : Int)).f0 HI.out hkn W
            rw [hat, hab] at cA
            rw [← htk] at cT
            have hC := (Kd.R_reads' hX7).2.2
            obtain ⟨ad, eA, -⟩ := cells_any hC i hi
            subst eA
            obtain ⟨k0, k1, k2, k3⟩ := cells_some hC i hi
            have HX := Lib.hid hX7
            have HKx := Lib.hid hKx
            unfold msgV at cA
            obtain ⟨m, hmm⟩ : ∃ m, rd_T27 F (i : Int) = m := ⟨_, rfl⟩
            rw [hmm] at k0 k1 k2 k3 cA cT
            have HM := Lib.hid hmm
            clear hat hab hgs hkn htk hmm hmem hmem2 hC hX7 hKx hF
            go_wp2_with (go_at_call 10; refine cA.mono ?_; rintro e w6 ⟨rfl, hb6⟩; have hB6 := hBx.trans (hb6.mono hBx.size))
            have hal := (Below.refl w6.heap.size w6).alloc (Nat.le_refl _) (.cells #[.string m.f0, .string m.f1, .int .i64 m.f2, .bool m.f3] 27 (0, 0))
            have hk7 := blk_new w6 (.cells #[.string m.f0, .string m.f1, .int .i64 m.f2, .bool m.f3] 27 (0, 0))
            have hB67 := hb6.trans (hal.mono hb6.size)
            have q0 := blk_cell hk7 0
            have q1 := blk_cell hk7 1
            have q2 := blk_cell hk7 2
            have q3 := blk_cell hk7 3
            have z0 := cell_later hB67 k0
            have z1 := cell_later hB67 k1
            have z2 := cell_later hB67 k2
            have z3 := cell_later hB67 k3
            have HB := Lib.hid hB67
            clear hal hk7 hB67 k0 k1 k2 k3
            by_cases h0 : 0 < i
            · obtain ⟨j, hji⟩ : ∃ j, i = j + 1 := ⟨i - 1, by omega⟩
              have hrise : (m.f0.toList == m.f0.toList) = true := by simp
              have hj : j < F.length := by omega
              have hle : Op.bytesLess (rd_T27 F (j : Int)).f0.toList m.f0.toList = true := by
                have h_ : Srt tpc F := by rw [HFe.out]; unfold findS; rw [if_pos HI.out]; exact HG.out.2.2.2.filter _
                have := List.pairwise_iff_getElem.1 h_ j (j + 1) hj (by omega) (by omega)
                rw [← HM.out, hji]
                unfold rd_T27
                rw [Int.toNat_natCast, Int.toNat_natCast, List.getD_eq_getElem?_getD, List.getElem?_eq_getElem hj, List.getD_eq_getElem?_getD, List.getElem?_eq_getElem (show j + 1 < F.length by omega)]
                exact this
              obtain ⟨u0, -, -, -⟩ := cells_some (Kd.C_below (Kd.R_reads' HX.out).2.2 HB.out) j hj
              have P0 : ((0 : Int) ≤ (j : Int)) = True := eq_true (by omega)
              have P1 : ((j : Int) < (F.length : Int)) = True := eq_true (by omega)
              have Pg : (0 < i) = True := eq_true (by omega)
              generalize (rd_T27 F (j : Int)).f0 = t at u0 hle
              have hle2 : Op.bytesLess m.f0.toList t.toList = false := ltS_asymm hle
              have hle3 : (m.f0.toList == t.toList) = false := by rw [ba_eq]; exact decide_eq_false (fun e => ltS_ne hle e.symm)
              clear hle
              have hsub : IntKind.i64.wrap ((i : Int) - 1) = (j : Int) := by rw [IntWalk.i64_in _ (by omega)]; omega
              clear hji h0
              have hS : FoundS (w6.alloc (.cells #[.string m.f0, .string m.f1, .int .i64 m.f2, .bool m.f3] 27 (0, 0))) w6.heap.size i j ad m t (w6.alloc (.cells #[.string m.f0, .string m.f1, .int .i64 m.f2, .bool m.f3] 27 (0, 0))) := ⟨Below.refl _ _, q0, q1, q2, q3, z0, z1, z2, z3, u0⟩
              unfold FoundS at hS
              go_region_held3 (fun w' => Below (w6.alloc (.cells #[.string m.f0, .string m.f1, .int .i64 m.f2, .bool m.f3] 27 (0, 0))).heap.size (w6.alloc (.cells #[.string m.f0, .string m.f1, .int .i64 m.f2, .bool m.f3] 27 (0, 0))) w' ∧ w'.cell? ⟨w6.heap.size, 0, none⟩ = some (.string m.f0) ∧ w'.cell? ⟨w6.heap.size, 1, none⟩ = some (.string m.f1) ∧ w'.cell? ⟨w6.heap.size, 2, none⟩ = some (.int .i64 m.f2) ∧ w'.cell? ⟨w6.heap.size, 3, none⟩ = some (.bool m.f3) ∧ w'.cell? (ad.add (i * 4)) = some (.string m.f0) ∧ w'.cell? ⟨(ad.add (i * 4)).block, (ad.add (i * 4)).off + 1, none⟩ = some (.string m.f1) ∧ w'.cell? ⟨(ad.add (i * 4)).block, (ad.add (i * 4)).off + 2, none⟩ = some (.int .i64 m.f2) ∧ w'.cell? ⟨(ad.add (i * 4)).block, (ad.add (i * 4)).off + 3, none⟩ = some (.bool m.f3) ∧ w'.cell? (ad.add (j * 4)) = some (.string t)) (first | assumption | exact FoundS.keep (by assumption) (by assumption) | exact FoundS.drew (by assumption) | exact FoundS.drew (FoundS.keep (by assumption) (by assumption))) (first | (go_at_call 14; refine (cT _).mono ?_; rintro e w8 ⟨rfl, hb8⟩))
              rename_i hS8
              have H8 := Lib.hid hS8
              clear hS hS8 hb8
              go_wp2
              go_roundg gk
              case measure => omega
              case rel =>
                have hB8 := HB.out.trans (H8.out.1.mono HB.out.size)
                exact ⟨i + 1, by first | rfl | (rw [hs1]), by omega, HKx.out.below hB8, Kd.R_below HX.out hB8, hBx.trans (hB8.mono hBx.size)⟩
            · have Pg : (0 < i) = False := eq_false h0
              clear h0
              have hS : FoundS (w6.alloc (.cells #[.string m.f0, .string m.f1, .int .i64 m.f2, .bool m.f3] 27 (0, 0))) w6.heap.size i i ad m m.f0 (w6.alloc (.cells #[.string m.f0, .string m.f1, .int .i64 m.f2, .bool m.f3] 27 (0, 0))) := ⟨Below.refl _ _, q0, q1, q2, q3, z0, z1, z2, z3, z0⟩
              unfold FoundS at hS
              refine wp_region_held_drew (S := (fun w' => Below (w6.alloc (.cells #[.string m.f0, .string m.f1, .int .i64 m.f2, .bool m.f3] 27 (0, 0))).heap.size (w6.alloc (.cells #[.string m.f0, .string m.f1, .int .i64 m.f2, .bool m.f3] 27 (0, 0))) w' ∧ w'.cell? ⟨w6.heap.size, 0, none⟩ = some (.string m.f0) ∧ w'.cell? ⟨w6.heap.size, 1, none⟩ = some (.string m.f1) ∧ w'.cell? ⟨w6.heap.size, 2, none⟩ = some (.int .i64 m.f2) ∧ w'.cell? ⟨w6.heap.size, 3, none⟩ = some (.bool m.f3) ∧ w'.cell? (ad.add (i * 4)) = some (.string m.f0) ∧ w'.cell? ⟨(ad.add (i * 4)).block, (ad.add (i * 4)).off + 1, none⟩ = some (.string m.f1) ∧ w'.cell? ⟨(ad.add (i * 4)).block, (ad.add (i * 4)).off + 2, none⟩ = some (.int .i64 m.f2) ∧ w'.cell? ⟨(ad.add (i * 4)).block, (ad.add (i * 4)).off + 3, none⟩ = some (.bool m.f3) ∧ w'.cell? (ad.add (i * 4)) = some (.string m.f0))) (by kernel_rfl) (by (try dsimp only); first | assumption | exact FoundS.keep (by assumption) (by assumption) | exact FoundS.drew (by assumption) | exact FoundS.drew (FoundS.keep (by assumption) (by assumption))) (fun hHeld => ?_)
              refine wpAnyH_take (i := 0) (oi := { dst := some 68, op := Op.move (Operand.tmp 12), type := 4, pos := "law.go:106", after := #[], guard := none }) (v := ?_) rfl (by kernel_rfl) (by kernel_rfl) (by kernel_rfl) (fun _ _ _ h => h) (Or.inl ⟨by rfl, ?_⟩) (by assumption) ?_
              rotate_left
              · (intro w hSw; (try dsimp only at hSw); go_simp; try with_reducible rfl)
              try simp only [Act.put, List.setIfInBounds_toArray, List.set_cons_zero, List.set_cons_succ]
              refine wpAnyH_take (i := 1) (oi := { dst := some 69, op := Op.unOp UnOp.not 4 (Operand.tmp 68), type := 4, pos := "law.go:106", after := #[{ on := 0, ground := Ground.data }], guard := none }) (v := ?_) rfl (by kernel_rfl) (by kernel_rfl) (by kernel_rfl) (fun _ _ _ h => h) (Or.inl ⟨by rfl, ?_⟩) (by assumption) ?_
              rotate_left
              · (intro w hSw; (try dsimp only at hSw); go_simp; try with_reducible rfl)
              try simp only [Act.put, List.setIfInBounds_toArray, List.set_cons_zero, List.set_cons_succ]
              refine wpAnyH_take (i := 2) (oi := { dst := some 70, op := Op.move (Operand.tmp 69), type := 4, pos := "law.go:106", after := #[{ on := 1, ground := Ground.data }], guard := none }) (v := ?_) rfl (by kernel_rfl) (by kernel_rfl) (by kernel_rfl) (fun _ _ _ h => h) (Or.inl ⟨by rfl, ?_⟩) (by assumption) ?_
              rotate_left
              · (intro w hSw; (try dsimp only at hSw); go_simp; try with_reducible rfl)
              try simp only [Act.put, List.setIfInBounds_toArray, List.set_cons_zero, List.set_cons_succ]
              refine wpAnyH_take (i := 3) (oi := { dst := some 71, op := Op.load 27 (Operand.tmp 11), type := 27, pos := "law.go:106", after := #[{ on := 2, ground := Ground.guard }], guard := some (2, false) }) (v := ?_) rfl (by kernel_rfl) (by kernel_rfl) (by kernel_rfl) (fun _ _ _ h => h) (Or.inl ⟨by rfl, ?_⟩) (by assumption) ?_
              rotate_left
              · (intro w hSw; (try dsimp only at hSw); go_simp; try with_reducible rfl)
              try simp only [Act.put, List.setIfInBounds_toArray, List.set_cons_zero, List.set_cons_succ]
              refine wpAnyH_take (i := 4) (oi := { dst := some 72, op := Op.move (Operand.tmp 7), type := 22, pos := "law.go:106", after := #[{ on := 2, ground := Ground.guard }], guard := some (2, false) }) (v := ?_) rfl (by kernel_rfl) (by kernel_rfl) (by kernel_rfl) (fun _ _ _ h => h) (Or.inl ⟨by rfl, ?_⟩) (by assumption) ?_
              rotate_left
              · (intro w hSw; (try dsimp only at hSw); go_simp; try with_reducible rfl)
              try simp only [Act.put, List.setIfInBounds_toArray, List.set_cons_zero, List.set_cons_succ]
              refine wpAnyH_take (i := 5) (oi := { dst := some 73, op := Op.move (Operand.tmp 10), type := 3, pos := "law.go:106", after := #[{ on := 2, ground := Ground.guard }], guard := some (2, false) }) (v := ?_) rfl (by kernel_rfl) (by kernel_rfl) (by kernel_rfl) (fun _ _ _ h => h) (Or.inl ⟨by rfl, ?_⟩) (by assumption) ?_
              rotate_left
              · (intro w hSw; (try dsimp only at hSw); go_simp; try with_reducible rfl)
              try simp only [Act.put, List.setIfInBounds_toArray, List.set_cons_zero, List.set_cons_succ]
              refine wpAnyH_take (i := 6) (oi := { dst := some 74, op := Op.indexAddr 22 (Operand.tmp 72) (Operand.tmp 73), type := 0, pos := "law.go:106", after := #[{ on := 4, ground := Ground.data }, { on := 5, ground := Ground.data }, { on := 2, ground := Ground.guard }], guard := some (2, false) }) (v := ?_) rfl (by kernel_rfl) (by kernel_rfl) (by kernel_rfl) (fun _ _ _ h => h) (Or.inl ⟨by rfl, ?_⟩) (by assumption) ?_
              rotate_left
              · (intro w hSw; (try dsimp only at hSw); go_simp; try with_reducible rfl)
              try simp only [Act.put, List.setIfInBounds_toArray, List.set_cons_zero, List.set_cons_succ]
              refine wpAnyH_take (i := 7) (oi := { dst := some 75, op := Op.load 27 (Operand.tmp 74), type := 27, pos := "law.go:106", after := #[{ on := 6, ground := Ground.data }, { on := 2, ground := Ground.guard }], guard := some (2, false) }) (v := ?_) rfl (by kernel_rfl) (by kernel_rfl) (by kernel_rfl) (fun _ _ _ h => h) (Or.inl ⟨by rfl, ?_⟩) (by assumption) ?_
              rotate_left
              · (intro w hSw; (try dsimp only at hSw); go_simp; try with_reducible rfl)
              try simp only [Act.put, List.setIfInBounds_toArray, List.set_cons_zero, List.set_cons_succ]
              refine wpAnyH_take (i := 8) (oi := { dst := some 76, op := Op.binOp BinOp.neq 27 (Operand.tmp 71) (Operand.tmp 75) 27, type := 4, pos := "law.go:106", after := #[{ on := 3, ground := Ground.data }, { on := 7, ground := Ground.data }, { on := 2, ground := Ground.guard }], guard := some (2, false) }) (v := ?_) rfl (by kernel_rfl) (by kernel_rfl) (by kernel_rfl) (fun _ _ _ h => h) (Or.inl ⟨by rfl, ?_⟩) (by assumption) ?_
              rotate_left
              · (intro w hSw; (try dsimp only at hSw); go_simp; try with_reducible rfl)
              try simp only [Act.put, List.setIfInBounds_toArray, List.set_cons_zero, List.set_cons_succ]
              refine wpAnyH_take (i := 9) (oi := { dst := some 77, op := Op.pick (Operand.tmp 70) (Operand.const (Value.bool true)) (Operand.tmp 76), type := 4, pos := "law.go:106", after := #[{ on := 2, ground := Ground.data }, { on := 8, ground := Ground.data }], guard := none }) (v := ?_) rfl (by kernel_rfl) (by kernel_rfl) (by kernel_rfl) (fun _ _ _ h => h) (Or.inl ⟨by rfl, ?_⟩) (by assumption) ?_
              rotate_left
              · (intro w hSw; (try dsimp only at hSw); go_simp; try with_reducible rfl)
              try simp only [Act.put, List.setIfInBounds_toArray, List.set_cons_zero, List.set_cons_succ]
              refine wpAnyH_take (i := 10) (oi := { dst := some 78, op := Op.move (Operand.tmp 77), type := 4, pos := "law.go:106", after := #[{ on := 9, ground := Ground.data }, { on := 2, ground := Ground.chain }], guard := none }) (v := ?_) rfl (by kernel_rfl) (by kernel_rfl) (by kernel_rfl) (fun _ _ _ h => h) (Or.inl ⟨by rfl, ?_⟩) (by assumption) ?_
              rotate_left
              · (intro w hSw; (try dsimp only at hSw); go_simp; try with_reducible rfl)
              try simp only [Act.put, List.setIfInBounds_toArray, List.set_cons_zero, List.set_cons_succ]
              refine wpAnyH_take (i := 11) (oi := { dst := some 79, op := Op.move (Operand.tmp 1), type := 9, pos := "law.go:106", after := #[{ on := 10, ground := Ground.guard }], guard := some (10, false) }) (v := ?_) rfl (by kernel_rfl) (by kernel_rfl) (by kernel_rfl) (fun _ _ _ h => h) (Or.inl ⟨by rfl, ?_⟩) (by assumption) ?_
              rotate_left
              · (intro w hSw; (try dsimp only at hSw); go_simp; try with_reducible rfl)
              try simp only [Act.put, List.setIfInBounds_toArray, List.set_cons_zero, List.set_cons_succ]
              refine wpAnyH_take (i := 12) (oi := { dst := some 80, op := Op.fieldAddr 27 (Operand.tmp 11) 0, type := 0, pos := "law.go:106", after := #[{ on := 10, ground := Ground.guard }], guard := some (10, false) }) (v := ?_) rfl (by kernel_rfl) (by kernel_rfl) (by kernel_rfl) (fun _ _ _ h => h) (Or.inl ⟨by rfl, ?_⟩) (by assumption) ?_
              rotate_left
              · (intro w hSw; (try dsimp only at hSw); go_simp; try with_reducible rfl)
              try simp only [Act.put, List.setIfInBounds_toArray, List.set_cons_zero, List.set_cons_succ]
              refine wpAnyH_take (i := 13) (oi := { dst := some 81, op := Op.load 9 (Operand.tmp 80), type := 9, pos := "law.go:106", after := #[{ on := 12, ground := Ground.data }, { on := 10, ground := Ground.guard }], guard := some (10, false) }) (v := ?_) rfl (by kernel_rfl) (by kernel_rfl) (by kernel_rfl) (fun _ _ _ h => h) (Or.inl ⟨by rfl, ?_⟩) (by assumption) ?_
              rotate_left
              · (intro w hSw; (try dsimp only at hSw); go_simp; try with_reducible rfl)
              try simp only [Act.put, List.setIfInBounds_toArray, List.set_cons_zero, List.set_cons_succ]
              refine wpAnyH_ready (rs := [14]) (by kernel_rfl) (by simp) ?_
              refine AllReadyH.cons (o := { dst := some 82, op := Op.call { callee := Callee.value (Operand.func 14), args := #[Operand.tmp 79, Operand.tmp 81], argTypes := #[9, 9] }, type := 4, pos := "law.go:106", after := #[{ on := 11, ground := Ground.data }, { on := 13, ground := Ground.data }, { on := 10, ground := Ground.chain }, { on := 10, ground := Ground.guard }], guard := some (10, false) }) rfl (fun K hK => ?_) AllReadyH.nil
              go_simp
              (go_at_call 14; refine (cT _).mono ?_; rintro e w8 ⟨rfl, hb8⟩; go_simp)
              refine hK.out _ _ ?_ (fun hHeld2 => ?_)
              · (try dsimp only); first | assumption | exact FoundS.keep (by assumption) (by assumption) | exact FoundS.drew (by assumption) | exact FoundS.drew (FoundS.keep (by assumption) (by assumption))
              clear hK K
              try simp only [Act.put, List.setIfInBounds_toArray, List.set_cons_zero, List.set_cons_succ]
              refine wpAnyH_take (i := 15) (oi := { dst := some 83, op := Op.unOp UnOp.not 4 (Operand.tmp 82), type := 4, pos := "law.go:106", after := #[{ on := 14, ground := Ground.data }, { on := 10, ground := Ground.guard }], guard := some (10, false) }) (v := ?_) rfl (by kernel_rfl) (by kernel_rfl) (by kernel_rfl) (fun _ _ _ h => h) (Or.inl ⟨by rfl, ?_⟩) (by assumption) ?_
              rotate_left
              · (intro w hSw; (try dsimp only at hSw); go_simp; try with_reducible rfl)
              try simp only [Act.put, List.setIfInBounds_toArray, List.set_cons_zero, List.set_cons_succ]
              refine wpAnyH_take (i := 16) (oi := { dst := some 84, op := Op.pick (Operand.tmp 78) (Operand.const (Value.bool true)) (Operand.tmp 83), type := 4, pos := "law.go:106", after := #[{ on := 10, ground := Ground.data }, { on := 15, ground := Ground.data }], guard := none }) (v := ?_) rfl (by kernel_rfl) (by kernel_rfl) (by kernel_rfl) (fun _ _ _ h => h) (Or.inl ⟨by rfl, ?_⟩) (by assumption) ?_
              rotate_left
              · (intro w hSw; (try dsimp only at hSw); go_simp; try with_reducible rfl)
              try simp only [Act.put, List.setIfInBounds_toArray, List.set_cons_zero, List.set_cons_succ]
              refine wpAnyH_take (i := 17) (oi := { dst := some 85, op := Op.move (Operand.tmp 84), type := 4, pos := "law.go:106", after := #[{ on := 16, ground := Ground.data }, { on := 14, ground := Ground.chain }], guard := none }) (v := ?_) rfl (by kernel_rfl) (by kernel_rfl) (by kernel_rfl) (fun _ _ _ h => h) (Or.inl ⟨by rfl, ?_⟩) (by assumption) ?_
              rotate_left
              · (intro w hSw; (try dsimp only at hSw); go_simp; try with_reducible rfl)
              try simp only [Act.put, List.setIfInBounds_toArray, List.set_cons_zero, List.set_cons_succ]
              refine wpAnyH_take (i := 18) (oi := { dst := some 86, op := Op.move (Operand.tmp 10), type := 3, pos := "law.go:106", after := #[{ on := 17, ground := Ground.guard }], guard := some (17, false) }) (v := ?_) rfl (by kernel_rfl) (by kernel_rfl) (by kernel_rfl) (fun _ _ _ h => h) (Or.inl ⟨by rfl, ?_⟩) (by assumption) ?_
              rotate_left
              · (intro w hSw; (try dsimp only at hSw); go_simp; try with_reducible rfl)
              try simp only [Act.put, List.setIfInBounds_toArray, List.set_cons_zero, List.set_cons_succ]
              refine wpAnyH_take (i := 19) (oi := { dst := some 87, op := Op.binOp BinOp.gtr 3 (Operand.tmp 86) (Operand.const (Value.int IntKind.i64 0)) 3, type := 4, pos := "law.go:106", after := #[{ on := 18, ground := Ground.data }, { on := 17, ground := Ground.guard }], guard := some (17, false) }) (v := ?_) rfl (by kernel_rfl) (by kernel_rfl) (by kernel_rfl) (fun _ _ _ h => h) (Or.inl ⟨by rfl, ?_⟩) (by assumption) ?_
              rotate_left
              · (intro w hSw; (try dsimp only at hSw); go_simp; try with_reducible rfl)
              try simp only [Act.put, List.setIfInBounds_toArray, List.set_cons_zero, List.set_cons_succ]
              refine wpAnyH_take (i := 20) (oi := { dst := some 88, op := Op.move (Operand.tmp 87), type := 4, pos := "law.go:106", after := #[{ on := 19, ground := Ground.data }, { on := 17, ground := Ground.chain }, { on := 17, ground := Ground.guard }], guard := some (17, false) }) (v := ?_) rfl (by kernel_rfl) (by kernel_rfl) (by kernel_rfl) (fun _ _ _ h => h) (Or.inl ⟨by rfl, ?_⟩) (by assumption) ?_
              rotate_left
              · (intro w hSw; (try dsimp only at hSw); go_simp; try with_reducible rfl)
              try simp only [Act.put, List.setIfInBounds_toArray, List.set_cons_zero, List.set_cons_succ]
              refine wpAnyH_take (i := 21) (oi := { dst := some 89, op := Op.move (Operand.tmp 7), type := 22, pos := "law.go:106", after := #[{ on := 20, ground := Ground.guard }], guard := some (20, true) }) (v := undef) rfl (by kernel_rfl) (by kernel_rfl) (by kernel_rfl) (fun _ _ _ h => h) (Or.inr ⟨by rfl, rfl⟩) (by assumption) ?_
              try simp only [Act.put, List.setIfInBounds_toArray, List.set_cons_zero, List.set_cons_succ]
              refine wpAnyH_take (i := 22) (oi := { dst := some 90, op := Op.move (Operand.tmp 10), type := 3, pos := "law.go:106", after := #[{ on := 20, ground := Ground.guard }], guard := some (20, true) }) (v := undef) rfl (by kernel_rfl) (by kernel_rfl) (by kernel_rfl) (fun _ _ _ h => h) (Or.inr ⟨by rfl, rfl⟩) (by assumption) ?_
              try simp only [Act.put, List.setIfInBounds_toArray, List.set_cons_zero, List.set_cons_succ]
              refine wpAnyH_take (i := 23) (oi := { dst := some 91, op := Op.indexAddr 22 (Operand.tmp 89) (Operand.tmp 90), type := 0, pos := "law.go:106", after := #[{ on := 21, ground := Ground.data }, { on := 22, ground := Ground.data }, { on := 20, ground := Ground.guard }], guard := some (20, true) }) (v := undef) rfl (by kernel_rfl) (by kernel_rfl) (by kernel_rfl) (fun _ _ _ h => h) (Or.inr ⟨by rfl, rfl⟩) (by assumption) ?_
              try simp only [Act.put, List.setIfInBounds_toArray, List.set_cons_zero, List.set_cons_succ]
              refine wpAnyH_take (i := 24) (oi := { dst := some 92, op := Op.fieldAddr 27 (Operand.tmp 91) 0, type := 0, pos := "law.go:106", after := #[{ on := 23, ground := Ground.data }, { on := 20, ground := Ground.guard }], guard := some (20, true) }) (v := undef) rfl (by kernel_rfl) (by kernel_rfl) (by kernel_rfl) (fun _ _ _ h => h) (Or.inr ⟨by rfl, rfl⟩) (by assumption) ?_
              try simp only [Act.put, List.setIfInBounds_toArray, List.set_cons_zero, List.set_cons_succ]
              refine wpAnyH_take (i := 25) (oi := { dst := some 93, op := Op.load 9 (Operand.tmp 92), type := 9, pos := "law.go:106", after := #[{ on := 24, ground := Ground.data }, { on := 20, ground := Ground.guard }], guard := some (20, true) }) (v := undef) rfl (by kernel_rfl) (by kernel_rfl) (by kernel_rfl) (fun _ _ _ h => h) (Or.inr ⟨by rfl, rfl⟩) (by assumption) ?_
              try simp only [Act.put, List.setIfInBounds_toArray, List.set_cons_zero, List.set_cons_succ]
              refine wpAnyH_take (i := 26) (oi := { dst := some 94, op := Op.move (Operand.tmp 7), type := 22, pos := "law.go:106", after := #[{ on := 20, ground := Ground.guard }], guard := some (20, true) }) (v := undef) rfl (by kernel_rfl) (by kernel_rfl) (by kernel_rfl) (fun _ _ _ h => h) (Or.inr ⟨by rfl, rfl⟩) (by assumption) ?_
              try simp only [Act.put, List.setIfInBounds_toArray, List.set_cons_zero, List.set_cons_succ]
              refine wpAnyH_take (i := 27) (oi := { dst := some 95, op := Op.move (Operand.tmp 10), type := 3, pos := "law.go:106", after := #[{ on := 20, ground := Ground.guard }], guard := some (20, true) }) (v := undef) rfl (by kernel_rfl) (by kernel_rfl) (by kernel_rfl) (fun _ _ _ h => h) (Or.inr ⟨by rfl, rfl⟩) (by assumption) ?_
              try simp only [Act.put, List.setIfInBounds_toArray, List.set_cons_zero, List.set_cons_succ]
              refine wpAnyH_take (i := 28) (oi := { dst := some 96, op := Op.binOp BinOp.sub 3 (Operand.tmp 95) (Operand.const (Value.int IntKind.i64 1)) 3, type := 3, pos := "law.go:106", after := #[{ on := 27, ground := Ground.data }, { on := 20, ground := Ground.guard }], guard := some (20, true) }) (v := undef) rfl (by kernel_rfl) (by kernel_rfl) (by kernel_rfl) (fun _ _ _ h => h) (Or.inr ⟨by rfl, rfl⟩) (by assumption) ?_
              try simp only [Act.put, List.setIfInBounds_toArray, List.set_cons_zero, List.set_cons_succ]
              refine wpAnyH_take (i := 29) (oi := { dst := some 97, op := Op.indexAddr 22 (Operand.tmp 94) (Operand.tmp 96), type := 0, pos := "law.go:106", after := #[{ on := 26, ground := Ground.data }, { on := 28, ground := Ground.data }, { on := 20, ground := Ground.guard }], guard := some (20, true) }) (v := undef) rfl (by kernel_rfl) (by kernel_rfl) (by kernel_rfl) (fun _ _ _ h => h) (Or.inr ⟨by rfl, rfl⟩) (by assumption) ?_
              try simp only [Act.put, List.setIfInBounds_toArray, List.set_cons_zero, List.set_cons_succ]
              refine wpAnyH_take (i := 30) (oi := { dst := some 98, op := Op.fieldAddr 27 (Operand.tmp 97) 0, type := 0, pos := "law.go:106", after := #[{ on := 29, ground := Ground.data }, { on := 20, ground := Ground.guard }], guard := some (20, true) }) (v := undef) rfl (by kernel_rfl) (by kernel_rfl) (by kernel_rfl) (fun _ _ _ h => h) (Or.inr ⟨by rfl, rfl⟩) (by assumption) ?_
              try simp only [Act.put, List.setIfInBounds_toArray, List.set_cons_zero, List.set_cons_succ]
              refine wpAnyH_take (i := 31) (oi := { dst := some 99, op := Op.load 9 (Operand.tmp 98), type := 9, pos := "law.go:106", after := #[{ on := 30, ground := Ground.data }, { on := 20, ground := Ground.guard }], guard := some (20, true) }) (v := undef) rfl (by kernel_rfl) (by kernel_rfl) (by kernel_rfl) (fun _ _ _ h => h) (Or.inr ⟨by rfl, rfl⟩) (by assumption) ?_
              try simp only [Act.put, List.setIfInBounds_toArray, List.set_cons_zero, List.set_cons_succ]
              refine wpAnyH_take (i := 32) (oi := { dst := some 100, op := Op.binOp BinOp.leq 9 (Operand.tmp 93) (Operand.tmp 99) 9, type := 4, pos := "law.go:106", after := #[{ on := 25, ground := Ground.data }, { on := 31, ground := Ground.data }, { on := 20, ground := Ground.guard }], guard := some (20, true) }) (v := undef) rfl (by kernel_rfl) (by kernel_rfl) (by kernel_rfl) (fun _ _ _ h => h) (Or.inr ⟨by rfl, rfl⟩) (by assumption) ?_
              try simp only [Act.put, List.setIfInBounds_toArray, List.set_cons_zero, List.set_cons_succ]
              refine wpAnyH_take (i := 33) (oi := { dst := some 101, op := Op.pick (Operand.tmp 88) (Operand.tmp 100) (Operand.const (Value.bool false)), type := 4, pos := "law.go:106", after := #[{ on := 20, ground := Ground.data }, { on := 32, ground := Ground.data }, { on := 17, ground := Ground.guard }], guard := some (17, false) }) (v := ?_) rfl (by kernel_rfl) (by kernel_rfl) (by kernel_rfl) (fun _ _ _ h => h) (Or.inl ⟨by rfl, ?_⟩) (by assumption) ?_
              rotate_left
              · (intro w hSw; (try dsimp only at hSw); go_simp; try with_reducible rfl)
              try simp only [Act.put, List.setIfInBounds_toArray, List.set_cons_zero, List.set_cons_succ]
              refine wpAnyH_take (i := 34) (oi := { dst := some 102, op := Op.pick (Operand.tmp 85) (Operand.const (Value.bool true)) (Operand.tmp 101), type := 4, pos := "law.go:106", after := #[{ on := 17, ground := Ground.data }, { on := 33, ground := Ground.data }], guard := none }) (v := ?_) rfl (by kernel_rfl) (by kernel_rfl) (by kernel_rfl) (fun _ _ _ h => h) (Or.inl ⟨by rfl, ?_⟩) (by assumption) ?_
              rotate_left
              · (intro w hSw; (try dsimp only at hSw); go_simp; try with_reducible rfl)
              try simp only [Act.put, List.setIfInBounds_toArray, List.set_cons_zero, List.set_cons_succ]
              refine wpAnyH_done (by kernel_rfl) ?_ _
              have H8 := Lib.hid hHeld2
              clear hS hHeld hHeld2 hb8
              go_wp2
              go_roundg gk
              case measure => omega
              case rel =>
                have hB8 := HB.out.trans (H8.out.1.mono HB.out.size)
                exact ⟨i + 1, by first | rfl | (rw [hs1]), by omega, HKx.out.below hB8, Kd.R_below HX.out hB8, hBx.trans (hB8.mono hBx.size)⟩
      | succ gk =>
        have hi : i < l.length := by omega
        have hlt1 : decide ((i : Int) < (l.length : Int)) = true := decide_eq_true (by omega)
        have hC := Kd.C_below HC.out hBr
        obtain ⟨ad, eA, -⟩ := cells_any hC i hi
        subst eA
        obtain ⟨k0, k1, k2, k3⟩ := cells_some hC i hi
        have p0 : ((0 : Int) ≤ (i : Int)) = True := eq_true (by omega)
        have p1 : ((i : Int) < (l.length : Int)) = True := eq_true (by omega)
        have hs1 : IntKind.i64.wrap ((i : Int) + 1) = ((i + 1 : Nat) : Int) := by rw [IntWalk.i64_in _ (by have := HF.out.1; omega)]; rfl
        have hm := HF.out.2 _ (rd_mem l i hi)
        have HTM := Lib.hid (fun x => @take_mem l i hi x)
        obtain ⟨m, hmm⟩ : ∃ m, rd_T27 l (i : Int) = m := ⟨_, rfl⟩
        rw [hmm] at k0 k1 k2 k3 hm HTM
        have HS := Lib.hid hKr.srt
        have hok : okS m.f0 := by unfold okS maxLen; omega
        have cP := put_calls wr (mb + 1) mb st m (HLd.out.below hBr) hKr hok
        unfold msgV PutPost at cP
        have HG := Lib.hid (And.intro hG (And.intro hsl hms))
        clear hmm hC hm hKr hG hsl hms
        go_wp2_with (go_at_call 9; refine cP.mono ?_; rintro e w4 ⟨rfl, hg4, hK4⟩; have hB4 := hBr.grown hg4 hBr.size (fun k e => by injection e with e; have := HN.out; omega))
        go_roundg gk
        case measure => omega
        case rel =>
          refine ⟨i + 1, _, by first | rfl | (rw [hs1]), by omega, hK4, Good.put HS.out HG.out.1 m, by have := putF_len st m; have := HG.out.2.1; omega, fun x hx => ?_, hB4⟩
          rcases putF_mem HS.out hx with rfl | hx
          · exact (HTM.out _).2 (.inr rfl)
          · exact (HTM.out _).2 (.inl (HG.out.2.2 x hx))
end Go.Proofs.YtdchcdagjnaicaaDoor.Rt
