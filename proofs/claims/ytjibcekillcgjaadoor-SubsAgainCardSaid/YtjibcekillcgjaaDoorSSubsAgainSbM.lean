/- What the proof of SubsAgain leans on: SbM. -/
import Derived.Test.YtjibcekillcgjaaDoorSSubsAgainSbO
set_option linter.unusedVariables false
set_option linter.unusedSimpArgs false
namespace Go.Proofs.YtjibcekillcgjaaDoor.Sb
open Go Go.RowKit Go.ChangeMaps Go.MapKept Go.Proofs.YtjibcekillcgjaaDoorW.PrintWords Go.Proofs.YtjibcekillcgjaaDoor.Q Go.Proofs.YtjibcekillcgjaaDoor.Mp Go.Proofs.YtjibcekillcgjaaDoor.Top Go.Proofs.YtjibcekillcgjaaDoor.Fm
theorem of_last {w : World} {base : Nat} {ok : Nat → Prop} {v : Value} {O : List SubT} {f : ByteArray} {b : Int} {m : Nat} (hR : Kd.R k33 33 w base ok v (O ++ [⟨f, b⟩])) (hm : m = O.length) : ∃ ad c, v = .slice (some ad) (m + 1) c ∧ w.cell? (ad.add (m * 2)) = some (.string f) ∧ w.cell? ⟨(ad.add (m * 2)).block, (ad.add (m * 2)).off + 1, none⟩ = some (.int .i64 b) := by
  obtain ⟨A7, c, e7⟩ := Kd.R_slice hR
  have hl : (O ++ [(⟨f, b⟩ : SubT)]).length = m + 1 := by rw [List.length_append, hm]; rfl
  subst e7
  have hC7 := (Kd.R_reads' hR).2.2
  rw [hl] at hC7 ⊢
  have hrd : rd_T33 (O ++ [(⟨f, b⟩ : SubT)]) (m : Int) = ⟨f, b⟩ := by
    unfold rd_T33
    rw [Int.toNat_natCast, hm, List.getD_eq_getElem?_getD, List.getElem?_append_right (Nat.le_refl _), Nat.sub_self]
    rfl
  obtain ⟨ad7, eA7, z0, z1⟩ := at_T33 hC7 (m : Int) (by omega) (by omega)
  rw [hrd, Int.toNat_natCast] at z0 z1
  subst eA7
  exact ⟨ad7, c, rfl, z0, z1⟩
def AgainRel (w : World) (xb mb yb nb : Nat) (l : List OpT) (k : Key) (gk : Nat) (v13 : Value) (wx : World) : Prop :=
  ∃ (i : Nat) (es : List Ent) (n : Int), v13 = .int .i64 i ∧ i + gk = l.length ∧ IAt wx xb mb es n ∧ IAt wx yb nb es n ∧ Okay es n i ∧ (∀ p ∈ es, p.1 ≠ k) ∧ Below w.heap.size w wx
set_option maxHeartbeats 8000000 in
set_option maxRecDepth 1000000 in
theorem again_calls (A : Option Addr) (cp : Nat) (l : List OpT) (c f : ByteArray) (a b : Int) (w : World) (hL : Laid w) (hr : Kd.C k28 w A l.length l) (hc : l.length ≤ cp) :
    Calls Tryd.prog 3 #[.slice A l.length cp, .string c, .string f, .int .i64 a, .int .i64 b] w fun e w' => e = .returned (.bool true) ∧ Below w.heap.size w w' := by
  have cF := few_calls A cp l w hr hc
  have cI := fun W => filter12_calls f W
  cases hf : fewO l
  · rw [hf] at cF
    clear hf hL hr hc cI
    go_enter Tryd.func3, Tryd.ntmps3
    go_wp2_with (go_at_call 7; refine cF.mono ?_; rintro e w1 ⟨rfl, hb1⟩)
    go_ret
    exact ⟨rfl, hb1⟩
  rw [hf] at cF
  by_cases d1 : 100 < c.size
  · clear hf hL hr hc cI
    have ed1 : decide ((100 : Int) < (c.size : Int)) = true := decide_eq_true (by omega)
    go_enter Tryd.func3, Tryd.ntmps3
    go_wp2_with (go_at_call 7; refine cF.mono ?_; rintro e w1 ⟨rfl, hb1⟩)
    go_ret
    exact ⟨rfl, hb1⟩
  have ed1 : decide ((100 : Int) < (c.size : Int)) = false := decide_eq_false (by omega)
  have fd1 : (100 < c.size) = False := eq_false d1
  by_cases d2 : 100 < f.size
  · clear hf hL hr hc cI
    have ed2 : decide ((100 : Int) < (f.size : Int)) = true := decide_eq_true (by omega)
    go_enter Tryd.func3, Tryd.ntmps3
    go_wp2_with (go_at_call 7; refine cF.mono ?_; rintro e w1 ⟨rfl, hb1⟩)
    go_ret
    exact ⟨rfl, hb1⟩
  have ed2 : decide ((100 : Int) < (f.size : Int)) = false := decide_eq_false (by omega)
  have fd2 : (100 < f.size) = False := eq_false d2
  cases hif : isFilter f
  · rw [hif] at cI
    clear hf hL hr hc hif
    go_enter Tryd.func3, Tryd.ntmps3
    go_wp2_with (first
      | (go_at_call 7; refine cF.mono ?_; rintro e w1 ⟨rfl, hb1⟩)
      | (go_at_call 8; refine (cI _).mono ?_; rintro e w2 ⟨rfl, hb2⟩))
    go_ret
    exact ⟨rfl, hb1.trans (hb2.mono hb1.size)⟩
  rw [hif] at cI
  cases a0 : decide (a < 0)
  rotate_left
  · clear hf hL hr hc hif
    go_enter Tryd.func3, Tryd.ntmps3
    go_wp2_with (first
      | (go_at_call 7; refine cF.mono ?_; rintro e w1 ⟨rfl, hb1⟩)
      | (go_at_call 8; refine (cI _).mono ?_; rintro e w2 ⟨rfl, hb2⟩))
    go_ret
    exact ⟨rfl, hb1.trans (hb2.mono hb1.size)⟩
  cases a2 : decide (a > 2)
  rotate_left
  · clear hf hL hr hc hif
    go_enter Tryd.func3, Tryd.ntmps3
    go_wp2_with (first
      | (go_at_call 7; refine cF.mono ?_; rintro e w1 ⟨rfl, hb1⟩)
      | (go_at_call 8; refine (cI _).mono ?_; rintro e w2 ⟨rfl, hb2⟩))
    go_ret
    exact ⟨rfl, hb1.trans (hb2.mono hb1.size)⟩
  cases b0 : decide (b < 0)
  rotate_left
  · clear hf hL hr hc hif
    go_enter Tryd.func3, Tryd.ntmps3
    go_wp2_with (first
      | (go_at_call 7; refine cF.mono ?_; rintro e w1 ⟨rfl, hb1⟩)
      | (go_at_call 8; refine (cI _).mono ?_; rintro e w2 ⟨rfl, hb2⟩))
    go_ret
    exact ⟨rfl, hb1.trans (hb2.mono hb1.size)⟩
  cases b2 : decide (b > 2)
  rotate_left
  · clear hf hL hr hc hif
    go_enter Tryd.func3, Tryd.ntmps3
    go_wp2_with (first
      | (go_at_call 7; refine cF.mono ?_; rintro e w1 ⟨rfl, hb1⟩)
      | (go_at_call 8; refine (cI _).mono ?_; rintro e w2 ⟨rfl, hb2⟩))
    go_ret
    exact ⟨rfl, hb1.trans (hb2.mono hb1.size)⟩
  obtain ⟨hl, hsz⟩ := few_all hf
  have ga : goodB (c, f) a = true := goodB_iff.2 ⟨hif, by have := of_decide_eq_false a0; omega, by have := of_decide_eq_false a2; omega⟩
  have gb : goodB (c, f) b = true := goodB_iff.2 ⟨hif, by have := of_decide_eq_false b0; omega, by have := of_decide_eq_false b2; omega⟩
  have HF := Lib.hid (And.intro hl (And.intro hsz (And.intro ga (And.intro gb (And.intro hif (show okK (c, f) by unfold okK maxLen; exact ⟨by show c.size ≤ _; omega, by show f.size ≤ _; omega⟩))))))
  have HC := Lib.hid hr
  have HLd := Lib.hid hL
  clear hf hL hr hl hsz hc hif ga gb d1 d2
  have cN := fun W => new_calls W
  go_enter Tryd.func3, Tryd.ntmps3
  go_wp2_with (first
    | (go_at_call 7; refine cF.mono ?_; rintro e w1 ⟨rfl, hb1⟩; clear cF)
    | (go_at_call 8; refine (cI w1).mono ?_; rintro e w2 ⟨rfl, hb2⟩; have hB2 := hb1.trans (hb2.mono hb1.size); clear cI)
    | (go_at_call 9; first
        | (refine (cN w2).mono ?_; rintro e w3 ⟨rfl, hI3, hb3⟩; have hB3 := hB2.trans (hb3.mono hB2.size); clear hb2)
        | (refine (cN w3).mono ?_; rintro e w4 ⟨rfl, hJ4, hb4⟩; have hB4 := hB3.trans (hb4.mono hB3.size); have hI4 := hI3.below hb4)))
  have hxl := hI3.lt
  have hb3s := hb3.size
  have hW : w.heap.size ≤ w2.heap.size := hB2.size
  obtain ⟨mb, hmb⟩ : ∃ x, x = w2.heap.size := ⟨_, rfl⟩
  obtain ⟨nb, hnb⟩ : ∃ x, x = w3.heap.size := ⟨_, rfl⟩
  rw [← hmb] at hI4 hxl hW ⊢
  rw [← hnb] at hJ4 hxl ⊢
  have HN := Lib.hid (And.intro hW (show mb + 1 < nb by omega))
  clear hxl hb3s hW hmb hnb hb1 hb3 hb4 hB2 hB3 hI3 cN a0 a2 b0 b2 ed1 fd1 ed2 fd2
  go_loopg [13] l.length (fun gk v13 wx => AgainRel w (mb + 1) mb (nb + 1) nb l (c, f) gk v13 wx)
  case atStart => exact ⟨0, [], 0, rfl, by omega, hI4, hJ4, Okay.nil, fun p hp => by simp at hp, hB4⟩
  case round =>
    obtain ⟨i, es, n, rfl, hig, hI, hJ, hO, hne, hB⟩ := hrel
    clear hI4 hJ4 hB4
    cases gk with
    | zero =>
      have hi : i = l.length := by omega
      have hnl : (i < l.length) = False := eq_false (by omega)
      have hlt1 : decide ((i : Int) < (l.length : Int)) = false := decide_eq_false (by omega)
      have hg := getL_none' hne
      have ea : addF es n (c, f) a = es ++ [((c, f), (a, n + 1))] ∧ addN es n (c, f) a = n + 1 ∧ addB es (c, f) a = false ∧ addE (c, f) a = 0 := by
        unfold addF addN addB addE
        rw [if_pos HF.out.2.2.1, if_pos HF.out.2.2.1, hg, if_pos HF.out.2.2.2.2.1, if_neg (by decide), if_neg (by decide)]
        refine ⟨rfl, rfl, Bool.and_false _, ?_⟩
        have h3 := HF.out.2.2.1
        unfold goodB at h3
        rw [Bool.and_eq_true, Bool.not_eq_true'] at h3
        rw [h3.2]
        rfl
      have hg2 := new_key hne (a, n + 1)
      have eb : addF (es ++ [((c, f), (a, n + 1))]) (n + 1) (c, f) b = es ++ [((c, f), (b, n + 1))] ∧ addN (es ++ [((c, f), (a, n + 1))]) (n + 1) (c, f) b = n + 1 ∧ addB (es ++ [((c, f), (a, n + 1))]) (c, f) b = true ∧ addE (c, f) b = 0 := by
        unfold addF addN addB addE
        rw [if_pos HF.out.2.2.2.1, if_pos HF.out.2.2.2.1, hg2, if_pos HF.out.2.2.2.2.1, if_pos (show (some (a, n + 1)).isSome = true from rfl), if_pos (show (some (a, n + 1)).isSome = true from rfl)]
        refine ⟨set_key hne a b (n + 1), rfl, by rw [HF.out.2.2.2.1]; rfl, ?_⟩
        have h3 := HF.out.2.2.2.1
        unfold goodB at h3
        rw [Bool.and_eq_true, Bool.not_eq_true'] at h3
        rw [h3.2]
        rfl
      have hg3 := new_key hne (b, n + 1)
      have ed : dropB (es ++ [((c, f), (b, n + 1))]) (c, f) = true ∧ dropE (c, f) = 0 ∧ dropF (es ++ [((c, f), (b, n + 1))]) (c, f) = es := by
        unfold dropB dropE dropF
        rw [if_pos HF.out.2.2.2.2.1, if_pos HF.out.2.2.2.2.1, hg3, HF.out.2.2.2.2.1]
        exact ⟨rfl, rfl, del_key hne _⟩
      have eo := of_app es (c, f) (b, n + 1)
      have hlen : (es ++ [((c, f), (b, n + 1))]).length ≤ 1000 := by rw [List.length_append]; have := hO.len; have := HF.out.1; simp; omega
      have hlen0 : es.length ≤ 1000 := by have := hO.len; have := HF.out.1; omega
      have hn0 := hO.n0
      have hn1 := hO.n1
      have hl1 := HF.out.1
      have c1 := add_calls wr (mb + 1) mb es n (c, f) a (HLd.out.below hB) hI HF.out.2.2.2.2.2 hn0 (by omega)
      have c2 := fun W (hb : Below w.heap.size w W) hK => add_calls W (mb + 1) mb (es ++ [((c, f), (a, n + 1))]) (n + 1) (c, f) b (HLd.out.below hb) hK HF.out.2.2.2.2.2 (by omega) (by omega)
      have c3 := fun W hK => of_calls W (mb + 1) mb (es ++ [((c, f), (b, n + 1))]) (n + 1) c hK (by omega)
      have c4 := fun W (hb : Below w.heap.size w W) hK => drop_calls W (mb + 1) mb (es ++ [((c, f), (b, n + 1))]) (n + 1) (c, f) (HLd.out.below hb) hK HF.out.2.2.2.2.2
      have c5 := fun W hK => of_calls W (mb + 1) mb es (n + 1) c hK (by omega)
      have c6 := fun W hK => of_calls W (nb + 1) nb es n c hK (by omega)
      have cW := fun W (hb : Below w.heap.size w W) => awake_calls W (HLd.out.below hb)
      unfold AddPost at c1 c2
      unfold DropPost at c4
      rw [ea.1, ea.2.1, ea.2.2.1, ea.2.2.2] at c1
      rw [eb.1, eb.2.1, eb.2.2.1, eb.2.2.2] at c2
      rw [show ofF (es ++ [((c, f), (b, n + 1))]) c = ofF es c ++ [⟨f, b⟩] from eo] at c3
      rw [ed.1, ed.2.1, ed.2.2] at c4
      have hol := of_len es c
      obtain ⟨O, hOe⟩ : ∃ x, x = ofF es c := ⟨_, rfl⟩
      rw [← hOe] at c3 c5 c6 hol
      obtain ⟨m, hm⟩ : ∃ m, m = O.length := ⟨_, rfl⟩
      have HOl := Lib.hid (And.intro hm (And.intro (show m ≤ 1000 by omega) (And.intro hI.lt hJ.lt)))
      clear hg ea hg2 eb hg3 ed eo hlen hlen0 hn0 hn1 hl1 hO hne hI hOe hm hol hig hi
      go_wp2_with (first
        | (go_at_call 10; first
            | (refine c1.mono ?_; rintro e w5 ⟨rfl, hf5, hI5⟩; have hn6 := HN.out; have hB5 := hf5.far hB hB.size (XB_le (by omega) (by omega)); have hJ5 := hJ.frm hf5 (by rintro (e | e) <;> omega) (by rintro (e | e) <;> omega); clear hf5 hB hJ c1)
            | (refine (c2 _ hB5 hI5).mono ?_; rintro e w6 ⟨rfl, hf6, hI6⟩; have hn6 := HN.out; have hB6 := hf6.far hB5 hB5.size (XB_le (by omega) (by omega)); have hJ6 := hJ5.frm hf6 (by rintro (e | e) <;> omega) (by rintro (e | e) <;> omega); clear hf6 hB5 hJ5 hI5 c2))
        | (go_at_call 11; first
            | (refine (c3 _ hI6).mono ?_; rintro e w7 ⟨v7, rfl, hR7, hb7⟩; have hB7 := hB6.trans (hb7.mono hB6.size); have hJ7 := hJ6.below hb7; have hI7 := hI6.below hb7; obtain ⟨ad7, cp7, rfl, z0, z1⟩ := of_last hR7 HOl.out.1; have hmb := HOl.out.2.1; have p0 : ((0 : Int) ≤ (m : Int)) = True := eq_true (by omega); have p1 : ((m : Int) < ((m + 1 : Nat) : Int)) = True := eq_true (by omega); have p2 : (m < m + 1) = True := eq_true (by omega); clear hb7 hB6 hJ6 hI6 c3)
            | (refine (c5 _ hI8).mono ?_; rintro e w9 ⟨v9, rfl, hR9, hb9⟩; have hB9 := hB8.trans (hb9.mono hB8.size); have hJ9 := hJ8.below hb9; obtain ⟨A9, cp9, rfl⟩ := Kd.R_slice hR9; clear hb9 hB8 hJ8 hI8 c5)
            | (refine (c6 _ hJ9).mono ?_; rintro e w10 ⟨v10, rfl, hR10, hb10⟩; have hB10 := hB9.trans (hb10.mono hB9.size); have hR9b := Kd.R_below hR9 hb10; obtain ⟨A10, cp10, rfl⟩ := Kd.R_slice hR10; clear hb10 hB9 hJ9 hR9 c6))
        | (go_at_call 12; refine (c4 _ hB7 hI7).mono ?_; rintro e w8 ⟨rfl, hf8, hI8⟩; have hn8 := HN.out; have hB8 := hf8.far hB7 hB7.size (XB_le (by omega) (by omega)); have hJ8 := hJ7.frm hf8 (by rintro (e | e) <;> omega) (by rintro (e | e) <;> omega); clear hf8 hB7 hJ7 hI7 c4)
        | (go_at_call 13; refine (cW _ hB10).mono ?_; rintro e w11 ⟨rfl, hb11⟩; have hB11 := hB10.trans (hb11.mono hB10.size); have hR9c := Kd.R_below hR9b hb11; have hR10c := Kd.R_below hR10 hb11; clear hb11 hB10 hR9b hR10)
        | (go_at_call 14; refine (subs_calls O A9 A10 cp9 cp10 _ (Kd.R_reads' hR9c).2.2 (Kd.R_reads' hR9c).2.1 (Kd.R_reads' hR10c).2.2 (Kd.R_reads' hR10c).2.1 (by have h1 := HOl.out.1; have h2 := HOl.out.2.1; omega)).mono ?_; rintro e w12 ⟨rfl, hb12⟩))
      go_ret
      exact ⟨rfl, hB11.trans (hb12.mono hB11.size)⟩
    | succ gk =>
      have hi : i < l.length := by omega
      have hlt1 : decide ((i : Int) < (l.length : Int)) = true := decide_eq_true (by omega)
      have hC := Kd.C_below HC.out hB
      obtain ⟨ad, eA, k0, k1, k2, k3⟩ := cells_O hC i hi
      subst eA
      have p0 : ((0 : Int) ≤ (i : Int)) = True := eq_true (by omega)
      have p1 : ((i : Int) < (l.length : Int)) = True := eq_true (by omega)
      have hs1 : IntKind.i64.wrap ((i : Int) + 1) = ((i + 1 : Nat) : Int) := by rw [IntWalk.i64_in _ (by have := HF.out.1; omega)]; rfl
      have hm := HF.out.2.1 _ (rd_mem l i hi)
      obtain ⟨m, hmm⟩ : ∃ m, rd_T28 l (i : Int) = m := ⟨_, rfl⟩
      rw [hmm] at k0 k1 k2 k3 hm
      have hB5 := hB.alloc hB.size (.cells #[.int .i64 m.f0, .string m.f1, .string m.f2, .int .i64 m.f3] 28 (0, 0))
      have hal := (Below.refl wr.heap.size wr).alloc (Nat.le_refl _) (.cells #[.int .i64 m.f0, .string m.f1, .string m.f2, .int .i64 m.f3] 28 (0, 0))
      have hk5 := blk_new wr (.cells #[.int .i64 m.f0, .string m.f1, .string m.f2, .int .i64 m.f3] 28 (0, 0))
      have hI5 := hI.below hal
      have hJ5 := hJ.below hal
      have hxl := hI.lt
      have hyl := hJ.lt
      have okm : okK (m.f1, m.f2) := by unfold okK maxLen; exact ⟨by show m.f1.size ≤ _; omega, by show m.f2.size ≤ _; omega⟩
      have HM := Lib.hid (And.intro okm (And.intro hO (And.intro hne (And.intro hk5 (And.intro hI5 (And.intro hJ5 (And.intro hB5 (And.intro hxl hyl))))))))
      clear hmm hC hm hal hk5 hI5 hJ5 hB5 hxl hyl okm hO hne hI hJ hB
      cases he : (m.f1.toList == c.toList)
      rotate_left
      · cases he2 : (m.f2.toList == f.toList)
        rotate_left
        · go_wp2
          go_roundg gk
          case measure => omega
          case rel =>
            obtain ⟨okm, hO, hne, hk5, hI5, hJ5, hB5, hxl, hyl⟩ := HM.out
            exact ⟨i + 1, es, n, by first | rfl | (rw [hs1]), by omega, hI5, hJ5, hO.mono (Nat.le_succ i), hne, hB5⟩
        · have hkn : ((m.f1, m.f2) : Key) ≠ (c, f) := fun e => by
            injection e with e1 e2
            rw [e2] at he2
            simp at he2
          obtain ⟨okm, hO, hne, hk5, hI5, hJ5, hB5, hxl, hyl⟩ := HM.out
          have hn1 := hO.n1
          have hl1 := HF.out.1
          have c1 := add_calls _ (mb + 1) mb es n (m.f1, m.f2) m.f3 (HLd.out.below hB5) hI5 okm hO.n0 (by omega)
          have c2 := fun W (hb : Below w.heap.size w W) hK => add_calls W (nb + 1) nb es n (m.f1, m.f2) m.f3 (HLd.out.below hb) hK okm hO.n0 (by omega)
          unfold AddPost at c1 c2
          have HKN := Lib.hid (And.intro hkn (And.intro hk5 (And.intro hJ5 (And.intro hB5 (And.intro hxl hyl)))))
          clear hkn okm hO hne hk5 hI5 hJ5 hB5 hxl hyl hn1 hl1
          go_wp2_with (go_at_call 10; first
            | (refine c1.mono ?_; rintro e w6 ⟨rfl, hf6, hI6⟩; obtain ⟨hkn, hk5, hJ5, hB5, hxl, hyl⟩ := HKN.out; have hn6 := HN.out; have hB6 := hf6.far hB5 hB5.size (XB_le (by omega) (by omega)); have hJ6 := hJ5.frm hf6 (by rintro (e | e) <;> omega) (by rintro (e | e) <;> omega); have hk6 := (hf6.block wr.heap.size (blk_lt hk5) (by rintro (e | e) <;> omega)).trans hk5; have q0 := blk_cell hk6 0; have q1 := blk_cell hk6 1; have q2 := blk_cell hk6 2; have q3 := blk_cell hk6 3; have hxl6 := hI6.lt; clear hkn hk5 hJ5 hB5 hf6 hk6 c1)
            | (refine (c2 _ hB6 hJ6).mono ?_; rintro e w7 ⟨rfl, hf7, hJ7⟩))
          have hB7 := hf7.far hB6 hB6.size (XB_le (by omega) (by omega))
          have hI7 := hI6.frm hf7 (by rintro (e | e) <;> omega) (by rintro (e | e) <;> omega)
          go_roundg gk
          case measure => omega
          case rel =>
            obtain ⟨okm, hO, hne, -⟩ := HM.out
            exact ⟨i + 1, _, _, by first | rfl | (rw [hs1]), by omega, hI7, hJ7, hO.add _ _, addF_none HKN.out.1 m.f3 hne, hB7⟩
      · have hkn : ((m.f1, m.f2) : Key) ≠ (c, f) := fun e => by
          injection e with e1 e2
          rw [e1] at he
          simp at he
        obtain ⟨okm, hO, hne, hk5, hI5, hJ5, hB5, hxl, hyl⟩ := HM.out
        have hn1 := hO.n1
        have hl1 := HF.out.1
        have c1 := add_calls _ (mb + 1) mb es n (m.f1, m.f2) m.f3 (HLd.out.below hB5) hI5 okm hO.n0 (by omega)
        have c2 := fun W (hb : Below w.heap.size w W) hK => add_calls W (nb + 1) nb es n (m.f1, m.f2) m.f3 (HLd.out.below hb) hK okm hO.n0 (by omega)
        unfold AddPost at c1 c2
        have HKN := Lib.hid (And.intro hkn (And.intro hk5 (And.intro hJ5 (And.intro hB5 (And.intro hxl hyl)))))
        clear hkn okm hO hne hk5 hI5 hJ5 hB5 hxl hyl hn1 hl1
        go_wp2_with (go_at_call 10; first
          | (refine c1.mono ?_; rintro e w6 ⟨rfl, hf6, hI6⟩; obtain ⟨hkn, hk5, hJ5, hB5, hxl, hyl⟩ := HKN.out; have hn6 := HN.out; have hB6 := hf6.far hB5 hB5.size (XB_le (by omega) (by omega)); have hJ6 := hJ5.frm hf6 (by rintro (e | e) <;> omega) (by rintro (e | e) <;> omega); have hk6 := (hf6.block wr.heap.size (blk_lt hk5) (by rintro (e | e) <;> omega)).trans hk5; have q0 := blk_cell hk6 0; have q1 := blk_cell hk6 1; have q2 := blk_cell hk6 2; have q3 := blk_cell hk6 3; have hxl6 := hI6.lt; clear hkn hk5 hJ5 hB5 hf6 hk6 c1)
          | (refine (c2 _ hB6 hJ6).mono ?_; rintro e w7 ⟨rfl, hf7, hJ7⟩))
        have hB7 := hf7.far hB6 hB6.size (XB_le (by omega) (by omega))
        have hI7 := hI6.frm hf7 (by rintro (e | e) <;> omega) (by rintro (e | e) <;> omega)
        go_roundg gk
        case measure => omega
        case rel =>
          obtain ⟨okm, hO, hne, -⟩ := HM.out
          exact ⟨i + 1, _, _, by first | rfl | (rw [hs1]), by omega, hI7, hJ7, hO.add _ _, addF_none HKN.out.1 m.f3 hne, hB7⟩
end Go.Proofs.YtjibcekillcgjaaDoor.Sb
