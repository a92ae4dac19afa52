/- PureValueReads -/
import Derived.Test.YtmkekhjbbapngaaGreatDoorSValueReadsPFull
import Derived.Test.YtmkekhjbbapngaaGreatDoorSValueReadsPRef22
import Derived.Test.YtmkekhjbbapngaaGreatDoorSValueReadsQx24a
set_option linter.all false
namespace Go.Proofs.YtmkekhjbbapngaaGreatDoor.Q
open Go.RowKit Go.Proofs.YtmkekhjbbapngaaGreatDoor.Val YtmkekhjbbapngaaGreatDoorW.PrintWords
theorem awake_evR : Ev (fun k => basculelaw22_awake.f k) true := ⟨3, fun k hk => by
 obtain ⟨j, rfl⟩ : ∃ j, k = j + 3 := ⟨k - 3, by omega⟩
 exact awake_eq j⟩
instance (c : UInt8) : Decidable (isDg c) := by unfold isDg; exact inferInstance
def at_ (C : List UInt8) (n : Nat) : UInt8 := C.getD n 0
theorem at_bt (C : List UInt8) (n : Nat) (h : n < C.length) : bt (mkB C) (n : Int) = ((at_ C n).toNat : Int) := by
 refine bt_list (mkB C) n _ ?_
 rw [mkB_list]
 unfold at_
 rw [List.getD_eq_getElem?_getD, List.getElem?_eq_getElem h]
 rfl
def scanI (s : Int) (C : List UInt8) : Nat → List Int → Option (List Int)
 | 0, out => some out
 | n + 1, out => if s > 0 ∧ (C.length : Int) - 1 - n = s then (if at_ C n = 46 then scanI s C n out else none) else if isDg (at_ C n) then scanI s C n (out ++ [dg (at_ C n)]) else none
theorem scan_ok (s : Int) (C : List UInt8) : ∀ (n : Nat) (out r : List Int), (∀ x ∈ out, 0 ≤ x ∧ x ≤ 9) → scanI s C n out = some r → (∀ x ∈ r, 0 ≤ x ∧ x ≤ 9) ∧ r.length ≤ out.length + n
 | 0, out, r, ho, h => by rw [scanI] at h; cases h; exact ⟨ho, Nat.le_refl _⟩
 | n + 1, out, r, ho, h => by
  rw [scanI] at h
  split at h
  ·
   split at h
   ·
    obtain ⟨h1, h2⟩ := scan_ok s C n out r ho h; exact ⟨h1, by omega⟩
   ·
    cases h
  ·
   split at h
   ·
    rename_i hd
    obtain ⟨h1, h2⟩ := scan_ok s C n _ r (by
     intro x hx
     rcases List.mem_append.1 hx with hx | hx
     ·
      exact ho x hx
     ·
      rw [List.mem_singleton] at hx; subst hx; exact dg_ok hd) h
    rw [List.length_append, List.length_singleton] at h2
    exact ⟨h1, by omega⟩
   ·
    cases h
theorem scan_seg (s : Int) (C : List UInt8) (m : Nat) : ∀ (d : Nat) (out : List Int), m + d ≤ C.length → (∀ i, m ≤ i → i < m + d → isDg (at_ C i) ∧ ¬ (s > 0 ∧ (C.length : Int) - 1 - i = s)) →
  scanI s C (m + d) out = scanI s C m (out ++ ((C.drop m).take d).reverse.map dg)
 | 0, out, _, _ => by simp
 | d + 1, out, hl, h => by
  have hk := h (m + d) (by omega) (by omega)
  rw [show m + (d + 1) = (m + d) + 1 from rfl, scanI, if_neg hk.2, if_pos hk.1, scan_seg s C m d _ (by omega) (fun i h1 h2 => h i h1 (by omega)), List.append_assoc]
  congr 2
  have hlt : d < (C.drop m).length := by rw [List.length_drop]; omega
  rw [List.take_succ_eq_append_getElem hlt, List.reverse_append, List.map_append]
  congr 1
  rw [List.reverse_singleton, List.map_singleton]
  congr 2
  unfold at_
  rw [List.getElem_drop, List.getD_eq_getElem?_getD, List.getElem?_eq_getElem (by omega)]
  rfl
def numF (t : List UInt8) (s : Int) : List Int × Bool × Bool :=
 match scanI s (cutP t).2 (cutP t).2.length [] with
 | none => ([], false, false)
 | some out => if ((cutP t).1 = true ∧ trimT out = []) ∨ ptD (cutP t).1 (trimT out) s.toNat ≠ t then ([], false, false) else (trimT out, (cutP t).1, true)
theorem number_l0 (t : List UInt8) (s : Int) (h0 : 0 ≤ s) (h9 : s ≤ 9) (b : Bool) (C : List UInt8) (hC : C.length ≤ 300) : ∀ (n : Nat) (out : List Int), n ≤ C.length → (∀ x ∈ out, 0 ≤ x ∧ x ≤ 9) → out.length + n ≤ 400 →
  Ev (fun k => basculeref22_Number.l0 k (mkB t) s (mkB C) b out ((n : Int) - 1)) (match scanI s C n out with
   | none => ([], false, false)
   | some out => if (b = true ∧ trimT out = []) ∨ ptD b (trimT out) s.toNat ≠ t then ([], false, false) else (trimT out, b, true)) := by
 have hsz := mkB_size C
 intro n
 induction n with
 | zero =>
  intro out hn ho hl
  rw [scanI]
  have hL : ∀ x ∈ trimT out, 0 ≤ x ∧ x ≤ 9 := fun x hx => ho x (List.mem_of_mem_take hx)
  have hLl : (trimT out).length ≤ 400 := by unfold trimT; rw [List.length_take]; omega
  have hp := point_ev b (trimT out) s h0 (by omega) hL (by omega)
  have heq : ((mkB (ptD b (trimT out) s.toNat)).toList = (mkB t).toList) ↔ ptD b (trimT out) s.toNat = t := by rw [mkB_toList, mkB_toList]
  have htail : Ev (fun k => (basculeref22_point.f k (trimT out) b s).bind fun t350 => (if t350.toList = (mkB t).toList then (some (trimT out, b, true)) else (some (([] : List Int), false, false)))) (if ptD b (trimT out) s.toNat ≠ t then (([] : List Int), false, false) else (trimT out, b, true)) := by
   refine Ev.bind hp ?_
   by_cases h : ptD b (trimT out) s.toNat = t
   ·
    exact Ev.pos (heq.2 h) (Ev.ret' (if_neg (fun hh => hh h)).symm)
   ·
    exact Ev.neg (fun hh => h (heq.1 hh)) (Ev.ret' (if_pos h).symm)
  refine Ev.step (fun k => rfl) ?_
  refine Ev.bind (trim_ev out (by omega)) ?_
  show Ev _ (if (b = true ∧ trimT out = []) ∨ ptD b (trimT out) s.toNat ≠ t then (([] : List Int), false, false) else (trimT out, b, true))
  cases b
  ·
   refine Ev.neg (by simp) ?_
   have e : (if (false = true ∧ trimT out = []) ∨ ptD false (trimT out) s.toNat ≠ t then (([] : List Int), false, false) else (trimT out, false, true)) = (if ptD false (trimT out) s.toNat ≠ t then (([] : List Int), false, false) else (trimT out, false, true)) := by
    by_cases hq : ptD false (trimT out) s.toNat = t <;> simp [hq]
   rw [e]
   exact htail
  ·
   refine Ev.pos rfl ?_
   by_cases hnil : trimT out = []
   ·
    rw [if_pos (.inl ⟨rfl, hnil⟩), hnil]
    exact Ev.pos rfl (Ev.ret _)
   ·
    refine Ev.neg (fun h => hnil (List.eq_nil_of_length_eq_zero (by omega))) ?_
    have e : (if (true = true ∧ trimT out = []) ∨ ptD true (trimT out) s.toNat ≠ t then (([] : List Int), false, false) else (trimT out, true, true)) = (if ptD true (trimT out) s.toNat ≠ t then (([] : List Int), false, false) else (trimT out, true, true)) := by
     by_cases hq : ptD true (trimT out) s.toNat = t <;> simp [hq, hnil]
    rw [e]
    exact htail
 | succ n ih =>
  intro out hn ho hl
  rw [scanI]
  have hlt : n < C.length := by omega
  have hb := at_bt C n hlt
  have hbl := (at_ C n).toNat_lt
  have h46 : ((at_ C n).toNat : Int) = 46 ↔ at_ C n = 46 := ⟨fun e => UInt8.toNat_inj.1 (by show (at_ C n).toNat = 46; omega), fun e => by rw [e]; rfl⟩
  have ih := ih
  have i1 : ((n + 1 : Nat) : Int) - 1 ≥ 0 := by omega
  have i2 : (0 : Int) ≤ ((n + 1 : Nat) : Int) - 1 := by omega
  have i3 : ((n + 1 : Nat) : Int) - 1 < ((mkB C).size : Int) := by omega
  have i4 : ((n + 1 : Nat) : Int) - 1 = (n : Int) := by omega
  have hout : out.length < 17592186044416 := by omega
  have w1 : wrap64 ((n : Int) - 1) = (n : Int) - 1 := by clear ih; unfold wrap64; omega
  -- the point
  have hdot : Ev (fun k => basculeref22_Number.j3 k (mkB t) s (mkB C) b out (n : Int) true) (match (if at_ C n = 46 then scanI s C n out else none) with
   | none => ([], false, false)
   | some out => if (b = true ∧ trimT out = []) ∨ ptD b (trimT out) s.toNat ≠ t then ([], false, false) else (trimT out, b, true)) := by
   refine Ev.step (fun k => rfl) ?_
   refine Ev.pos (show (n : Int) < ((mkB C).size : Int) by rw [hsz]; clear w1 ih; omega) ?_
   rw [hb, w1]
   by_cases hd : at_ C n = 46
   ·
    rw [if_pos hd]
    exact Ev.pos (h46.2 hd) (ih out (by clear w1; omega) ho (by clear w1; omega))
   ·
    rw [if_neg hd]
    exact Ev.neg (fun e => hd (h46.1 e)) (Ev.ret _)
  -- a digit
  have hdig : Ev (fun k => basculeref22_Number.j3 k (mkB t) s (mkB C) b out (n : Int) false) (match (if isDg (at_ C n) then scanI s C n (out ++ [dg (at_ C n)]) else none) with
   | none => ([], false, false)
   | some out => if (b = true ∧ trimT out = []) ∨ ptD b (trimT out) s.toNat ≠ t then ([], false, false) else (trimT out, b, true)) := by
   refine Ev.step (fun k => rfl) ?_
   refine Ev.pos (show (n : Int) < ((mkB C).size : Int) by rw [hsz]; clear w1 ih; omega) ?_
   rw [hb, w1]
   by_cases hd : isDg (at_ C n)
   ·
    rw [if_pos hd]
    have e : (((at_ C n).toNat : Int) - 48) % 256 = dg (at_ C n) := by clear w1 ih; unfold dg; unfold isDg at hd; omega
    refine Ev.neg (by clear w1 ih; unfold isDg at hd; omega) (Ev.neg (by clear w1 ih; unfold isDg at hd; omega) (Ev.pos hout ?_))
    rw [e]
    refine ih _ (by clear w1; omega) ?_ (by clear w1; rw [List.length_append, List.length_singleton]; omega)
    intro x hx
    rcases List.mem_append.1 hx with hx | hx
    ·
     exact ho x hx
    ·
     rw [List.mem_singleton] at hx; subst hx; exact dg_ok hd
   ·
    rw [if_neg hd]
    by_cases hlo : ((at_ C n).toNat : Int) < 48
    ·
     exact Ev.pos hlo (Ev.ret _)
    ·
     refine Ev.neg hlo (Ev.pos (by clear w1 ih; unfold isDg at hd; omega) (Ev.ret _))
  refine Ev.step (fun k => rfl) (Ev.pos i1 ?_)
  have w2 : wrap64 ((wrap64 (((mkB C).size : Int) - 1)) - (((n + 1 : Nat) : Int) - 1)) = (C.length : Int) - 1 - n := by clear w1 ih hdot hdig; rw [hsz]; unfold wrap64; omega
  rw [w2, i4]
  by_cases hs : s > 0
  ·
   refine Ev.pos hs ?_
   by_cases hj : (C.length : Int) - 1 - n = s
   ·
    rw [if_pos ⟨hs, hj⟩, show ((C.length : Int) - 1 - n == s) = true from beq_iff_eq.2 hj]
    exact hdot
   ·
    rw [if_neg (fun h => hj h.2), beq_eq_false_iff_ne.2 hj]
    exact hdig
  ·
   refine Ev.neg hs ?_
   rw [if_neg (fun h => hs h.1)]
   exact hdig
theorem number_ev (t : ByteArray) (s : Int) (h0 : 0 ≤ s) (h9 : s ≤ 9) (ht : t.size ≤ 300) : Ev (fun k => basculeref22_Number.f k t s) (numF t.data.toList s) := by
 have hsz := Lib.size_eq t
 have hself := mkB_self t
 have htl : (t.data.toList).length = t.size := hsz.symm
 unfold numF
 have go : ∀ (b : Bool) (C : List UInt8), C.length ≤ 300 → Ev (fun k => basculeref22_Number.j1 k t s (mkB C) b) (match scanI s C C.length [] with
   | none => ([], false, false)
   | some out => if (b = true ∧ trimT out = []) ∨ ptD b (trimT out) s.toNat ≠ t.data.toList then ([], false, false) else (trimT out, b, true)) := by
  intro b C hC
  have := number_l0 t.data.toList s h0 h9 b C hC C.length [] (Nat.le_refl _) (fun x hx => by cases hx) (by simp; omega)
  rw [hself] at this
  have w : wrap64 (((mkB C).size : Int) - 1) = (C.length : Int) - 1 := by clear this; rw [mkB_size]; unfold wrap64; omega
  refine Ev.step (f := fun k => basculeref22_Number.l0 k t s (mkB C) b [] (wrap64 (((mkB C).size : Int) - 1))) (fun k => rfl) ?_
  rw [w]
  exact this
 have hz0 : (t.size : Int) > 0 ∨ t.data.toList = [] := by
  by_cases h : t.size = 0
  ·
   right; exact List.eq_nil_of_length_eq_zero (by omega)
  ·
   left; omega
 rcases hz0 with hz | hz
 ·
  have hb : t.data.toList[0]? = some (at_ t.data.toList 0) := by
   unfold at_
   rw [List.getD_eq_getElem?_getD, List.getElem?_eq_getElem (by omega)]; rfl
  have hb0 := bt_list t 0 _ hb
  refine Ev.pos hz (Ev.pos hz ?_)
  rw [show bt t 0 = ((at_ t.data.toList 0).toNat : Int) from hb0]
  cases hl : t.data.toList with
  | nil => rw [hl] at htl; simp at htl; omega
  | cons c r =>
   rw [hl] at htl
   rw [List.length_cons] at htl
   have e0 : at_ (c :: r) 0 = c := rfl
   rw [e0]
   by_cases hc : c = 45
   ·
    subst hc
    have e1 : ((((45 : UInt8).toNat : Nat) : Int) == 45) = true := rfl
    rw [e1]
    have e2 : cutP (45 :: r) = (true, r) := rfl
    rw [e2]
    have hex : t.extract 1 t.size = mkB r := by
     apply ByteArray.ext
     rw [ByteArray.data_extract]
     apply Array.toList_inj.1
     rw [Array.toList_extract, hl, List.extract_eq_take_drop]
     show (r.take (t.size - 1)) = r
     exact List.take_of_length_le (by omega)
    have h1 : 1 ≤ (t.size : Int) := by omega
    refine Ev.step (f := fun k => basculeref22_Number.j1 k t s (t.extract 1 t.size) true) (fun k => ?_) ?_
    ·
     show (if 1 ≤ (t.size : Int) then basculeref22_Number.j1 k t s (t.extract 1 t.size) true else none) = _
     exact if_pos h1
    rw [hex]
    have := go true r (by omega)
    rw [hl] at this
    exact this
   ·
    have e1 : (((c.toNat : Nat) : Int) == 45) = false := beq_eq_false_iff_ne.2 (fun e => hc (UInt8.toNat_inj.1 (by show c.toNat = 45; omega)))
    rw [e1]
    have e2 : cutP (c :: r) = (false, c :: r) := by
     unfold cutP
     split
     ·
      rename_i heq; exact absurd (List.cons.inj heq).1 hc
     ·
      rfl
    rw [e2]
    refine Ev.step (fun k => rfl) ?_
    have := go false (c :: r) (by rw [List.length_cons]; omega)
    rw [← hl, hself] at this
    rw [← hl]
    exact this
 ·
  have hz2 : t.size = 0 := by rw [hsz, hz]; rfl
  refine Ev.neg (by omega) ?_
  rw [hz, show cutP [] = (false, []) from rfl]
  refine Ev.step (fun k => rfl) ?_
  have := go false [] (by simp)
  rw [← hz, hself] at this
  rw [hz] at this
  exact this
theorem num_plain (t : List UInt8) (s : Int) (h0 : 0 ≤ s) : (numF t s).2.2 = (plainP t s).2.2 := by
 have hcut := cutP_inv t
 cases hp : (plainP t s).2.2
 ·
  -- no number's
  unfold numF
  generalize hb : (cutP t).1 = b at *
  generalize (cutP t).2 = C at *
  cases hs : scanI s C C.length [] with
  | none => rfl
  | some out =>
   show (if (b = true ∧ trimT out = []) ∨ ptD b (trimT out) s.toNat ≠ t then (([] : List Int), false, false) else (trimT out, b, true)).2.2 = false
   by_cases hc : (b = true ∧ trimT out = []) ∨ ptD b (trimT out) s.toNat ≠ t
   ·
    rw [if_pos hc]
   ·
    exfalso
    obtain ⟨ho, -⟩ := scan_ok s C _ _ _ (fun x hx => by cases hx) hs
    rw [trim_val out ho, pt_digL] at hc
    have h1 : b = true → valD out ≠ 0 := fun hb h => hc (.inl ⟨hb, by rw [h, digL_zero]⟩)
    have h2 : pointL b (valD out) s.toNat = t := Decidable.byContradiction (fun h => hc (.inr h))
    obtain ⟨k, -, hk⟩ := plain_back b (valD out) s.toNat h1
    rw [Int.toNat_of_nonneg h0, h2] at hk
    rw [hk] at hp
    cases hp
 ·
  obtain ⟨m, x, A, B, ht, hm, htl, hd, hB, hx⟩ := inv_point t s h0 hp
  have hA0 : A ++ (if s > 0 then 46 :: B else []) ≠ 45 :: (A ++ (if s > 0 then 46 :: B else [])).tail := by
   intro e
   have h45 : ∀ c ∈ A ++ (if s > 0 then 46 :: B else []), c ≠ 45 := by
    intro c hc h
    subst h
    rcases List.mem_append.1 hc with hc | hc
    ·
     have := hd 45 (List.mem_append_left _ hc); revert this; decide
    ·
     split at hc
     ·
      rcases List.mem_cons.1 hc with hc | hc
      ·
       revert hc; decide
      ·
       have := hd 45 (List.mem_append_right _ hc); revert this; decide
     ·
      cases hc
   exact h45 45 (by rw [e]; exact List.mem_cons_self ..) rfl
  have hcp : cutP t = (m, A ++ (if s > 0 then 46 :: B else [])) := by
   rw [htl]
   generalize A ++ (if s > 0 then 46 :: B else []) = C at *
   cases m
   ·
    simp only [Bool.false_eq_true, if_false, List.nil_append]
    unfold cutP
    split
    ·
     exact absurd rfl hA0
    ·
     rfl
   ·
    rfl
  unfold numF
  rw [hcp]
  simp only
  have hout : scanI s (A ++ (if s > 0 then 46 :: B else [])) (A ++ (if s > 0 then 46 :: B else [])).length [] = some ((A ++ B).reverse.map dg) := by
   have hAd : ∀ i, i < A.length → isDg (at_ A i) := by
    intro i hi
    refine hd _ (List.mem_append_left _ ?_)
    unfold at_
    rw [List.getD_eq_getElem?_getD, List.getElem?_eq_getElem hi]
    exact List.getElem_mem hi
   have hBd : ∀ i, i < B.length → isDg (at_ B i) := by
    intro i hi
    refine hd _ (List.mem_append_right _ ?_)
    unfold at_
    rw [List.getD_eq_getElem?_getD, List.getElem?_eq_getElem hi]
    exact List.getElem_mem hi
   by_cases hs : s > 0
   ·
    rw [if_pos hs]
    have hat1 : ∀ i, i < A.length → at_ (A ++ 46 :: B) i = at_ A i := by
     intro i hi; unfold at_; rw [List.getD_eq_getElem?_getD, List.getD_eq_getElem?_getD, List.getElem?_append_left hi]
    have hat2 : at_ (A ++ 46 :: B) A.length = 46 := by
     unfold at_; rw [List.getD_eq_getElem?_getD, List.getElem?_append_right (Nat.le_refl _)]; simp
    have hat3 : ∀ i, i < B.length → at_ (A ++ 46 :: B) (A.length + 1 + i) = at_ B i := by
     intro i hi; unfold at_; rw [List.getD_eq_getElem?_getD, List.getD_eq_getElem?_getD, List.getElem?_append_right (by omega), show A.length + 1 + i - A.length = i + 1 by omega, List.getElem?_cons_succ]
    have hlen : (A ++ 46 :: B).length = (A.length + 1) + B.length := by rw [List.length_append, List.length_cons]; omega
    have hsB : (B.length : Int) = s := by omega
    rw [hlen, scan_seg s _ (A.length + 1) B.length [] (by omega) (fun i h1 h2 => by
     have := hat3 (i - (A.length + 1)) (by omega)
     rw [show A.length + 1 + (i - (A.length + 1)) = i by omega] at this
     rw [this]
     exact ⟨hBd _ (by omega), by rw [hlen]; omega⟩)]
    rw [scanI, if_pos ⟨hs, by rw [hlen]; omega⟩, if_pos hat2]
    have := scan_seg s (A ++ 46 :: B) 0 A.length ([] ++ (((A ++ 46 :: B).drop (A.length + 1)).take B.length).reverse.map dg) (by omega) (fun i h1 h2 => by
     rw [hat1 i (by omega)]
     exact ⟨hAd i (by omega), by rw [hlen]; omega⟩)
    rw [Nat.zero_add] at this
    rw [this, scanI]
    congr 1
    have d1 : (A ++ 46 :: B).drop (A.length + 1) = B := by
     rw [List.drop_append]; simp
    rw [d1, List.take_length, List.drop_zero, List.take_left, List.nil_append, List.reverse_append, List.map_append]
   ·
    rw [if_neg hs, List.append_nil]
    have hBn : B = [] := List.eq_nil_of_length_eq_zero (by omega)
    subst hBn
    rw [List.append_nil]
    have := scan_seg s A 0 A.length [] (by omega) (fun i h1 h2 => ⟨hAd i (by omega), fun h => hs h.1⟩)
    rw [Nat.zero_add] at this
    rw [this, scanI, List.drop_zero, List.take_length, List.nil_append]
  rw [hout]
  have hdr : ∀ y ∈ (A ++ B).reverse.map dg, 0 ≤ y ∧ y ≤ 9 := by
   intro y hy
   obtain ⟨c, hc, rfl⟩ := List.mem_map.1 hy
   exact dg_ok (hd c (List.mem_reverse.1 hc))
  show (if (m = true ∧ trimT ((A ++ B).reverse.map dg) = []) ∨ ptD m (trimT ((A ++ B).reverse.map dg)) s.toNat ≠ t then (([] : List Int), false, false) else (trimT ((A ++ B).reverse.map dg), m, true)).2.2 = true
  rw [trim_val _ hdr, ← hx, pt_digL, if_neg]
  rintro (⟨h1, h2⟩ | h)
  ·
   exact hm h1 (digL_nil h2)
  ·
   exact h ht.symm
end Go.Proofs.YtmkekhjbbapngaaGreatDoor.Q
namespace Go.Proofs.YtmkekhjbbapngaaGreatDoor.Pure
open Go.RowKit Go.Proofs.YtmkekhjbbapngaaGreatDoor.Q Go.Proofs.YtmkekhjbbapngaaGreatDoor.Val YtmkekhjbbapngaaGreatDoorW.PrintWords
attribute [local irreducible] basculelaw22_awake.f value_Words.f basculeref22_Number.f basculeref22_Text.f basculeref22_May.f basculeref22_Row.f
theorem ValueReads : basculelaw22_ValueReads.Pure := by
 intro n u f a kd s d wr t _ _ _ _ _ _ _
 refine Ev.rounds ?_
 by_cases ht : (t.size : Int) > 300
 ·
  exact Ev.pos ht (Ev.ret _)
 refine Ev.neg ht ?_
 have hW : value_Words.f n u f a kd s d wr t = some (wordsR n u f a kd s d wr t, wordsE n u f a kd s d wr t) := by
  unfold value_Words.f
  rw [if_pos (by omega)]
 refine Ev.fst hW (Ev.bind (row22_ev n u f a kd s d wr) ?_)
 cases hr : rowB n u f a kd s d wr
 ·
  refine Ev.neg (by simp) (Ev.bind awake_evR ?_)
  have e : wordsRE n u f a kd s d wr t = ([], 1) := by unfold wordsRE; rw [hr]; rfl
  have e1 : wordsR n u f a kd s d wr t = [] := by unfold wordsR; rw [e]
  have e2 : wordsE n u f a kd s d wr t = 1 := by unfold wordsE; rw [e]
  rw [e1, e2]
  refine Ev.pos rfl ?_
  exact Ev.pos rfl (Ev.ret' rfl)
 ·
  refine Ev.pos rfl ?_
  obtain ⟨-, hs, -⟩ := row_facts hr
  rcases words_cases n u f a kd s d wr t with ⟨l, e, hm, hx, hp⟩ | ⟨x, hx, e⟩
  ·
   have e1 : wordsR n u f a kd s d wr t = l := by unfold wordsR; rw [e]
   have e2 : wordsE n u f a kd s d wr t = 0 := by unfold wordsE; rw [e]
   rw [e1, e2]
   have hl : l.length ≤ 1000000 := Nat.le_trans (Val.may_short hm) (by decide)
   have hmm : (decide ((l.length : Int) = nOf kd) && !(l.any (bad (mostOf kd)))) = true := by
    have := hm
    unfold mayB at this
    rw [hr, Bool.true_and] at this
    exact this
   have hmay := may22_ev n u f a kd s d wr l hl
   rw [hmm] at hmay
   refine Ev.pos rfl (Ev.bind awake_evR ?_)
   refine Ev.pos rfl (Ev.bind hmay ?_)
   refine Ev.pos rfl (Ev.bind (text22_ev n u f a kd s d wr l hm) (Ev.ret' ?_))
   unfold textR at hx
   rw [hm, if_pos rfl] at hx
   rw [← hx]
   show ((mkB (textL kd s l)).toList == (mkB (textL kd s l)).toList) = true
   simp
  ·
   have e1 : wordsR n u f a kd s d wr t = [] := by unfold wordsR; rw [e]
   have e2 : wordsE n u f a kd s d wr t = x := by unfold wordsE; rw [e]
   have hwhy := words_why (t := t) hr (by rw [e2]; exact hx)
   rw [e2] at hwhy
   rw [e1, e2]
   refine Ev.neg hx ?_
   refine Ev.pos rfl (Ev.bind (number_ev t s hs.1 hs.2 (by omega)) ?_)
   rw [num_plain _ s hs.1]
   have hj : ∀ b : Bool, x = (if b then 220 else 4) → Ev (fun k => basculelaw22_ValueReads.j0 k x b) true := by
    intro b hb
    cases b
    ·
     refine Ev.step (fun k => rfl) ?_
     refine Ev.bind awake_evR ?_
     refine Ev.pos rfl (Ev.ret' ?_)
     rw [hb]; rfl
    ·
     refine Ev.step (fun k => rfl) ?_
     refine Ev.bind awake_evR ?_
     refine Ev.pos rfl (Ev.ret' ?_)
     rw [hb]; rfl
   by_cases h8 : kd = 8
   ·
    refine Ev.pos h8 (hj false ?_)
    rw [hwhy, if_neg (fun h => h.1 h8)]; rfl
   ·
    refine Ev.neg h8 (hj _ ?_)
    rw [hwhy]
    cases hpp : (plainP t.data.toList s).2.2
    ·
     rw [if_neg (fun h => by cases h.2)]; rfl
    ·
     rw [if_pos ⟨h8, rfl⟩]; rfl
end Go.Proofs.YtmkekhjbbapngaaGreatDoor.Pure