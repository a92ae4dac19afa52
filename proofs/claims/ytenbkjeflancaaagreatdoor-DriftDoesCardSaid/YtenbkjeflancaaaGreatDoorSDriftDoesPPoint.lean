/- What the proof of DriftDoes leans on: PPoint. -/
import Derived.Test.YtenbkjeflancaaaGreatDoorSDriftDoesPDig
import Derived.Test.YtenbkjeflancaaaGreatDoorSDriftDoesPOf
import Derived.Test.YtenbkjeflancaaaGreatDoorSDriftDoesPTab
import Derived.Test.YtenbkjeflancaaaGreatDoorSDriftDoesQx20
set_option linter.unusedVariables false
set_option linter.unusedSimpArgs false
namespace Go.Proofs.YtenbkjeflancaaaGreatDoor.Q
open Go.RowKit Go.Proofs.YtenbkjeflancaaaGreatDoorW.PrintWords Go.Proofs.YtenbkjeflancaaaGreatDoor.Val
def chD (x : Int) : UInt8 := UInt8.ofNat (48 + x.toNat)
def padM (L : List Int) (s : Nat) : List Int := L ++ List.replicate (s + 1 - L.length) 0
def outD (M : List Int) (s i : Nat) : List UInt8 :=
  if s = 0 ∨ i ≤ s then (M.take i).reverse.map chD else (((M.take i).drop s).reverse.map chD) ++ 46 :: ((M.take s).reverse.map chD)
def ptD (b : Bool) (L : List Int) (s : Nat) : List UInt8 := (if b then [45] else []) ++ outD (padM L s) s (padM L s).length
theorem outD_len (M : List Int) (s i : Nat) : (outD M s i).length ≤ i + 1 := by
  unfold outD
  split
  · rw [List.length_map, List.length_reverse, List.length_take]; omega
  · rw [List.length_append, List.length_map, List.length_reverse, List.length_drop, List.length_take, List.length_cons, List.length_map, List.length_reverse, List.length_take]; omega
theorem outD_low (M : List Int) (s i : Nat) (h : s = 0 ∨ i ≤ s) : outD M s i = (M.take i).reverse.map chD := by unfold outD; rw [if_pos h]
theorem outD_high (M : List Int) (s i : Nat) (h : ¬ (s = 0 ∨ i ≤ s)) : outD M s i = (((M.take i).drop s).reverse.map chD) ++ 46 :: ((M.take s).reverse.map chD) := by unfold outD; rw [if_neg h]
theorem outD_step (M : List Int) (s i : Nat) (h : i < M.length) : outD M s (i + 1) = if i = s ∧ 0 < s then chD (rd M (i : Int)) :: 46 :: outD M s i else chD (rd M (i : Int)) :: outD M s i := by
  have ht := take_rd M i h
  by_cases h0 : s = 0
  · rw [if_neg (by omega), outD_low M s (i + 1) (.inl h0), outD_low M s i (.inl h0), ht, List.reverse_append]
    rfl
  · by_cases h1 : i + 1 ≤ s
    · rw [if_neg (by omega), outD_low M s (i + 1) (.inr h1), outD_low M s i (.inr (by omega)), ht, List.reverse_append]
      rfl
    · by_cases h2 : i = s
      · subst h2
        rw [if_pos ⟨rfl, by omega⟩, outD_high M i (i + 1) (by omega), outD_low M i i (.inr (Nat.le_refl _)), ht]
        have hlen : (M.take i).length = i := by rw [List.length_take]; omega
        rw [List.drop_append_of_le_length (by omega), List.drop_eq_nil_of_le (by omega)]
        rfl
      · have hlen : (M.take i).length = i := by rw [List.length_take]; omega
        rw [if_neg (by omega), outD_high M s (i + 1) (by omega), outD_high M s i (by omega), ht, List.drop_append_of_le_length (by omega), List.reverse_append]
        rfl
theorem strD (x : Int) (h : 0 ≤ x ∧ x ≤ 9) : strOfNums ([(wrap64 (48 + x)) % 256] : List Int) = mkB [chD x] := by
  have e : (wrap64 (48 + x)) % 256 = 48 + x := by unfold wrap64; omega
  rw [e]
  unfold chD mkB
  have e2 : (48 + x).toNat = 48 + x.toNat := by omega
  apply ByteArray.ext
  show ([48 + x].map fun n => UInt8.ofNat n.toNat).toArray = _
  rw [List.map_cons, List.map_nil, e2]
theorem mkB_cons (c : UInt8) (l : List UInt8) : mkB [c] ++ mkB l = mkB (c :: l) := by rw [mkB_app]; rfl
theorem point_l1 (b : Bool) (s : Nat) (hs : s ≤ 1000) (M : List Int) (hM : ∀ x ∈ M, 0 ≤ x ∧ x ≤ 9) (hl : M.length ≤ 100000) (d : Nat) : ∀ i : Nat, M.length - i = d → i ≤ M.length →
    Ev (fun k => basculeref22_point.l1 k b (s : Int) M (mkB (outD M s i)) (i : Int)) (mkB ((if b then [45] else []) ++ outD M s M.length)) := by
  induction d with
  | zero =>
    intro i hd hi
    obtain rfl : i = M.length := by omega
    have hz := outD_len M s M.length
    have hsz := mkB_size (outD M s M.length)
    refine Ev.step (fun k => rfl) ?_
    refine Ev.neg (by omega) ?_
    cases b
    · exact Ev.ret _
    · refine Ev.pos rfl (Ev.pos (by omega) (Ev.ret' ?_))
      exact mkB_cons 45 _
  | succ d ih =>
    intro i hd hi
    have hz := outD_len M s i
    have hsz := mkB_size (outD M s i)
    have hr := rd_ok hM i (by omega)
    have hst := outD_step M s i (by omega)
    have ih := ih (i + 1) (by omega) (by omega)
    have w : wrap64 ((i : Int) + 1) = ((i + 1 : Nat) : Int) := by unfold wrap64; omega
    rw [← w] at ih
    have hlt : (i : Int) < (M.length : Int) := by omega
    have h0 : (0 : Int) ≤ (i : Int) := Int.natCast_nonneg i
    clear w
    have s1 : (mkB [chD (rd M (i : Int))]).size = 1 := rfl
    refine Ev.step (fun k => rfl) (Ev.pos hlt ?_)
    by_cases hc : i = s ∧ 0 < s
    · rw [if_pos hc] at hst
      rw [hst] at ih
      refine Ev.pos (show (i : Int) = (s : Int) by omega) (Ev.pos (show (s : Int) > 0 by omega) (Ev.pos (by omega) (Ev.pos h0 (Ev.some ?_))))
      rw [strD _ hr, show (⟨#[46]⟩ : ByteArray) = mkB [46] from rfl, mkB_cons, mkB_cons]
      have s2 := mkB_size (46 :: outD M s i)
      rw [List.length_cons] at s2
      exact Ev.pos (by omega) ih
    · rw [if_neg hc] at hst
      rw [hst] at ih
      have hgo : Ev (fun k => if 0 ≤ (i : Int) then ((some (([(wrap64 (48 + (rd M (i : Int)))) % 256] : List Int) : List Int)).bind fun y => (if (strOfNums y).size + (mkB (outD M s i)).size ≤ 9223372036854775807 then (basculeref22_point.l1 k b (s : Int) M ((strOfNums y) ++ (mkB (outD M s i))) (wrap64 ((i : Int) + 1))) else (none))) else (none)) (mkB ((if b then [45] else []) ++ outD M s M.length)) := by
        refine Ev.pos h0 (Ev.some ?_)
        rw [strD _ hr, mkB_cons]
        exact Ev.pos (by omega) ih
      by_cases hi2 : (i : Int) = (s : Int)
      · refine Ev.pos hi2 (Ev.neg (by omega) hgo)
      · exact Ev.neg hi2 hgo
theorem point_l0 (b : Bool) (s : Nat) (hs : s ≤ 1000) (d : Nat) : ∀ L : List Int, (∀ x ∈ L, 0 ≤ x ∧ x ≤ 9) → L.length ≤ 1001 → s + 1 - L.length = d →
    Ev (fun k => basculeref22_point.l0 k b (s : Int) L) (mkB (ptD b L s)) := by
  have w : wrap64 ((s : Int) + 1) = ((s + 1 : Nat) : Int) := by unfold wrap64; omega
  induction d with
  | zero =>
    intro L hL hl hd
    have := point_l1 b s hs L hL (by omega) L.length 0 (by omega) (by omega)
    have e : padM L s = L := by unfold padM; rw [hd]; simp
    refine Ev.step (fun k => rfl) ?_
    refine Ev.neg (by rw [w]; omega) ?_
    unfold ptD
    rw [e]
    have e0 : outD L s 0 = [] := by unfold outD; rw [if_pos (.inr (Nat.zero_le _))]; rfl
    rw [e0] at this
    exact this
  | succ d ih =>
    intro L hL hl hd
    have e : padM (L ++ [0]) s = padM L s := by
      unfold padM
      rw [List.length_append, hd, show s + 1 - (L.length + [(0 : Int)].length) = d by rw [List.length_singleton]; omega, List.append_assoc]
      rfl
    have hL0 : ∀ x ∈ L ++ [0], 0 ≤ x ∧ x ≤ 9 := by
      intro x hx
      rcases List.mem_append.1 hx with h | h
      · exact hL x h
      · rw [List.mem_singleton] at h; omega
    have := ih (L ++ [0]) hL0 (by rw [List.length_append, List.length_singleton]; omega) (by rw [List.length_append, List.length_singleton]; omega)
    unfold ptD at this ⊢
    rw [e] at this
    refine Ev.step (fun k => rfl) ?_
    refine Ev.pos (by rw [w]; omega) ?_
    exact Ev.pos (show L.length < 17592186044416 by omega) this
theorem point_ev (b : Bool) (L : List Int) (s : Int) (h0 : 0 ≤ s) (h1 : s ≤ 1000) (hL : ∀ x ∈ L, 0 ≤ x ∧ x ≤ 9) (hl : L.length ≤ 900) : Ev (fun k => basculeref22_point.f k L b s) (mkB (ptD b L s.toNat)) := by
  have := point_l0 b s.toNat (by omega) _ L hL (by omega) rfl
  rw [Int.toNat_of_nonneg h0] at this
  refine Ev.pos (by simp; omega) ?_
  rw [List.nil_append]
  exact this
theorem digL_fix : ∀ u : Nat, (digL u).reverse.map chD = fixD (digL u).length u := by
  intro u
  induction u using Nat.strongRecOn with
  | ind u ih =>
    by_cases h : u = 0
    · subst h; rw [digL_zero]; rfl
    · rw [digL_pos h, List.reverse_cons, List.map_append, ih (u / 10) (by omega), List.length_cons, fixD, List.map_singleton]
      rfl
theorem digL_len_eq (u : Nat) (h : u ≠ 0) : (digL u).length = Lib.nDigits u := by
  induction u using Nat.strongRecOn with
  | ind u ih =>
    rw [digL_pos h, List.length_cons]
    by_cases h10 : u < 10
    · rw [show u / 10 = 0 by omega, digL_zero, Lib.nDigits, dif_pos h10]; rfl
    · rw [ih (u / 10) (by omega) (by omega)]
      conv => rhs; rw [Lib.nDigits]
      rw [dif_neg h10]
theorem lt_digL (u : Nat) : u < 10 ^ (digL u).length := by
  by_cases h : u = 0
  · subst h; rw [digL_zero]; decide
  · rw [digL_len_eq u h]; exact Lib.lt_pow_nDigits u
theorem pad_digL (u sc : Nat) : (padM (digL u) sc).reverse.map chD = padL u sc := by
  rw [pad_fix]
  unfold padM
  rw [List.reverse_append, List.map_append, digL_fix, List.reverse_replicate, List.map_replicate, show chD 0 = 48 from rfl, fixD_pad _ _ _ (lt_digL u)]
  congr 1
  unfold wid
  by_cases h : u = 0
  · subst h; rw [digL_zero]; rw [show Lib.nDigits 0 = 1 by rw [Lib.nDigits, dif_pos (by decide)]]; simp
  · rw [digL_len_eq u h]; omega
theorem padM_len (L : List Int) (s : Nat) : (padM L s).length = max L.length (s + 1) := by
  unfold padM; rw [List.length_append, List.length_replicate]; omega
theorem pt_digL (b : Bool) (u sc : Nat) : ptD b (digL u) sc = pointL b u sc := by
  unfold ptD pointL
  congr 1
  have hp := pad_digL u sc
  have hlen := padM_len (digL u) sc
  generalize padM (digL u) sc = M at *
  unfold outD
  by_cases h : sc = 0
  · rw [if_pos (.inl h), if_pos h, List.take_length, hp]
    subst h
    rw [pad_fix, dec_fix]
    congr 1
    unfold wid
    have := Lib.lt_pow_nDigits u
    have h1 : 1 ≤ Lib.nDigits u := by
      rw [Lib.nDigits]; split <;> omega
    omega
  · rw [if_neg (by omega), if_neg h, List.take_length]
    unfold ptL
    rw [← hp, List.length_map, List.length_reverse, ← List.map_take, ← List.map_drop, List.take_reverse, List.drop_reverse]
    rw [show M.length - (M.length - sc) = sc by omega]
theorem hexd (x : Nat) (h : x < 16) : (⟨#[48, 49, 50, 51, 52, 53, 54, 55, 56, 57, 97, 98, 99, 100, 101, 102]⟩ : ByteArray).extract (x : Int).toNat ((x + 1 : Nat) : Int).toNat = mkB [hx x] := by
  have H : ∀ i : Fin 16, (⟨#[48, 49, 50, 51, 52, 53, 54, 55, 56, 57, 97, 98, 99, 100, 101, 102]⟩ : ByteArray).extract i.1 (i.1 + 1) = mkB [hx i.1] := by decide +kernel
  exact H ⟨x, h⟩
def hexFrom (x : Nat) : Nat → List UInt8
  | 0 => []
  | n + 1 => hexFrom (x / 16) n ++ [hx (x % 16)]
theorem hexFrom4 (x : Nat) (h : x < 65536) : hexFrom x 4 = hex4 x := by
  rw [hex4_eq x h]
  show (((([] ++ [hx (x / 16 / 16 / 16 % 16)]) ++ [hx (x / 16 / 16 % 16)]) ++ [hx (x / 16 % 16)]) ++ [hx (x % 16)]) = _
  rw [show x / 16 / 16 / 16 % 16 = x / 4096 by omega, show x / 16 / 16 % 16 = x / 256 % 16 by omega]
  rfl
theorem hex_l1 (l : List Int) (x5 : ByteArray) (hx5 : x5.size ≤ 100) (x7 : Int) (r : ByteArray) (n : Nat) : ∀ (i x : Nat) (w : List UInt8), 4 - i = n → i ≤ 4 → x < 65536 → w.length ≤ i →
    Ev (fun k => basculeref22_Text.l0 k l (x5 ++ mkB (hexFrom x n ++ w)) (⟨#[48, 49, 50, 51, 52, 53, 54, 55, 56, 57, 97, 98, 99, 100, 101, 102]⟩ : ByteArray) (wrap64 (x7 + 1))) r →
    Ev (fun k => basculeref22_Text.l1 k l x5 (⟨#[48, 49, 50, 51, 52, 53, 54, 55, 56, 57, 97, 98, 99, 100, 101, 102]⟩ : ByteArray) x7 (x : Int) (mkB w) (i : Int)) r := by
  induction n with
  | zero =>
    intro i x w hi h4 hx hw h
    have hsz := mkB_size w
    refine Ev.step (fun k => rfl) ?_
    refine Ev.neg (by omega) (Ev.pos (by omega) ?_)
    exact h
  | succ n ih =>
    intro i x w hi h4 hx hw h
    have hsz := mkB_size w
    have ih := ih (i + 1) (x / 16) (Val.hx (x % 16) :: w) (by omega) (by omega) (by omega) (by rw [List.length_cons]; omega) (by rw [hexFrom, List.append_assoc] at h; exact h)
    have b1 : (0 : Int) ≤ ((x % 16 : Nat) : Int) := Int.natCast_nonneg _
    have b2 : ((x % 16 : Nat) : Int) ≤ ((x % 16 + 1 : Nat) : Int) := by omega
    have b3 : ((x % 16 + 1 : Nat) : Int) ≤ 16 := by omega
    have b0 : (i : Int) < 4 := by omega
    have s1 : (mkB [Val.hx (x % 16)]).size = 1 := rfl
    have b4 : (mkB [Val.hx (x % 16)]).size + (mkB w).size ≤ 9223372036854775807 := by rw [s1, hsz]; omega
    have e1 : Int.tmod (x : Int) 16 = ((x % 16 : Nat) : Int) := by rw [Int.tmod_eq_emod_of_nonneg (Int.natCast_nonneg _)]; rfl
    have e2 : wrap64 (((x % 16 : Nat) : Int) + 1) = ((x % 16 + 1 : Nat) : Int) := by unfold wrap64; omega
    have e5 := hexd (x % 16) (Nat.mod_lt _ (by decide))
    have e3 : wrap64 (Int.tdiv (x : Int) 16) = ((x / 16 : Nat) : Int) := by clear e2 ih h; rw [Int.tdiv_eq_ediv_of_nonneg (Int.natCast_nonneg _)]; unfold wrap64; omega
    have e4 : wrap64 ((i : Int) + 1) = ((i + 1 : Nat) : Int) := by clear e2 e3 ih h; unfold wrap64; omega
    rw [← mkB_cons, ← e5] at ih
    rw [← e5] at b4
    have ih' : Ev (fun k => basculeref22_Text.l1 k l x5 (⟨#[48, 49, 50, 51, 52, 53, 54, 55, 56, 57, 97, 98, 99, 100, 101, 102]⟩ : ByteArray) x7 (wrap64 (Int.tdiv (x : Int) 16)) ((⟨#[48, 49, 50, 51, 52, 53, 54, 55, 56, 57, 97, 98, 99, 100, 101, 102]⟩ : ByteArray).extract (((x % 16 : Nat) : Int)).toNat (((x % 16 + 1 : Nat) : Int)).toNat ++ mkB w) (wrap64 ((i : Int) + 1))) r := by
      rw [e3, e4]; exact ih
    clear e3 e4 ih
    refine Ev.step (fun k => rfl) ?_
    refine Ev.pos b0 ?_
    rw [e1, e2]
    exact Ev.pos b1 (Ev.pos b2 (Ev.pos b3 (Ev.pos b4 ih')))
theorem text22_ev (n : ByteArray) (u f a kd s d : Int) (wr : Bool) (l : List Int) (h : mayB n u f a kd s d wr l = true) : Ev (fun k => basculeref22_Text.f k n u f a kd s d wr l) (mkB (textL kd s l)) := by
  have hall := may_all h
  have hlen := may_len h
  obtain ⟨hk, hs, hd, hp⟩ := row_facts (may_row h)
  unfold textL
  by_cases h1 : kd = 1
  · subst h1
    rw [if_pos rfl]
    have hl1 : l.length = 1 := by unfold nOf at hlen; rw [if_pos rfl] at hlen; omega
    obtain ⟨x, rfl⟩ := list1 hl1
    have hx := hall x (by simp)
    rw [show mostOf 1 = 1 from rfl] at hx
    refine Ev.pos rfl (Ev.pos (by simp) (Ev.ret' ?_))
    exact strD x ⟨hx.1, by omega⟩
  · rw [if_neg h1]
    refine Ev.neg h1 ?_
    by_cases h8 : kd = 8
    · subst h8
      rw [if_pos rfl]
      refine Ev.pos rfl ?_
      have hl2 : l.length = 2 := by unfold nOf at hlen; rw [if_neg h1] at hlen; rw [show Tab.wordsOf 8 = 2 by decide] at hlen; omega
      obtain ⟨x, y, rfl⟩ := list2 hl2
      have hx := hall x (by simp)
      have hy := hall y (by simp)
      rw [show mostOf 8 = 65535 from rfl] at hx hy
      obtain ⟨p, rfl⟩ := Int.eq_ofNat_of_zero_le hx.1
      obtain ⟨q, rfl⟩ := Int.eq_ofNat_of_zero_le hy.1
      have e0 : rd [(p : Int), (q : Int)] 0 = (p : Int) := rfl
      have e1 : rd [(p : Int), (q : Int)] 1 = (q : Int) := rfl
      rw [e0, e1, Int.toNat_natCast, Int.toNat_natCast, ← hexFrom4 p (by omega), ← hexFrom4 q (by omega)]
      have hl4 : ∀ x, (hexFrom x 4).length = 4 := fun x => rfl
      refine Ev.step (fun k => rfl) ?_
      iterate 3 (try refine Ev.pos (by decide) ?_)
      refine hex_l1 _ _ (by decide) _ _ 4 0 p [] rfl (by decide) (by omega) (Nat.le_refl _) ?_
      rw [show wrap64 (0 + 1) = 1 by unfold wrap64; decide]
      refine Ev.step (fun k => rfl) ?_
      iterate 3 (try refine Ev.pos (by decide) ?_)
      refine hex_l1 _ _ ?_ _ _ 4 0 q [] rfl (by decide) (by omega) (Nat.le_refl _) ?_
      · rw [ByteArray.size_append, mkB_size, List.append_nil, hl4]; decide
      rw [show wrap64 (1 + 1) = 2 by unfold wrap64; decide]
      refine Ev.step (fun k => rfl) ?_
      (try refine Ev.neg (show ¬ (2 : Int) < 2 by decide) ?_)
      refine Ev.ret' ?_
      rw [List.append_nil, List.append_nil, show (⟨#[]⟩ : ByteArray) = mkB [] from rfl, mkB_app, mkB_app, List.nil_append]
    · rw [if_neg h8]
      refine Ev.neg h8 ?_
      have hm : l.any (bad 65535) = false ∧ (l.length = 1 ∨ l.length = 2 ∨ l.length = 4) ∧ (trn kd = true → l.length = 2) := by
        have hmo : mostOf kd = 65535 := by unfold mostOf; rw [if_neg h1]
        refine ⟨?_, ?_, ?_⟩
        · rw [List.any_eq_false]
          intro x hx
          have := hall x hx
          rw [hmo] at this
          unfold bad
          simp
          omega
        · rcases may_num h h1 h8 with ⟨-, x, rfl, -⟩ | ⟨-, x, y, rfl, -⟩ | ⟨-, x, y, z, v, rfl, -⟩
          · exact .inl rfl
          · exact .inr (.inl rfl)
          · exact .inr (.inr rfl)
        · intro ht
          rcases may_num h h1 h8 with ⟨hk, x, rfl, -⟩ | ⟨-, x, y, rfl, -⟩ | ⟨hk, x, y, z, v, rfl, -⟩
          · rcases hk with rfl | rfl <;> cases ht
          · rfl
          · rcases hk with rfl | rfl <;> cases ht
      have hf : basculeref22_Digits.f n u f a kd s d wr l = some (digL (numOf kd l).2, (numOf kd l).1) := by
        show digitsO n u f a kd s d wr l = _
        unfold digitsO
        rw [if_pos hm]
      have hlt := num_lt h h1 h8
      refine Ev.fst hf ?_
      refine Ev.bind (point_ev _ _ s hs.1 (by omega) (digL_dig _) (Nat.le_trans (digL_len 20 _ (by omega)) (by decide))) ?_
      refine Ev.ret' ?_
      rw [pt_digL]
end Go.Proofs.YtenbkjeflancaaaGreatDoor.Q
