/- What the proof of ValueSigns leans on: PureValueSigns. -/
import Derived.Test.YtmkekhjbbapngaaGreatDoorSValueSignsPLaw22
import Derived.Test.YtmkekhjbbapngaaGreatDoorSValueSignsQx30
set_option linter.unusedVariables false
set_option linter.unusedSimpArgs false
namespace Go.Proofs.YtmkekhjbbapngaaGreatDoor.Q
open Go.RowKit Go.Proofs.YtmkekhjbbapngaaGreatDoor.Val Go.Proofs.YtmkekhjbbapngaaGreatDoorW.PrintWords
theorem fixD_no : ∀ n u, (45 : UInt8) ∉ fixD n u
  | 0, u => by simp [fixD]
  | n + 1, u => by
    rw [fixD, List.mem_append, not_or]
    refine ⟨fixD_no n _, ?_⟩
    rw [List.mem_singleton, ← UInt8.toNat_inj, UInt8.toNat_ofNat']
    show ¬ (45 = _)
    omega
theorem pt_no (x sc : Nat) : (45 : UInt8) ∉ pointL false x sc := by
  unfold pointL ptL
  simp only [Bool.false_eq_true, if_false, List.nil_append]
  split
  · rw [dec_fix]; exact fixD_no _ _
  · rw [pad_fix, List.mem_append, List.mem_cons, not_or, not_or]
    exact ⟨fun h => fixD_no _ _ (List.mem_of_mem_take h), by decide, fun h => fixD_no _ _ (List.mem_of_mem_drop h)⟩
theorem pt_pos (b : Bool) (x sc : Nat) : 1 ≤ (pointL b x sc).length := by
  rw [pt_len]
  have : 1 ≤ Lib.nDigits x := by
    by_cases h : x < 10
    · rw [Lib.nDigits_small h]; exact Nat.le_refl _
    · rw [Lib.nDigits_big h]; omega
  split <;> split <;> omega
theorem pt_head (x sc : Nat) : ∃ r, pointL true x sc = 45 :: r := ⟨_, rfl⟩
theorem bt_head (c : UInt8) (r : List UInt8) : bt (mkB (c :: r)) 0 = (c.toNat : Int) := by
  unfold bt
  have h0 : (0 : Int).toNat < (mkB (c :: r)).size := by rw [mkB_size]; simp
  rw [dif_pos h0]
  rfl
theorem signs_j2 (k : Nat) (p q : List UInt8) (hw : Int) (h1 : hw < 32768 → p = q) (h2 : ¬ hw < 32768 → (∃ r, q = 45 :: r) ∧ (45 : UInt8) ∉ p ∧ 1 ≤ p.length) :
    basculelaw22_ValueSigns.j2 (k + 4) (mkB p) (mkB q) 0 hw = some true := by
  show (if hw < 32768 then ((basculelaw22_awake.f (k + 3)).bind fun t504 => (if t504 = true then (if (0 : Int) = 0 then (some ((mkB p).toList == (mkB q).toList)) else (some false)) else (some false))) else ((basculelaw22_awake.f (k + 3)).bind fun t505 => (if t505 = true then (if (0 : Int) = 0 then (if 0 < ((mkB q).size : Int) then (if (bt (mkB q) 0) = 45 then (if 0 < ((mkB p).size : Int) then (some ((bt (mkB p) 0) != 45)) else (none)) else (some false)) else (none)) else (some false)) else (some false)))) = _
  rw [awake_eq]
  by_cases h : hw < 32768
  · rw [if_pos h, h1 h]
    simp only [Option.bind_some, if_true, beq_self_eq_true]
  · rw [if_neg h]
    obtain ⟨⟨r, rfl⟩, hno, hp⟩ := h2 h
    obtain ⟨c, t, rfl⟩ : ∃ c t, p = c :: t := by
      cases p with
      | nil => simp at hp
      | cons c t => exact ⟨c, t, rfl⟩
    simp only [Option.bind_some, if_true, mkB_size, bt_head]
    rw [if_pos (by simp), if_pos (by decide), if_pos (by simp)]
    have hc : c ≠ 45 := fun h => hno (by rw [h]; simp)
    have : ((c.toNat : Int) != 45) = true := by
      rw [bne_iff_ne]
      intro h
      exact hc (UInt8.toNat_inj.1 (by show c.toNat = 45; omega))
    rw [this]
theorem signs_fin (k : Nat) (kd sc : Int) (l : List Int) (hw : Int) (hk : kd = 2 ∨ kd = 4 ∨ kd = 6 ∨ kd = 9) (hs0 : 0 ≤ sc) (hs9 : sc ≤ 9) (hw32 : 32768 ≤ hw ↔ 2 ^ (16 * l.length - 1) ≤ numX (ordW kd l)) :
    basculelaw22_ValueSigns.j2 (k + 4) (mkB (pointL (numOf kd l).1 (numOf kd l).2 sc.toNat)) (mkB (pointL (numOf (kd + 1) l).1 (numOf (kd + 1) l).2 sc.toNat)) 0 hw = some true := by
  have e1 : numOf kd l = (false, numX (ordW kd l)) := by
    unfold numOf
    have : sgn kd = false := by rcases hk with rfl | rfl | rfl | rfl <;> rfl
    rw [this, Bool.false_and, if_neg (by decide)]
  have eo : ordW (kd + 1) l = ordW kd l := by
    unfold ordW
    have : trn (kd + 1) = trn kd := by rcases hk with rfl | rfl | rfl | rfl <;> rfl
    rw [this]
  have e2 : numOf (kd + 1) l = if 2 ^ (16 * l.length - 1) ≤ numX (ordW kd l) then (true, 2 ^ (16 * l.length) - numX (ordW kd l)) else (false, numX (ordW kd l)) := by
    unfold numOf
    have : sgn (kd + 1) = true := by rcases hk with rfl | rfl | rfl | rfl <;> rfl
    rw [this, eo, Bool.true_and]
    split <;> split <;> simp_all
  refine signs_j2 k _ _ hw (fun h => ?_) (fun h => ?_)
  · rw [e1, e2, if_neg (fun h2 => by have := hw32.2 h2; omega)]
  · rw [e1, e2, if_pos (hw32.1 (by omega))]
    exact ⟨pt_head _ _, pt_no _ _, pt_pos _ _ _⟩
theorem signs_j1 (k : Nat) (kd : Int) (l : List Int) (p q : ByteArray) (e : Int) : basculelaw22_ValueSigns.j1 (k + 1) kd l p q e false = if 0 < (l.length : Int) then (if kd = 6 then (if 1 < (l.length : Int) then basculelaw22_ValueSigns.j2 k p q e (rd l 1) else none) else basculelaw22_ValueSigns.j2 k p q e (rd l 0)) else none := rfl
theorem signs_main (kd sc : Int) (l : List Int) (hk : kd = 2 ∨ kd = 4 ∨ kd = 6 ∨ kd = 9) (hs0 : 0 ≤ sc) (hs9 : sc ≤ 9) (hl : l.length ≤ 10) :
    basculelaw22_ValueSigns.j0 20 kd sc l false = some true := by
  unfold basculelaw22_ValueSigns.j0 basculelaw22_row.f
  have hw1 : wrap64 (kd + 1) = kd + 1 := by unfold wrap64; omega
  simp only [Bool.false_eq_true, if_false, Option.bind_some, hw1]
  have hk1 : kd = 2 ∨ kd = 3 ∨ kd = 4 ∨ kd = 5 ∨ kd = 6 ∨ kd = 7 ∨ kd = 9 ∨ kd = 10 := by omega
  have hk2 : kd + 1 = 2 ∨ kd + 1 = 3 ∨ kd + 1 = 4 ∨ kd + 1 = 5 ∨ kd + 1 = 6 ∨ kd + 1 = 7 ∨ kd + 1 = 9 ∨ kd + 1 = 10 := by omega
  have hsame : mayB ⟨#[97]⟩ 1 3 0 (kd + 1) sc 0 false l = mayB ⟨#[97]⟩ 1 3 0 kd sc 0 false l := by
    rw [may_row1 kd sc l hk1 hs0 hs9, may_row1 (kd + 1) sc l hk2 hs0 hs9]
    have : Tab.wordsOf (kd + 1) = Tab.wordsOf kd := by rcases hk with rfl | rfl | rfl | rfl <;> rfl
    rw [this]
  cases hm : mayB ⟨#[97]⟩ 1 3 0 kd sc 0 false l
  · rw [text_no1 kd sc l (by omega) hm, text_no1 (kd + 1) sc l (by omega) (hsame.trans hm)]
    simp only [Option.bind_some]
    rw [if_neg (by decide), awake_eq 16]
    rfl
  · rw [text_num1 kd sc l hk1 (by omega) hm, text_num1 (kd + 1) sc l hk2 (by omega) (hsame.trans hm)]
    simp only [Option.bind_some, if_true]
    rcases may_num hm (by omega) (by omega) with ⟨hkk, x, rfl, hx⟩ | ⟨hkk, x, y, rfl, hx, hy⟩ | ⟨hkk, x, y, z, v, rfl, hx, hy, hz, hv⟩
    · have h2 : kd = 2 := by omega
      subst h2
      rw [if_neg (by simp), if_neg (by decide)]
      rw [signs_j1 18]
      rw [if_pos (by simp), if_neg (by decide)]
      refine signs_fin 14 2 sc [x] x hk hs0 hs9 ?_
      show 32768 ≤ x ↔ 2 ^ (16 * 1 - 1) ≤ 0 * 65536 + x.toNat
      rw [show 2 ^ (16 * 1 - 1) = 32768 by decide]
      omega
    · rw [if_neg (by simp)]
      by_cases h6 : kd = 6
      · subst h6
        rw [if_pos rfl]
        rw [show decide ((([x, y] : List Int).length : Int) < 2) = false by simp, signs_j1 18]
        rw [if_pos (by simp), if_pos rfl, if_pos (by simp)]
        refine signs_fin 14 6 sc [x, y] y hk hs0 hs9 ?_
        show 32768 ≤ y ↔ 2 ^ (16 * 2 - 1) ≤ (0 * 65536 + y.toNat) * 65536 + x.toNat
        rw [show 2 ^ (16 * 2 - 1) = 2147483648 by decide]
        omega
      · have h4 : kd = 4 := by omega
        subst h4
        rw [if_neg (by decide)]
        rw [signs_j1 18]
        rw [if_pos (by simp), if_neg (by decide)]
        refine signs_fin 14 4 sc [x, y] x hk hs0 hs9 ?_
        show 32768 ≤ x ↔ 2 ^ (16 * 2 - 1) ≤ (0 * 65536 + x.toNat) * 65536 + y.toNat
        rw [show 2 ^ (16 * 2 - 1) = 2147483648 by decide]
        omega
    · have h9 : kd = 9 := by omega
      subst h9
      rw [if_neg (by simp), if_neg (by decide)]
      rw [signs_j1 18]
      rw [if_pos (by simp), if_neg (by decide)]
      refine signs_fin 14 9 sc [x, y, z, v] x hk hs0 hs9 ?_
      show 32768 ≤ x ↔ 2 ^ (16 * 4 - 1) ≤ (((0 * 65536 + x.toNat) * 65536 + y.toNat) * 65536 + z.toNat) * 65536 + v.toNat
      rw [show 2 ^ (16 * 4 - 1) = 9223372036854775808 by decide]
      omega
end Go.Proofs.YtmkekhjbbapngaaGreatDoor.Q
namespace Go.Proofs.YtmkekhjbbapngaaGreatDoor.Pure
open Go.RowKit Go.Proofs.YtmkekhjbbapngaaGreatDoor.Q Go.Proofs.YtmkekhjbbapngaaGreatDoor.Val Go.Proofs.YtmkekhjbbapngaaGreatDoorW.PrintWords
theorem ValueSigns : basculelaw22_ValueSigns.Pure := by
  intro kd sc l _ _ _ _ _
  refine ⟨20, ?_⟩
  have yes : basculelaw22_ValueSigns.j0 20 kd sc l true = some true := rfl
  have go : (kd = 2 ∨ kd = 4 ∨ kd = 6 ∨ kd = 9) → (if sc < 0 then (basculelaw22_ValueSigns.j0 20 kd sc l true) else (if sc > 9 then (basculelaw22_ValueSigns.j0 20 kd sc l true) else (basculelaw22_ValueSigns.j0 20 kd sc l (decide ((l.length : Int) > 10))))) = some true := by
    intro hk
    by_cases h1 : sc < 0
    · rw [if_pos h1]; exact yes
    rw [if_neg h1]
    by_cases h2 : sc > 9
    · rw [if_pos h2]; exact yes
    rw [if_neg h2]
    by_cases h3 : (l.length : Int) > 10
    · rw [decide_eq_true h3]; exact yes
    · rw [decide_eq_false h3]
      exact signs_main kd sc l hk (by omega) (by omega) (by omega)
  unfold basculelaw22_ValueSigns.f
  by_cases k2 : kd = 2
  · rw [if_pos k2]; exact go (by omega)
  rw [if_neg k2]
  by_cases k4 : kd = 4
  · rw [if_pos k4]; exact go (by omega)
  rw [if_neg k4]
  by_cases k6 : kd = 6
  · rw [if_pos k6]; exact go (by omega)
  rw [if_neg k6]
  by_cases k9 : kd = 9
  · rw [if_pos k9]; exact go (by omega)
  rw [if_neg k9]
  exact yes
end Go.Proofs.YtmkekhjbbapngaaGreatDoor.Pure
