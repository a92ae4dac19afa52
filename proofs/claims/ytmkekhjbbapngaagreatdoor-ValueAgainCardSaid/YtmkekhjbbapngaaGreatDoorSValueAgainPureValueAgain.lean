/- What the proof of ValueAgain leans on: PureValueAgain. -/
import Derived.Test.YtmkekhjbbapngaaGreatDoorSValueAgainPAwake
import Derived.Test.YtmkekhjbbapngaaGreatDoorSValueAgainPSound
import Derived.Test.YtmkekhjbbapngaaGreatDoorSValueAgainQx25
set_option linter.unusedVariables false
set_option linter.unusedSimpArgs false
namespace Go.Proofs.YtmkekhjbbapngaaGreatDoor.Q
open Go.RowKit Go.Proofs.YtmkekhjbbapngaaGreatDoor.Val Go.Proofs.YtmkekhjbbapngaaGreatDoorW.PrintWords
theorem again_step (k : Nat) (L : List ByteArray) (i : Nat) (n : ByteArray) (u f a kd s d : Int) (wr : Bool) (hi : i < L.length) (hL : L.length ≤ 100) (hz : (rdOf ByteArray.empty L (i : Int)).size ≤ 1000000) (h4 : wordsE n u f a kd s d wr (rdOf ByteArray.empty L (i : Int)) = 4) :
    basculelaw22_ValueAgain.l0 (k + 1) L (i : Int) n u f a kd s d wr = basculelaw22_ValueAgain.l0 k L ((i + 1 : Nat) : Int) n u f a kd s d wr := by
  have w : wrap64 ((i : Int) + 1) = ((i + 1 : Nat) : Int) := by unfold wrap64; omega
  show (if (i : Int) < (L.length : Int) then (if 0 ≤ (i : Int) then ((value_Words.f n u f a kd s d wr (rdOf ByteArray.empty L (i : Int))).bind fun bt392 => (if bt392.2 = 4 then (basculelaw22_ValueAgain.l0 k L (wrap64 ((i : Int) + 1)) n u f a kd s d wr) else (some false))) else (none)) else ((basculelaw22_awake.f k).bind fun t396 => (some t396))) = _
  rw [if_pos (by omega), if_pos (by omega)]
  unfold value_Words.f
  rw [if_pos hz]
  simp only [Option.bind_some]
  rw [if_pos h4, w]
theorem again_four (k : Nat) (p q r v : ByteArray) (n : ByteArray) (u f a kd s d : Int) (wr : Bool) (z1 : p.size ≤ 1000000) (z2 : q.size ≤ 1000000) (z3 : r.size ≤ 1000000) (z4 : v.size ≤ 1000000)
    (m1 : wordsE n u f a kd s d wr p = 4) (m2 : wordsE n u f a kd s d wr q = 4) (m3 : wordsE n u f a kd s d wr r = 4) (m4 : wordsE n u f a kd s d wr v = 4) :
    basculelaw22_ValueAgain.l0 (k + 5) [p, q, r, v] 0 n u f a kd s d wr = ((basculelaw22_awake.f k).bind fun t396 => (some t396)) := by
  have h1 := again_step (k + 4) [p, q, r, v] 0 n u f a kd s d wr (by simp) (by simp) z1 m1
  have h2 := again_step (k + 3) [p, q, r, v] (0 + 1) n u f a kd s d wr (by simp) (by simp) z2 m2
  have h3 := again_step (k + 2) [p, q, r, v] (0 + 1 + 1) n u f a kd s d wr (by simp) (by simp) z3 m3
  have h4 := again_step (k + 1) [p, q, r, v] (0 + 1 + 1 + 1) n u f a kd s d wr (by simp) (by simp) z4 m4
  refine h1.trans (h2.trans (h3.trans (h4.trans ?_)))
  show (if (4 : Int) < (4 : Int) then _ else ((basculelaw22_awake.f k).bind fun t396 => (some t396))) = _
  rw [if_neg (by decide)]
end Go.Proofs.YtmkekhjbbapngaaGreatDoor.Q
namespace Go.Proofs.YtmkekhjbbapngaaGreatDoor.Pure
open Go.RowKit Go.Proofs.YtmkekhjbbapngaaGreatDoor.Q Go.Proofs.YtmkekhjbbapngaaGreatDoor.Val Go.Proofs.YtmkekhjbbapngaaGreatDoorW.PrintWords
theorem ValueAgain : basculelaw22_ValueAgain.Pure := by
  intro n u f a kd s d wr t _ _ _ _ _ _ _
  refine ⟨20, ?_⟩
  unfold basculelaw22_ValueAgain.f
  by_cases ht : (t.size : Int) > 300
  · rw [if_pos ht]
  rw [if_neg ht]
  have hW : value_Words.f n u f a kd s d wr t = some (wordsR n u f a kd s d wr t, wordsE n u f a kd s d wr t) := by
    unfold value_Words.f
    rw [if_pos (by omega)]
  rw [hW]
  simp only [Option.bind_some]
  rcases words_cases n u f a kd s d wr t with ⟨l, e, hm, hx, hp⟩ | ⟨x, hx, e⟩
  · have e1 : wordsR n u f a kd s d wr t = l := by unfold wordsR; rw [e]
    have e2 : wordsE n u f a kd s d wr t = 0 := by unfold wordsE; rw [e]
    rw [e1, e2, if_pos rfl]
    have hT : value_Text.f n u f a kd s d wr l = some (t, 0) := by
      unfold value_Text.f
      rw [if_pos (Nat.le_trans (Val.may_short hm) (by decide)), hx, hm]
      rfl
    rw [hT]
    simp only [Option.bind_some, if_true]
    have eb : (t.toList != t.toList) = false := by simp
    rw [eb]
    obtain ⟨m1, m2, m3, m4⟩ := words_more hm hx hp
    have hj : basculelaw22_ValueAgain.j0 20 t false n u f a kd s d wr = (if 1 + t.size ≤ 9223372036854775807 then (if t.size + 1 ≤ 9223372036854775807 then (basculelaw22_ValueAgain.l0 19 [(⟨#[43]⟩ : ByteArray) ++ t, (⟨#[48]⟩ : ByteArray) ++ t, t ++ (⟨#[32]⟩ : ByteArray), (⟨#[32]⟩ : ByteArray) ++ t] 0 n u f a kd s d wr) else none) else none) := by
      rw [basculelaw22_ValueAgain.j0, if_neg (by decide)]
    have z1 : ((⟨#[43]⟩ : ByteArray) ++ t).size ≤ 1000000 := by rw [ByteArray.size_append]; show 1 + t.size ≤ _; omega
    have z2 : ((⟨#[48]⟩ : ByteArray) ++ t).size ≤ 1000000 := by rw [ByteArray.size_append]; show 1 + t.size ≤ _; omega
    have z3 : (t ++ (⟨#[32]⟩ : ByteArray)).size ≤ 1000000 := by rw [ByteArray.size_append]; show t.size + 1 ≤ _; omega
    have z4 : ((⟨#[32]⟩ : ByteArray) ++ t).size ≤ 1000000 := by rw [ByteArray.size_append]; show 1 + t.size ≤ _; omega
    have h := again_four 14 _ _ _ _ n u f a kd s d wr z1 z2 z3 z4 m1 m2 m3 m4
    rw [awake_eq 11] at h
    generalize (⟨#[43]⟩ : ByteArray) ++ t = p1 at *
    generalize (⟨#[48]⟩ : ByteArray) ++ t = p2 at *
    generalize t ++ (⟨#[32]⟩ : ByteArray) = p3 at *
    generalize (⟨#[32]⟩ : ByteArray) ++ t = p4 at *
    rw [show basculelaw22_ValueAgain.j0 20 t false n u f a kd s d wr = (if 1 + t.size ≤ 9223372036854775807 then (if t.size + 1 ≤ 9223372036854775807 then (basculelaw22_ValueAgain.l0 19 [p1, p2, p3, p4] 0 n u f a kd s d wr) else none) else none) from hj]
    rw [if_pos (by omega), if_pos (by omega), h]
    rfl
  · have e1 : wordsR n u f a kd s d wr t = [] := by unfold wordsR; rw [e]
    have e2 : wordsE n u f a kd s d wr t = x := by unfold wordsE; rw [e]
    rw [e1, e2, if_neg hx, awake_eq 17]
    rfl
end Go.Proofs.YtmkekhjbbapngaaGreatDoor.Pure
