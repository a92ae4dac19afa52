/- What the proof of ValueTurned leans on: PSound. -/
import Derived.Test.YtmkekhjbbapngaaGreatDoorSValueTurnedPInv
set_option linter.unusedVariables false
set_option linter.unusedSimpArgs false
namespace Go.Proofs.YtmkekhjbbapngaaGreatDoor.Val
open Go.RowKit Go.Proofs.YtmkekhjbbapngaaGreatDoor.Q Go.Proofs.YtmkekhjbbapngaaGreatDoorW.PrintWords
theorem fin_or (n : ByteArray) (u f a kd s d : Int) (wr : Bool) (l : List Int) (t : ByteArray) :
    (mayB n u f a kd s d wr l = true ∧ textR n u f a kd s d wr l = t ∧ finL n u f a kd s d wr l t = l ∧ finE n u f a kd s d wr l t = 0) ∨ (finL n u f a kd s d wr l t = [] ∧ finE n u f a kd s d wr l t = 4) := by
  unfold finL finE
  by_cases h : (mayB n u f a kd s d wr l && decide ((textR n u f a kd s d wr l).toList = t.toList)) = true
  · left
    rw [if_pos h, if_pos h]
    simp only [Bool.and_eq_true, decide_eq_true_eq] at h
    refine ⟨h.1, ?_, rfl, rfl⟩
    have := h.2
    rw [Lib.toList_data, Lib.toList_data] at this
    exact ByteArray.ext (Array.toList_inj.1 this)
  · right
    rw [if_neg h, if_neg h]
    exact ⟨rfl, rfl⟩
theorem may_bit {n : ByteArray} {u f a s d : Int} {wr : Bool} (v : Nat) (hr : rowB n u f a 1 s d wr = true) (hv : v ≤ 1) : mayB n u f a 1 s d wr [(v : Int)] = true := by
  unfold mayB
  rw [hr]
  rcases (by omega : v = 0 ∨ v = 1) with rfl | rfl <;> decide
theorem words_cases (n : ByteArray) (u f a kd s d : Int) (wr : Bool) (t : ByteArray) :
    (∃ l, wordsRE n u f a kd s d wr t = (l, 0) ∧ mayB n u f a kd s d wr l = true ∧ textR n u f a kd s d wr l = t ∧ (kd ≠ 8 → (plainP t.data.toList s).2.2 = true)) ∨ (∃ e, e ≠ 0 ∧ wordsRE n u f a kd s d wr t = ([], e)) := by
  unfold wordsRE
  cases hr : rowB n u f a kd s d wr
  · right; exact ⟨1, by decide, rfl⟩
  · simp only [if_true]
    by_cases h8 : kd = 8
    · rw [if_pos h8]
      cases hexPB t.data.toList with
      | ok v =>
        simp only
        rcases fin_or n u f a kd s d wr [((v / 65536 : Nat) : Int), ((v % 65536 : Nat) : Int)] t with ⟨h1, h2, h3, h4⟩ | ⟨h3, h4⟩
        · left; exact ⟨_, by rw [h3, h4], h1, h2, fun h => absurd h8 h⟩
        · right; exact ⟨4, by decide, by rw [h3, h4]⟩
      | range => right; exact ⟨4, by decide, rfl⟩
      | _ => right; exact ⟨4, by decide, rfl⟩
    · rw [if_neg h8]
      cases hp : (plainP t.data.toList s).2.2
      · right; exact ⟨4, by decide, rfl⟩
      · simp only [if_true]
        cases hd : Lib.parseUintB 64 (plainP t.data.toList s).1 with
        | ok v =>
          simp only
          by_cases h1 : kd = 1
          · rw [if_pos h1]
            by_cases hb : ((plainP t.data.toList s).2.1 || decide (1 < v)) = true
            · rw [if_pos hb]; right; exact ⟨220, by decide, rfl⟩
            · rw [if_neg hb]
              left
              simp only [Bool.or_eq_true, decide_eq_true_eq, not_or] at hb
              subst h1
              have hs : s = 0 := ((row_facts hr).2.2.2 (Or.inl rfl)).1
              subst hs
              have hm := may_bit (n := n) (u := u) (f := f) (a := a) (s := 0) (d := d) (wr := wr) v hr (by omega)
              refine ⟨_, rfl, hm, ?_, fun _ => trivial⟩
              have ht := plain_bit t.data.toList v hp (by simpa using hb.1) hd (by omega)
              unfold textR
              rw [hm, if_pos rfl]
              have e : textL 1 0 [(v : Int)] = t.data.toList := by
                rw [ht]
                show [UInt8.ofNat (48 + (v : Int).toNat)] = _
                rw [Int.toNat_natCast]
              rw [e]
          · rw [if_neg h1]
            cases hw : (wordsN kd (plainP t.data.toList s).2.1 v).2
            · right; exact ⟨220, by decide, rfl⟩
            · simp only [if_true]
              rcases fin_or n u f a kd s d wr (wordsN kd (plainP t.data.toList s).2.1 v).1 t with ⟨g1, g2, g3, g4⟩ | ⟨g3, g4⟩
              · left; exact ⟨_, by rw [g3, g4], g1, g2, fun _ => trivial⟩
              · right; exact ⟨4, by decide, by rw [g3, g4]⟩
        | range => right; exact ⟨220, by decide, rfl⟩
        | _ => right; exact ⟨220, by decide, rfl⟩
end Go.Proofs.YtmkekhjbbapngaaGreatDoor.Val
