/- PPlain -/
import Derived.Test.YtmkekhjbbapngaaGreatDoorSValueReadsPTab
import Derived.Test.YtmkekhjbbapngaaGreatDoorSValueReadsQx13
set_option linter.all false
namespace Go.Proofs.YtmkekhjbbapngaaGreatDoor.Q
open Go.RowKit YtmkekhjbbapngaaGreatDoorW.PrintWords YtmkekhjbbapngaaGreatDoorW.PrintMore
def mkB (l : List UInt8) : ByteArray := ⟨l.toArray⟩
theorem mkB_list (l : List UInt8) : (mkB l).data.toList = l := by simp [mkB]
theorem mkB_toList (l : List UInt8) : (mkB l).toList = l := by rw [Lib.toList_data, mkB_list]
theorem mkB_size (l : List UInt8) : (mkB l).size = l.length := by rw [Lib.size_eq, mkB_list]
theorem mkB_self (a : ByteArray) : mkB a.data.toList = a := by apply ByteArray.ext; simp [mkB]
theorem mkB_app (a b : List UInt8) : mkB a ++ mkB b = mkB (a ++ b) := by
  apply ByteArray.ext
  rw [ByteArray.data_append]
  simp [mkB]
def digs : List UInt8 := [48, 49, 50, 51, 52, 53, 54, 55, 56, 57]
def cutP : List UInt8 → Bool × List UInt8
  | 45 :: r => (true, r)
  | l => (false, l)
def badP (a b : List UInt8) : Bool := a.isEmpty || (!(Lib.trimS (a ++ b) digs).isEmpty || (decide (1 < a.length) && a.head? == some 48))
def restP (m : Bool) (a b : List UInt8) : List UInt8 × Bool × Bool :=
  if badP a b then ([], false, false) else if m && (Lib.trimLeftS (a ++ b) [48]).isEmpty then ([], false, false) else (48 :: Lib.trimLeftS (a ++ b) [48], m, true)
def plainP (t : List UInt8) (s : Int) : List UInt8 × Bool × Bool :=
  if s > 0 then (if (Lib.cut (cutP t).2 [46]).2.2 && decide (((Lib.cut (cutP t).2 [46]).2.1.length : Int) = s) then restP (cutP t).1 (Lib.cut (cutP t).2 [46]).1 (Lib.cut (cutP t).2 [46]).2.1 else ([], false, false))
  else restP (cutP t).1 (cutP t).2 []
theorem cp_eq (a : ByteArray) : strings_CutPrefix.f a ⟨#[45]⟩ = some (mkB (cutP a.data.toList).2, (cutP a.data.toList).1) := by
  unfold strings_CutPrefix.f stringslite_CutPrefix.f stringslite_HasPrefix.f
  have e1 : ((⟨#[45]⟩ : ByteArray).size : Int) = 1 := rfl
  have e2 : (⟨#[45]⟩ : ByteArray).toList = [45] := by rw [Lib.toList_data]
  rw [e1, e2]
  have hsz := Lib.size_eq a
  cases hl : a.data.toList with
  | nil =>
    rw [hl, List.length_nil] at hsz
    rw [if_neg (by omega)]
    have : mkB [] = a := by rw [← hl, mkB_self]
    show some (a, false) = some (mkB [], false)
    rw [this]
  | cons c l =>
    rw [hl, List.length_cons] at hsz
    rw [if_pos (by omega), if_pos (by omega), if_pos (by omega)]
    have e3 : (a.extract 0 ((1 : Int)).toNat).toList = [c] := by
      rw [Lib.toList_data, ByteArray.data_extract, Array.toList_extract, hl]; rfl
    rw [e3]
    simp only [Option.bind_some]
    by_cases hc : c = 45
    · subst hc
      rw [if_pos (by rfl), if_pos (by omega), if_pos (by omega)]
      have : a.extract ((1 : Int)).toNat a.size = mkB l := by
        apply ByteArray.ext
        apply Array.toList_inj.1
        rw [ByteArray.data_extract, Array.toList_extract, hl, hsz]
        simp [mkB]
      simp only [Option.bind_some, this]
      rfl
    · have hb : (([c] : List UInt8) == [45]) = false := beq_eq_false_iff_ne.2 (fun h => hc (List.cons.inj h).1)
      rw [hb]
      have hcut : cutP (c :: l) = (false, c :: l) := by
        unfold cutP
        split
        · rename_i r he
          exact absurd (List.cons.inj he).1 hc
        · rfl
      rw [hcut, ← hl, mkB_self]
      rfl
theorem cut_le (l sep : List UInt8) : (Lib.cut l sep).1.length ≤ l.length ∧ (Lib.cut l sep).2.1.length ≤ l.length := by
  unfold Lib.cut
  split
  · exact ⟨by simp; omega, by simp⟩
  · exact ⟨Nat.le_refl _, by simp⟩
theorem cutP_le (l : List UInt8) : (cutP l).2.length ≤ l.length := by
  unfold cutP
  split
  · simp
  · exact Nat.le_refl _
theorem j1_eq (k : Nat) (m x : Bool) (a b : List UInt8) (ha : a.length ≤ 1000000) (hb : b.length ≤ 1000000) :
    value_plain.j1 (k + 1) m (mkB a) (mkB b) x = some (if x then (mkB [], false, false) else if m && (Lib.trimLeftS (a ++ b) [48]).isEmpty then (mkB [], false, false) else (mkB (48 :: Lib.trimLeftS (a ++ b) [48]), m, true)) := by
  show (if x = true then some ((⟨#[]⟩ : ByteArray), false, false) else (if (mkB a).size + (mkB b).size ≤ 9223372036854775807 then _ else none)) = _
  cases x
  · rw [if_neg (by decide), if_pos (by rw [mkB_size, mkB_size]; omega), mkB_app]
    have hT : strings_TrimLeft.f (mkB (a ++ b)) ⟨#[48]⟩ = some (mkB (Lib.trimLeftS (a ++ b) [48])) := by
      unfold strings_TrimLeft.f
      rw [if_pos ⟨by rw [mkB_size, List.length_append]; omega, by decide, by decide⟩, mkB_list]
      rfl
    rw [hT]
    have hd : (Lib.trimLeftS (a ++ b) [48]).length ≤ 2000000 := by
      unfold Lib.trimLeftS
      exact Nat.le_trans (List.Sublist.length_le (List.dropWhile_sublist _)) (by rw [List.length_append]; omega)
    generalize Lib.trimLeftS (a ++ b) [48] = L at *
    simp only [Option.bind_some, mkB_toList, mkB_size]
    have hj : (⟨#[48]⟩ : ByteArray) ++ mkB L = mkB (48 :: L) := by
      rw [show (⟨#[48]⟩ : ByteArray) = mkB [48] from rfl, mkB_app]; rfl
    rw [hj]
    cases m
    · rw [if_neg (by decide), if_pos (by omega)]; rfl
    · rw [if_pos rfl]
      cases L with
      | nil => rfl
      | cons c L => rw [if_neg (by simp), if_pos (by omega)]; rfl
  · rfl
theorem j0_plain (k : Nat) (m : Bool) (a b : List UInt8) (ha : a.length ≤ 1000000) (hb : b.length ≤ 1000000) :
    value_plain.j0 (k + 2) m (mkB a) (mkB b) = some (mkB (restP m a b).1, (restP m a b).2.1, (restP m a b).2.2) := by
  have fin : ∀ x, badP a b = x → value_plain.j1 (k + 1) m (mkB a) (mkB b) x = some (mkB (restP m a b).1, (restP m a b).2.1, (restP m a b).2.2) := by
    intro x hx
    rw [j1_eq k m x a b ha hb]
    unfold restP
    rw [hx]
    cases x
    · simp only [Bool.false_eq_true, if_false]
      split <;> rfl
    · rfl
  show (if (mkB a).toList = ([] : List UInt8) then value_plain.j1 (k + 1) m (mkB a) (mkB b) true else (if (mkB a).size + (mkB b).size ≤ 9223372036854775807 then _ else none)) = _
  rw [mkB_toList]
  cases ha0 : a with
  | nil =>
    rw [if_pos rfl, ← ha0]
    exact fin true (by unfold badP; rw [ha0]; rfl)
  | cons c r =>
    rw [if_neg (by simp), ← ha0, if_pos (by rw [mkB_size, mkB_size]; omega), mkB_app]
    have hT : strings_Trim.f (mkB (a ++ b)) ⟨#[48, 49, 50, 51, 52, 53, 54, 55, 56, 57]⟩ = some (mkB (Lib.trimS (a ++ b) digs)) := by
      unfold strings_Trim.f
      rw [if_pos ⟨by rw [mkB_size, List.length_append]; omega, by decide, by decide⟩, mkB_list]
      rfl
    rw [hT]
    simp only [Option.bind_some, mkB_toList, mkB_size]
    cases hE : Lib.trimS (a ++ b) digs with
    | nil =>
      rw [if_pos rfl]
      have hbt : bt (mkB a) 0 = (c.toNat : Int) := by
        unfold bt
        have h0 : (0 : Int).toNat < (mkB a).size := by rw [mkB_size, ha0]; simp
        rw [dif_pos h0]
        have : (mkB a)[(0 : Int).toNat]'h0 = c := by
          show (mkB a).data[0] = c
          simp [mkB, ha0]
        rw [this]
      by_cases h1 : 1 < a.length
      · rw [if_pos (by omega), if_pos (by omega), hbt]
        refine fin _ ?_
        unfold badP
        rw [hE, decide_eq_true h1, ha0]
        show (false || (!true || (true && (some c == some 48)))) = _
        rw [Bool.false_or, Bool.not_true, Bool.false_or, Bool.true_and]
        by_cases hc : c = 48
        · subst hc; rfl
        · have h2 : (some c == some (48 : UInt8)) = false := beq_eq_false_iff_ne.2 (fun h => hc (Option.some.inj h))
          have h3 : ((c.toNat : Int) == 48) = false := beq_eq_false_iff_ne.2 (fun h => hc (UInt8.toNat_inj.1 (by show c.toNat = 48; omega)))
          rw [h2, h3]
      · rw [if_neg (by omega)]
        refine fin _ ?_
        unfold badP
        rw [hE, decide_eq_false h1, ha0]
        rfl
    | cons e E =>
      rw [if_neg (by simp)]
      refine fin _ ?_
      unfold badP
      rw [hE, ha0]
      rfl
theorem plain_eq (k : Nat) (t : ByteArray) (s : Int) (ht : t.size ≤ 1000000) :
    value_plain.f (k + 2) t s = some (mkB (plainP t.data.toList s).1, (plainP t.data.toList s).2.1, (plainP t.data.toList s).2.2) := by
  unfold value_plain.f plainP
  rw [cp_eq]
  rw [Lib.size_eq] at ht
  have hle := cutP_le t.data.toList
  generalize cutP t.data.toList = mr at *
  obtain ⟨m, r⟩ := mr
  simp only [Option.bind_some] at hle ⊢
  by_cases hs : s > 0
  · rw [if_pos hs, if_pos hs]
    have hC : strings_Cut.f (mkB r) ⟨#[46]⟩ = some (mkB (Lib.cut r [46]).1, mkB (Lib.cut r [46]).2.1, (Lib.cut r [46]).2.2) := by
      unfold strings_Cut.f
      rw [if_pos (by rw [mkB_size]; omega), mkB_list]
      rfl
    rw [hC]
    have hcl := cut_le r [46]
    generalize Lib.cut r [46] = c at *
    obtain ⟨a, b, fd⟩ := c
    simp only [Option.bind_some, mkB_size] at hcl ⊢
    cases fd
    · rfl
    · rw [if_pos rfl, Bool.true_and]
      by_cases hb : (b.length : Int) = s
      · rw [if_pos hb, decide_eq_true hb]
        exact j0_plain k m a b (by omega) (by omega)
      · rw [if_neg hb, decide_eq_false hb]; rfl
  · rw [if_neg hs, if_neg hs]
    exact j0_plain k m r [] (by omega) (by simp)
end Go.Proofs.YtmkekhjbbapngaaGreatDoor.Q
