/- What the proof of SubsFinds leans on: TopA. -/
import Derived.Test.YtjibcekillcgjaaDoorSSubsFindsShelf
import Derived.Below
import Derived.WalkKit
import Derived.Deep.DeepFit
import Derived.Lib.DecodeNEq
import Derived.Lib.Hide
import Derived.WalkMore
import Derived.LoopTactic
import Derived.OwnWalk
import Derived.Outline
set_option linter.unusedVariables false
set_option linter.unusedSimpArgs false
namespace Go.Proofs.YtjibcekillcgjaaDoor.Top
open Go.RowKit
theorem bdn {B : Nat} {a w : World} (h : Below B a w) (n : Nat) : Below B a (w.drewN n) := h.trans ⟨rfl, rfl, rfl, Nat.le_refl _, fun _ _ => rfl⟩
theorem ownsRow_below {B : Nat} {e : TypeId} {k : Nat} {v : Value} {n : Nat} {xs : List Value} {w w' : World} (h : w.ownsRow B e k v n xs) (hb : Below w.heap.size w w') : w'.ownsRow B e k v n xs :=
  h.kept (row := none) ⟨hb.os, hb.tape, hb.output, hb.size, fun j hj _ => hb.block j hj⟩ (by cases hv : v.ownBlock <;> simp)
structure Laid (w : World) : Prop where
  u8 : Lib.Utf8Tabs 1 2 w
  ml : ∃ m : Int, w.cell? ⟨0, 0, none⟩ = some (.int .i64 m)
theorem lt_cell {w : World} {a : Addr} {v : Value} (h : w.cell? a = some v) : a.block < w.heap.size := by
  unfold World.cell? at h
  cases ho : w.heap[a.block]? with
  | none => simp [ho] at h
  | some o => exact (Array.getElem?_eq_some_iff.1 ho).1
theorem cell_below {w w' : World} {n : Nat} {a : Addr} {v : Value} (hb : Below n w w') (hn : w.heap.size ≤ n) (h : w.cell? a = some v) : w'.cell? a = some v :=
  (hb.cell (Nat.lt_of_lt_of_le (lt_cell h) hn)).trans h
theorem Laid.below {w w' : World} (h : Laid w) (hb : Below w.heap.size w w') : Laid w' where
  u8 := ⟨fun c hc => cell_below hb (Nat.le_refl _) (h.u8.1 c hc), fun i hi => ⟨cell_below hb (Nat.le_refl _) (h.u8.2 i hi).1, cell_below hb (Nat.le_refl _) (h.u8.2 i hi).2⟩⟩
  ml := by obtain ⟨m, hm⟩ := h.ml; exact ⟨m, cell_below hb (Nat.le_refl _) hm⟩
def pointOf (s : ByteArray) : Nat × Nat :=
  if (Lib.decodeGo s).1 = 0 ∨ (Lib.decodeGo s).1 = 65533 ∧ (Lib.decodeGo s).2 < 2 then (0, 0) else Lib.decodeGo s
theorem decode_small (s : ByteArray) : (Lib.decodeGo s).1 ≤ 1114111 ∧ (Lib.decodeGo s).2 ≤ 4 ∧ (Lib.decodeGo s).2 ≤ s.size ∧ (s.size ≠ 0 → 1 ≤ (Lib.decodeGo s).2) := by
  unfold Lib.decodeGo
  split
  · rename_i h
    refine ⟨by simp, by simp, by simp, fun h' => absurd h h'⟩
  · rw [Lib.decode_at]
    have h0 := (s.get! 0).toNat_lt; have h1 := (s.get! 1).toNat_lt; have h2 := (s.get! 2).toNat_lt; have h3 := (s.get! 3).toNat_lt
    simp only [Nat.sub_zero, Nat.zero_add]
    generalize (s.get! 0).toNat = b0 at *
    generalize (s.get! 1).toNat = b1 at *
    generalize (s.get! 2).toNat = b2 at *
    generalize (s.get! 3).toNat = b3 at *
    unfold Lib.decodeN
    repeat' split
    all_goals (refine ⟨?_, ?_, ?_, fun _ => ?_⟩ <;> simp <;> omega)
theorem point_calls (s : ByteArray) (w : World) (hL : Laid w) :
    Calls Tryd.prog 69 #[.string s] w fun e w' => e = .returned (.tuple #[.int .i64 (pointOf s).1, .int .i64 (pointOf s).2]) ∧ Below w.heap.size w w' := by
  obtain ⟨hd, hk, -, -⟩ := decode_small s
  have cD := Tryd.utf8_DecodeRuneInString s w hL.u8
  unfold pointOf
  generalize (Lib.decodeGo s) = d at *
  obtain ⟨R, K⟩ := d
  simp only at *
  have hR0 : (0 : Int) ≤ (R : Int) := by omega
  have hR1 : (R : Int) ≤ 1114111 := by omega
  by_cases h0 : R = 0
  · subst h0
    rw [if_pos (Or.inl rfl)]
    go_enter Tryd.func69, Tryd.ntmps69
    go_wp2_with (go_at_call 83; refine cD.mono ?_; rintro e w' ⟨rfl, hb⟩)
    go_ret2
    exact ⟨rfl, hb⟩
  · have h0' : ((R : Int) == 0) = false := beq_eq_false_iff_ne.2 (by omega)
    by_cases h1 : R = 65533
    · subst h1
      by_cases h2 : K < 2
      · have h2' : decide ((K : Int) < 2) = true := decide_eq_true (by omega)
        rw [if_pos (Or.inr ⟨rfl, h2⟩)]
        go_enter Tryd.func69, Tryd.ntmps69
        go_wp2_with (go_at_call 83; refine cD.mono ?_; rintro e w' ⟨rfl, hb⟩)
        go_ret2
        exact ⟨rfl, hb⟩
      · have h2' : decide ((K : Int) < 2) = false := decide_eq_false (by omega)
        rw [if_neg (by omega)]
        go_enter Tryd.func69, Tryd.ntmps69
        go_wp2_with (go_at_call 83; refine cD.mono ?_; rintro e w' ⟨rfl, hb⟩)
        go_ret2
        exact ⟨rfl, hb⟩
    · have h1' : ((R : Int) == 65533) = false := beq_eq_false_iff_ne.2 (by omega)
      rw [if_neg (by omega)]
      go_enter Tryd.func69, Tryd.ntmps69
      go_wp2_with (go_at_call 83; refine cD.mono ?_; rintro e w' ⟨rfl, hb⟩)
      go_ret2
      exact ⟨rfl, hb⟩
def strLen : Value → Nat
  | .string s => s.size
  | _ => 0
def okPts : Nat → ByteArray → Bool
  | 0, s => decide (s.size = 0)
  | k + 1, s => if s.size = 0 then true else if (pointOf s).2 = 0 then false else okPts k (s.extract (pointOf s).2 s.size)
def isU (s : ByteArray) : Bool := decide (s.size ≤ 65535) && okPts s.size s
theorem okPts_nil (k : Nat) (s : ByteArray) (h : s.size = 0) : okPts k s = true := by cases k <;> simp [okPts, h]
theorem pointOf_le (s : ByteArray) : (pointOf s).2 ≤ s.size := by
  unfold pointOf
  split
  · simp
  · exact (decode_small s).2.2.1
theorem pointOf_small (s : ByteArray) : (pointOf s).1 ≤ 1114111 ∧ (pointOf s).2 ≤ 4 := by
  unfold pointOf
  split
  · simp
  · exact ⟨(decode_small s).1, (decode_small s).2.1⟩
theorem okPts_step (k : Nat) (s : ByteArray) (h0 : s.size ≠ 0) (h : (pointOf s).2 ≠ 0) : okPts (k + 1) s = okPts k (s.extract (pointOf s).2 s.size) := by
  rw [okPts, if_neg h0, if_neg h]
theorem okPts_more (k : Nat) : ∀ s : ByteArray, s.size ≤ k → okPts (k + 1) s = okPts k s := by
  induction k with
  | zero => intro s h; have h0 : s.size = 0 := by omega
            simp [okPts, h0]
  | succ k ih =>
    intro s h
    by_cases h0 : s.size = 0
    · rw [okPts_nil _ _ h0, okPts_nil _ _ h0]
    · by_cases h1 : (pointOf s).2 = 0
      · have e : ∀ j, okPts (j + 1) s = false := fun j => by rw [okPts, if_neg h0, if_pos h1]
        rw [e, e]
      · rw [okPts_step _ _ h0 h1, okPts_step _ _ h0 h1]
        have := pointOf_le s
        exact ih _ (by rw [ByteArray.size_extract]; omega)
theorem okPts_enough (k j : Nat) (s : ByteArray) (h : s.size ≤ k) (hj : s.size ≤ j) : okPts j s = okPts k s := by
  have go : ∀ d, okPts (s.size + d) s = okPts s.size s := by
    intro d
    induction d with
    | zero => rfl
    | succ d ih => rw [← Nat.add_assoc, okPts_more _ _ (by omega), ih]
  have hk := go (k - s.size)
  have hj' := go (j - s.size)
  rw [show s.size + (k - s.size) = k by omega] at hk
  rw [show s.size + (j - s.size) = j by omega] at hj'
  rw [hk, hj']
theorem okPts_next (s : ByteArray) (h0 : s.size ≠ 0) (h : (pointOf s).2 ≠ 0) : okPts s.size s = okPts (s.extract (pointOf s).2 s.size).size (s.extract (pointOf s).2 s.size) := by
  obtain ⟨k, hk⟩ : ∃ k, s.size = k + 1 := ⟨s.size - 1, by omega⟩
  have hstep := okPts_step k s h0 h
  rw [show okPts s.size s = okPts (k + 1) s by rw [hk], hstep]
  refine okPts_enough _ _ _ (Nat.le_refl _) ?_
  have := pointOf_le s
  rw [ByteArray.size_extract]; omega
theorem Tryd.infoInt : (Tryd.prog.info? 3).map (fun i => (i.zero, i.size, i.bytes)) = some (some (.int .i64 0), 1, 8) := by kernel_rfl
set_option maxHeartbeats 1600000 in
set_option maxRecDepth 1000000 in
theorem points_calls (s : ByteArray) (w : World) (hL : Laid w) :
    Calls Tryd.prog 45 #[.string s] w fun e w' => (∃ v, e = .returned (.tuple #[v, .int .i64 (if isU s then 0 else 90)])) ∧ Below w.heap.size w w' := by
  by_cases hs : 65535 < s.size
  · have hs' : decide ((65535 : Int) < (s.size : Int)) = true := decide_eq_true (by omega)
    have hu : isU s = false := by unfold isU; rw [decide_eq_false (by omega)]; rfl
    rw [hu]
    go_enter Tryd.func45, Tryd.ntmps45
    go_wp2
    go_step3
    go_wp2
    rw [Exit.noGoto_ret]
    go_ret2
    exact ⟨⟨_, rfl⟩, Below.refl _ _⟩
  · have hs' : decide ((65535 : Int) < (s.size : Int)) = false := decide_eq_false (by omega)
    have hu : isU s = okPts s.size s := by unfold isU; rw [decide_eq_true (by omega)]; rfl
    rw [hu]
    clear hu
    obtain ⟨i0, hi, hz0, hz1, hz2⟩ := info_parts Tryd.infoInt
    obtain ⟨B, hB⟩ : ∃ B, okPts s.size s = B := ⟨_, rfl⟩
    have HB := Lib.hid hB
    rw [hB]
    clear hB
    go_enter Tryd.func45, Tryd.ntmps45
    go_wp2
    go_step3
    go_wp2
    go_step3
    go_wp2
    go_loopw [0, 4] (fun sv v wr => ∃ (s' : ByteArray) (l : List Int), sv = .string s' ∧ Hid (okPts s'.size s' = B) ∧ l.length + s'.size ≤ 65535 ∧ wr.ownsRow w.heap.size 3 1 v l.length (l.map (Value.int .i64)) ∧ Below w.heap.size w wr)
      (fun sv _ _ => strLen sv)
    case atStart => exact ⟨s, [], rfl, HB, by simp; omega, World.ownsRow_nil _ _ _ _, Below.refl _ _⟩
    case round =>
      obtain ⟨s', l, rfl, HE, hlen, hown, hb⟩ := hrel
      by_cases h0 : s'.size = 0
      · have hT : B = true := by rw [← HE.out]; exact okPts_nil _ _ h0
        subst hT
        have h0' : decide ((0 : Int) < (s'.size : Int)) = false := decide_eq_false (by omega)
        go_wp2
        rw [Exit.noGoto_ret]
        go_ret2
        exact ⟨⟨_, rfl⟩, hb⟩
      · have h0' : decide ((0 : Int) < (s'.size : Int)) = true := decide_eq_true (by omega)
        have cP := point_calls s' wr (hL.below hb)
        have hp := pointOf_small s'
        have hle := pointOf_le s'
        have HN := Lib.hid (okPts_next s' h0)
        have HZ : Hid ((pointOf s').2 = 0 → okPts s'.size s' = false) := Lib.hid (fun hz => by
          obtain ⟨k, hk⟩ : ∃ k, s'.size = k + 1 := ⟨s'.size - 1, by omega⟩
          rw [hk, okPts, if_neg h0, if_pos hz])
        generalize pointOf s' = d at *
        obtain ⟨R, K⟩ := d
        simp only at *
        have hR0 : (0 : Int) ≤ (R : Int) := by omega
        have hR1 : (R : Int) ≤ 1114111 := by omega
        by_cases hk : K = 0
        · subst hk
          have hF : B = false := by rw [← HE.out]; exact HZ.out rfl
          subst hF
          clear HZ HN
          go_wp2_with (go_at_call 69; refine cP.mono ?_; rintro e w' ⟨rfl, hb'⟩)
          rw [Exit.noGoto_ret]
          go_ret2
          exact ⟨⟨_, rfl⟩, hb.trans (hb'.mono hb.size)⟩
        · have hk' : decide ((0 : Int) < (K : Int)) = true := decide_eq_true (by omega)
          replace HN := Lib.hid (HN.out hk)
          clear HZ
          go_wp2_with (first
            | (go_at_call 69; refine cP.mono ?_; rintro e w1 ⟨rfl, hb'⟩; have hb1 : Below w.heap.size w w1 := hb.trans (hb'.mono hb.size); have hown1 := ownsRow_below hown hb'; clear hown hb' hb cP hL)
            | (at_builtin; refine wpList_append_own _ rfl _ _ 73 rfl w.heap.size 3 i0 (.int .i64 0) 1 8 Tryd.underlying73 hi hz0 hz1 hz2 rfl (by decide) _ _ _ rfl (hown1.alloc _) ⟨w1.heap.size, 0, none⟩ 1 1 [.int .i64 (R : Int)] rfl rfl ?c1 ?c2 ?c3 ?c4 ?c5 ?_))
          case c1 =>
            intro j u hj
            match j, hj with
            | 0, hj => simp at hj; subst hj; simp [Addr.add]
          case c2 => intro u hu; simp at hu; subst hu; rfl
          case c3 => unfold maxLen; omega
          case c4 => omega
          case c5 => have := hb1.size; simp; omega
          intro v' w2 hown' hgrow _
          have hsz := hb1.size
          have hb2 : Below w.heap.size w w2 := (hb1.alloc hb1.size _).grown hgrow (by simp; omega) (fun k e => (hown1.lt k e).1)
          have hrow : Hid (w2.ownsRow w.heap.size 3 1 v' (l ++ [(R : Int)]).length ((l ++ [(R : Int)]).map (Value.int .i64))) := by
            rw [List.length_append, List.map_append]; exact hown'
          clear hown' hgrow hown1 hb1
          have hkz : (K : Int) ≤ (s'.size : Int) := by omega
          go_wp2
          go_roundw
          case rel => exact ⟨s'.extract K s'.size, l ++ [(R : Int)], by first | rfl | simp, Lib.hid (HN.out.symm.trans HE.out), by rw [List.length_append, ByteArray.size_extract]; simp; omega, hrow.out, hb2⟩
          case measure => simp [strLen, ByteArray.size_extract]; omega
set_option maxHeartbeats 400000 in
theorem is_calls (s : ByteArray) (w : World) (hL : Laid w) :
    Calls Tryd.prog 33 #[.string s] w fun e w' => e = .returned (.bool (isU s)) ∧ Below w.heap.size w w' := by
  have cP := points_calls s w hL
  generalize isU s = b at *
  go_enter Tryd.func33, Tryd.ntmps33
  go_wp2_with (go_at_call 45; refine cP.mono ?_; rintro e w' ⟨⟨v, rfl⟩, hb⟩)
  all_goals (go_ret; exact ⟨rfl, hb⟩)
end Go.Proofs.YtjibcekillcgjaaDoor.Top
