/- What the proof of SubsFinds leans on: TopB. -/
import Derived.Test.YtjibcekillcgjaaDoorSSubsFindsTopA
import Derived.Laws.Runes
import Derived.Laws.RangeAny
import Derived.Laws.RangeString
import Derived.Lib.IndexAny
import Derived.Deep.LoopGhost
import Derived.Deep.QuietTactic
import Derived.BigQuiet
import Derived.LoopN
import Derived.Lib.OthersKept
import Derived.WalkSmall
import Derived.IntWalk
import Derived.Lib.IndexLaws
set_option linter.unusedVariables false
set_option linter.unusedSimpArgs false
namespace Go.Proofs.YtjibcekillcgjaaDoor.Top
open Go.RowKit
set_option maxHeartbeats 4000000 in
set_option maxRecDepth 1000000 in
theorem indexRune_high (chars : ByteArray) (r : Int) (w : World) (hr : 128 ≤ r) (hr2 : r ≤ 1114111) (hc : ∀ (j : Nat) b, chars.data.toList[j]? = some b → b.toNat < 128) :
    Calls Tryd.prog 70 #[.string chars, .int .i32 r] w fun e w' => e = .returned (.int .i64 (-1)) ∧ Below w.heap.size w w' := by
  have h128 : decide (r < 128) = false := decide_eq_false (by omega)
  have h0 : decide (0 ≤ r) = true := decide_eq_true (by omega)
  by_cases hE : r = 65533
  · subst hE
    have HC := Lib.hid hc
    clear hc
    go_enter Tryd.func70, Tryd.ntmps70
    go_wp2
    go_loopg [5, 6] chars.size (fun g _ _ wx => ∃ i : Nat, i + g = chars.size ∧ wx = w.iter chars i)
    case atStart => exact ⟨0, by omega, rfl⟩
    case round =>
      obtain ⟨i, hig, rfl⟩ := hrel
      cases gk with
      | zero =>
        obtain rfl : i = chars.size := by omega
        have hnx := run_next_end (P := Tryd.prog) w chars chars.size
        go_wp2
        go_ret
        exact ⟨rfl, (Below.refl _ _).alloc (Nat.le_refl _) _⟩
      | succ g =>
        have hi : i < chars.size := by omega
        obtain ⟨x, hx⟩ : ∃ x : UInt8, chars[i]'hi = x := ⟨_, rfl⟩
        have hxl : chars.data.toList[i]? = some x := by rw [← hx]; exact Lib.data_getElem? chars i hi
        have hx128 : x.toNat < 128 := HC.out i x hxl
        have hnx := fun ty => run_next_ascii (P := Tryd.prog) w chars i ty hi (by rw [hx]; exact hx128)
        rw [hx] at hnx
        have hne : ((x.toNat : Int) == 65533) = false := beq_eq_false_iff_ne.2 (by omega)
        clear hxl hx
        go_wp2
        go_roundg g
        case measure => omega
        case rel => exact ⟨i + 1, by omega, rfl⟩
  · have hE' : (r == 65533) = false := beq_eq_false_iff_ne.2 hE
    by_cases hv : Lib.validRune r = true
    · have HC := Lib.hid hc
      clear hc
      have hef := encode_facts r (by rw [validRune_eq]; exact hv) hr
      obtain ⟨E, hEn⟩ : ∃ E, Utf8.encode r = E := ⟨_, rfl⟩
      have HEn := Lib.hid hEn
      rw [hEn] at hef
      obtain ⟨hn1, hn2, hlast⟩ := hef
      have hll := hlast (by omega)
      clear hlast
      obtain ⟨m, hm⟩ : ∃ m, E.size = m + 1 := ⟨E.size - 1, by omega⟩
      have hm1 : 1 ≤ m := by omega
      have hm2 : m ≤ 3 := by omega
      obtain ⟨y, hy⟩ : ∃ y : UInt8, E[E.size - 1]'(by omega) = y := ⟨_, rfl⟩
      rw [hy] at hll
      have hym : E[m]'(by omega) = y := by rw [← hy]; simp [hm]
      clear hy hn1 hn2
      go_enter Tryd.func70, Tryd.ntmps70
      go_wp2_with (go_at_call 85; refine (Tryd.utf8_ValidRune _ _).mono ?_; rintro e w' ⟨rfl, hw⟩; rw [hw, hv])
      go_step3
      go_wp2
      clear hEn
      refine wp_loop_rounds 1 ?_
      rw [rounds_succ]
      by_cases hlt : m < chars.size
      · have hlt' : decide ((m : Int) < (chars.size : Int)) = true := decide_eq_true (by omega)
        obtain ⟨x, hx⟩ : ∃ x : UInt8, chars[m]'hlt = x := ⟨_, rfl⟩
        have hx128 : x.toNat < 128 := HC.out m x (by rw [← hx]; exact Lib.data_getElem? chars m hlt)
        have hne : ((x.toNat : Int) == (y.toNat : Int)) = false := beq_eq_false_iff_ne.2 (by omega)
        have hne2 : ((x.toNat : Int) != (y.toNat : Int)) = true := by simp [bne, hne]
        have cI : ∀ w, Calls Tryd.prog 84 #[.string (chars.extract (m + 1) chars.size), .int .u8 (y.toNat : Int)] w fun e w' => e = .returned (.int .i64 (-1)) ∧ w' = w := fun w => by
          have hi : Lib.indexByte (chars.extract (m + 1) chars.size).data.toList y = -1 := by
            rcases Int.lt_or_le (Lib.indexByte (chars.extract (m + 1) chars.size).data.toList y) 0 with h | h
            · have := Lib.indexByte_ge (chars.extract (m + 1) chars.size).data.toList y; omega
            · obtain ⟨o, ho⟩ := Int.eq_ofNat_of_zero_le h
              obtain ⟨h1, -⟩ := Lib.indexByte_some ho
              have hmem : y ∈ chars.data.toList := mem_extract (List.mem_of_getElem? h1)
              obtain ⟨j, hj⟩ := List.getElem?_of_mem hmem
              have := HC.out j y hj
              omega
          have c := Tryd.strings_IndexByte (chars.extract (m + 1) chars.size) (y.toNat : Int) w
          rw [show ((y.toNat : Int)).toNat.toUInt8 = y by simp, hi] at c
          exact c
        have hz1 : (m : Int) < (chars.size : Int) := by omega
        have hz2 : (m : Int) < (E.size : Int) := by omega
        have hz3 : (m : Int) + 1 ≤ (chars.size : Int) := by omega
        go_wp2
        go_step3
        go_wp2_with fail
        go_quiet (fail)
        go_wp2_with fail
        have hs1 : IntKind.i64.wrap ((m : Int) + 1) = (m : Int) + 1 := IntWalk.i64_in _ (by omega)
        have hs2 : (0 : Int) ≤ (m : Int) + 1 := by omega
        have hs3 : ((m : Int) + 1).toNat = m + 1 := by omega
        go_quiet ((go_at_call 84; exact (cI _).mono (fun _ _ ⟨he, hm⟩ => ⟨he, _, hm⟩)))
        go_wp2
        rw [Exit.noGoto_ret]
        go_wp2
        rw [Exit.noGoto_ret]
        go_ret
        exact ⟨rfl, Go.Proofs.YtjibcekillcgjaaDoor.Top.bdn (Below.refl _ _) _⟩
      · have hlt' : decide ((m : Int) < (chars.size : Int)) = false := decide_eq_false (by omega)
        go_wp2
        rw [Exit.noGoto_ret]
        go_ret
        exact ⟨rfl, Below.refl _ _⟩
    · have hv' : Lib.validRune r = false := by simpa using hv
      go_enter Tryd.func70, Tryd.ntmps70
      go_wp2_with (go_at_call 85; refine (Tryd.utf8_ValidRune _ _).mono ?_; rintro e w' ⟨rfl, hw⟩; rw [hw, hv'])
      go_ret
      exact ⟨rfl, Below.refl _ _⟩
theorem alloc_new (w : World) (o : Obj) : (w.alloc o).heap[w.heap.size]? = some o := by
  show (w.heap.push o)[w.heap.size]? = some o
  simp
def hasAny (l cs : List UInt8) : Bool := l.any cs.contains
theorem noAny_hasAny (l cs : List UInt8) (h : Lib.NoAny l cs l.length) : hasAny l cs = false := by
  unfold hasAny
  rw [List.any_eq_false]
  intro b hb
  obtain ⟨j, hj⟩ := List.getElem?_of_mem hb
  have := h j b (List.getElem?_eq_some_iff.1 hj).1 hj
  rw [this]; exact Bool.false_ne_true
theorem hit_hasAny (l cs : List UInt8) (i : Nat) (x : UInt8) (hx : l[i]? = some x) (hc : cs.contains x = true) : hasAny l cs = true := by
  unfold hasAny
  rw [List.any_eq_true]
  exact ⟨x, List.mem_of_getElem? hx, hc⟩
theorem indexAny_hasAny (l cs : List UInt8) : decide (0 ≤ Lib.indexAny l cs) = hasAny l cs := by
  induction l with
  | nil => rfl
  | cons b l ih =>
    have hge := Lib.indexAny_ge cs l
    rw [Lib.indexAny]
    unfold hasAny at ih ⊢
    rw [List.any_cons]
    by_cases hb : cs.contains b = true
    · rw [if_pos hb, hb]; rfl
    · replace hb : cs.contains b = false := by simpa using hb
      rw [hb, Bool.false_or, ← ih]
      simp only [Bool.false_eq_true, if_false]
      by_cases h1 : Lib.indexAny l cs = -1
      · rw [h1]; rfl
      · have : (Lib.indexAny l cs == -1) = false := beq_eq_false_iff_ne.2 h1
        rw [this]
        simp only [Bool.false_eq_true, if_false]
        congr 1
        apply propext
        omega
theorem decode_max (s : ByteArray) (pos : Nat) : (Utf8.decode s pos).1 ≤ 1114111 := by
  rw [Lib.decode_at]
  have l0 := (s.get! pos).toNat_lt; have l1 := (s.get! (pos + 1)).toNat_lt; have l2 := (s.get! (pos + 2)).toNat_lt; have l3 := (s.get! (pos + 3)).toNat_lt
  generalize (s.get! pos).toNat = b0 at *
  generalize (s.get! (pos + 1)).toNat = b1 at *
  generalize (s.get! (pos + 2)).toNat = b2 at *
  generalize (s.get! (pos + 3)).toNat = b3 at *
  unfold Lib.decodeN
  repeat' split
  all_goals (simp only; omega)
theorem decode_covers (s : ByteArray) (pos : Nat) (h : pos < s.size) (ha : 128 ≤ (s[pos]'h).toNat) :
    pos + (Utf8.decode s pos).2 ≤ s.size ∧ ∀ j, pos ≤ j → j < pos + (Utf8.decode s pos).2 → ∀ b, s.data.toList[j]? = some b → 128 ≤ b.toNat := by
  have hget : ∀ k (hk : k < s.size), (s.get! k) = s[k]'hk := fun k hk => Utf8W.get!_of_lt s k hk
  have h0 : 128 ≤ (s.get! pos).toNat := by rw [hget pos h]; exact ha
  have hat : ∀ j b, s.data.toList[j]? = some b → s.get! j = b := by
    intro j b hj
    have hlt : j < s.size := by rw [Lib.size_eq]; exact (List.getElem?_eq_some_iff.1 hj).1
    have := Lib.data_getElem? s j hlt
    rw [hj] at this
    rw [hget j hlt]
    exact (Option.some.inj this).symm
  rw [Lib.decode_at]
  have l1 := (s.get! (pos + 1)).toNat_lt; have l2 := (s.get! (pos + 2)).toNat_lt; have l3 := (s.get! (pos + 3)).toNat_lt; have l0 := (s.get! pos).toNat_lt
  have key : ∀ d, d = Lib.decodeN (s.size - pos) (s.get! pos).toNat (s.get! (pos + 1)).toNat (s.get! (pos + 2)).toNat (s.get! (pos + 3)).toNat →
      d.2 ≤ s.size - pos ∧ 1 ≤ d.2 ∧ (2 ≤ d.2 → 128 ≤ (s.get! (pos + 1)).toNat) ∧ (3 ≤ d.2 → 128 ≤ (s.get! (pos + 2)).toNat) ∧ (4 ≤ d.2 → 128 ≤ (s.get! (pos + 3)).toNat) ∧ d.2 ≤ 4 := by
    intro d hd
    subst hd
    generalize (s.get! pos).toNat = b0 at *
    generalize (s.get! (pos + 1)).toNat = b1 at *
    generalize (s.get! (pos + 2)).toNat = b2 at *
    generalize (s.get! (pos + 3)).toNat = b3 at *
    clear hat hget
    unfold Lib.decodeN
    repeat' split
    all_goals (simp only at *; refine ⟨?_, ?_, ?_, ?_, ?_, ?_⟩ <;> omega)
  obtain ⟨k1, k2, k3, k4, k5, k6⟩ := key _ rfl
  generalize Lib.decodeN (s.size - pos) (s.get! pos).toNat (s.get! (pos + 1)).toNat (s.get! (pos + 2)).toNat (s.get! (pos + 3)).toNat = d at *
  refine ⟨by omega, fun j hj1 hj2 b hb => ?_⟩
  have := hat j b hb
  subst this
  rcases (by omega : j = pos ∨ j = pos + 1 ∨ j = pos + 2 ∨ j = pos + 3) with e | e | e | e
  · subst e; exact h0
  · subst e; exact k3 (by omega)
  · subst e; exact k4 (by omega)
  · subst e; exact k5 (by omega)
set_option maxHeartbeats 8000000 in
set_option maxRecDepth 1000000 in
theorem indexAny_short (s chars : ByteArray) (w : World) (h2 : 2 ≤ chars.size) (h8 : s.size ≤ 8) (hc : ∀ (j : Nat) b, chars.data.toList[j]? = some b → b.toNat < 128) :
    Calls Tryd.prog 47 #[.string s, .string chars] w fun e w' => (∃ n : Int, e = .returned (.int .i64 n) ∧ decide (0 ≤ n) = hasAny s.data.toList chars.data.toList) ∧ Below w.heap.size w w' := by
  have hemp : chars.toList.isEmpty = false := by
    rw [Lib.toList_data]
    cases h : chars.data.toList with
    | nil => have := Lib.size_eq chars; rw [h, List.length_nil] at this; omega
    | cons _ _ => rfl
  have hn1 : ((chars.size : Int) == 1) = false := beq_eq_false_iff_ne.2 (by omega)
  have h8z : decide ((8 : Int) < (s.size : Int)) = false := decide_eq_false (by omega)
  have cR := fun (r : Int) (w : World) (h1 : 128 ≤ r) (h2 : r ≤ 1114111) => indexRune_high chars r w h1 h2 hc
  have HC := Lib.hid hc
  clear hc
  go_enter Tryd.func47, Tryd.ntmps47
  go_wp2_with (go_at_call 71; refine (Tryd.strings_shouldUseASCIISet _ _).mono ?_; rintro e w' ⟨rfl, hw⟩; rw [hw, h8z])
  go_loopg [9, 10] s.size (fun g _ _ wx => ∃ i : Nat, i + g = s.size ∧ Below w.heap.size w wx ∧ wx.heap[w.heap.size]? = some (.stringIter s i) ∧ Lib.NoAny s.data.toList chars.data.toList i)
  case atStart => exact ⟨0, by omega, (Below.refl _ _).alloc (Nat.le_refl _) _, alloc_new w _, Lib.NoAny.zero _ _⟩
  case round =>
    obtain ⟨i, hig, hb, hk, hno⟩ := hrel
    have HN := Lib.hid hno
    have HK := Lib.hid hk
    clear hno
    cases gk with
    | zero =>
      obtain rfl : i = s.size := by omega
      have hnx := fun ty => Lib.run_next_end_at (P := Tryd.prog) wr w.heap.size s s.size ty hk (by omega)
      clear hk
      go_wp2
      go_ret
      exact ⟨⟨_, rfl, by rw [noAny_hasAny _ _ (by rw [← Lib.size_eq]; exact HN.out)]; rfl⟩, hb⟩
    | succ g =>
      have hi : i < s.size := by omega
      obtain ⟨x, hx⟩ : ∃ x : UInt8, s[i]'hi = x := ⟨_, rfl⟩
      have hxl : s.data.toList[i]? = some x := by rw [← hx]; exact Lib.data_getElem? s i hi
      have Hx := Lib.hid hxl
      clear hxl
      have hbi := fun p => Lib.below_iterAt hb (Nat.le_refl _) s p
      have hki := fun p => Lib.iterAt_heap wr w.heap.size s i p hk
      by_cases ha : x.toNat < 128
      · have hnx := fun ty => Lib.run_next_ascii_at (P := Tryd.prog) wr w.heap.size s i ty hk hi (by rw [hx]; exact ha)
        rw [hx] at hnx
        clear hx hk
        have hcon := Lib.contains_iff_indexByte chars.data.toList x
        have hback : ((x.toNat : Int)).toNat.toUInt8 = x := by simp
        cases hin : chars.data.toList.contains x
        · rw [hin] at hcon
          have hlt : ¬ ((0 : Int) ≤ Lib.indexByte chars.data.toList x) := of_decide_eq_false hcon.symm
          clear hcon
          go_wp2_with (go_at_call 70; refine (Tryd.strings_IndexRune_ascii _ _ _ (by omega) (by omega)).mono ?_; rintro e w' ⟨rfl, hw⟩; rw [hw, hback])
          go_roundg g
          case measure => omega
          case rel => exact ⟨i + 1, by omega, hbi _, hki _, HN.out.succ Hx.out hin⟩
        · rw [hin] at hcon
          have hge : (0 : Int) ≤ Lib.indexByte chars.data.toList x := of_decide_eq_true hcon.symm
          clear hcon
          go_wp2_with (go_at_call 70; refine (Tryd.strings_IndexRune_ascii _ _ _ (by omega) (by omega)).mono ?_; rintro e w' ⟨rfl, hw⟩; rw [hw, hback])
          go_ret
          exact ⟨⟨_, rfl, by rw [hit_hasAny _ _ i x Hx.out hin]; exact decide_eq_true (by omega)⟩, hbi _⟩
      · have ha' : 128 ≤ (s[i]'hi).toNat := by rw [hx]; omega
        have hnx := fun ty => Lib.run_next_any_at (P := Tryd.prog) wr w.heap.size s i ty hk hi
        have hcov := decode_covers s i hi ha'
        have hhi := decode_high s i hi ha'
        have hmax := (decode_max s i)
        clear hx hk ha'
        generalize Utf8.decode s i = d at *
        obtain ⟨R, K⟩ := d
        simp only at *
        have Hcov := Lib.hid hcov
        clear hcov
        have cR' := fun w => cR (R : Int) w (by omega) (by omega)
        go_wp2_with (go_at_call 70; refine (cR' _).mono ?_; rintro e w2 ⟨rfl, hw⟩)
        have hb2 : Below w.heap.size w w2 := (hbi _).trans (hw.mono (hbi _).size)
        have hk2 : w2.heap[w.heap.size]? = some (.stringIter s (i + K)) := (hw.block _ (Array.getElem?_eq_some_iff.1 (hki (i + K))).1).trans (hki (i + K))
        go_roundg (s.size - (i + K))
        case measure => omega
        case rel =>
          have h1 := Hcov.out.1
          refine ⟨i + K, by omega, hb2, hk2, fun j b hj hjb => ?_⟩
          by_cases hji : j < i
          · exact HN.out j b hji hjb
          · have hb128 := Hcov.out.2 j (by omega) hj b hjb
            cases hin : chars.data.toList.contains b
            · rfl
            · obtain ⟨q, hq⟩ := List.getElem?_of_mem (List.contains_iff_mem.1 hin)
              have := HC.out q b hq
              omega
set_option maxHeartbeats 8000000 in
set_option maxRecDepth 1000000 in
theorem containsAny_calls (s chars : ByteArray) (w : World) (h2 : 2 ≤ chars.size) (hs : s.size < 4294967281) (hcs : chars.size < 4294967281) (hc : ∀ (j : Nat) b, chars.data.toList[j]? = some b → b.toNat < 128) :
    Calls Tryd.prog 35 #[.string s, .string chars] w fun e w' => e = .returned (.bool (hasAny s.data.toList chars.data.toList)) ∧ Below w.heap.size w w' := by
  have cI : Calls Tryd.prog 47 #[.string s, .string chars] w fun e w' => (∃ n : Int, e = .returned (.int .i64 n) ∧ decide (0 ≤ n) = hasAny s.data.toList chars.data.toList) ∧ Below w.heap.size w w' := by
    by_cases h8 : s.size ≤ 8
    · exact indexAny_short s chars w h2 h8 hc
    · refine (Tryd.strings_IndexAny_long (fun _ => by kernel_rfl) s chars w h2 (by omega) hs hcs hc).mono ?_
      rintro e w' ⟨rfl, rfl⟩
      exact ⟨⟨_, rfl, indexAny_hasAny _ _⟩, ((Below.refl _ _).alloc (Nat.le_refl _) _).alloc (by simp) _⟩
  generalize hasAny s.data.toList chars.data.toList = b at *
  clear hc
  go_enter Tryd.func35, Tryd.ntmps35
  go_wp2_with (go_at_call 47; refine cI.mono ?_; rintro e w' ⟨⟨n, rfl, hn⟩, hb⟩)
  go_ret
  exact ⟨rfl, hb⟩
end Go.Proofs.YtjibcekillcgjaaDoor.Top
