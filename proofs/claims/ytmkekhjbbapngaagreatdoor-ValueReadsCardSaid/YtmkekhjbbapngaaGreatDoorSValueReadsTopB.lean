/- TopB -/
import Derived.Test.YtmkekhjbbapngaaGreatDoorSValueReadsTopA
import Derived.WalkSmall
import Derived.Shelf.Strings.SlTrimAscii
import Derived.Lib.OwnBridge
import Derived.Test.YtmkekhjbbapngaaGreatDoorSValueReadsWLast
set_option maxRecDepth 1000000
set_option maxHeartbeats 8000000
set_option linter.all false
namespace Go.Proofs.YtmkekhjbbapngaaGreatDoor.Top
open Go.RowKit
theorem indexRune_high (chars : ByteArray) (r : Int) (w : World) (hr : 128 ≤ r) (hr2 : r ≤ 1114111) (hc : ∀ (j : Nat) b, chars.data.toList[j]? = some b → b.toNat < 128) :
  Calls Tryz.prog 133 #[.string chars, .int .i32 r] w fun e w' => e = .returned (.int .i64 (-1)) ∧ Below w.heap.size w w' := by
 have h128 : decide (r < 128) = false := decide_eq_false (by omega)
 have h0 : decide (0 ≤ r) = true := decide_eq_true (by omega)
 by_cases hE : r = 65533
 ·
  subst hE
  have HC := Lib.hid hc
  clear hc
  go_enter Tryz.func133, Tryz.ntmps133
  go_wp2
  go_loopg [5, 6] chars.size (fun g _ _ wx => ∃ i : Nat, i + g = chars.size ∧ wx = w.iter chars i)
  case atStart => exact ⟨0, by omega, rfl⟩
  case round =>
   obtain ⟨i, hig, rfl⟩ := hrel
   cases gk with
   | zero =>
    obtain rfl : i = chars.size := by omega
    have hnx := run_next_end (P := Tryz.prog) w chars chars.size
    go_wp2
    go_ret
    exact ⟨rfl, (Below.refl _ _).alloc (Nat.le_refl _) _⟩
   | succ g =>
    have hi : i < chars.size := by omega
    obtain ⟨x, hx⟩ : ∃ x : UInt8, chars[i]'hi = x := ⟨_, rfl⟩
    have hxl : chars.data.toList[i]? = some x := by rw [← hx]; exact Lib.data_getElem? chars i hi
    have hx128 : x.toNat < 128 := HC.out i x hxl
    have hnx := fun ty => run_next_ascii (P := Tryz.prog) w chars i ty hi (by rw [hx]; exact hx128)
    rw [hx] at hnx
    have hne : ((x.toNat : Int) == 65533) = false := beq_eq_false_iff_ne.2 (by omega)
    clear hxl hx
    go_wp2
    go_roundg g
    case measure => omega
    case rel => exact ⟨i + 1, by omega, rfl⟩
 ·
  have hE' : (r == 65533) = false := beq_eq_false_iff_ne.2 hE
  by_cases hv : Lib.validRune r = true
  ·
   have HC := Lib.hid hc
   clear hc
   have hef := encode_facts r (by rw [validRune_eq]; exact hv) hr
   obtain ⟨E, hEn⟩ : ∃ E, Utf8.encode r = E := ⟨_, rfl⟩
   have HEn := Lib.hid hEn
   rw [hEn] at hef
   obtain ⟨hn1, hn2, hlast⟩ := hef
   have hll := hlast (by omega)
   clear hlast
   obtain ⟨m, hm⟩ : ∃ m, E.size = m + 1 := ⟨E.size - 1, by omega⟩
   have hm1 : 1 ≤ m := by omega
   have hm2 : m ≤ 3 := by omega
   obtain ⟨y, hy⟩ : ∃ y : UInt8, E[E.size - 1]'(by omega) = y := ⟨_, rfl⟩
   rw [hy] at hll
   have hym : E[m]'(by omega) = y := by rw [← hy]; simp [hm]
   clear hy hn1 hn2
   go_enter Tryz.func133, Tryz.ntmps133
   go_wp2_with (go_at_call 142; refine (Tryz.utf8_ValidRune _ _).mono ?_; rintro e w' ⟨rfl, hw⟩; rw [hw, hv])
   go_step3
   go_wp2
   clear hEn
   refine wp_loop_rounds 1 ?_
   rw [rounds_succ]
   by_cases hlt : m < chars.size
   ·
    have hlt' : decide ((m : Int) < (chars.size : Int)) = true := decide_eq_true (by omega)
    obtain ⟨x, hx⟩ : ∃ x : UInt8, chars[m]'hlt = x := ⟨_, rfl⟩
    have hx128 : x.toNat < 128 := HC.out m x (by rw [← hx]; exact Lib.data_getElem? chars m hlt)
    have hne : ((x.toNat : Int) == (y.toNat : Int)) = false := beq_eq_false_iff_ne.2 (by omega)
    have hne2 : ((x.toNat : Int) != (y.toNat : Int)) = true := by simp [bne, hne]
    have cI : ∀ w, Calls Tryz.prog 141 #[.string (chars.extract (m + 1) chars.size), .int .u8 (y.toNat : Int)] w fun e w' => e = .returned (.int .i64 (-1)) ∧ w' = w := fun w => by
     have hi : Lib.indexByte (chars.extract (m + 1) chars.size).data.toList y = -1 := by
      rcases Int.lt_or_le (Lib.indexByte (chars.extract (m + 1) chars.size).data.toList y) 0 with h | h
      ·
       have := Lib.indexByte_ge (chars.extract (m + 1) chars.size).data.toList y; omega
      ·
       obtain ⟨o, ho⟩ := Int.eq_ofNat_of_zero_le h
       obtain ⟨h1, -⟩ := Lib.indexByte_some ho
       have hmem : y ∈ chars.data.toList := mem_extract (List.mem_of_getElem? h1)
       obtain ⟨j, hj⟩ := List.getElem?_of_mem hmem
       have := HC.out j y hj
       omega
     have c := Tryz.strings_IndexByte (chars.extract (m + 1) chars.size) (y.toNat : Int) w
     rw [show ((y.toNat : Int)).toNat.toUInt8 = y by simp, hi] at c
     exact c
    have hz1 : (m : Int) < (chars.size : Int) := by omega
    have hz2 : (m : Int) < (E.size : Int) := by omega
    have hz3 : (m : Int) + 1 ≤ (chars.size : Int) := by omega
    go_wp2
    go_step3
    go_wp2_with fail
    go_quiet (fail)
    go_wp2_with fail
    have hs1 : IntKind.i64.wrap ((m : Int) + 1) = (m : Int) + 1 := IntWalk.i64_in _ (by omega)
    have hs2 : (0 : Int) ≤ (m : Int) + 1 := by omega
    have hs3 : ((m : Int) + 1).toNat = m + 1 := by omega
    go_quiet ((go_at_call 141; exact (cI _).mono (fun _ _ ⟨he, hm⟩ => ⟨he, _, hm⟩)))
    go_wp2
    rw [Exit.noGoto_ret]
    go_wp2
    rw [Exit.noGoto_ret]
    go_ret
    exact ⟨rfl, below_drewN (Below.refl _ _) _⟩
   ·
    have hlt' : decide ((m : Int) < (chars.size : Int)) = false := decide_eq_false (by omega)
    go_wp2
    rw [Exit.noGoto_ret]
    go_ret
    exact ⟨rfl, Below.refl _ _⟩
  ·
   have hv' : Lib.validRune r = false := by simpa using hv
   go_enter Tryz.func133, Tryz.ntmps133
   go_wp2_with (go_at_call 142; refine (Tryz.utf8_ValidRune _ _).mono ?_; rintro e w' ⟨rfl, hw⟩; rw [hw, hv'])
   go_ret
   exact ⟨rfl, Below.refl _ _⟩
theorem alloc_new (w : World) (o : Obj) : (w.alloc o).heap[w.heap.size]? = some o := by
 show (w.heap.push o)[w.heap.size]? = some o
 simp
def hasAny (l cs : List UInt8) : Bool := l.any cs.contains
theorem noAny_hasAny (l cs : List UInt8) (h : Lib.NoAny l cs l.length) : hasAny l cs = false := by
 unfold hasAny
 rw [List.any_eq_false]
 intro b hb
 obtain ⟨j, hj⟩ := List.getElem?_of_mem hb
 have := h j b (List.getElem?_eq_some_iff.1 hj).1 hj
 rw [this]; exact Bool.false_ne_true
theorem hit_hasAny (l cs : List UInt8) (i : Nat) (x : UInt8) (hx : l[i]? = some x) (hc : cs.contains x = true) : hasAny l cs = true := by
 unfold hasAny
 rw [List.any_eq_true]
 exact ⟨x, List.mem_of_getElem? hx, hc⟩
theorem indexAny_hasAny (l cs : List UInt8) : decide (0 ≤ Lib.indexAny l cs) = hasAny l cs := by
 induction l with
 | nil => rfl
 | cons b l ih =>
  have hge := Lib.indexAny_ge cs l
  rw [Lib.indexAny]
  unfold hasAny at ih ⊢
  rw [List.any_cons]
  by_cases hb : cs.contains b = true
  ·
   rw [if_pos hb, hb]; rfl
  ·
   replace hb : cs.contains b = false := by simpa using hb
   rw [hb, Bool.false_or, ← ih]
   simp only [Bool.false_eq_true, if_false]
   by_cases h1 : Lib.indexAny l cs = -1
   ·
    rw [h1]; rfl
   ·
    have : (Lib.indexAny l cs == -1) = false := beq_eq_false_iff_ne.2 h1
    rw [this]
    simp only [Bool.false_eq_true, if_false]
    congr 1
    apply propext
    omega
theorem decode_max (s : ByteArray) (pos : Nat) : (Utf8.decode s pos).1 ≤ 1114111 := by
 rw [Lib.decode_at]
 have l0 := (s.get! pos).toNat_lt; have l1 := (s.get! (pos + 1)).toNat_lt; have l2 := (s.get! (pos + 2)).toNat_lt; have l3 := (s.get! (pos + 3)).toNat_lt
 generalize (s.get! pos).toNat = b0 at *
 generalize (s.get! (pos + 1)).toNat = b1 at *
 generalize (s.get! (pos + 2)).toNat = b2 at *
 generalize (s.get! (pos + 3)).toNat = b3 at *
 unfold Lib.decodeN
 repeat' split
 all_goals (simp only; omega)
theorem decode_covers (s : ByteArray) (pos : Nat) (h : pos < s.size) (ha : 128 ≤ (s[pos]'h).toNat) :
  pos + (Utf8.decode s pos).2 ≤ s.size ∧ ∀ j, pos ≤ j → j < pos + (Utf8.decode s pos).2 → ∀ b, s.data.toList[j]? = some b → 128 ≤ b.toNat := by
 have hget : ∀ k (hk : k < s.size), (s.get! k) = s[k]'hk := fun k hk => Utf8W.get!_of_lt s k hk
 have h0 : 128 ≤ (s.get! pos).toNat := by rw [hget pos h]; exact ha
 have hat : ∀ j b, s.data.toList[j]? = some b → s.get! j = b := by
  intro j b hj
  have hlt : j < s.size := by rw [Lib.size_eq]; exact (List.getElem?_eq_some_iff.1 hj).1
  have := Lib.data_getElem? s j hlt
  rw [hj] at this
  rw [hget j hlt]
  exact (Option.some.inj this).symm
 rw [Lib.decode_at]
 have l1 := (s.get! (pos + 1)).toNat_lt; have l2 := (s.get! (pos + 2)).toNat_lt; have l3 := (s.get! (pos + 3)).toNat_lt; have l0 := (s.get! pos).toNat_lt
 have key : ∀ d, d = Lib.decodeN (s.size - pos) (s.get! pos).toNat (s.get! (pos + 1)).toNat (s.get! (pos + 2)).toNat (s.get! (pos + 3)).toNat →
   d.2 ≤ s.size - pos ∧ 1 ≤ d.2 ∧ (2 ≤ d.2 → 128 ≤ (s.get! (pos + 1)).toNat) ∧ (3 ≤ d.2 → 128 ≤ (s.get! (pos + 2)).toNat) ∧ (4 ≤ d.2 → 128 ≤ (s.get! (pos + 3)).toNat) ∧ d.2 ≤ 4 := by
  intro d hd
  subst hd
  generalize (s.get! pos).toNat = b0 at *
  generalize (s.get! (pos + 1)).toNat = b1 at *
  generalize (s.get! (pos + 2)).toNat = b2 at *
  generalize (s.get! (pos + 3)).toNat = b3 at *
  clear hat hget
  unfold Lib.decodeN
  repeat' split
  all_goals (simp only at *; refine ⟨?_, ?_, ?_, ?_, ?_, ?_⟩ <;> omega)
 obtain ⟨k1, k2, k3, k4, k5, k6⟩ := key _ rfl
 generalize Lib.decodeN (s.size - pos) (s.get! pos).toNat (s.get! (pos + 1)).toNat (s.get! (pos + 2)).toNat (s.get! (pos + 3)).toNat = d at *
 refine ⟨by omega, fun j hj1 hj2 b hb => ?_⟩
 have := hat j b hb
 subst this
 rcases (by omega : j = pos ∨ j = pos + 1 ∨ j = pos + 2 ∨ j = pos + 3) with e | e | e | e
 ·
  subst e; exact h0
 ·
  subst e; exact k3 (by omega)
 ·
  subst e; exact k4 (by omega)
 ·
  subst e; exact k5 (by omega)
theorem indexAny_short (s chars : ByteArray) (w : World) (h2 : 2 ≤ chars.size) (h8 : s.size ≤ 8) (hc : ∀ (j : Nat) b, chars.data.toList[j]? = some b → b.toNat < 128) :
  Calls Tryz.prog 138 #[.string s, .string chars] w fun e w' => (∃ n : Int, e = .returned (.int .i64 n) ∧ decide (0 ≤ n) = hasAny s.data.toList chars.data.toList) ∧ Below w.heap.size w w' := by
 have hemp : chars.toList.isEmpty = false := by
  rw [Lib.toList_data]
  cases h : chars.data.toList with
  | nil => have := Lib.size_eq chars; rw [h, List.length_nil] at this; omega
  | cons _ _ => rfl
 have hn1 : ((chars.size : Int) == 1) = false := beq_eq_false_iff_ne.2 (by omega)
 have h8z : decide ((8 : Int) < (s.size : Int)) = false := decide_eq_false (by omega)
 have cR := fun (r : Int) (w : World) (h1 : 128 ≤ r) (h2 : r ≤ 1114111) => indexRune_high chars r w h1 h2 hc
 have HC := Lib.hid hc
 clear hc
 go_enter Tryz.func138, Tryz.ntmps138
 go_wp2_with (go_at_call 145; refine (Tryz.strings_shouldUseASCIISet _ _).mono ?_; rintro e w' ⟨rfl, hw⟩; rw [hw, h8z])
 go_loopg [9, 10] s.size (fun g _ _ wx => ∃ i : Nat, i + g = s.size ∧ Below w.heap.size w wx ∧ wx.heap[w.heap.size]? = some (.stringIter s i) ∧ Lib.NoAny s.data.toList chars.data.toList i)
 case atStart => exact ⟨0, by omega, (Below.refl _ _).alloc (Nat.le_refl _) _, alloc_new w _, Lib.NoAny.zero _ _⟩
 case round =>
  obtain ⟨i, hig, hb, hk, hno⟩ := hrel
  have HN := Lib.hid hno
  have HK := Lib.hid hk
  clear hno
  cases gk with
  | zero =>
   obtain rfl : i = s.size := by omega
   have hnx := fun ty => Lib.run_next_end_at (P := Tryz.prog) wr w.heap.size s s.size ty hk (by omega)
   clear hk
   go_wp2
   go_ret
   exact ⟨⟨_, rfl, by rw [noAny_hasAny _ _ (by rw [← Lib.size_eq]; exact HN.out)]; rfl⟩, hb⟩
  | succ g =>
   have hi : i < s.size := by omega
   obtain ⟨x, hx⟩ : ∃ x : UInt8, s[i]'hi = x := ⟨_, rfl⟩
   have hxl : s.data.toList[i]? = some x := by rw [← hx]; exact Lib.data_getElem? s i hi
   have Hx := Lib.hid hxl
   clear hxl
   have hbi := fun p => Lib.below_iterAt hb (Nat.le_refl _) s p
   have hki := fun p => Lib.iterAt_heap wr w.heap.size s i p hk
   by_cases ha : x.toNat < 128
   ·
    have hnx := fun ty => Lib.run_next_ascii_at (P := Tryz.prog) wr w.heap.size s i ty hk hi (by rw [hx]; exact ha)
    rw [hx] at hnx
    clear hx hk
    have hcon := Lib.contains_iff_indexByte chars.data.toList x
    have hback : ((x.toNat : Int)).toNat.toUInt8 = x := by simp
    cases hin : chars.data.toList.contains x
    ·
     rw [hin] at hcon
     have hlt : ¬ ((0 : Int) ≤ Lib.indexByte chars.data.toList x) := of_decide_eq_false hcon.symm
     clear hcon
     go_wp2_with (go_at_call 133; refine (Tryz.strings_IndexRune_ascii _ _ _ (by omega) (by omega)).mono ?_; rintro e w' ⟨rfl, hw⟩; rw [hw, hback])
     go_roundg g
     case measure => omega
     case rel => exact ⟨i + 1, by omega, hbi _, hki _, HN.out.succ Hx.out hin⟩
    ·
     rw [hin] at hcon
     have hge : (0 : Int) ≤ Lib.indexByte chars.data.toList x := of_decide_eq_true hcon.symm
     clear hcon
     go_wp2_with (go_at_call 133; refine (Tryz.strings_IndexRune_ascii _ _ _ (by omega) (by omega)).mono ?_; rintro e w' ⟨rfl, hw⟩; rw [hw, hback])
     go_ret
     exact ⟨⟨_, rfl, by rw [hit_hasAny _ _ i x Hx.out hin]; exact decide_eq_true (by omega)⟩, hbi _⟩
   ·
    have ha' : 128 ≤ (s[i]'hi).toNat := by rw [hx]; omega
    have hnx := fun ty => Lib.run_next_any_at (P := Tryz.prog) wr w.heap.size s i ty hk hi
    have hcov := decode_covers s i hi ha'
    have hhi := decode_high s i hi ha'
    have hmax := (decode_max s i)
    clear hx hk ha'
    generalize Utf8.decode s i = d at *
    obtain ⟨R, K⟩ := d
    simp only at *
    have Hcov := Lib.hid hcov
    clear hcov
    have cR' := fun w => cR (R : Int) w (by omega) (by omega)
    go_wp2_with (go_at_call 133; refine (cR' _).mono ?_; rintro e w2 ⟨rfl, hw⟩)
    have hb2 : Below w.heap.size w w2 := (hbi _).trans (hw.mono (hbi _).size)
    have hk2 : w2.heap[w.heap.size]? = some (.stringIter s (i + K)) := (hw.block _ (Array.getElem?_eq_some_iff.1 (hki (i + K))).1).trans (hki (i + K))
    go_roundg (s.size - (i + K))
    case measure => omega
    case rel =>
     have h1 := Hcov.out.1
     refine ⟨i + K, by omega, hb2, hk2, fun j b hj hjb => ?_⟩
     by_cases hji : j < i
     ·
      exact HN.out j b hji hjb
     ·
      have hb128 := Hcov.out.2 j (by omega) hj b hjb
      cases hin : chars.data.toList.contains b
      ·
       rfl
      ·
       obtain ⟨q, hq⟩ := List.getElem?_of_mem (List.contains_iff_mem.1 hin)
       have := HC.out q b hq
       omega
theorem containsAny_calls (s chars : ByteArray) (w : World) (h2 : 2 ≤ chars.size) (hs : s.size < 4294967281) (hcs : chars.size < 4294967281) (hc : ∀ (j : Nat) b, chars.data.toList[j]? = some b → b.toNat < 128) :
  Calls Tryz.prog 126 #[.string s, .string chars] w fun e w' => e = .returned (.bool (hasAny s.data.toList chars.data.toList)) ∧ Below w.heap.size w w' := by
 have cI : Calls Tryz.prog 138 #[.string s, .string chars] w fun e w' => (∃ n : Int, e = .returned (.int .i64 n) ∧ decide (0 ≤ n) = hasAny s.data.toList chars.data.toList) ∧ Below w.heap.size w w' := by
  by_cases h8 : s.size ≤ 8
  ·
   exact indexAny_short s chars w h2 h8 hc
  ·
   refine (Tryz.strings_IndexAny_long (fun _ => by kernel_rfl) s chars w h2 (by omega) hs hcs hc).mono ?_
   rintro e w' ⟨rfl, rfl⟩
   exact ⟨⟨_, rfl, indexAny_hasAny _ _⟩, ((Below.refl _ _).alloc (Nat.le_refl _) _).alloc (by simp) _⟩
 generalize hasAny s.data.toList chars.data.toList = b at *
 clear hc
 go_enter Tryz.func126, Tryz.ntmps126
 go_wp2_with (go_at_call 138; refine cI.mono ?_; rintro e w' ⟨⟨n, rfl, hn⟩, hb⟩)
 go_ret
 exact ⟨rfl, hb⟩
end Go.Proofs.YtmkekhjbbapngaaGreatDoor.Top
set_option linter.all false
namespace Go.Proofs.YtmkekhjbbapngaaGreatDoor.Val
open Go.RowKit Go.Shelf YtmkekhjbbapngaaGreatDoorW.PrintWords
structure Laid (w : World) : Prop where
 top : Top.Laid w
 pow : Lib.TabIs Tryz.prog w "internal/strconv.uint64pow10" .u64 Lib.pow10Tab
 db : w.cell? ⟨5, 15, none⟩ = some (.int .u8 4)
 es : ∃ t p, w.var? Tryz.prog "strconv.ErrSyntax" = some #[.iface t p]
 er : ∃ t p, w.var? Tryz.prog "strconv.ErrRange" = some #[.iface t p]
theorem var_below {n : String} {g : Nat} {v : Array Value} {w w' : World} (hg : Tryz.prog.globalNamed n = some g) (h : w.var? Tryz.prog n = some v) (hb : Below w.heap.size w w') : w'.var? Tryz.prog n = some v := by
 unfold World.var? at h ⊢
 rw [hg] at h ⊢
 simp only [Option.bind_some] at h ⊢
 have hlt : g < w.heap.size := by
  rcases Nat.lt_or_ge g w.heap.size with h' | h'
  ·
   exact h'
  ·
   rw [Array.getElem?_eq_none h'] at h; cases h
 rw [hb.block g hlt]
 exact h
theorem Laid.below {w w' : World} (h : Laid w) (hb : Below w.heap.size w w') : Laid w' where
 top := h.top.below hb
 pow := var_below (g := 0) (by kernel_rfl) h.pow hb
 db := Top.cell_below hb (Nat.le_refl _) h.db
 es := by obtain ⟨t, p, hv⟩ := h.es; exact ⟨t, p, var_below (g := 1) (by kernel_rfl) hv hb⟩
 er := by obtain ⟨t, p, hv⟩ := h.er; exact ⟨t, p, var_below (g := 2) (by kernel_rfl) hv hb⟩
theorem trim_calls (s cs : ByteArray) (w : World) (hs : s.size ≤ 9223372036854775807) (hcs : cs.size < 4294967281) (hc : ∀ (j : Nat) b, cs.data.toList[j]? = some b → b.toNat < 128) :
  Calls Tryz.prog 71 #[.string s, .string cs] w fun e w' => e = .returned (.string ⟨(Lib.trimS s.data.toList cs.data.toList).toArray⟩) ∧ Below w.heap.size w w' :=
 Any.strings_Trim_laid Tryz.lays160 (by kernel_rfl) s cs w hs hcs hc
theorem trimLeft_calls (s cs : ByteArray) (w : World) (hcs : cs.size < 4294967281) (hc : ∀ (j : Nat) b, cs.data.toList[j]? = some b → b.toNat < 128) :
  Calls Tryz.prog 72 #[.string s, .string cs] w fun e w' => e = .returned (.string ⟨(Lib.trimLeftS s.data.toList cs.data.toList).toArray⟩) ∧ Below w.heap.size w w' :=
 Any.strings_TrimLeft_laid Tryz.lays161 (by kernel_rfl) s cs w hcs hc
theorem cut_calls (s sep : ByteArray) (w : World) (hL : Top.Laid w) (hs : s.size < 4294967281) :
  Calls Tryz.prog 70 #[.string s, .string sep] w fun e w' => e = .returned (.tuple #[.string ⟨(Lib.cut s.data.toList sep.data.toList).1.toArray⟩, .string ⟨(Lib.cut s.data.toList sep.data.toList).2.1.toArray⟩, .bool (Lib.cut s.data.toList sep.data.toList).2.2]) ∧ Below w.heap.size w w' := by
 obtain ⟨m, hm⟩ := hL.ml
 refine (Tryz.strings_Cut s sep m w hs hm).mono ?_
 rintro e w' ⟨rfl, n, rfl⟩
 exact ⟨rfl, below_drewN (Below.refl _ _) n⟩
theorem repeat0_calls (n : Nat) (w : World) (hn : n ≤ 1000000) :
  Calls Tryz.prog 28 #[.string ⟨#[48]⟩, .int .i64 n] w fun e w' => e = .returned (.string ⟨(List.replicate n 48).toArray⟩) ∧ Below w.heap.size w w' := by
 have hrep : ∀ n, Lib.repeatL [48] n = List.replicate n 48 := by
  intro n
  induction n with
  | zero => rfl
  | succ n ih => rw [Lib.repeatL, ih]; rfl
 rcases (by omega : n = 0 ∨ n = 1 ∨ 2 ≤ n) with h | h | h
 ·
  subst h
  refine (Tryz.strings_Repeat_zero ⟨#[48]⟩ w).mono ?_
  rintro e w' ⟨rfl, rfl⟩
  exact ⟨rfl, Below.refl _ _⟩
 ·
  subst h
  refine (Tryz.strings_Repeat_one ⟨#[48]⟩ w).mono ?_
  rintro e w' ⟨rfl, rfl⟩
  exact ⟨rfl, Below.refl _ _⟩
 ·
  have h1 : (⟨#[48]⟩ : ByteArray).size = 1 := rfl
  refine (Tryz.strings_Repeat_main ⟨#[48]⟩ n w h (by omega) (by rw [h1]; omega) (by rw [h1]; omega)).mono ?_
  rintro e w' ⟨rfl, hb⟩
  refine ⟨?_, hb⟩
  rw [show (⟨#[48]⟩ : ByteArray).data.toList = [48] from rfl, hrep]
theorem itoa1_calls (i : Nat) (hi : i < 10) (w : World) :
  Calls Tryz.prog 25 #[.int .i64 i] w fun e w' => e = .returned (.string ⟨#[UInt8.ofNat (48 + i)]⟩) ∧ w' = w := by
 refine (Tryz.strconv_Itoa_small i (by omega) w).mono ?_
 rintro e w' ⟨rfl, rfl⟩
 refine ⟨?_, rfl⟩
 rw [Lib.decDigits, dif_pos hi]
theorem clone_calls (A : Option Addr) (c : Nat) (l : List Int) (w : World) (hr : Kd.C (Kd.int .i64) w A l.length l) (hc : l.length ≤ c) (hlen : l.length ≤ 1000000) :
  Calls Tryz.prog 57 #[.slice A l.length c] w fun e w' => ∃ v0_ : Value, e = .returned v0_ ∧ Kd.R (Kd.int .i64) 3 w' w.heap.size (fun _ => True) v0_ l ∧ Below w.heap.size w w' := by
 cases l with
 | nil =>
  cases A with
  | none =>
   refine (Tryz.slices_Clone_int_nil 0 c w).mono ?_
   rintro e w' ⟨rfl, rfl⟩
   exact ⟨_, rfl, Kd.R_nil _ _ _ _ _, Below.refl _ _⟩
  | some a =>
   refine (Tryz.slices_Clone_int_zero a c w).mono ?_
   rintro e w' ⟨v, rfl, ho, -, hb⟩
   exact ⟨v, rfl, Kd.R_of_own (enc := Value.int .i64) ho (fun _ _ => trivial), hb⟩
 | cons x l =>
  obtain ⟨ad, rfl, -⟩ := Kd.at_int hr 0 (by omega) (by simp)
  have hat : ∀ j, j < (x :: l).length → w.cell? (ad.add j) = some (.int .i64 ((x :: l).getD j 0)) := by
   intro j hj
   obtain ⟨ad', e', h⟩ := Kd.at_int hr (j : Int) (by omega) (by omega)
   cases e'
   exact h
  have A0 := Lib.hid hat
  clear hat hr
  obtain ⟨zs, hzs⟩ : ∃ zs, zs = x :: l := ⟨_, rfl⟩
  rw [← hzs] at A0 hlen hc ⊢
  clear hzs
  obtain ⟨i0, hi, hz0, hz1, hz2⟩ := info_parts (P := Tryz.prog) (e := 3) (z := .int .i64 0) (size := 1) (bytes := 8) (by kernel_rfl)
  have q22 : ∀ (w : World) (a : Option Addr) (n c n' c' : Nat), (binOp .eql 24 (.slice a n c) (.slice none n' c')).run Tryz.prog w = .ok (.bool a.isNone) w := fun w a n c n' c' => Lib.run_eql_slice_nil w _ _ a n c n' c' Tryz.underlying24
  go_enter Tryz.func57, Tryz.ntmps57
  go_wp2_with (at_builtin; refine wpList_append_own _ rfl _ _ 24 rfl w.heap.size 3 i0 (.int .i64 0) 1 8 Tryz.underlying24 hi hz0 hz1 hz2 rfl (by decide) _ _ _ rfl (World.ownsRow_made w #[] 0 (Nat.le_refl _) (Nat.zero_le _) rfl) ad zs.length c (zs.map (Value.int .i64)) rfl ?qc1 ?qc2 ?qc3 ?qc4 ?qc5 ?qc6 ?_)
  case qc1 => simp
  case qc2 =>
   intro j u hj
   have hjn : j < zs.length := by
    have := (List.getElem?_eq_some_iff.1 hj).1
    simpa using this
   refine Lib.cell?_alloc_some _ ?_
   rw [A0.out j hjn]
   have e : (zs.map (Value.int .i64))[j]? = some (Value.int .i64 (zs.getD j 0)) := by simp [List.getD, List.getElem?_eq_getElem hjn]
   rw [e] at hj
   exact hj
  case qc3 => intro u hu; obtain ⟨x, _, rfl⟩ := List.mem_map.1 hu; rfl
  case qc4 => unfold maxLen; omega
  case qc5 => omega
  case qc6 => simp
  intro v' w1 hown hgrow hnil
  go_wp2
  go_ret
  refine ⟨v', rfl, Kd.R_of_own (enc := Value.int .i64) (by simpa [encs] using hown) (fun _ _ => trivial), ?_⟩
  exact ((Below.refl _ w).alloc (Nat.le_refl _) _).grown hgrow (by simp) (by intro k hk; simp [Value.ownBlock] at hk; omega)
end Go.Proofs.YtmkekhjbbapngaaGreatDoor.Val
set_option linter.all false
namespace Go.Proofs.YtmkekhjbbapngaaGreatDoor.Top
open Go.RowKit
def wild : List UInt8 := [43, 35]
def isName (s : ByteArray) : Bool := !s.data.toList.isEmpty && (isU s && !hasAny s.data.toList wild)
theorem isU_size (s : ByteArray) (h : isU s = true) : s.size ≤ 65535 := by
 unfold isU at h
 rw [Bool.and_eq_true] at h
 exact of_decide_eq_true h.1
theorem wild_calls (s : ByteArray) (w : World) (hs : s.size < 4294967281) :
  Calls Tryz.prog 126 #[.string s, .string ⟨#[43, 35]⟩] w fun e w' => e = .returned (.bool (hasAny s.data.toList wild)) ∧ Below w.heap.size w w' :=
 containsAny_calls s ⟨#[43, 35]⟩ w (by show 2 ≤ 2; omega) hs (by show 2 < 4294967281; omega) (by
  intro j b h
  match j, h with
  | 0, h => simp at h; subst h; decide
  | 1, h => simp at h; subst h; decide)
theorem name_calls (s : ByteArray) (w : World) (hL : Laid w) :
  Calls Tryz.prog 125 #[.string s] w fun e w' => e = .returned (.int .i64 (if isName s then 0 else 120)) ∧ Below w.heap.size w w' := by
 have hemp : s.toList.isEmpty = s.data.toList.isEmpty := by rw [Lib.toList_data]
 unfold isName
 by_cases h0 : s.data.toList.isEmpty = true
 ·
  have h0' : s.toList = [] := by rw [Lib.toList_data]; exact List.isEmpty_iff.1 h0
  rw [h0]
  go_enter Tryz.func125, Tryz.ntmps125
  go_wp2
  go_ret
  exact ⟨rfl, Below.refl _ _⟩
 ·
  have hf : s.toList.isEmpty = false := by rw [hemp]; simpa using h0
  have h0' : s.data.toList.isEmpty = false := by simpa using h0
  have cU := is_calls s w hL
  rw [h0']
  cases hU : isU s
  ·
   rw [hU] at cU
   clear hemp h0 h0' hU
   go_enter Tryz.func125, Tryz.ntmps125
   go_wp2_with (go_at_call 137; refine cU.mono ?_; rintro e w' ⟨rfl, hb⟩)
   go_ret
   exact ⟨rfl, hb⟩
  ·
   have hsz := isU_size s hU
   have cW := fun w => wild_calls s w (by omega)
   rw [hU] at cU
   generalize hasAny s.data.toList wild = b at *
   clear hemp h0 h0' hU
   go_enter Tryz.func125, Tryz.ntmps125
   go_wp2_with (first | (go_at_call 137; refine cU.mono ?_; rintro e w1 ⟨rfl, hb⟩) | (go_at_call 126; refine (cW _).mono ?_; rintro e w2 ⟨rfl, hb2⟩))
   all_goals (go_ret; exact ⟨rfl, hb.trans (hb2.mono hb.size)⟩)
end Go.Proofs.YtmkekhjbbapngaaGreatDoor.Top
set_option linter.all false
namespace Go.Proofs.YtmkekhjbbapngaaGreatDoor.Val
open Go.RowKit Go.Shelf Go.Sort Go.Lib
theorem fmtUintIn_calls (u : Nat) (hu : u < 18446744073709551616) (w : World) (hL : Laid w) :
  Calls Tryz.prog 61 #[.int .u64 u, .int .i64 10] w fun e w' => e = .returned (.string ⟨(Lib.decDigits u).toArray⟩) ∧ Below w.heap.size w w' := by
 have htab := hL.pow
 by_cases hs : u < 100
 ·
  have hd : decide ((u : Int) < 100) = true := decide_eq_true (by omega)
  have cS := fun W => Tryz.internal_strconv_small u hs W
  go_enter Tryz.func61, Tryz.ntmps61
  go_wp2_with (go_at_call 74; refine (cS _).mono ?_; rintro e w' ⟨rfl, rfl⟩)
  go_ret
  exact ⟨rfl, Below.refl _ _⟩
 ·
  have hd : decide ((u : Int) < 100) = false := decide_eq_false (by omega)
  have hu1 : 1 ≤ u := by omega
  have hnd20 : Lib.nDigits u ≤ 20 := by have := Lib.numDigits_eq u hu1 hu; split at this <;> omega
  have hal : Tryz.prog.arrayLen 101 = 24 := by kernel_rfl
  have hsl : ∀ W, (Instr.sliceAt 101 (.pointer (some ⟨w.heap.size, 0, none⟩)) none (some (.int .i64 (Lib.nDigits u : Int))) none).run Tryz.prog W = .ok (.slice (some ⟨w.heap.size, 0, none⟩) (Lib.nDigits u) 24) W := fun W => by
   rw [run_sliceAt_array_h W 101 ⟨w.heap.size, 0, none⟩ (by kernel_rfl) .i64 (Lib.nDigits u : Int) (by omega) (by rw [hal]; omega)]
   go_simp
  have hH0 : Holds (fun (b : UInt8) => Value.int .u8 (b.toNat : Int)) (w.alloc (.cells Lib.zeros24 101)) w.heap.size 0 (Array.replicate (Lib.nDigits u) 0) := fun j hj => by
   have hj' : j < Lib.nDigits u := by simpa using hj
   refine ⟨?_, World.frozen?_alloc_new _ _ _ _⟩
   rw [World.cell?_alloc_new, Lib.zeros24_at _ (by omega), getElem!_pos _ j hj]
   simp
  have hfmt := Tryz.internal_strconv_formatBase10 w.heap.size 0 24 u (Array.replicate (Lib.nDigits u) 0) (w.alloc (.cells Lib.zeros24 101)) hH0 (by rw [Array.size_replicate]; exact Lib.lt_pow_nDigits u) hu (by rw [Array.size_replicate]; omega)
  rw [Array.size_replicate] at hfmt
  have HH0 := Lib.hid hH0
  clear hH0 hal
  go_enter Tryz.func61, Tryz.ntmps61
  go_wp2_with (first
   | (go_at_call 75; refine (Tryz.internal_strconv_numDigits u hu1 hu _ (Lib.tabIs_alloc htab _)).mono ?_; rintro e w' ⟨rfl, rfl⟩))
  go_at_call 76
  refine hfmt.mono ?_
  rintro e w' ⟨rfl, k, v', dk, rfl, hF⟩
  have hcv : (convert 59 9 (.slice (some ⟨w.heap.size, 0, none⟩) (Lib.nDigits u) 24)).run Tryz.prog ((putRow (fun (b : UInt8) => Value.int .u8 (b.toNat : Int)) (w.alloc (.cells Lib.zeros24 101)) w.heap.size 0 dk).drewN k) = .ok (.string ⟨(Lib.decDigits u).toArray⟩) ((putRow (fun (b : UInt8) => Value.int .u8 (b.toNat : Int)) (w.alloc (.cells Lib.zeros24 101)) w.heap.size 0 dk).drewN k) := by
   have h := run_convert_bytes_back (P := Tryz.prog) ((putRow (fun (b : UInt8) => Value.int .u8 (b.toNat : Int)) (w.alloc (.cells Lib.zeros24 101)) w.heap.size 0 dk).drewN k) 59 9 5 ⟨w.heap.size, 0, none⟩ 24 (Lib.decDigits u) Tryz.underlying59 Tryz.underlying5 Tryz.underlying9 (fun j hj => by
    rw [Lib.row_is_numeral hF j hj, Lib.add_plain, World.cell?_drewN]
    exact cell?_putRow (fun (b : UInt8) => Value.int .u8 (b.toNat : Int)) _ w.heap.size 0 _ dk HH0.out (by rw [hF.size, Array.size_replicate]) j (by rw [hF.size]; rw [Lib.decDigits_length] at hj; exact hj))
   rw [Lib.decDigits_length] at h
   exact h
  go_wp2
  go_ret
  refine ⟨rfl, below_drewN ?_ _⟩
  have hb := below_putRow (enc := fun (b : UInt8) => Value.int .u8 (b.toNat : Int)) (q := 0) (d := dk) ((Below.refl w.heap.size w).alloc (Nat.le_refl _) (.cells Lib.zeros24 101)) (Nat.le_refl _)
  exact hb
theorem fmtUint_calls (u : Nat) (hu : u < 18446744073709551616) (w : World) (hL : Laid w) :
  Calls Tryz.prog 30 #[.int .u64 u, .int .i64 10] w fun e w' => e = .returned (.string ⟨(Lib.decDigits u).toArray⟩) ∧ Below w.heap.size w w' := by
 have cI := fmtUintIn_calls u hu w hL
 go_enter Tryz.func30, Tryz.ntmps30
 go_wp2_with (go_at_call 61; refine cI.mono ?_; rintro e w' ⟨rfl, hb⟩)
 go_ret
 exact ⟨rfl, hb⟩
end Go.Proofs.YtmkekhjbbapngaaGreatDoor.Val
set_option linter.all false
namespace Go.Proofs.YtmkekhjbbapngaaGreatDoor.Q
open Go.RowKit YtmkekhjbbapngaaGreatDoorW.PrintWords
theorem w64 {x : Int} (h0 : -9223372036854775808 ≤ x) (h1 : x ≤ 9223372036854775807) : wrap64 x = x := by unfold wrap64; omega
section
variable {α β : Type} {g f : Nat → Option α} {r : α}
theorem Ev.pos {c : Prop} [Decidable c] (hc : c) (h : Ev g r) : Ev (fun k => if c then g k else f k) r := h.congr (fun _ => if_pos hc)
theorem Ev.neg {c : Prop} [Decidable c] (hc : ¬ c) (h : Ev f r) : Ev (fun k => if c then g k else f k) r := h.congr (fun _ => if_neg hc)
theorem Ev.ret (r : α) : Ev (fun _ => some r) r := Ev.now r
theorem Ev.ret' {r s : α} (h : s = r) : Ev (fun _ => some s) r := h ▸ Ev.now s
theorem Ev.some {a : α} {q : β} {h : Nat → α → Option β} (k : Ev (fun n => h n a) q) : Ev (fun n => (Option.some a).bind (h n)) q := k
theorem Ev.fst {o : Option α} {a : α} (ho : o = Option.some a) {q : β} {h : Nat → α → Option β} (k : Ev (fun n => h n a) q) : Ev (fun n => o.bind (h n)) q := by subst ho; exact k
end
theorem bt_lt (s : ByteArray) (i : Nat) (h : i < s.size) : bt s (i : Int) = ((s[i]'h).toNat : Int) := by
 unfold bt
 rw [dif_pos (by simpa using h)]
 rfl
theorem bt_get (s : ByteArray) (i : Nat) (h : i < s.size) : bt s (i : Int) = ((s.get! i).toNat : Int) := by
 rw [bt_lt s i h, Utf8W.get!_of_lt s i h]
theorem bt_byte (s : ByteArray) (i : Int) : 0 ≤ bt s i ∧ bt s i ≤ 255 := by
 unfold bt
 split
 ·
  have := (s[i.toNat]).toNat_lt; omega
 ·
  omega
theorem bt_list (s : ByteArray) (i : Nat) (b : UInt8) (h : s.data.toList[i]? = Option.some b) : bt s (i : Int) = (b.toNat : Int) := by
 have hlt : i < s.size := by rw [Lib.size_eq]; exact (List.getElem?_eq_some_iff.1 h).1
 have := Lib.data_getElem? s i hlt
 rw [h] at this
 rw [bt_lt s i hlt, Option.some.inj this]
end Go.Proofs.YtmkekhjbbapngaaGreatDoor.Q