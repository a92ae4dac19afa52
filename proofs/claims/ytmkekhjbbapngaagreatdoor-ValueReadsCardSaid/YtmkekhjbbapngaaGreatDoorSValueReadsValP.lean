/- ValP -/
import Derived.Test.YtmkekhjbbapngaaGreatDoorSValueReadsTopB
set_option maxRecDepth 100000
set_option maxHeartbeats 32000000
set_option linter.all false
namespace Go.Proofs.YtmkekhjbbapngaaGreatDoor.Val
open Go.RowKit Go.Shelf
theorem zValPa0_ {P_ : Prop} (h_ : P_ := by first | (rw [hF]; rfl) | rfl) : P_ := h_
theorem zValPa1_ {P_ : Prop} (h_ : P_ := by first | rfl | (congr 1; omega)) : P_ := h_
def hexD (c : Nat) : Option Nat :=
 if 48 ≤ c ∧ c ≤ 57 then some (c - 48) else if 97 ≤ c ∧ c ≤ 102 then some (c - 87) else if 65 ≤ c ∧ c ≤ 70 then some (c - 55) else none
def hexP (acc : Nat) : List UInt8 → Lib.NumEnd Nat
 | [] => .ok acc
 | c :: r => match hexD c.toNat with
  | none => Lib.NumEnd.syntax
  | some d => if 4294967295 < acc * 16 + d then .range else hexP (acc * 16 + d) r
def hexPB (l : List UInt8) : Lib.NumEnd Nat := if l = [] then Lib.NumEnd.syntax else hexP 0 l
def lowN (c : Nat) : Nat := if c / 32 % 2 = 1 then c else c + 32
theorem low_eq (c : Nat) (h : c < 256) : Go.bits .or .u8 (c : Int) 32 = (lowN c : Int) := by
 have H : ∀ i : Fin 256, Go.bits .or .u8 (i.1 : Int) 32 = (lowN i.1 : Int) := by decide +kernel
 exact H ⟨c, h⟩
theorem lower_calls (c : Nat) (h : c < 256) (w : World) : Calls Tryz.prog 86 #[.int .u8 c] w fun e w' => e = .returned (.int .u8 (lowN c)) ∧ w' = w := by
 have := Tryz.internal_strconv_lower (c : Int) w
 rw [low_eq c h] at this
 exact this
theorem parseHexIn_calls (t : ByteArray) (hne : t.size ≠ 0) (hmax : t.size ≤ 281474976710656) (w : World) :
  Calls Tryz.prog 67 #[.string t, .int .i64 16, .int .i64 32] w fun e w' => e = .returned (Lib.uintTupleM 112 4294967295 (hexP 0 t.data.toList)) ∧ w' = Lib.bytesWorld w 5 t := by
 have hemp : t.toList.isEmpty = false := by
  rw [← decide_eq_emptyBytes]
  exact decide_eq_false (fun h => hne (by rw [h]; rfl))
 have hcv := Lib.run_convert_string_bytes (P := Tryz.prog) w 9 59 5 t (u := .string) Tryz.underlying9 Tryz.underlying59 Tryz.underlying5
 have hB : ∀ j, j < t.size → (Lib.bytesWorld w 5 t).cell? ⟨w.heap.size, j, none⟩ = some (.int .u8 (t.data.toList.getD j 0).toNat) := fun j hj => Lib.bytesWorld_cell w 5 t j hj
 obtain ⟨W1, hW1⟩ : ∃ W1, W1 = Lib.bytesWorld w 5 t := ⟨_, rfl⟩
 rw [← hW1] at hcv hB ⊢
 clear hW1
 obtain ⟨bs, hL⟩ : ∃ bs, bs = t.data.toList := ⟨_, rfl⟩
 have hLn : bs.length = t.size := by rw [hL, Lib.size_eq]
 rw [← hL] at hB ⊢
 clear hL
 have hmv : IntKind.u64.wrap (IntKind.u64.wrap 4294967296 - 1) = 4294967295 := by
  rw [IntKind.wrap_u64, IntKind.wrap_u64]
  decide
 have HB := Lib.hid hB
 have HL := Lib.hid hLn
 clear hB hLn hne
 go_enter Tryz.func67, Tryz.ntmps67
 go_wp2
 go_loopg [12, 13, 101] t.size (fun gk vu vn vi wx => ∃ (k acc : Nat) (a : Int), vu = .bool false ∧ vn = .int .u64 a ∧ vi = .int .i64 k ∧ k + gk = t.size ∧ wx = W1 ∧ Hid (a = (acc : Int) ∧ acc ≤ 4294967295 ∧ hexP 0 bs = hexP acc (bs.drop k)))
 case atStart => exact ⟨0, 0, 0, rfl, rfl, rfl, by omega, rfl, rfl, by omega, rfl⟩
 case round =>
  obtain ⟨k, acc, a, rfl, rfl, rfl, hkg, rfl, hh⟩ := hrel
  obtain ⟨ha, hacc, hdec⟩ := hh.out
  clear hh
  have HK := Lib.hid hkg
  cases gk with
  | zero =>
   have hlt : (k < t.size) = False := eq_false (by omega)
   have hF : hexP acc (bs.drop k) = .ok acc := by rw [List.drop_eq_nil_of_le (by have := HL.out; omega)]; rfl
   rw [hF] at hdec
   clear hF hkg hacc
   go_wp2
   go_ret2
   exact ⟨by rw [hdec, ha]; rfl, rfl⟩
  | succ gk =>
   have hkn : k < t.size := by omega
   have hc := HB.out k hkn
   have hbl := HL.out
   have hdrop : bs.drop k = bs[k]'(by omega) :: bs.drop (k + 1) := List.drop_eq_getElem_cons (by omega)
   have hget : bs.getD k 0 = bs[k]'(by omega) := by simp [List.getD, List.getElem?_eq_getElem (show k < bs.length by omega)]
   rw [hdrop] at hdec
   rw [hget] at hc
   generalize bs[k]'(by omega) = c at hc hdec
   have hc256 : c.toNat < 256 := c.toNat_lt
   obtain ⟨n, hn⟩ : ∃ n, n = c.toNat := ⟨_, rfl⟩
   rw [← hn] at hc hc256
   have HD := Lib.hid hdec
   clear hdrop hget hbl hdec hkg
   have cL := fun W => lower_calls n hc256 W
   have next : ∀ d, hexD n = some d → ¬ 4294967295 < acc * 16 + d → hexP 0 bs = hexP (acc * 16 + d) (bs.drop (k + 1)) := by
    intro d hd hov
    have := HD.out
    rw [hexP, ← hn, hd] at this
    simpa [hov] using this
   have over : ∀ d, hexD n = some d → 4294967295 < acc * 16 + d → hexP 0 bs = .range := by
    intro d hd hov
    have := HD.out
    rw [hexP, ← hn, hd] at this
    simpa [hov] using this
   have none_ : hexD n = none → hexP 0 bs = Lib.NumEnd.syntax := by
    intro hd
    have := HD.out
    rw [hexP, ← hn, hd] at this
    exact this
   have NX := Lib.hid next
   have OV := Lib.hid over
   have NN := Lib.hid none_
   have HA := Lib.hid (And.intro ha hacc)
   have a0 : 0 ≤ a := by omega
   have a1 : a ≤ 4294967295 := by omega
   have icut : a < 1152921504606846976 := by omega
   clear next over none_ hn ha hacc
   by_cases hdig : 48 ≤ n ∧ n ≤ 57
   ·
    obtain ⟨hd0, hd1⟩ := hdig
    have hD : hexD n = some (n - 48) := by unfold hexD; rw [if_pos ⟨hd0, hd1⟩]
    by_cases hov : 4294967295 < acc * 16 + (n - 48)
    ·
     have hF := OV.out _ hD hov
     have iov : 4294967295 < a * 16 + ((n : Int) - 48) := by have := HA.out; omega
     clear hov hD
     go_wp2
     go_ret2
     exact ⟨zValPa0_, rfl⟩
    ·
     have HN : Hid (a * 16 + ((n : Int) - 48) = ((acc * 16 + (n - 48) : Nat) : Int) ∧ acc * 16 + (n - 48) ≤ 4294967295 ∧ hexP 0 bs = hexP (acc * 16 + (n - 48)) (bs.drop (k + 1))) := Lib.hid ⟨by have := HA.out; omega, by omega, NX.out _ hD hov⟩
     have iov : a * 16 + ((n : Int) - 48) ≤ 4294967295 := by have := HA.out; omega
     clear hov hD
     go_wp2
     go_roundg gk
     case measure => omega
     case rel => exact ⟨k + 1, acc * 16 + (n - 48), a * 16 + ((n : Int) - 48), rfl, zValPa1_, zValPa1_, by have := HK.out; omega, rfl, HN⟩
   ·
    by_cases h95 : n = 95
    ·
     subst h95
     have hF := NN.out (by decide)
     have cL5 : ∀ W, Calls Tryz.prog 86 #[.int .u8 95] W fun e w' => e = .returned (.int .u8 127) ∧ w' = W := fun W => lower_calls 95 (by decide) W
     clear cL
     go_wp2_with (go_at_call 86; refine (cL5 _).mono ?_; rintro e w' ⟨rfl, rfl⟩)
     go_ret2
     exact ⟨zValPa0_, rfl⟩
    obtain ⟨m, hm⟩ : ∃ m, lowN n = m := ⟨_, rfl⟩
    rw [hm] at cL
    by_cases hal : 97 ≤ m ∧ m ≤ 122
    ·
     obtain ⟨hm0, hm1⟩ := hal
     by_cases h6 : m ≤ 102
     ·
      have hD : hexD n = some (m - 87) := by
       unfold hexD
       unfold lowN at hm
       rw [if_neg hdig]
       by_cases h : 97 ≤ n ∧ n ≤ 102
       ·
        rw [if_pos h]
        congr 1
        split at hm <;> omega
       ·
        have h2 : 65 ≤ n ∧ n ≤ 70 := by split at hm <;> omega
        rw [if_neg h, if_pos h2]
        congr 1
        split at hm <;> omega
      by_cases hov : 4294967295 < acc * 16 + (m - 87)
      ·
       have hF := OV.out _ hD hov
       have iov : 4294967295 < a * 16 + ((m : Int) - 97 + 10) := by have := HA.out; omega
       clear hov hD hm
       go_wp2_with (go_at_call 86; refine (cL _).mono ?_; rintro e w' ⟨rfl, rfl⟩)
       all_goals go_ret2
       all_goals exact ⟨zValPa0_, rfl⟩
      ·
       have HN : Hid (a * 16 + ((m : Int) - 97 + 10) = ((acc * 16 + (m - 87) : Nat) : Int) ∧ acc * 16 + (m - 87) ≤ 4294967295 ∧ hexP 0 bs = hexP (acc * 16 + (m - 87)) (bs.drop (k + 1))) := Lib.hid ⟨by have := HA.out; omega, by omega, NX.out _ hD hov⟩
       have iov : a * 16 + ((m : Int) - 97 + 10) ≤ 4294967295 := by have := HA.out; omega
       clear hov hD hm
       go_wp2_with (go_at_call 86; refine (cL _).mono ?_; rintro e w' ⟨rfl, rfl⟩)
       all_goals go_roundg gk
       all_goals first
        | (show _ < _; omega)
        | exact ⟨k + 1, acc * 16 + (m - 87), a * 16 + ((m : Int) - 97 + 10), rfl, zValPa1_, zValPa1_, by have := HK.out; omega, rfl, HN⟩
     ·
      have hD : hexD n = none := by
       unfold hexD
       unfold lowN at hm
       rw [if_neg hdig, if_neg (by split at hm <;> omega), if_neg (by split at hm <;> omega)]
      have hF := NN.out hD
      have h6' : 102 < m := by omega
      clear hD hm h6
      go_wp2_with (go_at_call 86; refine (cL _).mono ?_; rintro e w' ⟨rfl, rfl⟩)
      all_goals go_ret2
      all_goals exact ⟨zValPa0_, rfl⟩
    ·
     have hD : hexD n = none := by
      unfold hexD
      unfold lowN at hm
      rw [if_neg hdig, if_neg (by split at hm <;> omega), if_neg (by split at hm <;> omega)]
     have hF := NN.out hD
     clear hD hm
     go_wp2_with (go_at_call 86; refine (cL _).mono ?_; rintro e w' ⟨rfl, rfl⟩)
     all_goals go_ret2
     all_goals exact ⟨zValPa0_, rfl⟩
end Go.Proofs.YtmkekhjbbapngaaGreatDoor.Val
set_option linter.all false
namespace Go.Proofs.YtmkekhjbbapngaaGreatDoor.Val
open Go.RowKit Go.Shelf
theorem bytes_below (w : World) (t : ByteArray) : Below w.heap.size w (Lib.bytesWorld w 5 t) := Lib.bytesWorld_below w _ t
def Told (r : Lib.NumEnd Nat) (e : Ending) : Prop :=
  (∃ u, r = .ok u ∧ e = .returned (.tuple #[.int .u64 (u : Int), .nilIface])) ∨ ((∀ u, r ≠ .ok u) ∧ ∃ x te pe, e = .returned (.tuple #[.int .u64 x, .iface te pe]))
theorem parseHex_calls (t : ByteArray) (hmax : t.size ≤ 281474976710656) (w : World) (hL : Laid w) :
    Calls Tryz.prog 37 #[.string t, .int .i64 16, .int .i64 32] w fun e w' => Told (hexPB t.data.toList) e ∧ Below w.heap.size w w' := by
  have cI : Calls Tryz.prog 67 #[.string t, .int .i64 16, .int .i64 32] w fun e w' => e = .returned (Lib.uintTupleM 112 4294967295 (hexPB t.data.toList)) ∧ Below w.heap.size w w' := by
    by_cases h0 : t.size = 0
    · have ht : t = ⟨#[]⟩ := by
        apply ByteArray.ext
        exact Array.eq_empty_of_size_eq_zero h0
      subst ht
      refine (Tryz.internal_strconv_ParseUint_empty 16 32 w).mono ?_
      rintro e w' ⟨rfl, rfl⟩
      exact ⟨rfl, Below.refl _ _⟩
    · have hne : t.data.toList ≠ [] := fun h => h0 (by rw [Lib.size_eq, h]; rfl)
      refine (parseHexIn_calls t h0 hmax w).mono ?_
      rintro e w' ⟨rfl, rfl⟩
      exact ⟨by rw [hexPB, if_neg hne], bytes_below w t⟩
  obtain ⟨ts, ps, hes⟩ := hL.es
  obtain ⟨tr, pr, her⟩ := hL.er
  have ces : ∀ W, Below w.heap.size w W → W.cell? ⟨1, 0, none⟩ = some (.iface ts ps) := fun W hb => World.var?_cell (g := 1) (by kernel_rfl) (var_below (g := 1) (by kernel_rfl) hes hb) 0
  have cer : ∀ W, Below w.heap.size w W → W.cell? ⟨2, 0, none⟩ = some (.iface tr pr) := fun W hb => World.var?_cell (g := 2) (by kernel_rfl) (var_below (g := 2) (by kernel_rfl) her hb) 0
  have cTs := fun W (hb : Below w.heap.size w W) => Tryz.strconv_toError_syntax ⟨#[80, 97, 114, 115, 101, 85, 105, 110, 116]⟩ t 16 32 (.iface ts ps) W hmax (ces W hb) (Or.inr ⟨ts, ps, rfl⟩)
  have cTr := fun W (hb : Below w.heap.size w W) => Tryz.strconv_toError_range ⟨#[80, 97, 114, 115, 101, 85, 105, 110, 116]⟩ t 16 32 (.iface tr pr) W hmax (cer W hb) (Or.inr ⟨tr, pr, rfl⟩)
  clear ces cer hes her
  generalize hexPB t.data.toList = r at *
  unfold Told
  cases r with
  | ok u =>
    have cJ : Calls Tryz.prog 67 #[.string t, .int .i64 16, .int .i64 32] w fun e w' => e = .returned (.tuple #[.int .u64 (u : Int), .nilIface]) ∧ Below w.heap.size w w' := cI
    go_enter Tryz.func37, Tryz.ntmps37
    go_wp2_with (go_at_call 67; refine cJ.mono ?_; rintro e w1 ⟨rfl, hb1⟩)
    go_ret2
    exact ⟨.inl ⟨u, rfl, rfl⟩, hb1⟩
  | range =>
    have cJ : Calls Tryz.prog 67 #[.string t, .int .i64 16, .int .i64 32] w fun e w' => e = .returned (.tuple #[.int .u64 4294967295, .iface 112 (.int .i64 1)]) ∧ Below w.heap.size w w' := cI
    go_enter Tryz.func37, Tryz.ntmps37
    go_wp2_with (first | (go_at_call 67; refine cJ.mono ?_; rintro e w1 ⟨rfl, hb1⟩) | (go_at_call 68; refine (cTr _ hb1).mono ?_; rintro e w2 ⟨Nn, rfl, hN1, hN2, hb2⟩))
    go_ret2
    exact ⟨.inr ⟨nofun, _, _, _, rfl⟩, hb1.trans (hb2.mono hb1.size)⟩
  | _ =>
    have cJ : Calls Tryz.prog 67 #[.string t, .int .i64 16, .int .i64 32] w fun e w' => e = .returned (.tuple #[.int .u64 0, .iface 112 (.int .i64 2)]) ∧ Below w.heap.size w w' := cI
    go_enter Tryz.func37, Tryz.ntmps37
    go_wp2_with (first | (go_at_call 67; refine cJ.mono ?_; rintro e w1 ⟨rfl, hb1⟩) | (go_at_call 68; refine (cTs _ hb1).mono ?_; rintro e w2 ⟨Nn, rfl, hN1, hN2, hb2⟩))
    go_ret2
    exact ⟨.inr ⟨nofun, _, _, _, rfl⟩, hb1.trans (hb2.mono hb1.size)⟩
theorem parseDec_calls (t : ByteArray) (hmax : t.size ≤ 281474976710656) (w : World) (hL : Laid w) :
    Calls Tryz.prog 37 #[.string t, .int .i64 10, .int .i64 64] w fun e w' => Told (Lib.parseUintB 64 t.data.toList) e ∧ Below w.heap.size w w' := by
  obtain ⟨ts, ps, hes⟩ := hL.es
  obtain ⟨tr, pr, her⟩ := hL.er
  unfold Told
  cases h : Lib.parseUintB 64 t.data.toList with
  | ok u =>
    refine (Tryz.strconv_ParseUint_10_at64_ok t (by omega) u h w).mono ?_
    rintro e w' ⟨rfl, hw⟩
    refine ⟨.inl ⟨u, rfl, rfl⟩, ?_⟩
    rcases hw with rfl | rfl
    · exact Below.refl _ _
    · exact bytes_below w t
  | range =>
    refine (Tryz.strconv_ParseUint_10_at64_range_var t hmax h tr pr w her).mono ?_
    rintro e w' ⟨Nn, rfl, -, -, hb⟩
    exact ⟨.inr ⟨nofun, _, _, _, rfl⟩, hb⟩
  | _ =>
    refine (Tryz.strconv_ParseUint_10_at64_syntax_var t hmax h ts ps w hes).mono ?_
    rintro e w' ⟨Nn, rfl, -, -, hb⟩
    exact ⟨.inr ⟨nofun, _, _, _, rfl⟩, hb⟩
end Go.Proofs.YtmkekhjbbapngaaGreatDoor.Val
