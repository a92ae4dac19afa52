/- What the proof of DriftDoes leans on: ValH. -/
import Derived.Test.YtenbkjeflancaaaGreatDoorSDriftDoesValA
import Derived.Lib.Walk
import Derived.WalkKit
import Derived.WalkMore
import Derived.Deep.DeepFit
import Derived.Lib.Hide
import Derived.LoopTactic
import Derived.OwnWalk
import Derived.WalkSmall
import Derived.IntWalk
import Derived.Laws.Bits64b
set_option linter.unusedVariables false
set_option linter.unusedSimpArgs false
namespace Go.Proofs.YtenbkjeflancaaaGreatDoor.Val
open Go.RowKit Go.Shelf Go.Proofs.YtenbkjeflancaaaGreatDoorW.PrintWords
def hx (d : Nat) : UInt8 := if d < 10 then UInt8.ofNat (48 + d) else UInt8.ofNat (87 + d)
def hexL (u : Nat) : List UInt8 := if h : u < 16 then [hx u] else hexL (u / 16) ++ [hx (u % 16)]
  termination_by u
  decreasing_by omega
theorem p2_calls (w : World) : Calls Tryz.prog 90 #[.int .i64 16] w fun e w' => e = .returned (.bool true) ∧ w' = w := by
  have e1 : Go.bits .and .i64 16 15 = 0 := by kernel_rfl
  go_enter Tryz.func90, Tryz.ntmps90
  go_wp2
  go_ret
  exact ⟨rfl, rfl⟩
theorem tz64_calls (w : World) (hd : w.cell? ⟨3, 15, none⟩ = some (.int .u8 4)) : Calls Tryz.prog 102 #[.int .u64 16] w fun e w' => e = .returned (.int .i64 4) ∧ w' = w := by
  have e0 : IntKind.u64.wrap (-16) = 18446744073709551600 := by kernel_rfl
  have e1 : Go.bits .and .u64 16 18446744073709551600 = 16 := by kernel_rfl
  have e2 : IntKind.u64.wrap (16 * 285870213051353865) = 4573923408821661840 := by kernel_rfl
  have e3 : IntKind.u64.wrap 4573923408821661840 = 4573923408821661840 := by kernel_rfl
  go_enter Tryz.func102, Tryz.ntmps102
  go_wp2
  go_ret
  exact ⟨rfl, rfl⟩
theorem tz_calls (w : World) (hd : w.cell? ⟨3, 15, none⟩ = some (.int .u8 4)) : Calls Tryz.prog 91 #[.int .u64 16] w fun e w' => e = .returned (.int .i64 4) ∧ w' = w := by
  have cT := tz64_calls w hd
  go_enter Tryz.func91, Tryz.ntmps91
  go_wp2_with (go_at_call 102; refine cT.mono ?_; rintro e w' ⟨rfl, rfl⟩)
  go_ret
  exact ⟨rfl, rfl⟩
theorem hexL_small {x : Nat} (h : x < 16) : hexL x = [hx x] := by rw [hexL, dif_pos h]
theorem hexL_big {x : Nat} (h : ¬ x < 16) : hexL x = hexL (x / 16) ++ [hx (x % 16)] := by rw [hexL, dif_neg h]
theorem dig_hx (x : Nat) (h : x < 16) (h' : x < (⟨#[48, 49, 50, 51, 52, 53, 54, 55, 56, 57, 97, 98, 99, 100, 101, 102, 103, 104, 105, 106, 107, 108, 109, 110, 111, 112, 113, 114, 115, 116, 117, 118, 119, 120, 121, 122]⟩ : ByteArray).size) : (⟨#[48, 49, 50, 51, 52, 53, 54, 55, 56, 57, 97, 98, 99, 100, 101, 102, 103, 104, 105, 106, 107, 108, 109, 110, 111, 112, 113, 114, 115, 116, 117, 118, 119, 120, 121, 122]⟩ : ByteArray)[x]'h' = hx x := by
  have H : ∀ i : Fin 16, (⟨#[48, 49, 50, 51, 52, 53, 54, 55, 56, 57, 97, 98, 99, 100, 101, 102, 103, 104, 105, 106, 107, 108, 109, 110, 111, 112, 113, 114, 115, 116, 117, 118, 119, 120, 121, 122]⟩ : ByteArray)[i.1]'(Nat.lt_of_lt_of_le i.2 (by decide)) = hx i.1 := by decide
  exact H ⟨x, h⟩
theorem and15 (x : Nat) (h : x < 65536) : Go.bits .and .u64 (x : Int) 15 = ((x % 16 : Nat) : Int) := by
  have e := bits_and_u64_nat x 15 (by omega) (by omega)
  rw [show x &&& 15 = x % 16 from Nat.and_two_pow_sub_one_eq_mod x 4] at e
  exact e
set_option maxHeartbeats 8000000 in
set_option maxRecDepth 1000000 in
theorem fb_calls (u : Nat) (hu : u < 65536) (w : World) (hL : Laid w) :
    Calls Tryz.prog 78 #[.slice none 0 0, .int .u64 u, .int .i64 16, .bool false, .bool false] w fun e w' => e = .returned (.tuple #[.slice none 0 0, .string ⟨(hexL u).toArray⟩]) ∧ Below w.heap.size w w' := by
  have cP := p2_calls
  have cT := fun W (hb : Below w.heap.size w W) => tz_calls W ((hL.below hb).db)
  obtain ⟨R, hR⟩ : ∃ R, hexL u = R := ⟨_, rfl⟩
  rw [hR]
  go_enter Tryz.func78, Tryz.ntmps78
  go_wp2_with (first | (go_at_call 90; refine (cP _).mono ?_; rintro e w' ⟨rfl, rfl⟩) | (go_at_call 91; refine (cT _ ((Below.refl _ _).alloc (Nat.le_refl _) _)).mono ?_; rintro e w' ⟨rfl, rfl⟩))
  go_loopg [1, 13] 3 (fun gk v1 v13 wx => ∃ (j x : Nat) (cs : Array Value) (sf : List UInt8), v1 = .int .u64 x ∧ v13 = .int .i64 ((65 - j : Nat) : Int) ∧ j + gk = 3 ∧ x < 16 ^ (gk + 1) ∧ x < 65536 ∧ R = hexL x ++ sf ∧ sf.length = j ∧ wx.heap[w.heap.size]? = some (.cells cs 120 (0, 0)) ∧ cs.size = 65 ∧ (∀ t, (h : t < sf.length) → cs[65 - j + t]? = some (.int .u8 (sf[t]).toNat)) ∧ Below w.heap.size w wx)
  case atStart => exact ⟨0, u, _, [], rfl, rfl, rfl, hu, hu, by rw [List.append_nil, hR], rfl, blk_new w _, by simp, fun t h => absurd h (by simp), (Below.refl _ _).alloc (Nat.le_refl _) _⟩
  case round =>
    obtain ⟨j, x, cs, sf, rfl, rfl, hj, hx16, hx64, hRe, hsf, hblk, hcs, hcells, hB⟩ := hrel
    have HB := Lib.hid hB
    have HK := Lib.hid hblk
    have HS := Lib.hid hcells
    clear hB hcells
    have qf := fun i => blk_frozen hblk i
    have q0 := blk_cell hblk
    clear hblk
    by_cases hx0 : x < 16
    · have hge : decide ((x : Int) ≥ 16) = false := decide_eq_false (by omega)
      have hx36 : (x : Int) < 36 := by omega
      have hn : ((65 - j : Nat) : Int) - 1 = ((64 - j : Nat) : Int) := by omega
      have hin : 64 - j < cs.size := by omega
      have qc : wr.cell? ⟨w.heap.size, 64 - j, none⟩ = some (cs[64 - j]'hin) := by rw [q0 (64 - j), Array.getElem?_eq_getElem hin]
      generalize cs[64 - j]'hin = old at qc
      have hi2 : ((64 - j : Nat) : Int) < 65 := by omega
      clear q0
      have hsl : ∀ W, (Instr.sliceAt 120 (.pointer (some ⟨w.heap.size, 0, none⟩)) (some (.int .i64 ((64 - j : Nat) : Int))) none none).run Tryz.prog W = .ok (.slice (some ⟨w.heap.size, 64 - j, none⟩) (j + 1) (j + 1)) W := fun W => by
        have hal : Tryz.prog.arrayLen 120 = 65 := by kernel_rfl
        rw [run_sliceAt_array_l W 120 ⟨w.heap.size, 0, none⟩ (by kernel_rfl) .i64 ((64 - j : Nat) : Int) (by omega) (by rw [hal]; omega)]
        go_simp
        omega
      have hcv : (convert 77 9 (.slice (some ⟨w.heap.size, 64 - j, none⟩) (j + 1) (j + 1))).run Tryz.prog (wr.setCell ⟨w.heap.size, 64 - j, none⟩ (.int .u8 ((hx x).toNat : Int))) = .ok (.string ⟨R.toArray⟩) (wr.setCell ⟨w.heap.size, 64 - j, none⟩ (.int .u8 ((hx x).toNat : Int))) := by
        have h := run_convert_bytes_back (P := Tryz.prog) (wr.setCell ⟨w.heap.size, 64 - j, none⟩ (.int .u8 ((hx x).toNat : Int))) 77 9 5 ⟨w.heap.size, 64 - j, none⟩ (j + 1) (hx x :: sf) Tryz.underlying77 Tryz.underlying5 Tryz.underlying9 (fun i hi => by
          rw [Lib.add_plain]
          cases i with
          | zero => exact World.cell?_setCell_same _ _ _ qc
          | succ i =>
            have hi : i < sf.length := by simpa using hi
            rw [World.cell?_setCell_other _ _ _ _ (by simp), List.getElem_cons_succ, blk_cell HK.out, ← HS.out i hi]
            congr 1
            omega)
        rw [List.length_cons, hsf] at h
        rw [hRe, hexL_small hx0]
        exact h
      have hdg := dig_hx x hx0
      go_wp2
      go_ret2
      refine ⟨rfl, ?_⟩
      exact HB.out.setCell (p := ⟨w.heap.size, 64 - j, none⟩) (Nat.le_refl _) _
    · cases gk with
      | zero => exact absurd hx16 (by omega)
      | succ gk =>
        have hge : decide ((x : Int) ≥ 16) = true := decide_eq_true (by omega)
        have hn : ((65 - j : Nat) : Int) - 1 = ((64 - j : Nat) : Int) := by omega
        have hin : 64 - j < cs.size := by omega
        have qc : wr.cell? ⟨w.heap.size, 64 - j, none⟩ = some (cs[64 - j]'hin) := by rw [q0 (64 - j), Array.getElem?_eq_getElem hin]
        generalize cs[64 - j]'hin = old at qc
        have hi2 : ((64 - j : Nat) : Int) < 65 := by omega
        clear q0
        have ha := and15 x hx64
        have hx36 : ((x % 16 : Nat) : Int) < 36 := by omega
        have hdg := dig_hx (x % 16) (by omega)
        have hj3 : j ≤ 2 := by omega
        have HX := Lib.hid hx16
        have HJ := Lib.hid hj
        have HR := Lib.hid hRe
        have HF := Lib.hid hsf
        have HC := Lib.hid hcs
        clear hx16 hj hRe hsf hcs hu hR
        go_wp2
        go_roundg gk
        case measure => omega
        case rel =>
          have hxb := HX.out
          have hjj := HJ.out
          refine ⟨j + 1, x / 16, cs.setIfInBounds (64 - j) (.int .u8 ((hx (x % 16)).toNat : Int)), hx (x % 16) :: sf, by first | rfl | (congr 1; omega), by congr 1; omega, by omega, ?_, by omega, ?_, by rw [List.length_cons, HF.out], ?_, by rw [Array.size_setIfInBounds]; exact HC.out, ?_, HB.out.setCell (p := ⟨w.heap.size, 64 - j, none⟩) (Nat.le_refl _) _⟩
          · have : (16 : Nat) ^ (gk + 1 + 1) = 16 ^ (gk + 1) * 16 := Nat.pow_succ ..
            rw [this] at hxb
            exact Nat.div_lt_of_lt_mul (by rw [Nat.mul_comm]; exact hxb)
          · rw [HR.out, hexL_big hx0, List.append_assoc]; rfl
          · exact blk_set HK.out _ _
          · intro t ht
            have hcs := HC.out
            cases t with
            | zero => rw [Array.getElem?_setIfInBounds, if_pos (by omega), if_pos (by omega)]; rfl
            | succ t =>
              have ht2 : t < sf.length := by simpa using ht
              rw [Array.getElem?_setIfInBounds, if_neg (by omega), List.getElem_cons_succ, ← HS.out t ht2]
              congr 1
              omega
theorem fmtHexIn_calls (u : Nat) (hu : u < 65536) (w : World) (hL : Laid w) :
    Calls Tryz.prog 53 #[.int .i64 u, .int .i64 16] w fun e w' => e = .returned (.string ⟨(hexL u).toArray⟩) ∧ Below w.heap.size w w' := by
  have cB := fb_calls u hu w hL
  have hd : decide ((u : Int) < 0) = false := decide_eq_false (by omega)
  have hu2 : (u : Int) < 65536 := by omega
  go_enter Tryz.func53, Tryz.ntmps53
  go_wp2_with (go_at_call 78; refine cB.mono ?_; rintro e w' ⟨rfl, hb⟩)
  go_ret
  exact ⟨rfl, hb⟩
theorem fmtHex_calls (u : Nat) (hu : u < 65536) (w : World) (hL : Laid w) :
    Calls Tryz.prog 28 #[.int .i64 u, .int .i64 16] w fun e w' => e = .returned (.string ⟨(hexL u).toArray⟩) ∧ Below w.heap.size w w' := by
  have cB := fmtHexIn_calls u hu w hL
  go_enter Tryz.func28, Tryz.ntmps28
  go_wp2_with (go_at_call 53; refine cB.mono ?_; rintro e w' ⟨rfl, hb⟩)
  go_ret
  exact ⟨rfl, hb⟩
theorem hexL_len (u : Nat) (hu : u < 65536) : 1 ≤ (hexL u).length ∧ (hexL u).length ≤ 4 := by
  by_cases h1 : u < 16
  · rw [hexL_small h1]; simp
  rw [hexL_big h1]
  by_cases h2 : u / 16 < 16
  · rw [hexL_small h2]; simp
  rw [hexL_big h2]
  by_cases h3 : u / 16 / 16 < 16
  · rw [hexL_small h3]; simp
  rw [hexL_big h3, hexL_small (by omega)]; simp
def hex4 (u : Nat) : List UInt8 := List.replicate (4 - (hexL u).length) 48 ++ hexL u
theorem hex4_eq (u : Nat) (hu : u < 65536) : hex4 u = [hx (u / 4096), hx (u / 256 % 16), hx (u / 16 % 16), hx (u % 16)] := by
  have h0 : hx 0 = 48 := by decide
  unfold hex4
  by_cases h1 : u < 16
  · rw [hexL_small h1, show u / 4096 = 0 by omega, show u / 256 % 16 = 0 by omega, show u / 16 % 16 = 0 by omega, show u % 16 = u by omega, h0]; rfl
  rw [hexL_big h1]
  by_cases h2 : u / 16 < 16
  · rw [hexL_small h2, show u / 4096 = 0 by omega, show u / 256 % 16 = 0 by omega, show u / 16 % 16 = u / 16 by omega, h0]; rfl
  rw [hexL_big h2]
  by_cases h3 : u / 16 / 16 < 16
  · rw [hexL_small h3, show u / 4096 = 0 by omega, show u / 256 % 16 = u / 16 / 16 by omega, h0]; rfl
  rw [hexL_big h3, hexL_small (by omega), show u / 4096 = u / 16 / 16 / 16 by omega, show u / 256 % 16 = u / 16 / 16 % 16 by omega]; rfl
theorem hex_calls (u : Nat) (hu : u < 65536) (w : World) (hL : Laid w) :
    Calls Tryz.prog 27 #[.int .i64 u] w fun e w' => e = .returned (.string ⟨(hex4 u).toArray⟩) ∧ Below w.heap.size w w' := by
  have cB := fmtHex_calls u hu w hL
  obtain ⟨l1, l4⟩ := hexL_len u hu
  have hsz : (⟨(hexL u).toArray⟩ : ByteArray).size = (hexL u).length := by simp [ByteArray.size]
  have cR := fun W => repeat0_calls (4 - (hexL u).length) W (by omega)
  have hap : (⟨(List.replicate (4 - (hexL u).length) 48).toArray⟩ : ByteArray) ++ ⟨(hexL u).toArray⟩ = ⟨(hex4 u).toArray⟩ := by
    apply ByteArray.ext
    rw [ByteArray.data_append]
    simp [hex4]
  have hs2 : (⟨(List.replicate (4 - (hexL u).length) 48).toArray⟩ : ByteArray).size = 4 - (hexL u).length := by simp [ByteArray.size]
  obtain ⟨m, hm⟩ : ∃ m, 4 - (hexL u).length = m := ⟨_, rfl⟩
  rw [hm] at hs2 hap cR
  generalize hexL u = l at *
  generalize (⟨(List.replicate m 48).toArray⟩ : ByteArray) = rp at *
  generalize (⟨l.toArray⟩ : ByteArray) = s at *
  have hn : (4 : Int) - (s.size : Int) = (m : Int) := by omega
  have hlen : s.size ≤ 4 := by omega
  have hlen2 : rp.size ≤ 4 := by omega
  have hm4 : (m : Int) ≤ 4 := by omega
  have hsum : ¬ 9223372036854775807 < rp.size + s.size := by omega
  clear hsz hs2 hm l1 l4
  go_enter Tryz.func27, Tryz.ntmps27
  go_wp2_with (first | (go_at_call 28; refine cB.mono ?_; rintro e w1 ⟨rfl, hb1⟩) | (go_at_call 29; refine (cR _).mono ?_; rintro e w2 ⟨rfl, hb2⟩))
  go_ret
  exact ⟨by rw [← hap]; rfl, hb1.trans (hb2.mono hb1.size)⟩
end Go.Proofs.YtenbkjeflancaaaGreatDoor.Val
