/- What the proof of ValueTells leans on: ValA. -/
import Derived.Test.YtmkekhjbbapngaaGreatDoorSValueTellsTopB
import Derived.Test.YtmkekhjbbapngaaGreatDoorSValueTellsWWords
import Derived.Shelf.Strings.SlTrimAscii
import Derived.Lib.ItoaMem
import Derived.OwnWalk
import Derived.Lib.Walk
import Derived.Lib.SliceRun
import Derived.WalkKit
import Derived.Deep.LoopGhost
import Derived.Lib.OwnBridge
import Derived.BigCall
import Derived.BigGuard
import Derived.LoopTactic
import Derived.WalkSmall
import Derived.IntWalk
set_option linter.unusedVariables false
set_option linter.unusedSimpArgs false
namespace Go.Proofs.YtmkekhjbbapngaaGreatDoor.Val
open Go.RowKit Go.Shelf Go.Proofs.YtmkekhjbbapngaaGreatDoorW.PrintWords
structure Laid (w : World) : Prop where
  top : Top.Laid w
  pow : Lib.TabIs Tryz.prog w "internal/strconv.uint64pow10" .u64 Lib.pow10Tab
  db : w.cell? ⟨5, 15, none⟩ = some (.int .u8 4)
  es : ∃ t p, w.var? Tryz.prog "strconv.ErrSyntax" = some #[.iface t p]
  er : ∃ t p, w.var? Tryz.prog "strconv.ErrRange" = some #[.iface t p]
theorem var_below {n : String} {g : Nat} {v : Array Value} {w w' : World} (hg : Tryz.prog.globalNamed n = some g) (h : w.var? Tryz.prog n = some v) (hb : Below w.heap.size w w') : w'.var? Tryz.prog n = some v := by
  unfold World.var? at h ⊢
  rw [hg] at h ⊢
  simp only [Option.bind_some] at h ⊢
  have hlt : g < w.heap.size := by
    rcases Nat.lt_or_ge g w.heap.size with h' | h'
    · exact h'
    · rw [Array.getElem?_eq_none h'] at h; cases h
  rw [hb.block g hlt]
  exact h
theorem Laid.below {w w' : World} (h : Laid w) (hb : Below w.heap.size w w') : Laid w' where
  top := h.top.below hb
  pow := var_below (g := 0) (by kernel_rfl) h.pow hb
  db := Top.cell_below hb (Nat.le_refl _) h.db
  es := by obtain ⟨t, p, hv⟩ := h.es; exact ⟨t, p, var_below (g := 1) (by kernel_rfl) hv hb⟩
  er := by obtain ⟨t, p, hv⟩ := h.er; exact ⟨t, p, var_below (g := 2) (by kernel_rfl) hv hb⟩
theorem trim_calls (s cs : ByteArray) (w : World) (hs : s.size ≤ 9223372036854775807) (hcs : cs.size < 4294967281) (hc : ∀ (j : Nat) b, cs.data.toList[j]? = some b → b.toNat < 128) :
    Calls Tryz.prog 71 #[.string s, .string cs] w fun e w' => e = .returned (.string ⟨(Lib.trimS s.data.toList cs.data.toList).toArray⟩) ∧ Below w.heap.size w w' :=
  Any.strings_Trim_laid Tryz.lays160 (by kernel_rfl) s cs w hs hcs hc
theorem trimLeft_calls (s cs : ByteArray) (w : World) (hcs : cs.size < 4294967281) (hc : ∀ (j : Nat) b, cs.data.toList[j]? = some b → b.toNat < 128) :
    Calls Tryz.prog 72 #[.string s, .string cs] w fun e w' => e = .returned (.string ⟨(Lib.trimLeftS s.data.toList cs.data.toList).toArray⟩) ∧ Below w.heap.size w w' :=
  Any.strings_TrimLeft_laid Tryz.lays161 (by kernel_rfl) s cs w hcs hc
theorem cut_calls (s sep : ByteArray) (w : World) (hL : Top.Laid w) (hs : s.size < 4294967281) :
    Calls Tryz.prog 70 #[.string s, .string sep] w fun e w' => e = .returned (.tuple #[.string ⟨(Lib.cut s.data.toList sep.data.toList).1.toArray⟩, .string ⟨(Lib.cut s.data.toList sep.data.toList).2.1.toArray⟩, .bool (Lib.cut s.data.toList sep.data.toList).2.2]) ∧ Below w.heap.size w w' := by
  obtain ⟨m, hm⟩ := hL.ml
  refine (Tryz.strings_Cut s sep m w hs hm).mono ?_
  rintro e w' ⟨rfl, n, rfl⟩
  exact ⟨rfl, below_drewN (Below.refl _ _) n⟩
theorem repeat0_calls (n : Nat) (w : World) (hn : n ≤ 1000000) :
    Calls Tryz.prog 28 #[.string ⟨#[48]⟩, .int .i64 n] w fun e w' => e = .returned (.string ⟨(List.replicate n 48).toArray⟩) ∧ Below w.heap.size w w' := by
  have hrep : ∀ n, Lib.repeatL [48] n = List.replicate n 48 := by
    intro n
    induction n with
    | zero => rfl
    | succ n ih => rw [Lib.repeatL, ih]; rfl
  rcases (by omega : n = 0 ∨ n = 1 ∨ 2 ≤ n) with h | h | h
  · subst h
    refine (Tryz.strings_Repeat_zero ⟨#[48]⟩ w).mono ?_
    rintro e w' ⟨rfl, rfl⟩
    exact ⟨rfl, Below.refl _ _⟩
  · subst h
    refine (Tryz.strings_Repeat_one ⟨#[48]⟩ w).mono ?_
    rintro e w' ⟨rfl, rfl⟩
    exact ⟨rfl, Below.refl _ _⟩
  · have h1 : (⟨#[48]⟩ : ByteArray).size = 1 := rfl
    refine (Tryz.strings_Repeat_main ⟨#[48]⟩ n w h (by omega) (by rw [h1]; omega) (by rw [h1]; omega)).mono ?_
    rintro e w' ⟨rfl, hb⟩
    refine ⟨?_, hb⟩
    rw [show (⟨#[48]⟩ : ByteArray).data.toList = [48] from rfl, hrep]
theorem itoa1_calls (i : Nat) (hi : i < 10) (w : World) :
    Calls Tryz.prog 25 #[.int .i64 i] w fun e w' => e = .returned (.string ⟨#[UInt8.ofNat (48 + i)]⟩) ∧ w' = w := by
  refine (Tryz.strconv_Itoa_small i (by omega) w).mono ?_
  rintro e w' ⟨rfl, rfl⟩
  refine ⟨?_, rfl⟩
  rw [Lib.decDigits, dif_pos hi]
theorem clone_calls (A : Option Addr) (c : Nat) (l : List Int) (w : World) (hr : Kd.C (Kd.int .i64) w A l.length l) (hc : l.length ≤ c) (hlen : l.length ≤ 1000000) :
    Calls Tryz.prog 57 #[.slice A l.length c] w fun e w' => ∃ v0_ : Value, e = .returned v0_ ∧ Kd.R (Kd.int .i64) 3 w' w.heap.size (fun _ => True) v0_ l ∧ Below w.heap.size w w' := by
  cases l with
  | nil =>
    cases A with
    | none =>
      refine (Tryz.slices_Clone_int_nil 0 c w).mono ?_
      rintro e w' ⟨rfl, rfl⟩
      exact ⟨_, rfl, Kd.R_nil _ _ _ _ _, Below.refl _ _⟩
    | some a =>
      refine (Tryz.slices_Clone_int_zero a c w).mono ?_
      rintro e w' ⟨v, rfl, ho, -, hb⟩
      exact ⟨v, rfl, Kd.R_of_own (enc := Value.int .i64) ho (fun _ _ => trivial), hb⟩
  | cons x l =>
    obtain ⟨ad, rfl, -⟩ := Kd.at_int hr 0 (by omega) (by simp)
    have hat : ∀ j, j < (x :: l).length → w.cell? (ad.add j) = some (.int .i64 ((x :: l).getD j 0)) := by
      intro j hj
      obtain ⟨ad', e', h⟩ := Kd.at_int hr (j : Int) (by omega) (by omega)
      cases e'
      exact h
    have A0 := Lib.hid hat
    clear hat hr
    obtain ⟨zs, hzs⟩ : ∃ zs, zs = x :: l := ⟨_, rfl⟩
    rw [← hzs] at A0 hlen hc ⊢
    clear hzs
    obtain ⟨i0, hi, hz0, hz1, hz2⟩ := info_parts (P := Tryz.prog) (e := 3) (z := .int .i64 0) (size := 1) (bytes := 8) (by kernel_rfl)
    have q22 : ∀ (w : World) (a : Option Addr) (n c n' c' : Nat), (binOp .eql 24 (.slice a n c) (.slice none n' c')).run Tryz.prog w = .ok (.bool a.isNone) w := fun w a n c n' c' => Lib.run_eql_slice_nil w _ _ a n c n' c' Tryz.underlying24
    go_enter Tryz.func57, Tryz.ntmps57
    go_wp2_with (at_builtin; refine wpList_append_own _ rfl _ _ 24 rfl w.heap.size 3 i0 (.int .i64 0) 1 8 Tryz.underlying24 hi hz0 hz1 hz2 rfl (by decide) _ _ _ rfl (World.ownsRow_made w #[] 0 (Nat.le_refl _) (Nat.zero_le _) rfl) ad zs.length c (zs.map (Value.int .i64)) rfl ?qc1 ?qc2 ?qc3 ?qc4 ?qc5 ?qc6 ?_)
    case qc1 => simp
    case qc2 =>
      intro j u hj
      have hjn : j < zs.length := by
        have := (List.getElem?_eq_some_iff.1 hj).1
        simpa using this
      refine Lib.cell?_alloc_some _ ?_
      rw [A0.out j hjn]
      have e : (zs.map (Value.int .i64))[j]? = some (Value.int .i64 (zs.getD j 0)) := by simp [List.getD, List.getElem?_eq_getElem hjn]
      rw [e] at hj
      exact hj
    case qc3 => intro u hu; obtain ⟨x, _, rfl⟩ := List.mem_map.1 hu; rfl
    case qc4 => unfold maxLen; omega
    case qc5 => omega
    case qc6 => simp
    intro v' w1 hown hgrow hnil
    go_wp2
    go_ret
    refine ⟨v', rfl, Kd.R_of_own (enc := Value.int .i64) (by simpa [encs] using hown) (fun _ _ => trivial), ?_⟩
    exact ((Below.refl _ w).alloc (Nat.le_refl _) _).grown hgrow (by simp) (by intro k hk; simp [Value.ownBlock] at hk; omega)
end Go.Proofs.YtmkekhjbbapngaaGreatDoor.Val
set_option linter.unusedVariables false
set_option linter.unusedSimpArgs false
namespace Go.Proofs.YtmkekhjbbapngaaGreatDoor.Val
open Go.RowKit Go.Shelf Go.Sort Go.Lib
set_option maxHeartbeats 6400000 in
set_option maxRecDepth 100000 in
theorem fmtUintIn_calls (u : Nat) (hu : u < 18446744073709551616) (w : World) (hL : Laid w) :
    Calls Tryz.prog 61 #[.int .u64 u, .int .i64 10] w fun e w' => e = .returned (.string ⟨(Lib.decDigits u).toArray⟩) ∧ Below w.heap.size w w' := by
  have htab := hL.pow
  by_cases hs : u < 100
  · have hd : decide ((u : Int) < 100) = true := decide_eq_true (by omega)
    have cS := fun W => Tryz.internal_strconv_small u hs W
    go_enter Tryz.func61, Tryz.ntmps61
    go_wp2_with (go_at_call 74; refine (cS _).mono ?_; rintro e w' ⟨rfl, rfl⟩)
    go_ret
    exact ⟨rfl, Below.refl _ _⟩
  · have hd : decide ((u : Int) < 100) = false := decide_eq_false (by omega)
    have hu1 : 1 ≤ u := by omega
    have hnd20 : Lib.nDigits u ≤ 20 := by have := Lib.numDigits_eq u hu1 hu; split at this <;> omega
    have hal : Tryz.prog.arrayLen 101 = 24 := by kernel_rfl
    have hsl : ∀ W, (Instr.sliceAt 101 (.pointer (some ⟨w.heap.size, 0, none⟩)) none (some (.int .i64 (Lib.nDigits u : Int))) none).run Tryz.prog W = .ok (.slice (some ⟨w.heap.size, 0, none⟩) (Lib.nDigits u) 24) W := fun W => by
      rw [run_sliceAt_array_h W 101 ⟨w.heap.size, 0, none⟩ (by kernel_rfl) .i64 (Lib.nDigits u : Int) (by omega) (by rw [hal]; omega)]
      go_simp
    have hH0 : Holds (fun (b : UInt8) => Value.int .u8 (b.toNat : Int)) (w.alloc (.cells Lib.zeros24 101)) w.heap.size 0 (Array.replicate (Lib.nDigits u) 0) := fun j hj => by
      have hj' : j < Lib.nDigits u := by simpa using hj
      refine ⟨?_, World.frozen?_alloc_new _ _ _ _⟩
      rw [World.cell?_alloc_new, Lib.zeros24_at _ (by omega), getElem!_pos _ j hj]
      simp
    have hfmt := Tryz.internal_strconv_formatBase10 w.heap.size 0 24 u (Array.replicate (Lib.nDigits u) 0) (w.alloc (.cells Lib.zeros24 101)) hH0 (by rw [Array.size_replicate]; exact Lib.lt_pow_nDigits u) hu (by rw [Array.size_replicate]; omega)
    rw [Array.size_replicate] at hfmt
    have HH0 := Lib.hid hH0
    clear hH0 hal
    go_enter Tryz.func61, Tryz.ntmps61
    go_wp2_with (first
      | (go_at_call 75; refine (Tryz.internal_strconv_numDigits u hu1 hu _ (Lib.tabIs_alloc htab _)).mono ?_; rintro e w' ⟨rfl, rfl⟩))
    go_at_call 76
    refine hfmt.mono ?_
    rintro e w' ⟨rfl, k, v', dk, rfl, hF⟩
    have hcv : (convert 59 9 (.slice (some ⟨w.heap.size, 0, none⟩) (Lib.nDigits u) 24)).run Tryz.prog ((putRow (fun (b : UInt8) => Value.int .u8 (b.toNat : Int)) (w.alloc (.cells Lib.zeros24 101)) w.heap.size 0 dk).drewN k) = .ok (.string ⟨(Lib.decDigits u).toArray⟩) ((putRow (fun (b : UInt8) => Value.int .u8 (b.toNat : Int)) (w.alloc (.cells Lib.zeros24 101)) w.heap.size 0 dk).drewN k) := by
      have h := run_convert_bytes_back (P := Tryz.prog) ((putRow (fun (b : UInt8) => Value.int .u8 (b.toNat : Int)) (w.alloc (.cells Lib.zeros24 101)) w.heap.size 0 dk).drewN k) 59 9 5 ⟨w.heap.size, 0, none⟩ 24 (Lib.decDigits u) Tryz.underlying59 Tryz.underlying5 Tryz.underlying9 (fun j hj => by
        rw [Lib.row_is_numeral hF j hj, Lib.add_plain, World.cell?_drewN]
        exact cell?_putRow (fun (b : UInt8) => Value.int .u8 (b.toNat : Int)) _ w.heap.size 0 _ dk HH0.out (by rw [hF.size, Array.size_replicate]) j (by rw [hF.size]; rw [Lib.decDigits_length] at hj; exact hj))
      rw [Lib.decDigits_length] at h
      exact h
    go_wp2
    go_ret
    refine ⟨rfl, below_drewN ?_ _⟩
    have hb := below_putRow (enc := fun (b : UInt8) => Value.int .u8 (b.toNat : Int)) (q := 0) (d := dk) ((Below.refl w.heap.size w).alloc (Nat.le_refl _) (.cells Lib.zeros24 101)) (Nat.le_refl _)
    exact hb
theorem fmtUint_calls (u : Nat) (hu : u < 18446744073709551616) (w : World) (hL : Laid w) :
    Calls Tryz.prog 30 #[.int .u64 u, .int .i64 10] w fun e w' => e = .returned (.string ⟨(Lib.decDigits u).toArray⟩) ∧ Below w.heap.size w w' := by
  have cI := fmtUintIn_calls u hu w hL
  go_enter Tryz.func30, Tryz.ntmps30
  go_wp2_with (go_at_call 61; refine cI.mono ?_; rintro e w' ⟨rfl, hb⟩)
  go_ret
  exact ⟨rfl, hb⟩
end Go.Proofs.YtmkekhjbbapngaaGreatDoor.Val
