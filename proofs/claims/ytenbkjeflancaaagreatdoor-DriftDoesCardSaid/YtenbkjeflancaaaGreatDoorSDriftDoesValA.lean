/- What the proof of DriftDoes leans on: ValA. -/
import Derived.Test.YtenbkjeflancaaaGreatDoorSDriftDoesTopB
import Derived.Test.YtenbkjeflancaaaGreatDoorSDriftDoesWWords
import Derived.Shelf.Strings.SlTrimAscii
import Derived.Lib.ItoaMem
import Derived.OwnWalk
import Derived.Lib.Walk
import Derived.Lib.SliceRun
import Derived.WalkKit
import Derived.Deep.LoopGhost
set_option linter.unusedVariables false
set_option linter.unusedSimpArgs false
namespace Go.Proofs.YtenbkjeflancaaaGreatDoor.Val
open Go.RowKit Go.Shelf Go.Proofs.YtenbkjeflancaaaGreatDoorW.PrintWords
structure Laid (w : World) : Prop where
  top : Top.Laid w
  pow : Lib.TabIs Tryz.prog w "internal/strconv.uint64pow10" .u64 Lib.pow10Tab
  db : w.cell? ⟨3, 15, none⟩ = some (.int .u8 4)
theorem var_below {n : String} {g : Nat} {v : Array Value} {w w' : World} (hg : Tryz.prog.globalNamed n = some g) (h : w.var? Tryz.prog n = some v) (hb : Below w.heap.size w w') : w'.var? Tryz.prog n = some v := by
  unfold World.var? at h ⊢
  rw [hg] at h ⊢
  simp only [Option.bind_some] at h ⊢
  have hlt : g < w.heap.size := by
    rcases Nat.lt_or_ge g w.heap.size with h' | h'
    · exact h'
    · rw [Array.getElem?_eq_none h'] at h; cases h
  rw [hb.block g hlt]
  exact h
theorem Laid.below {w w' : World} (h : Laid w) (hb : Below w.heap.size w w') : Laid w' where
  top := h.top.below hb
  pow := var_below (g := 0) (by kernel_rfl) h.pow hb
  db := Top.cell_below hb (Nat.le_refl _) h.db
theorem repeat0_calls (n : Nat) (w : World) (hn : n ≤ 1000000) :
    Calls Tryz.prog 29 #[.string ⟨#[48]⟩, .int .i64 n] w fun e w' => e = .returned (.string ⟨(List.replicate n 48).toArray⟩) ∧ Below w.heap.size w w' := by
  have hrep : ∀ n, Lib.repeatL [48] n = List.replicate n 48 := by
    intro n
    induction n with
    | zero => rfl
    | succ n ih => rw [Lib.repeatL, ih]; rfl
  rcases (by omega : n = 0 ∨ n = 1 ∨ 2 ≤ n) with h | h | h
  · subst h
    refine (Tryz.strings_Repeat_zero ⟨#[48]⟩ w).mono ?_
    rintro e w' ⟨rfl, rfl⟩
    exact ⟨rfl, Below.refl _ _⟩
  · subst h
    refine (Tryz.strings_Repeat_one ⟨#[48]⟩ w).mono ?_
    rintro e w' ⟨rfl, rfl⟩
    exact ⟨rfl, Below.refl _ _⟩
  · have h1 : (⟨#[48]⟩ : ByteArray).size = 1 := rfl
    refine (Tryz.strings_Repeat_main ⟨#[48]⟩ n w h (by omega) (by rw [h1]; omega) (by rw [h1]; omega)).mono ?_
    rintro e w' ⟨rfl, hb⟩
    refine ⟨?_, hb⟩
    rw [show (⟨#[48]⟩ : ByteArray).data.toList = [48] from rfl, hrep]
theorem itoa1_calls (i : Nat) (hi : i < 10) (w : World) :
    Calls Tryz.prog 26 #[.int .i64 i] w fun e w' => e = .returned (.string ⟨#[UInt8.ofNat (48 + i)]⟩) ∧ w' = w := by
  refine (Tryz.strconv_Itoa_small i (by omega) w).mono ?_
  rintro e w' ⟨rfl, rfl⟩
  refine ⟨?_, rfl⟩
  rw [Lib.decDigits, dif_pos hi]
theorem clone_calls (A : Option Addr) (c : Nat) (l : List Int) (w : World) (hr : Kd.C (Kd.int .i64) w A l.length l) (hc : l.length ≤ c) (hlen : l.length ≤ 1000000) :
    Calls Tryz.prog 18 #[.slice A l.length c] w fun e w' => ∃ v0_ : Value, e = .returned v0_ ∧ Kd.R (Kd.int .i64) 3 w' w.heap.size (fun _ => True) v0_ l ∧ Below w.heap.size w w' := by
  cases l with
  | nil =>
    cases A with
    | none =>
      refine (Tryz.slices_Clone_int_nil 0 c w).mono ?_
      rintro e w' ⟨rfl, rfl⟩
      exact ⟨_, rfl, Kd.R_nil _ _ _ _ _, Below.refl _ _⟩
    | some a =>
      refine (Tryz.slices_Clone_int_zero a c w).mono ?_
      rintro e w' ⟨v, rfl, ho, -, hb⟩
      exact ⟨v, rfl, Kd.R_of_own (enc := Value.int .i64) ho (fun _ _ => trivial), hb⟩
  | cons x l =>
    obtain ⟨ad, rfl, -⟩ := Kd.at_int hr 0 (by omega) (by simp)
    have hat : ∀ j, j < (x :: l).length → w.cell? (ad.add j) = some (.int .i64 ((x :: l).getD j 0)) := by
      intro j hj
      obtain ⟨ad', e', h⟩ := Kd.at_int hr (j : Int) (by omega) (by omega)
      cases e'
      exact h
    have A0 := Lib.hid hat
    clear hat hr
    obtain ⟨zs, hzs⟩ : ∃ zs, zs = x :: l := ⟨_, rfl⟩
    rw [← hzs] at A0 hlen hc ⊢
    clear hzs
    obtain ⟨i0, hi, hz0, hz1, hz2⟩ := info_parts (P := Tryz.prog) (e := 3) (z := .int .i64 0) (size := 1) (bytes := 8) (by kernel_rfl)
    have q22 : ∀ (w : World) (a : Option Addr) (n c n' c' : Nat), (binOp .eql 33 (.slice a n c) (.slice none n' c')).run Tryz.prog w = .ok (.bool a.isNone) w := fun w a n c n' c' => Lib.run_eql_slice_nil w _ _ a n c n' c' Tryz.underlying33
    go_enter Tryz.func18, Tryz.ntmps18
    go_wp2_with (at_builtin; refine wpList_append_own _ rfl _ _ 33 rfl w.heap.size 3 i0 (.int .i64 0) 1 8 Tryz.underlying33 hi hz0 hz1 hz2 rfl (by decide) _ _ _ rfl (World.ownsRow_made w #[] 0 (Nat.le_refl _) (Nat.zero_le _) rfl) ad zs.length c (zs.map (Value.int .i64)) rfl ?qc1 ?qc2 ?qc3 ?qc4 ?qc5 ?qc6 ?_)
    case qc1 => simp
    case qc2 =>
      intro j u hj
      have hjn : j < zs.length := by
        have := (List.getElem?_eq_some_iff.1 hj).1
        simpa using this
      refine Lib.cell?_alloc_some _ ?_
      rw [A0.out j hjn]
      have e : (zs.map (Value.int .i64))[j]? = some (Value.int .i64 (zs.getD j 0)) := by simp [List.getD, List.getElem?_eq_getElem hjn]
      rw [e] at hj
      exact hj
    case qc3 => intro u hu; obtain ⟨x, _, rfl⟩ := List.mem_map.1 hu; rfl
    case qc4 => unfold maxLen; omega
    case qc5 => omega
    case qc6 => simp
    intro v' w1 hown hgrow hnil
    go_wp2
    go_ret
    refine ⟨v', rfl, Kd.R_of_own (enc := Value.int .i64) (by simpa [encs] using hown) (fun _ _ => trivial), ?_⟩
    exact ((Below.refl _ w).alloc (Nat.le_refl _) _).grown hgrow (by simp) (by intro k hk; simp [Value.ownBlock] at hk; omega)
end Go.Proofs.YtenbkjeflancaaaGreatDoor.Val
