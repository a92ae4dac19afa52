/- What the proof of TableFind leans on: FldP. -/
import Derived.Test.YtbfhiiokajbdhaaGreatDoorSTableFindFldB
import Derived.Lib.AppendIntMem
set_option linter.unusedVariables false
set_option linter.unusedSimpArgs false
namespace Go.Proofs.YtbfhiiokajbdhaaGreatDoor.Fl
open Go.RowKit Go.Proofs.YtbfhiiokajbdhaaGreatDoor.Q Go.Proofs.YtbfhiiokajbdhaaGreatDoor.Val Go.Proofs.YtbfhiiokajbdhaaGreatDoorW.PrintWords
def fitB (r : S34) : Prop := ∀ x ∈ [r.f1, r.f2, r.f3, r.f4, r.f5, r.f6], (-9223372036854775808 : Int) ≤ x ∧ x ≤ 9223372036854775807
def itoaS (n : Int) : ByteArray := ⟨(Lib.itoa n).toArray⟩
theorem itoa_calls (n : Int) (h : (-9223372036854775808 : Int) ≤ n ∧ n ≤ 9223372036854775807) (w : World) (hL : Laid w) : Calls Tryz.prog 57 #[.int .i64 n] w fun e w' => e = .returned (.string (itoaS n)) ∧ Below w.heap.size w w' := by
  refine (Tryz.strconv_Itoa n h.1 h.2 w hL.pow).mono ?_
  rintro e w' ⟨rfl, k, os, rfl⟩
  exact ⟨rfl, Lib.below_grow _ _ (Nat.le_refl _) k os⟩
set_option maxHeartbeats 4000000 in
set_option maxRecDepth 1000000 in
theorem name_print (W : World) (r : S34) : Calls Tryz.prog 35 #[.agg #[.string r.f0, .int .i64 r.f1, .int .i64 r.f2, .int .i64 r.f3, .int .i64 r.f4, .int .i64 r.f5, .int .i64 r.f6, .bool r.f7]] W fun e W' => e = .returned (.string r.f0) ∧ Below W.heap.size W W' := by
  go_enter Tryz.func35, Tryz.ntmps35
  go_wp2
  go_ret
  exact ⟨rfl, (Below.refl W.heap.size W).alloc (Nat.le_refl _) _⟩
set_option maxHeartbeats 4000000 in
set_option maxRecDepth 1000000 in
theorem write_print (W : World) (r : S34) : Calls Tryz.prog 44 #[.agg #[.string r.f0, .int .i64 r.f1, .int .i64 r.f2, .int .i64 r.f3, .int .i64 r.f4, .int .i64 r.f5, .int .i64 r.f6, .bool r.f7]] W fun e W' => e = .returned (.string (if r.f7 then ⟨#[119]⟩ else ⟨#[114]⟩)) ∧ Below W.heap.size W W' := by
  obtain ⟨f0, f1, f2, f3, f4, f5, f6, f7⟩ := r
  cases f7
  all_goals
    go_enter Tryz.func44, Tryz.ntmps44
    go_wp2
    go_ret
    exact ⟨rfl, (Below.refl W.heap.size W).alloc (Nat.le_refl _) _⟩
set_option maxHeartbeats 4000000 in
set_option maxRecDepth 1000000 in
theorem num_print_1 (W : World) (b : Nat) (r : S34) (hL : Laid W) (hr : fitB r) (hf : W.cell? ⟨b, 0, none⟩ = some (fnV 37)) :
    Calls Tryz.prog 56 #[.agg #[.string r.f0, .int .i64 r.f1, .int .i64 r.f2, .int .i64 r.f3, .int .i64 r.f4, .int .i64 r.f5, .int .i64 r.f6, .bool r.f7], .pointer (some ⟨b, 0, none⟩)] W fun e W' => e = .returned (.string (itoaS r.f1)) ∧ Below W.heap.size W W' := by
  have hlt := World.block_lt_of_cell? W _ hf
  have hal := fun o => (Below.refl W.heap.size W).alloc (Nat.le_refl _) o
  have hf2 := fun o => ((hal o).cell hlt).trans hf
  have cI := fun o => itoa_calls r.f1 (hr r.f1 (by simp)) (W.alloc o) (hL.below (hal o))
  clear hL hr
  go_enter Tryz.func56, Tryz.ntmps56
  go_wp2_with (first
    | (go_at_call 37; refine (of_1 _ W.heap.size).mono ?_; rintro e w2 ⟨rfl, rfl⟩)
    | (go_at_call 57; refine (cI _).mono ?_; rintro e w3 ⟨rfl, hb3⟩))
  go_ret
  exact ⟨rfl, (hal _).trans (hb3.mono (by simp))⟩
set_option maxHeartbeats 4000000 in
set_option maxRecDepth 1000000 in
theorem num_print_2 (W : World) (b : Nat) (r : S34) (hL : Laid W) (hr : fitB r) (hf : W.cell? ⟨b, 0, none⟩ = some (fnV 38)) :
    Calls Tryz.prog 56 #[.agg #[.string r.f0, .int .i64 r.f1, .int .i64 r.f2, .int .i64 r.f3, .int .i64 r.f4, .int .i64 r.f5, .int .i64 r.f6, .bool r.f7], .pointer (some ⟨b, 0, none⟩)] W fun e W' => e = .returned (.string (itoaS r.f2)) ∧ Below W.heap.size W W' := by
  have hlt := World.block_lt_of_cell? W _ hf
  have hal := fun o => (Below.refl W.heap.size W).alloc (Nat.le_refl _) o
  have hf2 := fun o => ((hal o).cell hlt).trans hf
  have cI := fun o => itoa_calls r.f2 (hr r.f2 (by simp)) (W.alloc o) (hL.below (hal o))
  clear hL hr
  go_enter Tryz.func56, Tryz.ntmps56
  go_wp2_with (first
    | (go_at_call 38; refine (of_2 _ W.heap.size).mono ?_; rintro e w2 ⟨rfl, rfl⟩)
    | (go_at_call 57; refine (cI _).mono ?_; rintro e w3 ⟨rfl, hb3⟩))
  go_ret
  exact ⟨rfl, (hal _).trans (hb3.mono (by simp))⟩
set_option maxHeartbeats 4000000 in
set_option maxRecDepth 1000000 in
theorem num_print_3 (W : World) (b : Nat) (r : S34) (hL : Laid W) (hr : fitB r) (hf : W.cell? ⟨b, 0, none⟩ = some (fnV 39)) :
    Calls Tryz.prog 56 #[.agg #[.string r.f0, .int .i64 r.f1, .int .i64 r.f2, .int .i64 r.f3, .int .i64 r.f4, .int .i64 r.f5, .int .i64 r.f6, .bool r.f7], .pointer (some ⟨b, 0, none⟩)] W fun e W' => e = .returned (.string (itoaS r.f3)) ∧ Below W.heap.size W W' := by
  have hlt := World.block_lt_of_cell? W _ hf
  have hal := fun o => (Below.refl W.heap.size W).alloc (Nat.le_refl _) o
  have hf2 := fun o => ((hal o).cell hlt).trans hf
  have cI := fun o => itoa_calls r.f3 (hr r.f3 (by simp)) (W.alloc o) (hL.below (hal o))
  clear hL hr
  go_enter Tryz.func56, Tryz.ntmps56
  go_wp2_with (first
    | (go_at_call 39; refine (of_3 _ W.heap.size).mono ?_; rintro e w2 ⟨rfl, rfl⟩)
    | (go_at_call 57; refine (cI _).mono ?_; rintro e w3 ⟨rfl, hb3⟩))
  go_ret
  exact ⟨rfl, (hal _).trans (hb3.mono (by simp))⟩
set_option maxHeartbeats 4000000 in
set_option maxRecDepth 1000000 in
theorem num_print_4 (W : World) (b : Nat) (r : S34) (hL : Laid W) (hr : fitB r) (hf : W.cell? ⟨b, 0, none⟩ = some (fnV 40)) :
    Calls Tryz.prog 56 #[.agg #[.string r.f0, .int .i64 r.f1, .int .i64 r.f2, .int .i64 r.f3, .int .i64 r.f4, .int .i64 r.f5, .int .i64 r.f6, .bool r.f7], .pointer (some ⟨b, 0, none⟩)] W fun e W' => e = .returned (.string (itoaS r.f4)) ∧ Below W.heap.size W W' := by
  have hlt := World.block_lt_of_cell? W _ hf
  have hal := fun o => (Below.refl W.heap.size W).alloc (Nat.le_refl _) o
  have hf2 := fun o => ((hal o).cell hlt).trans hf
  have cI := fun o => itoa_calls r.f4 (hr r.f4 (by simp)) (W.alloc o) (hL.below (hal o))
  clear hL hr
  go_enter Tryz.func56, Tryz.ntmps56
  go_wp2_with (first
    | (go_at_call 40; refine (of_4 _ W.heap.size).mono ?_; rintro e w2 ⟨rfl, rfl⟩)
    | (go_at_call 57; refine (cI _).mono ?_; rintro e w3 ⟨rfl, hb3⟩))
  go_ret
  exact ⟨rfl, (hal _).trans (hb3.mono (by simp))⟩
set_option maxHeartbeats 4000000 in
set_option maxRecDepth 1000000 in
theorem num_print_5 (W : World) (b : Nat) (r : S34) (hL : Laid W) (hr : fitB r) (hf : W.cell? ⟨b, 0, none⟩ = some (fnV 41)) :
    Calls Tryz.prog 56 #[.agg #[.string r.f0, .int .i64 r.f1, .int .i64 r.f2, .int .i64 r.f3, .int .i64 r.f4, .int .i64 r.f5, .int .i64 r.f6, .bool r.f7], .pointer (some ⟨b, 0, none⟩)] W fun e W' => e = .returned (.string (itoaS r.f5)) ∧ Below W.heap.size W W' := by
  have hlt := World.block_lt_of_cell? W _ hf
  have hal := fun o => (Below.refl W.heap.size W).alloc (Nat.le_refl _) o
  have hf2 := fun o => ((hal o).cell hlt).trans hf
  have cI := fun o => itoa_calls r.f5 (hr r.f5 (by simp)) (W.alloc o) (hL.below (hal o))
  clear hL hr
  go_enter Tryz.func56, Tryz.ntmps56
  go_wp2_with (first
    | (go_at_call 41; refine (of_5 _ W.heap.size).mono ?_; rintro e w2 ⟨rfl, rfl⟩)
    | (go_at_call 57; refine (cI _).mono ?_; rintro e w3 ⟨rfl, hb3⟩))
  go_ret
  exact ⟨rfl, (hal _).trans (hb3.mono (by simp))⟩
set_option maxHeartbeats 4000000 in
set_option maxRecDepth 1000000 in
theorem num_print_6 (W : World) (b : Nat) (r : S34) (hL : Laid W) (hr : fitB r) (hf : W.cell? ⟨b, 0, none⟩ = some (fnV 42)) :
    Calls Tryz.prog 56 #[.agg #[.string r.f0, .int .i64 r.f1, .int .i64 r.f2, .int .i64 r.f3, .int .i64 r.f4, .int .i64 r.f5, .int .i64 r.f6, .bool r.f7], .pointer (some ⟨b, 0, none⟩)] W fun e W' => e = .returned (.string (itoaS r.f6)) ∧ Below W.heap.size W W' := by
  have hlt := World.block_lt_of_cell? W _ hf
  have hal := fun o => (Below.refl W.heap.size W).alloc (Nat.le_refl _) o
  have hf2 := fun o => ((hal o).cell hlt).trans hf
  have cI := fun o => itoa_calls r.f6 (hr r.f6 (by simp)) (W.alloc o) (hL.below (hal o))
  clear hL hr
  go_enter Tryz.func56, Tryz.ntmps56
  go_wp2_with (first
    | (go_at_call 42; refine (of_6 _ W.heap.size).mono ?_; rintro e w2 ⟨rfl, rfl⟩)
    | (go_at_call 57; refine (cI _).mono ?_; rintro e w3 ⟨rfl, hb3⟩))
  go_ret
  exact ⟨rfl, (hal _).trans (hb3.mono (by simp))⟩
end Go.Proofs.YtbfhiiokajbdhaaGreatDoor.Fl
