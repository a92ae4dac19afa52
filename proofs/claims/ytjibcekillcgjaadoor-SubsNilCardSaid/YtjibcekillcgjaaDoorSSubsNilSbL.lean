/- What the proof of SubsNil leans on: SbL. -/
import Derived.Test.YtjibcekillcgjaaDoorSSubsNilSbJ
set_option linter.unusedVariables false
set_option linter.unusedSimpArgs false
namespace Go.Proofs.YtjibcekillcgjaaDoor.Sb
open Go Go.RowKit Go.ChangeMaps Go.MapKept Go.Proofs.YtjibcekillcgjaaDoorW.PrintWords Go.Proofs.YtjibcekillcgjaaDoor.Q Go.Proofs.YtjibcekillcgjaaDoor.Mp Go.Proofs.YtjibcekillcgjaaDoor.Top Go.Proofs.YtjibcekillcgjaaDoor.Fm
set_option maxHeartbeats 1000000 in
theorem add_nil (c f : ByteArray) (q : Int) (W : World) : Calls Tryd.prog 10 #[.pointer none, .string c, .agg #[.string f, .int .i64 q]] W fun e W' => e = .returned (.tuple #[.bool false, .int .i64 3]) ∧ Below W.heap.size W W' := by
  go_enter Tryd.func10, Tryd.ntmps10
  go_wp2
  go_ret2
  exact ⟨rfl, (Below.refl _ _).alloc (Nat.le_refl _) _⟩
set_option maxHeartbeats 1000000 in
theorem drop_nil (c f : ByteArray) (W : World) : Calls Tryd.prog 12 #[.pointer none, .string c, .string f] W fun e W' => e = .returned (.tuple #[.bool false, .int .i64 3]) ∧ Below W.heap.size W W' := by
  go_enter Tryd.func12, Tryd.ntmps12
  go_wp2
  go_ret2
  exact ⟨rfl, Below.refl _ _⟩
set_option maxHeartbeats 1000000 in
theorem of_nil (c : ByteArray) (W : World) : Calls Tryd.prog 11 #[.pointer none, .string c] W fun e W' => e = .returned (.tuple #[.slice none 0 0, .int .i64 3]) ∧ Below W.heap.size W W' := by
  go_enter Tryd.func11, Tryd.ntmps11
  go_wp2
  go_ret2
  exact ⟨rfl, (Below.refl _ _).alloc (Nat.le_refl _) _⟩
set_option maxHeartbeats 1000000 in
theorem find_nil (c : ByteArray) (W : World) : Calls Tryd.prog 16 #[.pointer none, .string c] W fun e W' => e = .returned (.tuple #[.slice none 0 0, .int .i64 3]) ∧ Below W.heap.size W W' := by
  go_enter Tryd.func16, Tryd.ntmps16
  go_wp2
  go_ret2
  exact ⟨rfl, Below.refl _ _⟩
set_option maxHeartbeats 1000000 in
theorem gone_nil (c : ByteArray) (W : World) : Calls Tryd.prog 18 #[.pointer none, .string c] W fun e W' => e = .returned (.tuple #[.int .i64 0, .int .i64 3]) ∧ Below W.heap.size W W' := by
  have cO := of_nil c W
  go_enter Tryd.func18, Tryd.ntmps18
  go_wp2_with (go_at_call 11; refine cO.mono ?_; rintro e w1 ⟨rfl, hb1⟩)
  go_loopg [18] 0 (fun gk v18 wx => v18 = .int .i64 0 ∧ Below W.heap.size W wx)
  case atStart => exact ⟨rfl, hb1⟩
  case round =>
    obtain ⟨rfl, hB⟩ := hrel
    go_wp2
    go_ret2
    exact ⟨rfl, hB⟩
set_option maxHeartbeats 4000000 in
set_option maxRecDepth 1000000 in
theorem nil_calls (c f : ByteArray) (q : Int) (w : World) (hL : Laid w) : Calls Tryd.prog 6 #[.string c, .string f, .int .i64 q] w fun e w' => e = .returned (.bool true) ∧ Below w.heap.size w w' := by
  have cW := fun W (hb : Below w.heap.size w W) => awake_calls W (hL.below hb)
  clear hL
  go_enter Tryd.func6, Tryd.ntmps6
  go_wp2_with (first
    | (go_at_call 10; refine (add_nil _ _ _ _).mono ?_; rintro e w1 ⟨rfl, hb1⟩)
    | (go_at_call 12; refine (drop_nil _ _ _).mono ?_; rintro e w2 ⟨rfl, hb2⟩; have hB2 := hb1.trans (hb2.mono hb1.size))
    | (go_at_call 18; refine (gone_nil _ _).mono ?_; rintro e w3 ⟨rfl, hb3⟩; have hB3 := hB2.trans (hb3.mono hB2.size))
    | (go_at_call 16; refine (find_nil _ _).mono ?_; rintro e w4 ⟨rfl, hb4⟩; have hB4 := hB3.trans (hb4.mono hB3.size))
    | (go_at_call 11; refine (of_nil _ _).mono ?_; rintro e w5 ⟨rfl, hb5⟩; have hB5 := hB4.trans (hb5.mono hB4.size))
    | (go_at_call 13; refine (cW _ hB5).mono ?_; rintro e w6 ⟨rfl, hb6⟩))
  go_ret
  exact ⟨rfl, hB5.trans (hb6.mono hB5.size)⟩
end Go.Proofs.YtjibcekillcgjaaDoor.Sb
