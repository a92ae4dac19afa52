/- What the proof of ValueTells leans on: ValQ. -/
import Derived.Test.YtmkekhjbbapngaaGreatDoorSValueTellsValP
import Derived.Lib.AtoiErrMem
import Derived.WalkSmall
set_option linter.unusedVariables false
set_option linter.unusedSimpArgs false
namespace Go.Proofs.YtmkekhjbbapngaaGreatDoor.Val
open Go.RowKit Go.Shelf
theorem bytes_below (w : World) (t : ByteArray) : Below w.heap.size w (Lib.bytesWorld w 5 t) := Lib.bytesWorld_below w _ t
def Told (r : Lib.NumEnd Nat) (e : Ending) : Prop :=
  (∃ u, r = .ok u ∧ e = .returned (.tuple #[.int .u64 (u : Int), .nilIface])) ∨ ((∀ u, r ≠ .ok u) ∧ ∃ x te pe, e = .returned (.tuple #[.int .u64 x, .iface te pe]))
set_option maxHeartbeats 4000000 in
set_option maxRecDepth 100000 in
theorem parseHex_calls (t : ByteArray) (hmax : t.size ≤ 281474976710656) (w : World) (hL : Laid w) :
    Calls Tryz.prog 37 #[.string t, .int .i64 16, .int .i64 32] w fun e w' => Told (hexPB t.data.toList) e ∧ Below w.heap.size w w' := by
  have cI : Calls Tryz.prog 67 #[.string t, .int .i64 16, .int .i64 32] w fun e w' => e = .returned (Lib.uintTupleM 112 4294967295 (hexPB t.data.toList)) ∧ Below w.heap.size w w' := by
    by_cases h0 : t.size = 0
    · have ht : t = ⟨#[]⟩ := by
        apply ByteArray.ext
        exact Array.eq_empty_of_size_eq_zero h0
      subst ht
      refine (Tryz.internal_strconv_ParseUint_empty 16 32 w).mono ?_
      rintro e w' ⟨rfl, rfl⟩
      exact ⟨rfl, Below.refl _ _⟩
    · have hne : t.data.toList ≠ [] := fun h => h0 (by rw [Lib.size_eq, h]; rfl)
      refine (parseHexIn_calls t h0 hmax w).mono ?_
      rintro e w' ⟨rfl, rfl⟩
      exact ⟨by rw [hexPB, if_neg hne], bytes_below w t⟩
  obtain ⟨ts, ps, hes⟩ := hL.es
  obtain ⟨tr, pr, her⟩ := hL.er
  have ces : ∀ W, Below w.heap.size w W → W.cell? ⟨1, 0, none⟩ = some (.iface ts ps) := fun W hb => World.var?_cell (g := 1) (by kernel_rfl) (var_below (g := 1) (by kernel_rfl) hes hb) 0
  have cer : ∀ W, Below w.heap.size w W → W.cell? ⟨2, 0, none⟩ = some (.iface tr pr) := fun W hb => World.var?_cell (g := 2) (by kernel_rfl) (var_below (g := 2) (by kernel_rfl) her hb) 0
  have cTs := fun W (hb : Below w.heap.size w W) => Tryz.strconv_toError_syntax ⟨#[80, 97, 114, 115, 101, 85, 105, 110, 116]⟩ t 16 32 (.iface ts ps) W hmax (ces W hb) (Or.inr ⟨ts, ps, rfl⟩)
  have cTr := fun W (hb : Below w.heap.size w W) => Tryz.strconv_toError_range ⟨#[80, 97, 114, 115, 101, 85, 105, 110, 116]⟩ t 16 32 (.iface tr pr) W hmax (cer W hb) (Or.inr ⟨tr, pr, rfl⟩)
  clear ces cer hes her
  generalize hexPB t.data.toList = r at *
  unfold Told
  cases r with
  | ok u =>
    have cJ : Calls Tryz.prog 67 #[.string t, .int .i64 16, .int .i64 32] w fun e w' => e = .returned (.tuple #[.int .u64 (u : Int), .nilIface]) ∧ Below w.heap.size w w' := cI
    go_enter Tryz.func37, Tryz.ntmps37
    go_wp2_with (go_at_call 67; refine cJ.mono ?_; rintro e w1 ⟨rfl, hb1⟩)
    go_ret2
    exact ⟨.inl ⟨u, rfl, rfl⟩, hb1⟩
  | range =>
    have cJ : Calls Tryz.prog 67 #[.string t, .int .i64 16, .int .i64 32] w fun e w' => e = .returned (.tuple #[.int .u64 4294967295, .iface 112 (.int .i64 1)]) ∧ Below w.heap.size w w' := cI
    go_enter Tryz.func37, Tryz.ntmps37
    go_wp2_with (first | (go_at_call 67; refine cJ.mono ?_; rintro e w1 ⟨rfl, hb1⟩) | (go_at_call 68; refine (cTr _ hb1).mono ?_; rintro e w2 ⟨Nn, rfl, hN1, hN2, hb2⟩))
    go_ret2
    exact ⟨.inr ⟨nofun, _, _, _, rfl⟩, hb1.trans (hb2.mono hb1.size)⟩
  | _ =>
    have cJ : Calls Tryz.prog 67 #[.string t, .int .i64 16, .int .i64 32] w fun e w' => e = .returned (.tuple #[.int .u64 0, .iface 112 (.int .i64 2)]) ∧ Below w.heap.size w w' := cI
    go_enter Tryz.func37, Tryz.ntmps37
    go_wp2_with (first | (go_at_call 67; refine cJ.mono ?_; rintro e w1 ⟨rfl, hb1⟩) | (go_at_call 68; refine (cTs _ hb1).mono ?_; rintro e w2 ⟨Nn, rfl, hN1, hN2, hb2⟩))
    go_ret2
    exact ⟨.inr ⟨nofun, _, _, _, rfl⟩, hb1.trans (hb2.mono hb1.size)⟩
theorem parseDec_calls (t : ByteArray) (hmax : t.size ≤ 281474976710656) (w : World) (hL : Laid w) :
    Calls Tryz.prog 37 #[.string t, .int .i64 10, .int .i64 64] w fun e w' => Told (Lib.parseUintB 64 t.data.toList) e ∧ Below w.heap.size w w' := by
  obtain ⟨ts, ps, hes⟩ := hL.es
  obtain ⟨tr, pr, her⟩ := hL.er
  unfold Told
  cases h : Lib.parseUintB 64 t.data.toList with
  | ok u =>
    refine (Tryz.strconv_ParseUint_10_at64_ok t (by omega) u h w).mono ?_
    rintro e w' ⟨rfl, hw⟩
    refine ⟨.inl ⟨u, rfl, rfl⟩, ?_⟩
    rcases hw with rfl | rfl
    · exact Below.refl _ _
    · exact bytes_below w t
  | range =>
    refine (Tryz.strconv_ParseUint_10_at64_range_var t hmax h tr pr w her).mono ?_
    rintro e w' ⟨Nn, rfl, -, -, hb⟩
    exact ⟨.inr ⟨nofun, _, _, _, rfl⟩, hb⟩
  | _ =>
    refine (Tryz.strconv_ParseUint_10_at64_syntax_var t hmax h ts ps w hes).mono ?_
    rintro e w' ⟨Nn, rfl, -, -, hb⟩
    exact ⟨.inr ⟨nofun, _, _, _, rfl⟩, hb⟩
end Go.Proofs.YtmkekhjbbapngaaGreatDoor.Val
