/- What the proof of RetainKeeps leans on: RetB. -/
import Derived.Test.YtdchcdagjnaicaaDoorSRetainKeepsRetA
set_option linter.unusedVariables false
set_option linter.unusedSimpArgs false
namespace Go.Proofs.YtdchcdagjnaicaaDoor.Rt
open Go Go.RowKit Go.ChangeMaps Go.MapKept Go.Proofs.YtdchcdagjnaicaaDoorW.PrintWords Go.Proofs.YtdchcdagjnaicaaDoor.Q Go.Proofs.YtdchcdagjnaicaaDoor.Mp Go.Proofs.YtdchcdagjnaicaaDoor.Top
def zM : Msg := ⟨⟨#[]⟩, ⟨#[]⟩, 0, false⟩
def atR (st : List Msg) (t : ByteArray) : Msg := (getS tpc st t).getD zM
def atB (st : List Msg) (t : ByteArray) : Bool := (getS tpc st t).isSome
theorem zeroM (w : World) : (zeroValue 27).run Tryd.prog w = .ok (msgV zM) w := by kernel_rfl
theorem look_V {L : List (ByteArray × Msg)} {st : List Msg} (h : AsS tpc L st) (t : ByteArray) : (if true then Value.tuple #[lookV msgV (msgV zM) (getL L t), .bool (getL L t).isSome] else lookV msgV (msgV zM) (getL L t)) = .tuple #[.agg #[.string (atR st t).f0, .string (atR st t).f1, .int .i64 (atR st t).f2, .bool (atR st t).f3], .bool (atB st t)] := by
  rw [if_pos rfl, h.get t]
  unfold atR atB
  cases getS tpc st t <;> rfl
set_option maxHeartbeats 4000000 in
set_option maxRecDepth 1000000 in
theorem at_calls (W : World) (kb mb : Nat) (st : List Msg) (t : ByteArray) (hK : KAt W kb mb st) (hs : okS t) :
    Calls Tryd.prog 10 #[.pointer (some ⟨kb, 0, none⟩), .string t] W fun e W' => e = .returned (.tuple #[msgV (atR st t), .bool (atB st t)]) ∧ Below W.heap.size W W' := by
  have hal := (Below.refl W.heap.size W).alloc (Nat.le_refl _) (.cells #[.string ⟨#[]⟩, .string ⟨#[]⟩, .int .i64 0, .bool false] 27 (0, 0))
  obtain ⟨hk, L, hM, hA⟩ := hK.below hal
  have qk := blk_cell hk 0
  have HV := Lib.hid (look_V hA t)
  have hk0 := blk_new W (.cells #[.string ⟨#[]⟩, .string ⟨#[]⟩, .int .i64 0, .bool false] 27 (0, 0))
  have HS := Lib.hid hs
  have HB := Lib.hid hal
  generalize atR st t = x at *
  generalize atB st t = b at *
  have hal2 := (Below.refl (W.alloc (.cells #[.string ⟨#[]⟩, .string ⟨#[]⟩, .int .i64 0, .bool false] 27 (0, 0))).heap.size (W.alloc (.cells #[.string ⟨#[]⟩, .string ⟨#[]⟩, .int .i64 0, .bool false] 27 (0, 0)))).alloc (Nat.le_refl _) (.cells #[.string x.f0, .string x.f1, .int .i64 x.f2, .bool x.f3] 27 (0, 0))
  have hk1 := blk_below hk0 hal2
  have HK := Lib.hid (And.intro hal2 hk1)
  unfold msgV
  clear hk hA hK hal hal2 hk0 hs
  go_enter Tryd.func10, Tryd.ntmps10
  go_wp2_with (first | (at_lookup; refine wpList_look (mk := Value.string) (mv := msgV) (ok := okS) _ rfl _ _ 46 true rfl 9 27 strT Tryd.underlying46 (msgV zM) (zeroM _) mb L rfl hM t rfl HS.out (.tuple #[.agg #[.string x.f0, .string x.f1, .int .i64 x.f2, .bool x.f3], .bool b]) HV.out ?_))
  have b0 := blk_set HK.out.2 0 (.string x.f0)
  have b1 := blk_set b0 1 (.string x.f1)
  have b2 := blk_set b1 2 (.int .i64 x.f2)
  have b3 := blk_set b2 3 (.bool x.f3)
  have r0 := blk_cell b3 0
  have r1 := blk_cell b3 1
  have r2 := blk_cell b3 2
  have r3 := blk_cell b3 3
  refine bodyPost_ret (v := .tuple #[.agg #[.string x.f0, .string x.f1, .int .i64 x.f2, .bool x.f3], .bool b]) (by simp [results, Tryd.f10, go_sem, r0, r1, r2, r3]) rfl ⟨rfl, ?_⟩
  repeat refine below_set ?_ (Nat.le_refl _)
  exact ((Below.refl _ _).alloc (Nat.le_refl _) _).alloc (by simp) _
set_option maxHeartbeats 4000000 in
set_option maxRecDepth 1000000 in
theorem count_calls (W : World) (kb mb : Nat) (st : List Msg) (hK : KAt W kb mb st) :
    Calls Tryd.prog 17 #[.pointer (some ⟨kb, 0, none⟩)] W fun e W' => e = .returned (.int .i64 st.length) ∧ W = W' := by
  obtain ⟨hk, L, hM, hA⟩ := hK
  have qk := blk_cell hk 0
  rw [← hA.len]
  clear hk hA
  go_enter Tryd.func17, Tryd.ntmps17
  go_wp2_with (first | (refine wpList_len (mk := Value.string) (mv := msgV) (ok := okS) _ rfl _ 46 rfl 9 27 Tryd.underlying46 mb L rfl hM ?_))
  go_ret
  exact ⟨rfl, rfl⟩
end Go.Proofs.YtdchcdagjnaicaaDoor.Rt
