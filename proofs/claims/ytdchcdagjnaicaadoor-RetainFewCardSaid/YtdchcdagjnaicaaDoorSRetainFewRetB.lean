/- What the proof of RetainFew leans on: RetB. -/
import Derived.Test.YtdchcdagjnaicaaDoorSRetainFewRetA
set_option linter.unusedVariables false
set_option linter.unusedSimpArgs false
namespace Go.Proofs.YtdchcdagjnaicaaDoor.Rt
open Go Go.RowKit Go.ChangeMaps Go.MapKept Go.Proofs.YtdchcdagjnaicaaDoorW.PrintWords Go.Proofs.YtdchcdagjnaicaaDoor.Q Go.Proofs.YtdchcdagjnaicaaDoor.Mp Go.Proofs.YtdchcdagjnaicaaDoor.Top
def zM : Msg := ⟨⟨#[]⟩, ⟨#[]⟩, 0, false⟩
set_option maxHeartbeats 4000000 in
set_option maxRecDepth 1000000 in
theorem count_calls (W : World) (kb mb : Nat) (st : List Msg) (hK : KAt W kb mb st) :
    Calls Tryd.prog 17 #[.pointer (some ⟨kb, 0, none⟩)] W fun e W' => e = .returned (.int .i64 st.length) ∧ W = W' := by
  obtain ⟨hk, L, hM, hA⟩ := hK
  have qk := blk_cell hk 0
  rw [← hA.len]
  clear hk hA
  go_enter Tryd.func17, Tryd.ntmps17
  go_wp2_with (first | (refine wpList_len (mk := Value.string) (mv := msgV) (ok := okS) _ rfl _ 46 rfl 9 27 Tryd.underlying46 mb L rfl hM ?_))
  go_ret
  exact ⟨rfl, rfl⟩
end Go.Proofs.YtdchcdagjnaicaaDoor.Rt
