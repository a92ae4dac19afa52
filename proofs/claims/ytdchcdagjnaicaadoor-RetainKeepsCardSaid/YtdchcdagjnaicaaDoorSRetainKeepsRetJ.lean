/- What the proof of RetainKeeps leans on: RetJ. -/
import Derived.Test.YtdchcdagjnaicaaDoorSRetainKeepsRetI
import Derived.Test.YtdchcdagjnaicaaDoorSRetainKeepsQx5
import Derived.Deep.RegionHeld3
import Derived.BigQuiet
import Derived.WalkSpells
set_option linter.unusedVariables false
set_option linter.unusedSimpArgs false
namespace Go.Proofs.YtdchcdagjnaicaaDoor.Rt
open Go Go.RowKit Go.ChangeMaps Go.MapKept Go.Proofs.YtdchcdagjnaicaaDoorW.PrintWords Go.Proofs.YtdchcdagjnaicaaDoor.Q Go.Proofs.YtdchcdagjnaicaaDoor.Mp Go.Proofs.YtdchcdagjnaicaaDoor.Top
theorem takes_calls (flt n : ByteArray) (hf : isFilter flt = true) (hn : isName n = true) (w : World) :
    Calls Tryd.prog 14 #[.string flt, .string n] w fun e w' => e = .returned (.bool (takesF flt.data.toList n.data.toList)) ∧ Below w.heap.size w w' := by
  obtain ⟨k, hk⟩ := (takes_ev flt n hf hn).rounds
  exact basculeref12_Takes.calls k flt n _ w hk
theorem filter12_calls (flt : ByteArray) (w : World) :
    Calls Tryd.prog 12 #[.string flt] w fun e w' => e = .returned (.bool (isFilter flt)) ∧ Below w.heap.size w w' := by
  obtain ⟨k, hk⟩ := (filter_ev flt).rounds
  exact basculeref12_Filter.calls k flt _ w hk
theorem takesM_eq {flt : ByteArray} {m : Msg} (hf : isFilter flt = true) (hn : isName m.f0 = true) : takesM flt m = takesF flt.data.toList m.f0.data.toList := by
  unfold takesM matchB
  rw [hf, hn]
  rfl
theorem ba_eq (a b : ByteArray) : (a.toList == b.toList) = decide (a = b) := by
  by_cases h : a = b
  · rw [decide_eq_true h, h]; simp
  · rw [decide_eq_false h]
    exact beq_eq_false_iff_ne.2 (fun e => h (ba_inj (by rw [← Lib.toList_data, ← Lib.toList_data]; exact e)))
end Go.Proofs.YtdchcdagjnaicaaDoor.Rt
