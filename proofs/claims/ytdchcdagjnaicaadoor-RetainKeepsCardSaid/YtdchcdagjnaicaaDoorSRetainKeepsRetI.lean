/- What the proof of RetainKeeps leans on: RetI. -/
import Derived.Test.YtdchcdagjnaicaaDoorSRetainKeepsRetH
set_option linter.unusedVariables false
set_option linter.unusedSimpArgs false
namespace Go.Proofs.YtdchcdagjnaicaaDoor.Rt
open Go Go.RowKit Go.ChangeMaps Go.MapKept Go.Proofs.YtdchcdagjnaicaaDoorW.PrintWords Go.Proofs.YtdchcdagjnaicaaDoor.Q Go.Proofs.YtdchcdagjnaicaaDoor.Mp Go.Proofs.YtdchcdagjnaicaaDoor.Top
theorem R_own {e : Nat} {W : World} {base : Nat} {v : Value} {xs : List Msg} {ok : Nat → Prop} (h : Kd.R k27 e W base ok v xs) : Kd.R k27 e W base (fun k => v.ownBlock = some k) v xs := by
  obtain ⟨h0, inner, ho, hr⟩ := h
  exact ⟨fun k hk => hk, inner, ho, hr.imp_ (fun x cs hp => by rw [k27_openM hp]; exact k27_mkM _ _ _ x)⟩
theorem take_M (st : List Msg) (i : Nat) (h : i < st.length) : st.take (i + 1) = st.take i ++ [rd_T27 st (i : Int)] := by
  rw [List.take_succ_eq_append_getElem h]
  unfold rd_T27
  rw [Int.toNat_natCast, List.getD_eq_getElem?_getD, List.getElem?_eq_getElem h]
  rfl
end Go.Proofs.YtdchcdagjnaicaaDoor.Rt
