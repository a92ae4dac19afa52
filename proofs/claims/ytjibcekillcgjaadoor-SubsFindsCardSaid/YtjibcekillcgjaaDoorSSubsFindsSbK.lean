/- What the proof of SubsFinds leans on: SbK. -/
import Derived.Test.YtjibcekillcgjaaDoorSSubsFindsMp
import Derived.Test.YtjibcekillcgjaaDoorProg
import Derived.DeepKeys4
import Derived.Maps.Keyed
set_option linter.unusedVariables false
set_option linter.unusedSimpArgs false
namespace Go.Proofs.YtjibcekillcgjaaDoor.Sb
open Go Go.Maps Go.MapKept Go.Proofs.YtjibcekillcgjaaDoor.Mp
abbrev Key := ByteArray × ByteArray
def keyV (k : Key) : Value := .agg #[.string k.1, .string k.2]
def okK (k : Key) : Prop := k.1.size ≤ maxLen ∧ k.2.size ≤ maxLen
theorem laidOut : laidOutB Tryd.prog = true := by kernel_rfl
theorem keyLaw : WideMaps.KeyLaw Tryd.prog 61 := deep_law_laid laidOut (m := 3) (by omega) (of_decide_eq_true (by kernel_rfl)) (by kernel_rfl) (by kernel_rfl)
theorem keyT : KT Tryd.prog 61 keyV okK where
  K := Go.Maps.Keyed.of_law keyLaw
  inj h := by
    simp [keyV] at h
    exact Prod.ext h.1 h.2
  key {a} h := by
    have hu := Tryd.underlying61
    have hs := Tryd.underlying9
    obtain ⟨m, hm⟩ : ∃ m, Tryd.prog.types.size = m + 1 := ⟨Tryd.prog.types.size - 1, by kernel_rfl⟩
    have hk : Tryd.prog.keyType 61 = true := by kernel_rfl
    have hc : Tryd.prog.cellsOf 61 = 2 := by kernel_rfl
    have hc1 : Tryd.prog.cellsOf 9 = 1 := by kernel_rfl
    have hf : (keyV a).formed Tryd.prog 61 = true := by
      unfold keyV
      unfold Value.formed
      simp [hu, hs, hc, hc1, h.1, h.2]
    refine ⟨.string (keyBytes [.string a.1.data.toList, .string a.2.data.toList]), ?_⟩
    unfold keyOf
    rw [hu]
    dsimp only
    rw [hk, hf, hm]
    have e : Tryd.prog.keyLits (m + 1 + 1) 61 (keyV a).cells.toList = some [.string a.1.data.toList, .string a.2.data.toList] := by
      unfold Program.keyLits
      rw [hu]
      simp [keyV, Value.cells, hc, hc1, Program.keyLits, hs, h.1, h.2]
    rw [e]
    rfl
end Go.Proofs.YtjibcekillcgjaaDoor.Sb
