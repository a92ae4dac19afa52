/- What the proof of DriftDoes leans on: Cnt. -/
import Derived.Laws.ComplexArith
set_option linter.unusedVariables false
set_option linter.unusedSimpArgs false
namespace Go.Proofs.YtenbkjeflancaaaGreatDoor.Cnt
open Go
def fb (n : Nat) : Nat := floatOfInt .f64 (n : Int)
theorem fb_zero : fb 0 = 0 := by decide +kernel
theorem fb_add (n : Nat) (h : n ≤ 300) : floatBits .add .f64 (fb n) 4607182418800017408 = some (fb (n + 1)) := by
  have H : ∀ i : Fin 301, floatBits .add .f64 (fb i.1) 4607182418800017408 = some (fb (i.1 + 1)) := by decide +kernel
  exact H ⟨n, by omega⟩
theorem fb_add0 (n : Nat) (h : n ≤ 300) : floatBits .add .f64 (fb n) 0 = some (fb n) := by
  have H : ∀ i : Fin 301, floatBits .add .f64 (fb i.1) 0 = some (fb i.1) := by decide +kernel
  exact H ⟨n, by omega⟩
theorem fb_int (n : Nat) (h : n ≤ 300) : floatToIntVal .f64 (fb n) .i64 = some (n : Int) := by
  have H : ∀ i : Fin 301, floatToIntVal .f64 (fb i.1) .i64 = some (i.1 : Int) := by decide +kernel
  exact H ⟨n, by omega⟩
theorem told_more (a b : Nat) (ha : a ≤ 300) (hb : b ≤ 300) : cSumBits .add .f64 (fb a) (fb b) 4607182418800017408 0 = some (fb (a + 1), fb b) := by
  unfold cSumBits
  rw [fb_add a ha, fb_add0 b hb]
  rfl
theorem seen_more (a b : Nat) (ha : a ≤ 300) (hb : b ≤ 300) : cSumBits .add .f64 (fb a) (fb b) 0 4607182418800017408 = some (fb a, fb (b + 1)) := by
  unfold cSumBits
  rw [fb_add0 a ha, fb_add b hb]
  rfl
end Go.Proofs.YtenbkjeflancaaaGreatDoor.Cnt
