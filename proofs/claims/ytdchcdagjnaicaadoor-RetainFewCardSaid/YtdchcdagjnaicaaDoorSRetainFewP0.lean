/- What the proof of RetainFew leans on: P0. -/
import Derived.Test.YtdchcdagjnaicaaDoorSRetainFewWWords
import Derived.Test.YtdchcdagjnaicaaDoorSRetainFewWMore
import Derived.Test.YtdchcdagjnaicaaDoorSRetainFewTopG
set_option linter.unusedVariables false
set_option linter.unusedSimpArgs false
namespace Go.Proofs.YtdchcdagjnaicaaDoor.Q
open Go.RowKit Go.Proofs.YtdchcdagjnaicaaDoorW.PrintWords
theorem w64 {x : Int} (h0 : -9223372036854775808 ≤ x) (h1 : x ≤ 9223372036854775807) : wrap64 x = x := by unfold wrap64; omega
section
variable {α β : Type} {g f : Nat → Option α} {r : α}
theorem Ev.pos {c : Prop} [Decidable c] (hc : c) (h : Ev g r) : Ev (fun k => if c then g k else f k) r := h.congr (fun _ => if_pos hc)
theorem Ev.neg {c : Prop} [Decidable c] (hc : ¬ c) (h : Ev f r) : Ev (fun k => if c then g k else f k) r := h.congr (fun _ => if_neg hc)
theorem Ev.ret (r : α) : Ev (fun _ => some r) r := Ev.now r
end
end Go.Proofs.YtdchcdagjnaicaaDoor.Q
