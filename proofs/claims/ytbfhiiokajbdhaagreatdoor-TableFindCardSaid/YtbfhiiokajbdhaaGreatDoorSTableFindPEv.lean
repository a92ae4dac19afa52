/- What the proof of TableFind leans on: PEv. -/
import Derived.Test.YtbfhiiokajbdhaaGreatDoorSTableFindWWords
import Derived.Test.YtbfhiiokajbdhaaGreatDoorSTableFindWMore
import Derived.Test.YtbfhiiokajbdhaaGreatDoorSTableFindTopC
set_option linter.unusedVariables false
set_option linter.unusedSimpArgs false
namespace Go.Proofs.YtbfhiiokajbdhaaGreatDoor.Q
open Go.RowKit Go.Proofs.YtbfhiiokajbdhaaGreatDoorW.PrintWords
theorem w64 {x : Int} (h0 : -9223372036854775808 ≤ x) (h1 : x ≤ 9223372036854775807) : wrap64 x = x := by unfold wrap64; omega
section
variable {α β : Type} {g f : Nat → Option α} {r : α}
theorem Ev.pos {c : Prop} [Decidable c] (hc : c) (h : Ev g r) : Ev (fun k => if c then g k else f k) r := h.congr (fun _ => if_pos hc)
theorem Ev.neg {c : Prop} [Decidable c] (hc : ¬ c) (h : Ev f r) : Ev (fun k => if c then g k else f k) r := h.congr (fun _ => if_neg hc)
theorem Ev.ret (r : α) : Ev (fun _ => some r) r := Ev.now r
theorem Ev.ret' {r s : α} (h : s = r) : Ev (fun _ => some s) r := h ▸ Ev.now s
theorem Ev.fst {o : Option α} {a : α} (ho : o = Option.some a) {q : β} {h : Nat → α → Option β} (k : Ev (fun n => h n a) q) : Ev (fun n => o.bind (h n)) q := by subst ho; exact k
end
end Go.Proofs.YtbfhiiokajbdhaaGreatDoor.Q
