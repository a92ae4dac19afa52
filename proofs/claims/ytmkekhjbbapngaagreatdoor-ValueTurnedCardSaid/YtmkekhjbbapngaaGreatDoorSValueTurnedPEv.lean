/- What the proof of ValueTurned leans on: PEv. -/
import Derived.Test.YtmkekhjbbapngaaGreatDoorSValueTurnedWWords
import Derived.Test.YtmkekhjbbapngaaGreatDoorSValueTurnedWMore
import Derived.Test.YtmkekhjbbapngaaGreatDoorSValueTurnedTopC
set_option linter.unusedVariables false
set_option linter.unusedSimpArgs false
namespace Go.Proofs.YtmkekhjbbapngaaGreatDoor.Q
open Go.RowKit Go.Proofs.YtmkekhjbbapngaaGreatDoorW.PrintWords
section
variable {α β : Type} {g f : Nat → Option α} {r : α}
theorem Ev.pos {c : Prop} [Decidable c] (hc : c) (h : Ev g r) : Ev (fun k => if c then g k else f k) r := h.congr (fun _ => if_pos hc)
theorem Ev.neg {c : Prop} [Decidable c] (hc : ¬ c) (h : Ev f r) : Ev (fun k => if c then g k else f k) r := h.congr (fun _ => if_neg hc)
theorem Ev.ret (r : α) : Ev (fun _ => some r) r := Ev.now r
theorem Ev.some {a : α} {q : β} {h : Nat → α → Option β} (k : Ev (fun n => h n a) q) : Ev (fun n => (Option.some a).bind (h n)) q := k
theorem Ev.fst {o : Option α} {a : α} (ho : o = Option.some a) {q : β} {h : Nat → α → Option β} (k : Ev (fun n => h n a) q) : Ev (fun n => o.bind (h n)) q := by subst ho; exact k
end
end Go.Proofs.YtmkekhjbbapngaaGreatDoor.Q
