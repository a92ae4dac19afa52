/- What the proof of ValueSigns leans on: Qx15. -/
import Derived.Test.YtmkekhjbbapngaaGreatDoorSValueSignsQx0
import Derived.Test.YtmkekhjbbapngaaGreatDoorSValueSignsValW
namespace Go.Proofs.YtmkekhjbbapngaaGreatDoor.Q
open Go.RowKit Go.Proofs.YtmkekhjbbapngaaGreatDoorW.PrintWords Go.Proofs.YtmkekhjbbapngaaGreatDoorW.PrintLast Go.Proofs.YtmkekhjbbapngaaGreatDoorW.PrintMore
attribute [local go_sem] max2_int min2_int max_two min_two
set_option linter.unusedVariables false
set_option linter.unusedSimpArgs false
def value_Words.f (a0_0 : ByteArray) (a0_1 : Int) (a0_2 : Int) (a0_3 : Int) (a0_4 : Int) (a0_5 : Int) (a0_6 : Int) (a0_7 : Bool) (a1 : ByteArray) : Option (List Int × Int) := if a1.size ≤ 1000000 then some (Go.Proofs.YtmkekhjbbapngaaGreatDoor.Val.wordsR a0_0 a0_1 a0_2 a0_3 a0_4 a0_5 a0_6 a0_7 a1, Go.Proofs.YtmkekhjbbapngaaGreatDoor.Val.wordsE a0_0 a0_1 a0_2 a0_3 a0_4 a0_5 a0_6 a0_7 a1) else none
theorem value_Words.calls (a0_0 : ByteArray) (a0_1 : Int) (a0_2 : Int) (a0_3 : Int) (a0_4 : Int) (a0_5 : Int) (a0_6 : Int) (a0_7 : Bool) (a1 : ByteArray) (r1 : List Int) (r2 : Int) (w : World) (hLd_ : Go.Proofs.YtmkekhjbbapngaaGreatDoor.Val.Laid w) (h : value_Words.f a0_0 a0_1 a0_2 a0_3 a0_4 a0_5 a0_6 a0_7 a1 = some (r1, r2)) :
    Calls Tryz.prog 18 #[.agg #[.string a0_0, .int .i64 a0_1, .int .i64 a0_2, .int .i64 a0_3, .int .i64 a0_4, .int .i64 a0_5, .int .i64 a0_6, .bool a0_7], .string a1] w fun e w' => ∃ v0_ : Value, e = .returned (.tuple #[v0_, .int .i64 r2]) ∧ Kd.R (Kd.int .i64) 3 w' w.heap.size (fun _ => True) v0_ r1 ∧ Below w.heap.size w w' := by
  unfold value_Words.f at h
  split at h
  · rename_i hc
    have h2 := Option.some.inj h
    obtain ⟨rfl, rfl⟩ := Prod.mk.inj h2
    exact Go.Proofs.YtmkekhjbbapngaaGreatDoor.Val.words_calls a0_0 a0_1 a0_2 a0_3 a0_4 a0_5 a0_6 a0_7 a1 w hLd_ hc
  · cases h
end Go.Proofs.YtmkekhjbbapngaaGreatDoor.Q
