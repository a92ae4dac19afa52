/- What the proof of ValueSigns leans on: Qx8. -/
import Derived.Test.YtmkekhjbbapngaaGreatDoorSValueSignsQx0
import Derived.Test.YtmkekhjbbapngaaGreatDoorSValueSignsValT
namespace Go.Proofs.YtmkekhjbbapngaaGreatDoor.Q
open Go.RowKit Go.Proofs.YtmkekhjbbapngaaGreatDoorW.PrintWords Go.Proofs.YtmkekhjbbapngaaGreatDoorW.PrintLast Go.Proofs.YtmkekhjbbapngaaGreatDoorW.PrintMore
attribute [local go_sem] max2_int min2_int max_two min_two
set_option linter.unusedVariables false
set_option linter.unusedSimpArgs false
def value_Text.f (a0_0 : ByteArray) (a0_1 : Int) (a0_2 : Int) (a0_3 : Int) (a0_4 : Int) (a0_5 : Int) (a0_6 : Int) (a0_7 : Bool) (l1 : List Int) : Option (ByteArray × Int) := if l1.length ≤ 1000000 then some (Go.Proofs.YtmkekhjbbapngaaGreatDoor.Val.textR a0_0 a0_1 a0_2 a0_3 a0_4 a0_5 a0_6 a0_7 l1, if Go.Proofs.YtmkekhjbbapngaaGreatDoor.Val.mayB a0_0 a0_1 a0_2 a0_3 a0_4 a0_5 a0_6 a0_7 l1 then 0 else 1) else none
theorem value_Text.calls (a0_0 : ByteArray) (a0_1 : Int) (a0_2 : Int) (a0_3 : Int) (a0_4 : Int) (a0_5 : Int) (a0_6 : Int) (a0_7 : Bool) (A1 : Option Addr) (c1 : Nat) (l1 : List Int) (r1 : ByteArray) (r2 : Int) (w : World) (hr1 : Kd.C (Kd.int .i64) w A1 l1.length l1) (hc1 : l1.length ≤ c1) (hLd_ : Go.Proofs.YtmkekhjbbapngaaGreatDoor.Val.Laid w) (h : value_Text.f a0_0 a0_1 a0_2 a0_3 a0_4 a0_5 a0_6 a0_7 l1 = some (r1, r2)) :
    Calls Tryz.prog 12 #[.agg #[.string a0_0, .int .i64 a0_1, .int .i64 a0_2, .int .i64 a0_3, .int .i64 a0_4, .int .i64 a0_5, .int .i64 a0_6, .bool a0_7], .slice A1 l1.length c1] w fun e w' => e = .returned (.tuple #[.string r1, .int .i64 r2]) ∧ Below w.heap.size w w' := by
  unfold value_Text.f at h
  split at h
  · rename_i hc
    have h2 := Option.some.inj h
    obtain ⟨rfl, rfl⟩ := Prod.mk.inj h2
    exact Go.Proofs.YtmkekhjbbapngaaGreatDoor.Val.text_calls a0_0 a0_1 a0_2 a0_3 a0_4 a0_5 a0_6 a0_7 A1 c1 l1 w hLd_ hr1 hc1 hc
  · cases h
end Go.Proofs.YtmkekhjbbapngaaGreatDoor.Q
