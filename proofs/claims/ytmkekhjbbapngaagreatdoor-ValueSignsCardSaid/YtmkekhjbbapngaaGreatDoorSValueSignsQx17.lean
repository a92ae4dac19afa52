/- What the proof of ValueSigns leans on: Qx17. -/
import Derived.Test.YtmkekhjbbapngaaGreatDoorSValueSignsQx0
import Derived.Test.YtmkekhjbbapngaaGreatDoorSValueSignsValD
namespace Go.Proofs.YtmkekhjbbapngaaGreatDoor.Q
open Go.RowKit Go.Proofs.YtmkekhjbbapngaaGreatDoorW.PrintWords Go.Proofs.YtmkekhjbbapngaaGreatDoorW.PrintLast Go.Proofs.YtmkekhjbbapngaaGreatDoorW.PrintMore
attribute [local go_sem] max2_int min2_int max_two min_two
set_option linter.unusedVariables false
set_option linter.unusedSimpArgs false
def value_Apart.f (a0_0 : ByteArray) (a0_1 : Int) (a0_2 : Int) (a0_3 : Int) (a0_4 : Int) (a0_5 : Int) (a0_6 : Int) (a0_7 : Bool) (l1 : List Int) (l2 : List Int) : Option (Bool × Int) := if l1.length ≤ 1000000 ∧ l2.length ≤ 1000000 then some (Go.Proofs.YtmkekhjbbapngaaGreatDoor.Val.apartR a0_0 a0_1 a0_2 a0_3 a0_4 a0_5 a0_6 a0_7 l1 l2, if Go.Proofs.YtmkekhjbbapngaaGreatDoor.Val.mayB a0_0 a0_1 a0_2 a0_3 a0_4 a0_5 a0_6 a0_7 l1 && Go.Proofs.YtmkekhjbbapngaaGreatDoor.Val.mayB a0_0 a0_1 a0_2 a0_3 a0_4 a0_5 a0_6 a0_7 l2 then 0 else 1) else none
theorem value_Apart.calls (a0_0 : ByteArray) (a0_1 : Int) (a0_2 : Int) (a0_3 : Int) (a0_4 : Int) (a0_5 : Int) (a0_6 : Int) (a0_7 : Bool) (A1 : Option Addr) (c1 : Nat) (l1 : List Int) (A2 : Option Addr) (c2 : Nat) (l2 : List Int) (r1 : Bool) (r2 : Int) (w : World) (hr1 : Kd.C (Kd.int .i64) w A1 l1.length l1) (hc1 : l1.length ≤ c1) (hr2 : Kd.C (Kd.int .i64) w A2 l2.length l2) (hc2 : l2.length ≤ c2) (hLd_ : Go.Proofs.YtmkekhjbbapngaaGreatDoor.Val.Laid w) (h : value_Apart.f a0_0 a0_1 a0_2 a0_3 a0_4 a0_5 a0_6 a0_7 l1 l2 = some (r1, r2)) :
    Calls Tryz.prog 20 #[.agg #[.string a0_0, .int .i64 a0_1, .int .i64 a0_2, .int .i64 a0_3, .int .i64 a0_4, .int .i64 a0_5, .int .i64 a0_6, .bool a0_7], .slice A1 l1.length c1, .slice A2 l2.length c2] w fun e w' => e = .returned (.tuple #[.bool r1, .int .i64 r2]) ∧ Below w.heap.size w w' := by
  unfold value_Apart.f at h
  split at h
  · rename_i hc
    have h2 := Option.some.inj h
    obtain ⟨rfl, rfl⟩ := Prod.mk.inj h2
    exact Go.Proofs.YtmkekhjbbapngaaGreatDoor.Val.apart_calls a0_0 a0_1 a0_2 a0_3 a0_4 a0_5 a0_6 a0_7 A1 c1 l1 A2 c2 l2 w hLd_ hr1 hc1 hr2 hc2 hc.1 hc.2
  · cases h
end Go.Proofs.YtmkekhjbbapngaaGreatDoor.Q
