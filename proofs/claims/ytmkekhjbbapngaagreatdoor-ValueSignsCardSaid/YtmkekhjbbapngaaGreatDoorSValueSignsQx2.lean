/- What the proof of ValueSigns leans on: Qx2. -/
import Derived.Test.YtmkekhjbbapngaaGreatDoorSValueSignsQx0
import Derived.Test.YtmkekhjbbapngaaGreatDoorSValueSignsTabF
namespace Go.Proofs.YtmkekhjbbapngaaGreatDoor.Q
open Go.RowKit Go.Proofs.YtmkekhjbbapngaaGreatDoorW.PrintWords Go.Proofs.YtmkekhjbbapngaaGreatDoorW.PrintLast Go.Proofs.YtmkekhjbbapngaaGreatDoorW.PrintMore
attribute [local go_sem] max2_int min2_int max_two min_two
set_option linter.unusedVariables false
set_option linter.unusedSimpArgs false
def table_Find.f (l0 : List S23) (a1 : ByteArray) : Option (ByteArray × Int × Int × Int × Int × Int × Int × Bool × Bool) := if l0.length ≤ 4611686018427387904 then some ((Go.Proofs.YtmkekhjbbapngaaGreatDoor.Tab.findR l0 a1).f0, (Go.Proofs.YtmkekhjbbapngaaGreatDoor.Tab.findR l0 a1).f1, (Go.Proofs.YtmkekhjbbapngaaGreatDoor.Tab.findR l0 a1).f2, (Go.Proofs.YtmkekhjbbapngaaGreatDoor.Tab.findR l0 a1).f3, (Go.Proofs.YtmkekhjbbapngaaGreatDoor.Tab.findR l0 a1).f4, (Go.Proofs.YtmkekhjbbapngaaGreatDoor.Tab.findR l0 a1).f5, (Go.Proofs.YtmkekhjbbapngaaGreatDoor.Tab.findR l0 a1).f6, (Go.Proofs.YtmkekhjbbapngaaGreatDoor.Tab.findR l0 a1).f7, Go.Proofs.YtmkekhjbbapngaaGreatDoor.Tab.findB l0 a1) else none
theorem table_Find.calls (A0 : Option Addr) (c0 : Nat) (l0 : List S23) (a1 : ByteArray) (r1 : ByteArray) (r2 : Int) (r3 : Int) (r4 : Int) (r5 : Int) (r6 : Int) (r7 : Int) (r8 : Bool) (r9 : Bool) (w : World) (hr0 : Kd.C k23 w A0 l0.length l0) (hc0 : l0.length ≤ c0) (h : table_Find.f l0 a1 = some (r1, r2, r3, r4, r5, r6, r7, r8, r9)) :
    Calls Tryz.prog 110 #[.slice A0 l0.length c0, .string a1] w fun e w' => e = .returned (.tuple #[.agg #[.string r1, .int .i64 r2, .int .i64 r3, .int .i64 r4, .int .i64 r5, .int .i64 r6, .int .i64 r7, .bool r8], .bool r9]) ∧ Below w.heap.size w w' := by
  unfold table_Find.f at h
  split at h
  · rename_i hc
    have h2 := Option.some.inj h
    simp only [Prod.mk.injEq] at h2
    obtain ⟨rfl, rfl, rfl, rfl, rfl, rfl, rfl, rfl, rfl⟩ := h2
    exact Go.Proofs.YtmkekhjbbapngaaGreatDoor.Tab.find_calls A0 c0 l0 a1 w hr0 hc0 hc
  · cases h
end Go.Proofs.YtmkekhjbbapngaaGreatDoor.Q
