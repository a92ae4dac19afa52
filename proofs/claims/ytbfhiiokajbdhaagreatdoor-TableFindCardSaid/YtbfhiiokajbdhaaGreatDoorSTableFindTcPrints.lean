/- What the proof of TableFind leans on: TcPrints. -/
import Derived.Test.YtbfhiiokajbdhaaGreatDoorSTableFindPTb
import Derived.Test.YtbfhiiokajbdhaaGreatDoorSTableFindPEv
import Derived.Test.YtbfhiiokajbdhaaGreatDoorSTableFindPrintT
import Derived.Lib.ItoaLen
import Derived.Test.YtbfhiiokajbdhaaGreatDoorSTableFindQx0
import Derived.Test.YtbfhiiokajbdhaaGreatDoorProg
import Derived.Below
import Derived.WalkKit
import Derived.Deep.DeepFit
import Derived.Lib.Hide
import Derived.WalkMore
import Derived.LoopTactic
import Derived.OwnWalk
import Derived.Outline
import Derived.BigQuiet
import Derived.Deep.QuietTactic
import Derived.WalkSmall
import Derived.IntWalk
import Derived.Test.YtbfhiiokajbdhaaGreatDoorSTableFindTabA
import Derived.Test.YtbfhiiokajbdhaaGreatDoorSTableFindPTab
import Derived.Test.YtbfhiiokajbdhaaGreatDoorSTableFindPCheck
import Derived.Test.YtbfhiiokajbdhaaGreatDoorSTableFindQx11
import Derived.Test.YtbfhiiokajbdhaaGreatDoorSTableFindTcChecks
import Derived.Test.YtbfhiiokajbdhaaGreatDoorSTableFindParse
import Derived.Test.YtbfhiiokajbdhaaGreatDoorSTableFindQx12
set_option linter.unusedVariables false
set_option linter.unusedSimpArgs false
set_option maxRecDepth 100000
namespace Go.Proofs.YtbfhiiokajbdhaaGreatDoor.Q
open Go.RowKit Go.Proofs.YtbfhiiokajbdhaaGreatDoorW.PrintWords Go.Proofs.YtbfhiiokajbdhaaGreatDoor.Val Go.Proofs.YtbfhiiokajbdhaaGreatDoor.Fl
theorem app_data (a b : ByteArray) : (a ++ b).data.toList = a.data.toList ++ b.data.toList := by rw [ByteArray.data_append]; simp
theorem ba_ext {a b : ByteArray} (h : a.data.toList = b.data.toList) : a = b := by rw [← mk_data a, ← mk_data b, h]
theorem line_len2 (r : S34) (h : fitB r) (hn : r.f0.size ≤ 200) : (lineL r).length ≤ 400 := by
  have il := fun (x : Int) (hx : x ∈ [r.f1, r.f2, r.f3, r.f4, r.f5, r.f6]) => Lib.itoa_length_le x (h x hx).1 (h x hx).2
  have i1 := il r.f1 (by simp)
  have i2 := il r.f2 (by simp)
  have i3 := il r.f3 (by simp)
  have i4 := il r.f4 (by simp)
  have i5 := il r.f5 (by simp)
  have i6 := il r.f6 (by simp)
  have e0 := Lib.size_eq r.f0
  have e7 : ((if r.f7 then ⟨#[119]⟩ else ⟨#[114]⟩ : ByteArray)).data.toList.length ≤ 1 := by cases r.f7 <;> exact Nat.le_refl _
  unfold lineL strsOf
  rw [List.length_append, List.map_cons, Lib.join_length]
  simp only [Lib.lens, List.map_cons, List.map_nil, List.sum_cons, List.sum_nil, List.length_cons, List.length_nil, itoaS]
  omega
theorem lines_size : ∀ (l : List S34), (∀ r ∈ l, (lineL r).length ≤ 400) → (linesL l).length ≤ l.length * 400
  | [], _ => Nat.le_refl _
  | r :: l, h => by
    show (lineL r ++ linesL l).length ≤ (l.length + 1) * 400
    have := h r (by simp)
    have := lines_size l (fun x hx => h x (by simp [hx]))
    rw [List.length_append]
    omega
end Go.Proofs.YtbfhiiokajbdhaaGreatDoor.Q
namespace Go.Proofs.YtbfhiiokajbdhaaGreatDoor.Card
open Go.RowKit Go.Proofs.YtbfhiiokajbdhaaGreatDoorW.PrintWords Go.Proofs.YtbfhiiokajbdhaaGreatDoor.Q
end Go.Proofs.YtbfhiiokajbdhaaGreatDoor.Card
