/- What the proof of SubsNil leans on: Qx0. -/
import Derived.Test.YtjibcekillcgjaaDoorProg
import Derived.Below
import Derived.Deep.Draws
import Derived.Deep.AppendLies
import Derived.Maps.AppendAt
import Derived.OwnWalk
import Derived.Laws.BytesArg
import Derived.Laws.MakeOwn
import Derived.Laws.OwnMore
import Derived.Deep.OwnRows
import Derived.Tactics
import Derived.Lib.ConvBytes
import Derived.Laws.Slices
import Derived.WalkKit
import Derived.KernelRfl
import Derived.RowKit3
import Derived.Deep.LoopGhost
import Derived.Deep.QuietTactic
import Derived.BigQuiet
import Derived.WideLaws
import Derived.Deep.DeepCutAuto
import Derived.Deep.CutBlock
import Derived.Deep.RegionHeld3
import Derived.Laws.Rows
import Derived.Lib.AppendStr
import Derived.ArgAppend
import Derived.Laws.IdiomCopy
import Derived.OrdersHeld
import Derived.Laws.BitsLemmas
import Derived.RowKit
import Derived.Test.YtjibcekillcgjaaDoorSSubsNilTopA
import Derived.Test.YtjibcekillcgjaaDoorSSubsNilTopC
import Derived.Test.YtjibcekillcgjaaDoorSSubsNilTopF
import Derived.Test.YtjibcekillcgjaaDoorSSubsNilTopG
import Derived.Test.YtjibcekillcgjaaDoorSSubsNilWWords
import Derived.Test.YtjibcekillcgjaaDoorSSubsNilWQPut
import Derived.Test.YtjibcekillcgjaaDoorSSubsNilWApart
import Derived.Test.YtjibcekillcgjaaDoorSSubsNilWArr
import Derived.Test.YtjibcekillcgjaaDoorSSubsNilWZeros
import Derived.Test.YtjibcekillcgjaaDoorSSubsNilWFoot
import Derived.Test.YtjibcekillcgjaaDoorSSubsNilWKept
import Derived.Test.YtjibcekillcgjaaDoorSSubsNilWShare
import Derived.Test.YtjibcekillcgjaaDoorSSubsNilWN
import Derived.Test.YtjibcekillcgjaaDoorSSubsNilWFootNe
import Derived.Test.YtjibcekillcgjaaDoorSSubsNilWAt
import Derived.Test.YtjibcekillcgjaaDoorSSubsNilWEqStruct
import Derived.Test.YtjibcekillcgjaaDoorSSubsNilWInvWords
import Derived.Test.YtjibcekillcgjaaDoorSSubsNilWNEv
import Derived.Test.YtjibcekillcgjaaDoorSSubsNilWMore
namespace Go.Proofs.YtjibcekillcgjaaDoor.Q
open Go.RowKit Go.Proofs.YtjibcekillcgjaaDoorW.PrintWords Go.Proofs.YtjibcekillcgjaaDoorW.PrintLast Go.Proofs.YtjibcekillcgjaaDoorW.PrintMore
attribute [local go_sem] max2_int max_two
set_option linter.unusedVariables false
set_option linter.unusedSimpArgs false
structure S48 where
  f0 : ByteArray
  f1 : Int
def z48 : S48 := ⟨(⟨#[]⟩ : ByteArray), (0 : Int)⟩
def k48 : Kd S48 := Kd.iso (Kd.pair Kd.string (Kd.int .i64)) (fun x : S48 => (x.f0, x.f1))
theorem k48_open {w : World} {x : S48} {cs : List Value} (h : k48.K w x cs) : cs = [.string x.f0, .int .i64 x.f1] := by
  obtain ⟨_, _, rfl, rfl, rfl⟩ := h
  exact rfl
theorem k48_openM {w : World} {base : Nat} {ok : Nat → Prop} {x : S48} {cs : List Value} (h : k48.M w base ok x cs) : cs = [.string x.f0, .int .i64 x.f1] := by
  obtain ⟨_, _, rfl, rfl, rfl⟩ := h
  exact rfl
theorem k48_mk (w : World) (x : S48)  : k48.K w x [.string x.f0, .int .i64 x.f1] := ⟨[.string x.f0], [.int .i64 x.f1], rfl, rfl, rfl⟩
theorem k48_mkM (w : World) (base : Nat) (ok : Nat → Prop) (x : S48)  : k48.M w base ok x [.string x.f0, .int .i64 x.f1] := ⟨[.string x.f0], [.int .i64 x.f1], rfl, rfl, rfl⟩
def rd_T48 (xs : List S48) (i : Int) : S48 := xs.getD i.toNat z48
theorem at_T48 {w : World} {A : Option Addr} {n : Nat} {xs : List S48} (h : Kd.C k48 w A n xs) (i : Int) (h0 : 0 ≤ i) (h1 : i < n) : ∃ ad , A = some ad ∧ w.cell? (ad.add (i.toNat * 2)) = some (.string (rd_T48 xs i).f0) ∧ w.cell? ⟨(ad.add (i.toNat * 2)).block, (ad.add (i.toNat * 2)).off + 1, none⟩ = some (.int .i64 (rd_T48 xs i).f1) := by
  obtain ⟨ad, c, e, _, hK, hc0⟩ := Kd.C_get h z48 i h0 h1
  have hc : ∀ j u, c[j]? = some u → w.cell? (ad.add (i.toNat * 2 + j)) = some u := hc0
  obtain rfl := k48_open hK
  exact ⟨ad, e, hc 0 _ rfl, by rw [← add_field _ _ 1 (by omega)]; exact hc 1 _ rfl⟩
end Go.Proofs.YtjibcekillcgjaaDoor.Q
namespace Go.Proofs.YtjibcekillcgjaaDoor.Q
open Go.RowKit Go.Proofs.YtjibcekillcgjaaDoorW.PrintWords Go.Proofs.YtjibcekillcgjaaDoorW.PrintLast Go.Proofs.YtjibcekillcgjaaDoorW.PrintMore
attribute [local go_sem] max2_int max_two
set_option linter.unusedVariables false
set_option linter.unusedSimpArgs false
theorem eqA48 (d : Nat) (w : World) (x0 y0 : ByteArray) (x1 y1 : Int) :
    (Op.equalIn (d + 2) 48 (.agg #[.string x0, .int .i64 x1]) (.agg #[.string y0, .int .i64 y1])).run Tryd.prog w = .ok (x0.toList == y0.toList && (x1 == y1)) w := by
  refine eqA_of Tryd.underlying48 (by kernel_rfl) ?_
  refine eqf_cons (by rfl) (by go_simp; rfl) (by go_simp; rfl) (by go_simp) ?_
  exact eqf_last (by rfl) (by go_simp; rfl) (by go_simp; rfl) (by go_simp)
end Go.Proofs.YtjibcekillcgjaaDoor.Q
