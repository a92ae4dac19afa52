/- What the proof of SubsFinds leans on: SbA. -/
import Derived.Test.YtjibcekillcgjaaDoorSSubsFindsSb0
import Derived.Test.YtjibcekillcgjaaDoorSSubsFindsSbK
import Derived.Test.YtjibcekillcgjaaDoorSSubsFindsTopG
import Derived.Test.YtjibcekillcgjaaDoorSSubsFindsWMore
import Derived.WalkKit
import Derived.Deep.DeepFit
import Derived.Lib.Hide
import Derived.WalkMore
import Derived.LoopTactic
import Derived.OwnWalk
import Derived.Outline
import Derived.WalkSmall
import Derived.IntWalk
import Derived.StillTailTactics
set_option linter.unusedVariables false
set_option linter.unusedSimpArgs false
namespace Go.Proofs.YtjibcekillcgjaaDoor.Sb
open Go Go.RowKit Go.ChangeMaps Go.MapKept Go.Proofs.YtjibcekillcgjaaDoorW.PrintWords Go.Proofs.YtjibcekillcgjaaDoor.Mp Go.Proofs.YtjibcekillcgjaaDoor.Top
def entV (v : Int × Int) : Value := .agg #[.int .i64 v.1, .int .i64 v.2]
def IAt (W : World) (xb mb : Nat) (es : List (Key × (Int × Int))) (n : Int) : Prop :=
  W.heap[xb]? = some (.cells #[.map (some mb), .int .i64 n] 58 (0, 0)) ∧ ∃ L, MapAt keyV entV okK W mb L ∧ AsP L es n
theorem IAt.ne {W : World} {xb mb : Nat} {es : List (Key × (Int × Int))} {n : Int} (h : IAt W xb mb es n) : xb ≠ mb := by
  obtain ⟨h1, L, ⟨es, clock, h2, _⟩, _⟩ := h
  intro e
  rw [e, h2] at h1
  cases h1
theorem IAt.lt {W : World} {xb mb : Nat} {es : List (Key × (Int × Int))} {n : Int} (h : IAt W xb mb es n) : xb < W.heap.size ∧ mb < W.heap.size := by
  obtain ⟨h1, L, h2, _⟩ := h
  exact ⟨(Array.getElem?_eq_some_iff.1 h1).1, h2.lt⟩
theorem IAt.below {W W' : World} {xb mb : Nat} {es : List (Key × (Int × Int))} {n : Int} (h : IAt W xb mb es n) (hb : Below W.heap.size W W') : IAt W' xb mb es n := by
  have hl := h.lt
  obtain ⟨h1, L, h2, h3⟩ := h
  exact ⟨(hb.block xb hl.1).trans h1, L, h2.below hb, h3⟩
set_option maxHeartbeats 4000000 in
set_option maxRecDepth 1000000 in
theorem new_calls (W : World) : Calls Tryd.prog 9 #[] W fun e W' => e = .returned (.pointer (some ⟨W.heap.size + 1, 0, none⟩)) ∧ IAt W' (W.heap.size + 1) W.heap.size [] 0 ∧ Below W.heap.size W W' := by
  have hmm := @run_makeMap Tryd.prog
  have hm : MapAt keyV entV okK (W.alloc (.map #[] 0)) W.heap.size [] := MapAt.made W
  have ha := (Below.refl W.heap.size W).alloc (Nat.le_refl _) (.map #[] 0)
  have ha2 := (Below.refl (W.alloc (.map #[] 0)).heap.size (W.alloc (.map #[] 0))).alloc (Nat.le_refl _) (.cells #[.map (some W.heap.size), .int .i64 0] 58 (0, 0))
  have hk := blk_new (W.alloc (.map #[] 0)) (.cells #[.map (some W.heap.size), .int .i64 0] 58 (0, 0))
  have hsz : (W.alloc (.map #[] 0)).heap.size = W.heap.size + 1 := by simp
  rw [hsz] at hk
  have FIN : IAt ((W.alloc (.map #[] 0)).alloc (.cells #[.map (some W.heap.size), .int .i64 0] 58 (0, 0))) (W.heap.size + 1) W.heap.size [] 0 := ⟨hk, [], hm.below ha2, AsP.nil⟩
  have hb := ha.trans (ha2.mono ha.size)
  have F := Lib.hid (And.intro FIN hb)
  clear FIN hb hm ha ha2 hk hsz
  go_enter Tryd.func9, Tryd.ntmps9
  go_wp2
  go_ret
  exact ⟨rfl, F.out⟩
end Go.Proofs.YtjibcekillcgjaaDoor.Sb
