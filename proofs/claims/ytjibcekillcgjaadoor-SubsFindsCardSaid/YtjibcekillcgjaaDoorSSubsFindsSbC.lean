/- What the proof of SubsFinds leans on: SbC. -/
import Derived.Test.YtjibcekillcgjaaDoorSSubsFindsSbB
set_option linter.unusedVariables false
set_option linter.unusedSimpArgs false
namespace Go.Proofs.YtjibcekillcgjaaDoor.Sb
open Go Go.RowKit Go.ChangeMaps Go.MapKept Go.Proofs.YtjibcekillcgjaaDoorW.PrintWords Go.Proofs.YtjibcekillcgjaaDoor.Q Go.Proofs.YtjibcekillcgjaaDoor.Mp Go.Proofs.YtjibcekillcgjaaDoor.Top Go.Proofs.YtjibcekillcgjaaDoor.Fm
def dropB (es : List Ent) (k : Key) : Bool := isFilter k.2 && (getL es k).isSome
def dropE (k : Key) : Int := if isFilter k.2 = true then 0 else 121
def dropF (es : List Ent) (k : Key) : List Ent := if isFilter k.2 = true then delL es k else es
def DropPost (W : World) (xb mb : Nat) (es : List Ent) (n : Int) (k : Key) (e : Ending) (W' : World) : Prop :=
  e = .returned (.tuple #[.bool (dropB es k), .int .i64 (dropE k)]) ∧ Frm (XB xb mb) W W' ∧ IAt W' xb mb (dropF es k) n
set_option maxHeartbeats 4000000 in
set_option maxRecDepth 1000000 in
theorem drop_calls (W : World) (xb mb : Nat) (es : List Ent) (n : Int) (k : Key) (hL : Laid W) (hI : IAt W xb mb es n) (hk : okK k) :
    Calls Tryd.prog 12 #[.pointer (some ⟨xb, 0, none⟩), .string k.1, .string k.2] W (DropPost W xb mb es n k) := by
  cases hf : isFilter k.2
  · have cN := filter_no hf _ hL
    have Q : ∀ w1, Below W.heap.size W w1 → DropPost W xb mb es n k (.returned (.tuple #[.bool false, .int .i64 121])) w1 := fun w1 hb => by
      refine ⟨by unfold dropB dropE; rw [hf]; rfl, Frm.of_below hb, ?_⟩
      unfold dropF
      rw [if_neg (by rw [hf]; decide)]
      exact hI.below hb
    have Q := Aside0.mk Q
    clear hf hI hL hk
    go_enter Tryd.func12, Tryd.ntmps12
    go_wp2_with (go_at_call 23; refine cN.mono ?_; rintro e w1 ⟨rfl, hb1⟩)
    go_ret2
    exact Q.out w1 hb1
  · have cN := filter_yes hf _ hL
    have HF := Lib.hid hf
    have HS := Lib.hid hk
    have HN := Lib.hid hI.ne
    have HI := Lib.hid hI
    have HV : ∀ V : Option (Int × Int), getL es k = V → ∃ v0 v1 b, V.isSome = b ∧ (if true = true then Value.tuple #[lookV entV (entV (0, 0)) V, .bool V.isSome] else lookV entV (entV (0, 0)) V) = .tuple #[.agg #[.int .i64 v0, .int .i64 v1], .bool b] := by
      rintro (_ | p) _
      · exact ⟨0, 0, false, rfl, rfl⟩
      · exact ⟨p.1, p.2, true, rfl, rfl⟩
    obtain ⟨v0, v1, b, hb, hV⟩ := HV _ rfl
    have HB := Lib.hid hb
    have HV := Lib.hid hV
    clear hf hI hL hk hb hV
    go_enter Tryd.func12, Tryd.ntmps12
    go_wp2_with (first
      | (go_at_call 23; refine cN.mono ?_; rintro e w1 ⟨rfl, hb1⟩; have hI1 := HI.out.below hb1; obtain ⟨hx1, L, hM1, hA1⟩ := hI1; have x0 := blk_cell hx1 0; have HX := Lib.hid (And.intro hx1 hA1); have hG := hA1.get k; have HG := Lib.hid hG; clear hx1 hA1 hG)
      | (at_lookup; refine wpList_look (mk := keyV) (mv := entV) (ok := okK) _ rfl _ _ 56 true rfl 61 63 keyT Tryd.underlying56 (entV (0, 0)) (zeroE _) mb L rfl hM1 k rfl HS.out (.tuple #[.agg #[.int .i64 v0, .int .i64 v1], .bool b]) (by rw [HG.out]; exact HV.out) ?_; have xa := blk_cell (blk_alloc HX.out.1 (.cells #[.int .i64 v0, .int .i64 v1] 63 (0, 0))) 0)
      | (at_delete; refine wpList_drop (mk := keyV) (mv := entV) (ok := okK) _ rfl _ _ 56 61 rfl 63 keyT Tryd.underlying56 mb L rfl (hM1.below ((Below.refl _ _).alloc (Nat.le_refl _) _)) k rfl HS.out ?_; intro w6 hm6 hg6 hz6))
    go_ret2
    refine ⟨by unfold dropB dropE; rw [HF.out, HB.out]; rfl, ((Frm.of_below hb1).alloc _).grown hg6 (fun j e => by injection e with e; exact .inl (.inr e.symm)), ?_⟩
    unfold dropF
    rw [if_pos HF.out]
    exact ⟨(hg6.block xb (by have := blk_lt HX.out.1; simp; omega) (fun e => by injection e with e; exact HN.out e)).trans (blk_alloc HX.out.1 _), _, hm6, HX.out.2.del k⟩
end Go.Proofs.YtjibcekillcgjaaDoor.Sb
