/- What the proof of RetainKeeps leans on: RetA. -/
import Derived.Test.YtdchcdagjnaicaaDoorSRetainKeepsRt0
import Derived.Test.YtdchcdagjnaicaaDoorSRetainKeepsTopG
import Derived.Test.YtdchcdagjnaicaaDoorSRetainKeepsQx0
import Derived.Test.YtdchcdagjnaicaaDoorSRetainKeepsWMore
import Derived.WalkKit
import Derived.Deep.DeepFit
import Derived.Lib.Hide
import Derived.WalkMore
import Derived.LoopTactic
import Derived.OwnWalk
import Derived.Outline
import Derived.WalkSmall
import Derived.IntWalk
import Derived.StillTailTactics
set_option linter.unusedVariables false
set_option linter.unusedSimpArgs false
namespace Go.Proofs.YtdchcdagjnaicaaDoor.Rt
open Go Go.RowKit Go.ChangeMaps Go.MapKept Go.Proofs.YtdchcdagjnaicaaDoorW.PrintWords Go.Proofs.YtdchcdagjnaicaaDoor.Q Go.Proofs.YtdchcdagjnaicaaDoor.Mp Go.Proofs.YtdchcdagjnaicaaDoor.Top
abbrev Msg := S27
def msgV (m : Msg) : Value := .agg #[.string m.f0, .string m.f1, .int .i64 m.f2, .bool m.f3]
def okS (s : ByteArray) : Prop := s.size ≤ maxLen
def tpc (m : Msg) : ByteArray := m.f0
theorem strT : KT Tryd.prog 9 Value.string okS where
  K := Go.Maps.string_keyed Tryd.underlying9
  inj h := by injection h
  key h := ⟨_, Go.WideMaps.keyOf_string_mk Tryd.underlying9 h⟩
def KAt (W : World) (kb mb : Nat) (st : List Msg) : Prop :=
  W.heap[kb]? = some (.cells #[.map (some mb)] 48 (0, 0)) ∧ ∃ L, MapAt Value.string msgV okS W mb L ∧ AsS tpc L st
theorem KAt.ne {W : World} {kb mb : Nat} {st : List Msg} (h : KAt W kb mb st) : kb ≠ mb := by
  obtain ⟨h1, L, ⟨es, clock, h2, _⟩, _⟩ := h
  intro e
  rw [e, h2] at h1
  cases h1
theorem KAt.lt {W : World} {kb mb : Nat} {st : List Msg} (h : KAt W kb mb st) : kb < W.heap.size ∧ mb < W.heap.size := by
  obtain ⟨h1, L, h2, _⟩ := h
  exact ⟨(Array.getElem?_eq_some_iff.1 h1).1, h2.lt⟩
theorem KAt.below {W W' : World} {kb mb : Nat} {st : List Msg} (h : KAt W kb mb st) (hb : Below W.heap.size W W') : KAt W' kb mb st := by
  have hl := h.lt
  obtain ⟨h1, L, h2, h3⟩ := h
  exact ⟨(hb.block kb hl.1).trans h1, L, h2.below hb, h3⟩
theorem KAt.grown {W W' : World} {kb mb r : Nat} {st : List Msg} (h : KAt W kb mb st) (hg : W.grownBy W' (some r)) (h1 : kb ≠ r) (h2 : mb ≠ r) : KAt W' kb mb st := by
  have hl := h.lt
  obtain ⟨e1, L, e2, e3⟩ := h
  exact ⟨(hg.block kb hl.1 (fun e => h1 (by injection e))).trans e1, L, e2.grown hg (fun e => h2 (by injection e)), e3⟩
theorem grown_trans {A B C : World} {r : Option Nat} (h : A.grownBy B r) (h' : B.grownBy C r) : A.grownBy C r :=
  ⟨h'.os.trans h.os, h'.tape.trans h.tape, h'.output.trans h.output, Nat.le_trans h.size h'.size, fun b hb hr => (h'.block b (Nat.lt_of_lt_of_le hb h.size) hr).trans (h.block b hb hr)⟩
theorem grown_below {A B : World} {r : Option Nat} (h : Below A.heap.size A B) : A.grownBy B r := ⟨h.os, h.tape, h.output, h.size, fun b hb _ => h.block b hb⟩
set_option maxHeartbeats 4000000 in
set_option maxRecDepth 1000000 in
theorem new_calls (W : World) : Calls Tryd.prog 8 #[] W fun e W' => e = .returned (.pointer (some ⟨W.heap.size + 1, 0, none⟩)) ∧ KAt W' (W.heap.size + 1) W.heap.size [] ∧ Below W.heap.size W W' := by
  have hmm := @run_makeMap Tryd.prog
  have hm : MapAt Value.string msgV okS (W.alloc (.map #[] 0)) W.heap.size [] := MapAt.made W
  have ha := (Below.refl W.heap.size W).alloc (Nat.le_refl _) (.map #[] 0)
  have ha2 := (Below.refl (W.alloc (.map #[] 0)).heap.size (W.alloc (.map #[] 0))).alloc (Nat.le_refl _) (.cells #[.map (some W.heap.size)] 48 (0, 0))
  have hk := blk_new (W.alloc (.map #[] 0)) (.cells #[.map (some W.heap.size)] 48 (0, 0))
  have hsz : (W.alloc (.map #[] 0)).heap.size = W.heap.size + 1 := by simp
  rw [hsz] at hk
  have FIN : KAt ((W.alloc (.map #[] 0)).alloc (.cells #[.map (some W.heap.size)] 48 (0, 0))) (W.heap.size + 1) W.heap.size [] := ⟨hk, [], hm.below ha2, AsS.nil⟩
  have hb := ha.trans (ha2.mono ha.size)
  have F := Lib.hid (And.intro FIN hb)
  clear FIN hb hm ha ha2 hk hsz
  go_enter Tryd.func8, Tryd.ntmps8
  go_wp2
  go_ret
  exact ⟨rfl, F.out⟩
def putB (m : Msg) : Bool := isName m.f0 && (!(decide (m.f2 < 0) || decide (2 < m.f2)) && m.f3)
def putE (m : Msg) : Int := if isName m.f0 = true then (if (decide (m.f2 < 0) || decide (2 < m.f2)) = true then 1 else 0) else 120
def putF (st : List Msg) (m : Msg) : List Msg := if putB m = true then (if m.f1.toList.isEmpty = true then delS tpc st m.f0 else putS tpc st m) else st
def PutPost (W : World) (kb mb : Nat) (st : List Msg) (m : Msg) (e : Ending) (W' : World) : Prop :=
  e = .returned (.tuple #[.bool (putB m), .int .i64 (putE m)]) ∧ W.grownBy W' (some mb) ∧ KAt W' kb mb (putF st m)
theorem name_no {s : ByteArray} (h : isName s = false) (W : World) (hL : Laid W) : Calls Tryd.prog 21 #[.string s] W fun e W' => e = .returned (.int .i64 120) ∧ Below W.heap.size W W' := by
  have := name_calls s W hL
  rw [h] at this
  exact this
theorem name_yes {s : ByteArray} (h : isName s = true) (W : World) (hL : Laid W) : Calls Tryd.prog 21 #[.string s] W fun e W' => e = .returned (.int .i64 0) ∧ Below W.heap.size W W' := by
  have := name_calls s W hL
  rw [h] at this
  exact this
set_option maxHeartbeats 4000000 in
set_option maxRecDepth 1000000 in
theorem put_calls (W : World) (kb mb : Nat) (st : List Msg) (m : Msg) (hL : Laid W) (hK : KAt W kb mb st) (hs : okS m.f0) :
    Calls Tryd.prog 9 #[.pointer (some ⟨kb, 0, none⟩), msgV m] W (PutPost W kb mb st m) := by
  have hal := (Below.refl W.heap.size W).alloc (Nat.le_refl _) (.cells #[.string m.f0, .string m.f1, .int .i64 m.f2, .bool m.f3] 27 (0, 0))
  have hk0 := blk_new W (.cells #[.string m.f0, .string m.f1, .int .i64 m.f2, .bool m.f3] 27 (0, 0))
  have z0 := blk_cell hk0 0
  have HK := Lib.hid (And.intro hal (And.intro hk0 hK))
  have hlt := hK.lt
  have HS := Lib.hid hs
  have HN := Lib.hid hK.ne
  -- the ways that leave what is kept alone
  have quiet : ∀ (b : Bool) (er : Int) (w1 : World), putB m = false → putE m = er → b = false → Below (W.alloc (.cells #[.string m.f0, .string m.f1, .int .i64 m.f2, .bool m.f3] 27 (0, 0))).heap.size (W.alloc (.cells #[.string m.f0, .string m.f1, .int .i64 m.f2, .bool m.f3] 27 (0, 0))) w1 → PutPost W kb mb st m (.returned (.tuple #[.bool b, .int .i64 er])) w1 := by
    intro b er w1 h1 h2 h3 h4
    have hb := hal.trans (h4.mono hal.size)
    refine ⟨by rw [h1, h2, h3], grown_below hb, ?_⟩
    unfold putF
    rw [if_neg (by rw [h1]; decide)]
    exact hK.below hb
  have Q := Aside0.mk quiet
  clear quiet
  cases hn : isName m.f0
  · have cN := name_no hn _ (hL.below hal)
    have F := Lib.hid (show putB m = false ∧ putE m = 120 by unfold putB putE; rw [hn]; exact ⟨rfl, rfl⟩)
    unfold msgV
    clear hn hk0 hal hK hL hs
    go_enter Tryd.func9, Tryd.ntmps9
    go_wp2_with (go_at_call 21; refine cN.mono ?_; rintro e w1 ⟨rfl, hb1⟩)
    go_ret2
    exact Q.out false 120 w1 F.out.1 F.out.2 rfl hb1
  have cN := name_yes hn _ (hL.below hal)
  clear hL
  cases h0 : decide (m.f2 < 0)
  · cases h2 : decide (2 < m.f2)
    · cases h3 : m.f3
      · have F := Lib.hid (show putB m = false ∧ putE m = 0 by unfold putB putE; rw [hn, h0, h2, h3]; exact ⟨rfl, rfl⟩)
        unfold msgV
        rw [h3] at z0 HK Q cN ⊢
        clear hn hk0 hal hK hs
        have h2' : decide (m.f2 > 2) = false := h2
        go_enter Tryd.func9, Tryd.ntmps9
        go_wp2_with (go_at_call 21; refine cN.mono ?_; rintro e w1 ⟨rfl, hb1⟩; have hk1 := blk_below HK.out.2.1 hb1; have q0 := blk_cell hk1 0; have q1 := blk_cell hk1 1; have q2 := blk_cell hk1 2; have q3 := blk_cell hk1 3)
        go_ret2
        exact Q.out false 0 w1 F.out.1 F.out.2 rfl hb1
      · cases he : m.f1.toList.isEmpty
        · have F := Lib.hid (show putB m = true ∧ putE m = 0 by unfold putB putE; rw [hn, h0, h2, h3]; exact ⟨rfl, rfl⟩)
          have FF : putF st m = putS tpc st m := by unfold putF; rw [if_pos F.out.1, if_neg (by rw [he]; decide)]
          have FF := Lib.hid FF
          have HE := Lib.hid he
          have HV := Lib.hid (show msgV m = .agg #[.string m.f0, .string m.f1, .int .i64 m.f2, .bool true] by unfold msgV; rw [h3])
          have e1 : (m.f1.toList == []) = false := by cases h : m.f1.toList with | nil => rw [h] at he; cases he | cons x l => rfl
          unfold msgV
          rw [h3] at z0 HK Q cN ⊢
          have h2' : decide (m.f2 > 2) = false := h2
          clear hn hk0 hal hK hs h3 he
          go_enter Tryd.func9, Tryd.ntmps9
          go_wp2_with (go_at_call 21; refine cN.mono ?_; rintro e w1 ⟨rfl, hb1⟩; have hk1 := blk_below HK.out.2.1 hb1; have q0 := blk_cell hk1 0; have q1 := blk_cell hk1 1; have q2 := blk_cell hk1 2; have q3 := blk_cell hk1 3; have hK1 := (HK.out.2.2.below HK.out.1).below hb1; have qk := blk_cell hK1.1 0; have hB1 := HK.out.1.trans (hb1.mono HK.out.1.size))
          go_still_tail 7, (by kernel_rfl)
          have hb5 := pw_below_drewN (Below.refl w1.heap.size w1) 1
          change wpList _ _ _ _ _ (w1.drewN 1)
          generalize w1.drewN 1 = w5 at hb5 ⊢
          have hK5 := hK1.below hb5
          have hB5 := hB1.trans (hb5.mono hB1.size)
          obtain ⟨hk5, L, hM5, hA5⟩ := hK5
          have HK5 := Aside0.mk (And.intro hk5 hA5)
          clear hk5 hA5 hK1 hk1
          go_wp2_with (first | (refine wpList_put (mk := Value.string) (mv := msgV) (ok := okS) _ rfl _ _ _ 46 rfl 9 27 strT Tryd.underlying46 mb L rfl hM5 m.f0 m rfl HS.out HV.out.symm ?_; intro w6 hm6 hg6 hz6))
          go_ret2
          refine ⟨by rw [F.out.1, F.out.2]; rfl, grown_trans (grown_below hB5) hg6, ?_⟩
          rw [FF.out]
          exact ⟨(hg6.block kb (Nat.lt_of_lt_of_le hlt.1 hB5.size) (fun e => by injection e with e; exact HN.out e)).trans HK5.out.1, _, hm6, HK5.out.2.put m⟩
        · have F := Lib.hid (show putB m = true ∧ putE m = 0 by unfold putB putE; rw [hn, h0, h2, h3]; exact ⟨rfl, rfl⟩)
          have FF : putF st m = delS tpc st m.f0 := by unfold putF; rw [if_pos F.out.1, if_pos he]
          have FF := Lib.hid FF
          have HE := Lib.hid he
          have HV := Lib.hid (show msgV m = .agg #[.string m.f0, .string m.f1, .int .i64 m.f2, .bool true] by unfold msgV; rw [h3])
          have e1 : m.f1.toList = [] := List.isEmpty_iff.1 he
          unfold msgV
          rw [h3] at z0 HK Q cN ⊢
          have h2' : decide (m.f2 > 2) = false := h2
          clear hn hk0 hal hK hs h3 he
          go_enter Tryd.func9, Tryd.ntmps9
          go_wp2_with (go_at_call 21; refine cN.mono ?_; rintro e w1 ⟨rfl, hb1⟩; have hk1 := blk_below HK.out.2.1 hb1; have q0 := blk_cell hk1 0; have q1 := blk_cell hk1 1; have q2 := blk_cell hk1 2; have q3 := blk_cell hk1 3; have hK1 := (HK.out.2.2.below HK.out.1).below hb1; have qk := blk_cell hK1.1 0; have hB1 := HK.out.1.trans (hb1.mono HK.out.1.size))
          go_still_tail 6, (by kernel_rfl)
          have hb5 := pw_below_drewN (Below.refl w1.heap.size w1) 1
          change wpList _ _ _ _ _ (w1.drewN 1)
          generalize w1.drewN 1 = w5 at hb5 ⊢
          have hK5 := hK1.below hb5
          have hB5 := hB1.trans (hb5.mono hB1.size)
          obtain ⟨hk5, L, hM5, hA5⟩ := hK5
          have HK5 := Aside0.mk (And.intro hk5 hA5)
          clear hk5 hA5 hK1 hk1
          go_wp2_with (first | (refine wpList_drop (mk := Value.string) (mv := msgV) (ok := okS) _ rfl _ _ 46 9 rfl 27 strT Tryd.underlying46 mb L rfl hM5 m.f0 rfl HS.out ?_; intro w6 hm6 hg6 hz6))
          go_ret2
          refine ⟨by rw [F.out.1, F.out.2]; rfl, grown_trans (grown_below hB5) hg6, ?_⟩
          rw [FF.out]
          exact ⟨(hg6.block kb (Nat.lt_of_lt_of_le hlt.1 hB5.size) (fun e => by injection e with e; exact HN.out e)).trans HK5.out.1, _, hm6, HK5.out.2.del m.f0⟩
    · have F := Lib.hid (show putB m = false ∧ putE m = 1 by unfold putB putE; rw [hn, h0, h2]; exact ⟨rfl, rfl⟩)
      unfold msgV
      clear hn hk0 hal hK hs
      have h2' : decide (m.f2 > 2) = true := h2
      go_enter Tryd.func9, Tryd.ntmps9
      go_wp2_with (go_at_call 21; refine cN.mono ?_; rintro e w1 ⟨rfl, hb1⟩; have hk1 := blk_below HK.out.2.1 hb1; have q0 := blk_cell hk1 0; have q1 := blk_cell hk1 1; have q2 := blk_cell hk1 2; have q3 := blk_cell hk1 3)
      go_ret2
      exact Q.out false 1 w1 F.out.1 F.out.2 rfl hb1
  · have F := Lib.hid (show putB m = false ∧ putE m = 1 by unfold putB putE; rw [hn, h0]; exact ⟨rfl, rfl⟩)
    unfold msgV
    clear hn hk0 hal hK hs
    go_enter Tryd.func9, Tryd.ntmps9
    go_wp2_with (go_at_call 21; refine cN.mono ?_; rintro e w1 ⟨rfl, hb1⟩; have hk1 := blk_below HK.out.2.1 hb1; have q0 := blk_cell hk1 0; have q1 := blk_cell hk1 1; have q2 := blk_cell hk1 2; have q3 := blk_cell hk1 3)
    go_ret2
    exact Q.out false 1 w1 F.out.1 F.out.2 rfl hb1
end Go.Proofs.YtdchcdagjnaicaaDoor.Rt
