/- What the proof of DriftDoes leans on: DrW. -/
import Derived.Test.YtenbkjeflancaaaGreatDoorSDriftDoesDrS
set_option linter.unusedVariables false
set_option linter.unusedSimpArgs false
namespace Go.Proofs.YtenbkjeflancaaaGreatDoor.Dr
open Go Go.RowKit Go.Proofs.YtenbkjeflancaaaGreatDoorW.PrintWords Go.Proofs.YtenbkjeflancaaaGreatDoor.Val Go.Proofs.YtenbkjeflancaaaGreatDoor.Q Go.Proofs.YtenbkjeflancaaaGreatDoor.Cnt
theorem lit1_C {W : World} {g db : Nat} {x : Int} (hb : W.heap[g]? = some (.cells #[.int .i64 x] 3 (0, 0))) (hne : g ≠ db) : ∀ W1, W.grownBy W1 (some db) → Kd.C (Kd.int .i64) W1 (some ⟨g, 0, none⟩) ([x] : List Int).length [x] := by
  intro W1 hg
  have hb1 := (hg.block g (blk_lt hb) (fun e => by injection e with e; exact hne e)).trans hb
  refine Kd.C_of_reads (d := (0 : Int)) (h1 := fun _ => rfl) ⟨rfl, by simp, fun _ => ⟨⟨g, 0, none⟩, rfl, fun j hj => ?_⟩⟩
  obtain rfl : j = 0 := by simp at hj; omega
  exact blk_cell hb1 0
abbrev AW (B : Nat) (W : World) (db : Nat) (st : DS) : Prop := DAt ⟨#[97]⟩ 1 3 0 2 0 5 false B W db st
theorem feedW {w W : World} {db B : Nat} {st : DS} {x : Int} (h0 : 0 ≤ x) (h1 : x ≤ 65535) (hL : Laid w) (hB0 : Below w.heap.size w W) (hd0 : w.heap.size ≤ db) (hdB : db < B) (hBW : B ≤ W.heap.size) (hD : AW B W db st) (ht : st.told ≤ 299) (hs : st.seen ≤ 299) (s : ByteArray) (b : Bool) (st' : DS)
    (hb : feedB ⟨#[97]⟩ 1 3 0 2 0 5 false st [x] = b) (hs' : (if b then textR ⟨#[97]⟩ 1 3 0 2 0 5 false [x] else ⟨#[]⟩) = s) (hst : feedS ⟨#[97]⟩ 1 3 0 2 0 5 false st [x] = st') :
    Calls Tryz.prog 9 #[.pointer (some ⟨db, 0, none⟩), .slice (some ⟨W.heap.size, 0, none⟩) 1 1] (W.alloc (.cells #[.int .i64 x] 3 (0, 0))) fun e W' => e = .returned (.tuple #[.string s, .bool b, .int .i64 0]) ∧ (Below w.heap.size w W' ∧ B ≤ W'.heap.size) ∧ AW B W' db st' := by
  subst hb hs' hst
  have hz : (W.alloc (.cells #[.int .i64 x] 3 (0, 0))).heap.size = W.heap.size + 1 := by simp
  have hBa := hB0.alloc hB0.size (.cells #[.int .i64 x] 3 (0, 0))
  have hD' : AW B (W.alloc (.cells #[.int .i64 x] 3 (0, 0))) db st := hD.below ((Below.refl W.heap.size W).alloc (Nat.le_refl _) _)
  refine (feed_calls hL hBa hd0 hdB (by omega) hD' (lit1_C (blk_new W _) (by omega)) (by simp) (by simp) (aw_may x h0 h1) ht hs).mono ?_
  rintro e W' ⟨rfl, hg, hD2⟩
  have := hg.size
  exact ⟨rfl, ⟨below_grown hBa hg hd0, by omega⟩, hD2⟩
theorem aw0 : feedB ⟨#[97]⟩ 1 3 0 2 0 5 false ⟨false, [], 0, 0⟩ [10] = true := rfl
theorem aw1 : feedB ⟨#[97]⟩ 1 3 0 2 0 5 false ⟨true, [10], 1, 1⟩ [14] = false := by
  unfold feedB
  rw [aw_ap1]
  rfl
theorem aw2 : feedB ⟨#[97]⟩ 1 3 0 2 0 5 false ⟨true, [10], 1, 2⟩ [15] = true := by
  unfold feedB
  rw [aw_ap2]
  rfl
set_option maxHeartbeats 8000000 in
set_option maxRecDepth 1000000 in
theorem awake_calls (w : World) (hL : Laid w) : Calls Tryz.prog 7 #[] w fun e w' => e = .returned (.bool true) ∧ Below w.heap.size w w' := by
  have cN := new_yes ⟨#[97]⟩ 1 3 0 2 0 5 false w hL aw_row
  have cF1 := fun (W : World) (db B : Nat) (hB0 : Below w.heap.size w W) (hd0 : w.heap.size ≤ db) (hdB : db < B) (hBW : B ≤ W.heap.size) (hD : AW B W db ⟨false, [], 0, 0⟩) => feedW (x := 10) (by decide) (by decide) hL hB0 hd0 hdB hBW hD (by decide) (by decide) ⟨#[49, 48]⟩ true ⟨true, [10], 1, 1⟩ aw0 (by rw [if_pos rfl, aw_t1]) (by unfold feedS; rw [aw0]; rfl)
  have cF2 := fun (W : World) (db B : Nat) (hB0 : Below w.heap.size w W) (hd0 : w.heap.size ≤ db) (hdB : db < B) (hBW : B ≤ W.heap.size) (hD : AW B W db ⟨true, [10], 1, 1⟩) => feedW (x := 14) (by decide) (by decide) hL hB0 hd0 hdB hBW hD (by decide) (by decide) ⟨#[]⟩ false ⟨true, [10], 1, 2⟩ aw1 rfl (by unfold feedS; rw [aw1]; rfl)
  have cF3 := fun (W : World) (db B : Nat) (hB0 : Below w.heap.size w W) (hd0 : w.heap.size ≤ db) (hdB : db < B) (hBW : B ≤ W.heap.size) (hD : AW B W db ⟨true, [10], 1, 2⟩) => feedW (x := 15) (by decide) (by decide) hL hB0 hd0 hdB hBW hD (by decide) (by decide) ⟨#[49, 53]⟩ true ⟨true, [15], 2, 3⟩ aw2 (by rw [if_pos rfl, aw_t2]) (by unfold feedS; rw [aw2]; rfl)
  have cL := fun (W : World) (db B : Nat) (hB0 : Below w.heap.size w W) (hD : AW B W db ⟨true, [15], 2, 3⟩) => last_calls hL hB0 hD
  have eL : lastT ⟨#[97]⟩ 1 3 0 2 0 5 false ⟨true, [15], 2, 3⟩ = ⟨#[49, 53]⟩ := by
    unfold lastT
    rw [if_pos rfl, aw_t2]
  rw [eL] at cL
  clear hL eL
  go_enter Tryz.func7, Tryz.ntmps7
  go_wp2_with (first
    | (go_at_call 5; refine cN.mono ?_; rintro e w1 ⟨db, rfl, hd, hb1, hk⟩; have hlt := blk_lt hk; have hD1 : AW w1.heap.size w1 db ⟨false, [], 0, 0⟩ := ⟨_, hk, Kd.R_nil _ _ _ _ _, fun h => by cases h⟩)
    | (go_at_call 9; first
        | (refine (cF3 w3 db w1.heap.size hb3 hd hlt hs3 hD3).mono ?_; rintro e w4 ⟨rfl, ⟨hb4, hs4⟩, hD4⟩)
        | (refine (cF2 w2 db w1.heap.size hb2 hd hlt hs2 hD2).mono ?_; rintro e w3 ⟨rfl, ⟨hb3, hs3⟩, hD3⟩)
        | (refine (cF1 w1 db w1.heap.size hb1 hd hlt (Nat.le_refl _) hD1).mono ?_; rintro e w2 ⟨rfl, ⟨hb2, hs2⟩, hD2⟩))
    | (go_at_call 11; refine (cL w4 db w1.heap.size hb4 hD4).mono ?_; rintro e w5 ⟨rfl, hb5⟩; have hD5 := hD4.below hb5)
    | (go_at_call 13; refine (count_calls hD5 (by decide) (by decide)).mono ?_; rintro e w6 ⟨rfl, hb6⟩))
  go_ret
  exact ⟨rfl, (hb4.trans (hb5.mono hb4.size)).trans (hb6.mono (hb4.trans (hb5.mono hb4.size)).size)⟩
end Go.Proofs.YtenbkjeflancaaaGreatDoor.Dr
