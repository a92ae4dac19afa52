/- What the proof of DriftDoes leans on: DrS. -/
import Derived.Test.YtenbkjeflancaaaGreatDoorSDriftDoesDrN
set_option linter.unusedVariables false
set_option linter.unusedSimpArgs false
namespace Go.Proofs.YtenbkjeflancaaaGreatDoor.Dr
open Go Go.RowKit Go.Proofs.YtenbkjeflancaaaGreatDoorW.PrintWords Go.Proofs.YtenbkjeflancaaaGreatDoor.Val Go.Proofs.YtenbkjeflancaaaGreatDoor.Q Go.Proofs.YtenbkjeflancaaaGreatDoor.Cnt
structure DS where
  has : Bool
  base : List Int
  told : Nat
  seen : Nat
section
variable (n : ByteArray) (u f a kd s d : Int) (wr : Bool)
def feedB (st : DS) (l : List Int) : Bool := !st.has || apartR n u f a kd s d wr st.base l
def feedS (st : DS) (l : List Int) : DS := if feedB n u f a kd s d wr st l then ⟨true, l, st.told + 1, st.seen + 1⟩ else ⟨st.has, st.base, st.told, st.seen + 1⟩
def DAt (B : Nat) (W : World) (db : Nat) (st : DS) : Prop :=
  ∃ v, W.heap[db]? = some (.cells (cellsD n u f a kd s d wr st.has v st.told st.seen) 48 (0, 0)) ∧ Kd.R (Kd.int .i64) 3 W B (fun _ => True) v st.base ∧ (st.has = true → mayB n u f a kd s d wr st.base = true ∧ st.base.length ≤ 1000000)
end
theorem R_keepB {e B r : Nat} {W W' : World} {v : Value} {l : List Int} (h : Kd.R (Kd.int .i64) e W B (fun _ => True) v l) (hg : W.grownBy W' (some r)) (hr : r < B) : Kd.R (Kd.int .i64) e W' B (fun _ => True) v l :=
  Kd.R_mono (Kd.R_grown (Kd.R_bound h) hg (fun k hk e => by
    have := hk.2.1
    injection e with e
    omega)) (fun _ _ => trivial)
theorem below_grown {w0 W W' : World} {r : Nat} (h : Below w0.heap.size w0 W) (hg : W.grownBy W' (some r)) (hr : w0.heap.size ≤ r) : Below w0.heap.size w0 W' :=
  ⟨hg.os.trans h.os, hg.tape.trans h.tape, hg.output.trans h.output, Nat.le_trans h.size hg.size, fun k hk => (hg.block k (Nat.lt_of_lt_of_le hk h.size) (fun e => by injection e with e; omega)).trans (h.block k hk)⟩
theorem DAt.below {n : ByteArray} {u f a kd s d : Int} {wr : Bool} {B : Nat} {W W' : World} {db : Nat} {st : DS} (h : DAt n u f a kd s d wr B W db st) (hb : Below W.heap.size W W') : DAt n u f a kd s d wr B W' db st := by
  obtain ⟨v, h1, h2, h3⟩ := h
  exact ⟨v, blk_below h1 hb, Kd.R_below h2 hb, h3⟩
theorem DAt.other {n : ByteArray} {u f a kd s d : Int} {wr : Bool} {B : Nat} {W W' : World} {db r : Nat} {st : DS} (h : DAt n u f a kd s d wr B W db st) (hg : W.grownBy W' (some r)) (hr : r < B) (hne : db ≠ r) : DAt n u f a kd s d wr B W' db st := by
  obtain ⟨v, h1, h2, h3⟩ := h
  exact ⟨v, (hg.block db (blk_lt h1) (fun e => by injection e with e; exact hne e)).trans h1, R_keepB h2 hg hr, h3⟩
theorem feed_calls {n : ByteArray} {u f a kd s d : Int} {wr : Bool} {B : Nat} {w0 W : World} {db : Nat} {st : DS} (hL : Laid w0) (hB0 : Below w0.heap.size w0 W) (hd0 : w0.heap.size ≤ db) (hdB : db < B) (hBW : B ≤ W.heap.size) (hD : DAt n u f a kd s d wr B W db st)
    {A : Option Addr} {c : Nat} {l : List Int} (hr : ∀ W1, W.grownBy W1 (some db) → Kd.C (Kd.int .i64) W1 A l.length l) (hc : l.length ≤ c) (hlen : l.length ≤ 1000000) (hm : mayB n u f a kd s d wr l = true) (ht : st.told ≤ 299) (hs : st.seen ≤ 299) :
    Calls Tryz.prog 9 #[.pointer (some ⟨db, 0, none⟩), .slice A l.length c] W fun e W' => e = .returned (.tuple #[.string (if feedB n u f a kd s d wr st l then textR n u f a kd s d wr l else ⟨#[]⟩), .bool (feedB n u f a kd s d wr st l), .int .i64 0]) ∧ W.grownBy W' (some db) ∧ DAt n u f a kd s d wr B W' db (feedS n u f a kd s d wr st l) := by
  have hL' : ∀ W1, W.grownBy W1 (some db) → Laid W1 := fun W1 h => hL.below (below_grown hB0 h hd0)
  obtain ⟨v, h1, h2, h3⟩ := hD
  have hnew : ∀ {W' : World} {v' : Value}, W'.heap[db]? = some (.cells (cellsD n u f a kd s d wr true v' (st.told + 1) (st.seen + 1)) 48 (0, 0)) → Kd.R (Kd.int .i64) 3 W' W.heap.size (fun k => k ≠ db) v' l → DAt n u f a kd s d wr B W' db ⟨true, l, st.told + 1, st.seen + 1⟩ := fun hb hR => ⟨_, hb, Kd.R_mono (Kd.R_lower hR hBW) (fun _ _ => trivial), fun _ => ⟨hm, hlen⟩⟩
  obtain ⟨has, base, told, seen⟩ := st
  simp only at *
  cases has
  · have e1 : feedB n u f a kd s d wr ⟨false, base, told, seen⟩ l = true := rfl
    unfold feedS
    rw [e1]
    refine (feed_first n u f a kd s d wr v told seen db A c l W (hL' W (grown_below (Below.refl _ _))) h1 hr hc hlen hm ht hs).mono ?_
    rintro e W' ⟨rfl, hg, v', hb, hR⟩
    exact ⟨rfl, hg, hnew hb hR⟩
  · obtain ⟨hmb, hbl⟩ := h3 rfl
    obtain ⟨Ab, cb, rfl, hcb, -⟩ := Kd.R_reads h2
    have hbr : ∀ W1, W.grownBy W1 (some db) → Kd.C (Kd.int .i64) W1 Ab base.length base := fun W1 hg => (Kd.R_reads' (R_keepB h2 hg hdB)).2.2
    cases hap : apartR n u f a kd s d wr base l
    · have e1 : feedB n u f a kd s d wr ⟨true, base, told, seen⟩ l = false := by unfold feedB; simp [hap]
      unfold feedS
      rw [e1]
      refine (feed_same n u f a kd s d wr Ab cb base told seen db A c l W hL' h1 hr hc hlen hbr hcb hbl hm hmb hap ht hs).mono ?_
      rintro e W' ⟨rfl, hg, hb⟩
      exact ⟨rfl, hg, _, hb, R_keepB h2 hg hdB, h3⟩
    · have e1 : feedB n u f a kd s d wr ⟨true, base, told, seen⟩ l = true := by unfold feedB; simp [hap]
      unfold feedS
      rw [e1]
      refine (feed_apart n u f a kd s d wr Ab cb base told seen db A c l W hL' h1 hr hc hlen hbr hcb hbl hm hmb hap ht hs).mono ?_
      rintro e W' ⟨rfl, hg, v', hb, hR⟩
      exact ⟨rfl, hg, hnew hb hR⟩
theorem feed_bad {n : ByteArray} {u f a kd s d : Int} {wr : Bool} {B : Nat} {w0 W : World} {db : Nat} {st : DS} (hL : Laid w0) (hB0 : Below w0.heap.size w0 W) (hD : DAt n u f a kd s d wr B W db st)
    {A : Option Addr} {c : Nat} {l : List Int} (hr : Kd.C (Kd.int .i64) W A l.length l) (hc : l.length ≤ c) (hlen : l.length ≤ 1000000) (hm : mayB n u f a kd s d wr l = false) :
    Calls Tryz.prog 9 #[.pointer (some ⟨db, 0, none⟩), .slice A l.length c] W fun e W' => e = .returned (.tuple #[.string ⟨#[]⟩, .bool false, .int .i64 1]) ∧ Below W.heap.size W W' ∧ DAt n u f a kd s d wr B W' db st := by
  have hD' := hD
  obtain ⟨v, h1, h2, h3⟩ := hD
  refine (feed_no n u f a kd s d wr st.has v st.told st.seen db A c l W (hL.below hB0) h1 hr hc hlen hm).mono ?_
  rintro e W' ⟨rfl, hb⟩
  exact ⟨rfl, hb, hD'.below hb⟩
def lastT (n : ByteArray) (u f a kd s d : Int) (wr : Bool) (st : DS) : ByteArray := if st.has then textR n u f a kd s d wr st.base else ⟨#[]⟩
theorem last_calls {n : ByteArray} {u f a kd s d : Int} {wr : Bool} {B : Nat} {w0 W : World} {db : Nat} {st : DS} (hL : Laid w0) (hB0 : Below w0.heap.size w0 W) (hD : DAt n u f a kd s d wr B W db st) :
    Calls Tryz.prog 11 #[.pointer (some ⟨db, 0, none⟩)] W fun e W' => e = .returned (.tuple #[.string (lastT n u f a kd s d wr st), .bool st.has]) ∧ Below W.heap.size W W' := by
  obtain ⟨v, h1, h2, h3⟩ := hD
  obtain ⟨has, base, told, seen⟩ := st
  simp only at *
  unfold lastT
  cases has
  · refine (last_no n u f a kd s d wr v told seen db W h1).mono ?_
    rintro e W' ⟨rfl, rfl⟩
    exact ⟨rfl, Below.refl _ _⟩
  · obtain ⟨hmb, hbl⟩ := h3 rfl
    obtain ⟨Ab, cb, rfl, hcb, hC⟩ := Kd.R_reads h2
    exact last_yes n u f a kd s d wr Ab cb base told seen db W (hL.below hB0) h1 hC hcb hbl hmb
theorem count_calls {n : ByteArray} {u f a kd s d : Int} {wr : Bool} {B : Nat} {W : World} {db : Nat} {st : DS} (hD : DAt n u f a kd s d wr B W db st) (ht : st.told ≤ 300) (hs : st.seen ≤ 300) :
    Calls Tryz.prog 13 #[.pointer (some ⟨db, 0, none⟩)] W fun e W' => e = .returned (.tuple #[.int .i64 st.told, .int .i64 st.seen]) ∧ Below W.heap.size W W' := by
  obtain ⟨v, h1, h2, h3⟩ := hD
  refine (counts_calls n u f a kd s d wr st.has v st.told st.seen db W h1 ht hs).mono ?_
  rintro e W' ⟨rfl, m, rfl⟩
  exact ⟨rfl, pw_below_drewN (Below.refl _ _) m⟩
theorem resets {n : ByteArray} {u f a kd s d : Int} {wr : Bool} {B : Nat} {W : World} {db : Nat} {st : DS} (hD : DAt n u f a kd s d wr B W db st) :
    Calls Tryz.prog 8 #[.pointer (some ⟨db, 0, none⟩)] W fun e W' => e = .returned (.tuple #[]) ∧ W.grownBy W' (some db) ∧ DAt n u f a kd s d wr B W' db ⟨false, [], st.told, st.seen⟩ := by
  obtain ⟨v, h1, h2, h3⟩ := hD
  refine (reset_calls n u f a kd s d wr st.has v st.told st.seen db W h1).mono ?_
  rintro e W' ⟨rfl, hg, hb⟩
  exact ⟨rfl, hg, _, hb, Kd.R_nil _ _ _ _ _, fun h => by cases h⟩
theorem R_keepO {e B r : Nat} {W W' : World} {v : Value} {l : List Int} {ok : Nat → Prop} (h : Kd.R (Kd.int .i64) e W B ok v l) (hg : W.grownBy W' (some r)) (hr : r < B) : Kd.R (Kd.int .i64) e W' B ok v l :=
  Kd.R_mono (Kd.R_grown (Kd.R_bound h) hg (fun k hk e => by
    have := hk.2.1
    injection e with e
    omega)) (fun _ hk => hk.1)
def DAtO (ok : Nat → Prop) (n : ByteArray) (u f a kd s d : Int) (wr : Bool) (B : Nat) (W : World) (db : Nat) (st : DS) : Prop :=
  ∃ v, W.heap[db]? = some (.cells (cellsD n u f a kd s d wr st.has v st.told st.seen) 48 (0, 0)) ∧ Kd.R (Kd.int .i64) 3 W B ok v st.base ∧ (st.has = true → mayB n u f a kd s d wr st.base = true ∧ st.base.length ≤ 1000000)
theorem DAtO.all {ok : Nat → Prop} {n : ByteArray} {u f a kd s d : Int} {wr : Bool} {B : Nat} {W : World} {db : Nat} {st : DS} (h : DAtO ok n u f a kd s d wr B W db st) : DAt n u f a kd s d wr B W db st := by
  obtain ⟨v, h1, h2, h3⟩ := h
  exact ⟨v, h1, Kd.R_mono h2 (fun _ _ => trivial), h3⟩
theorem DAt.old {n : ByteArray} {u f a kd s d : Int} {wr : Bool} {B : Nat} {W : World} {db : Nat} {st : DS} (h : DAt n u f a kd s d wr B W db st) : DAtO (fun k => k < W.heap.size) n u f a kd s d wr B W db st := by
  obtain ⟨v, h1, h2, h3⟩ := h
  exact ⟨v, h1, Kd.R_mono (Kd.R_bound h2) (fun k hk => hk.2.2.1), h3⟩
theorem DAtO.mono {ok ok' : Nat → Prop} {n : ByteArray} {u f a kd s d : Int} {wr : Bool} {B : Nat} {W : World} {db : Nat} {st : DS} (h : DAtO ok n u f a kd s d wr B W db st) (hk : ∀ k, ok k → ok' k) : DAtO ok' n u f a kd s d wr B W db st := by
  obtain ⟨v, h1, h2, h3⟩ := h
  exact ⟨v, h1, Kd.R_mono h2 hk, h3⟩
theorem DAtO.below {ok : Nat → Prop} {n : ByteArray} {u f a kd s d : Int} {wr : Bool} {B : Nat} {W W' : World} {db : Nat} {st : DS} (h : DAtO ok n u f a kd s d wr B W db st) (hb : Below W.heap.size W W') : DAtO ok n u f a kd s d wr B W' db st := by
  obtain ⟨v, h1, h2, h3⟩ := h
  exact ⟨v, blk_below h1 hb, Kd.R_below h2 hb, h3⟩
theorem DAtO.other {ok : Nat → Prop} {n : ByteArray} {u f a kd s d : Int} {wr : Bool} {B : Nat} {W W' : World} {db r : Nat} {st : DS} (h : DAtO ok n u f a kd s d wr B W db st) (hg : W.grownBy W' (some r)) (hr : r < B) (hne : db ≠ r) : DAtO ok n u f a kd s d wr B W' db st := by
  obtain ⟨v, h1, h2, h3⟩ := h
  exact ⟨v, (hg.block db (blk_lt h1) (fun e => by injection e with e; exact hne e)).trans h1, R_keepO h2 hg hr, h3⟩
theorem DAtO.set {ok : Nat → Prop} {n : ByteArray} {u f a kd s d : Int} {wr : Bool} {B : Nat} {W : World} {db g : Nat} {st : DS} (h : DAtO ok n u f a kd s d wr B W db st) (hg : ∀ k, ok k → k ≠ g) (hne : db ≠ g) (j : Nat) (x : Value) : DAtO ok n u f a kd s d wr B (W.setCell ⟨g, j, none⟩ x) db st := by
  obtain ⟨v, h1, h2, h3⟩ := h
  exact ⟨v, blk_far h1 (p := ⟨g, j, none⟩) hne x, Kd.R_far (p := ⟨g, j, none⟩) h2 hg x, h3⟩
theorem feedO_calls {ok : Nat → Prop} {n : ByteArray} {u f a kd s d : Int} {wr : Bool} {B : Nat} {w0 W : World} {db : Nat} {st : DS} (hok : ∀ k, W.heap.size ≤ k → ok k) (hL : Laid w0) (hB0 : Below w0.heap.size w0 W) (hd0 : w0.heap.size ≤ db) (hdB : db < B) (hBW : B ≤ W.heap.size) (hD : DAtO ok n u f a kd s d wr B W db st)
    {A : Option Addr} {c : Nat} {l : List Int} (hr : ∀ W1, W.grownBy W1 (some db) → Kd.C (Kd.int .i64) W1 A l.length l) (hc : l.length ≤ c) (hlen : l.length ≤ 1000000) (hm : mayB n u f a kd s d wr l = true) (ht : st.told ≤ 299) (hs : st.seen ≤ 299) :
    Calls Tryz.prog 9 #[.pointer (some ⟨db, 0, none⟩), .slice A l.length c] W fun e W' => e = .returned (.tuple #[.string (if feedB n u f a kd s d wr st l then textR n u f a kd s d wr l else ⟨#[]⟩), .bool (feedB n u f a kd s d wr st l), .int .i64 0]) ∧ W.grownBy W' (some db) ∧ DAtO ok n u f a kd s d wr B W' db (feedS n u f a kd s d wr st l) := by
  have hL' : ∀ W1, W.grownBy W1 (some db) → Laid W1 := fun W1 h => hL.below (below_grown hB0 h hd0)
  obtain ⟨v, h1, h2, h3⟩ := hD
  have hnew : ∀ {W' : World} {v' : Value}, W'.heap[db]? = some (.cells (cellsD n u f a kd s d wr true v' (st.told + 1) (st.seen + 1)) 48 (0, 0)) → Kd.R (Kd.int .i64) 3 W' W.heap.size (fun k => k ≠ db) v' l → DAtO ok n u f a kd s d wr B W' db ⟨true, l, st.told + 1, st.seen + 1⟩ := fun hb hR => ⟨_, hb, Kd.R_lower (Kd.R_mono (Kd.R_bound hR) (fun k hk => hok k hk.2.1)) hBW, fun _ => ⟨hm, hlen⟩⟩
  obtain ⟨has, base, told, seen⟩ := st
  simp only at *
  cases has
  · have e1 : feedB n u f a kd s d wr ⟨false, base, told, seen⟩ l = true := rfl
    unfold feedS
    rw [e1]
    refine (feed_first n u f a kd s d wr v told seen db A c l W (hL' W (grown_below (Below.refl _ _))) h1 hr hc hlen hm ht hs).mono ?_
    rintro e W' ⟨rfl, hg, v', hb, hR⟩
    exact ⟨rfl, hg, hnew hb hR⟩
  · obtain ⟨hmb, hbl⟩ := h3 rfl
    obtain ⟨Ab, cb, rfl, hcb, -⟩ := Kd.R_reads h2
    have hbr : ∀ W1, W.grownBy W1 (some db) → Kd.C (Kd.int .i64) W1 Ab base.length base := fun W1 hg => (Kd.R_reads' (R_keepO h2 hg hdB)).2.2
    cases hap : apartR n u f a kd s d wr base l
    · have e1 : feedB n u f a kd s d wr ⟨true, base, told, seen⟩ l = false := by unfold feedB; simp [hap]
      unfold feedS
      rw [e1]
      refine (feed_same n u f a kd s d wr Ab cb base told seen db A c l W hL' h1 hr hc hlen hbr hcb hbl hm hmb hap ht hs).mono ?_
      rintro e W' ⟨rfl, hg, hb⟩
      exact ⟨rfl, hg, _, hb, R_keepO h2 hg hdB, h3⟩
    · have e1 : feedB n u f a kd s d wr ⟨true, base, told, seen⟩ l = true := by unfold feedB; simp [hap]
      unfold feedS
      rw [e1]
      refine (feed_apart n u f a kd s d wr Ab cb base told seen db A c l W hL' h1 hr hc hlen hbr hcb hbl hm hmb hap ht hs).mono ?_
      rintro e W' ⟨rfl, hg, v', hb, hR⟩
      exact ⟨rfl, hg, hnew hb hR⟩
end Go.Proofs.YtenbkjeflancaaaGreatDoor.Dr
