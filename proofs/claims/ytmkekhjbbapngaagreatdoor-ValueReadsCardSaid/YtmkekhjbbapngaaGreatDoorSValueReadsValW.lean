/- ValW -/
import Derived.Test.YtmkekhjbbapngaaGreatDoorSValueReadsValT
import Derived.Test.YtmkekhjbbapngaaGreatDoorSValueReadsValP
import Derived.Test.YtmkekhjbbapngaaGreatDoorSValueReadsPWords
import Derived.Test.YtmkekhjbbapngaaGreatDoorSValueReadsPPlain
set_option maxRecDepth 1000000
set_option maxHeartbeats 8000000
set_option linter.all false
namespace Go.Proofs.YtmkekhjbbapngaaGreatDoor.Val
open Go.RowKit Go.Proofs.YtmkekhjbbapngaaGreatDoor.Q YtmkekhjbbapngaaGreatDoorW.PrintWords YtmkekhjbbapngaaGreatDoorW.PrintMore
def finL (n : ByteArray) (u f a kd s d : Int) (wr : Bool) (l : List Int) (t : ByteArray) : List Int := if mayB n u f a kd s d wr l && decide ((textR n u f a kd s d wr l).toList = t.toList) then l else []
def finE (n : ByteArray) (u f a kd s d : Int) (wr : Bool) (l : List Int) (t : ByteArray) : Int := if mayB n u f a kd s d wr l && decide ((textR n u f a kd s d wr l).toList = t.toList) then 0 else 4
theorem words_bad (n : ByteArray) (u f a kd s d : Int) (wr : Bool) (t : ByteArray) (w : World) (hL : Laid w) (ht : t.size ≤ 1000000) (hm : rowB n u f a kd s d wr = false) :
  Calls Tryz.prog 18 #[.agg #[.string n, .int .i64 u, .int .i64 f, .int .i64 a, .int .i64 kd, .int .i64 s, .int .i64 d, .bool wr], .string t] w fun e w' => ∃ v0_ : Value, e = .returned (.tuple #[v0_, .int .i64 1]) ∧ Kd.R (Kd.int .i64) 3 w' w.heap.size (fun _ => True) v0_ [] ∧ Below w.heap.size w w' := by
 have cR := fun W (hb : Below w.heap.size w W) => value_row.calls 5 n u f a kd s d wr _ W (hL.below hb) (row_eq 0 n u f a kd s d wr)
 rw [hm] at cR
 clear hm hL ht
 go_enter Tryz.func18, Tryz.ntmps18
 go_wp2_with (go_at_call 36; refine (cR _ ((Below.refl _ _).alloc (Nat.le_refl _) _)).mono ?_; rintro e w1 ⟨rfl, hb1⟩; have hB1 := ((Below.refl w.heap.size w).alloc (Nat.le_refl _) (.cells #[.string n, .int .i64 u, .int .i64 f, .int .i64 a, .int .i64 kd, .int .i64 s, .int .i64 d, .bool wr] 23 (0, 0))).trans (hb1.mono (by simp)); have hbk := blk_below (blk_new w (.cells #[.string n, .int .i64 u, .int .i64 f, .int .i64 a, .int .i64 kd, .int .i64 s, .int .i64 d, .bool wr] 23 (0, 0))) hb1; have q0 := blk_cell hbk 0; have q1 := blk_cell hbk 1; have q2 := blk_cell hbk 2; have q3 := blk_cell hbk 3; have q4 := blk_cell hbk 4; have q5 := blk_cell hbk 5; have q6 := blk_cell hbk 6; have q7 := blk_cell hbk 7)
 go_ret2
 exact ⟨_, rfl, Kd.R_nil _ _ _ _ _, hB1⟩
theorem words_form (n : ByteArray) (u f a kd s d : Int) (wr : Bool) (t : ByteArray) (w : World) (hL : Laid w) (ht : t.size ≤ 1000000) (hm : rowB n u f a kd s d wr = true) (h8 : kd ≠ 8) (p1 : ByteArray) (p2 : Bool) (hp : value_plain.f 2 t s = some (p1, p2, false)) :
  Calls Tryz.prog 18 #[.agg #[.string n, .int .i64 u, .int .i64 f, .int .i64 a, .int .i64 kd, .int .i64 s, .int .i64 d, .bool wr], .string t] w fun e w' => ∃ v0_ : Value, e = .returned (.tuple #[v0_, .int .i64 4]) ∧ Kd.R (Kd.int .i64) 3 w' w.heap.size (fun _ => True) v0_ [] ∧ Below w.heap.size w w' := by
 have cR := fun W (hb : Below w.heap.size w W) => value_row.calls 5 n u f a kd s d wr _ W (hL.below hb) (row_eq 0 n u f a kd s d wr)
 rw [hm] at cR
 simp only [if_true] at cR
 have cP := fun W (hb : Below w.heap.size w W) => value_plain.calls 2 t s p1 p2 false W (hL.below hb) hp
 have e8 : (kd == 8) = false := beq_eq_false_iff_ne.2 h8
 clear hm hL ht h8 hp
 go_enter Tryz.func18, Tryz.ntmps18
 go_wp2_with (first | (go_at_call 36; refine (cR _ ((Below.refl _ _).alloc (Nat.le_refl _) _)).mono ?_; rintro e w1 ⟨rfl, hb1⟩; have hB1 := ((Below.refl w.heap.size w).alloc (Nat.le_refl _) (.cells #[.string n, .int .i64 u, .int .i64 f, .int .i64 a, .int .i64 kd, .int .i64 s, .int .i64 d, .bool wr] 23 (0, 0))).trans (hb1.mono (by simp)); have hbk := blk_below (blk_new w (.cells #[.string n, .int .i64 u, .int .i64 f, .int .i64 a, .int .i64 kd, .int .i64 s, .int .i64 d, .bool wr] 23 (0, 0))) hb1; have q0 := blk_cell hbk 0; have q1 := blk_cell hbk 1; have q2 := blk_cell hbk 2; have q3 := blk_cell hbk 3; have q4 := blk_cell hbk 4; have q5 := blk_cell hbk 5; have q6 := blk_cell hbk 6; have q7 := blk_cell hbk 7) | (go_at_call 38; refine (cP _ hB1).mono ?_; rintro e w2 ⟨rfl, hb2⟩; have hB2 := hB1.trans (hb2.mono hB1.size); have hbk2 := blk_below hbk hb2; have q2_0 := blk_cell hbk2 0; have q2_1 := blk_cell hbk2 1; have q2_2 := blk_cell hbk2 2; have q2_3 := blk_cell hbk2 3; have q2_4 := blk_cell hbk2 4; have q2_5 := blk_cell hbk2 5; have q2_6 := blk_cell hbk2 6; have q2_7 := blk_cell hbk2 7))
 go_ret2
 exact ⟨_, rfl, Kd.R_nil _ _ _ _ _, hB2⟩
theorem words_none (n : ByteArray) (u f a kd s d : Int) (wr : Bool) (t : ByteArray) (w : World) (hL : Laid w) (ht : t.size ≤ 1000000) (hm : rowB n u f a kd s d wr = true) (h8 : kd ≠ 8) (p1 : ByteArray) (p2 : Bool) (hp : value_plain.f 2 t s = some (p1, p2, true)) (hs : p1.size ≤ 3000000) (hd : ∀ v, Lib.parseUintB 64 p1.data.toList ≠ .ok v) :
  Calls Tryz.prog 18 #[.agg #[.string n, .int .i64 u, .int .i64 f, .int .i64 a, .int .i64 kd, .int .i64 s, .int .i64 d, .bool wr], .string t] w fun e w' => ∃ v0_ : Value, e = .returned (.tuple #[v0_, .int .i64 220]) ∧ Kd.R (Kd.int .i64) 3 w' w.heap.size (fun _ => True) v0_ [] ∧ Below w.heap.size w w' := by
 have cR := fun W (hb : Below w.heap.size w W) => value_row.calls 5 n u f a kd s d wr _ W (hL.below hb) (row_eq 0 n u f a kd s d wr)
 rw [hm] at cR
 simp only [if_true] at cR
 have cP := fun W (hb : Below w.heap.size w W) => value_plain.calls 2 t s p1 p2 true W (hL.below hb) hp
 have cD : ∀ W, Below w.heap.size w W → Calls Tryz.prog 37 #[.string p1, .int .i64 10, .int .i64 64] W fun e w' => ∃ x te pe, e = .returned (.tuple #[.int .u64 x, .iface te pe]) ∧ Below W.heap.size W w' := fun W hb => (parseDec_calls p1 (by omega) W (hL.below hb)).mono fun e w' ⟨h, hb'⟩ => by
  rcases h with ⟨v, h, -⟩ | ⟨-, x, te, pe, rfl⟩
  ·
   exact absurd h (hd v)
  ·
   exact ⟨x, te, pe, rfl, hb'⟩
 have e8 : (kd == 8) = false := beq_eq_false_iff_ne.2 h8
 clear hm hL ht h8 hp hd hs
 go_enter Tryz.func18, Tryz.ntmps18
 go_wp2_with (first | (go_at_call 36; refine (cR _ ((Below.refl _ _).alloc (Nat.le_refl _) _)).mono ?_; rintro e w1 ⟨rfl, hb1⟩; have hB1 := ((Below.refl w.heap.size w).alloc (Nat.le_refl _) (.cells #[.string n, .int .i64 u, .int .i64 f, .int .i64 a, .int .i64 kd, .int .i64 s, .int .i64 d, .bool wr] 23 (0, 0))).trans (hb1.mono (by simp)); have hbk := blk_below (blk_new w (.cells #[.string n, .int .i64 u, .int .i64 f, .int .i64 a, .int .i64 kd, .int .i64 s, .int .i64 d, .bool wr] 23 (0, 0))) hb1; have q0 := blk_cell hbk 0; have q1 := blk_cell hbk 1; have q2 := blk_cell hbk 2; have q3 := blk_cell hbk 3; have q4 := blk_cell hbk 4; have q5 := blk_cell hbk 5; have q6 := blk_cell hbk 6; have q7 := blk_cell hbk 7) | (go_at_call 38; refine (cP _ hB1).mono ?_; rintro e w2 ⟨rfl, hb2⟩; have hB2 := hB1.trans (hb2.mono hB1.size); have hbk2 := blk_below hbk hb2; have q2_0 := blk_cell hbk2 0; have q2_1 := blk_cell hbk2 1; have q2_2 := blk_cell hbk2 2; have q2_3 := blk_cell hbk2 3; have q2_4 := blk_cell hbk2 4; have q2_5 := blk_cell hbk2 5; have q2_6 := blk_cell hbk2 6; have q2_7 := blk_cell hbk2 7) | (go_at_call 37; refine (cD _ hB2).mono ?_; rintro e w3 ⟨xx, te, pe, rfl, hb3⟩; have hB3 := hB2.trans (hb3.mono hB2.size); have hbk3 := blk_below hbk2 hb3; have q3_0 := blk_cell hbk3 0; have q3_1 := blk_cell hbk3 1; have q3_2 := blk_cell hbk3 2; have q3_3 := blk_cell hbk3 3; have q3_4 := blk_cell hbk3 4; have q3_5 := blk_cell hbk3 5; have q3_6 := blk_cell hbk3 6; have q3_7 := blk_cell hbk3 7))
 go_ret2
 exact ⟨_, rfl, Kd.R_nil _ _ _ _ _, hB3⟩
theorem words_bit (n : ByteArray) (u f a s d : Int) (wr : Bool) (t : ByteArray) (w : World) (hL : Laid w) (ht : t.size ≤ 1000000) (hm : rowB n u f a 1 s d wr = true) (p1 : ByteArray) (p2 : Bool) (hp : value_plain.f 2 t s = some (p1, p2, true)) (hs : p1.size ≤ 3000000) (v : Nat) (hd : Lib.parseUintB 64 p1.data.toList = .ok v) :
  Calls Tryz.prog 18 #[.agg #[.string n, .int .i64 u, .int .i64 f, .int .i64 a, .int .i64 1, .int .i64 s, .int .i64 d, .bool wr], .string t] w fun e w' => ∃ v0_ : Value, e = .returned (.tuple #[v0_, .int .i64 (if (p2 || decide (1 < v)) = true then 220 else 0)]) ∧ Kd.R (Kd.int .i64) 3 w' w.heap.size (fun _ => True) v0_ (if (p2 || decide (1 < v)) = true then [] else [(v : Int)]) ∧ Below w.heap.size w w' := by
 have cR := fun W (hb : Below w.heap.size w W) => value_row.calls 5 n u f a 1 s d wr _ W (hL.below hb) (row_eq 0 n u f a 1 s d wr)
 rw [hm] at cR
 simp only [if_true] at cR
 have cP := fun W (hb : Below w.heap.size w W) => value_plain.calls 2 t s p1 p2 true W (hL.below hb) hp
 have cD : ∀ W, Below w.heap.size w W → Calls Tryz.prog 37 #[.string p1, .int .i64 10, .int .i64 64] W fun e w' => e = .returned (.tuple #[.int .u64 (v : Int), .nilIface]) ∧ Below W.heap.size W w' := fun W hb => (parseDec_calls p1 (by omega) W (hL.below hb)).mono fun e w' ⟨h, hb'⟩ => by
  rcases h with ⟨v', h, rfl⟩ | ⟨h, -⟩
  ·
   rw [hd] at h
   cases h
   exact ⟨rfl, hb'⟩
  ·
   exact absurd hd (h v)
 clear hm hL ht hp hd hs
 have mk := fun (W : World) (x : Int) (hb : w.heap.size ≤ W.heap.size) => Kd.R_of_own (enc := Value.int .i64) (h1 := fun _ => rfl) (e := 3) (ok := fun _ => True) (own_lit W w.heap.size 3 .i64 [x] hb (by simp)) (fun _ _ => trivial)
 cases p2
 ·
  by_cases hv : 1 < v
  ·
   rw [decide_eq_true hv]
   have hv2 : (1 < v) = True := eq_true hv
   go_enter Tryz.func18, Tryz.ntmps18
   go_wp2_with (first | (go_at_call 36; refine (cR _ ((Below.refl _ _).alloc (Nat.le_refl _) _)).mono ?_; rintro e w1 ⟨rfl, hb1⟩; have hB1 := ((Below.refl w.heap.size w).alloc (Nat.le_refl _) (.cells #[.string n, .int .i64 u, .int .i64 f, .int .i64 a, .int .i64 1, .int .i64 s, .int .i64 d, .bool wr] 23 (0, 0))).trans (hb1.mono (by simp)); have hbk := blk_below (blk_new w (.cells #[.string n, .int .i64 u, .int .i64 f, .int .i64 a, .int .i64 1, .int .i64 s, .int .i64 d, .bool wr] 23 (0, 0))) hb1; have q0 := blk_cell hbk 0; have q1 := blk_cell hbk 1; have q2 := blk_cell hbk 2; have q3 := blk_cell hbk 3; have q4 := blk_cell hbk 4; have q5 := blk_cell hbk 5; have q6 := blk_cell hbk 6; have q7 := blk_cell hbk 7) | (go_at_call 38; refine (cP _ hB1).mono ?_; rintro e w2 ⟨rfl, hb2⟩; have hB2 := hB1.trans (hb2.mono hB1.size); have hbk2 := blk_below hbk hb2; have q2_0 := blk_cell hbk2 0; have q2_1 := blk_cell hbk2 1; have q2_2 := blk_cell hbk2 2; have q2_3 := blk_cell hbk2 3; have q2_4 := blk_cell hbk2 4; have q2_5 := blk_cell hbk2 5; have q2_6 := blk_cell hbk2 6; have q2_7 := blk_cell hbk2 7) | (go_at_call 37; refine (cD _ hB2).mono ?_; rintro e w3 ⟨rfl, hb3⟩; have hB3 := hB2.trans (hb3.mono hB2.size); have hbk3 := blk_below hbk2 hb3; have q3_0 := blk_cell hbk3 0; have q3_1 := blk_cell hbk3 1; have q3_2 := blk_cell hbk3 2; have q3_3 := blk_cell hbk3 3; have q3_4 := blk_cell hbk3 4; have q3_5 := blk_cell hbk3 5; have q3_6 := blk_cell hbk3 6; have q3_7 := blk_cell hbk3 7))
   go_ret2
   exact ⟨_, rfl, Kd.R_nil _ _ _ _ _, hB3⟩
  ·
   rw [decide_eq_false hv]
   have hv2 : (1 < v) = False := eq_false hv
   have hv3 : IntKind.i64.wrap (v : Int) = (v : Int) := IntWalk.i64_in _ (by omega)
   go_enter Tryz.func18, Tryz.ntmps18
   go_wp2_with (first | (go_at_call 36; refine (cR _ ((Below.refl _ _).alloc (Nat.le_refl _) _)).mono ?_; rintro e w1 ⟨rfl, hb1⟩; have hB1 := ((Below.refl w.heap.size w).alloc (Nat.le_refl _) (.cells #[.string n, .int .i64 u, .int .i64 f, .int .i64 a, .int .i64 1, .int .i64 s, .int .i64 d, .bool wr] 23 (0, 0))).trans (hb1.mono (by simp)); have hbk := blk_below (blk_new w (.cells #[.string n, .int .i64 u, .int .i64 f, .int .i64 a, .int .i64 1, .int .i64 s, .int .i64 d, .bool wr] 23 (0, 0))) hb1; have q0 := blk_cell hbk 0; have q1 := blk_cell hbk 1; have q2 := blk_cell hbk 2; have q3 := blk_cell hbk 3; have q4 := blk_cell hbk 4; have q5 := blk_cell hbk 5; have q6 := blk_cell hbk 6; have q7 := blk_cell hbk 7) | (go_at_call 38; refine (cP _ hB1).mono ?_; rintro e w2 ⟨rfl, hb2⟩; have hB2 := hB1.trans (hb2.mono hB1.size); have hbk2 := blk_below hbk hb2; have q2_0 := blk_cell hbk2 0; have q2_1 := blk_cell hbk2 1; have q2_2 := blk_cell hbk2 2; have q2_3 := blk_cell hbk2 3; have q2_4 := blk_cell hbk2 4; have q2_5 := blk_cell hbk2 5; have q2_6 := blk_cell hbk2 6; have q2_7 := blk_cell hbk2 7) | (go_at_call 37; refine (cD _ hB2).mono ?_; rintro e w3 ⟨rfl, hb3⟩; have hB3 := hB2.trans (hb3.mono hB2.size); have hbk3 := blk_below hbk2 hb3; have q3_0 := blk_cell hbk3 0; have q3_1 := blk_cell hbk3 1; have q3_2 := blk_cell hbk3 2; have q3_3 := blk_cell hbk3 3; have q3_4 := blk_cell hbk3 4; have q3_5 := blk_cell hbk3 5; have q3_6 := blk_cell hbk3 6; have q3_7 := blk_cell hbk3 7))
   go_ret2
   exact ⟨_, rfl, mk _ v hB3.size, hB3.alloc hB3.size _⟩
 ·
  go_enter Tryz.func18, Tryz.ntmps18
  go_wp2_with (first | (go_at_call 36; refine (cR _ ((Below.refl _ _).alloc (Nat.le_refl _) _)).mono ?_; rintro e w1 ⟨rfl, hb1⟩; have hB1 := ((Below.refl w.heap.size w).alloc (Nat.le_refl _) (.cells #[.string n, .int .i64 u, .int .i64 f, .int .i64 a, .int .i64 1, .int .i64 s, .int .i64 d, .bool wr] 23 (0, 0))).trans (hb1.mono (by simp)); have hbk := blk_below (blk_new w (.cells #[.string n, .int .i64 u, .int .i64 f, .int .i64 a, .int .i64 1, .int .i64 s, .int .i64 d, .bool wr] 23 (0, 0))) hb1; have q0 := blk_cell hbk 0; have q1 := blk_cell hbk 1; have q2 := blk_cell hbk 2; have q3 := blk_cell hbk 3; have q4 := blk_cell hbk 4; have q5 := blk_cell hbk 5; have q6 := blk_cell hbk 6; have q7 := blk_cell hbk 7) | (go_at_call 38; refine (cP _ hB1).mono ?_; rintro e w2 ⟨rfl, hb2⟩; have hB2 := hB1.trans (hb2.mono hB1.size); have hbk2 := blk_below hbk hb2; have q2_0 := blk_cell hbk2 0; have q2_1 := blk_cell hbk2 1; have q2_2 := blk_cell hbk2 2; have q2_3 := blk_cell hbk2 3; have q2_4 := blk_cell hbk2 4; have q2_5 := blk_cell hbk2 5; have q2_6 := blk_cell hbk2 6; have q2_7 := blk_cell hbk2 7) | (go_at_call 37; refine (cD _ hB2).mono ?_; rintro e w3 ⟨rfl, hb3⟩; have hB3 := hB2.trans (hb3.mono hB2.size); have hbk3 := blk_below hbk2 hb3; have q3_0 := blk_cell hbk3 0; have q3_1 := blk_cell hbk3 1; have q3_2 := blk_cell hbk3 2; have q3_3 := blk_cell hbk3 3; have q3_4 := blk_cell hbk3 4; have q3_5 := blk_cell hbk3 5; have q3_6 := blk_cell hbk3 6; have q3_7 := blk_cell hbk3 7))
  go_ret2
  exact ⟨_, rfl, Kd.R_nil _ _ _ _ _, hB3⟩
theorem words_range (n : ByteArray) (u f a kd s d : Int) (wr : Bool) (t : ByteArray) (w : World) (hL : Laid w) (ht : t.size ≤ 1000000) (hm : rowB n u f a kd s d wr = true) (h8 : kd ≠ 8) (h1 : kd ≠ 1) (p1 : ByteArray) (p2 : Bool) (hp : value_plain.f 2 t s = some (p1, p2, true)) (hs : p1.size ≤ 3000000) (v : Nat) (hd : Lib.parseUintB 64 p1.data.toList = .ok v) (l : List Int) (hw : value_words.f 7 n u f a kd s d wr p2 (v : Int) = some (l, false)) :
  Calls Tryz.prog 18 #[.agg #[.string n, .int .i64 u, .int .i64 f, .int .i64 a, .int .i64 kd, .int .i64 s, .int .i64 d, .bool wr], .string t] w fun e w' => ∃ v0_ : Value, e = .returned (.tuple #[v0_, .int .i64 220]) ∧ Kd.R (Kd.int .i64) 3 w' w.heap.size (fun _ => True) v0_ [] ∧ Below w.heap.size w w' := by
 have cR := fun W (hb : Below w.heap.size w W) => value_row.calls 5 n u f a kd s d wr _ W (hL.below hb) (row_eq 0 n u f a kd s d wr)
 rw [hm] at cR
 simp only [if_true] at cR
 have cP := fun W (hb : Below w.heap.size w W) => value_plain.calls 2 t s p1 p2 true W (hL.below hb) hp
 have cD : ∀ W, Below w.heap.size w W → Calls Tryz.prog 37 #[.string p1, .int .i64 10, .int .i64 64] W fun e w' => e = .returned (.tuple #[.int .u64 (v : Int), .nilIface]) ∧ Below W.heap.size W w' := fun W hb => (parseDec_calls p1 (by omega) W (hL.below hb)).mono fun e w' ⟨h, hb'⟩ => by
  rcases h with ⟨v', h, rfl⟩ | ⟨h, -⟩
  ·
   rw [hd] at h
   cases h
   exact ⟨rfl, hb'⟩
  ·
   exact absurd hd (h v)
 have cW := fun W (hb : Below w.heap.size w W) => value_words.calls 7 n u f a kd s d wr p2 (v : Int) l false W hw
 have e8 : (kd == 8) = false := beq_eq_false_iff_ne.2 h8
 have e1 : (kd == 1) = false := beq_eq_false_iff_ne.2 h1
 clear hm hL ht h8 h1 hp hd hs hw
 go_enter Tryz.func18, Tryz.ntmps18
 go_wp2_with (first | (go_at_call 36; refine (cR _ ((Below.refl _ _).alloc (Nat.le_refl _) _)).mono ?_; rintro e w1 ⟨rfl, hb1⟩; have hB1 := ((Below.refl w.heap.size w).alloc (Nat.le_refl _) (.cells #[.string n, .int .i64 u, .int .i64 f, .int .i64 a, .int .i64 kd, .int .i64 s, .int .i64 d, .bool wr] 23 (0, 0))).trans (hb1.mono (by simp)); have hbk := blk_below (blk_new w (.cells #[.string n, .int .i64 u, .int .i64 f, .int .i64 a, .int .i64 kd, .int .i64 s, .int .i64 d, .bool wr] 23 (0, 0))) hb1; have q0 := blk_cell hbk 0; have q1 := blk_cell hbk 1; have q2 := blk_cell hbk 2; have q3 := blk_cell hbk 3; have q4 := blk_cell hbk 4; have q5 := blk_cell hbk 5; have q6 := blk_cell hbk 6; have q7 := blk_cell hbk 7) | (go_at_call 38; refine (cP _ hB1).mono ?_; rintro e w2 ⟨rfl, hb2⟩; have hB2 := hB1.trans (hb2.mono hB1.size); have hbk2 := blk_below hbk hb2; have q2_0 := blk_cell hbk2 0; have q2_1 := blk_cell hbk2 1; have q2_2 := blk_cell hbk2 2; have q2_3 := blk_cell hbk2 3; have q2_4 := blk_cell hbk2 4; have q2_5 := blk_cell hbk2 5; have q2_6 := blk_cell hbk2 6; have q2_7 := blk_cell hbk2 7) | (go_at_call 37; refine (cD _ hB2).mono ?_; rintro e w3 ⟨rfl, hb3⟩; have hB3 := hB2.trans (hb3.mono hB2.size); have hbk3 := blk_below hbk2 hb3; have q3_0 := blk_cell hbk3 0; have q3_1 := blk_cell hbk3 1; have q3_2 := blk_cell hbk3 2; have q3_3 := blk_cell hbk3 3; have q3_4 := blk_cell hbk3 4; have q3_5 := blk_cell hbk3 5; have q3_6 := blk_cell hbk3 6; have q3_7 := blk_cell hbk3 7) | (go_at_call 39; refine (cW _ hB3).mono ?_; rintro e w4 ⟨vv, rfl, hR4, hb4⟩; have hB4 := hB3.trans (hb4.mono hB3.size); have hbk4 := blk_below hbk3 hb4; have q4_0 := blk_cell hbk4 0; have q4_1 := blk_cell hbk4 1; have q4_2 := blk_cell hbk4 2; have q4_3 := blk_cell hbk4 3; have q4_4 := blk_cell hbk4 4; have q4_5 := blk_cell hbk4 5; have q4_6 := blk_cell hbk4 6; have q4_7 := blk_cell hbk4 7))
 go_ret2
 exact ⟨_, rfl, Kd.R_nil _ _ _ _ _, hB4⟩
theorem words_num (n : ByteArray) (u f a kd s d : Int) (wr : Bool) (t : ByteArray) (w : World) (hL : Laid w) (ht : t.size ≤ 1000000) (hm : rowB n u f a kd s d wr = true) (h8 : kd ≠ 8) (h1 : kd ≠ 1) (p1 : ByteArray) (p2 : Bool) (hp : value_plain.f 2 t s = some (p1, p2, true)) (hs : p1.size ≤ 3000000) (v : Nat) (hd : Lib.parseUintB 64 p1.data.toList = .ok v) (l : List Int) (hlen : l.length ≤ 1000000) (hw : value_words.f 7 n u f a kd s d wr p2 (v : Int) = some (l, true)) :
  Calls Tryz.prog 18 #[.agg #[.string n, .int .i64 u, .int .i64 f, .int .i64 a, .int .i64 kd, .int .i64 s, .int .i64 d, .bool wr], .string t] w fun e w' => ∃ v0_ : Value, e = .returned (.tuple #[v0_, .int .i64 (finE n u f a kd s d wr l t)]) ∧ Kd.R (Kd.int .i64) 3 w' w.heap.size (fun _ => True) v0_ (finL n u f a kd s d wr l t) ∧ Below w.heap.size w w' := by
 have cR := fun W (hb : Below w.heap.size w W) => value_row.calls 5 n u f a kd s d wr _ W (hL.below hb) (row_eq 0 n u f a kd s d wr)
 rw [hm] at cR
 simp only [if_true] at cR
 have cP := fun W (hb : Below w.heap.size w W) => value_plain.calls 2 t s p1 p2 true W (hL.below hb) hp
 have cD : ∀ W, Below w.heap.size w W → Calls Tryz.prog 37 #[.string p1, .int .i64 10, .int .i64 64] W fun e w' => e = .returned (.tuple #[.int .u64 (v : Int), .nilIface]) ∧ Below W.heap.size W w' := fun W hb => (parseDec_calls p1 (by omega) W (hL.below hb)).mono fun e w' ⟨h, hb'⟩ => by
  rcases h with ⟨v', h, rfl⟩ | ⟨h, -⟩
  ·
   rw [hd] at h
   cases h
   exact ⟨rfl, hb'⟩
  ·
   exact absurd hd (h v)
 have cW := fun W (hb : Below w.heap.size w W) => value_words.calls 7 n u f a kd s d wr p2 (v : Int) l true W hw
 have cT := fun (A : Option Addr) (c : Nat) W (hb : Below w.heap.size w W) hC hc => text_calls n u f a kd s d wr A c l W (hL.below hb) hC hc hlen
 have e8 : (kd == 8) = false := beq_eq_false_iff_ne.2 h8
 have e1 : (kd == 1) = false := beq_eq_false_iff_ne.2 h1
 unfold finL finE
 clear hm hL ht h8 h1 hp hd hs hw hlen
 generalize textR n u f a kd s d wr l = X at *
 generalize mayB n u f a kd s d wr l = mb at *
 cases mb
 ·
  simp only [Bool.false_eq_true, if_false] at cT
  go_enter Tryz.func18, Tryz.ntmps18
  go_wp2_with (first | (go_at_call 36; refine (cR _ ((Below.refl _ _).alloc (Nat.le_refl _) _)).mono ?_; rintro e w1 ⟨rfl, hb1⟩; have hB1 := ((Below.refl w.heap.size w).alloc (Nat.le_refl _) (.cells #[.string n, .int .i64 u, .int .i64 f, .int .i64 a, .int .i64 kd, .int .i64 s, .int .i64 d, .bool wr] 23 (0, 0))).trans (hb1.mono (by simp)); have hbk := blk_below (blk_new w (.cells #[.string n, .int .i64 u, .int .i64 f, .int .i64 a, .int .i64 kd, .int .i64 s, .int .i64 d, .bool wr] 23 (0, 0))) hb1; have q0 := blk_cell hbk 0; have q1 := blk_cell hbk 1; have q2 := blk_cell hbk 2; have q3 := blk_cell hbk 3; have q4 := blk_cell hbk 4; have q5 := blk_cell hbk 5; have q6 := blk_cell hbk 6; have q7 := blk_cell hbk 7) | (go_at_call 38; refine (cP _ hB1).mono ?_; rintro e w2 ⟨rfl, hb2⟩; have hB2 := hB1.trans (hb2.mono hB1.size); have hbk2 := blk_below hbk hb2; have q2_0 := blk_cell hbk2 0; have q2_1 := blk_cell hbk2 1; have q2_2 := blk_cell hbk2 2; have q2_3 := blk_cell hbk2 3; have q2_4 := blk_cell hbk2 4; have q2_5 := blk_cell hbk2 5; have q2_6 := blk_cell hbk2 6; have q2_7 := blk_cell hbk2 7) | (go_at_call 37; refine (cD _ hB2).mono ?_; rintro e w3 ⟨rfl, hb3⟩; have hB3 := hB2.trans (hb3.mono hB2.size); have hbk3 := blk_below hbk2 hb3; have q3_0 := blk_cell hbk3 0; have q3_1 := blk_cell hbk3 1; have q3_2 := blk_cell hbk3 2; have q3_3 := blk_cell hbk3 3; have q3_4 := blk_cell hbk3 4; have q3_5 := blk_cell hbk3 5; have q3_6 := blk_cell hbk3 6; have q3_7 := blk_cell hbk3 7) | (go_at_call 39; refine (cW _ hB3).mono ?_; rintro e w4 ⟨vv, rfl, hR4, hb4⟩; obtain ⟨Aw, cw, rfl, hcw, hCw⟩ := Kd.R_reads hR4; have hB4 := hB3.trans (hb4.mono hB3.size); have hbk4 := blk_below hbk3 hb4; have q4_0 := blk_cell hbk4 0; have q4_1 := blk_cell hbk4 1; have q4_2 := blk_cell hbk4 2; have q4_3 := blk_cell hbk4 3; have q4_4 := blk_cell hbk4 4; have q4_5 := blk_cell hbk4 5; have q4_6 := blk_cell hbk4 6; have q4_7 := blk_cell hbk4 7) | (go_at_call 12; refine (cT _ _ _ hB4 hCw hcw).mono ?_; rintro e w5 ⟨rfl, hb5⟩; have hB5 := hB4.trans (hb5.mono hB4.size)))
  go_ret2
  exact ⟨_, rfl, Kd.R_nil _ _ _ _ _, hB5⟩
 ·
  simp only [if_true] at cT
  by_cases hX : X.toList = t.toList
  ·
   rw [decide_eq_true hX]
   go_enter Tryz.func18, Tryz.ntmps18
   go_wp2_with (first | (go_at_call 36; refine (cR _ ((Below.refl _ _).alloc (Nat.le_refl _) _)).mono ?_; rintro e w1 ⟨rfl, hb1⟩; have hB1 := ((Below.refl w.heap.size w).alloc (Nat.le_refl _) (.cells #[.string n, .int .i64 u, .int .i64 f, .int .i64 a, .int .i64 kd, .int .i64 s, .int .i64 d, .bool wr] 23 (0, 0))).trans (hb1.mono (by simp)); have hbk := blk_below (blk_new w (.cells #[.string n, .int .i64 u, .int .i64 f, .int .i64 a, .int .i64 kd, .int .i64 s, .int .i64 d, .bool wr] 23 (0, 0))) hb1; have q0 := blk_cell hbk 0; have q1 := blk_cell hbk 1; have q2 := blk_cell hbk 2; have q3 := blk_cell hbk 3; have q4 := blk_cell hbk 4; have q5 := blk_cell hbk 5; have q6 := blk_cell hbk 6; have q7 := blk_cell hbk 7) | (go_at_call 38; refine (cP _ hB1).mono ?_; rintro e w2 ⟨rfl, hb2⟩; have hB2 := hB1.trans (hb2.mono hB1.size); have hbk2 := blk_below hbk hb2; have q2_0 := blk_cell hbk2 0; have q2_1 := blk_cell hbk2 1; have q2_2 := blk_cell hbk2 2; have q2_3 := blk_cell hbk2 3; have q2_4 := blk_cell hbk2 4; have q2_5 := blk_cell hbk2 5; have q2_6 := blk_cell hbk2 6; have q2_7 := blk_cell hbk2 7) | (go_at_call 37; refine (cD _ hB2).mono ?_; rintro e w3 ⟨rfl, hb3⟩; have hB3 := hB2.trans (hb3.mono hB2.size); have hbk3 := blk_below hbk2 hb3; have q3_0 := blk_cell hbk3 0; have q3_1 := blk_cell hbk3 1; have q3_2 := blk_cell hbk3 2; have q3_3 := blk_cell hbk3 3; have q3_4 := blk_cell hbk3 4; have q3_5 := blk_cell hbk3 5; have q3_6 := blk_cell hbk3 6; have q3_7 := blk_cell hbk3 7) | (go_at_call 39; refine (cW _ hB3).mono ?_; rintro e w4 ⟨vv, rfl, hR4, hb4⟩; obtain ⟨Aw, cw, rfl, hcw, hCw⟩ := Kd.R_reads hR4; have hB4 := hB3.trans (hb4.mono hB3.size); have hbk4 := blk_below hbk3 hb4; have q4_0 := blk_cell hbk4 0; have q4_1 := blk_cell hbk4 1; have q4_2 := blk_cell hbk4 2; have q4_3 := blk_cell hbk4 3; have q4_4 := blk_cell hbk4 4; have q4_5 := blk_cell hbk4 5; have q4_6 := blk_cell hbk4 6; have q4_7 := blk_cell hbk4 7) | (go_at_call 12; refine (cT _ _ _ hB4 hCw hcw).mono ?_; rintro e w5 ⟨rfl, hb5⟩; have hB5 := hB4.trans (hb5.mono hB4.size)))
   go_ret2
   exact ⟨_, rfl, Kd.R_lower (Kd.R_below hR4 hb5) hB3.size, hB5⟩
  ·
   rw [decide_eq_false hX]
   have hX2 : (X.toList == t.toList) = false := beq_eq_false_iff_ne.2 hX
   go_enter Tryz.func18, Tryz.ntmps18
   go_wp2_with (first | (go_at_call 36; refine (cR _ ((Below.refl _ _).alloc (Nat.le_refl _) _)).mono ?_; rintro e w1 ⟨rfl, hb1⟩; have hB1 := ((Below.refl w.heap.size w).alloc (Nat.le_refl _) (.cells #[.string n, .int .i64 u, .int .i64 f, .int .i64 a, .int .i64 kd, .int .i64 s, .int .i64 d, .bool wr] 23 (0, 0))).trans (hb1.mono (by simp)); have hbk := blk_below (blk_new w (.cells #[.string n, .int .i64 u, .int .i64 f, .int .i64 a, .int .i64 kd, .int .i64 s, .int .i64 d, .bool wr] 23 (0, 0))) hb1; have q0 := blk_cell hbk 0; have q1 := blk_cell hbk 1; have q2 := blk_cell hbk 2; have q3 := blk_cell hbk 3; have q4 := blk_cell hbk 4; have q5 := blk_cell hbk 5; have q6 := blk_cell hbk 6; have q7 := blk_cell hbk 7) | (go_at_call 38; refine (cP _ hB1).mono ?_; rintro e w2 ⟨rfl, hb2⟩; have hB2 := hB1.trans (hb2.mono hB1.size); have hbk2 := blk_below hbk hb2; have q2_0 := blk_cell hbk2 0; have q2_1 := blk_cell hbk2 1; have q2_2 := blk_cell hbk2 2; have q2_3 := blk_cell hbk2 3; have q2_4 := blk_cell hbk2 4; have q2_5 := blk_cell hbk2 5; have q2_6 := blk_cell hbk2 6; have q2_7 := blk_cell hbk2 7) | (go_at_call 37; refine (cD _ hB2).mono ?_; rintro e w3 ⟨rfl, hb3⟩; have hB3 := hB2.trans (hb3.mono hB2.size); have hbk3 := blk_below hbk2 hb3; have q3_0 := blk_cell hbk3 0; have q3_1 := blk_cell hbk3 1; have q3_2 := blk_cell hbk3 2; have q3_3 := blk_cell hbk3 3; have q3_4 := blk_cell hbk3 4; have q3_5 := blk_cell hbk3 5; have q3_6 := blk_cell hbk3 6; have q3_7 := blk_cell hbk3 7) | (go_at_call 39; refine (cW _ hB3).mono ?_; rintro e w4 ⟨vv, rfl, hR4, hb4⟩; obtain ⟨Aw, cw, rfl, hcw, hCw⟩ := Kd.R_reads hR4; have hB4 := hB3.trans (hb4.mono hB3.size); have hbk4 := blk_below hbk3 hb4; have q4_0 := blk_cell hbk4 0; have q4_1 := blk_cell hbk4 1; have q4_2 := blk_cell hbk4 2; have q4_3 := blk_cell hbk4 3; have q4_4 := blk_cell hbk4 4; have q4_5 := blk_cell hbk4 5; have q4_6 := blk_cell hbk4 6; have q4_7 := blk_cell hbk4 7) | (go_at_call 12; refine (cT _ _ _ hB4 hCw hcw).mono ?_; rintro e w5 ⟨rfl, hb5⟩; have hB5 := hB4.trans (hb5.mono hB4.size)))
   go_ret2
   exact ⟨_, rfl, Kd.R_nil _ _ _ _ _, hB5⟩
theorem hexP_le (l : List UInt8) : ∀ acc u : Nat, acc ≤ 4294967295 → hexP acc l = .ok u → u ≤ 4294967295 := by
 induction l with
 | nil => intro acc u ha h; simp only [hexP, Lib.NumEnd.ok.injEq] at h; omega
 | cons c r ih =>
  intro acc u ha h
  rw [hexP] at h
  split at h
  ·
   cases h
  ·
   split at h
   ·
    cases h
   ·
    exact ih _ _ (by omega) h
theorem hexPB_le {l : List UInt8} {u : Nat} (h : hexPB l = .ok u) : u ≤ 4294967295 := by
 unfold hexPB at h
 split at h
 ·
  cases h
 ·
  exact hexP_le l 0 u (by omega) h
theorem words_hexno (n : ByteArray) (u f a s d : Int) (wr : Bool) (t : ByteArray) (w : World) (hL : Laid w) (ht : t.size ≤ 1000000) (hm : rowB n u f a 8 s d wr = true) (hd : ∀ v, hexPB t.data.toList ≠ .ok v) :
  Calls Tryz.prog 18 #[.agg #[.string n, .int .i64 u, .int .i64 f, .int .i64 a, .int .i64 8, .int .i64 s, .int .i64 d, .bool wr], .string t] w fun e w' => ∃ v0_ : Value, e = .returned (.tuple #[v0_, .int .i64 4]) ∧ Kd.R (Kd.int .i64) 3 w' w.heap.size (fun _ => True) v0_ [] ∧ Below w.heap.size w w' := by
 have cR := fun W (hb : Below w.heap.size w W) => value_row.calls 5 n u f a 8 s d wr _ W (hL.below hb) (row_eq 0 n u f a 8 s d wr)
 rw [hm] at cR
 simp only [if_true] at cR
 have cD : ∀ W, Below w.heap.size w W → Calls Tryz.prog 37 #[.string t, .int .i64 16, .int .i64 32] W fun e w' => ∃ x te pe, e = .returned (.tuple #[.int .u64 x, .iface te pe]) ∧ Below W.heap.size W w' := fun W hb => (parseHex_calls t (by omega) W (hL.below hb)).mono fun e w' ⟨h, hb'⟩ => by
  rcases h with ⟨v, h, -⟩ | ⟨-, x, te, pe, rfl⟩
  ·
   exact absurd h (hd v)
  ·
   exact ⟨x, te, pe, rfl, hb'⟩
 have hmay : mayB n u f a 8 s d wr [] = false := by
  unfold mayB
  rw [show nOf 8 = 2 from rfl]
  simp
 have cT := fun W (hb : Below w.heap.size w W) => text_calls n u f a 8 s d wr none 0 [] W (hL.below hb) (Kd.R_reads' (Kd.R_nil (Kd.int .i64) 3 W 0 (fun _ => True))).2.2 (Nat.le_refl _) (by simp)
 rw [hmay] at cT
 simp only [Bool.false_eq_true, if_false, List.length_nil] at cT
 clear hm hL ht hd hmay
 go_enter Tryz.func18, Tryz.ntmps18
 go_wp2_with (first | (go_at_call 36; refine (cR _ ((Below.refl _ _).alloc (Nat.le_refl _) _)).mono ?_; rintro e w1 ⟨rfl, hb1⟩; have hB1 := ((Below.refl w.heap.size w).alloc (Nat.le_refl _) (.cells #[.string n, .int .i64 u, .int .i64 f, .int .i64 a, .int .i64 8, .int .i64 s, .int .i64 d, .bool wr] 23 (0, 0))).trans (hb1.mono (by simp)); have hbk := blk_below (blk_new w (.cells #[.string n, .int .i64 u, .int .i64 f, .int .i64 a, .int .i64 8, .int .i64 s, .int .i64 d, .bool wr] 23 (0, 0))) hb1; have q0 := blk_cell hbk 0; have q1 := blk_cell hbk 1; have q2 := blk_cell hbk 2; have q3 := blk_cell hbk 3; have q4 := blk_cell hbk 4; have q5 := blk_cell hbk 5; have q6 := blk_cell hbk 6; have q7 := blk_cell hbk 7) | (go_at_call 37; refine (cD _ hB1).mono ?_; rintro e w2 ⟨xx, te, pe, rfl, hb2⟩; have hB2 := hB1.trans (hb2.mono hB1.size); have hbk2 := blk_below hbk hb2; have q2_0 := blk_cell hbk2 0; have q2_1 := blk_cell hbk2 1; have q2_2 := blk_cell hbk2 2; have q2_3 := blk_cell hbk2 3; have q2_4 := blk_cell hbk2 4; have q2_5 := blk_cell hbk2 5; have q2_6 := blk_cell hbk2 6; have q2_7 := blk_cell hbk2 7) | (go_at_call 12; refine (cT _ hB2).mono ?_; rintro e w5 ⟨rfl, hb5⟩; have hB5 := hB2.trans (hb5.mono hB2.size)))
 go_ret2
 exact ⟨_, rfl, Kd.R_nil _ _ _ _ _, hB5⟩
theorem words_hex (n : ByteArray) (u f a s d : Int) (wr : Bool) (t : ByteArray) (w : World) (hL : Laid w) (ht : t.size ≤ 1000000) (hm : rowB n u f a 8 s d wr = true) (v : Nat) (hd : hexPB t.data.toList = .ok v) :
  Calls Tryz.prog 18 #[.agg #[.string n, .int .i64 u, .int .i64 f, .int .i64 a, .int .i64 8, .int .i64 s, .int .i64 d, .bool wr], .string t] w fun e w' => ∃ v0_ : Value, e = .returned (.tuple #[v0_, .int .i64 (finE n u f a 8 s d wr [((v / 65536 : Nat) : Int), ((v % 65536 : Nat) : Int)] t)]) ∧ Kd.R (Kd.int .i64) 3 w' w.heap.size (fun _ => True) v0_ (finL n u f a 8 s d wr [((v / 65536 : Nat) : Int), ((v % 65536 : Nat) : Int)] t) ∧ Below w.heap.size w w' := by
 have cR := fun W (hb : Below w.heap.size w W) => value_row.calls 5 n u f a 8 s d wr _ W (hL.below hb) (row_eq 0 n u f a 8 s d wr)
 rw [hm] at cR
 simp only [if_true] at cR
 have hv := hexPB_le hd
 have cD : ∀ W, Below w.heap.size w W → Calls Tryz.prog 37 #[.string t, .int .i64 16, .int .i64 32] W fun e w' => e = .returned (.tuple #[.int .u64 (v : Int), .nilIface]) ∧ Below W.heap.size W w' := fun W hb => (parseHex_calls t (by omega) W (hL.below hb)).mono fun e w' ⟨h, hb'⟩ => by
  rcases h with ⟨v', h, rfl⟩ | ⟨h, -⟩
  ·
   rw [hd] at h
   cases h
   exact ⟨rfl, hb'⟩
  ·
   exact absurd hd (h v)
 have cT := fun (A : Option Addr) (c : Nat) W (hb : Below w.heap.size w W) hC hc => text_calls n u f a 8 s d wr A c [((v / 65536 : Nat) : Int), ((v % 65536 : Nat) : Int)] W (hL.below hb) hC hc (by simp)
 have ha : Go.bits .and .u64 (v : Int) 65535 = ((v % 65536 : Nat) : Int) := by
  have e := bits_and_u64_nat v 65535 (by omega) (by omega)
  rw [show v &&& 65535 = v % 65536 from Nat.and_two_pow_sub_one_eq_mod v 16] at e
  exact e
 unfold finL finE
 have mk := fun (W : World) (l : List Int) (hl : l.length ≤ 10) (hb : w.heap.size ≤ W.heap.size) => Kd.R_of_own (enc := Value.int .i64) (h1 := fun _ => rfl) (e := 3) (ok := fun _ => True) (own_lit W w.heap.size 3 .i64 l hb (by omega)) (fun _ _ => trivial)
 obtain ⟨hi, hhi⟩ : ∃ hi : Int, ((v / 65536 : Nat) : Int) = hi := ⟨_, rfl⟩
 obtain ⟨lo, hlo⟩ : ∃ lo : Int, ((v % 65536 : Nat) : Int) = lo := ⟨_, rfl⟩
 have hdv : (v : Int) / 65536 = hi := by omega
 rw [hhi, hlo] at cT ⊢
 rw [hlo] at ha
 have w1 : IntKind.i64.wrap hi = hi := IntWalk.i64_in _ (by omega)
 have w2 : IntKind.i64.wrap lo = lo := IntWalk.i64_in _ (by omega)
 generalize textR n u f a 8 s d wr [hi, lo] = X at *
 generalize mayB n u f a 8 s d wr [hi, lo] = mb at *
 obtain ⟨vi, hvi⟩ : ∃ vi : Int, (v : Int) = vi := ⟨_, rfl⟩
 have hv0 : 0 ≤ vi := by omega
 have hhi2 : hi ≤ 65535 ∧ 0 ≤ hi ∧ lo ≤ 65535 ∧ 0 ≤ lo := by omega
 obtain ⟨b1, b2, b3, b4⟩ := hhi2
 rw [hvi] at cD ha hdv
 clear hm hL ht hd hhi hlo hv hvi
 cases mb
 ·
  simp only [Bool.false_eq_true, if_false] at cT
  go_enter Tryz.func18, Tryz.ntmps18
  go_wp2_with (first | (go_at_call 36; refine (cR _ ((Below.refl _ _).alloc (Nat.le_refl _) _)).mono ?_; rintro e w1 ⟨rfl, hb1⟩; have hB1 := ((Below.refl w.heap.size w).alloc (Nat.le_refl _) (.cells #[.string n, .int .i64 u, .int .i64 f, .int .i64 a, .int .i64 8, .int .i64 s, .int .i64 d, .bool wr] 23 (0, 0))).trans (hb1.mono (by simp)); have hbk := blk_below (blk_new w (.cells #[.string n, .int .i64 u, .int .i64 f, .int .i64 a, .int .i64 8, .int .i64 s, .int .i64 d, .bool wr] 23 (0, 0))) hb1; have q0 := blk_cell hbk 0; have q1 := blk_cell hbk 1; have q2 := blk_cell hbk 2; have q3 := blk_cell hbk 3; have q4 := blk_cell hbk 4; have q5 := blk_cell hbk 5; have q6 := blk_cell hbk 6; have q7 := blk_cell hbk 7) | (go_at_call 37; refine (cD _ hB1).mono ?_; rintro e w2 ⟨rfl, hb2⟩; have hB2 := hB1.trans (hb2.mono hB1.size); have hbk2 := blk_below hbk hb2; have q2_0 := blk_cell hbk2 0; have q2_1 := blk_cell hbk2 1; have q2_2 := blk_cell hbk2 2; have q2_3 := blk_cell hbk2 3; have q2_4 := blk_cell hbk2 4; have q2_5 := blk_cell hbk2 5; have q2_6 := blk_cell hbk2 6; have q2_7 := blk_cell hbk2 7; have k2 := blk_alloc hbk2 (.cells #[.int .i64 hi, .int .i64 lo] 3 (0, 0)); have z0 := blk_cell k2 0; have z1 := blk_cell k2 1; have z2 := blk_cell k2 2; have z3 := blk_cell k2 3; have z4 := blk_cell k2 4; have z5 := blk_cell k2 5; have z6 := blk_cell k2 6; have z7 := blk_cell k2 7; have hB3 := hB2.alloc hB2.size (.cells #[.int .i64 hi, .int .i64 lo] 3 (0, 0)); have hR2 := mk w2 [hi, lo] (by simp) hB2.size) | (go_at_call 12; refine (cT _ _ _ hB3 (Kd.R_reads' hR2).2.2 (Nat.le_refl _)).mono ?_; rintro e w5 ⟨rfl, hb5⟩; have hB5 := hB3.trans (hb5.mono hB3.size)))
  go_ret2
  exact ⟨_, rfl, Kd.R_nil _ _ _ _ _, hB5⟩
 ·
  simp only [if_true] at cT
  by_cases hX : X.toList = t.toList
  ·
   rw [decide_eq_true hX]
   go_enter Tryz.func18, Tryz.ntmps18
   go_wp2_with (first | (go_at_call 36; refine (cR _ ((Below.refl _ _).alloc (Nat.le_refl _) _)).mono ?_; rintro e w1 ⟨rfl, hb1⟩; have hB1 := ((Below.refl w.heap.size w).alloc (Nat.le_refl _) (.cells #[.string n, .int .i64 u, .int .i64 f, .int .i64 a, .int .i64 8, .int .i64 s, .int .i64 d, .bool wr] 23 (0, 0))).trans (hb1.mono (by simp)); have hbk := blk_below (blk_new w (.cells #[.string n, .int .i64 u, .int .i64 f, .int .i64 a, .int .i64 8, .int .i64 s, .int .i64 d, .bool wr] 23 (0, 0))) hb1; have q0 := blk_cell hbk 0; have q1 := blk_cell hbk 1; have q2 := blk_cell hbk 2; have q3 := blk_cell hbk 3; have q4 := blk_cell hbk 4; have q5 := blk_cell hbk 5; have q6 := blk_cell hbk 6; have q7 := blk_cell hbk 7) | (go_at_call 37; refine (cD _ hB1).mono ?_; rintro e w2 ⟨rfl, hb2⟩; have hB2 := hB1.trans (hb2.mono hB1.size); have hbk2 := blk_below hbk hb2; have q2_0 := blk_cell hbk2 0; have q2_1 := blk_cell hbk2 1; have q2_2 := blk_cell hbk2 2; have q2_3 := blk_cell hbk2 3; have q2_4 := blk_cell hbk2 4; have q2_5 := blk_cell hbk2 5; have q2_6 := blk_cell hbk2 6; have q2_7 := blk_cell hbk2 7; have k2 := blk_alloc hbk2 (.cells #[.int .i64 hi, .int .i64 lo] 3 (0, 0)); have z0 := blk_cell k2 0; have z1 := blk_cell k2 1; have z2 := blk_cell k2 2; have z3 := blk_cell k2 3; have z4 := blk_cell k2 4; have z5 := blk_cell k2 5; have z6 := blk_cell k2 6; have z7 := blk_cell k2 7; have hB3 := hB2.alloc hB2.size (.cells #[.int .i64 hi, .int .i64 lo] 3 (0, 0)); have hR2 := mk w2 [hi, lo] (by simp) hB2.size) | (go_at_call 12; refine (cT _ _ _ hB3 (Kd.R_reads' hR2).2.2 (Nat.le_refl _)).mono ?_; rintro e w5 ⟨rfl, hb5⟩; have hB5 := hB3.trans (hb5.mono hB3.size)))
   go_ret2
   exact ⟨_, rfl, Kd.R_below hR2 hb5, hB5⟩
  ·
   rw [decide_eq_false hX]
   have hX2 : (X.toList == t.toList) = false := beq_eq_false_iff_ne.2 hX
   go_enter Tryz.func18, Tryz.ntmps18
   go_wp2_with (first | (go_at_call 36; refine (cR _ ((Below.refl _ _).alloc (Nat.le_refl _) _)).mono ?_; rintro e w1 ⟨rfl, hb1⟩; have hB1 := ((Below.refl w.heap.size w).alloc (Nat.le_refl _) (.cells #[.string n, .int .i64 u, .int .i64 f, .int .i64 a, .int .i64 8, .int .i64 s, .int .i64 d, .bool wr] 23 (0, 0))).trans (hb1.mono (by simp)); have hbk := blk_below (blk_new w (.cells #[.string n, .int .i64 u, .int .i64 f, .int .i64 a, .int .i64 8, .int .i64 s, .int .i64 d, .bool wr] 23 (0, 0))) hb1; have q0 := blk_cell hbk 0; have q1 := blk_cell hbk 1; have q2 := blk_cell hbk 2; have q3 := blk_cell hbk 3; have q4 := blk_cell hbk 4; have q5 := blk_cell hbk 5; have q6 := blk_cell hbk 6; have q7 := blk_cell hbk 7) | (go_at_call 37; refine (cD _ hB1).mono ?_; rintro e w2 ⟨rfl, hb2⟩; have hB2 := hB1.trans (hb2.mono hB1.size); have hbk2 := blk_below hbk hb2; have q2_0 := blk_cell hbk2 0; have q2_1 := blk_cell hbk2 1; have q2_2 := blk_cell hbk2 2; have q2_3 := blk_cell hbk2 3; have q2_4 := blk_cell hbk2 4; have q2_5 := blk_cell hbk2 5; have q2_6 := blk_cell hbk2 6; have q2_7 := blk_cell hbk2 7; have k2 := blk_alloc hbk2 (.cells #[.int .i64 hi, .int .i64 lo] 3 (0, 0)); have z0 := blk_cell k2 0; have z1 := blk_cell k2 1; have z2 := blk_cell k2 2; have z3 := blk_cell k2 3; have z4 := blk_cell k2 4; have z5 := blk_cell k2 5; have z6 := blk_cell k2 6; have z7 := blk_cell k2 7; have hB3 := hB2.alloc hB2.size (.cells #[.int .i64 hi, .int .i64 lo] 3 (0, 0)); have hR2 := mk w2 [hi, lo] (by simp) hB2.size) | (go_at_call 12; refine (cT _ _ _ hB3 (Kd.R_reads' hR2).2.2 (Nat.le_refl _)).mono ?_; rintro e w5 ⟨rfl, hb5⟩; have hB5 := hB3.trans (hb5.mono hB3.size)))
   go_ret2
   exact ⟨_, rfl, Kd.R_nil _ _ _ _ _, hB5⟩
def wordsRE (n : ByteArray) (u f a kd s d : Int) (wr : Bool) (t : ByteArray) : List Int × Int :=
 if rowB n u f a kd s d wr then
  if kd = 8 then
   match hexPB t.data.toList with
   | .ok v => (finL n u f a kd s d wr [((v / 65536 : Nat) : Int), ((v % 65536 : Nat) : Int)] t, finE n u f a kd s d wr [((v / 65536 : Nat) : Int), ((v % 65536 : Nat) : Int)] t)
   | _ => ([], 4)
  else if (plainP t.data.toList s).2.2 then
   match Lib.parseUintB 64 (plainP t.data.toList s).1 with
   | .ok v => if kd = 1 then (if ((plainP t.data.toList s).2.1 || decide (1 < v)) = true then ([], 220) else ([(v : Int)], 0))
    else if (wordsN kd (plainP t.data.toList s).2.1 v).2 then (finL n u f a kd s d wr (wordsN kd (plainP t.data.toList s).2.1 v).1 t, finE n u f a kd s d wr (wordsN kd (plainP t.data.toList s).2.1 v).1 t) else ([], 220)
   | _ => ([], 220)
  else ([], 4)
 else ([], 1)
def wordsR (n : ByteArray) (u f a kd s d : Int) (wr : Bool) (t : ByteArray) : List Int := (wordsRE n u f a kd s d wr t).1
def wordsE (n : ByteArray) (u f a kd s d : Int) (wr : Bool) (t : ByteArray) : Int := (wordsRE n u f a kd s d wr t).2
theorem restP_le (m : Bool) (a b : List UInt8) : (restP m a b).1.length ≤ a.length + b.length + 1 := by
 unfold restP
 split
 ·
  simp
 ·
  split
  ·
   simp
  ·
   rw [List.length_cons]
   unfold Lib.trimLeftS
   have := List.Sublist.length_le (List.dropWhile_sublist (p := fun x => List.contains [48] x) (l := a ++ b))
   rw [List.length_append] at this
   omega
theorem plainP_le (t : List UInt8) (s : Int) : (plainP t s).1.length ≤ 2 * t.length + 1 := by
 have h1 := cutP_le t
 have h2 := cut_le (cutP t).2 [46]
 unfold plainP
 split
 ·
  split
  ·
   exact Nat.le_trans (restP_le _ _ _) (by omega)
  ·
   simp
 ·
  exact Nat.le_trans (restP_le _ _ _) (by simp; omega)
theorem parseM_le (M : Nat) (l : List UInt8) : ∀ acc u : Nat, acc ≤ M → Lib.parseUintM M acc l = .ok u → u ≤ M := by
 induction l with
 | nil => intro acc u ha h; simp only [Lib.parseUintM, Lib.NumEnd.ok.injEq] at h; omega
 | cons c r ih =>
  intro acc u ha h
  rw [Lib.parseUintM] at h
  split at h
  ·
   split at h
   ·
    cases h
   ·
    split at h
    ·
     cases h
    ·
     exact ih _ _ (by omega) h
  ·
   cases h
theorem parseB_lt {l : List UInt8} {u : Nat} (h : Lib.parseUintB 64 l = .ok u) : u < 18446744073709551616 := by
 unfold Lib.parseUintB at h
 split at h
 ·
  cases h
 ·
  have := parseM_le _ _ _ _ (Nat.zero_le _) h
  have e : (2 : Nat) ^ 64 = 18446744073709551616 := by decide
  omega
theorem wordsN_len (kd : Int) (b : Bool) (x : Nat) : (wordsN kd b x).1.length ≤ 4 := by
 unfold wordsN
 split
 ·
  simp
 ·
  split
  ·
   simp
  ·
   show (ordW kd _).length ≤ 4
   rw [ordW_len]
   unfold digW
   split
   ·
    simp
   ·
    split <;> simp
theorem words_calls (n : ByteArray) (u f a kd s d : Int) (wr : Bool) (t : ByteArray) (w : World) (hL : Laid w) (ht : t.size ≤ 1000000) :
  Calls Tryz.prog 18 #[.agg #[.string n, .int .i64 u, .int .i64 f, .int .i64 a, .int .i64 kd, .int .i64 s, .int .i64 d, .bool wr], .string t] w fun e w' => ∃ v0_ : Value, e = .returned (.tuple #[v0_, .int .i64 (wordsE n u f a kd s d wr t)]) ∧ Kd.R (Kd.int .i64) 3 w' w.heap.size (fun _ => True) v0_ (wordsR n u f a kd s d wr t) ∧ Below w.heap.size w w' := by
 unfold wordsE wordsR wordsRE
 cases hm : rowB n u f a kd s d wr
 ·
  exact words_bad n u f a kd s d wr t w hL ht hm
 ·
  simp only [if_true]
  by_cases h8 : kd = 8
  ·
   subst h8
   simp only [if_true]
   cases hd : hexPB t.data.toList with
   | ok v => exact words_hex n u f a s d wr t w hL ht hm v hd
   | range => exact words_hexno n u f a s d wr t w hL ht hm (fun v h => by rw [hd] at h; cases h)
   | _ => exact words_hexno n u f a s d wr t w hL ht hm (fun v h => by rw [hd] at h; cases h)
  ·
   simp only [if_neg h8]
   have hp := plain_eq 0 t s ht
   have hle := plainP_le t.data.toList s
   rw [← Lib.size_eq] at hle
   generalize plainP t.data.toList s = p at *
   obtain ⟨p1, p2, p3⟩ := p
   simp only at hp hle ⊢
   cases p3
   ·
    exact words_form n u f a kd s d wr t w hL ht hm h8 _ _ hp
   ·
    simp only [if_true]
    have hs : (mkB p1).size ≤ 3000000 := by rw [mkB_size]; omega
    cases hd : Lib.parseUintB 64 p1 with
    | ok v =>
     have hd' : Lib.parseUintB 64 (mkB p1).data.toList = .ok v := by rw [mkB_list]; exact hd
     by_cases h1 : kd = 1
     ·
      subst h1
      simp only [if_true]
      have := words_bit n u f a s d wr t w hL ht hm _ _ hp hs v hd'
      cases hb : (p2 || decide (1 < v))
      ·
       rw [hb] at this; exact this
      ·
       rw [hb] at this; exact this
     ·
      simp only [if_neg h1]
      obtain ⟨⟨k1, k10⟩, -⟩ := row_facts hm
      have hw := words_eqN 0 kd (by omega) n u f a s d wr p2 v (parseB_lt hd)
      have hln := wordsN_len kd p2 v
      generalize wordsN kd p2 v = wl at *
      obtain ⟨l, ok⟩ := wl
      cases ok
      ·
       exact words_range n u f a kd s d wr t w hL ht hm h8 h1 _ _ hp hs v hd' l hw
      ·
       exact words_num n u f a kd s d wr t w hL ht hm h8 h1 _ _ hp hs v hd' l (by simp only at hln; omega) hw
    | range => exact words_none n u f a kd s d wr t w hL ht hm h8 _ _ hp hs (fun v h => by rw [mkB_list, hd] at h; cases h)
    | _ => exact words_none n u f a kd s d wr t w hL ht hm h8 _ _ hp hs (fun v h => by rw [mkB_list, hd] at h; cases h)
end Go.Proofs.YtmkekhjbbapngaaGreatDoor.Val
namespace Go.Proofs.YtmkekhjbbapngaaGreatDoor.Q
open Go.RowKit YtmkekhjbbapngaaGreatDoorW.PrintWords YtmkekhjbbapngaaGreatDoorW.PrintLast YtmkekhjbbapngaaGreatDoorW.PrintMore
attribute [local go_sem] max2_int min2_int max_two min_two
set_option linter.all false
def value_Words.f (a0_0 : ByteArray) (a0_1 : Int) (a0_2 : Int) (a0_3 : Int) (a0_4 : Int) (a0_5 : Int) (a0_6 : Int) (a0_7 : Bool) (a1 : ByteArray) : Option (List Int × Int) := if a1.size ≤ 1000000 then some (Val.wordsR a0_0 a0_1 a0_2 a0_3 a0_4 a0_5 a0_6 a0_7 a1, Val.wordsE a0_0 a0_1 a0_2 a0_3 a0_4 a0_5 a0_6 a0_7 a1) else none
theorem value_Words.calls (a0_0 : ByteArray) (a0_1 : Int) (a0_2 : Int) (a0_3 : Int) (a0_4 : Int) (a0_5 : Int) (a0_6 : Int) (a0_7 : Bool) (a1 : ByteArray) (r1 : List Int) (r2 : Int) (w : World) (hLd_ : Val.Laid w) (h : value_Words.f a0_0 a0_1 a0_2 a0_3 a0_4 a0_5 a0_6 a0_7 a1 = some (r1, r2)) :
    Calls Tryz.prog 18 #[.agg #[.string a0_0, .int .i64 a0_1, .int .i64 a0_2, .int .i64 a0_3, .int .i64 a0_4, .int .i64 a0_5, .int .i64 a0_6, .bool a0_7], .string a1] w fun e w' => ∃ v0_ : Value, e = .returned (.tuple #[v0_, .int .i64 r2]) ∧ Kd.R (Kd.int .i64) 3 w' w.heap.size (fun _ => True) v0_ r1 ∧ Below w.heap.size w w' := by
  unfold value_Words.f at h
  split at h
  · rename_i hc
    have h2 := Option.some.inj h
    obtain ⟨rfl, rfl⟩ := Prod.mk.inj h2
    exact Val.words_calls a0_0 a0_1 a0_2 a0_3 a0_4 a0_5 a0_6 a0_7 a1 w hLd_ hc
  · cases h
end Go.Proofs.YtmkekhjbbapngaaGreatDoor.Q
