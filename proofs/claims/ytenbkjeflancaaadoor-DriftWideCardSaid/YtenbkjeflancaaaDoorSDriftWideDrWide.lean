/- What the proof of DriftWide leans on: DrWide. -/
import Derived.Test.YtenbkjeflancaaaDoorSDriftWideDrW
set_option linter.unusedVariables false
set_option linter.unusedSimpArgs false
namespace Go.Proofs.YtenbkjeflancaaaDoor.Dr
open Go Go.RowKit Go.Proofs.YtenbkjeflancaaaDoorW.PrintWords Go.Proofs.YtenbkjeflancaaaDoor.Val Go.Proofs.YtenbkjeflancaaaDoor.Q Go.Proofs.YtenbkjeflancaaaDoor.Cnt
theorem wd_row (d : Int) (h0 : 0 ≤ d) (h1 : d ≤ 1000000000) : rowB ⟨#[97]⟩ 1 3 0 2 0 d false = true := by
  unfold rowB Tab.rangeB
  rw [name_a, decide_eq_true h0, decide_eq_true h1, show ((2 : Int) == 1 || (2 : Int) == 8) = false by decide, Bool.false_and]
  decide +kernel
theorem wd_may (d x : Int) (h0 : 0 ≤ d) (h1 : d ≤ 1000000000) (hx : 0 ≤ x) (hx' : x ≤ 65535) : mayB ⟨#[97]⟩ 1 3 0 2 0 d false [x] = true := by
  unfold mayB
  rw [wd_row d h0 h1]
  have e : ([x] : List Int).any (bad (mostOf 2)) = false := by
    have : mostOf 2 = 65535 := by decide
    rw [this]
    unfold bad
    simp
    omega
  rw [e]
  show (true && (decide (((1 : Nat) : Int) = nOf 2) && !false)) = true
  decide +kernel
theorem wd_text (d x : Int) (h0 : 0 ≤ d) (h1 : d ≤ 1000000000) (hx : 0 ≤ x) (hx' : x ≤ 65535) : textR ⟨#[97]⟩ 1 3 0 2 0 d false [x] = textR ⟨#[97]⟩ 1 3 0 2 0 0 false [x] := by
  unfold textR
  rw [wd_may d x h0 h1 hx hx', wd_may 0 x (by decide) (by decide) hx hx']
theorem wd_ap (d x y : Int) (h0 : 0 ≤ d) (h1 : d ≤ 1000000000) (hx : 0 ≤ x) (hxy : x ≤ y) (hy : y ≤ 65535) : apartR ⟨#[97]⟩ 1 3 0 2 0 d false [x] [y] = decide (max d 1 ≤ y - x) := by
  unfold apartR
  rw [wd_may d x h0 h1 hx (by omega), wd_may d y h0 h1 (by omega) hy, aw_num x hx (by omega), aw_num y (by omega) hy]
  simp only [Bool.and_self, if_true]
  by_cases hd : d = 0
  · rw [if_pos hd, Bool.eq_iff_iff]
    subst hd
    simp
    omega
  · rw [if_neg hd, Bool.eq_iff_iff]
    unfold farB
    simp
    omega
def WI (sx sy : DS) (i : Nat) (last : Int) (l : List Int) : Prop :=
  (i = 0 ∧ sx = ⟨false, [], 0, 0⟩ ∧ sy = ⟨false, [], 0, 0⟩ ∧ last = 0) ∨
  (0 < i ∧ ∃ (X Y : Int) (n m : Nat), sx = ⟨true, [X], n, i⟩ ∧ sy = ⟨true, [Y], m, i⟩ ∧ 0 ≤ X ∧ X ≤ last ∧ 0 ≤ Y ∧ Y ≤ last ∧ last ≤ 65535 ∧ 1 ≤ m ∧ m ≤ n ∧ n ≤ i ∧ (m = n → X ≤ Y) ∧ (n = 1 → X = rd l 0) ∧ 0 ≤ rd l 0 ∧ rd l 0 ≤ 65535)
theorem WI.step {a b : Int} (ha : 0 ≤ a) (hab : a ≤ b) (hb : b ≤ 1000000000) {sx sy : DS} {i : Nat} {last v : Int} {l : List Int} (h : WI sx sy i last l) (hv : rd l (i : Int) = v) (hlo : last ≤ v) (hhi : v ≤ 65535) :
    WI (feedS ⟨#[97]⟩ 1 3 0 2 0 a false sx [v]) (feedS ⟨#[97]⟩ 1 3 0 2 0 b false sy [v]) (i + 1) v l := by
  right
  refine ⟨by omega, ?_⟩
  rcases h with ⟨rfl, rfl, rfl, rfl⟩ | ⟨hi, X, Y, n, m, rfl, rfl, hX, hXl, hY, hYl, hl, hm, hmn, hn, hxy, h1, h00⟩
  · exact ⟨v, v, 1, 1, rfl, rfl, hlo, Int.le_refl _, hlo, Int.le_refl _, hhi, Nat.le_refl _, Nat.le_refl _, by omega, fun _ => Int.le_refl _, fun _ => hv.symm, hv ▸ hlo, hv ▸ hhi⟩
  · have ea : feedB ⟨#[97]⟩ 1 3 0 2 0 a false ⟨true, [X], n, i⟩ [v] = decide (max a 1 ≤ v - X) := wd_ap a X v ha (by omega) hX (by omega) hhi
    have eb : feedB ⟨#[97]⟩ 1 3 0 2 0 b false ⟨true, [Y], m, i⟩ [v] = decide (max b 1 ≤ v - Y) := wd_ap b Y v (by omega) hb hY (by omega) hhi
    unfold feedS
    rw [ea, eb]
    by_cases ca : max a 1 ≤ v - X <;> by_cases cb : max b 1 ≤ v - Y
    · rw [if_pos (decide_eq_true ca), if_pos (decide_eq_true cb)]
      exact ⟨v, v, n + 1, m + 1, rfl, rfl, by omega, by omega, by omega, by omega, hhi, by omega, by omega, by omega, fun _ => Int.le_refl _, fun h => by omega, h00⟩
    · rw [if_pos (decide_eq_true ca), if_neg (by simpa using cb)]
      exact ⟨v, Y, n + 1, m, rfl, rfl, by omega, by omega, by omega, by omega, hhi, by omega, by omega, by omega, fun h => by omega, fun h => by omega, h00⟩
    · rw [if_neg (by simpa using ca), if_pos (decide_eq_true cb)]
      have : m ≠ n := fun e => by have := hxy e; omega
      exact ⟨X, v, n, m + 1, rfl, rfl, by omega, by omega, by omega, by omega, hhi, by omega, by omega, by omega, fun h => by omega, h1, h00⟩
    · rw [if_neg (by simpa using ca), if_neg (by simpa using cb)]
      exact ⟨X, Y, n, m, rfl, rfl, by omega, by omega, by omega, by omega, hhi, by omega, by omega, by omega, hxy, h1, h00⟩
theorem WI.last {sx sy : DS} {i : Nat} {last : Int} {l : List Int} (h : WI sx sy i last l) : 0 ≤ last ∧ last ≤ 65535 ∧ sx.told ≤ i ∧ sx.seen = i ∧ sy.told ≤ i ∧ sy.seen = i := by
  rcases h with ⟨rfl, rfl, rfl, rfl⟩ | ⟨hi, X, Y, n, m, rfl, rfl, hX, hXl, hY, hYl, hl, hm, hmn, hn, hxy, h1, h00⟩
  · exact ⟨Int.le_refl _, by decide, Nat.le_refl _, rfl, Nat.le_refl _, rfl⟩
  · exact ⟨by omega, hl, hn, rfl, Nat.le_trans hmn hn, rfl⟩
theorem feedV {d : Int} (hd0 : 0 ≤ d) (hd1 : d ≤ 1000000000) {w W : World} {db B : Nat} {st : DS} {x : Int} (h0 : 0 ≤ x) (h1 : x ≤ 65535) (hL : Laid w) (hB0 : Below w.heap.size w W) (hdb : w.heap.size ≤ db) (hdB : db < B) (hBW : B ≤ W.heap.size) (hD : DAt ⟨#[97]⟩ 1 3 0 2 0 d false B W db st) (ht : st.told ≤ 299) (hs : st.seen ≤ 299) :
    Calls Tryd.prog 10 #[.pointer (some ⟨db, 0, none⟩), .slice (some ⟨W.heap.size, 0, none⟩) 1 1] (W.alloc (.cells #[.int .i64 x] 3 (0, 0))) fun e W' => (∃ s b, e = .returned (.tuple #[.string s, .bool b, .int .i64 0])) ∧ (Below w.heap.size w W' ∧ W.heap.size ≤ W'.heap.size) ∧ W.grownBy W' (some db) ∧ DAt ⟨#[97]⟩ 1 3 0 2 0 d false B W' db (feedS ⟨#[97]⟩ 1 3 0 2 0 d false st [x]) := by
  have hz : (W.alloc (.cells #[.int .i64 x] 3 (0, 0))).heap.size = W.heap.size + 1 := by simp
  have hBw := (Below.refl W.heap.size W).alloc (Nat.le_refl _) (.cells #[.int .i64 x] 3 (0, 0))
  have hBa := hB0.alloc hB0.size (.cells #[.int .i64 x] 3 (0, 0))
  have hD' := hD.below hBw
  refine (feed_calls hL hBa hdb hdB (by omega) hD' (lit1_C (blk_new W _) (by omega)) (by simp) (by simp) (wd_may d x hd0 hd1 h0 h1) ht hs).mono ?_
  rintro e W' ⟨rfl, hg, hD2⟩
  have := hg.size
  exact ⟨⟨_, _, rfl⟩, ⟨below_grown hBa hg hdb, by omega⟩, grown_trans (grown_below hBw) hg, hD2⟩
set_option maxHeartbeats 8000000 in
set_option maxRecDepth 1000000 in
theorem driftWide_calls (a b : Int) (A : Option Addr) (c : Nat) (l : List Int) (w : World) (hL : Laid w) (hr : Kd.C (Kd.int .i64) w A l.length l) (hc : l.length ≤ c) (hlen : l.length ≤ 9223372036854775807) :
    Calls Tryd.prog 5 #[.int .i64 a, .int .i64 b, .slice A l.length c] w fun e w' => e = .returned (.bool true) ∧ Below w.heap.size w w' := by
  by_cases hg : 0 ≤ a ∧ a ≤ b ∧ b ≤ 1000000000 ∧ l.length ≤ 200
  · obtain ⟨ha, hab, hb, hl200⟩ := hg
    have g1 : decide (a < 0) = false := decide_eq_false (by omega)
    have g2 : decide (b < a) = false := decide_eq_false (by omega)
    have g3 : decide (b > 1000000000) = false := decide_eq_false (by omega)
    have g4 : decide ((l.length : Int) > 200) = false := decide_eq_false (by omega)
    have g3' : decide (1000000000 < b) = false := decide_eq_false (by omega)
    have g4' : decide ((200 : Int) < (l.length : Int)) = false := decide_eq_false (by omega)
    have cN1 := new_yes ⟨#[97]⟩ 1 3 0 2 0 a false w hL (wd_row a ha (by omega))
    have cN2 := fun W (h : Below w.heap.size w W) => new_yes ⟨#[97]⟩ 1 3 0 2 0 b false W (hL.below h) (wd_row b (by omega) hb)
    go_enter Tryd.func5, Tryd.ntmps5
    go_wp2_with (first
      | (go_at_call 8; refine (cN2 w1 hb1).mono ?_; rintro e w2 ⟨db2, rfl, hd2, hb2, hk2⟩)
      | (go_at_call 8; refine cN1.mono ?_; rintro e w1 ⟨db1, rfl, hd1, hb1, hk1⟩))
    have hB2 := hb1.trans (hb2.mono hb1.size)
    have hlt1 := Nat.lt_of_lt_of_le (blk_lt hk1) hb2.size
    have hlt2 := blk_lt hk2
    have hne : db1 ≠ db2 := by have := blk_lt hk1; omega
    have hdw2 : w.heap.size ≤ db2 := Nat.le_trans hb1.size hd2
    obtain ⟨B, hB⟩ : ∃ B, B = w2.heap.size := ⟨_, rfl⟩
    rw [← hB] at hlt1 hlt2
    have hDx : DAt ⟨#[97]⟩ 1 3 0 2 0 a false B w2 db1 ⟨false, [], 0, 0⟩ := ⟨_, blk_below hk1 hb2, Kd.R_nil _ _ _ _ _, fun h => by cases h⟩
    have hDy : DAt ⟨#[97]⟩ 1 3 0 2 0 b false B w2 db2 ⟨false, [], 0, 0⟩ := ⟨_, hk2, Kd.R_nil _ _ _ _ _, fun h => by cases h⟩
    have HR := Lib.hid hr
    have hb1000 : a ≤ 1000000000 := by omega
    have hb0 : 0 ≤ b := by omega
    clear hr cN1 cN2 hk1 hk2 g1 g2 g3 g4 g3' g4'
    go_loopg [11, 12] l.length (fun gk v11 v12 wx => ∃ (i : Nat) (sx sy : DS) (last : Int), v11 = .int .i64 last ∧ v12 = .int .i64 i ∧ i + gk = l.length ∧ Below w.heap.size w wx ∧ B ≤ wx.heap.size ∧ DAt ⟨#[97]⟩ 1 3 0 2 0 a false B wx db1 sx ∧ DAt ⟨#[97]⟩ 1 3 0 2 0 b false B wx db2 sy ∧ WI sx sy i last l)
    case atStart => exact ⟨0, _, _, 0, rfl, rfl, by omega, hB2, by omega, hDx, hDy, .inl ⟨rfl, rfl, rfl, rfl⟩⟩
    case round =>
      obtain ⟨i, sx, sy, last, rfl, rfl, hig, hB1, hBx, hDx, hDy, hI⟩ := hrel
      cases gk with
      | zero =>
        have hi : i = l.length := by omega
        subst hi
        have hlt1 : decide ((l.length : Int) < (l.length : Int)) = false := decide_eq_false (by omega)
        rcases hI with ⟨h0, rfl, rfl, rfl⟩ | ⟨hi, X, Y, n, m, rfl, rfl, hX, hXl, hY, hYl, hl, hm, hmn, hn, hxy, h1, h00⟩
        · have cC1 := fun W (h : DAt ⟨#[97]⟩ 1 3 0 2 0 a false B W db1 ⟨false, [], 0, 0⟩) => count_calls h (by decide) (by decide)
          have cC2 := fun W (h : DAt ⟨#[97]⟩ 1 3 0 2 0 b false B W db2 ⟨false, [], 0, 0⟩) => count_calls h (by decide) (by decide)
          have cL := fun W (hB : Below w.heap.size w W) (h : DAt ⟨#[97]⟩ 1 3 0 2 0 a false B W db1 ⟨false, [], 0, 0⟩) => last_calls hL hB h
          have cA := fun W (h : Below w.heap.size w W) => awake_calls W (hL.below h)
          have e0 : ((l.length : Int) == 0) = true := by rw [h0]; rfl
          clear h0 hig
          go_wp2_with (first
            | (go_at_call 14; refine (cC2 _ hDy3).mono ?_; rintro e w4 ⟨rfl, hb4⟩; have hB4 := hB3.trans (hb4.mono hB3.size); have hDx4 := hDx3.below hb4)
            | (go_at_call 14; refine (cC1 _ hDx).mono ?_; rintro e w3 ⟨rfl, hb3⟩; have hB3 := hB1.trans (hb3.mono hB1.size); have hDx3 := hDx.below hb3; have hDy3 := hDy.below hb3)
            | (go_at_call 13; refine (cL _ hB4 hDx4).mono ?_; rintro e w5 ⟨rfl, hb5⟩; have hB5 := hB4.trans (hb5.mono hB4.size))
            | (go_at_call 9; refine (cA _ hB5).mono ?_; rintro e w6 ⟨rfl, hb6⟩; have hB6 := hB5.trans (hb6.mono hB5.size)))
          go_ret
          exact ⟨rfl, hB6⟩
        · have cC1 := fun W (h : DAt ⟨#[97]⟩ 1 3 0 2 0 a false B W db1 ⟨true, [X], n, l.length⟩) => count_calls h (show n ≤ 300 by omega) (show l.length ≤ 300 by omega)
          have cC2 := fun W (h : DAt ⟨#[97]⟩ 1 3 0 2 0 b false B W db2 ⟨true, [Y], m, l.length⟩) => count_calls h (show m ≤ 300 by omega) (show l.length ≤ 300 by omega)
          have cL := fun W (hB : Below w.heap.size w W) (h : DAt ⟨#[97]⟩ 1 3 0 2 0 a false B W db1 ⟨true, [X], n, l.length⟩) => last_calls hL hB h
          have cA := fun W (h : Below w.heap.size w W) => awake_calls W (hL.below h)
          obtain ⟨ad, eA, h0⟩ := Kd.at_int HR.out 0 (by omega) (by omega)
          subst eA
          have h0 : w.cell? ad = some (.int .i64 (rd l 0)) := by have e : ad.add (Int.toNat 0) = ad := (by obtain ⟨b_, o_, s_⟩ := ad; cases s_ <;> simp [Addr.add]); rwa [e] at h0
          have hlt := World.block_lt_of_cell? w _ h0
          have p0 : ((0 : Int) < (l.length : Int)) = True := eq_true (by omega)
          have ne0 : ((l.length : Int) == 0) = false := beq_eq_false_iff_ne.2 (by omega)
          have cT := fun W (hB : Below w.heap.size w W) => text_calls ⟨#[97]⟩ 1 3 0 2 0 0 false (some ⟨W.heap.size, 0, none⟩) 1 [rd l 0] (W.alloc (.cells #[.int .i64 (rd l 0)] 3 (0, 0))) (hL.below (hB.alloc hB.size _)) (lit1_C (db := W.heap.size + 1) (blk_new W _) (by omega) _ (grown_below (Below.refl _ _))) (Nat.le_refl _) (by simp)
          have hm0 : mayB ⟨#[97]⟩ 1 3 0 2 0 0 false [rd l 0] = true := wd_may 0 _ (by decide) (by decide) h00.1 h00.2
          rw [hm0] at cT
          simp only [if_true] at cT
          have eL : n = 1 → lastT ⟨#[97]⟩ 1 3 0 2 0 a false ⟨true, [X], n, l.length⟩ = textR ⟨#[97]⟩ 1 3 0 2 0 0 false [rd l 0] := by
            intro h
            unfold lastT
            rw [if_pos rfl, ← h1 h]
            exact wd_text a X ha hb1000 hX (by omega)
          generalize textR ⟨#[97]⟩ 1 3 0 2 0 0 false [rd l 0] = tx at *
          generalize lastT ⟨#[97]⟩ 1 3 0 2 0 a false ⟨true, [X], n, l.length⟩ = ty at *
          generalize rd l 0 = x at *
          have FIN : ∃ k, n = 1 ∧ ty = tx ∧ k = n ∨ 1 < n ∧ k = n := by
            by_cases h : n = 1
            · exact ⟨n, .inl ⟨h, eL h, rfl⟩⟩
            · exact ⟨n, .inr ⟨by omega, rfl⟩⟩
          clear h1 hxy eL hm0 hig hX hXl hY hYl hl h00
          obtain ⟨k, ⟨e1, e2, -⟩ | ⟨h1, -⟩⟩ := FIN
          · subst e2
            have q1 : decide ((n : Int) > 1) = false := decide_eq_false (by omega)
            clear e1
            go_wp2_with (first
              | (go_at_call 14; refine (cC2 _ hDy3).mono ?_; rintro e w4 ⟨rfl, hb4⟩; have hB4 := hB3.trans (hb4.mono hB3.size); have hDx4 := hDx3.below hb4)
              | (go_at_call 14; refine (cC1 _ hDx).mono ?_; rintro e w3 ⟨rfl, hb3⟩; have hB3 := hB1.trans (hb3.mono hB1.size); have hDx3 := hDx.below hb3; have hDy3 := hDy.below hb3)
              | (go_at_call 13; refine (cL _ hB4 hDx4).mono ?_; rintro e w5 ⟨rfl, hb5⟩; have hB5 := hB4.trans (hb5.mono hB4.size); have k5 := (hB5.cell hlt).trans h0)
              | (go_at_call 11; refine (cT _ hB5).mono ?_; rintro e w6 ⟨rfl, hb6⟩; have hB6 := (hB5.alloc hB5.size _).trans (hb6.mono (hB5.alloc hB5.size _).size))
              | (go_at_call 9; refine (cA _ hB6).mono ?_; rintro e w7 ⟨rfl, hb7⟩; have hB7 := hB6.trans (hb7.mono hB6.size)))
            go_ret
            exact ⟨rfl, hB7⟩
          · have q1 : decide ((n : Int) > 1) = true := decide_eq_true (by omega)
            go_wp2_with (first
              | (go_at_call 14; refine (cC2 _ hDy3).mono ?_; rintro e w4 ⟨rfl, hb4⟩; have hB4 := hB3.trans (hb4.mono hB3.size); have hDx4 := hDx3.below hb4)
              | (go_at_call 14; refine (cC1 _ hDx).mono ?_; rintro e w3 ⟨rfl, hb3⟩; have hB3 := hB1.trans (hb3.mono hB1.size); have hDx3 := hDx.below hb3; have hDy3 := hDy.below hb3)
              | (go_at_call 13; refine (cL _ hB4 hDx4).mono ?_; rintro e w5 ⟨rfl, hb5⟩; have hB5 := hB4.trans (hb5.mono hB4.size); have k5 := (hB5.cell hlt).trans h0)
              | (go_at_call 11; refine (cT _ hB5).mono ?_; rintro e w6 ⟨rfl, hb6⟩; have hB6 := (hB5.alloc hB5.size _).trans (hb6.mono (hB5.alloc hB5.size _).size))
              | (go_at_call 9; refine (cA _ hB6).mono ?_; rintro e w7 ⟨rfl, hb7⟩; have hB7 := hB6.trans (hb7.mono hB6.size)))
            go_ret
            exact ⟨rfl, hB7⟩
      | succ gk =>
        have hi : i < l.length := by omega
        have hlt1' : decide ((i : Int) < (l.length : Int)) = true := decide_eq_true (by omega)
        obtain ⟨ad, eA, h0⟩ := Kd.at_int HR.out (i : Int) (by omega) (by omega)
        subst eA
        have hlt := World.block_lt_of_cell? w _ h0
        rw [Int.toNat_natCast] at h0 hlt
        have k0 := (hB1.cell hlt).trans h0
        have p0 : ((0 : Int) ≤ (i : Int)) = True := eq_true (by omega)
        have p1 : ((i : Int) < (l.length : Int)) = True := eq_true (by omega)
        have hs1 : IntKind.i64.wrap ((i : Int) + 1) = ((i + 1 : Nat) : Int) := by rw [IntWalk.i64_in _ (by omega)]; rfl
        obtain ⟨hla0, hla1, ht1, hs1', ht2, hs2'⟩ := hI.last
        have hstep := fun (h1 : last ≤ rd l (i : Int)) (h2 : rd l (i : Int) ≤ 65535) => hI.step ha hab hb rfl h1 h2
        generalize rd l (i : Int) = v at *
        by_cases q1 : v < last
        · have e1 : decide (v < last) = true := decide_eq_true q1
          go_wp2
          go_ret
          exact ⟨rfl, hB1⟩
        have e1 : decide (v < last) = false := decide_eq_false q1
        by_cases q2 : 65535 < v
        · have e2 : decide (v > 65535) = true := decide_eq_true q2
          go_wp2
          go_ret
          exact ⟨rfl, hB1⟩
        have e2 : decide (v > 65535) = false := decide_eq_false q2
        have hI' := hstep (by omega) (by omega)
        have hv0 : 0 ≤ v := by omega
        have cX := feedV ha hb1000 hv0 (by omega) hL hB1 hd1 hlt1 hBx hDx (by omega) (by omega)
        have cY := fun W (hB : Below w.heap.size w W) (hW : B ≤ W.heap.size) (hD : DAt ⟨#[97]⟩ 1 3 0 2 0 b false B W db2 sy) => feedV hb0 hb hv0 (show v ≤ 65535 by omega) hL hB hdw2 hlt2 hW hD (by omega) (by omega)
        have HI := Lib.hid hI'
        clear hI' hstep hI hs1' hs2'
        go_wp2_with (first
          | (go_at_call 10; refine (cY w3 hb3 hs3 hDy3).mono ?_; rintro e w4 ⟨⟨s4, b4, rfl⟩, ⟨hb4, hs4⟩, hg4, hDy4⟩; have hDx4 := hDx3.other hg4 hlt2 hne)
          | (go_at_call 10; refine cX.mono ?_; rintro e w3 ⟨⟨s3, b3, rfl⟩, ⟨hb3, hs3⟩, hg3, hDx3⟩; have hs3 := Nat.le_trans hBx hs3; have hDy3 := hDy.other hg3 hlt1 (Ne.symm hne); have k3 := (hb3.cell hlt).trans h0))
        go_roundg gk
        case measure => omega
        case rel => exact ⟨i + 1, _, _, v, rfl, by first | rfl | (rw [hs1]), by omega, hb4, Nat.le_trans hs3 hs4, hDx4, hDy4, HI.out⟩
  · go_enter Tryd.func5, Tryd.ntmps5
    by_cases q1 : a < 0
    · have e1 : decide (a < 0) = true := decide_eq_true q1
      go_wp2
      go_ret
      exact ⟨rfl, Below.refl _ _⟩
    have e1 : decide (a < 0) = false := decide_eq_false q1
    by_cases q2 : b < a
    · have e2 : decide (b < a) = true := decide_eq_true q2
      go_wp2
      go_ret
      exact ⟨rfl, Below.refl _ _⟩
    have e2 : decide (b < a) = false := decide_eq_false q2
    by_cases q3 : 1000000000 < b
    · have e3 : decide (1000000000 < b) = true := decide_eq_true q3
      go_wp2
      go_ret
      exact ⟨rfl, Below.refl _ _⟩
    have e3 : decide (1000000000 < b) = false := decide_eq_false q3
    have q4 : (200 : Int) < l.length := by omega
    have e4 : decide ((200 : Int) < (l.length : Int)) = true := decide_eq_true q4
    go_wp2
    go_ret
    exact ⟨rfl, Below.refl _ _⟩
theorem driftWide_row (a b : Int) (a2 : Option Addr) (len2 cap2 : Nat) (z2 : List Int) (w : World) (hL : Laid w) (w2 : (a2 = none ∧ len2 = 0 ∧ cap2 = 0 ∧ z2 = []) ∨ ∃ x, a2 = some x ∧ len2 ≤ cap2 ∧ cap2 ≤ maxLen ∧ z2.length = cap2 ∧ (∀ i, i < z2.length → w.cell? (x.add i) = some (.int .i64 (z2.getD i 0))) ∧ ∀ n ∈ z2, (Lit.int .i64 n).wf = true) :
    Calls Tryd.prog 5 #[.int .i64 a, .int .i64 b, .slice a2 len2 cap2] w fun e w' => e = .returned (.bool true) ∧ Below w.heap.size w w' := by
  obtain ⟨l, rfl, hr, hm, hw, hc⟩ := ReadsInt.ofRowC w2
  unfold maxLen at hm
  exact driftWide_calls a b a2 cap2 l w hL (Kd.C_of_reads (d := (0 : Int)) (h1 := fun _ => rfl) hr) hc (by omega)
end Go.Proofs.YtenbkjeflancaaaDoor.Dr
