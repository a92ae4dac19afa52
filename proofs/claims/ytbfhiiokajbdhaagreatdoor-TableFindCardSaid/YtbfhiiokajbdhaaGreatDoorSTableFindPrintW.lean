/- What the proof of TableFind leans on: PrintW. -/
import Derived.Test.YtbfhiiokajbdhaaGreatDoorSTableFindFldP
import Derived.Test.YtbfhiiokajbdhaaGreatDoorSTableFindBld
import Derived.Test.YtbfhiiokajbdhaaGreatDoorSTableFindPTab
import Derived.Test.YtbfhiiokajbdhaaGreatDoorSTableFindPCheck
import Derived.Lib.ItoaLen
set_option linter.unusedVariables false
set_option linter.unusedSimpArgs false
namespace Go.Proofs.YtbfhiiokajbdhaaGreatDoor.Fl
open Go.RowKit Go.Proofs.YtbfhiiokajbdhaaGreatDoor.Q Go.Proofs.YtbfhiiokajbdhaaGreatDoor.Val Go.Proofs.YtbfhiiokajbdhaaGreatDoorW.PrintWords
def strsOf (r : S34) : List ByteArray := [r.f0, itoaS r.f1, itoaS r.f2, itoaS r.f3, itoaS r.f4, itoaS r.f5, itoaS r.f6, if r.f7 then ⟨#[119]⟩ else ⟨#[114]⟩]
def lineL (r : S34) : List UInt8 := Lib.join ((strsOf r).map (·.data.toList)) [32] ++ [10]
def linesL (l : List S34) : List UInt8 := l.flatMap lineL
theorem str_own {W : World} {B : Nat} {v : Value} {l : List ByteArray} {ok : Nat → Prop} {e : Nat} (h : Kd.R Kd.string e W B ok v l) (hl : 0 < l.length) : ∃ g c, v = .slice (some ⟨g, 0, none⟩) l.length c ∧ g < W.heap.size ∧ l.length ≤ c ∧ ∀ (j : Nat) (x : ByteArray), l[j]? = some x → W.cell? ⟨g, 0 + j, none⟩ = some (.string x) := by
  obtain ⟨-, inner, ho, hr⟩ := h
  rcases ho.2 with ⟨_, h0⟩ | ⟨g, cap, cur, rfl, hg, hh, hle, _, hsz, htk⟩
  · omega
  · refine ⟨g, cap, rfl, blk_lt hh, hle, fun j x hx => ?_⟩
    have hj : j < l.length := (List.getElem?_eq_some_iff.1 hx).1
    have h1 := hr.2 j x hx
    have h2 : (inner.drop (j * 1)).take 1 = [.string x] := h1
    rw [Nat.mul_one] at h2
    have h3 : inner[j]? = some (.string x) := by
      have := congrArg (fun q : List Value => q[0]?) h2
      simpa [List.getElem?_take, List.getElem?_drop] using this
    rw [← htk, List.getElem?_take] at h3
    split at h3
    · rw [Nat.zero_add, blk_cell hh j]
      simpa using h3
    · cases h3
structure Pn (wo : World) (fb : Nat) (b : Nat → Nat) (g : Nat) (r : S34) (v : Value) (l : List ByteArray) (wy : World) : Prop where
  bel : Below wo.heap.size wo wy
  fa : FAt wy 0 fb b
  rw_ : WAt wy g r
  row : Kd.R Kd.string 9 wy wo.heap.size (fun _ => True) v l
theorem Pn.step {wo wy w1 w2 : World} {fb g : Nat} {b : Nat → Nat} {r : S34} {v v1 : Value} {l l1 : List ByteArray} (h : Pn wo fb b g r v l wy) (hb : Below wy.heap.size wy w1) (hg : w1.grownBy w2 v.ownBlock) (hR : Kd.R Kd.string 9 w2 wo.heap.size (fun _ => True) v1 l1) (hB : Below wo.heap.size wo w2) : Pn wo fb b g r v1 l1 w2 := by
  have hR1 := Kd.R_below h.row hb
  have hF := h.fa.below hb
  have hW := blk_below h.rw_ hb
  exact ⟨hB, hF.step (fun k t cs ht hk => hg.block k (blk_lt hk) (Kd.R_ne hR1 hk (by rcases ht with rfl | rfl <;> decide))), (hg.block g (blk_lt hW) (Kd.R_ne hR1 hW (by decide))).trans hW, hR⟩
theorem FAt.zero {W : World} {B g : Nat} {b : Nat → Nat} (h : FAt W B g b) : FAt W 0 g b := ⟨h.blk, Nat.zero_le _, h.b1, h.b2, h.b3, h.b4, h.b5, h.b6⟩
theorem line_len (r : S34) (h : fitB r) (hn : r.f0.size ≤ 1000000) : (lineL r).length ≤ 1100000 := by
  have il := fun (x : Int) (hx : x ∈ [r.f1, r.f2, r.f3, r.f4, r.f5, r.f6]) => Lib.itoa_length_le x (h x hx).1 (h x hx).2
  have i1 := il r.f1 (by simp)
  have i2 := il r.f2 (by simp)
  have i3 := il r.f3 (by simp)
  have i4 := il r.f4 (by simp)
  have i5 := il r.f5 (by simp)
  have i6 := il r.f6 (by simp)
  have e0 := Lib.size_eq r.f0
  have e7 : ((if r.f7 then ⟨#[119]⟩ else ⟨#[114]⟩ : ByteArray)).data.toList.length ≤ 1 := by cases r.f7 <;> exact Nat.le_refl _
  unfold lineL strsOf
  rw [List.length_append, List.map_cons, Lib.join_length]
  simp only [Lib.lens, List.map_cons, List.map_nil, List.sum_cons, List.sum_nil, List.length_cons, List.length_nil, itoaS]
  omega
theorem bapp (a b : List UInt8) : (⟨a.toArray⟩ : ByteArray) ++ ⟨b.toArray⟩ = ⟨(a ++ b).toArray⟩ := by
  apply ByteArray.ext
  rw [ByteArray.data_append]
  simp
set_option maxHeartbeats 16000000 in
set_option maxRecDepth 1000000 in
theorem print_ok (A : Option Addr) (c : Nat) (l : List S34) (w : World) (hL : Laid w) (hr : Kd.C k34 w A l.length l) (hc : l.length ≤ c) (hlen : l.length ≤ 1000000) (hch : chk l = (0, 0)) (hfits : ∀ r ∈ l, fitB r) (hnm : ∀ r ∈ l, r.f0.size ≤ 1000000) :
    Calls Tryz.prog 18 #[.slice A l.length c] w fun e w' => e = .returned (.tuple #[.string ⟨(linesL l).toArray⟩, .int .i64 0]) ∧ Below w.heap.size w w' := by
  have cC := table_Check.calls (0 + l.length + 4) A c l 0 0 w hr hc hL (by rw [check_eq l hlen 0, hch])
  have HR := Lib.hid hr
  clear hr hch
  go_enter Tryz.func18, Tryz.ntmps18
  go_wp2_with (go_at_call 12; refine cC.mono ?_; rintro e w1 ⟨rfl, hb1⟩)
  have hal := (Below.refl w1.heap.size w1).alloc (Nat.le_refl _) (.cells #[.pointer none, .slice none 0 0] 63)
  have hB2 := hb1.trans (hal.mono hb1.size)
  have hBn := BAt.new w1 hb1.size
  obtain ⟨bb, hbb⟩ : ∃ bb, bb = w1.heap.size := ⟨_, rfl⟩
  rw [← hbb] at hBn ⊢
  have hbw : w.heap.size ≤ bb := by rw [hbb]; exact hb1.size
  clear hbb cC hal
  go_loopg [21] l.length (fun gk v21 wx => ∃ i : Nat, v21 = .int .i64 i ∧ i + gk = l.length ∧ BAt w.heap.size bb (linesL (l.take i)) wx ∧ Below w.heap.size w wx ∧ (linesL (l.take i)).length ≤ i * 1100000)
  case atStart => exact ⟨0, rfl, by omega, by rw [List.take_zero]; exact hBn, hB2, by simp [linesL]⟩
  case round =>
    obtain ⟨i, rfl, hig, hBd, hBx, hll⟩ := hrel
    cases gk with
    | zero =>
      have hi : i = l.length := by omega
      have hn : (i < l.length) = False := eq_false (by omega)
      have cS := bstring_calls w.heap.size bb _ wr hBd hBx.size
      rw [List.take_of_length_le (by omega)] at cS
      clear hi hig hBd hll
      go_wp2_with (go_at_call 32; refine cS.mono ?_; rintro e w2 ⟨rfl, hb2⟩)
      go_ret2
      exact ⟨rfl, hBx.trans hb2⟩
    | succ gk =>
      have hi : i < l.length := by omega
      have hlt1 : decide ((i : Int) < (l.length : Int)) = true := decide_eq_true (by omega)
      obtain ⟨ad, eA, h0, h1, h2, h3, h4, h5, h6, h7⟩ := at_T34 HR.out (i : Int) (by omega) (by omega)
      subst eA
      simp only [Int.toNat_natCast] at h0 h1 h2 h3 h4 h5 h6 h7
      have p0 : ((0 : Int) ≤ (i : Int)) = True := eq_true (by omega)
      have p1 : ((i : Int) < (l.length : Int)) = True := eq_true (by omega)
      have k0 := (hBx.cell (World.block_lt_of_cell? w _ h0)).trans h0
      have k1 := (hBx.cell (World.block_lt_of_cell? w _ h1)).trans h1
      have k2 := (hBx.cell (World.block_lt_of_cell? w _ h2)).trans h2
      have k3 := (hBx.cell (World.block_lt_of_cell? w _ h3)).trans h3
      have k4 := (hBx.cell (World.block_lt_of_cell? w _ h4)).trans h4
      have k5 := (hBx.cell (World.block_lt_of_cell? w _ h5)).trans h5
      have k6 := (hBx.cell (World.block_lt_of_cell? w _ h6)).trans h6
      have k7 := (hBx.cell (World.block_lt_of_cell? w _ h7)).trans h7
      have hs1 : IntKind.i64.wrap ((i : Int) + 1) = ((i + 1 : Nat) : Int) := by rw [IntWalk.i64_in _ (by omega)]; rfl
      clear h0 h1 h2 h3 h4 h5 h6 h7
      have hmem : rd_T34 l (i : Int) ∈ l := by
        unfold rd_T34
        rw [Int.toNat_natCast, List.getD_eq_getElem?_getD, List.getElem?_eq_getElem hi]
        exact List.getElem_mem hi
      have hfit := hfits _ hmem
      have hname := hnm _ hmem
      have htake : linesL (l.take (i + 1)) = linesL (l.take i) ++ lineL (rd_T34 l (i : Int)) := by
        unfold linesL rd_T34
        rw [List.take_succ_eq_append_getElem hi, List.flatMap_append, Int.toNat_natCast, List.getD_eq_getElem?_getD, List.getElem?_eq_getElem hi]
        simp
      generalize rd_T34 l (i : Int) = r at *
      have hline := line_len r hfit hname
      have cF := fun o => fields_calls (wr.alloc o)
      go_wp2_with (go_at_call 20; refine (cF _).mono ?_; rintro e wF ⟨fb, b, rfl, hF, hbF⟩)
      have hal := (Below.refl wr.heap.size wr).alloc (Nat.le_refl _) (.cells #[.string r.f0, .int .i64 r.f1, .int .i64 r.f2, .int .i64 r.f3, .int .i64 r.f4, .int .i64 r.f5, .int .i64 r.f6, .bool r.f7] 34 (0, 0))
      have hBF : Below w.heap.size w wF := (hBx.trans (hal.mono hBx.size)).trans (hbF.mono (hBx.trans (hal.mono hBx.size)).size)
      have hBd2 := (hBd.below hal).below hbF
      have hWF : WAt wF wr.heap.size r := blk_below (blk_new wr _) hbF
      have hP0 : Pn wF fb b wr.heap.size r (.slice none 0 0) [] wF := ⟨Below.refl _ _, hF.zero, hWF, Kd.R_nil _ _ _ _ _⟩
      obtain ⟨g8, hg8⟩ : ∃ g8, g8 = wr.heap.size := ⟨_, rfl⟩
      rw [← hg8] at hP0 ⊢
      obtain ⟨go_, rfl⟩ : ∃ x : Nat, x = gk := ⟨_, rfl⟩
      obtain ⟨wo, rfl⟩ : ∃ x : World, x = wr := ⟨_, rfl⟩
      clear hg8 hWF hF hBd k0 k1 k2 k3 k4 k5 k6 k7 cF hBn hB2 hbF hal
      go_loopg [9, 27] 8 (fun gk v9 v27 wy => ∃ k : Nat, v27 = .int .i64 k ∧ k + gk = 8 ∧ Pn wF fb b g8 r v9 ((strsOf r).take k) wy)
      case atStart => exact ⟨0, rfl, rfl, hP0⟩
      case round =>
        obtain ⟨k, rfl, hkg, hP⟩ := hrel
        have AL := fun o => (Below.refl wr.heap.size wr).alloc (Nat.le_refl _) o
        cases gk with
        | zero =>
          have hk8 : k = 8 := by omega
          subst hk8
          obtain ⟨g9, c9, e9, hg9, hc9, hcs⟩ := str_own (l := strsOf r) hP.row (by simp [strsOf])
          subst e9
          have cJ := Tryz.strings_Join g9 0 c9 (strsOf r) ⟨#[32]⟩ wr hcs hg9 (by simp [strsOf]) hc9 (by unfold lineL at hline; rw [List.length_append] at hline; show (Lib.join ((strsOf r).map (·.data.toList)) [32]).length ≤ _; omega)
          have hBwr := hBF.trans (hP.bel.mono hBF.size)
          have hBdr := hBd2.below hP.bel
          have cW := fun W (h : Below wr.heap.size wr W) (s : ByteArray) (hs : s.size ≤ 1100000) => write_calls w.heap.size bb (linesL (l.take i)) s W (hBdr.below h) (by omega) (Nat.le_trans hBwr.size h.size)
          have eS : (⟨(Lib.join ((strsOf r).map (·.data.toList)) (⟨#[32]⟩ : ByteArray).data.toList).toArray⟩ : ByteArray) ++ ⟨#[10]⟩ = ⟨(lineL r).toArray⟩ := bapp _ [10]
          clear hcs hP AL
          have hJ : (Lib.join ((strsOf r).map (·.data.toList)) [32]).length ≤ 1100000 := by
            unfold lineL at hline
            rw [List.length_append] at hline
            omega
          have hjn : (9223372036854775807 < (Lib.join ((strsOf r).map (·.data.toList)) [32]).length + 1) = False := eq_false (by omega)
          have hsz : (⟨(lineL r).toArray⟩ : ByteArray).size ≤ 1100000 := by show (lineL r).toArray.size ≤ _; simpa using hline
          go_wp2_with (first
            | (go_at_call 31; refine cJ.mono ?_; rintro e w6 ⟨rfl, hb6⟩)
            | (go_at_call 30; refine (cW _ hb6 _ hsz).mono ?_; rintro e w7 ⟨rfl, hBd7, hb7, hs7⟩))
          go_roundg go_
          case measure => omega
          case rel => exact ⟨i + 1, by first | rfl | (rw [hs1]), by omega, by rw [htake]; exact (by simpa using hBd7), (hBwr.trans (hb6.mono hBwr.size)).trans hb7, by rw [htake, List.length_append]; omega⟩
        | succ gk =>
          rcases (by omega : k = 0 ∨ k = 1 ∨ k = 2 ∨ k = 3 ∨ k = 4 ∨ k = 5 ∨ k = 6 ∨ k = 7) with rfl | rfl | rfl | rfl | rfl | rfl | rfl | rfl
          · have ko := blk_cell hP.fa.blk 0
            have kp := blk_cell hP.fa.blk 1
            have cK := fun (W : World) (hb : Below wr.heap.size wr W) => name_print W r
            obtain ⟨A9, c9, e9⟩ := Kd.R_slice hP.row
            have hrw := hP.rw_
            have y0 := fun o => blk_cell (blk_alloc hrw o) 0
            have y1 := fun o => blk_cell (blk_alloc hrw o) 1
            have y2 := fun o => blk_cell (blk_alloc hrw o) 2
            have y3 := fun o => blk_cell (blk_alloc hrw o) 3
            have y4 := fun o => blk_cell (blk_alloc hrw o) 4
            have y5 := fun o => blk_cell (blk_alloc hrw o) 5
            have y6 := fun o => blk_cell (blk_alloc hrw o) 6
            have y7 := fun o => blk_cell (blk_alloc hrw o) 7
            clear hrw
            subst e9
            have HP := Aside0.mk hP
            clear hP
            go_wp2_with (first
              | (go_at_call 35; refine (cK _ (AL _)).mono ?_; rintro e w4 ⟨rfl, hb4⟩; have hB4 := Below.trans (AL _) (hb4.mono (by simp)); have hR4 := Kd.R_below HP.out.row hB4; have hBw4 := HP.out.bel.trans (hB4.mono HP.out.bel.size))
              | (at_builtin; refine Kd.R_append Kd.string (w0 := wF) wF.heap.size rfl (.tmp 31) (.tmp 36) 46 9 (.string ⟨#[]⟩) 16 rfl Tryz.underlying46 (by kernel_rfl) rfl (by decide) (by omega) (.slice A9 ((strsOf r).take 0).length c9) ((strsOf r).take 0) r.f0 [.string r.f0] (fun _ => True) (fun _ => False) rfl rfl rfl (fun _ hk => hk.elim) (fun _ _ => trivial) hR4 hBw4 hBw4.size (by simp [strsOf]) ?_; intro v1 w5 hR5 hB5 hg5 hat5))
            go_roundg gk
            case measure => omega
            case rel => exact ⟨1, by first | rfl | go_num, by omega, HP.out.step hB4 hg5 hR5 hB5⟩
          · have ko := blk_cell hP.fa.blk 2
            have kp := blk_cell hP.fa.blk 3
            have cK := fun (W : World) (hb : Below wr.heap.size wr W) => num_print_1 W (b 1) r (hL.below ((hBF.trans (hP.bel.mono hBF.size)).trans (hb.mono (hBF.trans (hP.bel.mono hBF.size)).size))) hfit (blk_cell (blk_below hP.fa.b1 hb) 0)
            obtain ⟨A9, c9, e9⟩ := Kd.R_slice hP.row
            have hrw := hP.rw_
            have y0 := fun o => blk_cell (blk_alloc hrw o) 0
            have y1 := fun o => blk_cell (blk_alloc hrw o) 1
            have y2 := fun o => blk_cell (blk_alloc hrw o) 2
            have y3 := fun o => blk_cell (blk_alloc hrw o) 3
            have y4 := fun o => blk_cell (blk_alloc hrw o) 4
            have y5 := fun o => blk_cell (blk_alloc hrw o) 5
            have y6 := fun o => blk_cell (blk_alloc hrw o) 6
            have y7 := fun o => blk_cell (blk_alloc hrw o) 7
            clear hrw
            subst e9
            have HP := Aside0.mk hP
            clear hP
            go_wp2_with (first
              | (go_at_call 56; refine (cK _ (AL _)).mono ?_; rintro e w4 ⟨rfl, hb4⟩; have hB4 := Below.trans (AL _) (hb4.mono (by simp)); have hR4 := Kd.R_below HP.out.row hB4; have hBw4 := HP.out.bel.trans (hB4.mono HP.out.bel.size))
              | (at_builtin; refine Kd.R_append Kd.string (w0 := wF) wF.heap.size rfl (.tmp 31) (.tmp 36) 46 9 (.string ⟨#[]⟩) 16 rfl Tryz.underlying46 (by kernel_rfl) rfl (by decide) (by omega) (.slice A9 ((strsOf r).take 1).length c9) ((strsOf r).take 1) (itoaS r.f1) [.string (itoaS r.f1)] (fun _ => True) (fun _ => False) rfl rfl rfl (fun _ hk => hk.elim) (fun _ _ => trivial) hR4 hBw4 hBw4.size (by simp [strsOf]) ?_; intro v1 w5 hR5 hB5 hg5 hat5))
            go_roundg gk
            case measure => omega
            case rel => exact ⟨2, by first | rfl | go_num, by omega, HP.out.step hB4 hg5 hR5 hB5⟩
          · have ko := blk_cell hP.fa.blk 4
            have kp := blk_cell hP.fa.blk 5
            have cK := fun (W : World) (hb : Below wr.heap.size wr W) => num_print_2 W (b 2) r (hL.below ((hBF.trans (hP.bel.mono hBF.size)).trans (hb.mono (hBF.trans (hP.bel.mono hBF.size)).size))) hfit (blk_cell (blk_below hP.fa.b2 hb) 0)
            obtain ⟨A9, c9, e9⟩ := Kd.R_slice hP.row
            have hrw := hP.rw_
            have y0 := fun o => blk_cell (blk_alloc hrw o) 0
            have y1 := fun o => blk_cell (blk_alloc hrw o) 1
            have y2 := fun o => blk_cell (blk_alloc hrw o) 2
            have y3 := fun o => blk_cell (blk_alloc hrw o) 3
            have y4 := fun o => blk_cell (blk_alloc hrw o) 4
            have y5 := fun o => blk_cell (blk_alloc hrw o) 5
            have y6 := fun o => blk_cell (blk_alloc hrw o) 6
            have y7 := fun o => blk_cell (blk_alloc hrw o) 7
            clear hrw
            subst e9
            have HP := Aside0.mk hP
            clear hP
            go_wp2_with (first
              | (go_at_call 56; refine (cK _ (AL _)).mono ?_; rintro e w4 ⟨rfl, hb4⟩; have hB4 := Below.trans (AL _) (hb4.mono (by simp)); have hR4 := Kd.R_below HP.out.row hB4; have hBw4 := HP.out.bel.trans (hB4.mono HP.out.bel.size))
              | (at_builtin; refine Kd.R_append Kd.string (w0 := wF) wF.heap.size rfl (.tmp 31) (.tmp 36) 46 9 (.string ⟨#[]⟩) 16 rfl Tryz.underlying46 (by kernel_rfl) rfl (by decide) (by omega) (.slice A9 ((strsOf r).take 2).length c9) ((strsOf r).take 2) (itoaS r.f2) [.string (itoaS r.f2)] (fun _ => True) (fun _ => False) rfl rfl rfl (fun _ hk => hk.elim) (fun _ _ => trivial) hR4 hBw4 hBw4.size (by simp [strsOf]) ?_; intro v1 w5 hR5 hB5 hg5 hat5))
            go_roundg gk
            case measure => omega
            case rel => exact ⟨3, by first | rfl | go_num, by omega, HP.out.step hB4 hg5 hR5 hB5⟩
          · have ko := blk_cell hP.fa.blk 6
            have kp := blk_cell hP.fa.blk 7
            have cK := fun (W : World) (hb : Below wr.heap.size wr W) => num_print_3 W (b 3) r (hL.below ((hBF.trans (hP.bel.mono hBF.size)).trans (hb.mono (hBF.trans (hP.bel.mono hBF.size)).size))) hfit (blk_cell (blk_below hP.fa.b3 hb) 0)
            obtain ⟨A9, c9, e9⟩ := Kd.R_slice hP.row
            have hrw := hP.rw_
            have y0 := fun o => blk_cell (blk_alloc hrw o) 0
            have y1 := fun o => blk_cell (blk_alloc hrw o) 1
            have y2 := fun o => blk_cell (blk_alloc hrw o) 2
            have y3 := fun o => blk_cell (blk_alloc hrw o) 3
            have y4 := fun o => blk_cell (blk_alloc hrw o) 4
            have y5 := fun o => blk_cell (blk_alloc hrw o) 5
            have y6 := fun o => blk_cell (blk_alloc hrw o) 6
            have y7 := fun o => blk_cell (blk_alloc hrw o) 7
            clear hrw
            subst e9
            have HP := Aside0.mk hP
            clear hP
            go_wp2_with (first
              | (go_at_call 56; refine (cK _ (AL _)).mono ?_; rintro e w4 ⟨rfl, hb4⟩; have hB4 := Below.trans (AL _) (hb4.mono (by simp)); have hR4 := Kd.R_below HP.out.row hB4; have hBw4 := HP.out.bel.trans (hB4.mono HP.out.bel.size))
              | (at_builtin; refine Kd.R_append Kd.string (w0 := wF) wF.heap.size rfl (.tmp 31) (.tmp 36) 46 9 (.string ⟨#[]⟩) 16 rfl Tryz.underlying46 (by kernel_rfl) rfl (by decide) (by omega) (.slice A9 ((strsOf r).take 3).length c9) ((strsOf r).take 3) (itoaS r.f3) [.string (itoaS r.f3)] (fun _ => True) (fun _ => False) rfl rfl rfl (fun _ hk => hk.elim) (fun _ _ => trivial) hR4 hBw4 hBw4.size (by simp [strsOf]) ?_; intro v1 w5 hR5 hB5 hg5 hat5))
            go_roundg gk
            case measure => omega
            case rel => exact ⟨4, by first | rfl | go_num, by omega, HP.out.step hB4 hg5 hR5 hB5⟩
          · have ko := blk_cell hP.fa.blk 8
            have kp := blk_cell hP.fa.blk 9
            have cK := fun (W : World) (hb : Below wr.heap.size wr W) => num_print_4 W (b 4) r (hL.below ((hBF.trans (hP.bel.mono hBF.size)).trans (hb.mono (hBF.trans (hP.bel.mono hBF.size)).size))) hfit (blk_cell (blk_below hP.fa.b4 hb) 0)
            obtain ⟨A9, c9, e9⟩ := Kd.R_slice hP.row
            have hrw := hP.rw_
            have y0 := fun o => blk_cell (blk_alloc hrw o) 0
            have y1 := fun o => blk_cell (blk_alloc hrw o) 1
            have y2 := fun o => blk_cell (blk_alloc hrw o) 2
            have y3 := fun o => blk_cell (blk_alloc hrw o) 3
            have y4 := fun o => blk_cell (blk_alloc hrw o) 4
            have y5 := fun o => blk_cell (blk_alloc hrw o) 5
            have y6 := fun o => blk_cell (blk_alloc hrw o) 6
            have y7 := fun o => blk_cell (blk_alloc hrw o) 7
            clear hrw
            subst e9
            have HP := Aside0.mk hP
            clear hP
            go_wp2_with (first
              | (go_at_call 56; refine (cK _ (AL _)).mono ?_; rintro e w4 ⟨rfl, hb4⟩; have hB4 := Below.trans (AL _) (hb4.mono (by simp)); have hR4 := Kd.R_below HP.out.row hB4; have hBw4 := HP.out.bel.trans (hB4.mono HP.out.bel.size))
              | (at_builtin; refine Kd.R_append Kd.string (w0 := wF) wF.heap.size rfl (.tmp 31) (.tmp 36) 46 9 (.string ⟨#[]⟩) 16 rfl Tryz.underlying46 (by kernel_rfl) rfl (by decide) (by omega) (.slice A9 ((strsOf r).take 4).length c9) ((strsOf r).take 4) (itoaS r.f4) [.string (itoaS r.f4)] (fun _ => True) (fun _ => False) rfl rfl rfl (fun _ hk => hk.elim) (fun _ _ => trivial) hR4 hBw4 hBw4.size (by simp [strsOf]) ?_; intro v1 w5 hR5 hB5 hg5 hat5))
            go_roundg gk
            case measure => omega
            case rel => exact ⟨5, by first | rfl | go_num, by omega, HP.out.step hB4 hg5 hR5 hB5⟩
          · have ko := blk_cell hP.fa.blk 10
            have kp := blk_cell hP.fa.blk 11
            have cK := fun (W : World) (hb : Below wr.heap.size wr W) => num_print_5 W (b 5) r (hL.below ((hBF.trans (hP.bel.mono hBF.size)).trans (hb.mono (hBF.trans (hP.bel.mono hBF.size)).size))) hfit (blk_cell (blk_below hP.fa.b5 hb) 0)
            obtain ⟨A9, c9, e9⟩ := Kd.R_slice hP.row
            have hrw := hP.rw_
            have y0 := fun o => blk_cell (blk_alloc hrw o) 0
            have y1 := fun o => blk_cell (blk_alloc hrw o) 1
            have y2 := fun o => blk_cell (blk_alloc hrw o) 2
            have y3 := fun o => blk_cell (blk_alloc hrw o) 3
            have y4 := fun o => blk_cell (blk_alloc hrw o) 4
            have y5 := fun o => blk_cell (blk_alloc hrw o) 5
            have y6 := fun o => blk_cell (blk_alloc hrw o) 6
            have y7 := fun o => blk_cell (blk_alloc hrw o) 7
            clear hrw
            subst e9
            have HP := Aside0.mk hP
            clear hP
            go_wp2_with (first
              | (go_at_call 56; refine (cK _ (AL _)).mono ?_; rintro e w4 ⟨rfl, hb4⟩; have hB4 := Below.trans (AL _) (hb4.mono (by simp)); have hR4 := Kd.R_below HP.out.row hB4; have hBw4 := HP.out.bel.trans (hB4.mono HP.out.bel.size))
              | (at_builtin; refine Kd.R_append Kd.string (w0 := wF) wF.heap.size rfl (.tmp 31) (.tmp 36) 46 9 (.string ⟨#[]⟩) 16 rfl Tryz.underlying46 (by kernel_rfl) rfl (by decide) (by omega) (.slice A9 ((strsOf r).take 5).length c9) ((strsOf r).take 5) (itoaS r.f5) [.string (itoaS r.f5)] (fun _ => True) (fun _ => False) rfl rfl rfl (fun _ hk => hk.elim) (fun _ _ => trivial) hR4 hBw4 hBw4.size (by simp [strsOf]) ?_; intro v1 w5 hR5 hB5 hg5 hat5))
            go_roundg gk
            case measure => omega
            case rel => exact ⟨6, by first | rfl | go_num, by omega, HP.out.step hB4 hg5 hR5 hB5⟩
          · have ko := blk_cell hP.fa.blk 12
            have kp := blk_cell hP.fa.blk 13
            have cK := fun (W : World) (hb : Below wr.heap.size wr W) => num_print_6 W (b 6) r (hL.below ((hBF.trans (hP.bel.mono hBF.size)).trans (hb.mono (hBF.trans (hP.bel.mono hBF.size)).size))) hfit (blk_cell (blk_below hP.fa.b6 hb) 0)
            obtain ⟨A9, c9, e9⟩ := Kd.R_slice hP.row
            have hrw := hP.rw_
            have y0 := fun o => blk_cell (blk_alloc hrw o) 0
            have y1 := fun o => blk_cell (blk_alloc hrw o) 1
            have y2 := fun o => blk_cell (blk_alloc hrw o) 2
            have y3 := fun o => blk_cell (blk_alloc hrw o) 3
            have y4 := fun o => blk_cell (blk_alloc hrw o) 4
            have y5 := fun o => blk_cell (blk_alloc hrw o) 5
            have y6 := fun o => blk_cell (blk_alloc hrw o) 6
            have y7 := fun o => blk_cell (blk_alloc hrw o) 7
            clear hrw
            subst e9
            have HP := Aside0.mk hP
            clear hP
            go_wp2_with (first
              | (go_at_call 56; refine (cK _ (AL _)).mono ?_; rintro e w4 ⟨rfl, hb4⟩; have hB4 := Below.trans (AL _) (hb4.mono (by simp)); have hR4 := Kd.R_below HP.out.row hB4; have hBw4 := HP.out.bel.trans (hB4.mono HP.out.bel.size))
              | (at_builtin; refine Kd.R_append Kd.string (w0 := wF) wF.heap.size rfl (.tmp 31) (.tmp 36) 46 9 (.string ⟨#[]⟩) 16 rfl Tryz.underlying46 (by kernel_rfl) rfl (by decide) (by omega) (.slice A9 ((strsOf r).take 6).length c9) ((strsOf r).take 6) (itoaS r.f6) [.string (itoaS r.f6)] (fun _ => True) (fun _ => False) rfl rfl rfl (fun _ hk => hk.elim) (fun _ _ => trivial) hR4 hBw4 hBw4.size (by simp [strsOf]) ?_; intro v1 w5 hR5 hB5 hg5 hat5))
            go_roundg gk
            case measure => omega
            case rel => exact ⟨7, by first | rfl | go_num, by omega, HP.out.step hB4 hg5 hR5 hB5⟩
          · have ko := blk_cell hP.fa.blk 14
            have kp := blk_cell hP.fa.blk 15
            have cK := fun (W : World) (hb : Below wr.heap.size wr W) => write_print W r
            obtain ⟨wd, hwd⟩ : ∃ x : ByteArray, x = (if r.f7 then ⟨#[119]⟩ else ⟨#[114]⟩) := ⟨_, rfl⟩
            rw [← hwd] at cK
            have HW := Aside0.mk hwd
            clear hwd
            obtain ⟨A9, c9, e9⟩ := Kd.R_slice hP.row
            have hrw := hP.rw_
            have y0 := fun o => blk_cell (blk_alloc hrw o) 0
            have y1 := fun o => blk_cell (blk_alloc hrw o) 1
            have y2 := fun o => blk_cell (blk_alloc hrw o) 2
            have y3 := fun o => blk_cell (blk_alloc hrw o) 3
            have y4 := fun o => blk_cell (blk_alloc hrw o) 4
            have y5 := fun o => blk_cell (blk_alloc hrw o) 5
            have y6 := fun o => blk_cell (blk_alloc hrw o) 6
            have y7 := fun o => blk_cell (blk_alloc hrw o) 7
            clear hrw
            subst e9
            have HP := Aside0.mk hP
            clear hP
            go_wp2_with (first
              | (go_at_call 44; refine (cK _ (AL _)).mono ?_; rintro e w4 ⟨rfl, hb4⟩; have hB4 := Below.trans (AL _) (hb4.mono (by simp)); have hR4 := Kd.R_below HP.out.row hB4; have hBw4 := HP.out.bel.trans (hB4.mono HP.out.bel.size))
              | (at_builtin; refine Kd.R_append Kd.string (w0 := wF) wF.heap.size rfl (.tmp 31) (.tmp 36) 46 9 (.string ⟨#[]⟩) 16 rfl Tryz.underlying46 (by kernel_rfl) rfl (by decide) (by omega) (.slice A9 ((strsOf r).take 7).length c9) ((strsOf r).take 7) wd [.string wd] (fun _ => True) (fun _ => False) rfl rfl rfl (fun _ hk => hk.elim) (fun _ _ => trivial) hR4 hBw4 hBw4.size (by simp [strsOf]) ?_; intro v1 w5 hR5 hB5 hg5 hat5))
            go_roundg gk
            case measure => omega
            case rel => exact ⟨8, by first | rfl | go_num, by omega, HP.out.step hB4 hg5 (by have h_ := hR5; rw [HW.out] at h_; exact h_) hB5⟩
end Go.Proofs.YtbfhiiokajbdhaaGreatDoor.Fl
