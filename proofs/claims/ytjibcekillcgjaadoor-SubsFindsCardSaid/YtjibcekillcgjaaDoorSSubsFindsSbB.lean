/- What the proof of SubsFinds leans on: SbB. -/
import Derived.Test.YtjibcekillcgjaaDoorSSubsFindsFrm
import Derived.Test.YtjibcekillcgjaaDoorSSubsFindsSbA
import Derived.Test.YtjibcekillcgjaaDoorSSubsFindsQx0
import Derived.Deep.RegionHeld3
import Derived.BigQuiet
set_option linter.unusedVariables false
set_option linter.unusedSimpArgs false
namespace Go.Proofs.YtjibcekillcgjaaDoor.Sb
open Go Go.RowKit Go.ChangeMaps Go.MapKept Go.Proofs.YtjibcekillcgjaaDoorW.PrintWords Go.Proofs.YtjibcekillcgjaaDoor.Q Go.Proofs.YtjibcekillcgjaaDoor.Mp Go.Proofs.YtjibcekillcgjaaDoor.Top Go.Proofs.YtjibcekillcgjaaDoor.Fm
abbrev Ent := Key × (Int × Int)
def XB (xb mb : Nat) (k : Nat) : Prop := k = xb ∨ k = mb
theorem IAt.frm {W W' : World} {xb mb : Nat} {es : List Ent} {n : Int} {S : Nat → Prop} (h : IAt W xb mb es n) (hf : Frm S W W') (h1 : ¬ S xb) (h2 : ¬ S mb) : IAt W' xb mb es n := by
  have hl := h.lt
  obtain ⟨e1, L, e2, e3⟩ := h
  exact ⟨(hf.block xb hl.1 h1).trans e1, L, e2.same (hf.block mb hl.2 h2), e3⟩
theorem filter_no {s : ByteArray} (h : isFilter s = false) (W : World) (hL : Laid W) : Calls Tryd.prog 23 #[.string s] W fun e W' => e = .returned (.int .i64 121) ∧ Below W.heap.size W W' := by
  have := filter_calls s W hL
  rw [h] at this
  exact this
theorem filter_yes {s : ByteArray} (h : isFilter s = true) (W : World) (hL : Laid W) : Calls Tryd.prog 23 #[.string s] W fun e W' => e = .returned (.int .i64 0) ∧ Below W.heap.size W W' := by
  have := filter_calls s W hL
  rw [h] at this
  exact this
def badQ (q : Int) : Bool := decide (q < 0) || decide (2 < q)
def goodB (k : Key) (q : Int) : Bool := isFilter k.2 && !badQ q
def addE (k : Key) (q : Int) : Int := if isFilter k.2 = true then (if badQ q = true then 1 else 0) else 121
def addB (es : List Ent) (k : Key) (q : Int) : Bool := goodB k q && (getL es k).isSome
def addF (es : List Ent) (n : Int) (k : Key) (q : Int) : List Ent := if goodB k q = true then (if (getL es k).isSome = true then setP es k q else es ++ [(k, (q, n + 1))]) else es
def addN (es : List Ent) (n : Int) (k : Key) (q : Int) : Int := if goodB k q = true then (if (getL es k).isSome = true then n else n + 1) else n
def AddPost (W : World) (xb mb : Nat) (es : List Ent) (n : Int) (k : Key) (q : Int) (e : Ending) (W' : World) : Prop :=
  e = .returned (.tuple #[.bool (addB es k q), .int .i64 (addE k q)]) ∧ Frm (XB xb mb) W W' ∧ IAt W' xb mb (addF es n k q) (addN es n k q)
theorem zeroE (w : World) : (zeroValue 63).run Tryd.prog w = .ok (entV (0, 0)) w := by kernel_rfl
theorem look_run {W w : World} {xb mb : Nat} {es : List Ent} {n : Int} (h : IAt W xb mb es n) (hb : Below W.heap.size W w) (k : Key) (hk : okK k) (c : Bool) {V : Value} (hV : (if c then .tuple #[lookV entV (entV (0, 0)) (getL es k), .bool (getL es k).isSome] else lookV entV (entV (0, 0)) (getL es k)) = V) :
    (Instr.lookup 56 (.map (some mb)) (.agg #[.string k.1, .string k.2]) c).run Tryd.prog w = .ok V w := by
  obtain ⟨_, L, hM, hA⟩ := h.below hb
  have := hM.look keyT Tryd.underlying56 hk c (zeroE w)
  rw [hA.get, hV] at this
  exact this
theorem cell_later {W w : World} (hb : Below W.heap.size W w) {p : Addr} {v : Value} (h : W.cell? p = some v) : w.cell? p = some v := (hb.cell (World.block_lt_of_cell? W p h)).trans h
def AddS (W : World) (xb mb kb : Nat) (k : Key) (V : Value) (w : World) : Prop :=
  Below W.heap.size W w ∧ w.cell? ⟨xb, 0, none⟩ = some (.map (some mb)) ∧ w.cell? ⟨kb, 0, none⟩ = some (.string k.1) ∧ w.cell? ⟨kb, 1, none⟩ = some (.string k.2) ∧ (Instr.lookup 56 (.map (some mb)) (.agg #[.string k.1, .string k.2]) true).run Tryd.prog w = .ok V w
theorem AddS.of {W w : World} {xb mb kb : Nat} {k : Key} {V : Value} (HL : ∀ w, Below W.heap.size W w → (Instr.lookup 56 (.map (some mb)) (.agg #[.string k.1, .string k.2]) true).run Tryd.prog w = .ok V w) (h0 : AddS W xb mb kb k V W) (hb : Below W.heap.size W w) : AddS W xb mb kb k V w :=
  ⟨hb, Sb.cell_later hb h0.2.1, Sb.cell_later hb h0.2.2.1, Sb.cell_later hb h0.2.2.2.1, HL w hb⟩
theorem AddS.alloc {W w : World} {xb mb kb : Nat} {k : Key} {V : Value} (HL : ∀ w, Below W.heap.size W w → (Instr.lookup 56 (.map (some mb)) (.agg #[.string k.1, .string k.2]) true).run Tryd.prog w = .ok V w) (h0 : AddS W xb mb kb k V W) (h : AddS W xb mb kb k V w) (o : Obj) : AddS W xb mb kb k V (w.alloc o) := AddS.of HL h0 (h.1.alloc h.1.size o)
theorem AddS.drew {W w : World} {xb mb kb : Nat} {k : Key} {V : Value} (HL : ∀ w, Below W.heap.size W w → (Instr.lookup 56 (.map (some mb)) (.agg #[.string k.1, .string k.2]) true).run Tryd.prog w = .ok V w) (h0 : AddS W xb mb kb k V W) (h : AddS W xb mb kb k V w) : AddS W xb mb kb k V w.drew := AddS.of HL h0 h.1.drew
set_option maxHeartbeats 4000000 in
set_option maxRecDepth 1000000 in
theorem add_calls (W : World) (xb mb : Nat) (es : List Ent) (n : Int) (k : Key) (q : Int) (hL : Laid W) (hI : IAt W xb mb es n) (hk : okK k) (hn : 0 ≤ n) (hn2 : n ≤ 1000000) :
    Calls Tryd.prog 10 #[.pointer (some ⟨xb, 0, none⟩), .string k.1, .agg #[.string k.2, .int .i64 q]] W (AddPost W xb mb es n k q) := by
  have hal := (Below.refl W.heap.size W).alloc (Nat.le_refl _) (.cells #[.string k.2, .int .i64 q] 33 (0, 0))
  have hk0 := blk_new W (.cells #[.string k.2, .int .i64 q] 33 (0, 0))
  have z0 := blk_cell hk0 0
  have HK := Lib.hid (And.intro hal (And.intro hk0 hI))
  have hlt := Lib.hid hI.lt
  have HS := Lib.hid hk
  have HN := Lib.hid hI.ne
  have quiet : ∀ (b : Bool) (er : Int) (w1 : World), goodB k q = false → addE k q = er → b = false → Below (W.alloc (.cells #[.string k.2, .int .i64 q] 33 (0, 0))).heap.size (W.alloc (.cells #[.string k.2, .int .i64 q] 33 (0, 0))) w1 → AddPost W xb mb es n k q (.returned (.tuple #[.bool b, .int .i64 er])) w1 := by
    intro b er w1 h1 h2 h3 h4
    have hb := hal.trans (h4.mono hal.size)
    refine ⟨by unfold addB; rw [h1, h2, h3]; rfl, Frm.of_below hb, ?_⟩
    unfold addF addN
    rw [if_neg (by rw [h1]; decide), if_neg (by rw [h1]; decide)]
    exact hI.below hb
  have Q := Aside0.mk quiet
  clear quiet
  cases hf : isFilter k.2
  · have cN := filter_no hf _ (hL.below hal)
    have F := Lib.hid (show goodB k q = false ∧ addE k q = 121 by unfold goodB addE; rw [hf]; exact ⟨rfl, rfl⟩)
    clear hf hk0 hal hI hL hk hn hn2
    go_enter Tryd.func10, Tryd.ntmps10
    go_wp2_with (go_at_call 23; refine cN.mono ?_; rintro e w1 ⟨rfl, hb1⟩)
    go_ret2
    exact Q.out false 121 w1 F.out.1 F.out.2 rfl hb1
  have cN := filter_yes hf _ (hL.below hal)
  clear hL
  cases h0 : decide (q < 0)
  · cases h2 : decide (2 < q)
    · have F := Lib.hid (show goodB k q = true ∧ addE k q = 0 by unfold goodB addE badQ; rw [hf, h0, h2]; exact ⟨rfl, rfl⟩)
      clear hf hk0 hal hI hk
      have h2' : decide (q > 2) = false := h2
      obtain ⟨V, hV⟩ : ∃ V, V = getL es k := ⟨_, rfl⟩
      have HV := Lib.hid hV
      clear hV
      cases V with
      | none =>
        have HL : ∀ w, Below W.heap.size W w → (Instr.lookup 56 (.map (some mb)) (.agg #[.string k.1, .string k.2]) true).run Tryd.prog w = .ok (.tuple #[.agg #[.int .i64 0, .int .i64 0], .bool false]) w := fun w hb => look_run HK.out.2.2 hb k HS.out true (by rw [← HV.out]; rfl)
        have HL := Lib.hid HL
        rename_i HL0
        clear HL0
        go_enter Tryd.func10, Tryd.ntmps10
        go_wp2_with (go_at_call 23; refine cN.mono ?_; rintro e w1 ⟨rfl, hb1⟩; have hk1 := blk_below HK.out.2.1 hb1; have q0 := blk_cell hk1 0; have q1 := blk_cell hk1 1)
        have hB1 := HK.out.1.trans (hb1.mono HK.out.1.size)
        have hB2 := hB1.alloc hB1.size (.cells #[.string k.1, .string k.2] 61 (0, 0))
        have hkb := blk_new w1 (.cells #[.string k.1, .string k.2] 61 (0, 0))
        have hk2 := blk_alloc hk1 (.cells #[.string k.1, .string k.2] 61 (0, 0))
        have hs2 : (w1.alloc (.cells #[.string k.1, .string k.2] 61 (0, 0))).heap.size = w1.heap.size + 1 := by simp
        have hW1 : W.heap.size < w1.heap.size := blk_lt hk1
        clear cN z0 q0 q1 hk1 hb1 hB1 Q h0 h2 h2'
        generalize w1.alloc (.cells #[.string k.1, .string k.2] 61 (0, 0)) = w2 at hB2 hkb hk2 hs2 ⊢
        obtain ⟨kb, hkbe⟩ : ∃ x, x = w1.heap.size := ⟨_, rfl⟩
        rw [← hkbe] at hkb hs2 hW1 ⊢
        clear hkbe
        have hI2 := HK.out.2.2.below hB2
        have HL2 := fun w (hb : Below w2.heap.size w2 w) => HL.out w (hB2.trans (hb.mono hB2.size))
        have hS : AddS w2 xb mb kb k (.tuple #[.agg #[.int .i64 0, .int .i64 0], .bool false]) w2 := ⟨Below.refl _ _, blk_cell hI2.1 0, blk_cell hkb 0, blk_cell hkb 1, HL2 w2 (Below.refl _ _)⟩
        have HL2 := Aside0.mk HL2
        have H0 := Lib.hid hS
        have HB2 := Lib.hid (And.intro hB2 (And.intro hkb (And.intro hk2 hs2)))
        clear hB2 hkb hk2 hs2 hI2 HL hlt
        rename_i HL0
        clear HL0
        go_region_held3 (fun w' => Below w2.heap.size w2 w' ∧ w'.cell? ⟨xb, 0, none⟩ = some (.map (some mb)) ∧ w'.cell? ⟨kb, 0, none⟩ = some (.string k.1) ∧ w'.cell? ⟨kb, 1, none⟩ = some (.string k.2) ∧ (Instr.lookup 56 (.map (some mb)) (.agg #[.string k.1, .string k.2]) true).run Tryd.prog w' = .ok (.tuple #[.agg #[.int .i64 0, .int .i64 0], .bool false]) w')
          (first | assumption | exact AddS.alloc HL2.out H0.out (by assumption) _ | exact AddS.drew HL2.out H0.out (by assumption) | exact AddS.of HL2.out H0.out ((Below.refl _ _).alloc (Nat.le_refl _) _) | exact AddS.of HL2.out H0.out ((Below.refl _ _).alloc (Nat.le_refl _) _).drew)
          (fail)
        all_goals
          have hb3 : Below w2.heap.size w2 ((w2.alloc (.cells #[.int .i64 0, .int .i64 0] 63 (0, 0))).drew) := ((Below.refl _ _).alloc (Nat.le_refl _) _).drew
          have hk3 : ((w2.alloc (.cells #[.int .i64 0, .int .i64 0] 63 (0, 0))).drew).heap[w2.heap.size]? = some (.cells #[.int .i64 0, .int .i64 0] 63 (0, 0)) := blk_drew (blk_new w2 _)
          clear hS
          generalize (w2.alloc (.cells #[.int .i64 0, .int .i64 0] 63 (0, 0))).drew = w3 at hb3 hk3 ⊢
          rename_i hHeld
          clear hHeld
          obtain ⟨hB2, hkb, hk2, hs2⟩ := HB2.out
          have hI3 := HK.out.2.2.below (hB2.trans (hb3.mono hB2.size))
          have hlt := HK.out.2.2.lt
          have hB3 := hB2.trans (hb3.mono hB2.size)
          have hkb3 := blk_below hkb hb3
          have hk23 := blk_below hk2 hb3
          have hs3 : w2.heap.size < w3.heap.size := blk_lt hk3
          obtain ⟨eb, hebe⟩ : ∃ x, x = w2.heap.size := ⟨_, rfl⟩
          rw [← hebe] at hk3 hs2 hs3 ⊢
          have n1 : ¬ (eb = xb) := by omega
          have n2 : ¬ (xb = eb) := by omega
          have m1 : ¬ (eb = mb) := by omega
          have m2 : ¬ (kb = xb) := by omega
          have m3 : ¬ (kb = eb) := by omega
          have m4 : ¬ (W.heap.size = xb) := by omega
          have m5 : ¬ (W.heap.size = eb) := by omega
          have HM := Lib.hid (And.intro m1 (And.intro m2 (And.intro m3 (And.intro m4 (And.intro m5 (show W.heap.size ≤ eb by omega))))))
          have x0 := blk_cell hI3.1 0
          have x1 := blk_cell hI3.1 1
          have x2 := blk_frozen hI3.1 1
          have y0 := blk_cell hk3 0
          have y1 := blk_cell hk3 1
          have y2 := blk_frozen hk3 1
          have HH := Lib.hid (And.intro hI3 (And.intro hB3 (And.intro hkb3 (And.intro hk23 hk3))))
          clear hB2 hkb hk2 hs2 hI3 hlt hB3 hkb3 hk23 hk3 hb3 hs3 hebe m1 m2 m3 m4 m5 H0 HB2
          go_wp2
          obtain ⟨⟨hI1, L, hM3, hA3⟩, hB3, hkb3, hk23, hk3⟩ := HH.out
          obtain ⟨m1, m2, m3, m4, m5, m6⟩ := HM.out
          have nm := HN.out
          have hx4 := blk_far (blk_put hI1 1 (.int .i64 (n + 1)) rfl) (p := ⟨eb, 1, none⟩) n2 (.int .i64 (n + 1))
          have he4 := blk_put (blk_far hk3 (p := ⟨xb, 1, none⟩) n1 (.int .i64 (n + 1))) 1 (.int .i64 (n + 1)) rfl
          have hkb4 := blk_far (blk_far hkb3 (p := ⟨xb, 1, none⟩) m2 (.int .i64 (n + 1))) (p := ⟨eb, 1, none⟩) m3 (.int .i64 (n + 1))
          have hk24 := blk_far (blk_far hk23 (p := ⟨xb, 1, none⟩) m4 (.int .i64 (n + 1))) (p := ⟨eb, 1, none⟩) m5 (.int .i64 (n + 1))
          have hM4 := hM3.same (W' := (w3.setCell ⟨xb, 1, none⟩ (.int .i64 (n + 1))).setCell ⟨eb, 1, none⟩ (.int .i64 (n + 1))) ((Below.heap_setCell _ ⟨eb, 1, none⟩ _ mb (fun e => m1 e.symm)).trans (Below.heap_setCell _ ⟨xb, 1, none⟩ _ mb (fun e => nm e.symm)))
          have hF4 := ((Frm.of_below (S := XB xb mb) hB3).setCell (p := ⟨xb, 1, none⟩) (.inl (.inl rfl)) (.int .i64 (n + 1))).setCell (p := ⟨eb, 1, none⟩) (.inr m6) (.int .i64 (n + 1))
          clear hI1 hM3 hB3 hkb3 hk23 hk3 m1 m2 m3 m4 m5 m6 nm n1 n2 x0 x1 x2 y0 y1 y2 HH HM HL2 hW1
          generalize (w3.setCell ⟨xb, 1, none⟩ (.int .i64 (n + 1))).setCell ⟨eb, 1, none⟩ (.int .i64 (n + 1)) = w4 at hx4 he4 hkb4 hk24 hM4 hF4 ⊢
          have x0 := blk_cell hx4 0
          have x1 := blk_cell hx4 1
          have y0 := blk_cell he4 0
          have y1 := blk_cell he4 1
          have u0 := blk_cell hkb4 0
          have u1 := blk_cell hkb4 1
          have v0 := blk_cell hk24 0
          have v1 := blk_cell hk24 1
          have HX := Lib.hid (And.intro hx4 hA3)
          clear hx4 he4 hkb4 hk24 hA3
          go_still_tail 10, (by kernel_rfl)
          change wpList _ _ _ _ _ (w4.drewN 1)
          have hM5 := hM4.below (pw_below_drewN (Below.refl w4.heap.size w4) 1)
          have hF5 := hF4.drewN 1
          have hx5 := blk_drewN HX.out.1 1
          have HX5 := Lib.hid (And.intro hx5 HX.out.2)
          clear hM4 hF4 HX hx5
          generalize w4.drewN 1 = w5 at hM5 hF5 HX5 ⊢
          go_wp2_with (first | (refine wpList_put (mk := keyV) (mv := entV) (ok := okK) _ rfl _ _ _ 56 rfl 61 63 keyT Tryd.underlying56 mb L rfl hM5 k (q, n + 1) rfl HS.out rfl ?_; intro w6 hm6 hg6 hz6))
          go_ret2
          have hnone : (getL es k).isSome = false := by rw [← HV.out]; rfl
          refine ⟨by rw [F.out.2]; unfold addB; rw [hnone, Bool.and_false]; rfl, hF5.grown hg6 (fun j e => by injection e with e; exact .inl (.inr e.symm)), ?_⟩
          unfold addF addN
          rw [if_pos F.out.1, if_pos F.out.1, hnone]
          exact ⟨(hg6.block xb (blk_lt HX5.out.1) (fun e => by injection e with e; exact HN.out e)).trans HX5.out.1, _, hm6, HX5.out.2.more hn HV.out.symm⟩
      | some p =>
        have HL : ∀ w, Below W.heap.size W w → (Instr.lookup 56 (.map (some mb)) (.agg #[.string k.1, .string k.2]) true).run Tryd.prog w = .ok (.tuple #[.agg #[.int .i64 p.1, .int .i64 p.2], .bool true]) w := fun w hb => look_run HK.out.2.2 hb k HS.out true (by rw [← HV.out]; rfl)
        have HL := Lib.hid HL
        rename_i HL0
        clear HL0
        go_enter Tryd.func10, Tryd.ntmps10
        go_wp2_with (go_at_call 23; refine cN.mono ?_; rintro e w1 ⟨rfl, hb1⟩; have hk1 := blk_below HK.out.2.1 hb1; have q0 := blk_cell hk1 0; have q1 := blk_cell hk1 1)
        have hB1 := HK.out.1.trans (hb1.mono HK.out.1.size)
        have hB2 := hB1.alloc hB1.size (.cells #[.string k.1, .string k.2] 61 (0, 0))
        have hkb := blk_new w1 (.cells #[.string k.1, .string k.2] 61 (0, 0))
        have hk2 := blk_alloc hk1 (.cells #[.string k.1, .string k.2] 61 (0, 0))
        have hs2 : (w1.alloc (.cells #[.string k.1, .string k.2] 61 (0, 0))).heap.size = w1.heap.size + 1 := by simp
        have hW1 : W.heap.size < w1.heap.size := blk_lt hk1
        clear cN z0 q0 q1 hk1 hb1 hB1 Q h0 h2 h2'
        generalize w1.alloc (.cells #[.string k.1, .string k.2] 61 (0, 0)) = w2 at hB2 hkb hk2 hs2 ⊢
        obtain ⟨kb, hkbe⟩ : ∃ x, x = w1.heap.size := ⟨_, rfl⟩
        rw [← hkbe] at hkb hs2 hW1 ⊢
        clear hkbe
        have hI2 := HK.out.2.2.below hB2
        have HL2 := fun w (hb : Below w2.heap.size w2 w) => HL.out w (hB2.trans (hb.mono hB2.size))
        have hS : AddS w2 xb mb kb k (.tuple #[.agg #[.int .i64 p.1, .int .i64 p.2], .bool true]) w2 := ⟨Below.refl _ _, blk_cell hI2.1 0, blk_cell hkb 0, blk_cell hkb 1, HL2 w2 (Below.refl _ _)⟩
        have HL2 := Aside0.mk HL2
        have H0 := Lib.hid hS
        have HB2 := Lib.hid (And.intro hB2 (And.intro hkb (And.intro hk2 hs2)))
        clear hB2 hkb hk2 hs2 hI2 HL hlt
        rename_i HL0
        clear HL0
        go_region_held3 (fun w' => Below w2.heap.size w2 w' ∧ w'.cell? ⟨xb, 0, none⟩ = some (.map (some mb)) ∧ w'.cell? ⟨kb, 0, none⟩ = some (.string k.1) ∧ w'.cell? ⟨kb, 1, none⟩ = some (.string k.2) ∧ (Instr.lookup 56 (.map (some mb)) (.agg #[.string k.1, .string k.2]) true).run Tryd.prog w' = .ok (.tuple #[.agg #[.int .i64 p.1, .int .i64 p.2], .bool true]) w')
          (first | assumption | exact AddS.alloc HL2.out H0.out (by assumption) _ | exact AddS.drew HL2.out H0.out (by assumption) | exact AddS.of HL2.out H0.out ((Below.refl _ _).alloc (Nat.le_refl _) _) | exact AddS.of HL2.out H0.out ((Below.refl _ _).alloc (Nat.le_refl _) _).drew)
          (fail)
        all_goals
          have hb3 : Below w2.heap.size w2 ((w2.alloc (.cells #[.int .i64 p.1, .int .i64 p.2] 63 (0, 0))).drew) := ((Below.refl _ _).alloc (Nat.le_refl _) _).drew
          have hk3 : ((w2.alloc (.cells #[.int .i64 p.1, .int .i64 p.2] 63 (0, 0))).drew).heap[w2.heap.size]? = some (.cells #[.int .i64 p.1, .int .i64 p.2] 63 (0, 0)) := blk_drew (blk_new w2 _)
          clear hS
          generalize (w2.alloc (.cells #[.int .i64 p.1, .int .i64 p.2] 63 (0, 0))).drew = w3 at hb3 hk3 ⊢
          rename_i hHeld
          clear hHeld
          obtain ⟨hB2, hkb, hk2, hs2⟩ := HB2.out
          have hI3 := HK.out.2.2.below (hB2.trans (hb3.mono hB2.size))
          have hlt := HK.out.2.2.lt
          have hB3 := hB2.trans (hb3.mono hB2.size)
          have hkb3 := blk_below hkb hb3
          have hk23 := blk_below hk2 hb3
          have hs3 : w2.heap.size < w3.heap.size := blk_lt hk3
          obtain ⟨eb, hebe⟩ : ∃ x, x = w2.heap.size := ⟨_, rfl⟩
          rw [← hebe] at hk3 hs2 hs3 ⊢
          have n1 : ¬ (eb = xb) := by omega
          have n2 : ¬ (xb = eb) := by omega
          have m1 : ¬ (eb = mb) := by omega
          have m2 : ¬ (kb = xb) := by omega
          have m3 : ¬ (kb = eb) := by omega
          have m4 : ¬ (W.heap.size = xb) := by omega
          have m5 : ¬ (W.heap.size = eb) := by omega
          have HM := Lib.hid (And.intro m1 (And.intro m2 (And.intro m3 (And.intro m4 (And.intro m5 (show W.heap.size ≤ eb by omega))))))
          have x0 := blk_cell hI3.1 0
          have x1 := blk_cell hI3.1 1
          have x2 := blk_frozen hI3.1 1
          have y0 := blk_cell hk3 0
          have y1 := blk_cell hk3 1
          have y2 := blk_frozen hk3 1
          have HH := Lib.hid (And.intro hI3 (And.intro hB3 (And.intro hkb3 (And.intro hk23 hk3))))
          clear hB2 hkb hk2 hs2 hI3 hlt hB3 hkb3 hk23 hk3 hb3 hs3 hebe m1 m2 m3 m4 m5 H0 HB2
          go_wp2
          obtain ⟨⟨hx4, L, hM4, hA3⟩, hB3, hkb4, hk24, he4⟩ := HH.out
          have hF4 := Frm.of_below (S := XB xb mb) hB3
          have x0 := blk_cell hx4 0
          have x1 := blk_cell hx4 1
          have y0 := blk_cell he4 0
          have y1 := blk_cell he4 1
          have u0 := blk_cell hkb4 0
          have u1 := blk_cell hkb4 1
          have v0 := blk_cell hk24 0
          have v1 := blk_cell hk24 1
          have HX := Lib.hid (And.intro hx4 hA3)
          clear hx4 he4 hkb4 hk24 hA3 HH HM HL2 hW1 n1 n2 x2 y2
          go_still_tail 10, (by kernel_rfl)
          change wpList _ _ _ _ _ (w3.drewN 1)
          have hM5 := hM4.below (pw_below_drewN (Below.refl w3.heap.size w3) 1)
          have hF5 := hF4.drewN 1
          have hx5 := blk_drewN HX.out.1 1
          have HX5 := Lib.hid (And.intro hx5 HX.out.2)
          clear hM4 hF4 HX hx5
          generalize w3.drewN 1 = w5 at hM5 hF5 HX5 ⊢
          go_wp2_with (first | (refine wpList_put (mk := keyV) (mv := entV) (ok := okK) _ rfl _ _ _ 56 rfl 61 63 keyT Tryd.underlying56 mb L rfl hM5 k (q, p.2) rfl HS.out rfl ?_; intro w6 hm6 hg6 hz6))
          go_ret2
          have hsome : (getL es k).isSome = true := by rw [← HV.out]; rfl
          refine ⟨by rw [F.out.2]; unfold addB; rw [hsome, F.out.1]; rfl, hF5.grown hg6 (fun j e => by injection e with e; exact .inl (.inr e.symm)), ?_⟩
          unfold addF addN
          rw [if_pos F.out.1, if_pos F.out.1, if_pos hsome, if_pos hsome]
          exact ⟨(hg6.block xb (blk_lt HX5.out.1) (fun e => by injection e with e; exact HN.out e)).trans HX5.out.1, _, hm6, HX5.out.2.again HV.out.symm⟩
    · have F := Lib.hid (show goodB k q = false ∧ addE k q = 1 by unfold goodB addE badQ; rw [hf, h0, h2]; exact ⟨rfl, rfl⟩)
      clear hf hk0 hal hI hk
      have h2' : decide (q > 2) = true := h2
      go_enter Tryd.func10, Tryd.ntmps10
      go_wp2_with (go_at_call 23; refine cN.mono ?_; rintro e w1 ⟨rfl, hb1⟩; have hk1 := blk_below HK.out.2.1 hb1; have q0 := blk_cell hk1 0; have q1 := blk_cell hk1 1)
      go_ret2
      exact Q.out false 1 w1 F.out.1 F.out.2 rfl hb1
  · have F := Lib.hid (show goodB k q = false ∧ addE k q = 1 by unfold goodB addE badQ; rw [hf, h0]; exact ⟨rfl, rfl⟩)
    clear hf hk0 hal hI hk
    go_enter Tryd.func10, Tryd.ntmps10
    go_wp2_with (go_at_call 23; refine cN.mono ?_; rintro e w1 ⟨rfl, hb1⟩; have hk1 := blk_below HK.out.2.1 hb1; have q0 := blk_cell hk1 0; have q1 := blk_cell hk1 1)
    go_ret2
    exact Q.out false 1 w1 F.out.1 F.out.2 rfl hb1
end Go.Proofs.YtjibcekillcgjaaDoor.Sb
