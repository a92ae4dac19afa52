/- What the proof of SubsFinds leans on: SbD. -/
import Derived.Test.YtjibcekillcgjaaDoorSSubsFindsSbC
import Derived.Shelf.SlSortCmp.WholeK
set_option linter.unusedVariables false
set_option linter.unusedSimpArgs false
namespace Go.Proofs.YtjibcekillcgjaaDoor.Sb
open Go Go.RowKit Go.ChangeMaps Go.MapKept Go.Proofs.YtjibcekillcgjaaDoorW.PrintWords Go.Proofs.YtjibcekillcgjaaDoor.Q Go.Proofs.YtjibcekillcgjaaDoor.Mp Go.Proofs.YtjibcekillcgjaaDoor.Top Go.Proofs.YtjibcekillcgjaaDoor.Fm
open Go.Sort (grow SWO)
abbrev KeyS := {k : Key // okK k}
def zK : KeyS := ⟨(⟨#[]⟩, ⟨#[]⟩), by unfold okK maxLen; decide⟩
instance : Inhabited KeyS := ⟨zK⟩
def kK : Kd KeyS := Kd.iso (Kd.pair Kd.string Kd.string) (fun x : KeyS => x.1)
def encK (x : KeyS) : List Value := [.string x.1.1, .string x.1.2]
theorem kK_open {w : World} {x : KeyS} {cs : List Value} (h : kK.K w x cs) : cs = encK x := by
  obtain ⟨_, _, rfl, rfl, rfl⟩ := h
  exact rfl
theorem kK_openM {w : World} {base : Nat} {ok : Nat → Prop} {x : KeyS} {cs : List Value} (h : kK.M w base ok x cs) : cs = encK x := by
  obtain ⟨_, _, rfl, rfl, rfl⟩ := h
  exact rfl
theorem kK_mkM (w : World) (base : Nat) (ok : Nat → Prop) (x : KeyS) : kK.M w base ok x (encK x) := ⟨[.string x.1.1], [.string x.1.2], rfl, rfl, rfl⟩
def rd_K (xs : List KeyS) (i : Int) : KeyS := xs.getD i.toNat zK
theorem at_K {w : World} {A : Option Addr} {n : Nat} {xs : List KeyS} (h : Kd.C kK w A n xs) (i : Int) (h0 : 0 ≤ i) (h1 : i < n) : ∃ ad , A = some ad ∧ w.cell? (ad.add (i.toNat * 2)) = some (.string (rd_K xs i).1.1) ∧ w.cell? ⟨(ad.add (i.toNat * 2)).block, (ad.add (i.toNat * 2)).off + 1, none⟩ = some (.string (rd_K xs i).1.2) := by
  obtain ⟨ad, c, e, _, hK, hc0⟩ := Kd.C_get h zK i h0 h1
  have hc : ∀ j u, c[j]? = some u → w.cell? (ad.add (i.toNat * 2 + j)) = some u := hc0
  obtain rfl := kK_open hK
  exact ⟨ad, e, hc 0 _ rfl, by rw [← add_field _ _ 1 (by omega)]; exact hc 1 _ rfl⟩
def cmpI (a b : Int) : Int := if a < b then -1 else if b < a then 1 else 0
theorem nanI_calls (x : Int) (w : World) : Calls Tryd.prog 38 #[.int .i64 x] w fun e w' => e = .returned (.bool false) ∧ w = w' := by
  go_enter Tryd.func38, Tryd.ntmps38
  go_wp2
  go_ret
  exact ⟨by simp, rfl⟩
set_option maxHeartbeats 1000000 in
theorem cmpI_calls (x y : Int) (w : World) : Calls Tryd.prog 26 #[.int .i64 x, .int .i64 y] w fun e w' => e = .returned (.int .i64 (cmpI x y)) ∧ w = w' := by
  unfold cmpI
  by_cases h1 : x < y
  · rw [if_pos h1]
    have h1' : decide (x < y) = true := decide_eq_true h1
    clear h1
    go_enter Tryd.func26, Tryd.ntmps26
    go_wp2_with (go_at_call 38; refine (nanI_calls _ _).mono ?_; rintro e w' ⟨rfl, rfl⟩)
    go_ret
    exact ⟨rfl, rfl⟩
  · rw [if_neg h1]
    have h1' : decide (x < y) = false := decide_eq_false h1
    by_cases h2 : y < x
    · rw [if_pos h2]
      have h2' : decide (x > y) = true := decide_eq_true h2
      clear h1 h2
      go_enter Tryd.func26, Tryd.ntmps26
      go_wp2_with (go_at_call 38; refine (nanI_calls _ _).mono ?_; rintro e w' ⟨rfl, rfl⟩)
      go_ret
      exact ⟨rfl, rfl⟩
    · rw [if_neg h2]
      have h2' : decide (x > y) = false := decide_eq_false h2
      clear h1 h2
      go_enter Tryd.func26, Tryd.ntmps26
      go_wp2_with (go_at_call 38; refine (nanI_calls _ _).mono ?_; rintro e w' ⟨rfl, rfl⟩)
      go_ret
      exact ⟨rfl, rfl⟩
def plc (es : List Ent) (k : Key) : Int := ((getL es k).getD (0, 0)).2
def qty (es : List Ent) (k : Key) : Int := ((getL es k).getD (0, 0)).1
theorem look_one (es : List Ent) (k : Key) : (if false = true then Value.tuple #[lookV entV (entV (0, 0)) (getL es k), .bool (getL es k).isSome] else lookV entV (entV (0, 0)) (getL es k)) = .agg #[.int .i64 (qty es k), .int .i64 (plc es k)] := by
  rw [if_neg (by decide)]
  unfold qty plc
  cases getL es k <;> rfl
theorem field0 (a b : Int) (w : World) : (Instr.field 63 (.agg #[.int .i64 a, .int .i64 b]) 0).run Tryd.prog w = .ok (.int .i64 a) w := by kernel_rfl
theorem field1 (a b : Int) (w : World) : (Instr.field 63 (.agg #[.int .i64 a, .int .i64 b]) 1).run Tryd.prog w = .ok (.int .i64 b) w := by kernel_rfl
def ClosS (W : World) (bx xb mb b1 b2 : Nat) (x y : Key) (q1 p1 q2 p2 : Int) (w : World) : Prop :=
  Below W.heap.size W w ∧ w.cell? ⟨bx, 0, none⟩ = some (.pointer (some ⟨xb, 0, none⟩)) ∧ w.cell? ⟨xb, 0, none⟩ = some (.map (some mb)) ∧ w.cell? ⟨b1, 0, none⟩ = some (.string x.1) ∧ w.cell? ⟨b1, 1, none⟩ = some (.string x.2) ∧ w.cell? ⟨b2, 0, none⟩ = some (.string y.1) ∧ w.cell? ⟨b2, 1, none⟩ = some (.string y.2) ∧ (Instr.lookup 56 (.map (some mb)) (.agg #[.string x.1, .string x.2]) false).run Tryd.prog w = .ok (.agg #[.int .i64 q1, .int .i64 p1]) w ∧ (Instr.lookup 56 (.map (some mb)) (.agg #[.string y.1, .string y.2]) false).run Tryd.prog w = .ok (.agg #[.int .i64 q2, .int .i64 p2]) w
theorem ClosS.of {W w : World} {bx xb mb b1 b2 : Nat} {x y : Key} {q1 p1 q2 p2 : Int} (HL : ∀ w, Below W.heap.size W w → (Instr.lookup 56 (.map (some mb)) (.agg #[.string x.1, .string x.2]) false).run Tryd.prog w = .ok (.agg #[.int .i64 q1, .int .i64 p1]) w ∧ (Instr.lookup 56 (.map (some mb)) (.agg #[.string y.1, .string y.2]) false).run Tryd.prog w = .ok (.agg #[.int .i64 q2, .int .i64 p2]) w) (h0 : ClosS W bx xb mb b1 b2 x y q1 p1 q2 p2 W) (hb : Below W.heap.size W w) : ClosS W bx xb mb b1 b2 x y q1 p1 q2 p2 w := by
  obtain ⟨_, h1, h2, h3, h4, h5, h6, _⟩ := h0
  exact ⟨hb, cell_later hb h1, cell_later hb h2, cell_later hb h3, cell_later hb h4, cell_later hb h5, cell_later hb h6, HL w hb⟩
set_option maxHeartbeats 4000000 in
set_option maxRecDepth 1000000 in
theorem clos_of (W : World) (bx xb mb : Nat) (es : List Ent) (n : Int) (x y : KeyS) (hbox : W.heap[bx]? = some (.cells #[.pointer (some ⟨xb, 0, none⟩)] 25 (0, 0))) (hI : IAt W xb mb es n) :
    Calls Tryd.prog 25 #[.agg #[.string x.1.1, .string x.1.2], .agg #[.string y.1.1, .string y.1.2], .pointer (some ⟨bx, 0, none⟩)] W fun e w' => e = .returned (.int .i64 (cmpI (plc es x.1) (plc es y.1))) ∧ ∃ q os', w' = grow (W.drewN q) os' := by
  have hcon := fun W' => cmpI_calls (plc es x.1) (plc es y.1) W'
  have hb1 := (Below.refl W.heap.size W).alloc (Nat.le_refl _) (.cells #[.string x.1.1, .string x.1.2] 61 (0, 0))
  have hb2 := hb1.alloc hb1.size (.cells #[.string y.1.1, .string y.1.2] 61 (0, 0))
  have k2 := blk_new (W.alloc (.cells #[.string x.1.1, .string x.1.2] 61 (0, 0))) (.cells #[.string y.1.1, .string y.1.2] 61 (0, 0))
  have k1 := blk_alloc (blk_new W (.cells #[.string x.1.1, .string x.1.2] 61 (0, 0))) (.cells #[.string y.1.1, .string y.1.2] 61 (0, 0))
  have hsz : (W.alloc (.cells #[.string x.1.1, .string x.1.2] 61 (0, 0))).heap.size = W.heap.size + 1 := by simp
  rw [hsz] at k2
  have F0 := Lib.hid (And.intro hb2 (And.intro k1 (And.intro k2 (And.intro hbox hI))))
  have HL : ∀ w, Below W.heap.size W w → (Instr.lookup 56 (.map (some mb)) (.agg #[.string x.1.1, .string x.1.2]) false).run Tryd.prog w = .ok (.agg #[.int .i64 (qty es x.1), .int .i64 (plc es x.1)]) w ∧ (Instr.lookup 56 (.map (some mb)) (.agg #[.string y.1.1, .string y.1.2]) false).run Tryd.prog w = .ok (.agg #[.int .i64 (qty es y.1), .int .i64 (plc es y.1)]) w := fun w hb => ⟨look_run hI hb x.1 x.2 false (look_one es x.1), look_run hI hb y.1 y.2 false (look_one es y.1)⟩
  have HL := Aside0.mk HL
  clear k1 k2 hb1 hb2 hI hbox hsz
  rename_i HL0
  clear HL0
  have f1 := field1
  generalize qty es x.1 = q1 at *
  generalize qty es y.1 = q2 at *
  generalize plc es x.1 = p1 at *
  generalize plc es y.1 = p2 at *
  generalize cmpI p1 p2 = r at *
  have HG : ∀ q, ∃ os', (((W.alloc (.cells #[.string x.1.1, .string x.1.2] 61 (0, 0))).alloc (.cells #[.string y.1.1, .string y.1.2] 61 (0, 0))).drewN q) = grow (W.drewN q) os' := fun q => ⟨_, by rw [Go.Sort.alloc_eq_grow, Go.Sort.alloc_eq_grow, Go.Sort.grow_grow]; rfl⟩
  have HG := Aside0.mk HG
  rename_i HG0
  clear HG0
  go_enter Tryd.func25, Tryd.ntmps25
  go_wp2
  generalize (W.alloc (.cells #[.string x.1.1, .string x.1.2] 61 (0, 0))).alloc (.cells #[.string y.1.1, .string y.1.2] 61 (0, 0)) = W2 at F0 HG ⊢
  obtain ⟨hb2, k1, k2, hbox, hI⟩ := F0.out
  have HL2 : ∀ w, Below W2.heap.size W2 w → (Instr.lookup 56 (.map (some mb)) (.agg #[.string x.1.1, .string x.1.2]) false).run Tryd.prog w = .ok (.agg #[.int .i64 q1, .int .i64 p1]) w ∧ (Instr.lookup 56 (.map (some mb)) (.agg #[.string y.1.1, .string y.1.2]) false).run Tryd.prog w = .ok (.agg #[.int .i64 q2, .int .i64 p2]) w := fun w hb => HL.out w (hb2.trans (hb.mono hb2.size))
  have hS : ClosS W2 bx xb mb W.heap.size (W.heap.size + 1) x.1 y.1 q1 p1 q2 p2 W2 := ⟨Below.refl _ _, blk_cell (blk_below hbox hb2) 0, blk_cell (blk_below hI.1 hb2) 0, blk_cell k1 0, blk_cell k1 1, blk_cell k2 0, blk_cell k2 1, HL2 W2 (Below.refl _ _)⟩
  have H0 := Lib.hid hS
  have HL2 := Aside0.mk HL2
  rename_i HL0
  clear HL0 HL hb2 k1 k2 hbox hI F0
  go_region_held3 (fun w' => Below W2.heap.size W2 w' ∧ w'.cell? ⟨bx, 0, none⟩ = some (.pointer (some ⟨xb, 0, none⟩)) ∧ w'.cell? ⟨xb, 0, none⟩ = some (.map (some mb)) ∧ w'.cell? ⟨W.heap.size, 0, none⟩ = some (.string x.1.1) ∧ w'.cell? ⟨W.heap.size, 1, none⟩ = some (.string x.1.2) ∧ w'.cell? ⟨W.heap.size + 1, 0, none⟩ = some (.string y.1.1) ∧ w'.cell? ⟨W.heap.size + 1, 1, none⟩ = some (.string y.1.2) ∧ (Instr.lookup 56 (.map (some mb)) (.agg #[.string x.1.1, .string x.1.2]) false).run Tryd.prog w' = .ok (.agg #[.int .i64 q1, .int .i64 p1]) w' ∧ (Instr.lookup 56 (.map (some mb)) (.agg #[.string y.1.1, .string y.1.2]) false).run Tryd.prog w' = .ok (.agg #[.int .i64 q2, .int .i64 p2]) w')
    (first | assumption | exact ClosS.of HL2.out H0.out (by assumption) | exact ClosS.of HL2.out H0.out ((Below.refl _ _).drew))
    (first | (go_at_call 26; refine (hcon _).mono ?_; rintro e w' ⟨rfl, rfl⟩))
  all_goals
    go_wp2
    go_ret
    obtain ⟨os', ho⟩ := HG.out 1
    exact ⟨rfl, 1, os', ho⟩
end Go.Proofs.YtjibcekillcgjaaDoor.Sb
