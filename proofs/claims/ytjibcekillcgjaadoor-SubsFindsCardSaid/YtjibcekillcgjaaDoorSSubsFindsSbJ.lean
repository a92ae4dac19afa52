/- What the proof of SubsFinds leans on: SbJ. -/
import Derived.Test.YtjibcekillcgjaaDoorSSubsFindsSbI
import Derived.Test.YtjibcekillcgjaaDoorSSubsFindsP0
import Derived.Test.YtjibcekillcgjaaDoorSSubsFindsQx6
import Derived.Test.YtjibcekillcgjaaDoorSSubsFindsQx5
set_option linter.unusedVariables false
set_option linter.unusedSimpArgs false
namespace Go.Proofs.YtjibcekillcgjaaDoor.Sb
open Go Go.RowKit Go.ChangeMaps Go.MapKept Go.Proofs.YtjibcekillcgjaaDoorW.PrintWords Go.Proofs.YtjibcekillcgjaaDoor.Q Go.Proofs.YtjibcekillcgjaaDoor.Mp Go.Proofs.YtjibcekillcgjaaDoor.Top Go.Proofs.YtjibcekillcgjaaDoor.Fm
theorem wants_go (l : List WantT) (hl : l.length ≤ 1000000) : ∀ (m i k : Nat), i + m = l.length → basculeref13_Wants.l0 (k + m + 1) l l (i : Int) = some true := by
  intro m
  induction m with
  | zero =>
    intro i k hi
    rw [Nat.add_zero, basculeref13_Wants.l0, if_neg (by omega)]
  | succ m ih =>
    intro i k hi
    have := ih (i + 1) k (by omega)
    rw [show k + (m + 1) + 1 = (k + m + 1) + 1 by omega, basculeref13_Wants.l0]
    have w1 : wrap64 ((i : Int) + 1) = ((i + 1 : Nat) : Int) := by rw [w64 (by omega) (by omega)]; rfl
    rw [if_pos (by omega), if_pos (by omega), if_pos (by omega), if_neg (by simp), w1]
    exact this
theorem wants_calls (l : List WantT) (A B : Option Addr) (c d : Nat) (w : World) (hr : Kd.C k48 w A l.length l) (hc : l.length ≤ c) (hr' : Kd.C k48 w B l.length l) (hd : l.length ≤ d) (hl : l.length ≤ 1000000) :
    Calls Tryd.prog 17 #[.slice A l.length c, .slice B l.length d] w fun e w' => e = .returned (.bool true) ∧ Below w.heap.size w w' := by
  have h := wants_go l hl l.length 0 0 (by omega)
  rw [Nat.zero_add] at h
  have hk : basculeref13_Wants.f (l.length + 1) l l = some true := by
    unfold basculeref13_Wants.f
    rw [if_pos rfl]
    exact h
  refine (basculeref13_Wants.calls _ A c l B d l _ w hr hc hr' hd hk).mono ?_
  rintro e w' ⟨rfl, m, rfl⟩
  exact ⟨rfl, pw_below_drewN (Below.refl _ _) m⟩
def bA : ByteArray := ⟨#[97]⟩
def bB : ByteArray := ⟨#[98]⟩
def f1 : ByteArray := ⟨#[97, 47, 35]⟩
def f2 : ByteArray := ⟨#[97, 47, 43]⟩
def f3 : ByteArray := ⟨#[35]⟩
def nX : ByteArray := ⟨#[97, 47, 120]⟩
def es1 : List Ent := [((bB, f1), (1, 1))]
def es2 : List Ent := [((bB, f1), (1, 1)), ((bB, f2), (2, 2))]
def es3 : List Ent := [((bB, f1), (1, 1)), ((bB, f2), (2, 2)), ((bA, f3), (0, 3))]
theorem g1 : goodB (bB, f1) 1 = true := by decide +kernel
theorem g2 : goodB (bB, f2) 2 = true := by decide +kernel
theorem g3 : goodB (bA, f3) 0 = true := by decide +kernel
theorem l1 : (getL ([] : List Ent) (bB, f1)).isSome = false := rfl
theorem l2 : (getL es1 (bB, f2)).isSome = false := by decide +kernel
theorem l3 : (getL es2 (bA, f3)).isSome = false := by decide +kernel
theorem l4 : dropB es3 (bB, f2) = true := by decide +kernel
theorem l5 : dropE (bB, f2) = 0 := by decide +kernel
theorem a1 : addF [] 0 (bB, f1) 1 = es1 ∧ addN [] 0 (bB, f1) 1 = 1 := by
  unfold addF addN
  rw [if_pos g1, if_pos g1, l1]
  exact ⟨rfl, rfl⟩
theorem a2 : addF es1 1 (bB, f2) 2 = es2 ∧ addN es1 1 (bB, f2) 2 = 2 := by
  unfold addF addN
  rw [if_pos g2, if_pos g2, l2]
  exact ⟨rfl, rfl⟩
theorem a3 : addF es2 2 (bA, f3) 0 = es3 ∧ addN es2 2 (bA, f3) 0 = 3 := by
  unfold addF addN
  rw [if_pos g3, if_pos g3, l3]
  exact ⟨rfl, rfl⟩
def ws3 : List WantT := [⟨bA, 0⟩, ⟨bB, 2⟩]
theorem t2 : tkE nX ((bB, f2), (2, 2)) = true := by decide +kernel
theorem t3 : tkE nX ((bA, f3), (0, 3)) = true := by decide +kernel
theorem bne : bA ≠ bB := by decide +kernel
theorem find3 : FindIs es3 nX ws3 := by
  refine ⟨?_, fun w => ?_⟩
  · refine List.pairwise_cons.2 ⟨fun x hx => ?_, List.pairwise_singleton _ _⟩
    rw [List.mem_singleton] at hx
    subst hx
    show ltS bA bB = true
    decide +kernel
  · constructor
    · intro hw
      rcases List.mem_cons.1 hw with rfl | hw
      · refine ⟨⟨_, List.mem_cons_of_mem _ (List.mem_cons_of_mem _ List.mem_cons_self), t3, rfl, rfl⟩, fun p hp _ hc => ?_⟩
        rcases List.mem_cons.1 hp with rfl | hp
        · exact absurd hc (fun e => bne e.symm)
        rcases List.mem_cons.1 hp with rfl | hp
        · exact absurd hc (fun e => bne e.symm)
        rw [List.mem_singleton.1 hp]
        exact Int.le_refl _
      · rw [List.mem_singleton.1 hw]
        refine ⟨⟨_, List.mem_cons_of_mem _ List.mem_cons_self, t2, rfl, rfl⟩, fun p hp _ hc => ?_⟩
        rcases List.mem_cons.1 hp with rfl | hp
        · show (1 : Int) ≤ 2
          decide
        rcases List.mem_cons.1 hp with rfl | hp
        · exact Int.le_refl _
        rw [List.mem_singleton.1 hp] at hc
        exact absurd hc bne
    · rintro ⟨⟨p, hp, ht, hc, hq⟩, h2⟩
      rcases List.mem_cons.1 hp with rfl | hp
      · have h3 := h2 _ (List.mem_cons_of_mem _ List.mem_cons_self) t2 hc
        have hq' : (1 : Int) = w.f1 := hq
        have h3' : (2 : Int) ≤ w.f1 := h3
        omega
      rcases List.mem_cons.1 hp with rfl | hp
      · have e : w = ⟨bB, 2⟩ := by
          cases w
          cases hc
          cases hq
          rfl
        rw [e]
        exact List.mem_cons_of_mem _ List.mem_cons_self
      · rw [List.mem_singleton.1 hp] at hc hq
        have e : w = ⟨bA, 0⟩ := by
          cases w
          cases hc
          cases hq
          rfl
        rw [e]
        exact List.mem_cons_self
theorem C_two {w : World} {b : Nat} {x y : WantT} {e : TypeId} (h : w.heap[b]? = some (.cells #[.string x.f0, .int .i64 x.f1, .string y.f0, .int .i64 y.f1] e (0, 0))) : Kd.C k48 w (some ⟨b, 0, none⟩) 2 [x, y] := by
  refine ⟨rfl, by decide, fun _ => ⟨_, rfl, fun j p hj => ?_⟩⟩
  have hc : ∀ i, w.cell? ((⟨b, 0, none⟩ : Addr).add i) = (#[.string x.f0, .int .i64 x.f1, .string y.f0, .int .i64 y.f1] : Array Value)[i]? := fun i => by
    rw [← blk_cell h i]
    congr 1
    unfold Addr.add
    split
    · rename_i e0; rw [e0]
    · simp
  match j, hj with
  | 0, hj =>
    obtain rfl : x = p := by simpa using hj
    refine ⟨_, rfl, k48_mk w x, fun i u hi => ?_⟩
    rw [hc]
    match i, hi with
    | 0, hi => simpa using hi
    | 1, hi => simpa using hi
  | 1, hj =>
    obtain rfl : y = p := by simpa using hj
    refine ⟨_, rfl, k48_mk w y, fun i u hi => ?_⟩
    rw [hc, show k48.sz = 2 from rfl]
    match i, hi with
    | 0, hi => simpa using hi
    | 1, hi => simpa using hi
theorem R_frm {α : Type} {d : Kd α} {e base : Nat} {ok : Nat → Prop} {W W' : World} {v : Value} {xs : List α} {S : Nat → Prop} (h : Kd.R d e W base ok v xs) (hf : Frm S W W') (hn : ∀ k, base ≤ k → ¬ S k) : Kd.R d e W' base ok v xs :=
  Kd.R_mono (Kd.R_step (Kd.R_bound h) (fun k hk hlt => hf.block k hlt (hn k hk.2.1))) (fun _ hk => hk.1)
theorem XB_le {xb mb B : Nat} (h1 : B ≤ xb) (h2 : B ≤ mb) : ∀ k, XB xb mb k → B ≤ k := by
  rintro k (rfl | rfl)
  · exact h1
  · exact h2
set_option maxHeartbeats 8000000 in
set_option maxRecDepth 1000000 in
theorem awake_calls (w : World) (hL : Laid w) : Calls Tryd.prog 13 #[] w fun e w' => e = .returned (.bool true) ∧ Below w.heap.size w w' := by
  have cN := new_calls w
  have c1 := fun W (hb : Below w.heap.size w W) hK => add_calls W (w.heap.size + 1) w.heap.size [] 0 (bB, f1) 1 (hL.below hb) hK (by unfold okK maxLen; decide) (by omega) (by omega)
  have c2 := fun W (hb : Below w.heap.size w W) hK => add_calls W (w.heap.size + 1) w.heap.size es1 1 (bB, f2) 2 (hL.below hb) hK (by unfold okK maxLen; decide) (by omega) (by omega)
  have c3 := fun W (hb : Below w.heap.size w W) hK => add_calls W (w.heap.size + 1) w.heap.size es2 2 (bA, f3) 0 (hL.below hb) hK (by unfold okK maxLen; decide) (by omega) (by omega)
  have c4 := fun W (hb : Below w.heap.size w W) hK => find_calls W (w.heap.size + 1) w.heap.size es3 3 nX (hL.below hb) hK (by decide) (by decide) (by decide +kernel)
  have c5 := fun W (hb : Below w.heap.size w W) hK => drop_calls W (w.heap.size + 1) w.heap.size es3 3 (bB, f2) (hL.below hb) hK (by unfold okK maxLen; decide)
  unfold AddPost at c1 c2 c3
  rw [a1.1, a1.2] at c1
  rw [a2.1, a2.2] at c2
  rw [a3.1, a3.2] at c3
  unfold DropPost at c5
  rw [l4, l5] at c5
  clear hL
  go_enter Tryd.func13, Tryd.ntmps13
  go_wp2_with (first
    | (go_at_call 9; refine cN.mono ?_; rintro e w1 ⟨rfl, hK1, hb1⟩)
    | (go_at_call 10; first
        | (refine (c1 _ hb1 hK1).mono ?_; rintro e w2 ⟨rfl, hg2, hK2⟩; have hb2 := hg2.far hb1 hb1.size (XB_le (by omega) (by omega)); clear hg2 c1)
        | (refine (c2 _ hb2 hK2).mono ?_; rintro e w3 ⟨rfl, hg3, hK3⟩; have hb3 := hg3.far hb2 hb2.size (XB_le (by omega) (by omega)); clear hg3 c2)
        | (refine (c3 _ hb3 hK3).mono ?_; rintro e w4 ⟨rfl, hg4, hK4⟩; have hb4 := hg4.far hb3 hb3.size (XB_le (by omega) (by omega)); clear hg4 c3))
    | (go_at_call 16; refine (c4 _ hb4 hK4).mono ?_; rintro e w5 ⟨v, ws, rfl, hF, hR, hb5⟩; obtain rfl := hF.one find3; obtain ⟨A6, c6, rfl⟩ := Kd.R_slice hR; have hK5 := hK4.below hb5; have hB5 := hb4.trans (hb5.mono hb4.size))
    | (go_at_call 12; refine (c5 _ hB5 hK5).mono ?_; rintro e w6 ⟨rfl, hg6, hK6⟩; have hB6 := hg6.far hB5 hB5.size (XB_le (by omega) (by omega)))
    | (go_at_call 17; have hlt4 := hK4.lt; have hal := (Below.refl w6.heap.size w6).alloc (Nat.le_refl _) (.cells #[.string bA, .int .i64 0, .string bB, .int .i64 2] 48 (0, 0)); have hR6 := Kd.R_below (R_frm hR hg6 (fun k hk => by rintro (rfl | rfl) <;> omega)) hal; have hC2 := C_two (blk_new w6 (.cells #[.string bA, .int .i64 0, .string bB, .int .i64 2] 48 (0, 0))) (x := ⟨bA, 0⟩) (y := ⟨bB, 2⟩); refine (wants_calls ws3 A6 (some ⟨w6.heap.size, 0, none⟩) c6 2 _ (Kd.R_reads' hR6).2.2 (Kd.R_reads' hR6).2.1 hC2 (Nat.le_refl _) (by decide)).mono ?_; rintro e w7 ⟨rfl, hb7⟩; have hB7 := hB6.trans ((hal.trans (hb7.mono hal.size)).mono hB6.size)))
  go_ret
  exact ⟨rfl, hB7⟩
end Go.Proofs.YtjibcekillcgjaaDoor.Sb
