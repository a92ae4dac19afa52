/- What the proof of TableFind leans on: Fld. -/
import Derived.Test.YtbfhiiokajbdhaaGreatDoorSTableFindQx0
import Derived.Test.YtbfhiiokajbdhaaGreatDoorSTableFindValA
import Derived.Deep.RegionWith
import Derived.WalkMore
import Derived.Outline
import Derived.Lib.Hide
import Derived.IntWalk
set_option linter.unusedVariables false
set_option linter.unusedSimpArgs false
namespace Go.Proofs.YtbfhiiokajbdhaaGreatDoor.Fl
open Go.RowKit Go.Proofs.YtbfhiiokajbdhaaGreatDoor.Q Go.Proofs.YtbfhiiokajbdhaaGreatDoor.Val Go.Proofs.YtbfhiiokajbdhaaGreatDoorW.PrintWords
theorem grown_below {A B : World} {r : Option Nat} (h : Below A.heap.size A B) : A.grownBy B r := ⟨h.os, h.tape, h.output, h.size, fun b hb _ => h.block b hb⟩
theorem grown_trans {A B C : World} {r : Option Nat} (h : A.grownBy B r) (h' : B.grownBy C r) : A.grownBy C r :=
  ⟨h'.os.trans h.os, h'.tape.trans h.tape, h'.output.trans h.output, Nat.le_trans h.size h'.size, fun b hb hr => (h'.block b (Nat.lt_of_lt_of_le hb h.size) hr).trans (h.block b hb hr)⟩
theorem grown_set {A B : World} {g : Nat} (h : A.grownBy B (some g)) (j : Nat) (u : Value) : A.grownBy (B.setCell ⟨g, j, none⟩ u) (some g) := by
  have hs : (B.setCell ⟨g, j, none⟩ u).heap.size = B.heap.size := World.size_setCell _ _ _
  exact ⟨h.os, h.tape, h.output, by rw [hs]; exact h.size, fun b hb hr => (Below.heap_setCell B ⟨g, j, none⟩ u b (fun e => hr (by rw [e]))).trans (h.block b hb hr)⟩
def WAt (W : World) (g : Nat) (r : S34) : Prop := W.heap[g]? = some (.cells #[.string r.f0, .int .i64 r.f1, .int .i64 r.f2, .int .i64 r.f3, .int .i64 r.f4, .int .i64 r.f5, .int .i64 r.f6, .bool r.f7] 34 (0, 0))
def digs : List UInt8 := [48, 49, 50, 51, 52, 53, 54, 55, 56, 57]
def digsB : ByteArray := ⟨#[48, 49, 50, 51, 52, 53, 54, 55, 56, 57]⟩
def numB (s : ByteArray) : Bool := !s.toList.isEmpty && (decide (s.size ≤ 10) && (Lib.trimS s.data.toList digs).isEmpty)
def decV (l : List UInt8) : Nat := l.foldl (fun n b => n * 10 + (b.toNat - 48)) 0
def numV (s : ByteArray) : Int := (decV s.data.toList : Nat)
theorem digs_ascii : ∀ (j : Nat) b, digsB.data.toList[j]? = some b → b.toNat < 128 := by
  intro j b hb
  have H : ∀ c ∈ digsB.data.toList, c.toNat < 128 := by decide
  exact H b (List.mem_of_getElem? hb)
theorem dig_of (c : UInt8) (h : digs.contains c = true) : 48 ≤ c.toNat ∧ c.toNat ≤ 57 := by
  have H : ∀ i : Fin 256, digs.contains (UInt8.ofNat i.1) = true → 48 ≤ i.1 ∧ i.1 ≤ 57 := by decide +kernel
  have := H ⟨c.toNat, UInt8.toNat_lt c⟩ (by simpa using h)
  exact this
set_option maxHeartbeats 4000000 in
set_option maxRecDepth 1000000 in
theorem name_read (W : World) (g : Nat) (r : S34) (s : ByteArray) (hb : WAt W g r) :
    Calls Tryz.prog 34 #[.pointer (some ⟨g, 0, none⟩), .string s] W fun e W' => e = .returned (.bool true) ∧ W.grownBy W' (some g) ∧ WAt W' g { r with f0 := s } := by
  unfold WAt at hb
  have q := fun i => blk_frozen hb i
  have c0 := blk_cell hb 0
  have hk := blk_set hb 0 (.string s)
  have FIN := Aside0.mk (And.intro (grown_set (grown_below (r := some g) (Below.refl W.heap.size W)) 0 (.string s)) hk)
  clear hb hk
  go_enter Tryz.func34, Tryz.ntmps34
  go_wp2
  go_ret
  exact ⟨rfl, FIN.out⟩
set_option maxHeartbeats 4000000 in
set_option maxRecDepth 1000000 in
theorem write_read (W : World) (g : Nat) (r : S34) (s : ByteArray) (hb : WAt W g r) :
    Calls Tryz.prog 43 #[.pointer (some ⟨g, 0, none⟩), .string s] W fun e W' => e = .returned (.bool (s.toList == [119] || s.toList == [114])) ∧ W.grownBy W' (some g) ∧ WAt W' g { r with f7 := s.toList == [119] } := by
  unfold WAt at hb
  have q := fun i => blk_frozen hb i
  have c0 := blk_cell hb 7
  have hk := blk_set hb 7 (.bool (s.toList == [119]))
  have q2 := blk_cell hk 7
  have FIN := Aside0.mk (And.intro (grown_set (grown_below (r := some g) (Below.refl W.heap.size W)) 7 (.bool (s.toList == [119]))) hk)
  clear hb hk
  cases h1 : (s.toList == [119]) <;> rw [h1] at FIN q2
  · cases h2 : (s.toList == [114])
    all_goals
      go_enter Tryz.func43, Tryz.ntmps43
      go_wp2
      go_ret
      exact ⟨rfl, FIN.out⟩
  · go_enter Tryz.func43, Tryz.ntmps43
    go_wp2
    go_ret
    exact ⟨rfl, FIN.out⟩
theorem of_1 (W : World) (g : Nat) : Calls Tryz.prog 37 #[.pointer (some ⟨g, 0, none⟩)] W fun e W' => e = .returned (.pointer (some ⟨g, 1, none⟩)) ∧ W' = W := by
  go_enter Tryz.func37, Tryz.ntmps37
  go_wp2
  go_ret
  exact ⟨rfl, rfl⟩
theorem of_2 (W : World) (g : Nat) : Calls Tryz.prog 38 #[.pointer (some ⟨g, 0, none⟩)] W fun e W' => e = .returned (.pointer (some ⟨g, 2, none⟩)) ∧ W' = W := by
  go_enter Tryz.func38, Tryz.ntmps38
  go_wp2
  go_ret
  exact ⟨rfl, rfl⟩
theorem of_3 (W : World) (g : Nat) : Calls Tryz.prog 39 #[.pointer (some ⟨g, 0, none⟩)] W fun e W' => e = .returned (.pointer (some ⟨g, 3, none⟩)) ∧ W' = W := by
  go_enter Tryz.func39, Tryz.ntmps39
  go_wp2
  go_ret
  exact ⟨rfl, rfl⟩
theorem of_4 (W : World) (g : Nat) : Calls Tryz.prog 40 #[.pointer (some ⟨g, 0, none⟩)] W fun e W' => e = .returned (.pointer (some ⟨g, 4, none⟩)) ∧ W' = W := by
  go_enter Tryz.func40, Tryz.ntmps40
  go_wp2
  go_ret
  exact ⟨rfl, rfl⟩
theorem of_5 (W : World) (g : Nat) : Calls Tryz.prog 41 #[.pointer (some ⟨g, 0, none⟩)] W fun e W' => e = .returned (.pointer (some ⟨g, 5, none⟩)) ∧ W' = W := by
  go_enter Tryz.func41, Tryz.ntmps41
  go_wp2
  go_ret
  exact ⟨rfl, rfl⟩
theorem of_6 (W : World) (g : Nat) : Calls Tryz.prog 42 #[.pointer (some ⟨g, 0, none⟩)] W fun e W' => e = .returned (.pointer (some ⟨g, 6, none⟩)) ∧ W' = W := by
  go_enter Tryz.func42, Tryz.ntmps42
  go_wp2
  go_ret
  exact ⟨rfl, rfl⟩
theorem dropWhile_nil {α : Type} (p : α → Bool) : ∀ l : List α, l.dropWhile p = [] → ∀ c ∈ l, p c = true
  | [], _, c, hc => by simp at hc
  | a :: l, h, c, hc => by
    rw [List.dropWhile_cons] at h
    by_cases ha : p a = true
    · rw [if_pos ha] at h
      rcases List.mem_cons.1 hc with rfl | hc
      · exact ha
      · exact dropWhile_nil p l h c hc
    · rw [if_neg ha] at h
      simp at h
theorem trim_nil (l : List UInt8) (h : Lib.trimS l digs = []) : ∀ c ∈ l, 48 ≤ c.toNat ∧ c.toNat ≤ 57 := by
  unfold Lib.trimS Lib.trimRightS Lib.trimLeftS at h
  have h1 := dropWhile_nil _ _ h
  have h2 : l.reverse.dropWhile (fun x => digs.contains x) = [] := by
    cases hd : l.reverse.dropWhile (fun x => digs.contains x) with
    | nil => rfl
    | cons a r =>
      rw [hd] at h1
      have ha : digs.contains a = true := h1 a (by simp)
      have := List.head_dropWhile_not (p := fun x => digs.contains x) (l := l.reverse) (by rw [hd]; simp)
      simp only [hd, List.head_cons] at this
      rw [ha] at this
      cases this
  intro c hc
  exact dig_of c (dropWhile_nil _ _ h2 c (List.mem_reverse.2 hc))
theorem decFrom_all : ∀ (l : List UInt8) (a : Nat), (∀ c ∈ l, 48 ≤ c.toNat ∧ c.toNat ≤ 57) → Lib.decFrom a l = some (l.foldl (fun n b => n * 10 + (b.toNat - 48)) a)
  | [], a, _ => rfl
  | c :: l, a, h => by
    have hc := h c (by simp)
    unfold Lib.decFrom Lib.digitVal
    rw [if_pos hc]
    exact decFrom_all l _ (fun x hx => h x (by simp [hx]))
theorem numB_iff (s : ByteArray) (h : numB s = true) : s.data.toList ≠ [] ∧ s.size ≤ 10 ∧ ∀ c ∈ s.data.toList, 48 ≤ c.toNat ∧ c.toNat ≤ 57 := by
  unfold numB at h
  simp only [Bool.and_eq_true, Bool.not_eq_true', decide_eq_true_eq, List.isEmpty_iff] at h
  obtain ⟨h1, h2, h3⟩ := h
  refine ⟨fun e => ?_, h2, trim_nil _ h3⟩
  rw [ByteArray.toList_eq, e] at h1
  cases h1
theorem atoi_digs (s : ByteArray) (h : numB s = true) : s.size ≤ 18 ∧ Lib.atoi s.data.toList = some (numV s) := by
  obtain ⟨h1, h2, h3⟩ := numB_iff s h
  refine ⟨by omega, ?_⟩
  unfold numV decV
  cases hl : s.data.toList with
  | nil => exact absurd hl h1
  | cons b r =>
    rw [hl] at h3
    have hb := h3 b (by simp)
    have e1 : (b == 45) = false := beq_eq_false_iff_ne.2 (fun e => by rw [e] at hb; exact absurd hb (by decide))
    have e2 : (b == 43) = false := beq_eq_false_iff_ne.2 (fun e => by rw [e] at hb; exact absurd hb (by decide))
    simp only [Lib.atoi, e1, e2, Bool.false_eq_true, if_false]
    unfold Lib.decNat
    rw [decFrom_all (b :: r) 0 h3]
    rfl
theorem atoi_calls (s : ByteArray) (h : numB s = true) (w : World) : Calls Tryz.prog 55 #[.string s] w fun e w' => e = .returned (.tuple #[.int .i64 (numV s), .nilIface]) ∧ Below w.heap.size w w' := by
  obtain ⟨h1, h2⟩ := atoi_digs s h
  refine (Tryz.strconv_Atoi s (numV s) h1 h2 w).mono ?_
  rintro e w' ⟨rfl, t, rfl⟩
  exact ⟨rfl, bytes_below (Below.refl _ _) (Nat.le_refl _) _ _⟩
set_option maxHeartbeats 4000000 in
set_option maxRecDepth 1000000 in
theorem num_read_1 (W : World) (g b : Nat) (r : S34) (s : ByteArray) (hs : s.size ≤ 1000000) (hb : WAt W g r) (hf : W.cell? ⟨b, 0, none⟩ = some (.func (.func 37) #[] #[])) :
    Calls Tryz.prog 53 #[.pointer (some ⟨g, 0, none⟩), .string s, .pointer (some ⟨b, 0, none⟩)] W fun e W' => e = .returned (.bool (numB s)) ∧ W.grownBy W' (some g) ∧ WAt W' g (if numB s then { r with f1 := numV s } else r) := by
  have cT := fun w => trim_calls s digsB w (by omega) (by decide) digs_ascii
  have cA := atoi_calls s
  have hlt := World.block_lt_of_cell? W _ hf
  have hg := blk_lt hb
  have e0 : digsB.data.toList = digs := rfl
  rw [e0] at cT
  by_cases h1 : s.toList.isEmpty = true
  · have eN : numB s = false := by unfold numB; rw [h1]; rfl
    rw [eN]
    have q1 : s.toList = [] := List.isEmpty_iff.1 h1
    clear cA cT
    go_enter Tryz.func53, Tryz.ntmps53
    go_wp2
    go_ret
    exact ⟨rfl, grown_below (Below.refl _ _), hb⟩
  have h1 : s.toList.isEmpty = false := by simpa using h1
  by_cases h2 : s.size ≤ 10
  · cases h3 : (Lib.trimS s.data.toList digs).isEmpty
    · have eN : numB s = false := by unfold numB; rw [h1, h3]; simp
      rw [eN]
      have q3 : (⟨(Lib.trimS s.data.toList digs).toArray⟩ : ByteArray).toList.isEmpty = false := by rw [ByteArray.toList_eq]; simpa using h3
      have q2 : decide ((s.size : Int) > 10) = false := decide_eq_false (by omega)
      clear cA
      generalize (⟨(Lib.trimS s.data.toList digs).toArray⟩ : ByteArray) = T at *
      go_enter Tryz.func53, Tryz.ntmps53
      go_wp2_with (go_at_call 54; refine (cT _).mono ?_; rintro e w1 ⟨rfl, hb1⟩)
      go_ret
      exact ⟨rfl, grown_below hb1, blk_below hb hb1⟩
    · have eN : numB s = true := by unfold numB; rw [h1, h3, decide_eq_true h2]; rfl
      have cA := cA eN
      rw [eN, if_pos rfl]
      have q3 : (⟨(Lib.trimS s.data.toList digs).toArray⟩ : ByteArray).toList.isEmpty = true := by rw [ByteArray.toList_eq]; simpa using h3
      have q2 : decide ((s.size : Int) > 10) = false := decide_eq_false (by omega)
      have hb0 := Aside0.mk hb
      clear hb
      generalize (⟨(Lib.trimS s.data.toList digs).toArray⟩ : ByteArray) = T at *
      generalize numV s = v at *
      go_enter Tryz.func53, Tryz.ntmps53
      go_wp2_with (first
        | (go_at_call 54; refine (cT _).mono ?_; rintro e w1 ⟨rfl, hb1⟩; have f1 := (hb1.cell hlt).trans hf)
        | (go_at_call 37; refine (of_1 _ g).mono ?_; rintro e w2 ⟨rfl, rfl⟩)
        | (go_at_call 55; refine (cA _).mono ?_; rintro e w3 ⟨rfl, hb3⟩; have hk3 := blk_below (blk_below hb0.out hb1) hb3; have c3 := blk_cell hk3 1; have z3 := fun i => blk_frozen hk3 i; have hk4 := blk_set hk3 1 (.int .i64 v); have g4 := grown_set (grown_trans (grown_below (r := some g) hb1) (grown_below (r := some g) hb3)) 1 (.int .i64 v)))
      go_ret
      exact ⟨rfl, g4, hk4⟩
  · have eN : numB s = false := by unfold numB; rw [h1, decide_eq_false h2]; rfl
    rw [eN]
    have q2 : decide ((s.size : Int) > 10) = true := decide_eq_true (by omega)
    clear cA cT
    go_enter Tryz.func53, Tryz.ntmps53
    go_wp2
    go_ret
    exact ⟨rfl, grown_below (Below.refl _ _), hb⟩
set_option maxHeartbeats 4000000 in
set_option maxRecDepth 1000000 in
theorem num_read_2 (W : World) (g b : Nat) (r : S34) (s : ByteArray) (hs : s.size ≤ 1000000) (hb : WAt W g r) (hf : W.cell? ⟨b, 0, none⟩ = some (.func (.func 38) #[] #[])) :
    Calls Tryz.prog 53 #[.pointer (some ⟨g, 0, none⟩), .string s, .pointer (some ⟨b, 0, none⟩)] W fun e W' => e = .returned (.bool (numB s)) ∧ W.grownBy W' (some g) ∧ WAt W' g (if numB s then { r with f2 := numV s } else r) := by
  have cT := fun w => trim_calls s digsB w (by omega) (by decide) digs_ascii
  have cA := atoi_calls s
  have hlt := World.block_lt_of_cell? W _ hf
  have hg := blk_lt hb
  have e0 : digsB.data.toList = digs := rfl
  rw [e0] at cT
  by_cases h1 : s.toList.isEmpty = true
  · have eN : numB s = false := by unfold numB; rw [h1]; rfl
    rw [eN]
    have q1 : s.toList = [] := List.isEmpty_iff.1 h1
    clear cA cT
    go_enter Tryz.func53, Tryz.ntmps53
    go_wp2
    go_ret
    exact ⟨rfl, grown_below (Below.refl _ _), hb⟩
  have h1 : s.toList.isEmpty = false := by simpa using h1
  by_cases h2 : s.size ≤ 10
  · cases h3 : (Lib.trimS s.data.toList digs).isEmpty
    · have eN : numB s = false := by unfold numB; rw [h1, h3]; simp
      rw [eN]
      have q3 : (⟨(Lib.trimS s.data.toList digs).toArray⟩ : ByteArray).toList.isEmpty = false := by rw [ByteArray.toList_eq]; simpa using h3
      have q2 : decide ((s.size : Int) > 10) = false := decide_eq_false (by omega)
      clear cA
      generalize (⟨(Lib.trimS s.data.toList digs).toArray⟩ : ByteArray) = T at *
      go_enter Tryz.func53, Tryz.ntmps53
      go_wp2_with (go_at_call 54; refine (cT _).mono ?_; rintro e w1 ⟨rfl, hb1⟩)
      go_ret
      exact ⟨rfl, grown_below hb1, blk_below hb hb1⟩
    · have eN : numB s = true := by unfold numB; rw [h1, h3, decide_eq_true h2]; rfl
      have cA := cA eN
      rw [eN, if_pos rfl]
      have q3 : (⟨(Lib.trimS s.data.toList digs).toArray⟩ : ByteArray).toList.isEmpty = true := by rw [ByteArray.toList_eq]; simpa using h3
      have q2 : decide ((s.size : Int) > 10) = false := decide_eq_false (by omega)
      have hb0 := Aside0.mk hb
      clear hb
      generalize (⟨(Lib.trimS s.data.toList digs).toArray⟩ : ByteArray) = T at *
      generalize numV s = v at *
      go_enter Tryz.func53, Tryz.ntmps53
      go_wp2_with (first
        | (go_at_call 54; refine (cT _).mono ?_; rintro e w1 ⟨rfl, hb1⟩; have f1 := (hb1.cell hlt).trans hf)
        | (go_at_call 38; refine (of_2 _ g).mono ?_; rintro e w2 ⟨rfl, rfl⟩)
        | (go_at_call 55; refine (cA _).mono ?_; rintro e w3 ⟨rfl, hb3⟩; have hk3 := blk_below (blk_below hb0.out hb1) hb3; have c3 := blk_cell hk3 2; have z3 := fun i => blk_frozen hk3 i; have hk4 := blk_set hk3 2 (.int .i64 v); have g4 := grown_set (grown_trans (grown_below (r := some g) hb1) (grown_below (r := some g) hb3)) 2 (.int .i64 v)))
      go_ret
      exact ⟨rfl, g4, hk4⟩
  · have eN : numB s = false := by unfold numB; rw [h1, decide_eq_false h2]; rfl
    rw [eN]
    have q2 : decide ((s.size : Int) > 10) = true := decide_eq_true (by omega)
    clear cA cT
    go_enter Tryz.func53, Tryz.ntmps53
    go_wp2
    go_ret
    exact ⟨rfl, grown_below (Below.refl _ _), hb⟩
set_option maxHeartbeats 4000000 in
set_option maxRecDepth 1000000 in
theorem num_read_3 (W : World) (g b : Nat) (r : S34) (s : ByteArray) (hs : s.size ≤ 1000000) (hb : WAt W g r) (hf : W.cell? ⟨b, 0, none⟩ = some (.func (.func 39) #[] #[])) :
    Calls Tryz.prog 53 #[.pointer (some ⟨g, 0, none⟩), .string s, .pointer (some ⟨b, 0, none⟩)] W fun e W' => e = .returned (.bool (numB s)) ∧ W.grownBy W' (some g) ∧ WAt W' g (if numB s then { r with f3 := numV s } else r) := by
  have cT := fun w => trim_calls s digsB w (by omega) (by decide) digs_ascii
  have cA := atoi_calls s
  have hlt := World.block_lt_of_cell? W _ hf
  have hg := blk_lt hb
  have e0 : digsB.data.toList = digs := rfl
  rw [e0] at cT
  by_cases h1 : s.toList.isEmpty = true
  · have eN : numB s = false := by unfold numB; rw [h1]; rfl
    rw [eN]
    have q1 : s.toList = [] := List.isEmpty_iff.1 h1
    clear cA cT
    go_enter Tryz.func53, Tryz.ntmps53
    go_wp2
    go_ret
    exact ⟨rfl, grown_below (Below.refl _ _), hb⟩
  have h1 : s.toList.isEmpty = false := by simpa using h1
  by_cases h2 : s.size ≤ 10
  · cases h3 : (Lib.trimS s.data.toList digs).isEmpty
    · have eN : numB s = false := by unfold numB; rw [h1, h3]; simp
      rw [eN]
      have q3 : (⟨(Lib.trimS s.data.toList digs).toArray⟩ : ByteArray).toList.isEmpty = false := by rw [ByteArray.toList_eq]; simpa using h3
      have q2 : decide ((s.size : Int) > 10) = false := decide_eq_false (by omega)
      clear cA
      generalize (⟨(Lib.trimS s.data.toList digs).toArray⟩ : ByteArray) = T at *
      go_enter Tryz.func53, Tryz.ntmps53
      go_wp2_with (go_at_call 54; refine (cT _).mono ?_; rintro e w1 ⟨rfl, hb1⟩)
      go_ret
      exact ⟨rfl, grown_below hb1, blk_below hb hb1⟩
    · have eN : numB s = true := by unfold numB; rw [h1, h3, decide_eq_true h2]; rfl
      have cA := cA eN
      rw [eN, if_pos rfl]
      have q3 : (⟨(Lib.trimS s.data.toList digs).toArray⟩ : ByteArray).toList.isEmpty = true := by rw [ByteArray.toList_eq]; simpa using h3
      have q2 : decide ((s.size : Int) > 10) = false := decide_eq_false (by omega)
      have hb0 := Aside0.mk hb
      clear hb
      generalize (⟨(Lib.trimS s.data.toList digs).toArray⟩ : ByteArray) = T at *
      generalize numV s = v at *
      go_enter Tryz.func53, Tryz.ntmps53
      go_wp2_with (first
        | (go_at_call 54; refine (cT _).mono ?_; rintro e w1 ⟨rfl, hb1⟩; have f1 := (hb1.cell hlt).trans hf)
        | (go_at_call 39; refine (of_3 _ g).mono ?_; rintro e w2 ⟨rfl, rfl⟩)
        | (go_at_call 55; refine (cA _).mono ?_; rintro e w3 ⟨rfl, hb3⟩; have hk3 := blk_below (blk_below hb0.out hb1) hb3; have c3 := blk_cell hk3 3; have z3 := fun i => blk_frozen hk3 i; have hk4 := blk_set hk3 3 (.int .i64 v); have g4 := grown_set (grown_trans (grown_below (r := some g) hb1) (grown_below (r := some g) hb3)) 3 (.int .i64 v)))
      go_ret
      exact ⟨rfl, g4, hk4⟩
  · have eN : numB s = false := by unfold numB; rw [h1, decide_eq_false h2]; rfl
    rw [eN]
    have q2 : decide ((s.size : Int) > 10) = true := decide_eq_true (by omega)
    clear cA cT
    go_enter Tryz.func53, Tryz.ntmps53
    go_wp2
    go_ret
    exact ⟨rfl, grown_below (Below.refl _ _), hb⟩
set_option maxHeartbeats 4000000 in
set_option maxRecDepth 1000000 in
theorem num_read_4 (W : World) (g b : Nat) (r : S34) (s : ByteArray) (hs : s.size ≤ 1000000) (hb : WAt W g r) (hf : W.cell? ⟨b, 0, none⟩ = some (.func (.func 40) #[] #[])) :
    Calls Tryz.prog 53 #[.pointer (some ⟨g, 0, none⟩), .string s, .pointer (some ⟨b, 0, none⟩)] W fun e W' => e = .returned (.bool (numB s)) ∧ W.grownBy W' (some g) ∧ WAt W' g (if numB s then { r with f4 := numV s } else r) := by
  have cT := fun w => trim_calls s digsB w (by omega) (by decide) digs_ascii
  have cA := atoi_calls s
  have hlt := World.block_lt_of_cell? W _ hf
  have hg := blk_lt hb
  have e0 : digsB.data.toList = digs := rfl
  rw [e0] at cT
  by_cases h1 : s.toList.isEmpty = true
  · have eN : numB s = false := by unfold numB; rw [h1]; rfl
    rw [eN]
    have q1 : s.toList = [] := List.isEmpty_iff.1 h1
    clear cA cT
    go_enter Tryz.func53, Tryz.ntmps53
    go_wp2
    go_ret
    exact ⟨rfl, grown_below (Below.refl _ _), hb⟩
  have h1 : s.toList.isEmpty = false := by simpa using h1
  by_cases h2 : s.size ≤ 10
  · cases h3 : (Lib.trimS s.data.toList digs).isEmpty
    · have eN : numB s = false := by unfold numB; rw [h1, h3]; simp
      rw [eN]
      have q3 : (⟨(Lib.trimS s.data.toList digs).toArray⟩ : ByteArray).toList.isEmpty = false := by rw [ByteArray.toList_eq]; simpa using h3
      have q2 : decide ((s.size : Int) > 10) = false := decide_eq_false (by omega)
      clear cA
      generalize (⟨(Lib.trimS s.data.toList digs).toArray⟩ : ByteArray) = T at *
      go_enter Tryz.func53, Tryz.ntmps53
      go_wp2_with (go_at_call 54; refine (cT _).mono ?_; rintro e w1 ⟨rfl, hb1⟩)
      go_ret
      exact ⟨rfl, grown_below hb1, blk_below hb hb1⟩
    · have eN : numB s = true := by unfold numB; rw [h1, h3, decide_eq_true h2]; rfl
      have cA := cA eN
      rw [eN, if_pos rfl]
      have q3 : (⟨(Lib.trimS s.data.toList digs).toArray⟩ : ByteArray).toList.isEmpty = true := by rw [ByteArray.toList_eq]; simpa using h3
      have q2 : decide ((s.size : Int) > 10) = false := decide_eq_false (by omega)
      have hb0 := Aside0.mk hb
      clear hb
      generalize (⟨(Lib.trimS s.data.toList digs).toArray⟩ : ByteArray) = T at *
      generalize numV s = v at *
      go_enter Tryz.func53, Tryz.ntmps53
      go_wp2_with (first
        | (go_at_call 54; refine (cT _).mono ?_; rintro e w1 ⟨rfl, hb1⟩; have f1 := (hb1.cell hlt).trans hf)
        | (go_at_call 40; refine (of_4 _ g).mono ?_; rintro e w2 ⟨rfl, rfl⟩)
        | (go_at_call 55; refine (cA _).mono ?_; rintro e w3 ⟨rfl, hb3⟩; have hk3 := blk_below (blk_below hb0.out hb1) hb3; have c3 := blk_cell hk3 4; have z3 := fun i => blk_frozen hk3 i; have hk4 := blk_set hk3 4 (.int .i64 v); have g4 := grown_set (grown_trans (grown_below (r := some g) hb1) (grown_below (r := some g) hb3)) 4 (.int .i64 v)))
      go_ret
      exact ⟨rfl, g4, hk4⟩
  · have eN : numB s = false := by unfold numB; rw [h1, decide_eq_false h2]; rfl
    rw [eN]
    have q2 : decide ((s.size : Int) > 10) = true := decide_eq_true (by omega)
    clear cA cT
    go_enter Tryz.func53, Tryz.ntmps53
    go_wp2
    go_ret
    exact ⟨rfl, grown_below (Below.refl _ _), hb⟩
set_option maxHeartbeats 4000000 in
set_option maxRecDepth 1000000 in
theorem num_read_5 (W : World) (g b : Nat) (r : S34) (s : ByteArray) (hs : s.size ≤ 1000000) (hb : WAt W g r) (hf : W.cell? ⟨b, 0, none⟩ = some (.func (.func 41) #[] #[])) :
    Calls Tryz.prog 53 #[.pointer (some ⟨g, 0, none⟩), .string s, .pointer (some ⟨b, 0, none⟩)] W fun e W' => e = .returned (.bool (numB s)) ∧ W.grownBy W' (some g) ∧ WAt W' g (if numB s then { r with f5 := numV s } else r) := by
  have cT := fun w => trim_calls s digsB w (by omega) (by decide) digs_ascii
  have cA := atoi_calls s
  have hlt := World.block_lt_of_cell? W _ hf
  have hg := blk_lt hb
  have e0 : digsB.data.toList = digs := rfl
  rw [e0] at cT
  by_cases h1 : s.toList.isEmpty = true
  · have eN : numB s = false := by unfold numB; rw [h1]; rfl
    rw [eN]
    have q1 : s.toList = [] := List.isEmpty_iff.1 h1
    clear cA cT
    go_enter Tryz.func53, Tryz.ntmps53
    go_wp2
    go_ret
    exact ⟨rfl, grown_below (Below.refl _ _), hb⟩
  have h1 : s.toList.isEmpty = false := by simpa using h1
  by_cases h2 : s.size ≤ 10
  · cases h3 : (Lib.trimS s.data.toList digs).isEmpty
    · have eN : numB s = false := by unfold numB; rw [h1, h3]; simp
      rw [eN]
      have q3 : (⟨(Lib.trimS s.data.toList digs).toArray⟩ : ByteArray).toList.isEmpty = false := by rw [ByteArray.toList_eq]; simpa using h3
      have q2 : decide ((s.size : Int) > 10) = false := decide_eq_false (by omega)
      clear cA
      generalize (⟨(Lib.trimS s.data.toList digs).toArray⟩ : ByteArray) = T at *
      go_enter Tryz.func53, Tryz.ntmps53
      go_wp2_with (go_at_call 54; refine (cT _).mono ?_; rintro e w1 ⟨rfl, hb1⟩)
      go_ret
      exact ⟨rfl, grown_below hb1, blk_below hb hb1⟩
    · have eN : numB s = true := by unfold numB; rw [h1, h3, decide_eq_true h2]; rfl
      have cA := cA eN
      rw [eN, if_pos rfl]
      have q3 : (⟨(Lib.trimS s.data.toList digs).toArray⟩ : ByteArray).toList.isEmpty = true := by rw [ByteArray.toList_eq]; simpa using h3
      have q2 : decide ((s.size : Int) > 10) = false := decide_eq_false (by omega)
      have hb0 := Aside0.mk hb
      clear hb
      generalize (⟨(Lib.trimS s.data.toList digs).toArray⟩ : ByteArray) = T at *
      generalize numV s = v at *
      go_enter Tryz.func53, Tryz.ntmps53
      go_wp2_with (first
        | (go_at_call 54; refine (cT _).mono ?_; rintro e w1 ⟨rfl, hb1⟩; have f1 := (hb1.cell hlt).trans hf)
        | (go_at_call 41; refine (of_5 _ g).mono ?_; rintro e w2 ⟨rfl, rfl⟩)
        | (go_at_call 55; refine (cA _).mono ?_; rintro e w3 ⟨rfl, hb3⟩; have hk3 := blk_below (blk_below hb0.out hb1) hb3; have c3 := blk_cell hk3 5; have z3 := fun i => blk_frozen hk3 i; have hk4 := blk_set hk3 5 (.int .i64 v); have g4 := grown_set (grown_trans (grown_below (r := some g) hb1) (grown_below (r := some g) hb3)) 5 (.int .i64 v)))
      go_ret
      exact ⟨rfl, g4, hk4⟩
  · have eN : numB s = false := by unfold numB; rw [h1, decide_eq_false h2]; rfl
    rw [eN]
    have q2 : decide ((s.size : Int) > 10) = true := decide_eq_true (by omega)
    clear cA cT
    go_enter Tryz.func53, Tryz.ntmps53
    go_wp2
    go_ret
    exact ⟨rfl, grown_below (Below.refl _ _), hb⟩
set_option maxHeartbeats 4000000 in
set_option maxRecDepth 1000000 in
theorem num_read_6 (W : World) (g b : Nat) (r : S34) (s : ByteArray) (hs : s.size ≤ 1000000) (hb : WAt W g r) (hf : W.cell? ⟨b, 0, none⟩ = some (.func (.func 42) #[] #[])) :
    Calls Tryz.prog 53 #[.pointer (some ⟨g, 0, none⟩), .string s, .pointer (some ⟨b, 0, none⟩)] W fun e W' => e = .returned (.bool (numB s)) ∧ W.grownBy W' (some g) ∧ WAt W' g (if numB s then { r with f6 := numV s } else r) := by
  have cT := fun w => trim_calls s digsB w (by omega) (by decide) digs_ascii
  have cA := atoi_calls s
  have hlt := World.block_lt_of_cell? W _ hf
  have hg := blk_lt hb
  have e0 : digsB.data.toList = digs := rfl
  rw [e0] at cT
  by_cases h1 : s.toList.isEmpty = true
  · have eN : numB s = false := by unfold numB; rw [h1]; rfl
    rw [eN]
    have q1 : s.toList = [] := List.isEmpty_iff.1 h1
    clear cA cT
    go_enter Tryz.func53, Tryz.ntmps53
    go_wp2
    go_ret
    exact ⟨rfl, grown_below (Below.refl _ _), hb⟩
  have h1 : s.toList.isEmpty = false := by simpa using h1
  by_cases h2 : s.size ≤ 10
  · cases h3 : (Lib.trimS s.data.toList digs).isEmpty
    · have eN : numB s = false := by unfold numB; rw [h1, h3]; simp
      rw [eN]
      have q3 : (⟨(Lib.trimS s.data.toList digs).toArray⟩ : ByteArray).toList.isEmpty = false := by rw [ByteArray.toList_eq]; simpa using h3
      have q2 : decide ((s.size : Int) > 10) = false := decide_eq_false (by omega)
      clear cA
      generalize (⟨(Lib.trimS s.data.toList digs).toArray⟩ : ByteArray) = T at *
      go_enter Tryz.func53, Tryz.ntmps53
      go_wp2_with (go_at_call 54; refine (cT _).mono ?_; rintro e w1 ⟨rfl, hb1⟩)
      go_ret
      exact ⟨rfl, grown_below hb1, blk_below hb hb1⟩
    · have eN : numB s = true := by unfold numB; rw [h1, h3, decide_eq_true h2]; rfl
      have cA := cA eN
      rw [eN, if_pos rfl]
      have q3 : (⟨(Lib.trimS s.data.toList digs).toArray⟩ : ByteArray).toList.isEmpty = true := by rw [ByteArray.toList_eq]; simpa using h3
      have q2 : decide ((s.size : Int) > 10) = false := decide_eq_false (by omega)
      have hb0 := Aside0.mk hb
      clear hb
      generalize (⟨(Lib.trimS s.data.toList digs).toArray⟩ : ByteArray) = T at *
      generalize numV s = v at *
      go_enter Tryz.func53, Tryz.ntmps53
      go_wp2_with (first
        | (go_at_call 54; refine (cT _).mono ?_; rintro e w1 ⟨rfl, hb1⟩; have f1 := (hb1.cell hlt).trans hf)
        | (go_at_call 42; refine (of_6 _ g).mono ?_; rintro e w2 ⟨rfl, rfl⟩)
        | (go_at_call 55; refine (cA _).mono ?_; rintro e w3 ⟨rfl, hb3⟩; have hk3 := blk_below (blk_below hb0.out hb1) hb3; have c3 := blk_cell hk3 6; have z3 := fun i => blk_frozen hk3 i; have hk4 := blk_set hk3 6 (.int .i64 v); have g4 := grown_set (grown_trans (grown_below (r := some g) hb1) (grown_below (r := some g) hb3)) 6 (.int .i64 v)))
      go_ret
      exact ⟨rfl, g4, hk4⟩
  · have eN : numB s = false := by unfold numB; rw [h1, decide_eq_false h2]; rfl
    rw [eN]
    have q2 : decide ((s.size : Int) > 10) = true := decide_eq_true (by omega)
    clear cA cT
    go_enter Tryz.func53, Tryz.ntmps53
    go_wp2
    go_ret
    exact ⟨rfl, grown_below (Below.refl _ _), hb⟩
end Go.Proofs.YtbfhiiokajbdhaaGreatDoor.Fl
