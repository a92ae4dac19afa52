/- What the proof of SubsFinds leans on: PRef09. -/
import Derived.Test.YtjibcekillcgjaaDoorSSubsFindsP0
import Derived.Test.YtjibcekillcgjaaDoorSSubsFindsQx4
set_option linter.unusedSimpArgs false
namespace Go.Proofs.YtjibcekillcgjaaDoor.Q
open Go.RowKit Go.Proofs.YtjibcekillcgjaaDoorW.PrintWords
set_option linter.unusedVariables false
def isPt (n : Int) : Prop := 1 ≤ n ∧ n ≤ 1114111 ∧ (n < 55296 ∨ 57343 < n)
theorem point_yes (n : Int) (h : isPt n) : basculeref09_Point.f n = some true := by
  unfold isPt at h
  unfold basculeref09_Point.f
  rw [if_pos (by omega), if_pos (by omega)]
  by_cases h3 : n < 55296
  · rw [if_pos h3]
  · rw [if_neg h3, decide_eq_true (by omega)]
theorem point_no (n : Int) (h : ¬ isPt n) : basculeref09_Point.f n = some false := by
  unfold isPt at h
  unfold basculeref09_Point.f
  by_cases h1 : n ≥ 1
  · rw [if_pos h1]
    by_cases h2 : n ≤ 1114111
    · rw [if_pos h2, if_neg (by omega), decide_eq_false (by omega)]
    · rw [if_neg h2]
  · rw [if_neg h1]
def encN (n : Nat) : List Nat :=
  if n < 128 then [n] else if n < 2048 then [192 + n / 64, 128 + n % 64] else if n < 65536 then [224 + n / 4096, 128 + n / 64 % 64, 128 + n % 64]
  else [240 + n / 262144, 128 + n / 4096 % 64, 128 + n / 64 % 64, 128 + n % 64]
theorem encN_byte (n : Nat) (h : n ≤ 1114111) : ∀ x ∈ encN n, x < 256 := by
  intro x hx
  unfold encN at hx
  repeat' split at hx
  all_goals (simp only [List.mem_cons, List.mem_nil_iff, or_false] at hx; omega)
theorem by_w1 (n : Nat) (h : n ≤ 1114111) : wrap64 (Int.tdiv (n : Int) 64) = ((n / 64 : Nat) : Int) := by rw [Int.tdiv_eq_ediv_of_nonneg (by omega), w64 (by omega) (by omega)]; omega
theorem by_w2 (n : Nat) (h : n ≤ 1114111) : wrap64 (Int.tdiv (n : Int) 4096) = ((n / 4096 : Nat) : Int) := by rw [Int.tdiv_eq_ediv_of_nonneg (by omega), w64 (by omega) (by omega)]; omega
theorem by_w3 (n : Nat) (h : n ≤ 1114111) : wrap64 (Int.tdiv (n : Int) 262144) = ((n / 262144 : Nat) : Int) := by rw [Int.tdiv_eq_ediv_of_nonneg (by omega), w64 (by omega) (by omega)]; omega
theorem by_m (n : Nat) : Int.tmod (n : Int) 64 = ((n % 64 : Nat) : Int) := by rw [Int.tmod_eq_emod_of_nonneg (by omega)]; omega
theorem f128 (x : Nat) (hc : x < 128) : ((wrap64 (128 + (x : Int))) % 256).toNat = 128 + x := by rw [w64 (by omega) (by omega)]; omega
theorem f192 (x : Nat) (hc : x < 64) : ((wrap64 (192 + (x : Int))) % 256).toNat = 192 + x := by rw [w64 (by omega) (by omega)]; omega
theorem f224 (x : Nat) (hc : x < 32) : ((wrap64 (224 + (x : Int))) % 256).toNat = 224 + x := by rw [w64 (by omega) (by omega)]; omega
theorem f240 (x : Nat) (hc : x < 16) : ((wrap64 (240 + (x : Int))) % 256).toNat = 240 + x := by rw [w64 (by omega) (by omega)]; omega
theorem bytes_f (n : Nat) (h : n ≤ 1114111) : ∃ b, basculeref09_Bytes.f (n : Int) = some b ∧ b.data.toList = (encN n).map UInt8.ofNat := by
  unfold basculeref09_Bytes.f encN
  by_cases h1 : n < 128
  · rw [if_pos (by omega), if_pos h1]
    refine ⟨_, rfl, ?_⟩
    rw [strOfNums_data]
    have e : (n : Int) % 256 = (n : Int) := by omega
    simp [e]
  · rw [if_neg (by omega), if_neg h1]
    by_cases h2 : n < 2048
    · rw [if_pos (by omega), if_pos h2]
      refine ⟨_, rfl, ?_⟩
      rw [strOfNums_data, by_w1 n h, by_m]
      simp only [List.map_cons, List.map_nil]
      rw [f192 _ (by omega), f128 _ (by omega)]
    · rw [if_neg (by omega), if_neg h2]
      by_cases h3 : n < 65536
      · rw [if_pos (by omega), if_pos h3]
        refine ⟨_, rfl, ?_⟩
        rw [strOfNums_data, by_w1 n h, by_w2 n h, by_m, by_m]
        simp only [List.map_cons, List.map_nil]
        rw [f224 _ (by omega), f128 _ (by omega), f128 _ (by omega)]
      · rw [if_neg (by omega), if_neg h3]
        refine ⟨_, rfl, ?_⟩
        rw [strOfNums_data, by_w1 n h, by_w2 n h, by_w3 n h, by_m, by_m, by_m]
        simp only [List.map_cons, List.map_nil]
        rw [f240 _ (by omega), f128 _ (by omega), f128 _ (by omega), f128 _ (by omega)]
theorem l1_step (s : ByteArray) (m x : Int) (i : Nat) (r : Int) (h1 : (i : Int) < m) (h2 : i < s.size) (hx : -100000000 ≤ x ∧ x ≤ 100000000) (hi : i ≤ 10)
    (h : Ev (fun k => basculeref09_first.l1 k s m (64 * x + bt s i - 128) ((i + 1 : Nat) : Int)) r) : Ev (fun k => basculeref09_first.l1 k s m x (i : Int)) r := by
  have hb := bt_byte s i
  refine Ev.step (fun k => rfl) ?_
  refine Ev.pos h1 (Ev.pos (by omega) (Ev.pos (by omega) ?_))
  have e1 : wrap64 (wrap64 (wrap64 (64 * x) + wrap64 (bt s i)) - 128) = 64 * x + bt s i - 128 := by
    rw [w64 (x := 64 * x) (by omega) (by omega), w64 (x := bt s i) (by omega) (by omega), w64 (x := 64 * x + bt s i) (by omega) (by omega), w64 (by omega) (by omega)]
  have e2 : wrap64 ((i : Int) + 1) = ((i + 1 : Nat) : Int) := by rw [w64 (by omega) (by omega)]; omega
  rw [e1, e2]
  exact h
def firstN (s : ByteArray) (m : Nat) : List Nat := (s.data.toList.take m).map (·.toNat)
theorem l1_end (s : ByteArray) (m : Nat) (x r : Int) (hm : m ≤ s.size) (h4 : m ≤ 4)
    (hit : isPt x → encN x.toNat = firstN s m → x = r)
    (miss : ¬ (isPt x ∧ encN x.toNat = firstN s m) → Ev (fun k => basculeref09_first.l0 k s ((m + 1 : Nat) : Int)) r) :
    Ev (fun k => basculeref09_first.l1 k s (m : Int) x (m : Int)) r := by
  refine Ev.step (fun k => rfl) ?_
  refine Ev.neg (by omega) ?_
  have e2 : wrap64 ((m : Int) + 1) = ((m + 1 : Nat) : Int) := by rw [w64 (by omega) (by omega)]; omega
  by_cases hp : isPt x
  · refine Ev.fst (point_yes x hp) ?_
    refine Ev.pos rfl ?_
    have hp' := hp
    unfold isPt at hp'
    obtain ⟨n, rfl⟩ : ∃ n : Nat, x = (n : Int) := ⟨x.toNat, by omega⟩
    obtain ⟨b, hb, hbl⟩ := bytes_f n (by omega)
    refine Ev.fst hb ?_
    refine Ev.pos (by omega) (Ev.pos (by omega) ?_)
    have hcmp : b.toList = (s.extract 0 ((m : Int)).toNat).toList ↔ encN n = firstN s m := by
      rw [Lib.toList_data, Lib.toList_data, hbl, ByteArray.data_extract, Array.toList_extract]
      unfold firstN
      simp only [List.extract_eq_take_drop, Nat.sub_zero, List.drop_zero, Int.toNat_natCast]
      constructor
      · intro h
        rw [← h, List.map_map]
        have : ∀ l : List Nat, (∀ x ∈ l, x < 256) → l.map ((fun c : UInt8 => c.toNat) ∘ UInt8.ofNat) = l := by
          intro l hl
          induction l with
          | nil => rfl
          | cons y l ih =>
            rw [List.map_cons, ih (fun x hx => hl x (List.mem_cons_of_mem _ hx))]
            have := hl y (by simp)
            simp only [Function.comp, UInt8.toNat_ofNat']
            rw [Nat.mod_eq_of_lt (by omega)]
        exact (this _ (encN_byte n (by omega))).symm
      · intro h
        rw [h, List.map_map]
        have : ∀ l : List UInt8, l.map (UInt8.ofNat ∘ fun c : UInt8 => c.toNat) = l := by
          intro l
          induction l with
          | nil => rfl
          | cons y l ih => rw [List.map_cons, ih]; simp
        exact this _
    by_cases he : encN n = firstN s m
    · refine Ev.pos (hcmp.2 he) (Ev.ret' (hit hp (by simpa using he)))
    · refine Ev.neg (fun h => he (hcmp.1 h)) ?_
      rw [e2]
      exact miss (fun h => he (by simpa using h.2))
  · refine Ev.fst (point_no x hp) ?_
    refine Ev.neg (by simp) ?_
    rw [e2]
    exact miss (fun h => hp h.1)
def told (d : Nat × Nat) : Nat × Nat := if d.1 = 0 ∨ d.1 = 65533 ∧ d.2 < 2 then (0, 0) else d
theorem hit1 (n b0 b1 b2 b3 : Nat) (h0 : b0 < 256) (h : isPt (b0 : Int)) (he : encN b0 = [b0]) : told (Lib.decodeN n b0 b1 b2 b3) = (b0, 1) := by
  unfold isPt at h
  have hlt : b0 < 128 := by
    unfold encN at he
    split at he
    · assumption
    · repeat' split at he
      all_goals simp at he
  unfold told Lib.decodeN
  rw [if_pos hlt]
  rw [if_neg (by simp; omega)]
theorem hit2 (n b0 b1 b2 b3 : Nat) (x : Nat) (hn : 2 ≤ n) (h0 : b0 < 256) (h1 : b1 < 256) (hx : (x : Int) = 64 * ((b0 : Int) - 192) + b1 - 128) (he : encN x = [b0, b1]) : told (Lib.decodeN n b0 b1 b2 b3) = (x, 2) := by
  unfold encN at he
  split at he
  · simp at he
  · split at he
    · simp only [List.cons.injEq, and_true] at he
      have hd : Lib.decodeN n b0 b1 b2 b3 = (x, 2) := by
        unfold Lib.decodeN
        rw [if_neg (by omega), if_pos (by omega), if_pos (by omega)]
        simp only [Prod.mk.injEq, and_true]; omega
      rw [hd]
      exact if_neg (by simp; omega)
    · split at he <;> simp at he
theorem hit3 (n b0 b1 b2 b3 : Nat) (x : Nat) (hn : 3 ≤ n) (h0 : b0 < 256) (h1 : b1 < 256) (h2 : b2 < 256) (hx : (x : Int) = 64 * (64 * ((b0 : Int) - 224) + b1 - 128) + b2 - 128) (hp : isPt x) (he : encN x = [b0, b1, b2]) : told (Lib.decodeN n b0 b1 b2 b3) = (x, 3) := by
  unfold isPt at hp
  unfold encN at he
  split at he
  · simp at he
  · split at he
    · simp at he
    · split at he
      · simp only [List.cons.injEq, and_true] at he
        have hd : Lib.decodeN n b0 b1 b2 b3 = (x, 3) := by
          unfold Lib.decodeN
          rw [if_neg (by omega), if_neg (by omega), if_pos (by omega), if_pos (by omega)]
          simp only [Prod.mk.injEq, and_true]; omega
        rw [hd]
        exact if_neg (by simp; omega)
      · simp at he
theorem hit4 (n b0 b1 b2 b3 : Nat) (x : Nat) (hn : 4 ≤ n) (h0 : b0 < 256) (h1 : b1 < 256) (h2 : b2 < 256) (h3 : b3 < 256) (hx : (x : Int) = 64 * (64 * (64 * ((b0 : Int) - 240) + b1 - 128) + b2 - 128) + b3 - 128) (hp : isPt x) (he : encN x = [b0, b1, b2, b3]) : told (Lib.decodeN n b0 b1 b2 b3) = (x, 4) := by
  unfold isPt at hp
  unfold encN at he
  split at he
  · simp at he
  · split at he
    · simp at he
    · split at he
      · simp at he
      · simp only [List.cons.injEq, and_true] at he
        have hd : Lib.decodeN n b0 b1 b2 b3 = (x, 4) := by
          unfold Lib.decodeN
          rw [if_neg (by omega), if_neg (by omega), if_neg (by omega), if_pos (by omega), if_pos (by omega)]
          simp only [Prod.mk.injEq, and_true]; omega
        rw [hd]
        exact if_neg (by simp; omega)
theorem miss_all (n b0 b1 b2 b3 : Nat) (hn : 1 ≤ n) (h0 : b0 < 256) (h1 : b1 < 256) (h2 : b2 < 256) (h3 : b3 < 256)
    (m1 : ¬ (isPt (b0 : Int) ∧ encN b0 = [b0])) (m2 : 2 ≤ n → ¬ (isPt (64 * ((b0 : Int) - 192) + b1 - 128) ∧ encN (64 * ((b0 : Int) - 192) + b1 - 128).toNat = [b0, b1]))
    (m3 : 3 ≤ n → ¬ (isPt (64 * (64 * ((b0 : Int) - 224) + b1 - 128) + b2 - 128) ∧ encN (64 * (64 * ((b0 : Int) - 224) + b1 - 128) + b2 - 128).toNat = [b0, b1, b2]))
    (m4 : 4 ≤ n → ¬ (isPt (64 * (64 * (64 * ((b0 : Int) - 240) + b1 - 128) + b2 - 128) + b3 - 128) ∧ encN (64 * (64 * (64 * ((b0 : Int) - 240) + b1 - 128) + b2 - 128) + b3 - 128).toNat = [b0, b1, b2, b3])) :
    told (Lib.decodeN n b0 b1 b2 b3) = (0, 0) := by
  have none1 : told (65533, 1) = (0, 0) := rfl
  unfold Lib.decodeN
  split
  · rename_i hb
    by_cases hz : b0 = 0
    · subst hz; rfl
    · exact absurd ⟨by unfold isPt; omega, by unfold encN; rw [if_pos hb]⟩ m1
  · split
    · rename_i hb hc
      split
      · rename_i hd
        refine absurd ⟨by unfold isPt; omega, ?_⟩ (m2 (by omega))
        have e : (64 * ((b0 : Int) - 192) + b1 - 128).toNat = b0 % 32 * 64 + b1 % 64 := by omega
        rw [e]
        unfold encN
        rw [if_neg (by omega), if_pos (by omega)]
        simp only [List.cons.injEq, and_true]; omega
      · exact none1
    · split
      · rename_i hb hc hd
        split
        · rename_i he
          have e : (64 * (64 * ((b0 : Int) - 224) + b1 - 128) + b2 - 128) = ((b0 % 16 * 4096 + b1 % 64 * 64 + b2 % 64 : Nat) : Int) := by omega
          refine absurd ⟨by rw [e]; unfold isPt; omega, ?_⟩ (m3 (by omega))
          rw [e, Int.toNat_natCast]
          unfold encN
          rw [if_neg (by omega), if_neg (by omega), if_pos (by omega)]
          simp only [List.cons.injEq, and_true]; omega
        · exact none1
      · split
        · rename_i hb hc hd he
          split
          · rename_i hf
            have e : (64 * (64 * (64 * ((b0 : Int) - 240) + b1 - 128) + b2 - 128) + b3 - 128) = ((b0 % 8 * 262144 + b1 % 64 * 4096 + b2 % 64 * 64 + b3 % 64 : Nat) : Int) := by omega
            refine absurd ⟨by rw [e]; unfold isPt; omega, ?_⟩ (m4 (by omega))
            rw [e, Int.toNat_natCast]
            unfold encN
            rw [if_neg (by omega), if_neg (by omega), if_neg (by omega)]
            simp only [List.cons.injEq, and_true]; omega
          · exact none1
        · exact none1
theorem firstN_eq (s : ByteArray) : (1 ≤ s.size → firstN s 1 = [(s.get! 0).toNat]) ∧ (2 ≤ s.size → firstN s 2 = [(s.get! 0).toNat, (s.get! 1).toNat]) ∧
    (3 ≤ s.size → firstN s 3 = [(s.get! 0).toNat, (s.get! 1).toNat, (s.get! 2).toNat]) ∧ (4 ≤ s.size → firstN s 4 = [(s.get! 0).toNat, (s.get! 1).toNat, (s.get! 2).toNat, (s.get! 3).toNat]) := by
  have hat : ∀ j (h : j < s.size), s.data.toList[j]? = some (s.get! j) := fun j h => by rw [Lib.data_getElem? s j h, Utf8W.get!_of_lt s j h]
  have hl := Lib.size_eq s
  unfold firstN
  cases hc : s.data.toList with
  | nil =>
    have hl' : s.size = 0 := by rw [hl, hc]; rfl
    exact ⟨fun h => by omega, fun h => by omega, fun h => by omega, fun h => by omega⟩
  | cons x0 l0 =>
    have g0 := hat 0 (by rw [hl, hc]; simp)
    rw [hc] at g0; simp at g0
    cases l0 with
    | nil => rw [hc] at hl; simp at hl; exact ⟨fun _ => by simp [g0], fun h => by omega, fun h => by omega, fun h => by omega⟩
    | cons x1 l1 =>
      have g1 := hat 1 (by rw [hl, hc]; simp)
      rw [hc] at g1; simp at g1
      cases l1 with
      | nil => rw [hc] at hl; simp at hl; exact ⟨fun _ => by simp [g0], fun _ => by simp [g0, g1], fun h => by omega, fun h => by omega⟩
      | cons x2 l2 =>
        have g2 := hat 2 (by rw [hl, hc]; simp)
        rw [hc] at g2; simp at g2
        cases l2 with
        | nil => rw [hc] at hl; simp at hl; exact ⟨fun _ => by simp [g0], fun _ => by simp [g0, g1], fun _ => by simp [g0, g1, g2], fun h => by omega⟩
        | cons x3 l3 =>
          have g3 := hat 3 (by rw [hl, hc]; simp)
          rw [hc] at g3; simp at g3
          exact ⟨fun _ => by simp [g0], fun _ => by simp [g0, g1], fun _ => by simp [g0, g1, g2], fun _ => by simp [g0, g1, g2, g3]⟩
theorem l0_none (s : ByteArray) (m : Nat) (h : s.size < m ∨ 4 < m) : Ev (fun k => basculeref09_first.l0 k s (m : Int)) 0 := by
  have hj : Ev (fun k => basculeref09_first.j1 k s (m : Int) false) 0 := Ev.step (fun k => rfl) (Ev.ret _)
  refine Ev.step (fun k => rfl) ?_
  by_cases h4 : m ≤ 4
  · refine Ev.pos (by omega) ?_
    rw [decide_eq_false (by omega)]
    exact hj
  · exact Ev.neg (by omega) hj
theorem l0_some (s : ByteArray) (m : Nat) (r : Int) (h1 : 1 ≤ m) (h2 : m ≤ s.size) (h4 : m ≤ 4)
    (h : Ev (fun k => basculeref09_first.l1 k s (m : Int) (((s.get! 0).toNat : Int) - (if m = 2 then 192 else if m = 3 then 224 else if m = 4 then 240 else 0)) 1) r) : Ev (fun k => basculeref09_first.l0 k s (m : Int)) r := by
  have hb := bt_byte s 0
  have hg : bt s 0 = ((s.get! 0).toNat : Int) := bt_get s 0 (by omega)
  refine Ev.step (fun k => rfl) ?_
  refine Ev.pos (by omega) ?_
  rw [decide_eq_true (by omega)]
  refine Ev.step (fun k => rfl) ?_
  refine Ev.pos (by omega) ?_
  have e0 : wrap64 (bt s 0) = ((s.get! 0).toNat : Int) := by rw [w64 (by omega) (by omega), hg]
  have hj : ∀ x, Ev (fun k => basculeref09_first.l1 k s (m : Int) x 1) r → Ev (fun k => basculeref09_first.j2 k s (m : Int) x) r := fun x hx => Ev.step (fun k => rfl) hx
  rw [hg] at hb
  by_cases e2 : m = 2
  · subst e2
    refine Ev.pos rfl ?_
    rw [e0, w64 (by omega) (by omega)]
    exact hj _ (by simpa using h)
  · rw [if_neg e2] at h
    refine Ev.neg (by omega) ?_
    by_cases e3 : m = 3
    · subst e3
      refine Ev.pos rfl ?_
      rw [e0, w64 (by omega) (by omega)]
      exact hj _ (by simpa using h)
    · rw [if_neg e3] at h
      refine Ev.neg (by omega) ?_
      by_cases e4 : m = 4
      · subst e4
        refine Ev.pos rfl ?_
        rw [e0, w64 (by omega) (by omega)]
        exact hj _ (by simpa using h)
      · rw [if_neg e4, Int.sub_zero] at h
        refine Ev.neg (by omega) ?_
        rw [e0]
        exact hj _ h
theorem first_ev (s : ByteArray) : Ev (fun k => basculeref09_first.f k s) ((Top.pointOf s).1 : Int) := by
  have hpt : Top.pointOf s = told (Lib.decodeGo s) := rfl
  show Ev (fun k => basculeref09_first.l0 k s ((1 : Nat) : Int)) _
  by_cases hz : s.size = 0
  · rw [hpt]
    have : Lib.decodeGo s = (65533, 0) := by unfold Lib.decodeGo; rw [if_pos hz]
    rw [this]
    exact l0_none s 1 (by omega)
  · have hd : Lib.decodeGo s = Lib.decodeN s.size (s.get! 0).toNat (s.get! 1).toNat (s.get! 2).toNat (s.get! 3).toNat := by
      unfold Lib.decodeGo; rw [if_neg hz, Lib.decode_at, Nat.sub_zero, Nat.zero_add, Nat.zero_add, Nat.zero_add]
    rw [hpt, hd]
    obtain ⟨q1, q2, q3, q4⟩ := firstN_eq s
    have g1 := fun h => bt_get s 1 h
    have g2 := fun h => bt_get s 2 h
    have g3 := fun h => bt_get s 3 h
    have l0 := (s.get! 0).toNat_lt; have l1 := (s.get! 1).toNat_lt; have l2 := (s.get! 2).toNat_lt; have l3 := (s.get! 3).toNat_lt
    obtain ⟨b0, hb0⟩ : ∃ b, (s.get! 0).toNat = b := ⟨_, rfl⟩
    obtain ⟨b1, hb1⟩ : ∃ b, (s.get! 1).toNat = b := ⟨_, rfl⟩
    obtain ⟨b2, hb2⟩ : ∃ b, (s.get! 2).toNat = b := ⟨_, rfl⟩
    obtain ⟨b3, hb3⟩ : ∃ b, (s.get! 3).toNat = b := ⟨_, rfl⟩
    rw [hb0, hb1, hb2, hb3] at q4
    rw [hb0, hb1, hb2] at q3
    rw [hb0, hb1] at q2
    rw [hb0] at q1
    have S := fun m r => l0_some s m r
    rw [hb0] at S
    rw [hb1] at g1 l1; rw [hb2] at g2 l2; rw [hb3] at g3 l3; rw [hb0] at l0
    rw [hb0, hb1, hb2, hb3]
    have stop : ∀ m : Nat, (s.size < m ∨ 4 < m) → told (Lib.decodeN s.size b0 b1 b2 b3) = (0, 0) → Ev (fun k => basculeref09_first.l0 k s (m : Int)) ((told (Lib.decodeN s.size b0 b1 b2 b3)).1 : Int) := fun m hm h => by rw [h]; exact l0_none s m hm
    have nat : ∀ x : Int, isPt x → x = ((x.toNat : Nat) : Int) := fun x h => by unfold isPt at h; omega
    refine S 1 _ (by omega) (by omega) (by omega) ?_
    rw [if_neg (by omega), if_neg (by omega), if_neg (by omega), Int.sub_zero]
    refine l1_end s 1 _ _ (by omega) (by omega) (fun h he => ?_) (fun m1 => ?_)
    · rw [q1 (by omega), Int.toNat_natCast] at he
      rw [hit1 _ b0 b1 b2 b3 (by omega) h he]
    · rw [q1 (by omega), Int.toNat_natCast] at m1
      by_cases n2 : 2 ≤ s.size
      · refine S 2 _ (by omega) n2 (by omega) ?_
        rw [if_pos rfl]
        refine l1_step s 2 _ 1 _ (by omega) (by omega) (by omega) (by omega) ?_
        rw [show bt s ((1 : Nat) : Int) = (b1 : Int) from g1 (by omega)]
        refine l1_end s 2 _ _ n2 (by omega) (fun h he => ?_) (fun m2 => ?_)
        · rw [q2 n2] at he
          rw [hit2 _ b0 b1 b2 b3 _ n2 (by omega) (by omega) (nat _ h).symm he]; exact nat _ h
        · rw [q2 n2] at m2
          by_cases n3 : 3 ≤ s.size
          · refine S 3 _ (by omega) n3 (by omega) ?_
            rw [if_neg (by omega), if_pos rfl]
            refine l1_step s 3 _ 1 _ (by omega) (by omega) (by omega) (by omega) ?_
            rw [show bt s ((1 : Nat) : Int) = (b1 : Int) from g1 (by omega)]
            refine l1_step s 3 _ 2 _ (by omega) (by omega) (by omega) (by omega) ?_
            rw [show bt s ((2 : Nat) : Int) = (b2 : Int) from g2 (by omega)]
            refine l1_end s 3 _ _ n3 (by omega) (fun h he => ?_) (fun m3 => ?_)
            · rw [q3 n3] at he
              have h' := h; rw [nat _ h] at h'
              rw [hit3 _ b0 b1 b2 b3 _ n3 (by omega) (by omega) (by omega) (nat _ h).symm h' he]; exact nat _ h
            · rw [q3 n3] at m3
              by_cases n4 : 4 ≤ s.size
              · refine S 4 _ (by omega) n4 (by omega) ?_
                rw [if_neg (by omega), if_neg (by omega), if_pos rfl]
                refine l1_step s 4 _ 1 _ (by omega) (by omega) (by omega) (by omega) ?_
                rw [show bt s ((1 : Nat) : Int) = (b1 : Int) from g1 (by omega)]
                refine l1_step s 4 _ 2 _ (by omega) (by omega) (by omega) (by omega) ?_
                rw [show bt s ((2 : Nat) : Int) = (b2 : Int) from g2 (by omega)]
                refine l1_step s 4 _ 3 _ (by omega) (by omega) (by omega) (by omega) ?_
                rw [show bt s ((3 : Nat) : Int) = (b3 : Int) from g3 (by omega)]
                refine l1_end s 4 _ _ n4 (by omega) (fun h he => ?_) (fun m4 => ?_)
                · rw [q4 n4] at he
                  have h' := h; rw [nat _ h] at h'
                  rw [hit4 _ b0 b1 b2 b3 _ n4 (by omega) (by omega) (by omega) (by omega) (nat _ h).symm h' he]; exact nat _ h
                · rw [q4 n4] at m4
                  exact stop 5 (by omega) (miss_all _ _ _ _ _ (by omega) (by omega) (by omega) (by omega) (by omega) m1 (fun _ => m2) (fun _ => m3) (fun _ => m4))
              · exact stop 4 (by omega) (miss_all _ _ _ _ _ (by omega) (by omega) (by omega) (by omega) (by omega) m1 (fun _ => m2) (fun _ => m3) (fun h => absurd h n4))
          · exact stop 3 (by omega) (miss_all _ _ _ _ _ (by omega) (by omega) (by omega) (by omega) (by omega) m1 (fun _ => m2) (fun h => absurd h n3) (fun h => absurd h (by omega)))
      · exact stop 2 (by omega) (miss_all _ _ _ _ _ (by omega) (by omega) (by omega) (by omega) (by omega) m1 (fun h => absurd h n2) (fun h => absurd h (by omega)) (fun h => absurd h (by omega)))
theorem told_enc (n b0 b1 b2 b3 : Nat) (h : (told (Lib.decodeN n b0 b1 b2 b3)).2 ≠ 0) :
    (told (Lib.decodeN n b0 b1 b2 b3)).1 ≠ 0 ∧ (told (Lib.decodeN n b0 b1 b2 b3)).1 ≤ 1114111 ∧ (encN (told (Lib.decodeN n b0 b1 b2 b3)).1).length = (told (Lib.decodeN n b0 b1 b2 b3)).2 := by
  have none1 : told (65533, 1) = (0, 0) := rfl
  have some1 : ∀ c k : Nat, 1 ≤ c → c ≠ 65533 ∨ 2 ≤ k → told (c, k) = (c, k) := fun c k h1 h2 => if_neg (by simp; omega)
  revert h
  unfold Lib.decodeN
  split
  · rename_i hb
    by_cases hz : b0 = 0
    · subst hz; intro h; exact absurd rfl h
    · rw [some1 _ _ (by omega) (by omega)]; intro _; exact ⟨hz, by simp; omega, by unfold encN; rw [if_pos (by simpa using hb)]; rfl⟩
  · split
    · split
      · rename_i hb hc hd
        rw [some1 _ _ (by omega) (by omega)]; intro _
        exact ⟨by simp; omega, by simp; omega, by unfold encN; rw [if_neg (by simp; omega), if_pos (by simp; omega)]; rfl⟩
      · rw [none1]; intro h; exact absurd rfl h
    · split
      · split
        · rename_i hb hc hd he
          rw [some1 _ _ (by omega) (by omega)]; intro _
          exact ⟨by simp; omega, by simp; omega, by unfold encN; rw [if_neg (by simp; omega), if_neg (by simp; omega), if_pos (by simp; omega)]; rfl⟩
        · rw [none1]; intro h; exact absurd rfl h
      · split
        · split
          · rename_i hb hc hd he hf
            rw [some1 _ _ (by omega) (by omega)]; intro _
            exact ⟨by simp; omega, by simp; omega, by unfold encN; rw [if_neg (by simp; omega), if_neg (by simp; omega), if_neg (by simp; omega)]; rfl⟩
          · rw [none1]; intro h; exact absurd rfl h
        · rw [none1]; intro h; exact absurd rfl h
theorem point_enc (s : ByteArray) (h : (Top.pointOf s).2 ≠ 0) : (Top.pointOf s).1 ≠ 0 ∧ (Top.pointOf s).1 ≤ 1114111 ∧ (encN (Top.pointOf s).1).length = (Top.pointOf s).2 := by
  have hpt : Top.pointOf s = told (Lib.decodeGo s) := rfl
  rw [hpt] at h ⊢
  by_cases hz : s.size = 0
  · have : Lib.decodeGo s = (65533, 0) := by unfold Lib.decodeGo; rw [if_pos hz]
    rw [this] at h; exact absurd rfl h
  · have hd : Lib.decodeGo s = Lib.decodeN s.size (s.get! 0).toNat (s.get! 1).toNat (s.get! 2).toNat (s.get! 3).toNat := by
      unfold Lib.decodeGo; rw [if_neg hz, Lib.decode_at, Nat.sub_zero, Nat.zero_add, Nat.zero_add, Nat.zero_add]
    rw [hd] at h ⊢
    exact told_enc _ _ _ _ _ h
theorem point_none (s : ByteArray) (h : (Top.pointOf s).2 = 0) (hs : s.size ≠ 0) : (Top.pointOf s).1 = 0 := by
  have := (Top.decode_small s).2.2.2 hs
  unfold Top.pointOf at h ⊢
  split
  · rfl
  · rename_i hn; rw [if_neg hn] at h; omega
theorem points_ev (d : Nat) : ∀ (s : ByteArray) (l : List Int), s.size ≤ d → l.length + s.size ≤ 65535 → ∃ l', Ev (fun k => basculeref09_Points.l0 k s l) (l', Top.okPts s.size s) := by
  induction d with
  | zero =>
    intro s l hd hl
    refine ⟨l, Ev.step (fun k => rfl) ?_⟩
    refine Ev.neg (by omega) (Ev.ret' ?_)
    rw [Top.okPts_nil _ _ (by omega)]
  | succ d ih =>
    intro s l hd hl
    by_cases h0 : s.size = 0
    · refine ⟨l, Ev.step (fun k => rfl) ?_⟩
      refine Ev.neg (by omega) (Ev.ret' ?_)
      rw [Top.okPts_nil _ _ h0]
    · by_cases hk : (Top.pointOf s).2 = 0
      · refine ⟨[], Ev.step (fun k => rfl) ?_⟩
        refine Ev.pos (by omega) (Ev.bind (first_ev s) ?_)
        have e0 := point_none s hk h0
        refine Ev.pos (by omega) (Ev.ret' ?_)
        obtain ⟨k, hks⟩ : ∃ k, s.size = k + 1 := ⟨s.size - 1, by omega⟩
        rw [hks, Top.okPts, if_neg h0, if_pos hk]
      · obtain ⟨e1, e2, e3⟩ := point_enc s hk
        have hle := Top.pointOf_le s
        obtain ⟨b, hb, hbl⟩ := bytes_f (Top.pointOf s).1 e2
        have hbs : b.size = (Top.pointOf s).2 := by rw [Lib.size_eq, hbl, List.length_map, e3]
        have hsz : (s.extract (Top.pointOf s).2 s.size).size = s.size - (Top.pointOf s).2 := by rw [ByteArray.size_extract]; omega
        obtain ⟨l', hl'⟩ := ih (s.extract (Top.pointOf s).2 s.size) (l ++ [((Top.pointOf s).1 : Int)]) (by omega) (by rw [List.length_append, hsz]; simp; omega)
        refine ⟨l', Ev.step (fun k => rfl) ?_⟩
        refine Ev.pos (by omega) (Ev.bind (first_ev s) ?_)
        refine Ev.neg (by omega) (Ev.pos (by omega) ?_)
        refine Ev.fst hb ?_
        refine Ev.pos (by omega) (Ev.pos (by omega) ?_)
        rw [hbs, Int.toNat_natCast, Top.okPts_next s h0 hk]
        exact hl'
theorem is_ev (s : ByteArray) : Ev (fun k => basculeref09_Is.f k s) (Top.isU s) := by
  show Ev (fun k => (basculeref09_Points.f k s).bind fun bt123 => some bt123.2) _
  unfold Top.isU
  by_cases h : s.size ≤ 65535
  · rw [decide_eq_true h, Bool.true_and]
    obtain ⟨l', hl'⟩ := points_ev s.size s [] (Nat.le_refl _) (by simpa using h)
    have : Ev (fun k => basculeref09_Points.f k s) (l', Top.okPts s.size s) := by
      show Ev (fun k => if (s.size : Int) > 65535 then _ else _) _
      exact Ev.neg (by omega) hl'
    exact Ev.bind this (Ev.ret _)
  · rw [decide_eq_false h, Bool.false_and]
    have : Ev (fun k => basculeref09_Points.f k s) (([] : List Int), false) := by
      show Ev (fun k => if (s.size : Int) > 65535 then _ else _) _
      exact Ev.pos (by omega) (Ev.ret _)
    exact Ev.bind this (Ev.ret _)
end Go.Proofs.YtjibcekillcgjaaDoor.Q
