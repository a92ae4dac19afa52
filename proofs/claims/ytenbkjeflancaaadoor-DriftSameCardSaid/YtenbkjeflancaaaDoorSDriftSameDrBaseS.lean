/- What the proof of DriftSame leans on: DrBaseS. -/
import Derived.Test.YtenbkjeflancaaaDoorSDriftSameDrBase
import Derived.Test.YtenbkjeflancaaaDoorSDriftSamePNum
set_option linter.unusedVariables false
set_option linter.unusedSimpArgs false
namespace Go.Proofs.YtenbkjeflancaaaDoor.Val
open Go.RowKit Go.Proofs.YtenbkjeflancaaaDoorW.PrintWords Go.Proofs.YtenbkjeflancaaaDoor.Q
theorem fixD_no : ∀ n u, (45 : UInt8) ∉ fixD n u
  | 0, u => by simp [fixD]
  | n + 1, u => by
    rw [fixD, List.mem_append, not_or]
    refine ⟨fixD_no n _, ?_⟩
    rw [List.mem_singleton, ← UInt8.toNat_inj, UInt8.toNat_ofNat']
    show ¬ (45 = _)
    omega
theorem pt_no (x sc : Nat) : (45 : UInt8) ∉ pointL false x sc := by
  unfold pointL ptL
  simp only [Bool.false_eq_true, if_false, List.nil_append]
  split
  · rw [dec_fix]; exact fixD_no _ _
  · rw [pad_fix, List.mem_append, List.mem_cons, not_or, not_or]
    exact ⟨fun h => fixD_no _ _ (List.mem_of_mem_take h), by decide, fun h => fixD_no _ _ (List.mem_of_mem_drop h)⟩
theorem pt_pos (b : Bool) (x sc : Nat) : 1 ≤ (pointL b x sc).length := by
  rw [pt_len]
  have : 1 ≤ Lib.nDigits x := by
    by_cases h : x < 10
    · rw [Lib.nDigits_small h]; exact Nat.le_refl _
    · rw [Lib.nDigits_big h]; omega
  split <;> split <;> omega
theorem pt_true (x sc : Nat) : pointL true x sc = 45 :: pointL false x sc := rfl
theorem pt_inj (b c : Bool) (x y sc : Nat) (h : pointL b x sc = pointL c y sc) : b = c ∧ x = y := by
  cases b <;> cases c
  · exact ⟨rfl, (pt_order x y sc (by rw [h])).2.1 h⟩
  · rw [pt_true] at h
    exact absurd (by rw [h]; simp) (pt_no x sc)
  · rw [pt_true] at h
    exact absurd (by rw [← h]; simp) (pt_no y sc)
  · rw [pt_true, pt_true] at h
    have h := (List.cons.inj h).2
    exact ⟨rfl, (pt_order x y sc (by rw [h])).2.1 h⟩
theorem hx_inj (a b : Nat) (ha : a < 16) (hb : b < 16) (h : hx a = hx b) : a = b := by
  have H : ∀ i j : Fin 16, hx i.1 = hx j.1 → i = j := by decide +kernel
  exact congrArg Fin.val (H ⟨a, ha⟩ ⟨b, hb⟩ h)
theorem hex4_inj (u v : Nat) (hu : u < 65536) (hv : v < 65536) (h : hex4 u = hex4 v) : u = v := by
  rw [hex4_eq u hu, hex4_eq v hv] at h
  obtain ⟨h1, h⟩ := List.cons.inj h
  obtain ⟨h2, h⟩ := List.cons.inj h
  obtain ⟨h3, h⟩ := List.cons.inj h
  obtain ⟨h4, h⟩ := List.cons.inj h
  have := hx_inj _ _ (by omega) (by omega) h1
  have := hx_inj _ _ (by omega) (by omega) h2
  have := hx_inj _ _ (by omega) (by omega) h3
  have := hx_inj _ _ (by omega) (by omega) h4
  omega
theorem hex4_len (u : Nat) (hu : u < 65536) : (hex4 u).length = 4 := by rw [hex4_eq u hu]; rfl
theorem ord_inj (kd : Int) (l1 l2 : List Int) (h : ordW kd l1 = ordW kd l2) : l1 = l2 := by
  unfold ordW at h
  split at h
  · exact List.reverse_inj.1 h
  · exact h
theorem numX_inj : ∀ (l1 l2 : List Int) (a b : Nat), l1.length = l2.length → (∀ x ∈ l1, 0 ≤ x ∧ x ≤ 65535) → (∀ x ∈ l2, 0 ≤ x ∧ x ≤ 65535) →
    l1.foldl (fun x w => x * 65536 + w.toNat) a = l2.foldl (fun x w => x * 65536 + w.toNat) b → a = b ∧ l1 = l2
  | [], [], a, b, _, _, _, h => ⟨h, rfl⟩
  | x :: l1, y :: l2, a, b, hl, h1, h2, h => by
    obtain ⟨e, rfl⟩ := numX_inj l1 l2 _ _ (by simpa using hl) (fun z hz => h1 z (by simp [hz])) (fun z hz => h2 z (by simp [hz])) h
    have e : a * 65536 + x.toNat = b * 65536 + y.toNat := e
    have hx := h1 x (by simp)
    have hy := h2 y (by simp)
    refine ⟨by omega, ?_⟩
    have : x = y := by omega
    rw [this]
theorem num_inj (kd : Int) (l1 l2 : List Int) (hl : l1.length = l2.length) (h1 : ∀ x ∈ l1, 0 ≤ x ∧ x ≤ 65535) (h2 : ∀ x ∈ l2, 0 ≤ x ∧ x ≤ 65535) (h : numOf kd l1 = numOf kd l2) : l1 = l2 := by
  have k1 : numX (ordW kd l1) < 65536 ^ l1.length := by
    have := numX_lt (ordW kd l1) (fun x hx => h1 x ((ordW_mem kd l1 x).1 hx))
    rwa [ordW_len] at this
  have k2 : numX (ordW kd l2) < 65536 ^ l1.length := by
    have := numX_lt (ordW kd l2) (fun x hx => h2 x ((ordW_mem kd l2 x).1 hx))
    rwa [ordW_len, ← hl] at this
  have e0 : (2 : Nat) ^ (16 * l1.length) = 65536 ^ l1.length := by rw [Nat.pow_mul]
  have hX : numX (ordW kd l1) = numX (ordW kd l2) := by
    unfold numOf at h
    rw [← hl, e0] at h
    generalize numX (ordW kd l1) = X at *
    generalize numX (ordW kd l2) = Y at *
    split at h <;> split at h
    · have := (Prod.mk.inj h).2; omega
    · have := (Prod.mk.inj h).1; cases this
    · have := (Prod.mk.inj h).1; cases this
    · exact (Prod.mk.inj h).2
  exact ord_inj kd _ _ (numX_inj _ _ 0 0 (by rw [ordW_len, ordW_len, hl]) (fun x hx => h1 x ((ordW_mem kd l1 x).1 hx)) (fun x hx => h2 x ((ordW_mem kd l2 x).1 hx)) hX).2
theorem kind1 {n : ByteArray} {u f a kd s d : Int} {wr : Bool} {l : List Int} (h : mayB n u f a kd s d wr l = true) (h1 : kd = 1) : ∃ x, l = [x] ∧ 0 ≤ x ∧ x ≤ 1 := by
  have hl := may_len h
  have ha := may_all h
  subst h1
  have : nOf 1 = 1 := by decide
  obtain ⟨x, rfl⟩ := list1 (l := l) (by omega)
  have hm : mostOf 1 = 1 := by decide
  rw [hm] at ha
  exact ⟨x, rfl, ha x (by simp)⟩
theorem kind8 {n : ByteArray} {u f a kd s d : Int} {wr : Bool} {l : List Int} (h : mayB n u f a kd s d wr l = true) (h8 : kd = 8) : ∃ x y, l = [x, y] ∧ (0 ≤ x ∧ x ≤ 65535) ∧ (0 ≤ y ∧ y ≤ 65535) := by
  have hl := may_len h
  have ha := may_all h
  subst h8
  have : nOf 8 = 2 := by decide
  obtain ⟨x, y, rfl⟩ := list2 (l := l) (by omega)
  have hm : mostOf 8 = 65535 := by decide
  rw [hm] at ha
  exact ⟨x, y, rfl, ha x (by simp), ha y (by simp)⟩
theorem text_inj (n : ByteArray) (u f a kd s d : Int) (wr : Bool) (l1 l2 : List Int) (m1 : mayB n u f a kd s d wr l1 = true) (m2 : mayB n u f a kd s d wr l2 = true) (h : textL kd s l1 = textL kd s l2) : l1 = l2 := by
  unfold textL at h
  by_cases h1 : kd = 1
  · obtain ⟨x, rfl, hx0, hx1⟩ := kind1 m1 h1
    obtain ⟨y, rfl, hy0, hy1⟩ := kind1 m2 h1
    rw [if_pos h1, if_pos h1] at h
    have h := congrArg UInt8.toNat (List.cons.inj h).1
    rw [UInt8.toNat_ofNat', UInt8.toNat_ofNat'] at h
    have e : ∀ z : Int, rd [z] 0 = z := fun z => rfl
    rw [e, e] at h
    have : x = y := by omega
    rw [this]
  rw [if_neg h1, if_neg h1] at h
  by_cases h8 : kd = 8
  · obtain ⟨x, y, rfl, hx, hy⟩ := kind8 m1 h8
    obtain ⟨z, v, rfl, hz, hv⟩ := kind8 m2 h8
    rw [if_pos h8, if_pos h8] at h
    have e : ∀ p q : Int, rd [p, q] 0 = p ∧ rd [p, q] 1 = q := fun p q => ⟨rfl, rfl⟩
    rw [(e x y).1, (e x y).2, (e z v).1, (e z v).2] at h
    obtain ⟨ha, hb⟩ := List.append_inj h (by rw [hex4_len _ (by omega), hex4_len _ (by omega)])
    have := hex4_inj _ _ (by omega) (by omega) ha
    have := hex4_inj _ _ (by omega) (by omega) hb
    have e1 : x = z := by omega
    have e2 : y = v := by omega
    rw [e1, e2]
  rw [if_neg h8, if_neg h8] at h
  obtain ⟨hb, hn⟩ := pt_inj _ _ _ _ _ h
  have hm : mostOf kd = 65535 := by unfold mostOf; rw [if_neg h1]
  have a1 := may_all m1
  have a2 := may_all m2
  rw [hm] at a1 a2
  refine num_inj kd l1 l2 ?_ a1 a2 (Prod.ext hb hn)
  have := may_len m1
  have := may_len m2
  omega
theorem ap_text (n : ByteArray) (u f a kd s : Int) (wr : Bool) (l1 l2 : List Int) (hrow : rowB n u f a kd s 0 wr = true) (h1 : mayB n u f a kd s 0 wr l1 = true) (h2 : mayB n u f a kd s 0 wr l2 = true) : apartR n u f a kd s 0 wr l1 l2 = false ↔ textR n u f a kd s 0 wr l1 = textR n u f a kd s 0 wr l2 := by
  unfold apartR textR
  rw [h1, h2]
  simp only [Bool.and_self, if_true, Bool.not_eq_false', decide_eq_true_eq]
  constructor
  · rintro rfl; rfl
  · intro h
    have := congrArg (fun b : ByteArray => b.data.toList) h
    exact text_inj n u f a kd s 0 wr l1 l2 h1 h2 (by simpa using this)
theorem text_ne (n : ByteArray) (u f a kd s d : Int) (wr : Bool) (l : List Int) (hrow : rowB n u f a kd s d wr = true) (h1 : mayB n u f a kd s d wr l = true) : textR n u f a kd s d wr l ≠ ⟨#[]⟩ := by
  unfold textR
  rw [h1, if_pos rfl]
  intro h
  have h := congrArg (fun b : ByteArray => b.data.toList.length) h
  simp only [List.length_nil] at h
  unfold textL at h
  by_cases k1 : kd = 1
  · rw [if_pos k1] at h; simp at h
  rw [if_neg k1] at h
  by_cases k8 : kd = 8
  · obtain ⟨x, y, rfl, hx, hy⟩ := kind8 h1 k8
    have e : ∀ p q : Int, rd [p, q] 0 = p ∧ rd [p, q] 1 = q := fun p q => ⟨rfl, rfl⟩
    rw [if_pos k8, (e x y).1, (e x y).2] at h
    simp [hex4_len x.toNat (by omega)] at h
  rw [if_neg k8] at h
  have := pt_pos (numOf kd l).1 (numOf kd l).2 s.toNat
  simp at h
  rw [h] at this
  simp at this
end Go.Proofs.YtenbkjeflancaaaDoor.Val
