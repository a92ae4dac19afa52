/- Texts' points, plain: bytes put together are points where their parts are. -/
import Derived.Test.YtlfigadjbnikiaaDoorPRef12
set_option linter.unusedVariables false
set_option linter.unusedSimpArgs false
namespace Go.Proofs.YtlfigadjbnikiaaDoor.Q
open Go.RowKit Go.Proofs.YtlfigadjbnikiaaDoorW.PrintWords

theorem decodeN_pre (n m b0 b1 b2 b3 c1 c2 c3 : Nat) (hg : Lib.decodeN n b0 b1 b2 b3 ≠ (65533, 1)) (hm : (Lib.decodeN n b0 b1 b2 b3).2 ≤ m)
    (h1 : 1 < (Lib.decodeN n b0 b1 b2 b3).2 → c1 = b1) (h2 : 2 < (Lib.decodeN n b0 b1 b2 b3).2 → c2 = b2) (h3 : 3 < (Lib.decodeN n b0 b1 b2 b3).2 → c3 = b3) :
    Lib.decodeN m b0 c1 c2 c3 = Lib.decodeN n b0 b1 b2 b3 := by
  by_cases a1 : b0 < 128
  · have : ∀ n b1 b2 b3, Lib.decodeN n b0 b1 b2 b3 = (b0, 1) := fun n b1 b2 b3 => by unfold Lib.decodeN; rw [if_pos a1]
    rw [this, this]
  by_cases a2 : b0 / 32 = 6 ∧ (1 < n ∧ b1 / 64 = 2)
  · by_cases v : b0 % 32 * 64 + b1 % 64 ≥ 128
    · have e : Lib.decodeN n b0 b1 b2 b3 = (b0 % 32 * 64 + b1 % 64, 2) := by unfold Lib.decodeN; rw [if_neg a1, if_pos a2, if_pos v]
      rw [e] at h1 hm ⊢
      have h1' := h1 (by show 1 < 2; omega); subst h1'
      have hm' : 2 ≤ m := hm
      unfold Lib.decodeN; rw [if_neg a1, if_pos ⟨a2.1, by omega, a2.2.2⟩, if_pos v]
    · exact absurd (by unfold Lib.decodeN; rw [if_neg a1, if_pos a2, if_neg v]) hg
  by_cases a3 : b0 / 16 = 14 ∧ (1 < n ∧ b1 / 64 = 2) ∧ (2 < n ∧ b2 / 64 = 2)
  · by_cases v : b0 % 16 * 4096 + b1 % 64 * 64 + b2 % 64 ≥ 2048 ∧ (b0 % 16 * 4096 + b1 % 64 * 64 + b2 % 64 < 55296 ∨ (57344 ≤ b0 % 16 * 4096 + b1 % 64 * 64 + b2 % 64 ∧ b0 % 16 * 4096 + b1 % 64 * 64 + b2 % 64 ≤ 1114111))
    · have e : Lib.decodeN n b0 b1 b2 b3 = (b0 % 16 * 4096 + b1 % 64 * 64 + b2 % 64, 3) := by unfold Lib.decodeN; rw [if_neg a1, if_neg a2, if_pos a3, if_pos v]
      rw [e] at h1 h2 hm ⊢
      have h1' := h1 (by show 1 < 3; omega); subst h1'
      have h2' := h2 (by show 2 < 3; omega); subst h2'
      have hm' : 3 ≤ m := hm
      have n2 : ¬ (b0 / 32 = 6 ∧ (1 < m ∧ c1 / 64 = 2)) := fun h => by have := h.1; have := a3.1; omega
      unfold Lib.decodeN; rw [if_neg a1, if_neg n2, if_pos ⟨a3.1, ⟨by omega, a3.2.1.2⟩, by omega, a3.2.2.2⟩, if_pos v]
    · exact absurd (by unfold Lib.decodeN; rw [if_neg a1, if_neg a2, if_pos a3, if_neg v]) hg
  by_cases a4 : b0 / 8 = 30 ∧ (1 < n ∧ b1 / 64 = 2) ∧ (2 < n ∧ b2 / 64 = 2) ∧ (3 < n ∧ b3 / 64 = 2)
  · by_cases v : b0 % 8 * 262144 + b1 % 64 * 4096 + b2 % 64 * 64 + b3 % 64 ≥ 65536 ∧ (b0 % 8 * 262144 + b1 % 64 * 4096 + b2 % 64 * 64 + b3 % 64 < 55296 ∨ (57344 ≤ b0 % 8 * 262144 + b1 % 64 * 4096 + b2 % 64 * 64 + b3 % 64 ∧ b0 % 8 * 262144 + b1 % 64 * 4096 + b2 % 64 * 64 + b3 % 64 ≤ 1114111))
    · have e : Lib.decodeN n b0 b1 b2 b3 = (b0 % 8 * 262144 + b1 % 64 * 4096 + b2 % 64 * 64 + b3 % 64, 4) := by unfold Lib.decodeN; rw [if_neg a1, if_neg a2, if_neg a3, if_pos a4, if_pos v]
      rw [e] at h1 h2 h3 hm ⊢
      have h1' := h1 (by show 1 < 4; omega); subst h1'
      have h2' := h2 (by show 2 < 4; omega); subst h2'
      have h3' := h3 (by show 3 < 4; omega); subst h3'
      have hm' : 4 ≤ m := hm
      have n2 : ¬ (b0 / 32 = 6 ∧ (1 < m ∧ c1 / 64 = 2)) := fun h => by have := h.1; have := a4.1; omega
      have n3 : ¬ (b0 / 16 = 14 ∧ (1 < m ∧ c1 / 64 = 2) ∧ (2 < m ∧ c2 / 64 = 2)) := fun h => by have := h.1; have := a4.1; omega
      unfold Lib.decodeN; rw [if_neg a1, if_neg n2, if_neg n3, if_pos ⟨a4.1, ⟨by omega, a4.2.1.2⟩, ⟨by omega, a4.2.2.1.2⟩, by omega, a4.2.2.2.2⟩, if_pos v]
    · exact absurd (by unfold Lib.decodeN; rw [if_neg a1, if_neg a2, if_neg a3, if_pos a4, if_neg v]) hg
  exact absurd (by unfold Lib.decodeN; rw [if_neg a1, if_neg a2, if_neg a3, if_neg a4]) hg

theorem decodeN_cont (n b0 b1 b2 b3 : Nat) : (1 < (Lib.decodeN n b0 b1 b2 b3).2 → b1 / 64 = 2) ∧ (2 < (Lib.decodeN n b0 b1 b2 b3).2 → b2 / 64 = 2) ∧ (3 < (Lib.decodeN n b0 b1 b2 b3).2 → b3 / 64 = 2) := by
  unfold Lib.decodeN
  split
  · simp
  · split
    · rename_i h; split <;> simp [h.2.2]
    · split
      · rename_i h; split <;> simp [h.2.1.2, h.2.2.2]
      · split
        · rename_i h; split <;> simp [h.2.1.2, h.2.2.1.2, h.2.2.2.2]
        · simp

theorem get_mk (l : List UInt8) (i : Nat) (b : UInt8) (h : l[i]? = some b) : (mk l).get! i = b := by
  have hlt : i < (mk l).size := by rw [mk_size]; exact (List.getElem?_eq_some_iff.1 h).1
  have := Lib.data_getElem? (mk l) i hlt
  rw [mk_data, h] at this
  rw [Utf8W.get!_of_lt _ i hlt]
  exact (Option.some.inj this).symm

/-- The first point of bytes. -/
def pt (l : List UInt8) : Nat × Nat := Top.pointOf (mk l)

theorem decodeGo_mk (l : List UInt8) (h : l ≠ []) : Lib.decodeGo (mk l) = Lib.decodeN l.length ((mk l).get! 0).toNat ((mk l).get! 1).toNat ((mk l).get! 2).toNat ((mk l).get! 3).toNat := by
  have hs : ¬ (mk l).size = 0 := by rw [mk_size]; exact fun e => h (List.length_eq_zero_iff.1 e)
  unfold Lib.decodeGo
  rw [if_neg hs, Lib.decode_at, Nat.sub_zero, mk_size]

theorem pt_le (l : List UInt8) : (pt l).2 ≤ l.length := by have := Top.pointOf_le (mk l); rwa [mk_size] at this

theorem pt_good (l : List UInt8) (h : (pt l).2 ≠ 0) : pt l = Lib.decodeGo (mk l) ∧ Lib.decodeGo (mk l) ≠ (65533, 1) := by
  unfold pt Top.pointOf at *
  split at h
  · exact absurd rfl h
  · rename_i hn
    rw [if_neg hn]
    exact ⟨rfl, fun e => hn (.inr ⟨by rw [e], by rw [e]; decide⟩)⟩

/-- A good point is told by its own bytes alone. -/
theorem pt_pre (l m : List UInt8) (h : (pt l).2 ≠ 0) (hp : m.take (pt l).2 = l.take (pt l).2) : pt m = pt l := by
  have hl : l ≠ [] := fun e => h (by have := pt_le l; rw [e] at this ⊢; simpa using this)
  have hlen : (pt l).2 ≤ m.length := by
    have := congrArg List.length hp
    rw [List.length_take, List.length_take] at this
    have := pt_le l
    omega
  have hm : m ≠ [] := fun e => by rw [e] at hlen; exact h (by simpa using hlen)
  have hat : ∀ i, i < (pt l).2 → (mk m).get! i = (mk l).get! i := fun i hi => by
    have hil : i < l.length := by have := pt_le l; omega
    obtain ⟨b, hb⟩ : ∃ b, l[i]? = some b := ⟨_, List.getElem?_eq_getElem hil⟩
    rw [get_mk l i b hb]
    refine get_mk m i b ?_
    rw [← hb, ← List.getElem?_take_of_lt hi, hp, List.getElem?_take_of_lt hi]
  obtain ⟨e, hg⟩ := pt_good l h
  have hd : Lib.decodeGo (mk m) = Lib.decodeGo (mk l) := by
    rw [e, decodeGo_mk l hl] at hat h hlen
    rw [decodeGo_mk l hl] at hg
    rw [decodeGo_mk m hm, decodeGo_mk l hl, hat 0 (Nat.pos_of_ne_zero h)]
    exact decodeN_pre _ _ _ _ _ _ _ _ _ hg hlen (fun hi => by rw [hat 1 hi]) (fun hi => by rw [hat 2 hi]) (fun hi => by rw [hat 3 hi])
  unfold pt Top.pointOf
  rw [hd]

/-- Within a good point no byte but its first is a sign below 128. -/
theorem pt_cont (l : List UInt8) (h : (pt l).2 ≠ 0) (i : Nat) (h1 : 1 ≤ i) (hi : i < (pt l).2) (b : UInt8) (hb : l[i]? = some b) : b.toNat / 64 = 2 := by
  have hl : l ≠ [] := fun e => h (by have := pt_le l; rw [e] at this ⊢; simpa using this)
  obtain ⟨e, hg⟩ := pt_good l h
  have h4 : (pt l).2 ≤ 4 := (Top.pointOf_small (mk l)).2
  have hc := decodeN_cont l.length ((mk l).get! 0).toNat ((mk l).get! 1).toNat ((mk l).get! 2).toNat ((mk l).get! 3).toNat
  rw [← decodeGo_mk l hl, ← e] at hc
  have hb' := get_mk l i b hb
  have : i = 1 ∨ i = 2 ∨ i = 3 := by omega
  rcases this with rfl | rfl | rfl
  · rw [← hb']; exact hc.1 hi
  · rw [← hb']; exact hc.2.1 hi
  · rw [← hb']; exact hc.2.2 hi

/-- Are bytes points, one behind the other? -/
def okQ (l : List UInt8) : Bool := Top.okPts l.length (mk l)

theorem okQ_nil : okQ [] = true := rfl
theorem okQ_bad (l : List UInt8) (h0 : l ≠ []) (h : (pt l).2 = 0) : okQ l = false := by
  unfold okQ
  cases l with
  | nil => exact absurd rfl h0
  | cons b l => rw [List.length_cons, Top.okPts, if_neg (by rw [mk_size]; simp)]; exact if_pos h
theorem okQ_next (l : List UInt8) (h0 : l ≠ []) (h : (pt l).2 ≠ 0) : okQ l = okQ (l.drop (pt l).2) := by
  have hs : (mk l).size ≠ 0 := by rw [mk_size]; exact fun e => h0 (List.length_eq_zero_iff.1 e)
  have := Top.okPts_next (mk l) hs h
  unfold okQ
  rw [mk_size] at this
  rw [this, extract_mk, mk_size, mk_data]
  congr 1
  · rw [List.length_take]
    have : (Top.pointOf (mk l)).2 = (pt l).2 := rfl
    rw [this, List.length_drop, Nat.min_self]
  · have : (Top.pointOf (mk l)).2 = (pt l).2 := rfl
    rw [this, List.take_of_length_le (by rw [List.length_drop]; exact Nat.le_refl _)]

theorem okQ_app (n : Nat) : ∀ a b : List UInt8, a.length ≤ n → okQ a = true → okQ (a ++ b) = okQ b := by
  induction n with
  | zero => intro a b hn _; rw [List.length_eq_zero_iff.1 (Nat.le_zero.1 hn), List.nil_append]
  | succ n ih =>
    intro a b hn ha
    by_cases h0 : a = []
    · rw [h0, List.nil_append]
    · by_cases h1 : (pt a).2 = 0
      · rw [okQ_bad a h0 h1] at ha; cases ha
      · have hle := pt_le a
        have e : pt (a ++ b) = pt a := pt_pre a (a ++ b) h1 (by rw [List.take_append_of_le_length hle])
        rw [okQ_next (a ++ b) (by simp [h0]) (by rw [e]; exact h1), e, List.drop_append_of_le_length hle]
        rw [okQ_next a h0 h1] at ha
        exact ih _ _ (by rw [List.length_drop]; omega) ha

theorem okQ_cut (n : Nat) : ∀ a b : List UInt8, a.length ≤ n → okQ (a ++ 47 :: b) = true → okQ a = true ∧ okQ b = true := by
  induction n with
  | zero =>
    intro a b hn h
    rw [List.length_eq_zero_iff.1 (Nat.le_zero.1 hn)] at h ⊢
    have := okQ_app 1 [47] b (by simp) (by decide)
    exact ⟨rfl, by rw [← this]; exact h⟩
  | succ n ih =>
    intro a b hn h
    by_cases h0 : a = []
    · rw [h0] at h ⊢
      have := okQ_app 1 [47] b (by simp) (by decide)
      exact ⟨rfl, by rw [← this]; exact h⟩
    · have hne : a ++ 47 :: b ≠ [] := by simp
      by_cases h1 : (pt (a ++ 47 :: b)).2 = 0
      · rw [okQ_bad _ hne h1] at h; cases h
      · have hle : (pt (a ++ 47 :: b)).2 ≤ a.length := by
          refine Nat.le_of_not_lt (fun hlt => ?_)
          have h1a : 1 ≤ a.length := Nat.pos_of_ne_zero (fun e => h0 (List.length_eq_zero_iff.1 e))
          have := pt_cont (a ++ 47 :: b) h1 a.length h1a hlt 47 (by rw [List.getElem?_append_right (Nat.le_refl _), Nat.sub_self]; rfl)
          exact absurd this (by decide)
        have e : pt a = pt (a ++ 47 :: b) := pt_pre (a ++ 47 :: b) a h1 (by rw [List.take_append_of_le_length hle])
        rw [okQ_next _ hne h1, List.drop_append_of_le_length hle] at h
        rw [okQ_next a h0 (by rw [e]; exact h1), e]
        exact ih _ _ (by rw [List.length_drop]; omega) h

theorem okQ_slash (a b : List UInt8) : okQ (a ++ 47 :: b) = (okQ a && okQ b) := by
  cases h : okQ (a ++ 47 :: b) with
  | true => have := okQ_cut a.length a b (Nat.le_refl _) h; rw [this.1, this.2]; rfl
  | false =>
    cases ha : okQ a with
    | false => rfl
    | true =>
      rw [okQ_app a.length a (47 :: b) (Nat.le_refl _) ha] at h
      have e := okQ_app 1 [47] b (by simp) (by decide)
      rw [Bool.true_and, ← e]
      exact h.symm

theorem isU_list (s : ByteArray) : Top.isU s = (decide (s.data.toList.length ≤ 65535) && okQ s.data.toList) := by
  unfold Top.isU okQ
  rw [Lib.size_eq]
  rfl

end Go.Proofs.YtlfigadjbnikiaaDoor.Q
