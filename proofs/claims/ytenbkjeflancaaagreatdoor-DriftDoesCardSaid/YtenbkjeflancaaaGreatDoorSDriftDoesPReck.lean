/- What the proof of DriftDoes leans on: PReck. -/
import Derived.Test.YtenbkjeflancaaaGreatDoorSDriftDoesPPoint
import Derived.Test.YtenbkjeflancaaaGreatDoorSDriftDoesQx17
import Derived.Test.YtenbkjeflancaaaGreatDoorSDriftDoesValL
import Derived.Test.YtenbkjeflancaaaGreatDoorSDriftDoesQx19
set_option linter.unusedVariables false
set_option linter.unusedSimpArgs false
namespace Go.Proofs.YtenbkjeflancaaaGreatDoor.Q
open Go.RowKit Go.Proofs.YtenbkjeflancaaaGreatDoorW.PrintWords Go.Proofs.YtenbkjeflancaaaGreatDoor.Val
theorem digL_at (x : List Int) (p i : Nat) (h : x.drop i = digL p) : (p = 0 ∧ x.length ≤ i) ∨ (p ≠ 0 ∧ i < x.length ∧ rd x (i : Int) = ((p % 10 : Nat) : Int) ∧ x.drop (i + 1) = digL (p / 10)) := by
  by_cases h0 : p = 0
  · subst h0
    rw [digL_zero, List.drop_eq_nil_iff] at h
    exact .inl ⟨rfl, h⟩
  · rw [digL_pos h0] at h
    obtain ⟨h1, h2, h3⟩ := rd_drop x _ i _ h
    exact .inr ⟨h0, h1, h2, h3⟩
theorem drop_more (x : List Int) (i : Nat) (h : x.length ≤ i) : x.drop (i + 1) = digL (0 / 10) := by
  rw [List.drop_eq_nil_of_le (by omega)]
  exact digL_zero.symm
theorem plus_go (x y : List Int) : ∀ (nd V p q c i : Nat) (out : List Int), V = p + q + c → V < 10 ^ nd → c ≤ 1 → x.drop i = digL p → y.drop i = digL q → i + nd ≤ 1000000 → out.length ≤ i →
    Ev (fun k => basculeref22_plus.l0 k x y out (c : Int) (i : Int)) (out ++ digL V) := by
  intro nd
  induction nd with
  | zero =>
    intro V p q c i out hV hlt hc hx hy hi ho
    have hV0 : V = 0 := by simp at hlt; exact hlt
    obtain ⟨rfl, rfl, rfl⟩ : p = 0 ∧ q = 0 ∧ c = 0 := by omega
    have h1 : x.length ≤ i := by rcases digL_at x _ i hx with ⟨-, h⟩ | ⟨h, -⟩; exact h; exact absurd rfl h
    have h2 : y.length ≤ i := by rcases digL_at y _ i hy with ⟨-, h⟩ | ⟨h, -⟩; exact h; exact absurd rfl h
    rw [hV0, digL_zero, List.append_nil]
    refine Ev.step (fun k => rfl) (Ev.neg (by omega) (Ev.neg (by omega) ?_))
    refine Ev.step (fun k => rfl) ?_
    exact Ev.ret _
  | succ nd ih =>
    intro V p q c i out hV hlt hc hx hy hi ho
    have ih := fun (s p' q' : Nat) (e1 : s = p % 10 + q % 10 + c) (e2 : x.drop (i + 1) = digL p') (e3 : y.drop (i + 1) = digL q') (e4 : p' = p / 10) (e5 : q' = q / 10) =>
      ih (V / 10) p' q' (s / 10) (i + 1) (out ++ [((V % 10 : Nat) : Int)]) (by omega) (by rw [Nat.pow_succ] at hlt; omega) (by omega) e2 e3 (by omega) (by rw [List.length_append, List.length_singleton]; omega)
    have hi0 : (0 : Int) ≤ (i : Int) := Int.natCast_nonneg i
    have ho1 : out.length < 17592186044416 := by omega
    have hVs : V % 10 = (p % 10 + q % 10 + c) % 10 := by omega
    rcases digL_at x p i hx with ⟨hp, hxl⟩ | ⟨hp, hxl, hxr, hxd⟩
    · have hxn : ¬ (i : Int) < (x.length : Int) := by omega
      have hx1 := drop_more x i hxl
      rcases digL_at y q i hy with ⟨hq, hyl⟩ | ⟨hq, hyl, hyr, hyd⟩
      · have hyn : ¬ (i : Int) < (y.length : Int) := by omega
        have hy1 := drop_more y i hyl
        subst hp; subst hq
        have hVc : V = c := by omega
        by_cases hc0 : c = 0
        · subst hc0
          rw [hVc, digL_zero, List.append_nil]
          refine Ev.step (fun k => rfl) (Ev.neg hxn (Ev.neg hyn ?_))
          refine Ev.step (fun k => rfl) ?_
          exact Ev.ret _
        · obtain rfl : c = 1 := by omega
          have ih := ih 1 _ _ rfl hx1 hy1 rfl rfl
          have hV0 : V ≠ 0 := by omega
          rw [digL_pos hV0]
          rw [List.append_assoc] at ih
          rw [hVs] at ih ⊢
          have w : wrap64 ((i : Int) + 1) = ((i + 1 : Nat) : Int) := by clear ih; unfold wrap64; omega
          have w1 : wrap64 (Int.tdiv ((1 : Nat) : Int) 10) = ((1 / 10 : Nat) : Int) := by unfold wrap64; decide
          have w2 : Int.tmod ((1 : Nat) : Int) 10 = (((0 % 10 + 0 % 10 + 1) % 10 : Nat) : Int) := by decide
          refine Ev.step (fun k => rfl) (Ev.neg hxn (Ev.neg hyn ?_))
          refine Ev.step (fun k => rfl) ?_
          refine Ev.neg hxn (Ev.neg hyn (Ev.pos ho1 ?_))
          rw [w, w1, w2]
          exact ih
      · have hyp : (i : Int) < (y.length : Int) := by omega
        subst hp
        have hV0 : V ≠ 0 := by omega
        have ih := ih (q % 10 + c) _ _ (by omega) hx1 hyd rfl rfl
        rw [digL_pos hV0]
        rw [List.append_assoc] at ih
        have hs : c + q % 10 ≤ 4000000000 := by omega
        have hs2 : (c + q % 10) / 10 ≤ 4000000000 := by omega
        rw [show V % 10 = (c + q % 10) % 10 by omega] at ih ⊢
        rw [show q % 10 + c = c + q % 10 by omega] at ih
        have w : wrap64 ((i : Int) + 1) = ((i + 1 : Nat) : Int) := by clear ih; unfold wrap64; omega
        refine Ev.step (fun k => rfl) (Ev.neg hxn (Ev.pos hyp ?_))
        refine Ev.step (fun k => rfl) ?_
        refine Ev.neg hxn (Ev.pos hyp (Ev.pos hi0 (Ev.pos ho1 ?_)))
        rw [hyr, ← Int.natCast_add, wrap_sm _ hs, tmod10, tdiv10, wrap_sm _ hs2, w]
        exact ih
    · have hxp : (i : Int) < (x.length : Int) := by omega
      have hV0 : V ≠ 0 := by omega
      rcases digL_at y q i hy with ⟨hq, hyl⟩ | ⟨hq, hyl, hyr, hyd⟩
      · have hyn : ¬ (i : Int) < (y.length : Int) := by omega
        have hy1 := drop_more y i hyl
        subst hq
        have ih := ih (c + p % 10) _ _ (by omega) hxd hy1 rfl rfl
        rw [digL_pos hV0]
        rw [List.append_assoc] at ih
        have hs : c + p % 10 ≤ 4000000000 := by omega
        have hs2 : (c + p % 10) / 10 ≤ 4000000000 := by omega
        rw [show V % 10 = (c + p % 10) % 10 by omega] at ih ⊢
        have w : wrap64 ((i : Int) + 1) = ((i + 1 : Nat) : Int) := by clear ih; unfold wrap64; omega
        refine Ev.step (fun k => rfl) (Ev.pos hxp ?_)
        refine Ev.step (fun k => rfl) ?_
        refine Ev.pos hxp (Ev.pos hi0 (Ev.neg hyn (Ev.pos ho1 ?_)))
        rw [hxr, ← Int.natCast_add, wrap_sm _ hs, tmod10, tdiv10, wrap_sm _ hs2, w]
        exact ih
      · have hyp : (i : Int) < (y.length : Int) := by omega
        have ih := ih (c + p % 10 + q % 10) _ _ (by omega) hxd hyd rfl rfl
        rw [digL_pos hV0]
        rw [List.append_assoc] at ih
        have hs : c + p % 10 + q % 10 ≤ 4000000000 := by omega
        have hs1 : c + p % 10 ≤ 4000000000 := by omega
        have hs2 : (c + p % 10 + q % 10) / 10 ≤ 4000000000 := by omega
        rw [show V % 10 = (c + p % 10 + q % 10) % 10 by omega] at ih ⊢
        have w : wrap64 ((i : Int) + 1) = ((i + 1 : Nat) : Int) := by clear ih; unfold wrap64; omega
        refine Ev.step (fun k => rfl) (Ev.pos hxp ?_)
        refine Ev.step (fun k => rfl) ?_
        refine Ev.pos hxp (Ev.pos hi0 (Ev.pos hyp (Ev.pos ho1 ?_)))
        rw [hxr, hyr, ← Int.natCast_add, wrap_sm _ hs1, ← Int.natCast_add, wrap_sm _ hs, tmod10, tdiv10, wrap_sm _ hs2, w]
        exact ih
theorem plus_ev (p q : Nat) (h : p + q < 10 ^ 100) : Ev (fun k => basculeref22_plus.f k (digL p) (digL q)) (digL (p + q)) := by
  have := plus_go (digL p) (digL q) 100 (p + q) p q 0 0 [] rfl h (by decide) (by rw [List.drop_zero]) (by rw [List.drop_zero]) (by decide) (Nat.le_refl _)
  rwa [List.nil_append] at this
theorem minus_go (x y : List Int) : ∀ (nd p q b i : Nat) (out : List Int), q + b ≤ p → p < 10 ^ nd → b ≤ 1 → x.drop i = digL p → y.drop i = digL q → i + nd ≤ 1000000 → out.length ≤ i →
    ∃ D, (∀ z ∈ D, 0 ≤ z ∧ z ≤ 9) ∧ valD D = p - q - b ∧ D.length ≤ nd ∧ Ev (fun k => basculeref22_minus.l0 k x y out (b : Int) (i : Int)) (trimT (out ++ D)) := by
  intro nd
  induction nd with
  | zero =>
    intro p q b i out hle hlt hb hx hy hi ho
    have hp0 : p = 0 := by simp at hlt; exact hlt
    obtain ⟨rfl, rfl, rfl⟩ : p = 0 ∧ q = 0 ∧ b = 0 := by omega
    have h1 : x.length ≤ i := by rcases digL_at x _ i hx with ⟨-, h⟩ | ⟨h, -⟩; exact h; exact absurd rfl h
    refine ⟨[], (fun z hz => by cases hz), rfl, Nat.le_refl _, ?_⟩
    rw [List.append_nil]
    refine Ev.step (fun k => rfl) (Ev.neg (by omega) ?_)
    exact Ev.bind (trim_ev out (by omega)) (Ev.ret _)
  | succ nd ih =>
    intro p q b i out hle hlt hb hx hy hi ho
    have hi0 : (0 : Int) ≤ (i : Int) := Int.natCast_nonneg i
    have ho1 : out.length < 17592186044416 := by omega
    have hlt10 : p / 10 < 10 ^ nd := by rw [Nat.pow_succ] at hlt; omega
    rcases digL_at x p i hx with ⟨hp, hxl⟩ | ⟨hp, hxl, hxr, hxd⟩
    · obtain ⟨rfl, rfl, rfl⟩ : p = 0 ∧ q = 0 ∧ b = 0 := by omega
      refine ⟨[], (fun z hz => by cases hz), rfl, Nat.zero_le _, ?_⟩
      rw [List.append_nil]
      refine Ev.step (fun k => rfl) (Ev.neg (by omega) ?_)
      exact Ev.bind (trim_ev out (by omega)) (Ev.ret _)
    · have hxp : (i : Int) < (x.length : Int) := by omega
      -- one digit d, and what is borrowed
      have step : ∀ (q' d b' : Nat), y.drop (i + 1) = digL q' → d ≤ 9 → b' ≤ 1 → q' + b' ≤ p / 10 → d + 10 * (p / 10 - q' - b') = p - q - b →
          ∃ D, (∀ z ∈ D, 0 ≤ z ∧ z ≤ 9) ∧ valD D = p - q - b ∧ D.length ≤ nd + 1 ∧ (Ev (fun k => basculeref22_minus.l0 k x y (out ++ [(d : Int)]) (b' : Int) (wrap64 ((i : Int) + 1))) (trimT (out ++ D))) := by
        intro q' d b' hyd hd hb' hle' hval
        obtain ⟨D, h1, h2, h3, h4⟩ := ih (p / 10) q' b' (i + 1) (out ++ [(d : Int)]) hle' hlt10 hb' hxd hyd (by omega) (by rw [List.length_append, List.length_singleton]; omega)
        have w : wrap64 ((i : Int) + 1) = ((i + 1 : Nat) : Int) := by clear h4; unfold wrap64; omega
        rw [w]
        refine ⟨(d : Int) :: D, ?_, ?_, ?_, ?_⟩
        · intro z hz
          rcases List.mem_cons.1 hz with rfl | hz
          · clear w; omega
          · exact h1 z hz
        · rw [valD, h2, Int.toNat_natCast]; exact hval
        · rw [List.length_cons]; clear w; omega
        · rw [List.append_assoc] at h4; exact h4
      rcases digL_at y q i hy with ⟨hq, hyl⟩ | ⟨hq, hyl, hyr, hyd⟩
      · have hyn : ¬ (i : Int) < (y.length : Int) := by omega
        have hy1 := drop_more y i hyl
        subst hq
        have e1 : wrap64 (((p % 10 : Nat) : Int) - (b : Int)) = ((p % 10 : Nat) : Int) - (b : Int) := by unfold wrap64; omega
        have e2 : wrap64 (((p % 10 : Nat) : Int) - (b : Int) + 10) = ((p % 10 : Nat) : Int) - (b : Int) + 10 := by clear e1; unfold wrap64; omega
        by_cases hn : ((p % 10 : Nat) : Int) - (b : Int) < 0
        · obtain ⟨D, h1, h2, h3, h4⟩ := step _ (p % 10 + 10 - b) 1 hy1 (by clear e1 e2; omega) (by decide) (by clear e1 e2; omega) (by clear e1 e2; omega)
          refine ⟨D, h1, h2, h3, ?_⟩
          rw [show ((p % 10 + 10 - b : Nat) : Int) = ((p % 10 : Nat) : Int) - (b : Int) + 10 by clear e1 e2; omega] at h4
          refine Ev.step (fun k => rfl) (Ev.pos hxp (Ev.pos hi0 (Ev.neg hyn ?_)))
          rw [hxr, e1, e2]
          exact Ev.pos hn (Ev.pos ho1 h4)
        · obtain ⟨D, h1, h2, h3, h4⟩ := step _ (p % 10 - b) 0 hy1 (by clear e1 e2; omega) (by decide) (by clear e1 e2; omega) (by clear e1 e2; omega)
          refine ⟨D, h1, h2, h3, ?_⟩
          rw [show ((p % 10 - b : Nat) : Int) = ((p % 10 : Nat) : Int) - (b : Int) by clear e1 e2; omega] at h4
          refine Ev.step (fun k => rfl) (Ev.pos hxp (Ev.pos hi0 (Ev.neg hyn ?_)))
          rw [hxr, e1, e2]
          exact Ev.neg hn (Ev.pos ho1 h4)
      · have hyp : (i : Int) < (y.length : Int) := by omega
        have e1 : wrap64 (((p % 10 : Nat) : Int) - (b : Int)) = ((p % 10 : Nat) : Int) - (b : Int) := by unfold wrap64; omega
        have e3 : wrap64 (((p % 10 : Nat) : Int) - (b : Int) - ((q % 10 : Nat) : Int)) = ((p % 10 : Nat) : Int) - (b : Int) - ((q % 10 : Nat) : Int) := by clear e1; unfold wrap64; omega
        have e2 : wrap64 (((p % 10 : Nat) : Int) - (b : Int) - ((q % 10 : Nat) : Int) + 10) = ((p % 10 : Nat) : Int) - (b : Int) - ((q % 10 : Nat) : Int) + 10 := by clear e1 e3; unfold wrap64; omega
        by_cases hn : ((p % 10 : Nat) : Int) - (b : Int) - ((q % 10 : Nat) : Int) < 0
        · obtain ⟨D, h1, h2, h3, h4⟩ := step _ (p % 10 + 10 - b - q % 10) 1 hyd (by clear e1 e2 e3; omega) (by decide) (by clear e1 e2 e3; omega) (by clear e1 e2 e3; omega)
          refine ⟨D, h1, h2, h3, ?_⟩
          rw [show ((p % 10 + 10 - b - q % 10 : Nat) : Int) = ((p % 10 : Nat) : Int) - (b : Int) - ((q % 10 : Nat) : Int) + 10 by clear e1 e2 e3; omega] at h4
          refine Ev.step (fun k => rfl) (Ev.pos hxp (Ev.pos hi0 (Ev.pos hyp ?_)))
          rw [hxr, hyr, e1, e3, e2]
          exact Ev.pos hn (Ev.pos ho1 h4)
        · obtain ⟨D, h1, h2, h3, h4⟩ := step _ (p % 10 - b - q % 10) 0 hyd (by clear e1 e2 e3; omega) (by decide) (by clear e1 e2 e3; omega) (by clear e1 e2 e3; omega)
          refine ⟨D, h1, h2, h3, ?_⟩
          rw [show ((p % 10 - b - q % 10 : Nat) : Int) = ((p % 10 : Nat) : Int) - (b : Int) - ((q % 10 : Nat) : Int) by clear e1 e2 e3; omega] at h4
          refine Ev.step (fun k => rfl) (Ev.pos hxp (Ev.pos hi0 (Ev.pos hyp ?_)))
          rw [hxr, hyr, e1, e3, e2]
          exact Ev.neg hn (Ev.pos ho1 h4)
theorem minus_ev (p q : Nat) (hle : q ≤ p) (h : p < 10 ^ 100) : Ev (fun k => basculeref22_minus.f k (digL p) (digL q)) (digL (p - q)) := by
  obtain ⟨D, h1, h2, h3, h4⟩ := minus_go (digL p) (digL q) 100 p q 0 0 [] (by omega) h (by decide) (by rw [List.drop_zero]) (by rw [List.drop_zero]) (by decide) (Nat.le_refl _)
  rw [List.nil_append, trim_val D h1, h2] at h4
  exact h4
theorem valD_snoc : ∀ (l : List Int) (t : Int), valD (l ++ [t]) = valD l + t.toNat * 10 ^ l.length
  | [], t => by simp [valD]
  | x :: l, t => by
    rw [List.cons_append, valD, valD_snoc l t, valD, List.length_cons, Nat.pow_succ, Nat.mul_add, ← Nat.add_assoc]
    congr 1
    rw [Nat.mul_comm (10 ^ l.length) 10, ← Nat.mul_assoc, ← Nat.mul_assoc, Nat.mul_comm t.toNat 10]
theorem valD_lt : ∀ (l : List Int), (∀ x ∈ l, 0 ≤ x ∧ x ≤ 9) → valD l < 10 ^ l.length
  | [], _ => by decide
  | x :: l, h => by
    have ih := valD_lt l (fun y hy => h y (List.mem_cons_of_mem _ hy))
    have hx := h x (List.mem_cons_self ..)
    rw [valD, List.length_cons, Nat.pow_succ]
    omega
theorem lessAt_val (X Y : List Int) (hX : ∀ x ∈ X, 0 ≤ x ∧ x ≤ 9) (hY : ∀ x ∈ Y, 0 ≤ x ∧ x ≤ 9) : ∀ n, n ≤ X.length → n ≤ Y.length → lessAt X Y n = decide (valD (X.take n) < valD (Y.take n))
  | 0, _, _ => rfl
  | n + 1, h1, h2 => by
    have ih := lessAt_val X Y hX hY n (by omega) (by omega)
    have l1 : (X.take n).length = n := by rw [List.length_take]; omega
    have l2 : (Y.take n).length = n := by rw [List.length_take]; omega
    have b1 := valD_lt (X.take n) (fun x h => hX x (List.mem_of_mem_take h))
    have b2 := valD_lt (Y.take n) (fun x h => hY x (List.mem_of_mem_take h))
    rw [l1] at b1
    rw [l2] at b2
    have r1 := rd_ok hX n (by omega)
    have r2 := rd_ok hY n (by omega)
    rw [lessAt, take_rd X n (by omega), take_rd Y n (by omega), valD_snoc, valD_snoc, l1, l2]
    generalize rd X (n : Int) = s at *
    generalize rd Y (n : Int) = t at *
    generalize valD (X.take n) = a at *
    generalize valD (Y.take n) = c at *
    generalize 10 ^ n = P at *
    by_cases h : s = t
    · subst h
      rw [if_pos rfl, ih, Bool.eq_iff_iff]
      simp
    · rw [if_neg h, Bool.eq_iff_iff, decide_eq_true_iff, decide_eq_true_iff]
      constructor
      · intro hlt
        have : s.toNat + 1 ≤ t.toNat := by omega
        have := Nat.mul_le_mul_right P this
        rw [Nat.add_mul, Nat.one_mul] at this
        omega
      · intro hlt
        apply Decidable.byContradiction
        intro hge
        have : t.toNat + 1 ≤ s.toNat := by omega
        have := Nat.mul_le_mul_right P this
        rw [Nat.add_mul, Nat.one_mul] at this
        omega
theorem lo_digL (y : Nat) (h : y ≠ 0) : 10 ^ ((digL y).length - 1) ≤ y := by
  induction y using Nat.strongRecOn with
  | ind y ih =>
    rw [digL_pos h, List.length_cons, Nat.add_sub_cancel]
    by_cases h10 : y / 10 = 0
    · rw [h10, digL_zero]; simp; omega
    · have := ih (y / 10) (by omega) h10
      have hl : (digL (y / 10)).length = (digL (y / 10)).length - 1 + 1 := by
        have : (digL (y / 10)).length ≠ 0 := by
          intro e
          exact h10 (digL_nil (List.eq_nil_of_length_eq_zero e))
        omega
      rw [hl, Nat.pow_succ]
      omega
theorem lessL_digL (x y : Nat) : lessL (digL x) (digL y) = decide (x < y) := by
  unfold lessL
  by_cases h : (digL x).length = (digL y).length
  · rw [if_pos h, lessAt_val _ _ (digL_dig x) (digL_dig y) _ (Nat.le_refl _) (by omega), List.take_length]
    rw [h, List.take_length, valD_digL, valD_digL]
  · rw [if_neg h, Bool.eq_iff_iff, decide_eq_true_iff, decide_eq_true_iff]
    have mono : ∀ a b : Nat, (digL a).length < (digL b).length → a < b := by
      intro a b hl
      have hb : b ≠ 0 := by
        intro e
        subst e
        rw [digL_zero] at hl
        exact absurd hl (Nat.not_lt_zero _)
      have h1 := lt_digL a
      have h2 := lo_digL b hb
      have h3 : 10 ^ (digL a).length ≤ 10 ^ ((digL b).length - 1) := Nat.pow_le_pow_right (by decide) (by omega)
      omega
    constructor
    · exact mono x y
    · intro hlt
      apply Decidable.byContradiction
      intro hge
      have := mono y x (by omega)
      omega
theorem less_f (x y : Nat) (hx : x < 10 ^ 100) (hy : y < 10 ^ 100) : basculeref22_less.f (digL x) (digL y) = some (decide (x < y)) := by
  show lessO (digL x) (digL y) = _
  unfold lessO
  rw [if_pos ⟨Nat.le_trans (digL_len 100 x hx) (by decide), Nat.le_trans (digL_len 100 y hy) (by decide)⟩, trim_digL, trim_digL, lessL_digL]
end Go.Proofs.YtenbkjeflancaaaGreatDoor.Q
