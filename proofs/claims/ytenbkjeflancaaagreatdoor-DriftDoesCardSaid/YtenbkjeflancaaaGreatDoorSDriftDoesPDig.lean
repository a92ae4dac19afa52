/- What the proof of DriftDoes leans on: PDig. -/
import Derived.Test.YtenbkjeflancaaaGreatDoorSDriftDoesTopB
import Derived.Test.YtenbkjeflancaaaGreatDoorSDriftDoesValG0
import Derived.Test.YtenbkjeflancaaaGreatDoorSDriftDoesValL
import Derived.Test.YtenbkjeflancaaaGreatDoorSDriftDoesValT
import Derived.Test.YtenbkjeflancaaaGreatDoorSDriftDoesPVal
import Derived.Test.YtenbkjeflancaaaGreatDoorSDriftDoesPOf
import Derived.Test.YtenbkjeflancaaaGreatDoorSDriftDoesValF
set_option linter.unusedVariables false
set_option linter.unusedSimpArgs false
namespace Go.Proofs.YtenbkjeflancaaaGreatDoor.Q
open Go.RowKit Go.Proofs.YtenbkjeflancaaaGreatDoorW.PrintWords Go.Proofs.YtenbkjeflancaaaGreatDoor.Val
def digL (n : Nat) : List Int := if h : n = 0 then [] else ((n % 10 : Nat) : Int) :: digL (n / 10)
  termination_by n
  decreasing_by omega
theorem digL_zero : digL 0 = [] := by unfold digL; rfl
theorem digL_pos {n : Nat} (h : n ≠ 0) : digL n = ((n % 10 : Nat) : Int) :: digL (n / 10) := by
  rw [digL, dif_neg h]
theorem digL_nil {n : Nat} (h : digL n = []) : n = 0 := by
  by_cases h0 : n = 0
  · exact h0
  · rw [digL_pos h0] at h; cases h
theorem rd_zero (x : Int) (l : List Int) : rd (x :: l) 0 = x := rfl
theorem rd_succ (x : Int) (l : List Int) (i : Nat) : rd (x :: l) ((i + 1 : Nat) : Int) = rd l (i : Int) := by
  unfold rd
  rw [Int.toNat_natCast, Int.toNat_natCast]
  rfl
theorem rd_drop (l r : List Int) (i : Nat) (x : Int) (h : l.drop i = x :: r) : i < l.length ∧ rd l (i : Int) = x ∧ l.drop (i + 1) = r := by
  have hi : i < l.length := by
    apply Nat.lt_of_not_le
    intro hle
    rw [List.drop_eq_nil_of_le hle] at h
    cases h
  rw [List.drop_eq_getElem_cons hi] at h
  obtain ⟨h1, h2⟩ := List.cons.inj h
  refine ⟨hi, ?_, h2⟩
  unfold rd
  rw [Int.toNat_natCast, List.getD_eq_getElem?_getD, List.getElem?_eq_getElem hi]
  exact h1
theorem wrap_sm (x : Nat) (h : x ≤ 4000000000) : wrap64 (x : Int) = (x : Int) := by unfold wrap64; omega
theorem tmod10 (x : Nat) : Int.tmod (x : Int) 10 = ((x % 10 : Nat) : Int) := by rw [Int.tmod_eq_emod_of_nonneg (by omega)]; omega
theorem tdiv10 (x : Nat) : Int.tdiv (x : Int) 10 = ((x / 10 : Nat) : Int) := by rw [Int.tdiv_eq_ediv_of_nonneg (by omega)]; omega
theorem times_go (B : Nat) (hB1 : 1 ≤ B) (hB : B ≤ 100000) (x0 : List Int) : ∀ (nd V m c i : Nat) (out : List Int), V = m * B + c → V < 10 ^ nd → c ≤ 2000000000 → x0.drop i = digL m → i + nd ≤ 1000000 → out.length ≤ i →
    Ev (fun k => basculeref22_times.l0 k x0 (B : Int) out (c : Int) (i : Int)) (out ++ digL V) := by
  intro nd
  induction nd with
  | zero =>
    intro V m c i out hV hlt hc hx hi ho
    have hV0 : V = 0 := by simp at hlt; exact hlt
    have hc0 : c = 0 := by omega
    have hm0 : m = 0 := by
      by_cases h : m = 0
      · exact h
      · have := Nat.mul_le_mul (show 1 ≤ m by omega) hB1
        omega
    subst hc0; subst hm0
    rw [digL_zero] at hx
    have hlen : x0.length ≤ i := by rw [List.drop_eq_nil_iff] at hx; exact hx
    rw [hV0, digL_zero, List.append_nil]
    refine Ev.step (fun k => rfl) ?_
    refine Ev.neg (by omega) ?_
    refine Ev.step (fun k => rfl) ?_
    exact Ev.ret _
  | succ nd ih =>
    intro V m c i out hV hlt hc hx hi ho
    have hpow : (10 : Nat) ^ (nd + 1) = 10 ^ nd * 10 := Nat.pow_succ ..
    have w : wrap64 ((i : Int) + 1) = ((i + 1 : Nat) : Int) := by unfold wrap64; omega
    by_cases hm : m = 0
    · subst hm
      rw [digL_zero] at hx
      have hlen : x0.length ≤ i := by rw [List.drop_eq_nil_iff] at hx; exact hx
      have hVc : V = c := by omega
      subst hVc
      refine Ev.step (fun k => rfl) ?_
      refine Ev.neg (by omega) ?_
      by_cases h0 : V = 0
      · subst h0
        rw [digL_zero, List.append_nil]
        refine Ev.step (fun k => rfl) ?_
        exact Ev.ret _
      · have hd : decide ((V : Int) > 0) = true := decide_eq_true (by omega)
        rw [hd]
        refine Ev.step (fun k => rfl) ?_
        refine Ev.neg (by omega) (Ev.pos (by omega) ?_)
        rw [tmod10, tdiv10, wrap_sm _ (by omega), w]
        have := ih (V / 10) 0 (V / 10) (i + 1) (out ++ [((V % 10 : Nat) : Int)]) (by omega) (by omega) (by omega) (by rw [digL_zero, List.drop_eq_nil_iff]; omega) (by omega) (by rw [List.length_append]; simp; omega)
        rw [digL_pos h0]
        rw [List.append_assoc] at this
        exact this
    · rw [digL_pos hm] at hx
      obtain ⟨hlen, hrd, hdr⟩ := rd_drop x0 _ i _ hx
      have hp9 : m % 10 ≤ 9 := by omega
      have hm10 : m = 10 * (m / 10) + m % 10 := by omega
      have hV0 : V ≠ 0 := by
        have := Nat.mul_le_mul (show 1 ≤ m by omega) hB1
        omega
      generalize m / 10 = q at *
      generalize m % 10 = p at *
      have hP : B * p ≤ 100000 * 9 := Nat.mul_le_mul hB hp9
      have hs : m * B = 10 * (q * B) + B * p := by rw [hm10, Nat.add_mul, Nat.mul_assoc, Nat.mul_comm p B]
      have hVs : V / 10 = q * B + (c + B * p) / 10 ∧ V % 10 = (c + B * p) % 10 := by
        generalize q * B = X at *
        generalize B * p = Y at *
        generalize m * B = Z at *
        omega
      have e0 : (B : Int) * (p : Int) = ((B * p : Nat) : Int) := (Int.natCast_mul B p).symm
      generalize hY : B * p = Y at *
      have hz : (c + Y) / 10 ≤ 4000000000 := by clear e0 w hs hV hm hm10; omega
      have hz2 : (c + Y) / 10 ≤ 2000000000 := by clear e0 w hs hV hm hm10; omega
      have hv10 : V / 10 < 10 ^ nd := by clear e0 w hs hV hm hm10 hz hz2; omega
      have hcy : c + Y ≤ 4000000000 := by clear e0 w hs hV hm hm10 hz hz2; omega
      have hY4 : Y ≤ 4000000000 := by clear e0 w hs hV hm hm10 hz hz2; omega
      have e1 : wrap64 ((c : Int) + wrap64 ((B : Int) * (p : Int))) = ((c + Y : Nat) : Int) := by
        rw [e0, wrap_sm Y hY4, ← Int.natCast_add, wrap_sm (c + Y) hcy]
      have ih := ih (V / 10) q ((c + Y) / 10) (i + 1) (out ++ [((V % 10 : Nat) : Int)]) hVs.1 hv10 hz2 hdr (by clear e0 e1 w hs hV hm hm10 hz hz2; omega) (by clear e0 e1 w hs hV hm hm10 hz hz2; rw [List.length_append]; simp; omega)
      have hl1 : (i : Int) < (x0.length : Int) := by clear e0 e1 w hs hV hm hm10 hz hz2; omega
      have hl2 : (0 : Int) ≤ (i : Int) := Int.natCast_nonneg i
      have hl3 : out.length < 17592186044416 := by clear e0 e1 w hs hV hm hm10 hz hz2; omega
      refine Ev.step (fun k => rfl) (Ev.pos hl1 ?_)
      refine Ev.step (fun k => rfl) ?_
      refine Ev.pos hl1 (Ev.pos hl2 (Ev.pos hl3 ?_))
      rw [hrd, w, e1, tmod10 (c + Y), tdiv10 (c + Y), wrap_sm _ hz]
      rw [digL_pos hV0]
      rw [List.append_assoc] at ih
      rw [← hVs.2]
      exact ih
theorem big_pow : (65536 : Nat) ^ 5 < 10 ^ 100 := by decide
theorem times_ev (B m c : Nat) (hB1 : 1 ≤ B) (hB : B ≤ 100000) (hc : c ≤ 2000000000) (h : m * B + c < 10 ^ 100) : Ev (fun k => basculeref22_times.f k (digL m) (B : Int) (c : Int)) (digL (m * B + c)) := by
  have := times_go B hB1 hB (digL m) 100 _ m c 0 [] rfl h hc (by rw [List.drop_zero]) (by decide) (Nat.le_refl _)
  rwa [List.nil_append] at this
def valD : List Int → Nat
  | [] => 0
  | x :: l => x.toNat + 10 * valD l
theorem valD_digL (n : Nat) : valD (digL n) = n := by
  induction n using Nat.strongRecOn with
  | ind n ih =>
    by_cases h : n = 0
    · subst h; rw [digL_zero]; rfl
    · rw [digL_pos h]
      show ((n % 10 : Nat) : Int).toNat + 10 * valD (digL (n / 10)) = n
      rw [ih (n / 10) (by omega), Int.toNat_natCast]
      omega
theorem digL_dig (n : Nat) : ∀ x ∈ digL n, 0 ≤ x ∧ x ≤ 9 := by
  induction n using Nat.strongRecOn with
  | ind n ih =>
    by_cases h : n = 0
    · subst h; rw [digL_zero]; intro x hx; cases hx
    · rw [digL_pos h]
      intro x hx
      rcases List.mem_cons.1 hx with rfl | hx
      · omega
      · exact ih (n / 10) (by omega) x hx
theorem lenT_cons (x : Int) (l : List Int) : ∀ n, lenT (x :: l) (n + 1) = if lenT l n = 0 then (if x = 0 then 0 else 1) else lenT l n + 1
  | 0 => by
    show (if rd (x :: l) 0 = 0 then lenT (x :: l) 0 else 0 + 1) = _
    rw [rd_zero]
    show _ = if (0 : Nat) = 0 then _ else _
    rw [if_pos rfl]
    rfl
  | n + 1 => by
    have ih := lenT_cons x l n
    rw [lenT, rd_succ, ih]
    show _ = if lenT l (n + 1) = 0 then _ else lenT l (n + 1) + 1
    rw [show lenT l (n + 1) = if rd l (n : Int) = 0 then lenT l n else n + 1 from rfl]
    by_cases h : rd l (n : Int) = 0
    · rw [if_pos h, if_pos h]
    · rw [if_neg h, if_neg h, if_neg (by omega)]
theorem trimT_nil : trimT [] = [] := rfl
theorem trimT_cons (x : Int) (l : List Int) : trimT (x :: l) = if trimT l = [] then (if x = 0 then [] else [x]) else x :: trimT l := by
  unfold trimT
  rw [List.length_cons, lenT_cons]
  have hle := lenT_le l l.length
  by_cases h : lenT l l.length = 0
  · rw [if_pos h, h, List.take_zero, if_pos rfl]
    split <;> rfl
  · rw [if_neg h, List.take_succ_cons]
    have : l.take (lenT l l.length) ≠ [] := by
      intro e
      have := congrArg List.length e
      rw [List.length_take, List.length_nil] at this
      omega
    rw [if_neg this]
theorem trim_val : ∀ l : List Int, (∀ x ∈ l, 0 ≤ x ∧ x ≤ 9) → trimT l = digL (valD l)
  | [], _ => by rw [trimT_nil]; exact digL_zero.symm
  | x :: l, h => by
    have ih := trim_val l (fun y hy => h y (List.mem_cons_of_mem _ hy))
    have hx := h x (List.mem_cons_self ..)
    rw [trimT_cons, ih]
    show _ = digL (x.toNat + 10 * valD l)
    by_cases h0 : valD l = 0
    · rw [h0, digL_zero, if_pos rfl]
      by_cases hx0 : x = 0
      · rw [if_pos hx0]; subst hx0; exact digL_zero.symm
      · rw [if_neg hx0, digL_pos (by omega), show (x.toNat + 10 * 0) / 10 = 0 by omega, digL_zero, show (((x.toNat + 10 * 0) % 10 : Nat) : Int) = x by omega]
    · rw [if_neg (fun e => h0 (digL_nil e)), digL_pos (n := x.toNat + 10 * valD l) (by omega), show (x.toNat + 10 * valD l) / 10 = valD l by omega, show (((x.toNat + 10 * valD l) % 10 : Nat) : Int) = x by omega]
theorem trim_digL (n : Nat) : trimT (digL n) = digL n := by rw [trim_val _ (digL_dig n), valD_digL]
theorem digL_len (m : Nat) : ∀ n, n < 10 ^ m → (digL n).length ≤ m := by
  induction m with
  | zero => intro n h; have : n = 0 := by simp at h; exact h
            subst this; rw [digL_zero]; exact Nat.le_refl _
  | succ m ih =>
    intro n h
    by_cases h0 : n = 0
    · subst h0; rw [digL_zero]; exact Nat.zero_le _
    · rw [digL_pos h0, List.length_cons]
      have := ih (n / 10) (by rw [Nat.pow_succ] at h; omega)
      omega
theorem trim_ev (l : List Int) (hl : l.length ≤ 1000000) : Ev (fun k => basculeref22_trim.f k l) (trimT l) :=
  ⟨l.length + 1, fun k hk => trim_eq l hl k (by omega)⟩
def valW : List Int → Nat
  | [] => 0
  | x :: l => x.toNat + 65536 * valW l
def turnL : List Int → Nat → List Int
  | [], _ => []
  | x :: l, b => (((65535 - x.toNat + b) % 65536 : Nat) : Int) :: turnL l ((65535 - x.toNat + b) / 65536)
theorem valW_snoc : ∀ (l : List Int) (t : Int), valW (l ++ [t]) = valW l + t.toNat * 65536 ^ l.length
  | [], t => by simp [valW]
  | x :: l, t => by
    rw [List.cons_append, valW, valW_snoc l t, valW, List.length_cons, Nat.pow_succ, Nat.mul_add, ← Nat.add_assoc]
    congr 1
    rw [Nat.mul_comm (65536 ^ l.length) 65536, ← Nat.mul_assoc, ← Nat.mul_assoc, Nat.mul_comm t.toNat 65536]
theorem take_rd (l : List Int) (i : Nat) (h : i < l.length) : l.take (i + 1) = l.take i ++ [rd l (i : Int)] := by
  rw [List.take_succ_eq_append_getElem h]
  unfold rd
  rw [Int.toNat_natCast, List.getD_eq_getElem?_getD, List.getElem?_eq_getElem h]
  rfl
theorem dig_l1 (below : Bool) (tw : List Int) (ht : ∀ x ∈ tw, 0 ≤ x ∧ x ≤ 65535) : ∀ (i j v : Nat), i ≤ tw.length → i + j ≤ 4 → v < 65536 ^ j →
    Ev (fun k => digP.l1 k below (digL v) tw ((i : Int) - 1)) (digL (v * 65536 ^ i + valW (tw.take i)), below) := by
  intro i
  induction i with
  | zero =>
    intro j v hi hj hv
    refine Ev.step (fun k => rfl) ?_
    refine Ev.neg (by omega) ?_
    rw [List.take_zero, Nat.pow_zero, Nat.mul_one]
    have h10 : (digL v).length ≤ 1000000 := Nat.le_trans (digL_len 100 v (Nat.lt_of_lt_of_le hv (Nat.le_trans (Nat.pow_le_pow_right (by decide) (show j ≤ 5 by omega)) (Nat.le_of_lt big_pow)))) (by decide)
    refine Ev.bind (trim_ev (digL v) h10) ?_
    rw [trim_digL]
    exact Ev.ret _
  | succ i ih =>
    intro j v hi hj hv
    refine Ev.step (fun k => rfl) ?_
    rw [show ((i + 1 : Nat) : Int) - 1 = (i : Int) by omega]
    refine Ev.pos (by omega) (Ev.pos (by omega) (Ev.pos (by omega) ?_))
    have hr : 0 ≤ rd tw (i : Int) ∧ rd tw (i : Int) ≤ 65535 := rd_ok ht i (by omega)
    obtain ⟨t, hteq⟩ := Int.eq_ofNat_of_zero_le hr.1
    have hT : t ≤ 65535 := by omega
    have hv2 : v * 65536 + t < 65536 ^ (j + 1) := by rw [Nat.pow_succ]; omega
    have hlt : v * 65536 + t < 10 ^ 100 := Nat.lt_of_lt_of_le hv2 (Nat.le_trans (Nat.pow_le_pow_right (by decide) (show j + 1 ≤ 5 by omega)) (Nat.le_of_lt big_pow))
    have w : wrap64 ((i : Int) - 1) = (i : Int) - 1 := by unfold wrap64; omega
    rw [hteq]
    refine Ev.bind (times_ev 65536 v t (by decide) (by decide) (by omega) hlt) ?_
    rw [w]
    have := ih (j + 1) (v * 65536 + t) (by omega) (by omega) hv2
    have e : (v * 65536 + t) * 65536 ^ i + valW (tw.take i) = v * 65536 ^ (i + 1) + valW (tw.take (i + 1)) := by
      rw [take_rd tw i (by omega), valW_snoc, List.length_take, Nat.min_eq_left (by omega), hteq, Int.toNat_natCast, Nat.add_mul, Nat.pow_succ, Nat.mul_assoc, Nat.mul_comm 65536 (65536 ^ i)]
      omega
    rw [e] at this
    exact this
theorem dig_l0 (below : Bool) (x6 : List Int) (hx : ∀ x ∈ x6, 0 ≤ x ∧ x ≤ 65535) (hl : x6.length ≤ 1000) (r : List Int × Bool) : ∀ (i b : Nat) (acc : List Int), i ≤ x6.length → b ≤ 1 → acc.length ≤ 1000 →
    Ev (fun k => digP.l1 k below ([] : List Int) (acc ++ (if below then turnL (x6.take i).reverse b else (x6.take i).reverse)) (wrap64 (((acc ++ (if below then turnL (x6.take i).reverse b else (x6.take i).reverse)).length : Int) - 1))) r →
    acc.length + i ≤ 1000 → Ev (fun k => digP.l0 k x6 below (b : Int) acc ((i : Int) - 1)) r := by
  intro i
  induction i with
  | zero =>
    intro b acc hi hb ha h _
    refine Ev.step (fun k => rfl) ?_
    refine Ev.neg (by omega) ?_
    rw [List.take_zero, List.reverse_nil] at h
    have e : (if below = true then turnL [] b else ([] : List Int)) = [] := by split <;> rfl
    rw [e, List.append_nil] at h
    exact h
  | succ i ih =>
    intro b acc hi hb ha h hai
    refine Ev.step (fun k => rfl) ?_
    rw [show ((i + 1 : Nat) : Int) - 1 = (i : Int) by omega]
    refine Ev.pos (by omega) (Ev.pos (by omega) (Ev.pos (by omega) ?_))
    have hr : 0 ≤ rd x6 (i : Int) ∧ rd x6 (i : Int) ≤ 65535 := rd_ok hx i (by omega)
    have w : wrap64 ((i : Int) - 1) = (i : Int) - 1 := by unfold wrap64; omega
    have htk : (x6.take (i + 1)).reverse = rd x6 (i : Int) :: (x6.take i).reverse := by rw [take_rd x6 i (by omega), List.reverse_append]; rfl
    rw [htk] at h
    rw [w]
    obtain ⟨t, hteq⟩ := Int.eq_ofNat_of_zero_le hr.1
    rw [hteq] at h ⊢
    cases below
    · simp only [Bool.false_eq_true, if_false] at h ih ⊢
      refine Ev.pos (by omega) ?_
      refine ih b (acc ++ [(t : Int)]) (by omega) hb (by rw [List.length_append]; simp; omega) ?_ (by rw [List.length_append]; simp; omega)
      rw [List.append_assoc]
      exact h
    · simp only [if_true] at h ih ⊢
      refine Ev.pos (by omega) ?_
      have e1 : wrap64 ((wrap64 (65535 - (t : Int))) + (b : Int)) = ((65535 - t + b : Nat) : Int) := by unfold wrap64; omega
      have e2 : wrap64 (Int.tdiv ((65535 - t + b : Nat) : Int) 65536) = (((65535 - t + b) / 65536 : Nat) : Int) := by rw [Int.tdiv_eq_ediv_of_nonneg (by omega)]; unfold wrap64; omega
      have e3 : Int.tmod ((65535 - t + b : Nat) : Int) 65536 = (((65535 - t + b) % 65536 : Nat) : Int) := by rw [Int.tmod_eq_emod_of_nonneg (by omega)]; omega
      rw [e1, e2, e3]
      refine ih ((65535 - t + b) / 65536) (acc ++ [(((65535 - t + b) % 65536 : Nat) : Int)]) (by omega) (by omega) (by rw [List.length_append]; simp; omega) ?_ (by rw [List.length_append]; simp; omega)
      rw [List.append_assoc]
      rw [turnL, Int.toNat_natCast] at h
      exact h
theorem turnL_ok : ∀ (l : List Int) (b : Nat), ∀ x ∈ turnL l b, 0 ≤ x ∧ x ≤ 65535
  | [], b, x, h => by cases h
  | y :: l, b, x, h => by
    rw [turnL] at h
    rcases List.mem_cons.1 h with rfl | h
    · omega
    · exact turnL_ok l _ x h
theorem turnL_len : ∀ (l : List Int) (b : Nat), (turnL l b).length = l.length
  | [], b => rfl
  | y :: l, b => by rw [turnL, List.length_cons, List.length_cons, turnL_len]
theorem dig_j0 (below : Bool) (x6 : List Int) (hx : ∀ x ∈ x6, 0 ≤ x ∧ x ≤ 65535) (hl : x6.length ≤ 4) :
    Ev (fun k => digP.j0 k x6 below) (digL (valW (if below then turnL x6.reverse 1 else x6.reverse)), below) := by
  refine Ev.step (f := fun k => digP.l0 k x6 below ((1 : Nat) : Int) [] (wrap64 ((x6.length : Int) - 1))) (fun k => rfl) ?_
  rw [show wrap64 ((x6.length : Int) - 1) = (x6.length : Int) - 1 by unfold wrap64; omega]
  refine dig_l0 below x6 hx (by omega) _ x6.length 1 [] (Nat.le_refl _) (Nat.le_refl _) (by simp) ?_ (by simp; omega)
  rw [List.nil_append, List.take_length]
  obtain ⟨tw, htw⟩ : ∃ tw, tw = (if below = true then turnL x6.reverse 1 else x6.reverse) := ⟨_, rfl⟩
  rw [← htw]
  have hlen : tw.length = x6.length := by rw [htw]; split <;> simp [turnL_len]
  have hok : ∀ x ∈ tw, 0 ≤ x ∧ x ≤ 65535 := by
    rw [htw]
    split
    · exact turnL_ok _ _
    · intro x h; exact hx x (List.mem_reverse.1 h)
  have := dig_l1 below tw hok tw.length 0 0 (Nat.le_refl _) (by omega) (by decide)
  rw [Nat.zero_mul, Nat.zero_add, List.take_length, digL_zero] at this
  rw [show wrap64 ((tw.length : Int) - 1) = (tw.length : Int) - 1 by unfold wrap64; omega]
  exact this
theorem signed_f (kd : Int) : basculeref22_Signed.f kd = some (sgn kd) := by
  unfold basculeref22_Signed.f sgn
  by_cases h3 : kd = 3
  · subst h3; rfl
  by_cases h5 : kd = 5
  · subst h5; rfl
  by_cases h7 : kd = 7
  · subst h7; rfl
  rw [if_neg h3, if_neg h5, if_neg h7, beq_eq_false_iff_ne.2 h3, beq_eq_false_iff_ne.2 h5, beq_eq_false_iff_ne.2 h7]; rfl
theorem ord_same (kd : Int) (l : List Int) (h : trn kd = true → l.length = 2) : ordL kd l = ordW kd l := by
  unfold ordL ordW
  cases ht : trn kd
  · have : ¬ (kd = 6 ∨ kd = 7) := by
      intro e
      unfold trn at ht
      rcases e with rfl | rfl <;> cases ht
    rw [if_neg this]; rfl
  · have : kd = 6 ∨ kd = 7 := by
      unfold trn at ht
      rcases Bool.or_eq_true_iff.1 ht with e | e
      · exact .inl (beq_iff_eq.1 e)
      · exact .inr (beq_iff_eq.1 e)
    rw [if_pos this]
    obtain ⟨x, y, rfl⟩ := list2 (h ht)
    rfl
theorem num_same (W : List Int) (hW : ∀ x ∈ W, 0 ≤ x ∧ x ≤ 65535) (hl : W.length = 1 ∨ W.length = 2 ∨ W.length = 4) :
    valW W.reverse = numX W ∧ (rd W 0 ≥ 32768 ↔ 2 ^ (16 * W.length - 1) ≤ numX W) ∧ (rd W 0 ≥ 32768 → valW (turnL W.reverse 1) = 2 ^ (16 * W.length) - numX W) := by
  rcases hl with h | h | h
  · obtain ⟨x, rfl⟩ := list1 h
    have hx := hW x (by simp)
    obtain ⟨a, rfl⟩ := Int.eq_ofNat_of_zero_le hx.1
    have e1 : (2 : Nat) ^ (16 * ([(a : Int)] : List Int).length - 1) = 32768 := by show (2 : Nat) ^ (16 * 1 - 1) = 32768; decide
    have e2 : (2 : Nat) ^ (16 * ([(a : Int)] : List Int).length) = 65536 := by show (2 : Nat) ^ (16 * 1) = 65536; decide
    rw [e1, e2]
    simp only [List.reverse_cons, List.reverse_nil, List.nil_append, valW, turnL, numX, List.foldl, rd_zero, Int.toNat_natCast]
    refine ⟨by omega, by omega, by omega⟩
  · obtain ⟨x, y, rfl⟩ := list2 h
    have hx := hW x (by simp)
    have hy := hW y (by simp)
    obtain ⟨a, rfl⟩ := Int.eq_ofNat_of_zero_le hx.1
    obtain ⟨b, rfl⟩ := Int.eq_ofNat_of_zero_le hy.1
    have e1 : (2 : Nat) ^ (16 * ([(a : Int), (b : Int)] : List Int).length - 1) = 2147483648 := by show (2 : Nat) ^ (16 * 2 - 1) = 2147483648; decide
    have e2 : (2 : Nat) ^ (16 * ([(a : Int), (b : Int)] : List Int).length) = 4294967296 := by show (2 : Nat) ^ (16 * 2) = 4294967296; decide
    rw [e1, e2]
    simp only [List.reverse_cons, List.reverse_nil, List.nil_append, List.cons_append, valW, turnL, numX, List.foldl, rd_zero, Int.toNat_natCast]
    refine ⟨by omega, by omega, by omega⟩
  · obtain ⟨x, y, z, v, rfl⟩ := list4 h
    have hx := hW x (by simp)
    have hy := hW y (by simp)
    have hz := hW z (by simp)
    have hv := hW v (by simp)
    obtain ⟨a, rfl⟩ := Int.eq_ofNat_of_zero_le hx.1
    obtain ⟨b, rfl⟩ := Int.eq_ofNat_of_zero_le hy.1
    obtain ⟨c, rfl⟩ := Int.eq_ofNat_of_zero_le hz.1
    obtain ⟨d, rfl⟩ := Int.eq_ofNat_of_zero_le hv.1
    have e1 : (2 : Nat) ^ (16 * ([(a : Int), (b : Int), (c : Int), (d : Int)] : List Int).length - 1) = 9223372036854775808 := by show (2 : Nat) ^ (16 * 4 - 1) = 9223372036854775808; decide
    have e2 : (2 : Nat) ^ (16 * ([(a : Int), (b : Int), (c : Int), (d : Int)] : List Int).length) = 18446744073709551616 := by show (2 : Nat) ^ (16 * 4) = 18446744073709551616; decide
    rw [e1, e2]
    simp only [List.reverse_cons, List.reverse_nil, List.nil_append, List.cons_append, valW, turnL, numX, List.foldl, rd_zero, Int.toNat_natCast]
    refine ⟨by omega, by omega, by omega⟩
theorem dig_ev (n : ByteArray) (u f a kd s d : Int) (wr : Bool) (l : List Int) (hw : ∀ x ∈ l, 0 ≤ x ∧ x ≤ 65535) (hl : l.length = 1 ∨ l.length = 2 ∨ l.length = 4) (ht : trn kd = true → l.length = 2) :
    Ev (fun k => digP.f k n u f a kd s d wr (ordL kd l)) (digL (numOf kd l).2, (numOf kd l).1) := by
  rw [ord_same kd l ht]
  have hlen := ordW_len kd l
  have hmem : ∀ x ∈ ordW kd l, 0 ≤ x ∧ x ≤ 65535 := fun x h => hw x ((ordW_mem kd l x).1 h)
  obtain ⟨h1, h2, h3⟩ := num_same (ordW kd l) hmem (by rw [hlen]; exact hl)
  unfold numOf
  rw [hlen] at h2 h3
  generalize ordW kd l = W at *
  refine Ev.fst (signed_f kd) ?_
  cases hs : sgn kd
  · rw [Bool.false_and]
    refine Ev.neg (by simp) ?_
    have := dig_j0 false W hmem (by omega)
    simp only [Bool.false_eq_true, if_false] at this ⊢
    rw [h1] at this
    exact this
  · refine Ev.pos rfl (Ev.pos (by omega) ?_)
    rw [Bool.true_and]
    by_cases hb : rd W 0 ≥ 32768
    · rw [decide_eq_true hb, decide_eq_true (h2.1 hb), if_pos rfl]
      have := dig_j0 true W hmem (by omega)
      rw [if_pos rfl, h3 hb] at this
      exact this
    · rw [decide_eq_false hb, decide_eq_false (fun e => hb (h2.2 e))]
      have := dig_j0 false W hmem (by omega)
      simp only [Bool.false_eq_true, if_false] at this ⊢
      rw [h1] at this
      exact this
end Go.Proofs.YtenbkjeflancaaaGreatDoor.Q
set_option linter.unusedVariables false
set_option linter.unusedSimpArgs false
namespace Go.Proofs.YtenbkjeflancaaaGreatDoor.Val
open Go.RowKit Go.Proofs.YtenbkjeflancaaaGreatDoor.Q Go.Proofs.YtenbkjeflancaaaGreatDoorW.PrintWords
def digitsO (n : ByteArray) (u f a kd s d : Int) (wr : Bool) (l : List Int) : Option (List Int × Bool) :=
  if l.any (bad 65535) = false ∧ (l.length = 1 ∨ l.length = 2 ∨ l.length = 4) ∧ (trn kd = true → l.length = 2) then some (digL (numOf kd l).2, (numOf kd l).1) else none
theorem not_bad {l : List Int} {m : Int} (h : l.any (bad m) = false) : ∀ x ∈ l, 0 ≤ x ∧ x ≤ m := by
  intro x hx
  have := List.any_eq_false.1 h x hx
  unfold bad at this
  simp at this
  omega
theorem digits_calls (n : ByteArray) (u f a kd s d : Int) (wr : Bool) (A1 : Option Addr) (c1 : Nat) (l r1 : List Int) (r2 : Bool) (w : World) (hr1 : Kd.C (Kd.int .i64) w A1 l.length l) (hc1 : l.length ≤ c1) (h : digitsO n u f a kd s d wr l = some (r1, r2)) :
    Calls Tryz.prog 37 #[.agg #[.string n, .int .i64 u, .int .i64 f, .int .i64 a, .int .i64 kd, .int .i64 s, .int .i64 d, .bool wr], .slice A1 l.length c1] w fun e w' => ∃ v0_ : Value, e = .returned (.tuple #[v0_, .bool r2]) ∧ Kd.R (Kd.int .i64) 3 w' w.heap.size (fun _ => True) v0_ r1 ∧ Below w.heap.size w w' := by
  unfold digitsO at h
  split at h
  · rename_i hc
    obtain ⟨hb, hl, ht⟩ := hc
    obtain ⟨rfl, rfl⟩ := Prod.mk.inj (Option.some.inj h)
    obtain ⟨k, hk⟩ := (dig_ev n u f a kd s d wr l (not_bad hb) hl ht).rounds
    refine digP.calls k n u f a kd s d wr A1 c1 l _ _ w hr1 hc1 (fun hk => ?_) hk
    have : trn kd = true := by unfold trn; rcases hk with rfl | rfl <;> rfl
    rw [ht this]
    exact Nat.le_refl _
  · cases h
end Go.Proofs.YtenbkjeflancaaaGreatDoor.Val
namespace Go.Proofs.YtenbkjeflancaaaGreatDoor.Q
open Go.RowKit Go.Proofs.YtenbkjeflancaaaGreatDoorW.PrintWords Go.Proofs.YtenbkjeflancaaaGreatDoorW.PrintLast Go.Proofs.YtenbkjeflancaaaGreatDoorW.PrintMore
attribute [local go_sem] max2_int min2_int max_two min_two
set_option linter.unusedVariables false
set_option linter.unusedSimpArgs false
def basculeref22_Digits.f (a0_0 : ByteArray) (a0_1 : Int) (a0_2 : Int) (a0_3 : Int) (a0_4 : Int) (a0_5 : Int) (a0_6 : Int) (a0_7 : Bool) (l1 : List Int) : Option (List Int × Bool) := Val.digitsO a0_0 a0_1 a0_2 a0_3 a0_4 a0_5 a0_6 a0_7 l1
theorem basculeref22_Digits.calls (a0_0 : ByteArray) (a0_1 : Int) (a0_2 : Int) (a0_3 : Int) (a0_4 : Int) (a0_5 : Int) (a0_6 : Int) (a0_7 : Bool) (A1 : Option Addr) (c1 : Nat) (l1 : List Int) (r1 : List Int) (r2 : Bool) (w : World) (hr1 : Kd.C (Kd.int .i64) w A1 l1.length l1) (hc1 : l1.length ≤ c1) (h : basculeref22_Digits.f a0_0 a0_1 a0_2 a0_3 a0_4 a0_5 a0_6 a0_7 l1 = some (r1, r2)) :
    Calls Tryz.prog 37 #[.agg #[.string a0_0, .int .i64 a0_1, .int .i64 a0_2, .int .i64 a0_3, .int .i64 a0_4, .int .i64 a0_5, .int .i64 a0_6, .bool a0_7], .slice A1 l1.length c1] w fun e w' => ∃ v0_ : Value, e = .returned (.tuple #[v0_, .bool r2]) ∧ Kd.R (Kd.int .i64) 3 w' w.heap.size (fun _ => True) v0_ r1 ∧ Below w.heap.size w w' := by
  exact Val.digits_calls a0_0 a0_1 a0_2 a0_3 a0_4 a0_5 a0_6 a0_7 A1 c1 l1 r1 r2 w hr1 hc1 h
end Go.Proofs.YtenbkjeflancaaaGreatDoor.Q
