/- What the proof of TablePrints leans on: TcPrints. -/
import Derived.Test.YtbfhiiokajbdhaaGreatDoorSTablePrintsPPr
import Derived.Test.YtbfhiiokajbdhaaGreatDoorSTablePrintsPRef21
import Derived.Test.YtbfhiiokajbdhaaGreatDoorSTablePrintsTcChecks
import Derived.Test.YtbfhiiokajbdhaaGreatDoorSTablePrintsQx18
set_option linter.unusedVariables false
set_option linter.unusedSimpArgs false
set_option maxRecDepth 100000
namespace Go.Proofs.YtbfhiiokajbdhaaGreatDoor.Q
open Go.RowKit Go.Proofs.YtbfhiiokajbdhaaGreatDoorW.PrintWords Go.Proofs.YtbfhiiokajbdhaaGreatDoor.Val Go.Proofs.YtbfhiiokajbdhaaGreatDoor.Fl
theorem app_data (a b : ByteArray) : (a ++ b).data.toList = a.data.toList ++ b.data.toList := by rw [ByteArray.data_append]; simp
theorem ba_ext {a b : ByteArray} (h : a.data.toList = b.data.toList) : a = b := by rw [← mk_data a, ← mk_data b, h]
theorem dig_str (d : Nat) (h : d < 10) : strOfNums ([(wrap64 (48 + (d : Int))) % 256] : List Int) = mk [UInt8.ofNat (48 + d)] := by
  have H : ∀ d : Fin 10, (strOfNums ([(wrap64 (48 + (d.1 : Int))) % 256] : List Int)).data.toList = [UInt8.ofNat (48 + d.1)] := by decide +kernel
  apply ba_ext
  rw [data_mk]
  exact H ⟨d, h⟩
theorem dec_eq (u : Nat) (t : List UInt8) : (if u / 10 = 0 then [] else Lib.decDigits (u / 10)) ++ ([UInt8.ofNat (48 + u % 10)] ++ t) = Lib.decDigits u ++ t := by
  by_cases h : u < 10
  · rw [if_pos (by omega), dec_small u h, show u % 10 = u by omega]
    rfl
  · rw [if_neg (by omega), dec_big u h, List.append_assoc]
theorem dec_go (u : Nat) : ∀ t : List UInt8, t.length + u ≤ 20000000000 → Ev (fun k => basculeref21_Dec.l0 k (u : Int) (mk t)) (mk ((if u = 0 then [] else Lib.decDigits u) ++ t)) := by
  induction u using Nat.strongRecOn with
  | _ u ih =>
    intro t ht
    have hw : wrap64 (Int.tdiv (u : Int) 10) = ((u / 10 : Nat) : Int) := by rw [Int.tdiv_eq_ediv_of_nonneg (by omega), w64 (by omega) (by omega)]; omega
    have hm : Int.tmod (u : Int) 10 = ((u % 10 : Nat) : Int) := by rw [Int.tmod_eq_emod_of_nonneg (by omega)]; omega
    refine Ev.step (fun k => rfl) ?_
    by_cases h : u = 0
    · subst h
      rw [if_pos rfl]
      exact Ev.neg (by omega) (Ev.ret _)
    · rw [if_neg h]
      refine Ev.pos (by omega) ?_
      refine Ev.some ?_
      rw [hm, hw, dig_str (u % 10) (by omega)]
      refine Ev.pos (by rw [Lib.size_eq, Lib.size_eq, data_mk, data_mk]; simp; omega) ?_
      have e : mk [UInt8.ofNat (48 + u % 10)] ++ mk t = mk ([UInt8.ofNat (48 + u % 10)] ++ t) := by
        apply ba_ext
        rw [app_data, data_mk, data_mk, data_mk]
      rw [e, ← dec_eq u t]
      exact ih (u / 10) (by omega) _ (by rw [List.length_append, List.length_singleton]; omega)
theorem dec_ev (n : Int) (h0 : 0 ≤ n) (h1 : n < 10000000000) : Ev (fun k => basculeref21_Dec.f k n) (itoaS n) := by
  have e : itoaS n = mk (Lib.decDigits n.toNat) := by
    apply ba_ext
    rw [data_mk, itoa_dec n h0]
  obtain ⟨u, rfl⟩ : ∃ u : Nat, n = u := ⟨n.toNat, by omega⟩
  rw [Int.toNat_natCast] at e
  have hw : wrap64 (Int.tdiv (u : Int) 10) = ((u / 10 : Nat) : Int) := by rw [Int.tdiv_eq_ediv_of_nonneg (by omega), w64 (by omega) (by omega)]; omega
  have hm : Int.tmod (u : Int) 10 = ((u % 10 : Nat) : Int) := by rw [Int.tmod_eq_emod_of_nonneg (by omega)]; omega
  have hg := dec_go (u / 10) [UInt8.ofNat (48 + u % 10)] (by rw [List.length_singleton]; omega)
  have hq := dec_eq u []
  rw [List.append_nil, List.append_nil] at hq
  rw [hq] at hg
  rw [e]
  unfold basculeref21_Dec.f
  rw [hw, hm, dig_str (u % 10) (by omega)]
  exact hg
theorem line_len2 (r : S34) (h : fitB r) (hn : r.f0.size ≤ 200) : (lineL r).length ≤ 400 := by
  have il := fun (x : Int) (hx : x ∈ [r.f1, r.f2, r.f3, r.f4, r.f5, r.f6]) => Lib.itoa_length_le x (h x hx).1 (h x hx).2
  have i1 := il r.f1 (by simp)
  have i2 := il r.f2 (by simp)
  have i3 := il r.f3 (by simp)
  have i4 := il r.f4 (by simp)
  have i5 := il r.f5 (by simp)
  have i6 := il r.f6 (by simp)
  have e0 := Lib.size_eq r.f0
  have e7 : ((if r.f7 then ⟨#[119]⟩ else ⟨#[114]⟩ : ByteArray)).data.toList.length ≤ 1 := by cases r.f7 <;> exact Nat.le_refl _
  unfold lineL strsOf
  rw [List.length_append, List.map_cons, Lib.join_length]
  simp only [Lib.lens, List.map_cons, List.map_nil, List.sum_cons, List.sum_nil, List.length_cons, List.length_nil, itoaS]
  omega
theorem lines_size : ∀ (l : List S34), (∀ r ∈ l, (lineL r).length ≤ 400) → (linesL l).length ≤ l.length * 400
  | [], _ => Nat.le_refl _
  | r :: l, h => by
    show (lineL r ++ linesL l).length ≤ (l.length + 1) * 400
    have := h r (by simp)
    have := lines_size l (fun x hx => h x (by simp [hx]))
    rw [List.length_append]
    omega
theorem print_from (l : List S34) (hl : l.length ≤ 100) (hR : ∀ r ∈ l, Rowy r) (hL : ∀ r ∈ l, (lineL r).length ≤ 400) : ∀ (m i : Nat), i + m = l.length → Ev (fun k => basculeref21_Print.l0 k l (mk (linesL (l.take i))) (i : Int)) (mk (linesL l)) := by
  intro m
  induction m with
  | zero =>
    intro i hi
    rw [List.take_of_length_le (by omega)]
    refine Ev.step (fun k => rfl) ?_
    exact Ev.neg (by omega) (Ev.ret _)
  | succ m ih =>
    intro i hi
    have hlt : i < l.length := by omega
    have w1 : wrap64 ((i : Int) + 1) = ((i + 1 : Nat) : Int) := by rw [w64 (by omega) (by omega)]; rfl
    have hm : rd_T34 l (i : Int) ∈ l := by
      unfold rd_T34
      rw [Int.toNat_natCast, List.getD_eq_getElem?_getD, List.getElem?_eq_getElem hlt]
      exact List.getElem_mem hlt
    have htake : linesL (l.take (i + 1)) = linesL (l.take i) ++ lineL (rd_T34 l (i : Int)) := by
      unfold linesL rd_T34
      rw [List.take_succ_eq_append_getElem hlt, List.flatMap_append, Int.toNat_natCast, List.getD_eq_getElem?_getD, List.getElem?_eq_getElem hlt]
      simp
    have hr := hR _ hm
    have hll := hL _ hm
    have hI := ih (i + 1) (by omega)
    have hs := lines_size (l.take i) (fun r hr => hL r (List.mem_of_mem_take hr))
    rw [List.length_take] at hs
    rw [htake] at hI
    generalize hP : linesL (l.take i) = P at *
    have hlb := line_body (rd_T34 l (i : Int))
    unfold bodyL Lib.joinTail at hlb
    simp only [List.map_cons, List.map_nil, List.flatten_cons, List.flatten_nil, List.append_nil] at hlb
    have hlc := congrArg List.length hlb
    simp only [List.length_append, List.length_singleton] at hlc
    have sz : ∀ a b : ByteArray, (a ++ b).size = a.size + b.size := fun a b => ByteArray.size_append
    have s32 : (⟨#[32]⟩ : ByteArray).size = 1 := rfl
    have sP : (mk P).size = P.length := by rw [Lib.size_eq, data_mk]
    have s0 := Lib.size_eq (rd_T34 l (i : Int)).f0
    have s1 := Lib.size_eq (itoaS (rd_T34 l (i : Int)).f1)
    have s2 := Lib.size_eq (itoaS (rd_T34 l (i : Int)).f2)
    have s3 := Lib.size_eq (itoaS (rd_T34 l (i : Int)).f3)
    have s4 := Lib.size_eq (itoaS (rd_T34 l (i : Int)).f4)
    have s5 := Lib.size_eq (itoaS (rd_T34 l (i : Int)).f5)
    have s6 := Lib.size_eq (itoaS (rd_T34 l (i : Int)).f6)
    refine Ev.step (fun k => rfl) ?_
    refine Ev.pos (by omega) ?_
    refine Ev.pos (by omega) ?_
    refine Ev.pos (by (try simp only [sz]); omega) ?_
    refine Ev.pos (by (try simp only [sz]); omega) ?_
    refine Ev.bind (dec_ev _ hr.p1.1 hr.p1.2) ?_
    refine Ev.pos (by (try simp only [sz]); omega) ?_
    refine Ev.pos (by (try simp only [sz]); omega) ?_
    refine Ev.bind (dec_ev _ hr.p2.1 hr.p2.2) ?_
    refine Ev.pos (by (try simp only [sz]); omega) ?_
    refine Ev.pos (by (try simp only [sz]); omega) ?_
    refine Ev.bind (dec_ev _ hr.p3.1 hr.p3.2) ?_
    refine Ev.pos (by (try simp only [sz]); omega) ?_
    refine Ev.pos (by (try simp only [sz]); omega) ?_
    refine Ev.bind (dec_ev _ hr.p4.1 hr.p4.2) ?_
    refine Ev.pos (by (try simp only [sz]); omega) ?_
    refine Ev.pos (by (try simp only [sz]); omega) ?_
    refine Ev.bind (dec_ev _ hr.p5.1 hr.p5.2) ?_
    refine Ev.pos (by (try simp only [sz]); omega) ?_
    refine Ev.pos (by (try simp only [sz]); omega) ?_
    refine Ev.bind (dec_ev _ hr.p6.1 hr.p6.2) ?_
    refine Ev.pos (by (try simp only [sz]); omega) ?_
    rw [w1]
    by_cases h7 : (rd_T34 l (i : Int)).f7 = true
    · refine Ev.pos h7 ?_
      refine Ev.pos (by (try simp only [sz]); omega) ?_
      rw [if_pos h7] at hlb
      refine Ev.congr (fun k => ?_) hI
      congr 1
      apply ba_ext
      simp only [app_data, data_mk, hlb, List.append_assoc]
      rfl
    · refine Ev.neg h7 ?_
      refine Ev.pos (by (try simp only [sz]); omega) ?_
      rw [if_neg h7] at hlb
      refine Ev.congr (fun k => ?_) hI
      congr 1
      apply ba_ext
      simp only [app_data, data_mk, hlb, List.append_assoc]
      rfl
theorem print21_ev (l : List S34) (hl : l.length ≤ 100) (h : (chk l).2 = 0) : Ev (fun k => basculeref21_Print.f k l) (mk (linesL l)) :=
  print_from l hl (fun r hr => rowy r (chk_rows l h r hr)) (fun r hr => line_len2 r (row_fits r (chk_rows l h r hr)).1 (row_fits r (chk_rows l h r hr)).2) l.length 0 (by omega)
theorem rows_ev (l : List S34) (hl : l.length ≤ 1000000) : Ev (fun k => basculeref21_Rows.f k l l) true := by
  refine ⟨l.length + 1, fun k hk => ?_⟩
  have := rows_self l hl (k - (l.length + 1))
  rwa [show k - (l.length + 1) + l.length + 1 = k by omega] at this
theorem tablePrints_ev (l : List S34) : Ev (fun k => basculelaw21_TablePrints.f k l) true := by
  obtain ⟨b, hb, hl⟩ := few21_ev l
  refine Ev.bind hb ?_
  cases b with
  | false => exact Ev.neg (by simp) (Ev.ret _)
  | true =>
    have hl := hl rfl
    have hP : table_Print.f l = some (printR l, printE l) := if_pos (by omega)
    refine Ev.pos rfl ?_
    refine Ev.pos (by show 0 + l.length < _; omega) ?_
    refine Ev.some ?_
    refine Ev.fst hP ?_
    refine Ev.bind (check21_ev l (by omega)) ?_
    refine Ev.bind (rows_ev l (by omega)) ?_
    refine Ev.pos rfl ?_
    by_cases h : (chk l).2 = 0
    · refine Ev.pos h ?_
      have e1 : printR l = mk (linesL l) := if_pos h
      have e2 : printE l = 0 := if_pos h
      have hsz : (mk (linesL l)).size ≤ 1000000 := by
        rw [Lib.size_eq, data_mk]
        have := lines_size l (fun r hr => line_len2 r (row_fits r (chk_rows l h r hr)).1 (row_fits r (chk_rows l h r hr)).2)
        omega
      have hp := pf _ hsz
      rw [data_mk, back_ok l h] at hp
      rw [e1, e2]
      refine Ev.fst hp ?_
      refine Ev.fst awake_true ?_
      refine Ev.bind (print21_ev l hl h) ?_
      refine Ev.pos rfl ?_
      refine Ev.bind (rows_ev l (by omega)) ?_
      exact Ev.ret _
    · refine Ev.neg h ?_
      have e1 : printR l = ⟨#[]⟩ := if_neg h
      have e2 : printE l = 1 := if_neg h
      rw [e1, e2]
      refine Ev.fst awake_true ?_
      refine Ev.ret' ?_
      rw [Lib.toList_data]
      rfl
end Go.Proofs.YtbfhiiokajbdhaaGreatDoor.Q
namespace Go.Proofs.YtbfhiiokajbdhaaGreatDoor.Card
open Go.RowKit Go.Proofs.YtbfhiiokajbdhaaGreatDoorW.PrintWords Go.Proofs.YtbfhiiokajbdhaaGreatDoor.Q
theorem tablePrints_calls (A : Option Addr) (c : Nat) (l : List S34) (w : World) (hL : Val.Laid w) (hr : Kd.C k34 w A l.length l) (hc : l.length ≤ c) (hm : l.length ≤ 9223372036854775807) (hx : ∀ x ∈ l, rowWf x) :
    Calls Tryz.prog 5 #[.slice A l.length c] w fun e w' => e = .returned (.bool true) ∧ Below w.heap.size w w' := by
  obtain ⟨k, hk⟩ := (tablePrints_ev l).rounds
  exact basculelaw21_TablePrints.calls k A c l true w hr hc hL hk
end Go.Proofs.YtbfhiiokajbdhaaGreatDoor.Card
