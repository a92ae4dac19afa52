/- What the proof of TableFind leans on: TcFind. -/
import Derived.Test.YtbfhiiokajbdhaaGreatDoorSTableFindTF
import Derived.Test.YtbfhiiokajbdhaaGreatDoorSTableFindTcFindP
import Derived.Test.YtbfhiiokajbdhaaGreatDoorSTableFindTcPrints
set_option linter.unusedVariables false
set_option linter.unusedSimpArgs false
set_option maxRecDepth 100000
namespace Go.Proofs.YtbfhiiokajbdhaaGreatDoor.Q
open Go.RowKit Go.Proofs.YtbfhiiokajbdhaaGreatDoorW.PrintWords Go.Proofs.YtbfhiiokajbdhaaGreatDoor.Val Go.Proofs.YtbfhiiokajbdhaaGreatDoor.Fl
theorem tf_loop (l : List S34) (hl : l.length ≤ 100) (h : (chk l).2 = 0) (a1 : ByteArray) : ∀ (m i : Nat), i + m = l.length →
    Ev (fun k => basculelaw21_TableFind.l0 k l a1 (mk (linesL l)) ((l.take i).any (fun r => r.f0.toList == a1.toList)) (mk (linesL (l.take i))) (i : Int)) true := by
  have hLL : ∀ r ∈ l, (lineL r).length ≤ 400 := fun r hr => line_len2 r (row_fits r (chk_rows l h r hr)).1 (row_fits r (chk_rows l h r hr)).2
  intro m
  induction m with
  | zero =>
    intro i hi
    rw [List.take_of_length_le (by omega)]
    refine Ev.step (fun k => rfl) ?_
    refine Ev.neg (by omega) ?_
    refine Ev.fst (show table_Find.f l a1 = some _ from if_pos (by omega)) ?_
    refine Ev.fst awake_true ?_
    rw [← findB_any]
    refine Ev.pos (by simp) ?_
    refine Ev.pos (beq_self_eq_true _) ?_
    exact Ev.ret' (beq_self_eq_true _)
  | succ m ih =>
    intro i hi
    have hlt : i < l.length := by omega
    have w1 : wrap64 ((i : Int) + 1) = ((i + 1 : Nat) : Int) := by rw [w64 (by omega) (by omega)]; rfl
    have hI := ih (i + 1) (by omega)
    obtain ⟨f1, f2⟩ := find_self l h i hlt
    have ht := chk_take l h i (by omega)
    have h1 := chk_one l h i hlt
    have hs1 := one_slice l i hlt
    have htake : linesL (l.take (i + 1)) = linesL (l.take i) ++ lineL l[i] := by
      unfold linesL
      rw [List.take_succ_eq_append_getElem hlt, List.flatMap_append]
      simp
    have hany : (l.take (i + 1)).any (fun r => r.f0.toList == a1.toList) = ((l.take i).any (fun r => r.f0.toList == a1.toList) || (l[i].f0.toList == a1.toList)) := by
      rw [List.take_succ_eq_append_getElem hlt, List.any_append]
      simp
    have hsz := lines_size (l.take i) (fun r hr => hLL r (List.mem_of_mem_take hr))
    rw [List.length_take] at hsz
    have hln := hLL _ (List.getElem_mem hlt)
    have e1 : printR [l[i]] = mk (lineL l[i]) := by
      have : printR [l[i]] = ⟨(linesL [l[i]]).toArray⟩ := if_pos (by rw [h1])
      rw [this]
      show mk (lineL l[i] ++ []) = _
      rw [List.append_nil]
    have e2 : printE [l[i]] = 0 := if_pos (by rw [h1])
    have eA : mk (linesL (l.take i)) ++ mk (lineL l[i]) = mk (linesL (l.take i) ++ lineL l[i]) := by
      apply ba_ext
      rw [app_data, data_mk, data_mk, data_mk]
    refine Ev.step (fun k => rfl) ?_
    refine Ev.pos (by omega) ?_
    refine Ev.pos (by omega) ?_
    rw [rd_get l i hlt]
    refine Ev.fst (show table_Find.f l l[i].f0 = some _ from if_pos (by omega)) ?_
    refine Ev.pos (by omega) ?_
    rw [w1, Int.toNat_natCast, Int.toNat_natCast, hs1]
    refine Ev.bind (check_ev (l.take i) (by rw [List.length_take]; omega)) ?_
    refine Ev.pos (by omega) ?_
    refine Ev.pos (by omega) ?_
    refine Ev.fst (show table_Print.f [l[i]] = some _ from if_pos (by simp)) ?_
    refine Ev.pos f1 ?_
    rw [f2, ht, e1, e2, eA]
    refine Ev.neg (by simp) ?_
    refine Ev.pos rfl ?_
    refine Ev.pos rfl ?_
    refine Ev.pos rfl ?_
    refine Ev.pos (by rw [Lib.size_eq, Lib.size_eq, data_mk, data_mk]; omega) ?_
    rw [htake, hany] at hI
    by_cases hb : (l.take i).any (fun r => r.f0.toList == a1.toList) = true
    · refine Ev.pos hb ?_
      rw [hb, Bool.true_or] at hI
      exact hI
    · refine Ev.neg hb ?_
      have hb2 : (l.take i).any (fun r => r.f0.toList == a1.toList) = false := by simpa using hb
      rw [hb2, Bool.false_or] at hI
      exact hI
theorem tableFind_ev (l : List S34) (a1 : ByteArray) : Ev (fun k => basculelaw21_TableFind.f k l a1) true := by
  obtain ⟨b, hb, hl⟩ := few21_ev l
  refine Ev.bind hb ?_
  cases b with
  | false => exact Ev.neg (by simp) (Ev.ret _)
  | true =>
    have hl := hl rfl
    have hP : table_Print.f l = some (printR l, printE l) := if_pos (by omega)
    refine Ev.pos rfl ?_
    refine Ev.fst hP ?_
    by_cases h : (chk l).2 = 0
    · have e1 : printR l = mk (linesL l) := if_pos h
      have e2 : printE l = 0 := if_pos h
      rw [e1, e2]
      refine Ev.pos rfl ?_
      exact tf_loop l hl h a1 l.length 0 (by omega)
    · have e1 : printR l = ⟨#[]⟩ := if_neg h
      have e2 : printE l = 1 := if_neg h
      have hc := chk_bad l l.length 0 (by omega) h
      rw [e1, e2]
      refine Ev.neg (by decide) ?_
      refine Ev.bind (check_ev l (by omega)) ?_
      refine Ev.fst awake_true ?_
      refine Ev.pos rfl ?_
      refine Ev.pos (by show (⟨#[]⟩ : ByteArray).toList = []; rw [Lib.toList_data]) ?_
      refine Ev.neg h ?_
      refine Ev.pos hc.1 ?_
      exact Ev.ret' (decide_eq_true hc.2)
end Go.Proofs.YtbfhiiokajbdhaaGreatDoor.Q
namespace Go.Proofs.YtbfhiiokajbdhaaGreatDoor.Card
open Go.RowKit Go.Proofs.YtbfhiiokajbdhaaGreatDoorW.PrintWords Go.Proofs.YtbfhiiokajbdhaaGreatDoor.Q
theorem tableFind_calls (A : Option Addr) (c : Nat) (l : List S34) (a1 : ByteArray) (w : World) (hL : Val.Laid w) (hr : Kd.C k34 w A l.length l) (hc : l.length ≤ c) (hm : l.length ≤ 9223372036854775807) (hx : ∀ x ∈ l, rowWf x) (h1 : a1.size ≤ 140737488351232) :
    Calls Tryz.prog 6 #[.slice A l.length c, .string a1] w fun e w' => e = .returned (.bool true) ∧ Below w.heap.size w w' := by
  obtain ⟨k, hk⟩ := (tableFind_ev l a1).rounds
  exact basculelaw21_TableFind.calls k A c l a1 true w hr hc hL (Aside0.mk rfl) hk
end Go.Proofs.YtbfhiiokajbdhaaGreatDoor.Card
