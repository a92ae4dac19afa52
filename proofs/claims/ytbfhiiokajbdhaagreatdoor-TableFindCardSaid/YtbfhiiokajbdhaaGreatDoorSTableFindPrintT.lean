/- What the proof of TableFind leans on: PrintT. -/
import Derived.Test.YtbfhiiokajbdhaaGreatDoorSTableFindPrintW
import Derived.Test.YtbfhiiokajbdhaaGreatDoorSTableFindQx0
set_option linter.unusedVariables false
set_option linter.unusedSimpArgs false
namespace Go.Proofs.YtbfhiiokajbdhaaGreatDoor.Fl
open Go.RowKit Go.Proofs.YtbfhiiokajbdhaaGreatDoor.Q Go.Proofs.YtbfhiiokajbdhaaGreatDoor.Val Go.Proofs.YtbfhiiokajbdhaaGreatDoorW.PrintWords
def printR (l : List S34) : ByteArray := if (chk l).2 = 0 then ⟨(linesL l).toArray⟩ else ⟨#[]⟩
def printE (l : List S34) : Int := if (chk l).2 = 0 then 0 else 1
theorem chk_zero (l : List S34) : ∀ m i : Nat, (chkFrom l m i).2 = 0 → chkFrom l m i = (0, 0) := by
  intro m
  induction m with
  | zero => intro i _; rfl
  | succ m ih =>
    intro i h
    unfold chkFrom at h ⊢
    split at h
    · rename_i h0
      rw [if_pos h0]
      exact ih _ h
    · rename_i h0
      exact absurd h h0
theorem chk_rows (l : List S34) (h : (chk l).2 = 0) (r : S34) (hr : r ∈ l) : rowB r.f0 r.f1 r.f2 r.f3 r.f4 r.f5 r.f6 r.f7 = true := by
  obtain ⟨j, hj, rfl⟩ := List.mem_iff_getElem.1 hr
  have e := chk_all l l.length 0 (by omega) h j (by omega) hj
  have e1 : rd_T34 l (j : Int) = l[j] := by
    unfold rd_T34
    rw [Int.toNat_natCast, List.getD_eq_getElem?_getD, List.getElem?_eq_getElem hj]
    rfl
  rw [e1] at e
  exact (nx_ok _ _ e).1
theorem row_fits (r : S34) (h : rowB r.f0 r.f1 r.f2 r.f3 r.f4 r.f5 r.f6 r.f7 = true) : fitB r ∧ r.f0.size ≤ 200 := by
  unfold rowB Tab.rangeB Tab.kindB namedB at h
  simp only [Bool.and_eq_true, decide_eq_true_eq, Bool.not_eq_true', decide_eq_false_iff_not] at h
  obtain ⟨⟨hn, -⟩, h1, h2, h3, h4, ⟨h5, h6⟩, -, h7, h8, h9, h10, h11, h12, -⟩ := h
  refine ⟨?_, hn⟩
  intro x hx
  simp only [List.mem_cons, List.not_mem_nil, or_false] at hx
  rcases hx with rfl | rfl | rfl | rfl | rfl | rfl <;> omega
set_option maxHeartbeats 4000000 in
set_option maxRecDepth 1000000 in
theorem print_bad (A : Option Addr) (c : Nat) (l : List S34) (w : World) (hL : Laid w) (hr : Kd.C k34 w A l.length l) (hc : l.length ≤ c) (hlen : l.length ≤ 1000000) (hch : (chk l).2 ≠ 0) :
    Calls Tryz.prog 18 #[.slice A l.length c] w fun e w' => e = .returned (.tuple #[.string ⟨#[]⟩, .int .i64 1]) ∧ Below w.heap.size w w' := by
  have cC := table_Check.calls (0 + l.length + 4) A c l (chk l).1 (chk l).2 w hr hc hL (by rw [check_eq l hlen 0])
  have hn : ((chk l).2 == 0) = false := beq_eq_false_iff_ne.2 hch
  generalize chk l = q at *
  obtain ⟨q1, q2⟩ := q
  clear hr
  go_enter Tryz.func18, Tryz.ntmps18
  go_wp2_with (go_at_call 12; refine cC.mono ?_; rintro e w1 ⟨rfl, hb1⟩)
  go_ret2
  exact ⟨rfl, hb1⟩
theorem print_calls (A : Option Addr) (c : Nat) (l : List S34) (w : World) (hL : Laid w) (hr : Kd.C k34 w A l.length l) (hc : l.length ≤ c) (hlen : l.length ≤ 1000000) :
    Calls Tryz.prog 18 #[.slice A l.length c] w fun e w' => e = .returned (.tuple #[.string (printR l), .int .i64 (printE l)]) ∧ Below w.heap.size w w' := by
  by_cases h : (chk l).2 = 0
  · have e1 : printR l = ⟨(linesL l).toArray⟩ := if_pos h
    have e2 : printE l = 0 := if_pos h
    rw [e1, e2]
    exact print_ok A c l w hL hr hc hlen (chk_zero l l.length 0 h) (fun r hm => (row_fits r (chk_rows l h r hm)).1) (fun r hm => Nat.le_trans (row_fits r (chk_rows l h r hm)).2 (by omega))
  · have e1 : printR l = ⟨#[]⟩ := if_neg h
    have e2 : printE l = 1 := if_neg h
    rw [e1, e2]
    exact print_bad A c l w hL hr hc hlen h
end Go.Proofs.YtbfhiiokajbdhaaGreatDoor.Fl
namespace Go.Proofs.YtbfhiiokajbdhaaGreatDoor.Q
open Go.RowKit Go.Proofs.YtbfhiiokajbdhaaGreatDoorW.PrintWords Go.Proofs.YtbfhiiokajbdhaaGreatDoorW.PrintLast Go.Proofs.YtbfhiiokajbdhaaGreatDoorW.PrintMore
attribute [local go_sem] max2_int max_two
set_option linter.unusedVariables false
set_option linter.unusedSimpArgs false
def table_Print.f (l0 : List S34) : Option (ByteArray × Int) := if l0.length ≤ 1000000 then some (Go.Proofs.YtbfhiiokajbdhaaGreatDoor.Fl.printR l0, Go.Proofs.YtbfhiiokajbdhaaGreatDoor.Fl.printE l0) else none
theorem table_Print.calls (A0 : Option Addr) (c0 : Nat) (l0 : List S34) (r1 : ByteArray) (r2 : Int) (w : World) (hr0 : Kd.C k34 w A0 l0.length l0) (hc0 : l0.length ≤ c0) (hLd_ : Val.Laid w) (h : table_Print.f l0 = some (r1, r2)) :
    Calls Tryz.prog 18 #[.slice A0 l0.length c0] w fun e w' => e = .returned (.tuple #[.string r1, .int .i64 r2]) ∧ Below w.heap.size w w' := by
  unfold table_Print.f at h
  split at h
  · rename_i hc
    have h2 := Option.some.inj h
    obtain ⟨rfl, rfl⟩ := Prod.mk.inj h2
    exact Go.Proofs.YtbfhiiokajbdhaaGreatDoor.Fl.print_calls A0 c0 l0 w hLd_ hr0 hc0 hc
  · cases h
end Go.Proofs.YtbfhiiokajbdhaaGreatDoor.Q
