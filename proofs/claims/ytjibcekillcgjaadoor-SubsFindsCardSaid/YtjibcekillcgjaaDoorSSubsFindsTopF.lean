/- What the proof of SubsFinds leans on: TopF. -/
import Derived.Test.YtjibcekillcgjaaDoorSSubsFindsTopE
set_option linter.unusedVariables false
set_option linter.unusedSimpArgs false
namespace Go.Proofs.YtjibcekillcgjaaDoor.Top
open Go.RowKit Go.Shelf Go.Proofs.YtjibcekillcgjaaDoor.Range
attribute [local go_sem] Oper.semAt_some
def badL (x : List UInt8 × Bool) : Bool := !(x.1 == [43]) && (!(x.1 == [35] && x.2) && hasAny x.1 wild)
def badCode (b : Bool) : Int := if b then 121 else 0
def isFilter (s : ByteArray) : Bool := !s.data.toList.isEmpty && (isU s && !((lvl s.data.toList).any badL))
set_option maxRecDepth 100000 in
set_option maxHeartbeats 4000000 in
theorem filter_loop (s : ByteArray) (w : World) (hL : Laid w) (hU : isU s = true) (h0 : s.data.toList.isEmpty = false) :
    Calls Tryd.prog 23 #[.string s] w fun e w' => e = .returned (.int .i64 (badCode ((lvl s.data.toList).any badL))) ∧ Below w.heap.size w w' := by
  have hf : s.toList.isEmpty = false := by rw [Lib.toList_data]; exact h0
  have hsz := isU_size s hU
  have hmf : ∀ (fn : Fn) (first cap : Array Value) (w : World), (Instr.makeFunc fn first cap).run Tryd.prog w = .ok (.func fn first cap) w := fun _ _ _ _ => rfl
  have cU := is_calls s (w.alloc (.cells #[.int .i64 0] 29)) (hL.below ((Below.refl _ w).alloc (Nat.le_refl _) _))
  rw [hU] at cU
  clear h0
  refine (callsIn_wide (n := 3)).1 (callsIn_of_wp_marks Tryd.func23 rfl trivial ?_)
  simp only [Tryd.ntmps23, List.size_toArray, List.length_cons, List.length_nil, Nat.reduceAdd, Nat.reduceSub, Array.replicate_succ, Array.replicate_zero, List.push_toArray, List.append_toArray, List.nil_append, List.cons_append]
  gi_wp2_with (refine ⟨trivial, ?_⟩; first | ((with_reducible refine (callsIn_wide.2 cU).mono ?_); rintro e w1 ⟨rfl, hb1⟩) | ((with_reducible refine (callsIn_wide.2 (levels_calls _ _)).mono ?_); rintro e w2 ⟨rfl, rfl⟩))
  have hR1 : w1.heap[w.heap.size]? = some (.cells #[.int .i64 0] 29 (0, 0)) := (hb1.block _ (by simp)).trans (alloc_new w _)
  have hs1 : w.heap.size + 1 ≤ w1.heap.size := by have := hb1.size; simpa using this
  have hB1 : Below w.heap.size w w1 := ((Below.refl _ w).alloc (Nat.le_refl _) _).trans (hb1.mono (by simp))
  have hB0 : Below w.heap.size w (w1.alloc (.cells #[.string s] 9)) := hB1.alloc hB1.size _
  have hz : (w1.alloc (.cells #[.string s] 9)).heap.size = w1.heap.size + 1 := by simp
  have hseq := levels_seq 2 w.heap.size w1.heap.size s.data.toList (w1.alloc (.cells #[.string s] 9)) (by rw [Lib.size_eq] at hsz; omega) hB1.size (alloc_new w1 _) (fun W hb => hL.below (hB0.trans hb))
  refine wpIn_rangeFunc_box (F := Fence.wide) (Bs := w1.heap.size) rfl (by omega) (gf := 46) (lb := #[.pointer (some ⟨w1.heap.size, 0, none⟩)]) rfl trivial (enters_of Tryd.func46 (by kernel_rfl) rfl)
    (by rw [hz]; omega) hseq KeepBox.t (KeepBox.b (by rw [hz]; omega) (by rw [hz]; omega)) (Below.refl _ _) (fun _ => rfl)
    (fun pre W => (pre.any badL = false ∧ W.heap[w.heap.size]? = some (.cells #[.int .i64 0] 29 (0, 0))) ∧ Below w.heap.size w W ∧ w1.heap.size < W.heap.size)
    (fun c pre W => ((c = .ret ∧ pre.any badL = true) ∧ W.heap[w.heap.size]? = some (.cells #[.int .i64 121] 29 (0, 0))) ∧ Below w.heap.size w W)
    (((ownBox_pure _).and (ownBox_block (by omega) (by rw [hz]; omega))).and ((ownBox_below (Nat.le_refl _) (by omega) (by rw [hz]; omega)).and ownBox_size))
    (fun c => ((ownBox_pure (fun pre => c = .ret ∧ List.any pre badL = true)).and (ownBox_block (by omega) (by rw [hz]; omega))).and (ownBox_below (Nat.le_refl _) (by omega) (by rw [hz]; omega)))
    ⟨⟨rfl, (Below.heap_alloc _ _ _ (by omega)).trans hR1⟩, hB0, by rw [hz]; omega⟩
    (fun x => { tmps := #[.string s, undef, .pointer (some ⟨w.heap.size, 0, none⟩), .string ⟨x.1.toArray⟩, .bool x.2, .string s, .bool false, .bool false, .string s, .bool true, .bool false, .bool false, .string s, .func (.func 46) #[] #[.pointer (some ⟨w1.heap.size, 0, none⟩)], .string ⟨x.1.toArray⟩, .bool x.2, undef, undef, undef, undef, undef, undef, undef, undef, undef, undef, undef, undef, undef, undef], defers := [] }) ?assign ?body ?done ?stop
  case assign =>
    intro l x W K hK
    simp only [encL]
    gi_wp2
    exact hK
  case body =>
    rintro l pre ⟨a, f⟩ W ⟨⟨hp, hR⟩, hB, hBl⟩ hpx
    have hlen : a.length ≤ s.data.toList.length := lvl_short _ _ (Nat.le_refl _) (a, f) (hpx.subset (by simp))
    have cW := fun W => wild_calls ⟨a.toArray⟩ W (by show a.toArray.size < _; rw [List.size_toArray]; rw [Lib.size_eq] at hsz; omega)
    have e1 : ((⟨a.toArray⟩ : ByteArray)).data.toList = a := rfl
    rw [e1] at cW
    clear e1
    have hsnoc : (pre ++ [(a, f)]).any badL = badL (a, f) := by rw [List.any_append, hp]; simp
    have Hs := Lib.hid hsnoc
    have HBs := Lib.hid hBl
    clear hBl
    clear hsnoc hp hpx hseq hR1 hs1 hB1 hB0 hz hb1
    dsimp only
    have HR := Lib.hid hR
    have hc := cell_of_one hR
    have hfr := free_of_one hR
    clear hR
    have go_on : badL (a, f) = false → ∀ W', Below W.heap.size W W' → KeepsOthers W W' ∧ KeepBox w.heap.size w1.heap.size W W' ∧ ((pre ++ [(a, f)]).any badL = false ∧ W'.heap[w.heap.size]? = some (.cells #[.int .i64 0] 29 (0, 0))) ∧ Below w.heap.size w W' ∧ w1.heap.size < W'.heap.size := fun h W' hb =>
      ⟨keepsOthers_below hb, ⟨hb.mono hB.size, hb.block _ HBs.out⟩, ⟨Hs.out.trans h, (hb.block _ (Array.getElem?_eq_some_iff.1 HR.out).1).trans HR.out⟩, hB.trans (hb.mono hB.size), Nat.lt_of_lt_of_le HBs.out hb.size⟩
    by_cases h43 : a = [43]
    · subst h43
      have hbad : badL ([43], f) = false := rfl
      gi_wp2
      refine ⟨trivial, ?_⟩
      gi_wp2
      exact go_on hbad _ (Below.refl _ _)
    · by_cases hlast : a = [35] ∧ f = true
      · obtain ⟨rfl, rfl⟩ := hlast
        have hbad : badL ([35], true) = false := rfl
        gi_wp2
        refine ⟨trivial, ?_⟩
        gi_wp2
        exact go_on hbad _ (Below.refl _ _)
      · have hv : badL (a, f) = hasAny a wild := by
          unfold badL
          have h1 : (a == [43]) = false := beq_eq_false_iff_ne.2 h43
          have h2 : (a == [35] && f) = false := by
            cases f
            · simp
            · have : a ≠ [35] := fun e => hlast ⟨e, rfl⟩
              simp [this]
          simp only [h1, h2]; simp
        cases hb : hasAny a wild
        · rw [hb] at cW hv
          gi_wp2
          all_goals
            refine ⟨trivial, ?_⟩
            first
              | (exfalso; exact hlast ⟨‹_›, ‹_›⟩)
              | ((try have e35 : a = [35] := ‹_›
                  try subst e35)
                 (with_reducible refine (CallsIn.inRound l (callsIn_wide.2 (cW _))).mono ?_)
                 rintro e W2 ⟨rfl, hb2⟩
                 gi_wp2
                 exact go_on hv _ hb2)
        · rw [hb] at cW hv
          have fin : ∀ W2, Below W.heap.size W W2 → W2.cell? ⟨w.heap.size, 0, none⟩ = some (.int .i64 0) ∧ W2.frozen? ⟨w.heap.size, 0, none⟩ = false ∧ (KeepsOthers W (W2.setCell ⟨w.heap.size, 0, none⟩ (.int .i64 121)) ∧ ((Code.ret = .ret ∧ (pre ++ [(a, f)]).any badL = true) ∧ (W2.setCell ⟨w.heap.size, 0, none⟩ (.int .i64 121)).heap[w.heap.size]? = some (.cells #[.int .i64 121] 29 (0, 0))) ∧ Below w.heap.size w (W2.setCell ⟨w.heap.size, 0, none⟩ (.int .i64 121))) := fun W2 hb2 => by
            have hR2 : W2.heap[w.heap.size]? = some (.cells #[.int .i64 0] 29 (0, 0)) := (hb2.block _ (Array.getElem?_eq_some_iff.1 HR.out).1).trans HR.out
            exact ⟨cell_of_one hR2, free_of_one hR2, (keepsOthers_below hb2).trans (KeepsOthers.setCell _ _ _), ⟨⟨rfl, Hs.out.trans hv⟩, one_setCell hR2⟩, (hB.trans (hb2.mono hB.size)).setCell (p := ⟨w.heap.size, 0, none⟩) (Nat.le_refl _) _⟩
          gi_wp2
          all_goals
            refine ⟨trivial, ?_⟩
            first
              | (exfalso; exact hlast ⟨‹_›, ‹_›⟩)
              | ((try have e35 : a = [35] := ‹_›
                  try subst e35)
                 (with_reducible refine (CallsIn.inRound l (callsIn_wide.2 (cW _))).mono ?_)
                 rintro e W2 ⟨rfl, hb2⟩
                 obtain ⟨hc2, hf2, h3⟩ := fin W2 hb2
                 have H3 := Lib.hid h3
                 clear h3 fin
                 gi_wp2
                 all_goals first
                   | exact ⟨H3.out.1, ⟨⟨rfl, H3.out.2.1.1.2⟩, H3.out.2.1.2⟩, H3.out.2.2⟩
                   | (exfalso; have h43b : (!(a == [43])) = true := by rw [beq_eq_false_iff_ne.2 h43]; rfl
                      have h' : (!(a == [43])) = false := ‹_›
                      rw [h43b] at h'; cases h'))
  case done =>
    rintro D W hD ⟨⟨hno, hR⟩, hB, _⟩ hK
    have hc := cell_of_one hR
    have hfr := free_of_one hR
    have HR := Lib.hid hR
    clear hR
    rw [hz] at hD
    gi_wp2
    have hK' := (KeepsOthers.setCell W ⟨w.heap.size, 0, none⟩ (.int .i64 0)).same D _ hK rfl
    refine ⟨by simp, .inl ⟨_, _, rfl, run_takeDeferred hK', ?_⟩⟩
    have hc5 := cell_kept (cell_of_one (one_setCell (u := .int .i64 0) HR.out)) (grownBy_putObj' _ D (.deferred none)) (fun r e => by cases e; exact ⟨_, hK', rfl⟩)
    refine ⟨.int .i64 0, ?_, by rw [hno]; rfl, (hB.setCell (p := ⟨w.heap.size, 0, none⟩) (Nat.le_refl _) _).trans (belowK_b (w := w) (Nat.le_refl _) _ D _ _ (by omega) hK' rfl rfl)⟩
    simp [results, Tryd.f23, go_sem, hc5]
  case stop =>
    rintro D c pre W hD hpre ⟨⟨⟨rfl, hin⟩, hR⟩, hB⟩ hK
    have hc := cell_of_one hR
    rw [hz] at hD
    have hany : (lvl s.data.toList).any badL = true := by
      obtain ⟨x, hx, hbx⟩ := List.any_eq_true.1 hin
      exact List.any_eq_true.2 ⟨x, hpre.subset hx, hbx⟩
    gi_wp2
    refine ⟨by simp, .inl ⟨_, _, rfl, run_takeDeferred hK, ?_⟩⟩
    have hc5 := cell_kept hc (grownBy_putObj' _ D (.deferred none)) (fun r e => by cases e; exact ⟨_, hK, rfl⟩)
    refine ⟨.int .i64 121, ?_, by rw [hany]; rfl, hB.trans (belowK_b (w := w) (Nat.le_refl _) W D _ _ (by omega) hK rfl rfl)⟩
    simp [results, Tryd.f23, go_sem, hc5]
set_option maxRecDepth 100000 in
set_option maxHeartbeats 4000000 in
theorem filter_calls (s : ByteArray) (w : World) (hL : Laid w) :
    Calls Tryd.prog 23 #[.string s] w fun e w' => e = .returned (.int .i64 (if isFilter s then 0 else 121)) ∧ Below w.heap.size w w' := by
  have hemp : s.toList.isEmpty = s.data.toList.isEmpty := by rw [Lib.toList_data]
  unfold isFilter
  cases h0 : s.data.toList.isEmpty
  · cases hU : isU s
    · have hf : s.toList.isEmpty = false := by rw [hemp, h0]
      have cU := is_calls s (w.alloc (.cells #[.int .i64 0] 29)) (hL.below ((Below.refl _ w).alloc (Nat.le_refl _) _))
      rw [hU] at cU
      clear hemp h0 hU
      go_enter Tryd.func23, Tryd.ntmps23
      go_wp2_with (go_at_call 33; refine cU.mono ?_; rintro e w1 ⟨rfl, hb1⟩; have hR1 : w1.heap[w.heap.size]? = some (.cells #[.int .i64 0] 29 (0, 0)) := (hb1.block _ (by simp)).trans (alloc_new w _); have hc := cell_of_one hR1; have hfr := free_of_one hR1; have HR := Lib.hid hR1; clear hR1)
      have hc2 := cell_of_one (one_setCell (u := .int .i64 121) HR.out)
      refine bodyPost_ret (v := .int .i64 121) (by simp [results, Tryd.f23, go_sem, hc2]) rfl ⟨rfl, ?_⟩
      exact (((Below.refl _ w).alloc (Nat.le_refl _) _).trans (hb1.mono (by simp))).setCell (p := ⟨w.heap.size, 0, none⟩) (Nat.le_refl _) _
    · refine (filter_loop s w hL hU h0).mono ?_
      rintro e w' ⟨rfl, hb⟩
      refine ⟨?_, hb⟩
      cases (lvl s.data.toList).any badL <;> rfl
  · have h0' : s.toList = [] := by rw [Lib.toList_data]; exact List.isEmpty_iff.1 h0
    clear hemp h0
    go_enter Tryd.func23, Tryd.ntmps23
    go_wp2
    refine bodyPost_ret (v := .int .i64 121) (by simp [results, Tryd.f23, go_sem]) rfl ⟨rfl, ?_⟩
    exact (Below.refl _ w).alloc (Nat.le_refl _) _
end Go.Proofs.YtjibcekillcgjaaDoor.Top
