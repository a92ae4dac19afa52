/- What the proof of SubsFinds leans on: TopG. -/
import Derived.Test.YtjibcekillcgjaaDoorSSubsFindsTopF
set_option linter.unusedVariables false
set_option linter.unusedSimpArgs false
namespace Go.Proofs.YtjibcekillcgjaaDoor.Top
open Go.RowKit Go.Shelf Go.Proofs.YtjibcekillcgjaaDoor.Range
attribute [local go_sem] Oper.semAt_some
def takesL : List (List UInt8) → List (List UInt8) → Bool
  | [], ns => ns.isEmpty
  | f :: fs, ns => if f = [35] then true else match ns with
    | [] => false
    | n :: ns => if f = [43] ∨ f = n then takesL fs ns else false
theorem takesL_hash (fs ns : List (List UInt8)) : takesL ([35] :: fs) ns = true := by cases ns <;> simp [takesL]
theorem takesL_nil (f : List UInt8) (fs : List (List UInt8)) (h : f ≠ [35]) : takesL (f :: fs) [] = false := by simp [takesL, h]
theorem takesL_go (f n : List UInt8) (fs ns : List (List UInt8)) (h : f ≠ [35]) (h2 : f = [43] ∨ f = n) : takesL (f :: fs) (n :: ns) = takesL fs ns := by simp [takesL, h, h2]
theorem takesL_no (f n : List UInt8) (fs ns : List (List UInt8)) (h : f ≠ [35]) (h2 : ¬ (f = [43] ∨ f = n)) : takesL (f :: fs) (n :: ns) = false := by simp [takesL, h, h2]
def dollar (f n : List UInt8) : Bool := n.head? == some 36 && hasAny (f.take 1) wild
def takesF (f n : List UInt8) : Bool := !dollar f n && takesL (splitB f) (splitB n)
def fCode (b : Bool) : Int := if b then 0 else 121
def nCode (b : Bool) : Int := if b then 0 else 120
theorem filter_calls' (s : ByteArray) (w : World) (hL : Laid w) :
    Calls Tryd.prog 23 #[.string s] w fun e w' => e = .returned (.int .i64 (fCode (isFilter s))) ∧ Below w.heap.size w w' := filter_calls s w hL
theorem name_calls' (s : ByteArray) (w : World) (hL : Laid w) :
    Calls Tryd.prog 27 #[.string s] w fun e w' => e = .returned (.int .i64 (nCode (isName s))) ∧ Below w.heap.size w w' := name_calls s w hL
theorem withLast_map : ∀ l : List (List UInt8), (withLast l).map (·.1) = l
  | [] => rfl
  | [_] => rfl
  | x :: y :: r => by rw [withLast, List.map_cons, withLast_map (y :: r)]
def Left (ns : List (List UInt8)) (left : ByteArray) (more : Bool) : Prop := left.size ≤ 65535 ∧ (more = false ∧ ns = [] ∨ more = true ∧ ns = splitB left.data.toList)
def Inv (f n : List UInt8) (pre : List (List UInt8 × Bool)) (ns : List (List UInt8)) : Prop := ∀ rest, splitB f = pre.map (·.1) ++ rest → takesL (splitB f) (splitB n) = takesL rest ns
theorem two_new (w : World) (a b : Obj) : Below w.heap.size w ((w.alloc a).alloc b) := ((Below.refl _ w).alloc (Nat.le_refl _) _).alloc (by simp) _
theorem two_set {W : World} {R : Nat} {v1 v2 u1 u2 : Value} {t1 t2 : TypeId} (h1 : W.heap[R]? = some (.cells #[v1] t1 (0, 0))) (h2 : W.heap[R + 1]? = some (.cells #[v2] t2 (0, 0))) :
    ((W.setCell ⟨R, 0, none⟩ u1).setCell ⟨R + 1, 0, none⟩ u2).heap[R]? = some (.cells #[u1] t1 (0, 0)) ∧ ((W.setCell ⟨R, 0, none⟩ u1).setCell ⟨R + 1, 0, none⟩ u2).heap[R + 1]? = some (.cells #[u2] t2 (0, 0)) :=
  ⟨(Below.heap_setCell _ _ _ _ (by simp)).trans (one_setCell h1), one_setCell ((Below.heap_setCell _ _ _ _ (by simp)).trans h2)⟩
set_option maxRecDepth 100000 in
set_option maxHeartbeats 8000000 in
theorem matches_loop (f n : ByteArray) (w : World) (hL : Laid w) (hF : isFilter f = true) (hN : isName n = true) (hD : dollar f.data.toList n.data.toList = false) :
    Calls Tryd.prog 28 #[.string f, .string n] w fun e w' => e = .returned (.tuple #[.bool (takesL (splitB f.data.toList) (splitB n.data.toList)), .int .i64 0]) ∧ Below w.heap.size w w' := by
  have hmf : ∀ (fn : Fn) (first cap : Array Value) (w : World), (Instr.makeFunc fn first cap).run Tryd.prog w = .ok (.func fn first cap) w := fun _ _ _ _ => rfl
  have cF := filter_calls' f _ (hL.below (two_new w (.cells #[.bool false] 4) (.cells #[.int .i64 0] 29)))
  rw [hF] at cF
  have cN := fun W (hb : Below w.heap.size w W) => name_calls' n W (hL.below hb)
  rw [hN] at cN
  have hp := Tryd.strings_HasPrefix n ⟨#[36]⟩
  have hsf : f.size ≤ 65535 := isU_size f (by unfold isFilter at hF; simp only [Bool.and_eq_true] at hF; exact hF.2.1)
  have hsn : n.size ≤ 65535 := isU_size n (by unfold isName at hN; simp only [Bool.and_eq_true] at hN; exact hN.2.1)
  have hne : 1 ≤ f.size := by
    unfold isFilter at hF
    simp only [Bool.and_eq_true, Bool.not_eq_true'] at hF
    rw [Lib.size_eq]
    cases h : f.data.toList with
    | nil => rw [h] at hF; exact absurd hF.1 (by simp)
    | cons _ _ => simp
  have e1 : (f.extract 0 1).data.toList = f.data.toList.take 1 := by
    rw [ByteArray.data_extract, Array.toList_extract]; simp
  have cW := fun W => wild_calls (f.extract 0 1) W (by rw [ByteArray.size_extract]; omega)
  rw [e1] at cW
  have hhead : Lib.hasPrefix n.data.toList [36] = (n.data.toList.head? == some 36) := by
    cases n.data.toList with
    | nil => rfl
    | cons b l =>
      rw [Bool.eq_iff_iff]
      simp [Lib.hasPrefix, List.isPrefixOf]
      exact ⟨fun h => h.symm, fun h => h.symm⟩
  unfold dollar at hD
  rw [← hhead] at hD
  clear e1 hhead hF hN
  have fin : Hid (∀ P, Lib.hasPrefix n.data.toList [36] = P → (P = true → hasAny (f.data.toList.take 1) wild = false)) := Lib.hid (fun P h1 h2 => by rw [h1, h2] at hD; simpa using hD)
  clear hD
  refine (callsIn_wide (n := 3)).1 (callsIn_of_wp_marks Tryd.func28 rfl trivial ?_)
  simp only [Tryd.ntmps28, List.size_toArray, List.length_cons, List.length_nil, Nat.reduceAdd, Nat.reduceSub, Array.replicate_succ, Array.replicate_zero, List.push_toArray, List.append_toArray, List.nil_append, List.cons_append]
  have hne' : (1 : Int) ≤ (f.size : Int) := by omega
  cases hP : Lib.hasPrefix n.data.toList [36]
  all_goals
    rw [hP] at hp
    have hq := fin.out _ hP
    simp only [forall_const, reduceCtorEq, false_implies] at hq
    try rw [hq] at cW
    clear hq hP fin
    gi_wp2_with (refine ⟨trivial, ?_⟩; first | ((with_reducible refine (callsIn_wide.2 cF).mono ?_); rintro e w1 ⟨rfl, hb1⟩; have hB1 := (two_new w (.cells #[.bool false] 4) (.cells #[.int .i64 0] 29)).trans (hb1.mono (by simp; omega)); simp only [fCode, if_true]) | ((with_reducible refine (callsIn_wide.2 (cN _ hB1)).mono ?_); rintro e w2 ⟨rfl, hb2⟩; have hB3 := hB1.trans (hb2.mono hB1.size); have hk3 := Below.refl w2.heap.size w2; simp only [nCode, if_true]) | ((with_reducible refine (callsIn_wide.2 (hp _)).mono ?_); rintro e w3 ⟨rfl, hw3⟩; rw [← hw3] at hB3; have hk3 : Below w2.heap.size w2 w3 := (by rw [hw3]; exact Below.refl _ _); clear hw3) | ((with_reducible refine (callsIn_wide.2 (cW _)).mono ?_); rintro e w3 ⟨rfl, hb4⟩; replace hB3 := hB3.trans (hb4.mono hB3.size); replace hk3 := hk3.trans (hb4.mono hk3.size); clear hb4) | ((with_reducible refine (callsIn_wide.2 (levels_calls _ _)).mono ?_); rintro e w5 ⟨rfl, rfl⟩) | skip)
    have hR1 : w3.heap[w.heap.size]? = some (.cells #[.bool false] 4 (0, 0)) := by
      have h1 : w1.heap[w.heap.size]? = some (.cells #[.bool false] 4 (0, 0)) := (hb1.block _ (by simp; omega)).trans ((Below.heap_alloc _ _ _ (by simp)).trans (alloc_new w _))
      have h2 := (hb2.block _ (Array.getElem?_eq_some_iff.1 h1).1).trans h1
      exact (hk3.block _ (Array.getElem?_eq_some_iff.1 h2).1).trans h2
    have hR2 : w3.heap[w.heap.size + 1]? = some (.cells #[.int .i64 0] 29 (0, 0)) := by
      have h1 : w1.heap[w.heap.size + 1]? = some (.cells #[.int .i64 0] 29 (0, 0)) := (hb1.block _ (by simp)).trans (by have := alloc_new (w.alloc (.cells #[.bool false] 4)) (.cells #[.int .i64 0] 29); simpa using this)
      have h2 := (hb2.block _ (Array.getElem?_eq_some_iff.1 h1).1).trans h1
      exact (hk3.block _ (Array.getElem?_eq_some_iff.1 h2).1).trans h2
    have hs1 : w.heap.size + 2 ≤ w3.heap.size := by have := (Array.getElem?_eq_some_iff.1 hR2).1; omega
    clear cF cN cW hp hb1 hb2 hk3 hB1
    have hB0 : Below w.heap.size w (((w3.alloc (.cells #[.string n] 9)).alloc (.cells #[.bool true] 4)).alloc (.cells #[.string f] 9)) := ((hB3.alloc hB3.size _).alloc (by have := hB3.size; simp; omega) _).alloc (by have := hB3.size; simp; omega) _
    have hz : (((w3.alloc (.cells #[.string n] 9)).alloc (.cells #[.bool true] 4)).alloc (.cells #[.string f] 9)).heap.size = w3.heap.size + 3 := by simp
    have hA1 : (((w3.alloc (.cells #[.string n] 9)).alloc (.cells #[.bool true] 4)).alloc (.cells #[.string f] 9)).heap[w3.heap.size]? = some (.cells #[.string n] 9 (0, 0)) := (Below.heap_alloc _ _ _ (by simp; omega)).trans ((Below.heap_alloc _ _ _ (by simp)).trans (alloc_new w3 _))
    have hA2 : (((w3.alloc (.cells #[.string n] 9)).alloc (.cells #[.bool true] 4)).alloc (.cells #[.string f] 9)).heap[w3.heap.size + 1]? = some (.cells #[.bool true] 4 (0, 0)) := (Below.heap_alloc _ _ _ (by simp)).trans (by have := alloc_new (w3.alloc (.cells #[.string n] 9)) (.cells #[.bool true] 4); simpa using this)
    have hA3 : (((w3.alloc (.cells #[.string n] 9)).alloc (.cells #[.bool true] 4)).alloc (.cells #[.string f] 9)).heap[w3.heap.size + 1 + 1]? = some (.cells #[.string f] 9 (0, 0)) := by have := alloc_new ((w3.alloc (.cells #[.string n] 9)).alloc (.cells #[.bool true] 4)) (.cells #[.string f] 9); simpa using this
    have hA4 : (((w3.alloc (.cells #[.string n] 9)).alloc (.cells #[.bool true] 4)).alloc (.cells #[.string f] 9)).heap[w.heap.size]? = some (.cells #[.bool false] 4 (0, 0)) := (Below.heap_alloc _ _ _ (by simp; omega)).trans ((Below.heap_alloc _ _ _ (by simp; omega)).trans ((Below.heap_alloc _ _ _ (by omega)).trans hR1))
    have hA5 : (((w3.alloc (.cells #[.string n] 9)).alloc (.cells #[.bool true] 4)).alloc (.cells #[.string f] 9)).heap[w.heap.size + 1]? = some (.cells #[.int .i64 0] 29 (0, 0)) := (Below.heap_alloc _ _ _ (by simp; omega)).trans ((Below.heap_alloc _ _ _ (by simp; omega)).trans ((Below.heap_alloc _ _ _ (by omega)).trans hR2))
    clear hR1 hR2
    generalize ((w3.alloc (.cells #[.string n] 9)).alloc (.cells #[.bool true] 4)).alloc (.cells #[.string f] 9) = W0 at *
    have hseq := levels_seq 2 w.heap.size (w3.heap.size + 1 + 1) f.data.toList W0 (by rw [Lib.size_eq] at hsf; omega) (by omega) hA3 (fun W hb => hL.below (hB0.trans hb))
    refine wpIn_rangeFunc_box (F := Fence.wide) (Bs := w3.heap.size + 1 + 1) rfl (by omega) (gf := 46) (lb := #[.pointer (some ⟨w3.heap.size + 1 + 1, 0, none⟩)]) rfl trivial (enters_of Tryd.func46 (by kernel_rfl) rfl)
      (by rw [hz]; omega) hseq KeepBox.t (KeepBox.b (by rw [hz]; omega) (by rw [hz]; omega)) (Below.refl _ _) (fun _ => rfl)
      (fun pre W => ∃ (ns : List (List UInt8)) (left : ByteArray) (more : Bool), (Inv f.data.toList n.data.toList pre ns ∧ Left ns left more) ∧ (W.heap[w3.heap.size]? = some (.cells #[.string left] 9 (0, 0)) ∧ W.heap[w3.heap.size + 1]? = some (.cells #[.bool more] 4 (0, 0)) ∧ W.heap[w.heap.size]? = some (.cells #[.bool false] 4 (0, 0)) ∧ W.heap[w.heap.size + 1]? = some (.cells #[.int .i64 0] 29 (0, 0))) ∧ Below w.heap.size w W ∧ w3.heap.size + 1 + 1 < W.heap.size)
      (fun c _ W => (c = .ret ∧ W.heap[w.heap.size]? = some (.cells #[.bool (takesL (splitB f.data.toList) (splitB n.data.toList))] 4 (0, 0)) ∧ W.heap[w.heap.size + 1]? = some (.cells #[.int .i64 0] 29 (0, 0))) ∧ Below w.heap.size w W)
      (fun s A B row ⟨ns, left, more, h1, ⟨h2, h3, h4, h5⟩, h6, h7⟩ hg hr => ⟨ns, left, more, h1, ⟨box_keep (by omega) (by rw [hz]; omega) hg hr h2, box_keep (by omega) (by rw [hz]; omega) hg hr h3, box_keep (by omega) (by rw [hz]; omega) hg hr h4, box_keep (by omega) (by rw [hz]; omega) hg hr h5⟩, ownBox_below (β := Unit) (Nat.le_refl _) (by omega) (by rw [hz]; omega) () A B row h6 hg hr, Nat.lt_of_lt_of_le h7 hg.size⟩)
      (fun c s A B row ⟨⟨h1, h2, h3⟩, h4⟩ hg hr => ⟨⟨h1, box_keep (by omega) (by rw [hz]; omega) hg hr h2, box_keep (by omega) (by rw [hz]; omega) hg hr h3⟩, ownBox_below (β := Unit) (Nat.le_refl _) (by omega) (by rw [hz]; omega) () A B row h4 hg hr⟩)
      ⟨splitB n.data.toList, n, true, ⟨fun rest h => by simp at h; rw [h], hsn, .inr ⟨rfl, rfl⟩⟩, ⟨hA1, hA2, hA4, hA5⟩, hB0, by rw [hz]; omega⟩
      ?_ ?_ ?_ ?_ ?_
    rotate_left 1
    · -- what the body is handed
      intro l x W K hK
      simp only [encL]
      gi_wp2
      exact hK
    · -- one round
      rintro l pre ⟨a, q⟩ W ⟨ns, left, more, ⟨hinv, hlf, hcase⟩, ⟨hL1, hL2, hL3, hL4⟩, hB, hBl⟩ hpx
      have hstep : ∀ rest, splitB f.data.toList = (pre ++ [(a, q)]).map (·.1) ++ rest → takesL (splitB f.data.toList) (splitB n.data.toList) = takesL (a :: rest) ns := fun rest h => hinv (a :: rest) (by rw [h]; simp)
      have hall : ∃ rest, splitB f.data.toList = (pre ++ [(a, q)]).map (·.1) ++ rest := by
        obtain ⟨t, ht⟩ := hpx
        refine ⟨t.map (·.1), ?_⟩
        have := congrArg (List.map (·.1)) ht
        rw [List.map_append] at this
        rw [this]
        exact (withLast_map _).symm
      have H1 := Lib.hid hstep; have H2 := Lib.hid hall
      clear hinv hpx hstep hall hseq
      have HL1 := Lib.hid hL1; have HL2 := Lib.hid hL2; have HL3 := Lib.hid hL3; have HL4 := Lib.hid hL4
      have c1 := cell_of_one hL1; have f1 := free_of_one hL1
      have c2 := cell_of_one hL2; have f2 := free_of_one hL2
      have c3 := cell_of_one hL3; have f3 := free_of_one hL3
      have c4 := cell_of_one hL4; have f4 := free_of_one hL4
      have HB := Lib.hid hB; have HBl := Lib.hid hBl
      clear hL1 hL2 hL3 hL4 hA1 hA2 hA3 hA4 hA5
      -- where the round leaves the loop
      have leave : Hid (∀ b W2, takesL (splitB f.data.toList) (splitB n.data.toList) = b → Below w.heap.size W W2 → KeepsOthers W W2 → W2.heap[w.heap.size]? = W.heap[w.heap.size]? → W2.heap[w.heap.size + 1]? = W.heap[w.heap.size + 1]? →
          KeepsOthers W ((W2.setCell ⟨w.heap.size, 0, none⟩ (.bool b)).setCell ⟨w.heap.size + 1, 0, none⟩ (.int .i64 0)) ∧ (((W2.setCell ⟨w.heap.size, 0, none⟩ (.bool b)).setCell ⟨w.heap.size + 1, 0, none⟩ (.int .i64 0)).heap[w.heap.size]? = some (.cells #[.bool (takesL (splitB f.data.toList) (splitB n.data.toList))] 4 (0, 0)) ∧ ((W2.setCell ⟨w.heap.size, 0, none⟩ (.bool b)).setCell ⟨w.heap.size + 1, 0, none⟩ (.int .i64 0)).heap[w.heap.size + 1]? = some (.cells #[.int .i64 0] 29 (0, 0))) ∧ Below w.heap.size w ((W2.setCell ⟨w.heap.size, 0, none⟩ (.bool b)).setCell ⟨w.heap.size + 1, 0, none⟩ (.int .i64 0))) := Lib.hid (fun b W2 hb hW2 hk2 e1 e2 => by
        obtain ⟨g1, g2⟩ := two_set (u1 := .bool b) (u2 := .int .i64 0) (e1.trans HL3.out) (e2.trans HL4.out)
        rw [hb]
        exact ⟨(hk2.trans (KeepsOthers.setCell _ _ _)).trans (KeepsOthers.setCell _ _ _), ⟨g1, g2⟩, ((HB.out.trans hW2).setCell (p := ⟨w.heap.size, 0, none⟩) (Nat.le_refl _) _).setCell (p := ⟨w.heap.size + 1, 0, none⟩) (Nat.le_succ _) _⟩)
      clear hB hBl
      by_cases ha35 : a = [35]
      · subst ha35
        have hres : takesL (splitB f.data.toList) (splitB n.data.toList) = true := by obtain ⟨rest, hr⟩ := H2.out; rw [H1.out rest hr, takesL_hash]
        have R := Lib.hid (leave.out true W hres (Below.refl _ _) (KeepsOthers.refl _) rfl rfl)
        clear hres leave
        dsimp only
        gi_wp2
        exact ⟨R.out.1, ⟨rfl, R.out.2.1.1, R.out.2.1.2⟩, R.out.2.2⟩
      · have h35 : (a == [35]) = false := beq_eq_false_iff_ne.2 ha35
        rcases hcase with ⟨rfl, rfl⟩ | ⟨rfl, rfl⟩
        · have hres : takesL (splitB f.data.toList) (splitB n.data.toList) = false := by obtain ⟨rest, hr⟩ := H2.out; rw [H1.out rest hr, takesL_nil _ _ ha35]
          have R := Lib.hid (leave.out false W hres (Below.refl _ _) (KeepsOthers.refl _) rfl rfl)
          clear hres leave
          dsimp only
          gi_wp2
          all_goals first
            | exact ⟨R.out.1, ⟨rfl, R.out.2.1.1, R.out.2.1.2⟩, R.out.2.2⟩
        · obtain ⟨m, hm⟩ := (hL.below HB.out).ml
          have cC := Tryd.strings_Cut left ⟨#[47]⟩ m W (by omega) hm
          have e2 : ((⟨#[47]⟩ : ByteArray)).data.toList = [47] := rfl
          rw [e2, cut_first] at cC
          have hsf := splitB_first left.data.toList
          have hsh := first47_short left.data.toList
          obtain ⟨x, hx⟩ : ∃ x, (first47 left.data.toList).1 = x := ⟨_, rfl⟩
          obtain ⟨y, hy⟩ : ∃ y, (first47 left.data.toList).2.1 = y := ⟨_, rfl⟩
          obtain ⟨b, hb⟩ : ∃ b, (first47 left.data.toList).2.2 = b := ⟨_, rfl⟩
          rw [hx, hy, hb] at cC hsf hsh
          clear hx hy hb e2 hm
          -- what is left behind this round
          obtain ⟨ns', hns, hcase⟩ : ∃ ns', splitB left.data.toList = x :: ns' ∧ (b = false ∧ ns' = [] ∨ b = true ∧ ns' = splitB y) := by
            rcases hsf with ⟨h1, h2⟩ | ⟨h1, h2, _, h4⟩
            · exact ⟨_, h2, .inr ⟨h1, rfl⟩⟩
            · exact ⟨[], by rw [h4, h2], .inl ⟨h1, rfl⟩⟩
          have hy : (⟨y.toArray⟩ : ByteArray).size ≤ 65535 := by
            show y.toArray.size ≤ 65535
            rw [List.size_toArray]
            rw [Lib.size_eq] at hlf
            rcases hsf with ⟨h1, h2⟩ | ⟨h1, h2, h3, h4⟩
            · have := hsh.2 h1; omega
            · rw [h3]; simp
          have Hcase : Hid (Left ns' ⟨y.toArray⟩ b) := Lib.hid ⟨hy, hcase⟩
          rw [hns] at H1
          clear hsf hsh hcase hy hns hlf
          have q1 : ¬ w.heap.size = w3.heap.size := by omega
          have q2 : ¬ w.heap.size = w3.heap.size + 1 := by omega
          have q3 : ¬ w.heap.size + 1 = w3.heap.size := by omega
          have q4 : ¬ w.heap.size + 1 = w3.heap.size + 1 := by omega
          have hset : Hid (∀ k, Below w.heap.size W (((W.drewN k).setCell ⟨w3.heap.size, 0, none⟩ (.string ⟨y.toArray⟩)).setCell ⟨w3.heap.size + 1, 0, none⟩ (.bool b)) ∧ KeepsOthers W (((W.drewN k).setCell ⟨w3.heap.size, 0, none⟩ (.string ⟨y.toArray⟩)).setCell ⟨w3.heap.size + 1, 0, none⟩ (.bool b)) ∧
              (((W.drewN k).setCell ⟨w3.heap.size, 0, none⟩ (.string ⟨y.toArray⟩)).setCell ⟨w3.heap.size + 1, 0, none⟩ (.bool b)).heap[w3.heap.size]? = some (.cells #[.string ⟨y.toArray⟩] 9 (0, 0)) ∧ (((W.drewN k).setCell ⟨w3.heap.size, 0, none⟩ (.string ⟨y.toArray⟩)).setCell ⟨w3.heap.size + 1, 0, none⟩ (.bool b)).heap[w3.heap.size + 1]? = some (.cells #[.bool b] 4 (0, 0)) ∧
              ∀ j, j ≠ w3.heap.size → j ≠ w3.heap.size + 1 → (((W.drewN k).setCell ⟨w3.heap.size, 0, none⟩ (.string ⟨y.toArray⟩)).setCell ⟨w3.heap.size + 1, 0, none⟩ (.bool b)).heap[j]? = W.heap[j]?) := Lib.hid (fun k => by
            have h1 : (W.drewN k).heap[w3.heap.size]? = some (.cells #[.string left] 9 (0, 0)) := HL1.out
            have h2 : (W.drewN k).heap[w3.heap.size + 1]? = some (.cells #[.bool true] 4 (0, 0)) := HL2.out
            obtain ⟨g1, g2⟩ := two_set (u1 := .string ⟨y.toArray⟩) (u2 := .bool b) h1 h2
            refine ⟨((belowd W k).setCell (p := ⟨w3.heap.size, 0, none⟩) (by simp; omega) _).setCell (p := ⟨w3.heap.size + 1, 0, none⟩) (by simp; omega) _, ((keepsOthers_below (belowd W k)).trans (KeepsOthers.setCell _ _ _)).trans (KeepsOthers.setCell _ _ _), g1, g2, fun j j1 j2 => ?_⟩
            exact (Below.heap_setCell _ _ _ _ j2).trans (Below.heap_setCell _ _ _ _ j1))
          have hneC : ¬ w3.heap.size = w3.heap.size + 1 := by omega
          by_cases hgo : a = [43] ∨ a = x
          · have hinv : Hid (Inv f.data.toList n.data.toList (pre ++ [(a, q)]) ns') := Lib.hid (fun rest hr => by rw [H1.out rest hr, takesL_go _ _ _ _ ha35 hgo])
            have goOn : Hid (∀ k, KeepsOthers W (((W.drewN k).setCell ⟨w3.heap.size, 0, none⟩ (.string ⟨y.toArray⟩)).setCell ⟨w3.heap.size + 1, 0, none⟩ (.bool b)) ∧ KeepBox w.heap.size (w3.heap.size + 1 + 1) W (((W.drewN k).setCell ⟨w3.heap.size, 0, none⟩ (.string ⟨y.toArray⟩)).setCell ⟨w3.heap.size + 1, 0, none⟩ (.bool b)) ∧
                ∃ (ns : List (List UInt8)) (left : ByteArray) (more : Bool), (Inv f.data.toList n.data.toList (pre ++ [(a, q)]) ns ∧ Left ns left more) ∧ ((((W.drewN k).setCell ⟨w3.heap.size, 0, none⟩ (.string ⟨y.toArray⟩)).setCell ⟨w3.heap.size + 1, 0, none⟩ (.bool b)).heap[w3.heap.size]? = some (.cells #[.string left] 9 (0, 0)) ∧ (((W.drewN k).setCell ⟨w3.heap.size, 0, none⟩ (.string ⟨y.toArray⟩)).setCell ⟨w3.heap.size + 1, 0, none⟩ (.bool b)).heap[w3.heap.size + 1]? = some (.cells #[.bool more] 4 (0, 0)) ∧ (((W.drewN k).setCell ⟨w3.heap.size, 0, none⟩ (.string ⟨y.toArray⟩)).setCell ⟨w3.heap.size + 1, 0, none⟩ (.bool b)).heap[w.heap.size]? = some (.cells #[.bool false] 4 (0, 0)) ∧ (((W.drewN k).setCell ⟨w3.heap.size, 0, none⟩ (.string ⟨y.toArray⟩)).setCell ⟨w3.heap.size + 1, 0, none⟩ (.bool b)).heap[w.heap.size + 1]? = some (.cells #[.int .i64 0] 29 (0, 0))) ∧ Below w.heap.size w (((W.drewN k).setCell ⟨w3.heap.size, 0, none⟩ (.string ⟨y.toArray⟩)).setCell ⟨w3.heap.size + 1, 0, none⟩ (.bool b)) ∧ w3.heap.size + 1 + 1 < (((W.drewN k).setCell ⟨w3.heap.size, 0, none⟩ (.string ⟨y.toArray⟩)).setCell ⟨w3.heap.size + 1, 0, none⟩ (.bool b)).heap.size) := Lib.hid (fun k => by
              obtain ⟨s1, s2, s3, s4, s5⟩ := hset.out k
              exact ⟨s2, ⟨s1, s5 _ (by omega) (by omega)⟩, ns', _, b, ⟨hinv.out, Hcase.out⟩, ⟨s3, s4, (s5 _ q1 q2).trans HL3.out, (s5 _ q3 q4).trans HL4.out⟩, HB.out.trans s1, Nat.lt_of_lt_of_le HBl.out s1.size⟩)
            clear hinv hset leave H1 H2 Hcase
            dsimp only
            by_cases h43 : a = [43]
            · subst h43
              gi_wp2_with (refine ⟨trivial, ?_⟩; (with_reducible refine (CallsIn.inRound l (callsIn_wide.2 cC)).mono ?_); rintro e W3 ⟨rfl, k, rfl⟩)
              exact goOn.out k
            · obtain rfl : a = x := hgo.resolve_left h43
              have n1 : (a == [43]) = false := beq_eq_false_iff_ne.2 h43
              gi_wp2_with (refine ⟨trivial, ?_⟩; (with_reducible refine (CallsIn.inRound l (callsIn_wide.2 cC)).mono ?_); rintro e W3 ⟨rfl, k, rfl⟩)
              exact goOn.out k
          · have hres : takesL (splitB f.data.toList) (splitB n.data.toList) = false := by obtain ⟨rest, hr⟩ := H2.out; rw [H1.out rest hr, takesL_no _ _ _ _ ha35 hgo]
            have n1 : (a == [43]) = false := beq_eq_false_iff_ne.2 (fun e => hgo (.inl e))
            have n2 : (a == x) = false := beq_eq_false_iff_ne.2 (fun e => hgo (.inr e))
            have R : Hid (∀ k, _) := Lib.hid (fun k => leave.out false _ hres (hset.out k).1 (hset.out k).2.1 ((hset.out k).2.2.2.2 _ q1 q2) ((hset.out k).2.2.2.2 _ q3 q4))
            clear hset leave H1 H2 Hcase hres
            dsimp only
            gi_wp2_with (refine ⟨trivial, ?_⟩; (with_reducible refine (CallsIn.inRound l (callsIn_wide.2 cC)).mono ?_); rintro e W3 ⟨rfl, k, rfl⟩)
            exact ⟨(R.out k).1, ⟨rfl, (R.out k).2.1.1, (R.out k).2.1.2⟩, (R.out k).2.2⟩
    · -- all levels have come
      rintro D W hD ⟨ns, left, more, ⟨hinv, _, hcase⟩, ⟨hL1, hL2, hL3, hL4⟩, hB, hBl⟩ hK
      have hres : takesL (splitB f.data.toList) (splitB n.data.toList) = !more := by
        rw [hinv [] (by rw [List.append_nil]; exact (withLast_map _).symm)]
        rcases hcase with ⟨rfl, rfl⟩ | ⟨rfl, rfl⟩
        · rfl
        · show (splitB left.data.toList).isEmpty = false
          cases h : splitB left.data.toList with
          | nil => exact absurd h (splitB_ne _)
          | cons _ _ => rfl
      have c2 := cell_of_one hL2
      have c3 := cell_of_one hL3; have f3 := free_of_one hL3
      have c4 := cell_of_one hL4; have f4 := free_of_one hL4
      have HL3 := Lib.hid hL3; have HL4 := Lib.hid hL4
      have Hres := Lib.hid hres
      rw [hz] at hD
      clear hL1 hL2 hL3 hL4 hA1 hA2 hA3 hA4 hA5 hseq hcase hinv hres
      have g := two_set (u1 := .bool (!more)) (u2 := .int .i64 0) HL3.out HL4.out
      have G1 := Lib.hid g.1; have G2 := Lib.hid g.2
      clear g
      have hK' := (KeepsOthers.setCell (W.setCell ⟨w.heap.size, 0, none⟩ (.bool (!more))) ⟨w.heap.size + 1, 0, none⟩ (.int .i64 0)).same D _ ((KeepsOthers.setCell W ⟨w.heap.size, 0, none⟩ (.bool (!more))).same D _ hK rfl) rfl
      have HK' := Lib.hid hK'
      clear hK' hK
      have hB2 := (hB.setCell (p := ⟨w.heap.size, 0, none⟩) (Nat.le_refl _) (.bool (!more))).setCell (p := ⟨w.heap.size + 1, 0, none⟩) (Nat.le_succ _) (.int .i64 0)
      cases more
      all_goals
        gi_wp2
        refine ⟨by simp, .inl ⟨_, _, rfl, run_takeDeferred HK'.out, ?_⟩⟩
        have hc5 := cell_kept (cell_of_one G1.out) (grownBy_putObj' _ D (.deferred none)) (fun r e => by cases e; exact ⟨_, HK'.out, rfl⟩)
        have hc6 := cell_kept (cell_of_one G2.out) (grownBy_putObj' _ D (.deferred none)) (fun r e => by cases e; exact ⟨_, HK'.out, rfl⟩)
        simp only [Bool.not_true, Bool.not_false] at hc5 hc6
        refine ⟨.tuple #[.bool _, .int .i64 0], ?_, by rw [Hres.out], hB2.trans (belowK_b (w := w) (Nat.le_refl _) _ D _ _ (by omega) HK'.out rfl rfl)⟩
        simp [results, Tryd.f28, go_sem, hc5, hc6]
    · -- a round has left
      rintro D c pre W hD hpre ⟨⟨rfl, hR1, hR2⟩, hB⟩ hK
      rw [hz] at hD
      have HK' := Lib.hid hK
      have hc5 := cell_kept (cell_of_one hR1) (grownBy_putObj' _ D (.deferred none)) (fun r e => by cases e; exact ⟨_, hK, rfl⟩)
      have hc6 := cell_kept (cell_of_one hR2) (grownBy_putObj' _ D (.deferred none)) (fun r e => by cases e; exact ⟨_, hK, rfl⟩)
      clear hK hA1 hA2 hA3 hA4 hA5 hseq hR1 hR2
      gi_wp2
      refine ⟨by simp, .inl ⟨_, _, rfl, run_takeDeferred HK'.out, ?_⟩⟩
      refine ⟨.tuple #[.bool _, .int .i64 0], ?_, rfl, hB.trans (belowK_b (w := w) (Nat.le_refl _) W D _ _ (by omega) HK'.out rfl rfl)⟩
      simp [results, Tryd.f28, go_sem, hc5, hc6]
def matchB (f n : ByteArray) : Bool := isFilter f && (isName n && takesF f.data.toList n.data.toList)
def matchE (f n : ByteArray) : Int := if isFilter f then (if isName n then 0 else 120) else 121
set_option maxRecDepth 100000 in
set_option maxHeartbeats 8000000 in
theorem matches_calls (f n : ByteArray) (w : World) (hL : Laid w) :
    Calls Tryd.prog 28 #[.string f, .string n] w fun e w' => e = .returned (.tuple #[.bool (matchB f n), .int .i64 (matchE f n)]) ∧ Below w.heap.size w w' := by
  have cF := filter_calls' f _ (hL.below (two_new w (.cells #[.bool false] 4) (.cells #[.int .i64 0] 29)))
  have cN := fun W (hb : Below w.heap.size w W) => name_calls' n W (hL.below hb)
  have hcells : ∀ w1, Below ((w.alloc (.cells #[.bool false] 4)).alloc (.cells #[.int .i64 0] 29)).heap.size ((w.alloc (.cells #[.bool false] 4)).alloc (.cells #[.int .i64 0] 29)) w1 → w1.heap[w.heap.size]? = some (.cells #[.bool false] 4 (0, 0)) ∧ w1.heap[w.heap.size + 1]? = some (.cells #[.int .i64 0] 29 (0, 0)) := fun w1 hb1 =>
    ⟨(hb1.block _ (by simp; omega)).trans ((Below.heap_alloc _ _ _ (by simp)).trans (alloc_new w _)), (hb1.block _ (by simp)).trans (by have := alloc_new (w.alloc (.cells #[.bool false] 4)) (.cells #[.int .i64 0] 29); simpa using this)⟩
  have HC := Lib.hid hcells
  clear hcells
  unfold matchB matchE
  cases hF : isFilter f
  · rw [hF] at cF
    simp only [fCode, Bool.false_eq_true, if_false] at cF
    go_enter Tryd.func28, Tryd.ntmps28
    go_wp2_with (go_at_call 23; refine cF.mono ?_; rintro e w1 ⟨rfl, hb1⟩; have c3 := cell_of_one (HC.out w1 hb1).1; have f3 := free_of_one (HC.out w1 hb1).1; have c4 := cell_of_one (HC.out w1 hb1).2; have f4 := free_of_one (HC.out w1 hb1).2)
    obtain ⟨g1, g2⟩ := two_set (u1 := .bool false) (u2 := .int .i64 121) (HC.out w1 hb1).1 (HC.out w1 hb1).2
    have hc5 := cell_of_one g1; have hc6 := cell_of_one g2
    refine bodyPost_ret (v := .tuple #[.bool false, .int .i64 121]) (by simp [results, Tryd.f28, go_sem, hc5, hc6]) rfl ⟨rfl, ?_⟩
    exact (((two_new w _ _).trans (hb1.mono (by simp; omega))).setCell (p := ⟨w.heap.size, 0, none⟩) (Nat.le_refl _) _).setCell (p := ⟨w.heap.size + 1, 0, none⟩) (Nat.le_succ _) _
  · cases hN : isName n
    · rw [hF] at cF
      rw [hN] at cN
      simp only [fCode, nCode, Bool.false_eq_true, if_false, if_true] at cF cN
      go_enter Tryd.func28, Tryd.ntmps28
      go_wp2_with (first | (go_at_call 23; refine cF.mono ?_; rintro e w1 ⟨rfl, hb1⟩; have hB1 := (two_new w (.cells #[.bool false] 4) (.cells #[.int .i64 0] 29)).trans (hb1.mono (by simp; omega))) | (go_at_call 27; refine (cN _ hB1).mono ?_; rintro e w2 ⟨rfl, hb2⟩; have hw2 := hb1.trans (hb2.mono hb1.size); have c3 := cell_of_one (HC.out w2 hw2).1; have f3 := free_of_one (HC.out w2 hw2).1; have c4 := cell_of_one (HC.out w2 hw2).2; have f4 := free_of_one (HC.out w2 hw2).2))
      obtain ⟨g1, g2⟩ := two_set (u1 := .bool false) (u2 := .int .i64 120) (HC.out w2 hw2).1 (HC.out w2 hw2).2
      have hc5 := cell_of_one g1; have hc6 := cell_of_one g2
      refine bodyPost_ret (v := .tuple #[.bool false, .int .i64 120]) (by simp [results, Tryd.f28, go_sem, hc5, hc6]) rfl ⟨rfl, ?_⟩
      exact (((two_new w _ _).trans (hw2.mono (by simp; omega))).setCell (p := ⟨w.heap.size, 0, none⟩) (Nat.le_refl _) _).setCell (p := ⟨w.heap.size + 1, 0, none⟩) (Nat.le_succ _) _
    · cases hD : dollar f.data.toList n.data.toList
      · refine (matches_loop f n w hL hF hN hD).mono ?_
        rintro e w' ⟨rfl, hb⟩
        exact ⟨by simp [takesF, hD], hb⟩
      · have hp := Tryd.strings_HasPrefix n ⟨#[36]⟩
        have hne : 1 ≤ f.size := by
          unfold isFilter at hF
          simp only [Bool.and_eq_true, Bool.not_eq_true'] at hF
          rw [Lib.size_eq]
          cases h : f.data.toList with
          | nil => rw [h] at hF; exact absurd hF.1 (by simp)
          | cons _ _ => simp
        have e1 : (f.extract 0 1).data.toList = f.data.toList.take 1 := by
          rw [ByteArray.data_extract, Array.toList_extract]; simp
        have hsf : f.size ≤ 65535 := isU_size f (by unfold isFilter at hF; simp only [Bool.and_eq_true] at hF; exact hF.2.1)
        have cW := fun W => wild_calls (f.extract 0 1) W (by rw [ByteArray.size_extract]; omega)
        rw [e1] at cW
        have hhead : Lib.hasPrefix n.data.toList [36] = (n.data.toList.head? == some 36) := by
          cases n.data.toList with
          | nil => rfl
          | cons b l =>
            rw [Bool.eq_iff_iff]
            simp [Lib.hasPrefix, List.isPrefixOf]
            exact ⟨fun h => h.symm, fun h => h.symm⟩
        have hD2 := hD
        unfold dollar at hD2
        rw [← hhead, Bool.and_eq_true] at hD2
        have e2 : ((⟨#[36]⟩ : ByteArray)).data.toList = [36] := rfl
        rw [e2, hD2.1] at hp
        rw [hD2.2] at cW
        rw [hF] at cF
        rw [hN] at cN
        simp only [fCode, nCode, if_true] at cF cN
        have hne' : (1 : Int) ≤ (f.size : Int) := by omega
        have ht : takesF f.data.toList n.data.toList = false := by simp [takesF, hD]
        rw [ht]
        clear hD hD2 hhead e1 hsf hF hN ht
        go_enter Tryd.func28, Tryd.ntmps28
        go_wp2_with (first | (go_at_call 23; refine cF.mono ?_; rintro e w1 ⟨rfl, hb1⟩; have hB1 := (two_new w (.cells #[.bool false] 4) (.cells #[.int .i64 0] 29)).trans (hb1.mono (by simp; omega))) | (go_at_call 27; refine (cN _ hB1).mono ?_; rintro e w2 ⟨rfl, hb2⟩; have hw2 := hb1.trans (hb2.mono hb1.size)) | (go_at_call 39; refine (hp _).mono ?_; rintro e w3 ⟨rfl, hw3⟩; rw [hw3]) | (go_at_call 35; refine (cW _).mono ?_; rintro e w4 ⟨rfl, hb4⟩; have hw4 := hw2.trans (hb4.mono hw2.size); have c3 := cell_of_one (HC.out w4 hw4).1; have f3 := free_of_one (HC.out w4 hw4).1; have c4 := cell_of_one (HC.out w4 hw4).2; have f4 := free_of_one (HC.out w4 hw4).2))
        obtain ⟨g1, g2⟩ := two_set (u1 := .bool false) (u2 := .int .i64 0) (HC.out w4 hw4).1 (HC.out w4 hw4).2
        have hc5 := cell_of_one g1; have hc6 := cell_of_one g2
        refine bodyPost_ret (v := .tuple #[.bool false, .int .i64 0]) (by simp [results, Tryd.f28, go_sem, hc5, hc6]) rfl ⟨rfl, ?_⟩
        exact (((two_new w _ _).trans (hw4.mono (by simp; omega))).setCell (p := ⟨w.heap.size, 0, none⟩) (Nat.le_refl _) _).setCell (p := ⟨w.heap.size + 1, 0, none⟩) (Nat.le_succ _) _
end Go.Proofs.YtjibcekillcgjaaDoor.Top
