/- What the proof of SubsFinds leans on: SbR. -/
import Derived.Test.YtjibcekillcgjaaDoorSSubsFindsSbN
import Derived.Test.YtjibcekillcgjaaDoorSSubsFindsQx6
set_option linter.unusedVariables false
set_option linter.unusedSimpArgs false
namespace Go.Proofs.YtjibcekillcgjaaDoor.Sb
open Go Go.RowKit Go.ChangeMaps Go.MapKept Go.Proofs.YtjibcekillcgjaaDoorW.PrintWords Go.Proofs.YtjibcekillcgjaaDoor.Q Go.Proofs.YtjibcekillcgjaaDoor.Mp Go.Proofs.YtjibcekillcgjaaDoor.Top Go.Proofs.YtjibcekillcgjaaDoor.Fm
def tkS (name : ByteArray) (f : ByteArray) : Bool := takesF f.data.toList name.data.toList
theorem takes_calls (flt n : ByteArray) (hf : isFilter flt = true) (hn : isName n = true) (w : World) :
    Calls Tryd.prog 19 #[.string flt, .string n] w fun e w' => e = .returned (.bool (tkS n flt)) ∧ Below w.heap.size w w' := by
  obtain ⟨k, hk⟩ := (takes_ev flt n hf hn).rounds
  exact basculeref12_Takes.calls k flt n _ w hk
theorem tk_eq {name : ByteArray} {p : Ent} (hf : isFilter p.1.2 = true) (hn : isName name = true) : tkE name p = tkS name p.1.2 := by
  unfold tkE matchB tkS
  rw [hf, hn]
  rfl
def stepB (name : ByteArray) (b : Int) (s : SubT) : Int := if tkS name s.f0 = true then (if b < s.f1 then s.f1 else b) else b
def bestQ (name : ByteArray) (l : List SubT) : Int := l.foldl (stepB name) (-1)
def stepF (c : ByteArray) (b : Int) (w : WantT) : Int := if w.f0 = c then w.f1 else b
def foundQ (c : ByteArray) (l : List WantT) : Int := l.foldl (stepF c) (-1)
theorem best_fold (name : ByteArray) : ∀ (l : List SubT) (b : Int), b ≤ l.foldl (stepB name) b ∧ (∀ s ∈ l, tkS name s.f0 = true → s.f1 ≤ l.foldl (stepB name) b) ∧ (l.foldl (stepB name) b = b ∨ ∃ s ∈ l, tkS name s.f0 = true ∧ s.f1 = l.foldl (stepB name) b)
  | [], b => ⟨Int.le_refl _, fun s hs => by simp at hs, .inl rfl⟩
  | x :: l, b => by
    obtain ⟨h1, h2, h3⟩ := best_fold name l (stepB name b x)
    rw [List.foldl_cons]
    have hb : b ≤ stepB name b x := by unfold stepB; split <;> (try split) <;> omega
    refine ⟨Int.le_trans hb h1, fun s hs ht => ?_, ?_⟩
    · rcases List.mem_cons.1 hs with rfl | hs
      · have : s.f1 ≤ stepB name b s := by unfold stepB; rw [if_pos ht]; split <;> omega
        exact Int.le_trans this h1
      · exact h2 s hs ht
    · rcases h3 with h3 | ⟨s, hs, ht, he⟩
      · rw [h3]
        unfold stepB
        split
        · rename_i ht
          split
          · exact .inr ⟨x, List.mem_cons_self, ht, rfl⟩
          · exact .inl rfl
        · exact .inl rfl
      · exact .inr ⟨s, List.mem_cons_of_mem _ hs, ht, he⟩
theorem found_fold (c : ByteArray) : ∀ (l : List WantT) (b : Int), (l.foldl (stepF c) b = b ∧ ∀ w ∈ l, w.f0 ≠ c) ∨ ∃ w ∈ l, w.f0 = c ∧ l.foldl (stepF c) b = w.f1
  | [], b => .inl ⟨rfl, fun w hw => by simp at hw⟩
  | x :: l, b => by
    rw [List.foldl_cons]
    rcases found_fold c l (stepF c b x) with ⟨h1, h2⟩ | ⟨w, hw, hc, h⟩
    · by_cases hx : x.f0 = c
      · refine .inr ⟨x, List.mem_cons_self, hx, ?_⟩
        rw [h1]
        unfold stepF
        rw [if_pos hx]
      · refine .inl ⟨?_, fun w hw => ?_⟩
        · rw [h1]
          unfold stepF
          rw [if_neg hx]
        · rcases List.mem_cons.1 hw with rfl | hw
          · exact hx
          · exact h2 w hw
    · exact .inr ⟨w, List.mem_cons_of_mem _ hw, hc, h⟩
theorem best_found {es : List Ent} {n : Int} {i : Nat} {name : ByteArray} {ws : List WantT} (hO : Okay es n i) (hn : isName name = true) (h : FindIs es name ws) (c : ByteArray) : bestQ name (ofF es c) = foundQ c ws := by
  obtain ⟨h1, h2, h3⟩ := best_fold name (ofF es c) (-1)
  have hin : ∀ s, s ∈ ofF es c → ∃ p ∈ es, p.1.1 = c ∧ p.1.2 = s.f0 ∧ p.2.1 = s.f1 := fun s hs => by
    unfold ofF at hs
    obtain ⟨p, hp, rfl⟩ := List.mem_map.1 hs
    exact ⟨p, (List.mem_filter.1 hp).1, of_decide_eq_true (List.mem_filter.1 hp).2, rfl, rfl⟩
  have hof : ∀ p ∈ es, p.1.1 = c → (⟨p.1.2, p.2.1⟩ : SubT) ∈ ofF es c := fun p hp hc => by
    unfold ofF
    exact List.mem_map.2 ⟨p, List.mem_filter.2 ⟨hp, by unfold ownB; exact decide_eq_true hc⟩, rfl⟩
  unfold bestQ foundQ
  rcases found_fold c ws (-1) with ⟨f1, f2⟩ | ⟨w, hw, hc, f1⟩
  · rw [f1]
    rcases h3 with h3 | ⟨s, hs, ht, he⟩
    · exact h3
    · exfalso
      obtain ⟨p, hp, hpc, hpf, hpq⟩ := hin s hs
      have htp : tkE name p = true := by rw [tk_eq (hO.flt p hp) hn, hpf]; exact ht
      have hb : BestIs es name c (some s.f1) := by
        refine ⟨⟨p, hp, htp, hpc, hpq⟩, fun p2 hp2 ht2 hc2 => ?_⟩
        rw [he]
        exact h2 _ (hof p2 hp2 hc2) (by rw [← tk_eq (hO.flt p2 hp2) hn]; exact ht2)
      exact f2 ⟨c, s.f1⟩ ((h.2 ⟨c, s.f1⟩).2 hb) rfl
  · rw [f1]
    have hb := (h.2 w).1 hw
    rw [hc] at hb
    obtain ⟨⟨p, hp, ht, hpc, hpq⟩, hmax⟩ := hb
    have hle := h2 _ (hof p hp hpc) (by rw [← tk_eq (hO.flt p hp) hn]; exact ht)
    have hle' : w.f1 ≤ (ofF es c).foldl (stepB name) (-1) := by rw [← hpq]; exact hle
    rcases h3 with h3 | ⟨s, hs, hts, he⟩
    · have := hO.q0 p hp
      omega
    · obtain ⟨p2, hp2, hpc2, hpf2, hpq2⟩ := hin s hs
      have := hmax p2 hp2 (by rw [tk_eq (hO.flt p2 hp2) hn, hpf2]; exact hts) hpc2
      omega
theorem bestQ_snoc (name : ByteArray) (l : List SubT) (s : SubT) : bestQ name (l ++ [s]) = stepB name (bestQ name l) s := by
  unfold bestQ
  rw [List.foldl_append]
  rfl
theorem foundQ_snoc (c : ByteArray) (l : List WantT) (w : WantT) : foundQ c (l ++ [w]) = stepF c (foundQ c l) w := by
  unfold foundQ
  rw [List.foldl_append]
  rfl
theorem Okay.gone {es : List Ent} {n : Int} {i : Nat} (h : Okay es n i) (c : ByteArray) : Okay (goneF es c) n i := h.filter _
theorem of_flt {es : List Ent} {n : Int} {i : Nat} (h : Okay es n i) (c : ByteArray) : ∀ s ∈ ofF es c, isFilter s.f0 = true := fun s hs => by
  unfold ofF at hs
  obtain ⟨p, hp, rfl⟩ := List.mem_map.1 hs
  exact h.flt p (List.mem_filter.1 hp).1
theorem rise_at {ws : List WantT} (h : Srt wcl ws) {j : Nat} (hj : j + 1 < ws.length) : ltS (rd_T48 ws (j : Int)).f0 (rd_T48 ws ((j + 1 : Nat) : Int)).f0 = true := by
  unfold rd_T48
  rw [Int.toNat_natCast, Int.toNat_natCast, List.getD_eq_getElem?_getD, List.getD_eq_getElem?_getD, List.getElem?_eq_getElem hj, List.getElem?_eq_getElem (by omega)]
  exact List.pairwise_iff_getElem.1 h j (j + 1) (by omega) hj (by omega)
end Go.Proofs.YtjibcekillcgjaaDoor.Sb
