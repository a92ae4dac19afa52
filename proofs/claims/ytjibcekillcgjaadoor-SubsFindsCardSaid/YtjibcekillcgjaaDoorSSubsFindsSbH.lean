/- What the proof of SubsFinds leans on: SbH. -/
import Derived.Test.YtjibcekillcgjaaDoorSSubsFindsSbG
import Derived.Laws.Cover1
set_option linter.unusedVariables false
set_option linter.unusedSimpArgs false
namespace Go.Proofs.YtjibcekillcgjaaDoor.Sb
open Go Go.RowKit Go.ChangeMaps Go.MapKept Go.Proofs.YtjibcekillcgjaaDoorW.PrintWords Go.Proofs.YtjibcekillcgjaaDoor.Q Go.Proofs.YtjibcekillcgjaaDoor.Mp Go.Proofs.YtjibcekillcgjaaDoor.Top Go.Proofs.YtjibcekillcgjaaDoor.Fm
open Go.Sort (grow SWO)
abbrev WantT := S48
def wcl (w : WantT) : ByteArray := w.f0
def tkE (name : ByteArray) (p : Ent) : Bool := matchB p.1.2 name
def BestIs (D : List Ent) (name c : ByteArray) : Option Int → Prop
  | none => ∀ p ∈ D, tkE name p = true → p.1.1 ≠ c
  | some m => (∃ p ∈ D, tkE name p = true ∧ p.1.1 = c ∧ p.2.1 = m) ∧ ∀ p ∈ D, tkE name p = true → p.1.1 = c → p.2.1 ≤ m
def FindIs (es : List Ent) (name : ByteArray) (ws : List WantT) : Prop := Srt wcl ws ∧ ∀ w : WantT, w ∈ ws ↔ BestIs es name w.f0 (some w.f1)
theorem BestIs.mem {D D' : List Ent} {name c : ByteArray} {o : Option Int} (h : BestIs D name c o) (hm : ∀ k q, (∃ pl, (k, (q, pl)) ∈ D) ↔ ∃ pl, (k, (q, pl)) ∈ D') : BestIs D' name c o := by
  have hb : ∀ p ∈ D', ∃ p' ∈ D, p'.1 = p.1 ∧ p'.2.1 = p.2.1 := fun p hp => by
    obtain ⟨pl, h1⟩ := (hm p.1 p.2.1).2 ⟨p.2.2, hp⟩
    exact ⟨_, h1, rfl, rfl⟩
  have hf : ∀ p ∈ D, ∃ p' ∈ D', p'.1 = p.1 ∧ p'.2.1 = p.2.1 := fun p hp => by
    obtain ⟨pl, h1⟩ := (hm p.1 p.2.1).1 ⟨p.2.2, hp⟩
    exact ⟨_, h1, rfl, rfl⟩
  cases o with
  | none =>
    intro p hp ht
    obtain ⟨p', hp', e1, e2⟩ := hb p hp
    rw [← e1]
    exact h p' hp' (by unfold tkE at *; rw [e1]; exact ht)
  | some m =>
    obtain ⟨⟨p, hp, ht, hc, hq⟩, h2⟩ := h
    refine ⟨?_, fun p hp ht hc => ?_⟩
    · obtain ⟨p', hp', e1, e2⟩ := hf p hp
      exact ⟨p', hp', by unfold tkE at *; rw [e1]; exact ht, by rw [e1]; exact hc, by rw [e2]; exact hq⟩
    · obtain ⟨p', hp', e1, e2⟩ := hb p hp
      rw [← e2]
      exact h2 p' hp' (by unfold tkE at *; rw [e1]; exact ht) (by rw [e1]; exact hc)
theorem BestIs.one {D : List Ent} {name c : ByteArray} {m m' : Int} (h : BestIs D name c (some m)) (h' : BestIs D name c (some m')) : m = m' := by
  obtain ⟨⟨p, hp, ht, hc, hq⟩, h2⟩ := h
  obtain ⟨⟨p', hp', ht', hc', hq'⟩, h2'⟩ := h'
  have := h2 p' hp' ht' hc'
  have := h2' p hp ht hc
  omega
theorem BestIs.perm {D D' : List Ent} {name c : ByteArray} {o : Option Int} (h : BestIs D name c o) (hp : D.Perm D') : BestIs D' name c o :=
  h.mem (fun k q => ⟨fun ⟨pl, h⟩ => ⟨pl, hp.mem_iff.1 h⟩, fun ⟨pl, h⟩ => ⟨pl, hp.mem_iff.2 h⟩⟩)
theorem want_nodup {ws : List WantT} (h : Srt wcl ws) : ws.Nodup := (h.keys).nodup
theorem FindIs.one {es : List Ent} {name : ByteArray} {ws ws' : List WantT} (h : FindIs es name ws) (h' : FindIs es name ws') : ws = ws' :=
  srt_eq h.1 h'.1 ((List.perm_ext_iff_of_nodup (want_nodup h.1) (want_nodup h'.1)).2 (fun w => (h.2 w).trans (h'.2 w).symm))
theorem best_no {D : List Ent} {name : ByteArray} {p : Ent} (ht : tkE name p = false) {c : ByteArray} {o : Option Int} (h : BestIs D name c o) : BestIs (D ++ [p]) name c o := by
  cases o with
  | none =>
    intro q hq hqt
    rcases List.mem_append.1 hq with hq | hq
    · exact h q hq hqt
    · rw [List.mem_singleton.1 hq, ht] at hqt
      cases hqt
  | some m =>
    obtain ⟨⟨q, hq, h1⟩, h2⟩ := h
    refine ⟨⟨q, List.mem_append_left _ hq, h1⟩, fun q hq hqt hqc => ?_⟩
    rcases List.mem_append.1 hq with hq | hq
    · exact h2 q hq hqt hqc
    · rw [List.mem_singleton.1 hq, ht] at hqt
      cases hqt
theorem best_yes {D : List Ent} {name : ByteArray} {p : Ent} (ht : tkE name p = true) (h0 : 0 ≤ p.2.1) {c : ByteArray} {B : List (ByteArray × Int)} (h : BestIs D name c (getL B c)) : BestIs (D ++ [p]) name c (getL (putL B p.1.1 (if (getL B p.1.1).getD 0 < p.2.1 then p.2.1 else (getL B p.1.1).getD 0)) c) := by
  rw [getL_put]
  by_cases hc : p.1.1 = c
  · rw [if_pos hc, hc]
    cases ho : getL B c with
    | none =>
      rw [ho] at h
      have e : (if (none : Option Int).getD 0 < p.2.1 then p.2.1 else (none : Option Int).getD 0) = p.2.1 := by
        show (if (0 : Int) < p.2.1 then p.2.1 else 0) = p.2.1
        split <;> omega
      rw [e]
      refine ⟨⟨p, by simp, ht, hc, rfl⟩, fun q hq hqt hqc => ?_⟩
      rcases List.mem_append.1 hq with hq | hq
      · exact absurd hqc (h q hq hqt)
      · rw [List.mem_singleton.1 hq]; omega
    | some m =>
      rw [ho] at h
      obtain ⟨⟨q, hq, hqt, hqc, hqm⟩, h2⟩ := h
      show BestIs (D ++ [p]) name c (some (if m < p.2.1 then p.2.1 else m))
      by_cases hm : m < p.2.1
      · rw [if_pos hm]
        refine ⟨⟨p, by simp, ht, hc, rfl⟩, fun q hq hqt hqc => ?_⟩
        rcases List.mem_append.1 hq with hq | hq
        · have := h2 q hq hqt hqc; omega
        · rw [List.mem_singleton.1 hq]; omega
      · rw [if_neg hm]
        refine ⟨⟨q, by simp [hq], hqt, hqc, hqm⟩, fun q hq hqt hqc => ?_⟩
        rcases List.mem_append.1 hq with hq | hq
        · exact h2 q hq hqt hqc
        · rw [List.mem_singleton.1 hq]; omega
  · rw [if_neg hc]
    cases ho : getL B c with
    | none =>
      rw [ho] at h
      intro q hq hqt
      rcases List.mem_append.1 hq with hq | hq
      · exact h q hq hqt
      · rw [List.mem_singleton.1 hq]; exact hc
    | some m =>
      rw [ho] at h
      obtain ⟨⟨q, hq, h1⟩, h2⟩ := h
      refine ⟨⟨q, by simp [hq], h1⟩, fun q hq hqt hqc => ?_⟩
      rcases List.mem_append.1 hq with hq | hq
      · exact h2 q hq hqt hqc
      · rw [List.mem_singleton.1 hq] at hqc; exact absurd hqc hc
theorem putL_len {α β : Type} [DecidableEq α] (l : List (α × β)) (a : α) (v : β) : (putL l a v).length ≤ l.length + 1 := by
  induction l with
  | nil => simp [putL]
  | cons p l ih =>
    unfold putL
    split
    · simp
    · simp; exact ih
def okS (s : ByteArray) : Prop := s.size ≤ maxLen
theorem strT : KT Tryd.prog 9 Value.string okS where
  K := Go.Maps.string_keyed Tryd.underlying9
  inj h := by injection h
  key h := ⟨_, Go.WideMaps.keyOf_string_mk Tryd.underlying9 h⟩
theorem zeroI (w : World) : (zeroValue 3).run Tryd.prog w = .ok (.int .i64 0) w := by kernel_rfl
def cmpS (a b : ByteArray) : Int := if ltS a b = true then -1 else if ltS b a = true then 1 else 0
theorem nan_calls (x : ByteArray) (w : World) : Calls Tryd.prog 42 #[.string x] w fun e w' => e = .returned (.bool false) ∧ w = w' := by
  go_enter Tryd.func42, Tryd.ntmps42
  go_wp2
  go_ret
  exact ⟨by simp, rfl⟩
set_option maxHeartbeats 1000000 in
theorem cmp_calls (x y : ByteArray) (w : World) : Calls Tryd.prog 31 #[.string x, .string y] w fun e w' => e = .returned (.int .i64 (cmpS x y)) ∧ w = w' := by
  unfold cmpS ltS
  cases h1 : Op.bytesLess x.toList y.toList
  · cases h2 : Op.bytesLess y.toList x.toList
    · obtain rfl : x = y := ltS_total h1 h2
      clear h2
      go_enter Tryd.func31, Tryd.ntmps31
      go_wp2_with (go_at_call 42; refine (nan_calls _ _).mono ?_; rintro e w' ⟨rfl, rfl⟩)
      go_ret
      exact ⟨rfl, rfl⟩
    · have he : (x.toList == y.toList) = false := beq_eq_false_iff_ne.2 (fun e => by
        rw [e] at h1 h2
        rw [h1] at h2
        cases h2)
      go_enter Tryd.func31, Tryd.ntmps31
      go_wp2_with (go_at_call 42; refine (nan_calls _ _).mono ?_; rintro e w' ⟨rfl, rfl⟩)
      go_ret
      exact ⟨rfl, rfl⟩
  · go_enter Tryd.func31, Tryd.ntmps31
    go_wp2_with (go_at_call 42; refine (nan_calls _ _).mono ?_; rintro e w' ⟨rfl, rfl⟩)
    go_ret
    exact ⟨rfl, rfl⟩
def encW (x : WantT) : List Value := [.string x.f0, .int .i64 x.f1]
def cfW (x y : WantT) : Int := cmpS x.f0 y.f0
def zW : WantT := ⟨⟨#[]⟩, 0⟩
instance : Inhabited WantT := ⟨zW⟩
theorem ltW (x y : WantT) : ltOf cfW x y = ltS x.f0 y.f0 := by
  unfold ltOf cfW cmpS
  cases h : ltS x.f0 y.f0
  · cases h2 : ltS y.f0 x.f0 <;> simp
  · simp
theorem ltS_ntrans {a b c : ByteArray} (h1 : ltS a b = false) (h2 : ltS b c = false) : ltS a c = false := by
  cases h : ltS a c
  · rfl
  · exfalso
    cases hb : ltS b a
    · have := ltS_total h1 hb
      rw [this, h2] at h
      cases h
    · have := ltS_trans hb h
      rw [h2] at this
      cases this
theorem swoW : SWO (ltOf cfW) where
  irrefl x := by rw [ltW]; exact ltS_irrefl _
  trans x y z h1 h2 := by rw [ltW] at *; exact ltS_trans h1 h2
  ntrans x y z h1 h2 := by rw [ltW] at *; exact ltS_ntrans h1 h2
set_option maxHeartbeats 1000000 in
theorem clos_find (x y : WantT) (W : World) : Calls Tryd.prog 30 #[.agg #[.string x.f0, .int .i64 x.f1], .agg #[.string y.f0, .int .i64 y.f1]] W fun e w' => e = .returned (.int .i64 (cfW x y)) ∧ ∃ q os', w' = grow (W.drewN q) os' := by
  have hcon := fun W' => cmp_calls x.f0 y.f0 W'
  unfold cfW
  generalize cmpS x.f0 y.f0 = r at hcon ⊢
  go_enter Tryd.func30, Tryd.ntmps30
  go_wp2_with (go_at_call 31; refine (hcon _).mono ?_; rintro e w' ⟨rfl, rfl⟩)
  go_ret
  exact ⟨rfl, 0, _, by rw [Go.Sort.alloc_eq_grow, Go.Sort.alloc_eq_grow, Go.Sort.grow_grow]; rfl⟩
theorem sortW_calls {base : Nat} {ok : Nat → Prop} {W : World} {v : Value} {xs : List WantT} (h : Kd.R k48 48 W base ok v xs) (hlen : xs.length < 4611686018427387904) (hk : KeyD wcl xs) :
    Calls Tryd.prog 29 #[v, .func (.func 30) #[] #[]] W fun e W' => e = .returned (.tuple #[]) ∧ ∃ ys, xs.Perm ys ∧ Srt wcl ys ∧ Kd.R k48 48 W' base ok v ys ∧ W.grownBy W' v.ownBlock := by
  have hc := Srt.sort_calls Tryd.sortW k48 encW (fun _ => rfl) (fun h => k48_openM h) (fun w b ok x => k48_mkM w b ok x) (fun w => by kernel_rfl) (fun w => by kernel_rfl) (fun x v hv => by simp [encW] at hv; rcases hv with rfl | rfl <;> rfl) cfW swoW 30 #[] (enters_of Tryd.func30 (by kernel_rfl) rfl) h hlen (fun blk size _ m os dk _ x y => clos_find x y _)
  refine hc.mono ?_
  rintro e W' ⟨rfl, ys, hpy, hs, hR, hgr⟩
  refine ⟨rfl, ys, hpy, ?_, hR, hgr⟩
  have hk2 : ys.Pairwise (fun x y => wcl x ≠ wcl y) := KeyD.perm hk hpy
  refine List.Pairwise.imp ?_ (hs.and hk2)
  rintro a b ⟨h1, h2⟩
  rw [ltW] at h1
  cases h3 : ltS (wcl a) (wcl b)
  · exact absurd (ltS_total h3 h1) h2
  · rfl
end Go.Proofs.YtjibcekillcgjaaDoor.Sb
