/- What the proof of RetainKeeps leans on: RetC. -/
import Derived.Test.YtdchcdagjnaicaaDoorSRetainKeepsRetB
import Derived.Test.YtdchcdagjnaicaaDoorSRetainKeepsSrtK
import Derived.Laws.Cover1
import Derived.Test.YtdchcdagjnaicaaDoorSRetainKeepsSrt
set_option linter.unusedVariables false
set_option linter.unusedSimpArgs false
namespace Go.Proofs.YtdchcdagjnaicaaDoor.Rt
open Go Go.RowKit Go.ChangeMaps Go.MapKept Go.Proofs.YtdchcdagjnaicaaDoorW.PrintWords Go.Proofs.YtdchcdagjnaicaaDoor.Q Go.Proofs.YtdchcdagjnaicaaDoor.Mp Go.Proofs.YtdchcdagjnaicaaDoor.Top
open Go.Sort (grow SWO)
def cmpS (a b : ByteArray) : Int := if ltS a b = true then -1 else if ltS b a = true then 1 else 0
theorem nan_calls (x : ByteArray) (w : World) : Calls Tryd.prog 40 #[.string x] w fun e w' => e = .returned (.bool false) ∧ w = w' := by
  go_enter Tryd.func40, Tryd.ntmps40
  go_wp2
  go_ret
  exact ⟨by simp, rfl⟩
set_option maxHeartbeats 1000000 in
theorem cmp_calls (x y : ByteArray) (w : World) : Calls Tryd.prog 29 #[.string x, .string y] w fun e w' => e = .returned (.int .i64 (cmpS x y)) ∧ w = w' := by
  unfold cmpS ltS
  cases h1 : Op.bytesLess x.toList y.toList
  · cases h2 : Op.bytesLess y.toList x.toList
    · obtain rfl : x = y := ltS_total h1 h2
      clear h2
      go_enter Tryd.func29, Tryd.ntmps29
      go_wp2_with (go_at_call 40; refine (nan_calls _ _).mono ?_; rintro e w' ⟨rfl, rfl⟩)
      go_ret
      exact ⟨rfl, rfl⟩
    · have he : (x.toList == y.toList) = false := beq_eq_false_iff_ne.2 (fun e => by
        rw [e] at h1 h2
        rw [h1] at h2
        cases h2)
      go_enter Tryd.func29, Tryd.ntmps29
      go_wp2_with (go_at_call 40; refine (nan_calls _ _).mono ?_; rintro e w' ⟨rfl, rfl⟩)
      go_ret
      exact ⟨rfl, rfl⟩
  · go_enter Tryd.func29, Tryd.ntmps29
    go_wp2_with (go_at_call 40; refine (nan_calls _ _).mono ?_; rintro e w' ⟨rfl, rfl⟩)
    go_ret
    exact ⟨rfl, rfl⟩
def encM (x : Msg) : List Value := [.string x.f0, .string x.f1, .int .i64 x.f2, .bool x.f3]
def cfM (x y : Msg) : Int := cmpS x.f0 y.f0
instance : Inhabited Msg := ⟨zM⟩
theorem ltM (x y : Msg) : ltOf cfM x y = ltS x.f0 y.f0 := by
  unfold ltOf cfM cmpS
  cases h : ltS x.f0 y.f0
  · cases h2 : ltS y.f0 x.f0 <;> simp
  · simp
theorem ltS_ntrans {a b c : ByteArray} (h1 : ltS a b = false) (h2 : ltS b c = false) : ltS a c = false := by
  cases h : ltS a c
  · rfl
  · exfalso
    cases hb : ltS b a
    · have := ltS_total h1 hb
      rw [this, h2] at h
      cases h
    · have := ltS_trans hb h
      rw [h2] at this
      cases this
theorem swoM : SWO (ltOf cfM) where
  irrefl x := by rw [ltM]; exact ltS_irrefl _
  trans x y z h1 h2 := by rw [ltM] at *; exact ltS_trans h1 h2
  ntrans x y z h1 h2 := by rw [ltM] at *; exact ltS_ntrans h1 h2
set_option maxHeartbeats 1000000 in
theorem clos_all (x y : Msg) (W : World) : Calls Tryd.prog 30 #[.agg #[.string x.f0, .string x.f1, .int .i64 x.f2, .bool x.f3], .agg #[.string y.f0, .string y.f1, .int .i64 y.f2, .bool y.f3]] W fun e w' => e = .returned (.int .i64 (cfM x y)) ∧ ∃ q os', w' = grow (W.drewN q) os' := by
  have hcon := fun W' => cmp_calls x.f0 y.f0 W'
  unfold cfM
  generalize cmpS x.f0 y.f0 = r at hcon ⊢
  go_enter Tryd.func30, Tryd.ntmps30
  go_wp2_with (go_at_call 29; refine (hcon _).mono ?_; rintro e w' ⟨rfl, rfl⟩)
  go_ret
  exact ⟨rfl, 0, _, by rw [Go.Sort.alloc_eq_grow, Go.Sort.alloc_eq_grow, Go.Sort.grow_grow]; rfl⟩
set_option maxHeartbeats 1000000 in
theorem clos_find (x y : Msg) (W : World) : Calls Tryd.prog 28 #[.agg #[.string x.f0, .string x.f1, .int .i64 x.f2, .bool x.f3], .agg #[.string y.f0, .string y.f1, .int .i64 y.f2, .bool y.f3]] W fun e w' => e = .returned (.int .i64 (cfM x y)) ∧ ∃ q os', w' = grow (W.drewN q) os' := by
  have hcon := fun W' => cmp_calls x.f0 y.f0 W'
  unfold cfM
  generalize cmpS x.f0 y.f0 = r at hcon ⊢
  go_enter Tryd.func28, Tryd.ntmps28
  go_wp2_with (go_at_call 29; refine (hcon _).mono ?_; rintro e w' ⟨rfl, rfl⟩)
  go_ret
  exact ⟨rfl, 0, _, by rw [Go.Sort.alloc_eq_grow, Go.Sort.alloc_eq_grow, Go.Sort.grow_grow]; rfl⟩
theorem sortM_calls (g : Nat) (eg : ∀ args w, (callFunc g args).run Tryd.prog w = .ok (.enter g args) w) (hg : ∀ (x y : Msg) (W : World), Calls Tryd.prog g #[.agg #[.string x.f0, .string x.f1, .int .i64 x.f2, .bool x.f3], .agg #[.string y.f0, .string y.f1, .int .i64 y.f2, .bool y.f3]] W fun e w' => e = .returned (.int .i64 (cfM x y)) ∧ ∃ q os', w' = grow (W.drewN q) os')
    {base : Nat} {ok : Nat → Prop} {W : World} {v : Value} {xs st : List Msg} (h : Kd.R k27 27 W base ok v xs) (hlen : xs.length < 4611686018427387904) (hst : Srt tpc st) (hp : xs.Perm st) :
    Calls Tryd.prog 27 #[v, .func (.func g) #[] #[]] W fun e W' => e = .returned (.tuple #[]) ∧ Kd.R k27 27 W' base ok v st ∧ W.grownBy W' v.ownBlock := by
  have hc := Srt.sort_calls Tryd.sortM k27 encM (fun _ => rfl) (fun h => k27_openM h) (fun w b ok x => k27_mkM w b ok x) (fun w => by kernel_rfl) (fun w => by kernel_rfl) (fun x v hv => by simp [encM] at hv; rcases hv with rfl | rfl | rfl | rfl <;> rfl) cfM swoM g #[] eg h hlen (fun blk off size m os dk _ x y => hg x y _)
  refine hc.mono ?_
  rintro e W' ⟨rfl, ys, hpy, hs, hR, hgr⟩
  have hk : KeyD tpc ys := (KeyD.perm hst.keys (hp.symm.trans hpy))
  have hS : Srt tpc ys := by
    unfold Srt
    have hk2 : ys.Pairwise (fun x y => tpc x ≠ tpc y) := hk
    refine List.Pairwise.imp ?_ (hs.and hk2)
    rintro a b ⟨h1, h2⟩
    rw [ltM] at h1
    cases h3 : ltS (tpc a) (tpc b)
    · exact absurd (ltS_total h3 h1) h2
    · rfl
  have e : ys = st := srt_eq hS hst (hpy.symm.trans hp)
  rw [e] at hR
  exact ⟨rfl, hR, hgr⟩
end Go.Proofs.YtdchcdagjnaicaaDoor.Rt
