/- What the proof of SubsFinds leans on: TopE. -/
import Derived.Test.YtjibcekillcgjaaDoorSSubsFindsTopC
import Derived.Test.YtjibcekillcgjaaDoorSSubsFindsTopD
import Derived.Test.YtjibcekillcgjaaDoorSSubsFindsSplit
import Derived.Shelf.Abstract
import Derived.Shelf.RegionOpen
import Derived.OwnWalkIn
import Derived.TacticsInMore
import Derived.LoopNIn
import Derived.LoopIn
import Derived.OneCell
set_option linter.unusedVariables false
set_option linter.unusedSimpArgs false
namespace Go.Proofs.YtjibcekillcgjaaDoor.Top
open Go.RowKit Go.Shelf Go.Proofs.YtjibcekillcgjaaDoor.Range
attribute [local go_sem] Oper.semAt_some
def encL (x : List UInt8 × Bool) : Array Value := #[.string ⟨x.1.toArray⟩, .bool x.2]
theorem levels_calls (s : ByteArray) (w : World) :
    Calls Tryd.prog 34 #[.string s] w fun e w' => e = .returned (.func (.func 46) #[] #[.pointer (some ⟨w.heap.size, 0, none⟩)]) ∧ w' = w.alloc (.cells #[.string s] 9) := by
  have hmf : ∀ (fn : Fn) (first cap : Array Value) (w : World), (Instr.makeFunc fn first cap).run Tryd.prog w = .ok (.func fn first cap) w := fun _ _ _ _ => rfl
  go_enter Tryd.func34, Tryd.ntmps34
  go_wp2
  go_ret
  exact ⟨rfl, rfl⟩
theorem belowd {n₀ : Nat} (w : World) (k : Nat) : Below n₀ w (w.drewN k) := ⟨rfl, rfl, rfl, Nat.le_refl _, fun _ _ => rfl⟩
def cellLen (Bs : Nat) (wr : World) : Nat := match wr.heap[Bs]? with
  | some (.cells cs _ _) => match cs.getD 0 undef with
    | .string s => s.size
    | _ => 0
  | _ => 0
theorem cellLen_eq {Bs : Nat} {wr : World} {s : ByteArray} {t : TypeId} (h : wr.heap[Bs]? = some (.cells #[.string s] t (0, 0))) : cellLen Bs wr = s.size := by
  unfold cellLen; rw [h]; rfl
set_option maxRecDepth 100000 in
set_option maxHeartbeats 4000000 in
theorem levels_seq (n n₀ Bs : Nat) (s : List UInt8) (w : World) (hs : s.length < 4294967281) (hB : n₀ ≤ Bs) (hBs : w.heap[Bs]? = some (.cells #[.string ⟨s.toArray⟩] 9 (0, 0))) (hL : ∀ W, Below n₀ w W → Laid W) :
    SeqBox Fence.wide n Tryd.prog 46 #[.pointer (some ⟨Bs, 0, none⟩)] encL (KeepBox n₀ Bs) (lvl s) Bs w := by
  intro l J Jx W hW hJ hY h0
  have hlt : Bs < w.heap.size := (Array.getElem?_eq_some_iff.1 hBs).1
  have hBW : W.heap[Bs]? = some (.cells #[.string ⟨s.toArray⟩] 9 (0, 0)) := (hW.block _ hlt).trans hBs
  refine callsIn_of_wp Tryd.func46 rfl trivial ?_
  simp only [Tryd.ntmps46, List.size_toArray, List.length_cons, List.length_nil, Nat.reduceAdd, Nat.reduceSub, Array.replicate_succ, Array.replicate_zero, List.push_toArray, List.append_toArray, List.nil_append, List.cons_append]
  gi_wp2
  gi_loopw [3] (fun _ wr => ∃ (pre : List (List UInt8 × Bool)) (rest : List UInt8), lvl s = pre ++ lvl rest ∧ rest.length ≤ s.length ∧ wr.heap[Bs]? = some (.cells #[.string ⟨rest.toArray⟩] 9 (0, 0)) ∧ J pre wr ∧ W.heap.size ≤ wr.heap.size ∧ Below n₀ w wr)
    (fun _ wr => cellLen Bs wr)
  case atStart => exact ⟨[], s, rfl, Nat.le_refl _, hBW, h0, Nat.le_refl _, hW.mono (by omega)⟩
  case round =>
    obtain ⟨pre, rest, hx, hlen, hcell, hJp, hsz, hbl⟩ := hrel
    have hc := cell_of_one hcell
    have hfr := free_of_one hcell
    obtain ⟨m, hm⟩ := (hL wr hbl).ml
    have cC := Tryd.strings_Cut ⟨rest.toArray⟩ ⟨#[47]⟩ m wr (by show rest.toArray.size < _; rw [List.size_toArray]; omega) hm
    have e1 : ((⟨rest.toArray⟩ : ByteArray)).data.toList = rest := rfl
    have e2 : ((⟨#[47]⟩ : ByteArray)).data.toList = [47] := rfl
    rw [e1, e2, cut_first] at cC
    have hst := lvl_step rest
    have hsh := first47_short rest
    obtain ⟨a, ha⟩ : ∃ a, (first47 rest).1 = a := ⟨_, rfl⟩
    obtain ⟨r, hr⟩ : ∃ r, (first47 rest).2.1 = r := ⟨_, rfl⟩
    obtain ⟨f, hf⟩ : ∃ f, (first47 rest).2.2 = f := ⟨_, rfl⟩
    rw [ha, hr, hf] at cC hst hsh
    clear ha hr hf e1 e2
    have hJd : ∀ k, J pre (wr.drewN k) := fun k => hJ pre wr _ none hJp ⟨rfl, rfl, rfl, Nat.le_refl _, fun _ _ _ => rfl⟩ (fun r e => by cases e)
    rcases hst with ⟨rfl, hl2⟩ | ⟨rfl, rfl, hl2⟩
    · have hpx : pre ++ [(a, false)] <+: lvl s := ⟨lvl r, by rw [hx, hl2]; simp⟩
      have hx' : lvl s = (pre ++ [(a, false)]) ++ lvl r := by rw [hx, hl2]; simp
      have hlr := hsh.2 rfl
      clear hx hl2 hsh hm hc hfr
      have Hcell := Lib.hid hcell
      have hcl := cellLen_eq hcell
      have Hcl := Lib.hid hcl
      have hc := cell_of_one hcell
      clear hcell hcl
      gi_wp2_with (refine ⟨trivial, fun h => (by cases h), ?_⟩; (with_reducible refine (callsIn_wide.2 cC).mono ?_); rintro e w1 ⟨rfl, ⟨k, rfl⟩⟩)
      obtain ⟨fn, tmps, assign, body, hy, hR⟩ := hY pre (a, false) (wr.drewN k) (hJd k) hpx
      simp only [encL] at hy
      gi_wp2
      rw [hy, Oper.uponIn_round]
      refine ⟨fun h => (by cases h), hR.mono ?_⟩
      rintro e W3 (⟨rfl, hJ3, hk3⟩ | ⟨rfl, hJx3⟩)
      · have hcell3 : W3.heap[Bs]? = some (.cells #[.string ⟨rest.toArray⟩] 9 (0, 0)) := hk3.2.trans Hcell.out
        have hset3 := one_setCell (u := .string ⟨r.toArray⟩) hcell3
        have Hset := Lib.hid hset3
        have hc3 := cell_of_one hcell3
        have hf3 := free_of_one hcell3
        have HJ := Lib.hid (hJ _ W3 _ (some Bs) hJ3 (grownBy_setCell' W3 Bs (.string ⟨r.toArray⟩)) (fun q e => by cases e; exact .inl rfl))
        have hb3 : Below n₀ w W3 := (hbl.trans (belowd wr k)).trans hk3.1
        clear hset3 hcell3 hJ3
        gi_wp2
        refine ⟨⟨pre ++ [(a, false)], r, hx', by omega, Hset.out, HJ.out, ?_, hb3.setCell (p := ⟨Bs, 0, none⟩) hB _⟩, ?_⟩
        · have h1 := hk3.1.size
          have h2 : (wr.drewN k).heap.size = wr.heap.size := rfl
          simp only [World.setCell, Array.size_modify]
          omega
        · rw [cellLen_eq Hset.out, Hcl.out]
          show r.toArray.size < rest.toArray.size
          simp only [List.size_toArray]
          omega
      · gi_wp2
        refine bodyPost_ret (results_none rfl _ _ _) rfl ?_
        exact ⟨⟨_, rfl⟩, .inr ⟨_, hpx, hJx3⟩⟩
    · have hpx : pre ++ [(a, true)] <+: lvl s := ⟨[], by rw [hx, hl2]; simp⟩
      have hx' : pre ++ [(a, true)] = lvl s := by rw [hx, hl2]
      clear hx hl2 hsh hm hc hfr
      have Hcell := Lib.hid hcell
      have hc := cell_of_one hcell
      clear hcell
      gi_wp2_with (refine ⟨trivial, fun h => (by cases h), ?_⟩; (with_reducible refine (callsIn_wide.2 cC).mono ?_); rintro e w1 ⟨rfl, ⟨k, rfl⟩⟩)
      obtain ⟨fn, tmps, assign, body, hy, hR⟩ := hY pre (a, true) (wr.drewN k) (hJd k) hpx
      simp only [encL] at hy
      gi_wp2
      rw [hy, Oper.uponIn_round]
      refine ⟨fun h => (by cases h), hR.mono ?_⟩
      rintro e W3 (⟨rfl, hJ3, hk3⟩ | ⟨rfl, hJx3⟩)
      · rw [hx'] at hJ3
        have HJ3 := Lib.hid hJ3
        clear hx' hJ3
        gi_wp2
        refine bodyPost_ret (results_none rfl _ _ _) rfl ?_
        exact ⟨⟨_, rfl⟩, .inl HJ3.out⟩
      · gi_wp2
        refine bodyPost_ret (results_none rfl _ _ _) rfl ?_
        exact ⟨⟨_, rfl⟩, .inr ⟨_, hpx, hJx3⟩⟩
end Go.Proofs.YtjibcekillcgjaaDoor.Top
