/- What the proof of ValueTells leans on: TopC. -/
import Derived.Test.YtmkekhjbbapngaaGreatDoorSValueTellsTopB
import Derived.Test.YtmkekhjbbapngaaGreatDoorSValueTellsWWords
import Derived.Test.YtmkekhjbbapngaaGreatDoorSValueTellsWLast
set_option linter.unusedVariables false
set_option linter.unusedSimpArgs false
namespace Go.Proofs.YtmkekhjbbapngaaGreatDoor.Top
open Go.RowKit
def wild : List UInt8 := [43, 35]
def isName (s : ByteArray) : Bool := !s.data.toList.isEmpty && (isU s && !hasAny s.data.toList wild)
theorem isU_size (s : ByteArray) (h : isU s = true) : s.size ≤ 65535 := by
  unfold isU at h
  rw [Bool.and_eq_true] at h
  exact of_decide_eq_true h.1
theorem wild_calls (s : ByteArray) (w : World) (hs : s.size < 4294967281) :
    Calls Tryz.prog 126 #[.string s, .string ⟨#[43, 35]⟩] w fun e w' => e = .returned (.bool (hasAny s.data.toList wild)) ∧ Below w.heap.size w w' :=
  containsAny_calls s ⟨#[43, 35]⟩ w (by show 2 ≤ 2; omega) hs (by show 2 < 4294967281; omega) (by
    intro j b h
    match j, h with
    | 0, h => simp at h; subst h; decide
    | 1, h => simp at h; subst h; decide)
theorem name_calls (s : ByteArray) (w : World) (hL : Laid w) :
    Calls Tryz.prog 125 #[.string s] w fun e w' => e = .returned (.int .i64 (if isName s then 0 else 120)) ∧ Below w.heap.size w w' := by
  have hemp : s.toList.isEmpty = s.data.toList.isEmpty := by rw [Lib.toList_data]
  unfold isName
  by_cases h0 : s.data.toList.isEmpty = true
  · have h0' : s.toList = [] := by rw [Lib.toList_data]; exact List.isEmpty_iff.1 h0
    rw [h0]
    go_enter Tryz.func125, Tryz.ntmps125
    go_wp2
    go_ret
    exact ⟨rfl, Below.refl _ _⟩
  · have hf : s.toList.isEmpty = false := by rw [hemp]; simpa using h0
    have h0' : s.data.toList.isEmpty = false := by simpa using h0
    have cU := is_calls s w hL
    rw [h0']
    cases hU : isU s
    · rw [hU] at cU
      clear hemp h0 h0' hU
      go_enter Tryz.func125, Tryz.ntmps125
      go_wp2_with (go_at_call 137; refine cU.mono ?_; rintro e w' ⟨rfl, hb⟩)
      go_ret
      exact ⟨rfl, hb⟩
    · have hsz := isU_size s hU
      have cW := fun w => wild_calls s w (by omega)
      rw [hU] at cU
      generalize hasAny s.data.toList wild = b at *
      clear hemp h0 h0' hU
      go_enter Tryz.func125, Tryz.ntmps125
      go_wp2_with (first | (go_at_call 137; refine cU.mono ?_; rintro e w1 ⟨rfl, hb⟩) | (go_at_call 126; refine (cW _).mono ?_; rintro e w2 ⟨rfl, hb2⟩))
      all_goals (go_ret; exact ⟨rfl, hb.trans (hb2.mono hb.size)⟩)
end Go.Proofs.YtmkekhjbbapngaaGreatDoor.Top
set_option linter.unusedVariables false
set_option linter.unusedSimpArgs false
namespace Go.Proofs.YtmkekhjbbapngaaGreatDoor.Q
open Go.RowKit Go.Proofs.YtmkekhjbbapngaaGreatDoorW.PrintWords
theorem w64 {x : Int} (h0 : -9223372036854775808 ≤ x) (h1 : x ≤ 9223372036854775807) : wrap64 x = x := by unfold wrap64; omega
section
variable {α β : Type} {g f : Nat → Option α} {r : α}
theorem Ev.pos {c : Prop} [Decidable c] (hc : c) (h : Ev g r) : Ev (fun k => if c then g k else f k) r := h.congr (fun _ => if_pos hc)
theorem Ev.neg {c : Prop} [Decidable c] (hc : ¬ c) (h : Ev f r) : Ev (fun k => if c then g k else f k) r := h.congr (fun _ => if_neg hc)
theorem Ev.ret (r : α) : Ev (fun _ => some r) r := Ev.now r
theorem Ev.ret' {r s : α} (h : s = r) : Ev (fun _ => some s) r := h ▸ Ev.now s
theorem Ev.some {a : α} {q : β} {h : Nat → α → Option β} (k : Ev (fun n => h n a) q) : Ev (fun n => (Option.some a).bind (h n)) q := k
theorem Ev.fst {o : Option α} {a : α} (ho : o = Option.some a) {q : β} {h : Nat → α → Option β} (k : Ev (fun n => h n a) q) : Ev (fun n => o.bind (h n)) q := by subst ho; exact k
end
theorem bt_lt (s : ByteArray) (i : Nat) (h : i < s.size) : bt s (i : Int) = ((s[i]'h).toNat : Int) := by
  unfold bt
  rw [dif_pos (by simpa using h)]
  rfl
theorem bt_get (s : ByteArray) (i : Nat) (h : i < s.size) : bt s (i : Int) = ((s.get! i).toNat : Int) := by
  rw [bt_lt s i h, Utf8W.get!_of_lt s i h]
theorem bt_byte (s : ByteArray) (i : Int) : 0 ≤ bt s i ∧ bt s i ≤ 255 := by
  unfold bt
  split
  · have := (s[i.toNat]).toNat_lt; omega
  · omega
theorem bt_list (s : ByteArray) (i : Nat) (b : UInt8) (h : s.data.toList[i]? = Option.some b) : bt s (i : Int) = (b.toNat : Int) := by
  have hlt : i < s.size := by rw [Lib.size_eq]; exact (List.getElem?_eq_some_iff.1 h).1
  have := Lib.data_getElem? s i hlt
  rw [h] at this
  rw [bt_lt s i hlt, Option.some.inj this]
end Go.Proofs.YtmkekhjbbapngaaGreatDoor.Q
