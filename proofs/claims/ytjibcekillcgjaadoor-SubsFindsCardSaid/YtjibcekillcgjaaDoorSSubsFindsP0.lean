/- What the proof of SubsFinds leans on: P0. -/
import Derived.Test.YtjibcekillcgjaaDoorSSubsFindsWWords
import Derived.Test.YtjibcekillcgjaaDoorSSubsFindsWMore
import Derived.Test.YtjibcekillcgjaaDoorSSubsFindsTopG
set_option linter.unusedVariables false
set_option linter.unusedSimpArgs false
namespace Go.Proofs.YtjibcekillcgjaaDoor.Q
open Go.RowKit Go.Proofs.YtjibcekillcgjaaDoorW.PrintWords
theorem w64 {x : Int} (h0 : -9223372036854775808 ≤ x) (h1 : x ≤ 9223372036854775807) : wrap64 x = x := by unfold wrap64; omega
section
variable {α β : Type} {g f : Nat → Option α} {r : α}
theorem Ev.pos {c : Prop} [Decidable c] (hc : c) (h : Ev g r) : Ev (fun k => if c then g k else f k) r := h.congr (fun _ => if_pos hc)
theorem Ev.neg {c : Prop} [Decidable c] (hc : ¬ c) (h : Ev f r) : Ev (fun k => if c then g k else f k) r := h.congr (fun _ => if_neg hc)
theorem Ev.ret (r : α) : Ev (fun _ => some r) r := Ev.now r
theorem Ev.ret' {r s : α} (h : s = r) : Ev (fun _ => some s) r := h ▸ Ev.now s
theorem Ev.fst {o : Option α} {a : α} (ho : o = Option.some a) {q : β} {h : Nat → α → Option β} (k : Ev (fun n => h n a) q) : Ev (fun n => o.bind (h n)) q := by subst ho; exact k
end
theorem bt_lt (s : ByteArray) (i : Nat) (h : i < s.size) : bt s (i : Int) = ((s[i]'h).toNat : Int) := by
  unfold bt
  rw [dif_pos (by simpa using h)]
  rfl
theorem bt_get (s : ByteArray) (i : Nat) (h : i < s.size) : bt s (i : Int) = ((s.get! i).toNat : Int) := by
  rw [bt_lt s i h, Utf8W.get!_of_lt s i h]
theorem bt_byte (s : ByteArray) (i : Int) : 0 ≤ bt s i ∧ bt s i ≤ 255 := by
  unfold bt
  split
  · have := (s[i.toNat]).toNat_lt; omega
  · omega
theorem bt_list (s : ByteArray) (i : Nat) (b : UInt8) (h : s.data.toList[i]? = Option.some b) : bt s (i : Int) = (b.toNat : Int) := by
  have hlt : i < s.size := by rw [Lib.size_eq]; exact (List.getElem?_eq_some_iff.1 h).1
  have := Lib.data_getElem? s i hlt
  rw [h] at this
  rw [bt_lt s i hlt, Option.some.inj this]
end Go.Proofs.YtjibcekillcgjaaDoor.Q
