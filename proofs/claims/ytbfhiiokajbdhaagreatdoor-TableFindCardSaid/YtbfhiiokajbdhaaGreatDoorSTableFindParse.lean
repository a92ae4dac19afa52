/- What the proof of TableFind leans on: Parse. -/
import Derived.Test.YtbfhiiokajbdhaaGreatDoorSTableFindFldB
import Derived.Test.YtbfhiiokajbdhaaGreatDoorSTableFindPTab
import Derived.Test.YtbfhiiokajbdhaaGreatDoorSTableFindPWd
import Derived.Test.YtbfhiiokajbdhaaGreatDoorSTableFindQx5
import Derived.Test.YtbfhiiokajbdhaaGreatDoorSTableFindQx0
set_option linter.unusedVariables false
set_option linter.unusedSimpArgs false
namespace Go.Proofs.YtbfhiiokajbdhaaGreatDoor.Fl
open Go.RowKit Go.Proofs.YtbfhiiokajbdhaaGreatDoor.Q Go.Proofs.YtbfhiiokajbdhaaGreatDoor.Val Go.Proofs.YtbfhiiokajbdhaaGreatDoorW.PrintWords
def rd1 (k : Nat) (s : ByteArray) (r : S34) : Bool × S34 :=
  match k with
  | 0 => (true, { r with f0 := s })
  | 1 => (numB s, if numB s then { r with f1 := numV s } else r)
  | 2 => (numB s, if numB s then { r with f2 := numV s } else r)
  | 3 => (numB s, if numB s then { r with f3 := numV s } else r)
  | 4 => (numB s, if numB s then { r with f4 := numV s } else r)
  | 5 => (numB s, if numB s then { r with f5 := numV s } else r)
  | 6 => (numB s, if numB s then { r with f6 := numV s } else r)
  | _ => (s.toList == [119] || s.toList == [114], { r with f7 := s.toList == [119] })
def rdFrom : List ByteArray → Nat → S34 → Option S34
  | [], _, r => some r
  | s :: ws, k, r => if (rd1 k s r).1 then rdFrom ws (k + 1) (rd1 k s r).2 else none
def zeroR : S34 := ⟨⟨#[]⟩, 0, 0, 0, 0, 0, 0, false⟩
def rowOf (ws : List ByteArray) : Option S34 := if ws.length = 8 then rdFrom ws 0 zeroR else none
def wordsOf (ln : ByteArray) : List ByteArray := Lib.goFieldsP (fun c => c == 32) ln
def skipB (ws : List ByteArray) : Bool := match ws with
  | [] => true
  | w :: _ => bt w 0 == 35
def goP : List ByteArray → Nat → List S34 → List S34 × Int × Int
  | [], _, acc => (acc, 0, 0)
  | ln :: ls, i, acc =>
    if skipB (wordsOf ln) then goP ls (i + 1) acc
    else match rowOf (wordsOf ln) with
      | none => ([], (i : Int) + 1, 4)
      | some r => if nextE acc r.f0 r.f1 r.f2 r.f3 r.f4 r.f5 r.f6 r.f7 = 0 then goP ls (i + 1) (acc ++ [r]) else ([], (i : Int) + 1, nextE acc r.f0 r.f1 r.f2 r.f3 r.f4 r.f5 r.f6 r.f7)
def nl : ByteArray := ⟨#[10]⟩
def linesOf (s : ByteArray) : List ByteArray := Lib.splitB nl 0 (Lib.countB s nl) s
def parseR (s : ByteArray) : List S34 := (goP (linesOf s) 0 []).1
def parseN (s : ByteArray) : Int := (goP (linesOf s) 0 []).2.1
def parseE (s : ByteArray) : Int := (goP (linesOf s) 0 []).2.2
theorem isSpace_calls (W : World) (x : Nat) : Calls Tryz.prog 23 #[.int .i32 x] W fun e W' => e = .returned (.bool ((x : Nat) == 32)) ∧ Below W.heap.size W W' := by
  by_cases h : x = 32
  · subst h
    go_enter Tryz.func23, Tryz.ntmps23
    go_wp2
    go_ret
    exact ⟨rfl, Below.refl _ _⟩
  · have e1 : ((x : Int) == 32) = false := beq_eq_false_iff_ne.2 (by omega)
    have e2 : (x == 32) = false := beq_eq_false_iff_ne.2 h
    rw [e2]
    go_enter Tryz.func23, Tryz.ntmps23
    go_wp2
    go_ret
    exact ⟨rfl, Below.refl _ _⟩
theorem fieldsF_calls (s : ByteArray) (hs : s.size ≤ 1000000) (W : World) : Calls Tryz.prog 22 #[.string s, .func (.func 23) #[] #[]] W fun e W' => ∃ A, e = .returned (.slice (some ⟨A, 0, none⟩) (wordsOf s).length (wordsOf s).length) ∧ W.heap.size ≤ A ∧
      W'.ownsRow W.heap.size 9 1 (.slice (some ⟨A, 0, none⟩) (wordsOf s).length (wordsOf s).length) (wordsOf s).length ((wordsOf s).map Value.string) ∧ Below W.heap.size W W' :=
  Tryz.strings_FieldsFunc_grows 23 #[] (enters_of Tryz.func23 (by kernel_rfl) rfl) (fun c => c == 32) s W (by omega) (fun W1 x _ _ => isSpace_calls W1 x)
theorem split_calls (s : ByteArray) (hs : s.size ≤ 1000000) (W : World) (hL : Laid W) : Calls Tryz.prog 21 #[.string s, .string ⟨#[10]⟩] W fun e W' => e = .returned (.slice (some ⟨W.heap.size, 0, none⟩) (linesOf s).length (linesOf s).length) ∧ W' = W.alloc (.cells ((linesOf s).map Value.string).toArray 9) := by
  obtain ⟨m, hm⟩ := hL.top.ml
  have hlen : (linesOf s).length = Lib.countB s nl + 1 := Lib.splitB_all nl (by decide) 0 _ s rfl
  rw [hlen]
  exact Tryz.strings_Split s nl m W (by omega) hm (by decide)
theorem zero_blk (W : World) : WAt (W.alloc (.cells #[.string ⟨#[]⟩, .int .i64 0, .int .i64 0, .int .i64 0, .int .i64 0, .int .i64 0, .int .i64 0, .bool false] 34 (0, 0))) W.heap.size zeroR := blk_new W _
theorem str_cells {W : World} {B A n c : Nat} {l : List ByteArray} (h : W.ownsRow B 9 1 (.slice (some ⟨A, 0, none⟩) n c) l.length (l.map Value.string)) : ∀ (j : Nat) (x : ByteArray), l[j]? = some x → W.cell? ⟨A, j, none⟩ = some (.string x) := by
  intro j x hx
  rcases h.2 with ⟨h1, _⟩ | ⟨g, cap, cur, h1, _, hh, hle, _, hsz, htk⟩
  · cases h1
  · injection h1 with h1 h2 h3
    injection h1 with h1
    injection h1 with h1
    subst h1
    have hj : j < l.length := (List.getElem?_eq_some_iff.1 hx).1
    have h4 : (cur.toList.take (l.length * 1))[j]? = some (.string x) := by rw [htk, List.getElem?_map, hx]; rfl
    rw [List.getElem?_take, if_pos (by omega)] at h4
    rw [blk_cell hh j]
    simpa using h4
structure In (w w2 : World) (fb : Nat) (b : Nat → Nat) (lb A2 g : Nat) (cs : Array Value) (v5 : Value) (acc : List S34) (wy : World) : Prop where
  bel : Below w.heap.size w wy
  fa : FAt wy w.heap.size fb b
  ln : wy.heap[lb]? = some (.cells cs 9 (0, 0))
  row : Kd.R k34 34 wy w.heap.size (fun k => k ≠ g) v5 acc
  wd : wy.heap[A2]? = w2.heap[A2]?
theorem cell_eq {w w' : World} {b : Nat} (h : w'.heap[b]? = w.heap[b]?) (j : Nat) : w'.cell? ⟨b, j, none⟩ = w.cell? ⟨b, j, none⟩ := by
  unfold World.cell?
  rw [h]
theorem heap_drewN (w : World) (n : Nat) (k : Nat) : (w.drewN n).heap[k]? = w.heap[k]? := by
  have := (pw_below_drewN (Below.refl w.heap.size w) n)
  rcases Nat.lt_or_ge k w.heap.size with h | h
  · exact this.block k h
  · have e : (w.drewN n).heap.size = w.heap.size := by simp
    rw [Array.getElem?_eq_none h, Array.getElem?_eq_none (by omega)]
theorem In.step {w w2 wy W' : World} {fb : Nat} {b : Nat → Nat} {lb A2 g : Nat} {cs : Array Value} {v5 : Value} {acc : List S34} {r : S34} (h : In w w2 fb b lb A2 g cs v5 acc wy) (hW : WAt wy g r) (hg : (wy.drewN 1).grownBy W' (some g)) (hgw : w.heap.size ≤ g) (h1 : lb ≠ g) (h2 : A2 ≠ g) (hA : A2 < wy.heap.size) : In w w2 fb b lb A2 g cs v5 acc W' := by
  have hd := pw_below_drewN (Below.refl wy.heap.size wy) 1
  have hsz : (wy.drewN 1).heap.size = wy.heap.size := by simp
  have hlt := blk_lt hW
  refine ⟨?_, ?_, ?_, ?_, ?_⟩
  · have hb := h.bel.trans (hd.mono h.bel.size)
    exact ⟨hg.os.trans hb.os, hg.tape.trans hb.tape, hg.output.trans hb.output, Nat.le_trans hb.size hg.size, fun k hk => (hg.block k (Nat.lt_of_lt_of_le hk hb.size) (fun e => by injection e with e; omega)).trans (hb.block k hk)⟩
  · exact (h.fa.below hd).grown (blk_below hW hd) (by decide) hg
  · exact (hg.block lb (by rw [hsz]; exact blk_lt h.ln) (fun e => by injection e with e; exact h1 e)).trans ((heap_drewN wy 1 lb).trans h.ln)
  · exact Kd.R_grown (Kd.R_below h.row hd) hg (fun k hk e => by injection e with e; exact hk e)
  · exact (hg.block A2 (by rw [hsz]; exact hA) (fun e => by injection e with e; exact h2 e)).trans ((heap_drewN wy 1 A2).trans h.wd)
theorem FAt.app {W W' : World} {B g base : Nat} {b : Nat → Nat} {v : Value} {l : List S34} {ok : Nat → Prop} (h : FAt W B g b) (hR : Kd.R k34 34 W base ok v l) (hg : W.grownBy W' v.ownBlock) : FAt W' B g b :=
  h.step (fun k t cs ht hk => hg.block k (blk_lt hk) (Kd.R_ne hR hk (by rcases ht with rfl | rfl <;> decide)))
theorem after_rd {RO : Option S34} {q : Bool} {X : Option S34} (h : RO = if q then X else none) : if q then RO = X else RO = none := by
  cases q <;> simpa using h
theorem drop_B (l : List ByteArray) (i : Nat) (h : i < l.length) : l.drop i = l.getD i ⟨#[]⟩ :: l.drop (i + 1) := by
  rw [List.drop_eq_getElem_cons h, List.getD_eq_getElem?_getD, List.getElem?_eq_getElem h]; rfl
set_option maxHeartbeats 16000000 in
set_option maxRecDepth 1000000 in
theorem parse_calls (s : ByteArray) (w : World) (hL : Laid w) (hs : s.size ≤ 1000000) :
    Calls Tryz.prog 7 #[.string s] w fun e w' => ∃ v0_ : Value, e = .returned (.tuple #[v0_, .int .i64 (parseN s), .int .i64 (parseE s)]) ∧ Kd.R k34 34 w' w.heap.size (fun _ => True) v0_ (parseR s) ∧ Below w.heap.size w w' := by
  have cF := fields_calls w
  have cS := fun W h => split_calls s hs W h
  obtain ⟨RES, hRES⟩ : ∃ x, x = goP (linesOf s) 0 [] := ⟨_, rfl⟩
  unfold parseN parseE parseR
  rw [← hRES]
  obtain ⟨L, hLn⟩ : ∃ x, x = linesOf s := ⟨_, rfl⟩
  have hsz : ∀ x ∈ L, x.size ≤ 1000000 := fun x hx => Nat.le_trans (Wd.line_ok s x (by rw [hLn] at hx; exact hx)) hs
  have hLL : L.length ≤ 1000001 := by rw [hLn]; exact Nat.le_trans (Wd.lines_len s) (by omega)
  rw [← hLn] at cS hRES
  have HRES := Lib.hid hRES
  clear hRES hLn
  go_enter Tryz.func7, Tryz.ntmps7
  go_wp2_with (first
    | (go_at_call 20; refine cF.mono ?_; rintro e w1 ⟨fb, b, rfl, hF, hb1⟩)
    | (go_at_call 21; refine (cS _ (hL.below hb1)).mono ?_; rintro e w2 ⟨rfl, rfl⟩))
  have hB1 := hb1
  have hBa := (Below.refl w1.heap.size w1).alloc (Nat.le_refl _) (.cells (L.map Value.string).toArray 9 (0, 0))
  have hB2 : Below w.heap.size w (w1.alloc (.cells (L.map Value.string).toArray 9 (0, 0))) := hb1.trans (hBa.mono hb1.size)
  have hF2 := hF.below hBa
  have hl2 := blk_new w1 (.cells (L.map Value.string).toArray 9 (0, 0))
  obtain ⟨lb, hlb⟩ : ∃ lb, lb = w1.heap.size := ⟨_, rfl⟩
  rw [← hlb] at hl2 ⊢
  have hlw : w.heap.size ≤ lb := by rw [hlb]; exact hb1.size
  clear cF cS hB1 hb1 hF hBa hlb
  go_loopg [5, 18] L.length (fun gk v5 v18 wx => ∃ (i : Nat) (acc : List S34), v18 = .int .i64 i ∧ i + gk = L.length ∧ Kd.R k34 34 wx w.heap.size (fun _ => True) v5 acc ∧ RES = goP (L.drop i) i acc ∧ acc.length ≤ i ∧ Below w.heap.size w wx ∧ FAt wx w.heap.size fb b ∧ wx.heap[lb]? = some (.cells (L.map Value.string).toArray 9 (0, 0)))
  case atStart => exact ⟨0, [], rfl, by omega, Kd.R_nil _ _ _ _ _, by rw [List.drop_zero]; exact HRES.out, Nat.le_refl _, hB2, hF2, hl2⟩
  case round =>
    obtain ⟨i, acc, rfl, hig, hR, he, hacc, hBx, hFx, hlx⟩ := hrel
    cases gk with
    | zero =>
      have hi : i = L.length := by omega
      have hlt1 : decide ((i : Int) < (L.length : Int)) = false := decide_eq_false (by omega)
      have e1 : RES = (acc, 0, 0) := by rw [he, List.drop_eq_nil_of_le (by omega)]; rfl
      subst e1
      have hn : (i < L.length) = False := eq_false (by omega)
      clear hig hi HRES he
      obtain ⟨A5, c5, rfl⟩ := Kd.R_slice hR
      go_wp2
      go_ret3
      exact ⟨_, rfl, hR, hBx⟩
    | succ gk =>
      have hi : i < L.length := by omega
      have hlt1 : decide ((i : Int) < (L.length : Int)) = true := decide_eq_true (by omega)
      have hd := drop_B L i hi
      have k0 := blk_cell hlx i
      have hk0 : (L.map Value.string).toArray[i]? = some (.string (L.getD i ⟨#[]⟩)) := by
        simp [List.getElem?_eq_getElem hi, List.getD_eq_getElem?_getD]
      rw [hk0] at k0
      have hln := hsz (L.getD i ⟨#[]⟩) (by rw [List.getD_eq_getElem?_getD, List.getElem?_eq_getElem hi]; exact List.getElem_mem hi)
      have p0 : ((0 : Int) ≤ (i : Int)) = True := eq_true (by omega)
      have p1 : ((i : Int) < (L.length : Int)) = True := eq_true (by omega)
      have hs1 : IntKind.i64.wrap ((i : Int) + 1) = ((i + 1 : Nat) : Int) := by rw [IntWalk.i64_in _ (by omega)]; rfl
      rw [hd] at he
      unfold goP at he
      generalize L.getD i ⟨#[]⟩ = ln at *
      have cW := fieldsF_calls ln hln wr
      have hne : ∀ x ∈ wordsOf ln, 0 < x.size := fun x hx => (Wd.word_ok ln x hx).1
      have hwz : ∀ x ∈ wordsOf ln, x.size ≤ 1000000 := fun x hx => Nat.le_trans (Wd.word_ok ln x hx).2 hln
      generalize wordsOf ln = ws at *
      clear hk0 hd HRES
      cases ws with
      | nil =>
        rw [if_pos (show skipB [] = true from rfl)] at he
        go_wp2_with (go_at_call 22; refine cW.mono ?_; rintro e w2 ⟨A2, rfl, hA2, hown, hb2⟩)
        go_roundg gk
        case measure => omega
        case rel => exact ⟨i + 1, acc, by first | rfl | (rw [hs1]), by omega, Kd.R_below hR hb2, he, Nat.le_succ_of_le hacc, hBx.trans (hb2.mono hBx.size), hFx.below hb2, blk_below hlx hb2⟩
      | cons s0 ws =>
        have hs0 := hne s0 (by simp)
        have eb : bt s0 0 = ((s0[0]'hs0).toNat : Int) := by
          unfold bt
          rw [dif_pos (show (0 : Int).toNat < s0.size from hs0)]
          rfl
        have n1 : ((ws.length : Int) + 1 == 0) = false := beq_eq_false_iff_ne.2 (by omega)
        cases hsk : (((s0[0]'hs0).toNat : Int) == 35)
        · rw [if_neg (show ¬ skipB (s0 :: ws) = true from by show ¬ (bt s0 0 == 35) = true; rw [eb, hsk]; decide)] at he
          clear eb
          by_cases h8 : ws.length = 7
          · obtain ⟨s1, s2, s3, s4, s5, s6, s7, rfl⟩ : ∃ s1 s2 s3 s4 s5 s6 s7, ws = [s1, s2, s3, s4, s5, s6, s7] := by
              match ws, h8 with
              | [s1, s2, s3, s4, s5, s6, s7], _ => exact ⟨s1, s2, s3, s4, s5, s6, s7, rfl⟩
            have hz : ∀ x ∈ [s0, s1, s2, s3, s4, s5, s6, s7], x.size ≤ 1000000 := fun x hx => hwz x hx
            obtain ⟨RO, hRO⟩ : ∃ x, x = rowOf [s0, s1, s2, s3, s4, s5, s6, s7] := ⟨_, rfl⟩
            rw [← hRO] at he
            have hRO0 : RO = rdFrom [s0, s1, s2, s3, s4, s5, s6, s7] 0 zeroR := hRO
            clear hRO h8 n1 hne hwz
            go_wp2_with (go_at_call 22; refine cW.mono ?_; rintro e w2 ⟨A2, rfl, hA2, hown, hb2⟩; have hcs := str_cells hown; have k2 := hcs 0 s0 rfl)
            have hgw : w.heap.size ≤ w2.heap.size := Nat.le_trans hBx.size hb2.size
            have hlg : lb ≠ w2.heap.size := Nat.ne_of_lt (Nat.lt_of_lt_of_le (blk_lt hlx) hb2.size)
            have hA2lt : A2 < w2.heap.size := own_lt hown A2 rfl
            have hAg : A2 ≠ w2.heap.size := Nat.ne_of_lt hA2lt
            have hal := (Below.refl w2.heap.size w2).alloc (Nat.le_refl _) (.cells #[.string ⟨#[]⟩, .int .i64 0, .int .i64 0, .int .i64 0, .int .i64 0, .int .i64 0, .int .i64 0, .bool false] 34 (0, 0))
            have hB2' := hBx.trans (hb2.mono hBx.size)
            have hIn0 : In w w2 fb b lb A2 w2.heap.size (L.map Value.string).toArray u5 acc (w2.alloc (.cells #[.string ⟨#[]⟩, .int .i64 0, .int .i64 0, .int .i64 0, .int .i64 0, .int .i64 0, .int .i64 0, .bool false] 34 (0, 0))) := ⟨hB2'.trans (hal.mono hB2'.size), (hFx.below hb2).below hal, blk_below (blk_below hlx hb2) hal, Kd.R_below (Kd.R_mono (Kd.R_bound (Kd.R_below hR hb2)) (fun k hk e => by have := hk.2.2.1; omega)) hal, hal.block A2 hA2lt⟩
            have hW0 := zero_blk w2
            obtain ⟨go_, rfl⟩ : ∃ x : Nat, x = gk := ⟨_, rfl⟩
            obtain ⟨wo, rfl⟩ : ∃ x : World, x = wr := ⟨_, rfl⟩
            go_loopg [11, 12] 8 (fun g2 v11 v12 wy => ∃ (k : Nat) (okb : Bool) (r : S34), v11 = .bool okb ∧ v12 = .int .i64 k ∧ k + g2 = 8 ∧ (if okb then RO = rdFrom ([s0, s1, s2, s3, s4, s5, s6, s7].drop k) k r else RO = none) ∧ In w w2 fb b lb A2 w2.heap.size (L.map Value.string).toArray u5 acc wy ∧ WAt wy w2.heap.size r ∧ A2 < wy.heap.size)
            case atStart => exact ⟨0, true, zeroR, rfl, rfl, rfl, hRO0, hIn0, hW0, by simp; omega⟩
            case round =>
              obtain ⟨k, okb, r, rfl, rfl, hkg, hRO, hIn, hW, hAy⟩ := hrel
              cases okb
              · simp only [Bool.false_eq_true, if_false] at hRO
                rw [hRO] at he
                simp only at he
                subst he
                have hBy := hIn.bel
                clear hRO hIn
                go_wp2
                go_ret3
                exact ⟨_, rfl, Kd.R_nil _ _ _ _ _, hBy⟩
              · simp only [if_true] at hRO
                cases gk with
                | zero =>
                  have hk8 : k = 8 := by omega
                  subst hk8
                  have hRO : RO = some r := hRO
                  rw [hRO] at he
                  simp only at he
                  obtain ⟨E, hE⟩ : ∃ x, x = nextE acc r.f0 r.f1 r.f2 r.f3 r.f4 r.f5 r.f6 r.f7 := ⟨_, rfl⟩
                  obtain ⟨A5, c5, e5, hc5, hC5⟩ := Kd.R_reads hIn.row
                  subst e5
                  have cN := table_next.calls 3 A5 c5 acc r.f0 r.f1 r.f2 r.f3 r.f4 r.f5 r.f6 r.f7 E wr hC5 hc5 (hL.below hIn.bel) (by rw [hE]; exact next_eq 0 acc (by omega) _ _ _ _ _ _ _ _)
                  rw [← hE] at he
                  have y0 := blk_cell hW 0
                  have y1 := blk_cell hW 1
                  have y2 := blk_cell hW 2
                  have y3 := blk_cell hW 3
                  have y4 := blk_cell hW 4
                  have y5 := blk_cell hW 5
                  have y6 := blk_cell hW 6
                  have y7 := blk_cell hW 7
                  have HI := Aside0.mk hIn
                  clear hE hRO hIn
                  by_cases hE0 : E = 0
                  · rw [if_pos hE0] at he
                    subst hE0
                    go_wp2_with (first
                      | (go_at_call 24; refine cN.mono ?_; rintro e w4 ⟨rfl, hb4⟩; have hW4 := blk_below hW hb4; have x0 := blk_cell hW4 0; have x1 := blk_cell hW4 1; have x2 := blk_cell hW4 2; have x3 := blk_cell hW4 3; have x4 := blk_cell hW4 4; have x5 := blk_cell hW4 5; have x6 := blk_cell hW4 6; have x7 := blk_cell hW4 7; have hR4 : Kd.R k34 34 w4 w.heap.size (fun _ => True) (.slice A5 acc.length c5) acc := Kd.R_mono (Kd.R_below HI.out.row hb4) (fun _ _ => trivial); have hB4 := HI.out.bel.trans (hb4.mono HI.out.bel.size); have hF4 := HI.out.fa.below hb4; have hl4 := blk_below HI.out.ln hb4)
                      | (at_builtin; refine Kd.R_append k34 (w0 := w) w.heap.size rfl (.tmp 71) (.tmp 73) 22 34 (.agg #[.string ⟨#[]⟩, .int .i64 0, .int .i64 0, .int .i64 0, .int .i64 0, .int .i64 0, .int .i64 0, .bool false]) 72 rfl Tryz.underlying22 (by kernel_rfl) rfl (by decide) (by omega) (.slice A5 acc.length c5) acc r [.string r.f0, .int .i64 r.f1, .int .i64 r.f2, .int .i64 r.f3, .int .i64 r.f4, .int .i64 r.f5, .int .i64 r.f6, .bool r.f7] (fun _ => True) (fun _ => False) rfl rfl (k34_mkM _ _ _ r) (fun _ hk => hk.elim) (fun _ _ => trivial) hR4 hB4 hB4.size (by omega) ?_; intro v1 w5 hR5 hB5 hg5 hat5))
                    go_roundg go_
                    case measure => omega
                    case rel => exact ⟨i + 1, acc ++ [r], by first | rfl | (rw [hs1]), by omega, hR5, he, by simp; omega, hB5, FAt.app hF4 hR4 hg5, (hg5.block lb (blk_lt hl4) (Kd.R_ne hR4 hl4 (by decide))).trans hl4⟩
                  · rw [if_neg hE0] at he
                    subst he
                    have hne0 : (E != 0) = true := bne_iff_ne.2 hE0
                    have hBy := HI.out.bel
                    clear HI
                    go_wp2_with (go_at_call 24; refine cN.mono ?_; rintro e w4 ⟨rfl, hb4⟩)
                    go_ret3
                    exact ⟨_, rfl, Kd.R_nil _ _ _ _ _, hBy.trans (hb4.mono hBy.size)⟩
                | succ gk =>
                have hWd := blk_drewN hW 1
                rcases (by omega : k = 0 ∨ k = 1 ∨ k = 2 ∨ k = 3 ∨ k = 4 ∨ k = 5 ∨ k = 6 ∨ k = 7) with rfl | rfl | rfl | rfl | rfl | rfl | rfl | rfl
                · have ko := blk_cell hIn.fa.blk 0
                  have kw := (cell_eq hIn.wd 0).trans (hcs 0 s0 rfl)
                  have cK := (name_read (wr.drewN 1) w2.heap.size r s0 hWd)
                  have e9 : RO = if (rd1 0 s0 r).1 then rdFrom ([s0, s1, s2, s3, s4, s5, s6, s7].drop 1) 1 (rd1 0 s0 r).2 else none := hRO
                  clear hRO
                  go_wp2
                  go_region_with (go_at_call 34; refine cK.mono ?_; rintro e w4 ⟨rfl, hg4, hW4⟩)
                  all_goals (have hIn4 := hIn.step hW hg4 hgw hlg hAg hAy)
                  all_goals go_wp2
                  all_goals (
                    go_roundg gk
                    case measure => omega
                    case rel => exact ⟨1, _, _, rfl, by first | rfl | go_num, by omega, after_rd e9, hIn4, hW4, Nat.lt_of_lt_of_le hAy (by have := hg4.size; simp at this; exact this)⟩)
                · have ko := blk_cell hIn.fa.blk 2
                  have kw := (cell_eq hIn.wd 1).trans (hcs 1 s1 rfl)
                  have hf : (wr.drewN 1).cell? ⟨b 1, 0, none⟩ = _ := blk_cell (blk_drewN hIn.fa.b1 1) 0
                  have cK := (num_read_1 (wr.drewN 1) w2.heap.size (b 1) r s1 (hz s1 (by simp)) hWd hf)
                  have e9 : RO = if (rd1 1 s1 r).1 then rdFrom ([s0, s1, s2, s3, s4, s5, s6, s7].drop 2) 2 (rd1 1 s1 r).2 else none := hRO
                  clear hRO
                  go_wp2
                  go_region_with (go_at_call 53; refine cK.mono ?_; rintro e w4 ⟨rfl, hg4, hW4⟩)
                  all_goals (have hIn4 := hIn.step hW hg4 hgw hlg hAg hAy)
                  all_goals go_wp2
                  all_goals (
                    go_roundg gk
                    case measure => omega
                    case rel => exact ⟨2, _, _, rfl, by first | rfl | go_num, by omega, after_rd e9, hIn4, hW4, Nat.lt_of_lt_of_le hAy (by have := hg4.size; simp at this; exact this)⟩)
                · have ko := blk_cell hIn.fa.blk 4
                  have kw := (cell_eq hIn.wd 2).trans (hcs 2 s2 rfl)
                  have hf : (wr.drewN 1).cell? ⟨b 2, 0, none⟩ = _ := blk_cell (blk_drewN hIn.fa.b2 1) 0
                  have cK := (num_read_2 (wr.drewN 1) w2.heap.size (b 2) r s2 (hz s2 (by simp)) hWd hf)
                  have e9 : RO = if (rd1 2 s2 r).1 then rdFrom ([s0, s1, s2, s3, s4, s5, s6, s7].drop 3) 3 (rd1 2 s2 r).2 else none := hRO
                  clear hRO
                  go_wp2
                  go_region_with (go_at_call 53; refine cK.mono ?_; rintro e w4 ⟨rfl, hg4, hW4⟩)
                  all_goals (have hIn4 := hIn.step hW hg4 hgw hlg hAg hAy)
                  all_goals go_wp2
                  all_goals (
                    go_roundg gk
                    case measure => omega
                    case rel => exact ⟨3, _, _, rfl, by first | rfl | go_num, by omega, after_rd e9, hIn4, hW4, Nat.lt_of_lt_of_le hAy (by have := hg4.size; simp at this; exact this)⟩)
                · have ko := blk_cell hIn.fa.blk 6
                  have kw := (cell_eq hIn.wd 3).trans (hcs 3 s3 rfl)
                  have hf : (wr.drewN 1).cell? ⟨b 3, 0, none⟩ = _ := blk_cell (blk_drewN hIn.fa.b3 1) 0
                  have cK := (num_read_3 (wr.drewN 1) w2.heap.size (b 3) r s3 (hz s3 (by simp)) hWd hf)
                  have e9 : RO = if (rd1 3 s3 r).1 then rdFrom ([s0, s1, s2, s3, s4, s5, s6, s7].drop 4) 4 (rd1 3 s3 r).2 else none := hRO
                  clear hRO
                  go_wp2
                  go_region_with (go_at_call 53; refine cK.mono ?_; rintro e w4 ⟨rfl, hg4, hW4⟩)
                  all_goals (have hIn4 := hIn.step hW hg4 hgw hlg hAg hAy)
                  all_goals go_wp2
                  all_goals (
                    go_roundg gk
                    case measure => omega
                    case rel => exact ⟨4, _, _, rfl, by first | rfl | go_num, by omega, after_rd e9, hIn4, hW4, Nat.lt_of_lt_of_le hAy (by have := hg4.size; simp at this; exact this)⟩)
                · have ko := blk_cell hIn.fa.blk 8
                  have kw := (cell_eq hIn.wd 4).trans (hcs 4 s4 rfl)
                  have hf : (wr.drewN 1).cell? ⟨b 4, 0, none⟩ = _ := blk_cell (blk_drewN hIn.fa.b4 1) 0
                  have cK := (num_read_4 (wr.drewN 1) w2.heap.size (b 4) r s4 (hz s4 (by simp)) hWd hf)
                  have e9 : RO = if (rd1 4 s4 r).1 then rdFrom ([s0, s1, s2, s3, s4, s5, s6, s7].drop 5) 5 (rd1 4 s4 r).2 else none := hRO
                  clear hRO
                  go_wp2
                  go_region_with (go_at_call 53; refine cK.mono ?_; rintro e w4 ⟨rfl, hg4, hW4⟩)
                  all_goals (have hIn4 := hIn.step hW hg4 hgw hlg hAg hAy)
                  all_goals go_wp2
                  all_goals (
                    go_roundg gk
                    case measure => omega
                    case rel => exact ⟨5, _, _, rfl, by first | rfl | go_num, by omega, after_rd e9, hIn4, hW4, Nat.lt_of_lt_of_le hAy (by have := hg4.size; simp at this; exact this)⟩)
                · have ko := blk_cell hIn.fa.blk 10
                  have kw := (cell_eq hIn.wd 5).trans (hcs 5 s5 rfl)
                  have hf : (wr.drewN 1).cell? ⟨b 5, 0, none⟩ = _ := blk_cell (blk_drewN hIn.fa.b5 1) 0
                  have cK := (num_read_5 (wr.drewN 1) w2.heap.size (b 5) r s5 (hz s5 (by simp)) hWd hf)
                  have e9 : RO = if (rd1 5 s5 r).1 then rdFrom ([s0, s1, s2, s3, s4, s5, s6, s7].drop 6) 6 (rd1 5 s5 r).2 else none := hRO
                  clear hRO
                  go_wp2
                  go_region_with (go_at_call 53; refine cK.mono ?_; rintro e w4 ⟨rfl, hg4, hW4⟩)
                  all_goals (have hIn4 := hIn.step hW hg4 hgw hlg hAg hAy)
                  all_goals go_wp2
                  all_goals (
                    go_roundg gk
                    case measure => omega
                    case rel => exact ⟨6, _, _, rfl, by first | rfl | go_num, by omega, after_rd e9, hIn4, hW4, Nat.lt_of_lt_of_le hAy (by have := hg4.size; simp at this; exact this)⟩)
                · have ko := blk_cell hIn.fa.blk 12
                  have kw := (cell_eq hIn.wd 6).trans (hcs 6 s6 rfl)
                  have hf : (wr.drewN 1).cell? ⟨b 6, 0, none⟩ = _ := blk_cell (blk_drewN hIn.fa.b6 1) 0
                  have cK := (num_read_6 (wr.drewN 1) w2.heap.size (b 6) r s6 (hz s6 (by simp)) hWd hf)
                  have e9 : RO = if (rd1 6 s6 r).1 then rdFrom ([s0, s1, s2, s3, s4, s5, s6, s7].drop 7) 7 (rd1 6 s6 r).2 else none := hRO
                  clear hRO
                  go_wp2
                  go_region_with (go_at_call 53; refine cK.mono ?_; rintro e w4 ⟨rfl, hg4, hW4⟩)
                  all_goals (have hIn4 := hIn.step hW hg4 hgw hlg hAg hAy)
                  all_goals go_wp2
                  all_goals (
                    go_roundg gk
                    case measure => omega
                    case rel => exact ⟨7, _, _, rfl, by first | rfl | go_num, by omega, after_rd e9, hIn4, hW4, Nat.lt_of_lt_of_le hAy (by have := hg4.size; simp at this; exact this)⟩)
                · have ko := blk_cell hIn.fa.blk 14
                  have kw := (cell_eq hIn.wd 7).trans (hcs 7 s7 rfl)
                  have cK := (write_read (wr.drewN 1) w2.heap.size r s7 hWd)
                  have e9 : RO = if (rd1 7 s7 r).1 then rdFrom ([s0, s1, s2, s3, s4, s5, s6, s7].drop 8) 8 (rd1 7 s7 r).2 else none := hRO
                  clear hRO
                  go_wp2
                  go_region_with (go_at_call 43; refine cK.mono ?_; rintro e w4 ⟨rfl, hg4, hW4⟩)
                  all_goals (have hIn4 := hIn.step hW hg4 hgw hlg hAg hAy)
                  all_goals go_wp2
                  all_goals (
                    go_roundg gk
                    case measure => omega
                    case rel => exact ⟨8, _, _, rfl, by first | rfl | go_num, by omega, after_rd e9, hIn4, hW4, Nat.lt_of_lt_of_le hAy (by have := hg4.size; simp at this; exact this)⟩)
          · have er : rowOf (s0 :: ws) = none := by unfold rowOf; rw [if_neg (by simpa using h8)]
            rw [er] at he
            simp only at he
            subst he
            have n2 : ((ws.length : Int) + 1 == 8) = false := beq_eq_false_iff_ne.2 (by omega)
            go_wp2_with (go_at_call 22; refine cW.mono ?_; rintro e w2 ⟨A2, rfl, hA2, hown, hb2⟩; have hcs := str_cells hown; have k2 := hcs 0 s0 rfl; clear hcs)
            go_loopg [11, 12] 0 (fun g2 v11 v12 wy => v11 = .bool false ∧ v12 = .int .i64 0 ∧ Below w.heap.size w wy)
            case atStart => exact ⟨rfl, rfl, (hBx.trans (hb2.mono hBx.size)).alloc (hBx.trans (hb2.mono hBx.size)).size _⟩
            case round =>
              obtain ⟨rfl, rfl, hBy⟩ := hrel
              go_wp2
              go_ret3
              exact ⟨_, rfl, Kd.R_nil _ _ _ _ _, hBy⟩
        · rw [if_pos (show skipB (s0 :: ws) = true from by show (bt s0 0 == 35) = true; rw [eb, hsk])] at he
          clear eb
          go_wp2_with (go_at_call 22; refine cW.mono ?_; rintro e w2 ⟨A2, rfl, hA2, hown, hb2⟩; have hcs := str_cells hown; have k2 := hcs 0 s0 rfl; clear hcs)
          go_roundg gk
          case measure => omega
          case rel => exact ⟨i + 1, acc, by first | rfl | (rw [hs1]), by omega, Kd.R_below hR hb2, he, Nat.le_succ_of_le hacc, hBx.trans (hb2.mono hBx.size), hFx.below hb2, blk_below hlx hb2⟩
end Go.Proofs.YtbfhiiokajbdhaaGreatDoor.Fl
namespace Go.Proofs.YtbfhiiokajbdhaaGreatDoor.Q
open Go.RowKit Go.Proofs.YtbfhiiokajbdhaaGreatDoorW.PrintWords Go.Proofs.YtbfhiiokajbdhaaGreatDoorW.PrintLast Go.Proofs.YtbfhiiokajbdhaaGreatDoorW.PrintMore
attribute [local go_sem] max2_int max_two
set_option linter.unusedVariables false
set_option linter.unusedSimpArgs false
def table_Parse.f (a0 : ByteArray) : Option (List S34 × Int × Int) := if a0.size ≤ 1000000 then some (Go.Proofs.YtbfhiiokajbdhaaGreatDoor.Fl.parseR a0, Go.Proofs.YtbfhiiokajbdhaaGreatDoor.Fl.parseN a0, Go.Proofs.YtbfhiiokajbdhaaGreatDoor.Fl.parseE a0) else none
theorem table_Parse.calls (a0 : ByteArray) (r1 : List S34) (r2 : Int) (r3 : Int) (w : World) (hLd_ : Val.Laid w) (h : table_Parse.f a0 = some (r1, r2, r3)) :
    Calls Tryz.prog 7 #[.string a0] w fun e w' => ∃ v0_ : Value, e = .returned (.tuple #[v0_, .int .i64 r2, .int .i64 r3]) ∧ Kd.R k34 34 w' w.heap.size (fun _ => True) v0_ r1 ∧ Below w.heap.size w w' := by
  unfold table_Parse.f at h
  split at h
  · rename_i hc
    have h2 := Option.some.inj h
    simp only [Prod.mk.injEq] at h2
    obtain ⟨rfl, rfl, rfl⟩ := h2
    exact Go.Proofs.YtbfhiiokajbdhaaGreatDoor.Fl.parse_calls a0 w hLd_ hc
  · cases h
end Go.Proofs.YtbfhiiokajbdhaaGreatDoor.Q
