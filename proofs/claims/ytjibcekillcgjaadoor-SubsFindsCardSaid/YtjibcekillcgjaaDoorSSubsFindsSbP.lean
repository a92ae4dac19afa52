/- What the proof of SubsFinds leans on: SbP. -/
import Derived.Test.YtjibcekillcgjaaDoorSSubsFindsSbR
set_option linter.unusedVariables false
set_option linter.unusedSimpArgs false
namespace Go.Proofs.YtjibcekillcgjaaDoor.Sb
open Go Go.RowKit Go.ChangeMaps Go.MapKept Go.Proofs.YtjibcekillcgjaaDoorW.PrintWords Go.Proofs.YtjibcekillcgjaaDoorW.PrintMore Go.Proofs.YtjibcekillcgjaaDoor.Q Go.Proofs.YtjibcekillcgjaaDoor.Mp Go.Proofs.YtjibcekillcgjaaDoor.Top Go.Proofs.YtjibcekillcgjaaDoor.Fm
attribute [local go_sem] max2_int max_two
def FRel (w : World) (xb mb : Nat) (l : List OpT) (gk : Nat) (v6 : Value) (wx : World) : Prop :=
  ∃ (i : Nat) (es : List Ent) (n : Int), v6 = .int .i64 i ∧ i + gk = l.length ∧ IAt wx xb mb es n ∧ Okay es n i ∧ Below w.heap.size w wx
abbrev RW (wx : World) (base : Nat) (v : Value) (ws : List WantT) : Prop := Kd.R k48 48 wx base (fun k => v.ownBlock = some k) v ws
def RiseRel (w : World) (xb mb : Nat) (es : List Ent) (n : Int) (ws : List WantT) (v8 : Value) (gk : Nat) (v10 : Value) (wx : World) : Prop :=
  ∃ (i : Nat), v10 = .int .i64 i ∧ i + gk = ws.length ∧ IAt wx xb mb es n ∧ RW wx w.heap.size v8 ws ∧ Below w.heap.size w wx
def EachRel (w : World) (xb mb : Nat) (es : List Ent) (n : Int) (ws : List WantT) (v8 : Value) (l : List OpT) (gk : Nat) (v11 : Value) (wx : World) : Prop :=
  ∃ (i : Nat), v11 = .int .i64 i ∧ i + gk = l.length ∧ IAt wx xb mb es n ∧ RW wx w.heap.size v8 ws ∧ Below w.heap.size w wx
def BestRel (wo : World) (base : Nat) (name : ByteArray) (O : List SubT) (v12 : Value) (gk : Nat) (v14 v15 : Value) (wx : World) : Prop :=
  ∃ (h : Nat), v14 = .int .i64 (bestQ name (O.take h)) ∧ v15 = .int .i64 h ∧ h + gk = O.length ∧ Kd.R k33 33 wx base (fun _ => True) v12 O ∧ Below wo.heap.size wo wx
def FoundRel (wo : World) (c : ByteArray) (ws : List WantT) (gk : Nat) (v16 v17 : Value) (wx : World) : Prop :=
  ∃ (h : Nat), v16 = .int .i64 (foundQ c (ws.take h)) ∧ v17 = .int .i64 h ∧ h + gk = ws.length ∧ Below wo.heap.size wo wx
theorem bytes_le {a b : ByteArray} (h : ltS a b = true) : Op.bytesLess a.toList b.toList = true ∧ Op.bytesLess b.toList a.toList = false ∧ (b.toList == a.toList) = false ∧ (a.toList == b.toList) = false := by
  refine ⟨h, ltS_asymm h, ?_, ?_⟩
  · rw [ba_eq]
    exact decide_eq_false (fun e => ltS_ne h e.symm)
  · rw [ba_eq]
    exact decide_eq_false (ltS_ne h)
set_option maxHeartbeats 8000000 in
set_option maxRecDepth 1000000 in
theorem finds_calls (A : Option Addr) (cp : Nat) (l : List OpT) (name : ByteArray) (w : World) (hL : Laid w) (hr : Kd.C k28 w A l.length l) (hc : l.length ≤ cp) :
    Calls Tryd.prog 5 #[.slice A l.length cp, .string name] w fun e w' => e = .returned (.bool true) ∧ Below w.heap.size w w' := by
  have cF := few_calls A cp l w hr hc
  have cI := fun W => name12_calls name W
  cases hf : fewO l
  · rw [hf] at cF
    clear hf hL hr hc cI
    go_enter Tryd.func5, Tryd.ntmps5
    go_wp2_with (go_at_call 7; refine cF.mono ?_; rintro e w1 ⟨rfl, hb1⟩)
    go_ret
    exact ⟨rfl, hb1⟩
  rw [hf] at cF
  cases hin : isName name
  · rw [hin] at cI
    clear hf hL hr hc hin
    go_enter Tryd.func5, Tryd.ntmps5
    go_wp2_with (first
      | (go_at_call 7; refine cF.mono ?_; rintro e w1 ⟨rfl, hb1⟩)
      | (go_at_call 15; refine (cI _).mono ?_; rintro e w2 ⟨rfl, hb2⟩))
    go_ret
    exact ⟨rfl, hb1.trans (hb2.mono hb1.size)⟩
  rw [hin] at cI
  by_cases d1 : 100 < name.size
  · clear hf hL hr hc hin
    have ed1 : decide ((100 : Int) < (name.size : Int)) = true := decide_eq_true (by omega)
    go_enter Tryd.func5, Tryd.ntmps5
    go_wp2_with (first
      | (go_at_call 7; refine cF.mono ?_; rintro e w1 ⟨rfl, hb1⟩)
      | (go_at_call 15; refine (cI _).mono ?_; rintro e w2 ⟨rfl, hb2⟩))
    go_ret
    exact ⟨rfl, hb1.trans (hb2.mono hb1.size)⟩
  have ed1 : decide ((100 : Int) < (name.size : Int)) = false := decide_eq_false (by omega)
  have fd1 : (100 < name.size) = False := eq_false d1
  obtain ⟨hl, hsz⟩ := few_all hf
  have HF := Lib.hid (And.intro hl (And.intro hsz hin))
  have HC := Lib.hid hr
  have HLd := Lib.hid hL
  clear hf hL hr hl hsz hc hin d1
  have cN := fun W => new_calls W
  go_enter Tryd.func5, Tryd.ntmps5
  go_wp2_with (first
    | (go_at_call 7; refine cF.mono ?_; rintro e w1 ⟨rfl, hb1⟩; clear cF)
    | (go_at_call 15; refine (cI w1).mono ?_; rintro e w2 ⟨rfl, hb2⟩; have hB2 := hb1.trans (hb2.mono hb1.size); clear cI)
    | (go_at_call 9; refine (cN w2).mono ?_; rintro e w3 ⟨rfl, hI3, hb3⟩; have hB3 := hB2.trans (hb3.mono hB2.size)))
  have hW : w.heap.size ≤ w2.heap.size := hB2.size
  obtain ⟨mb, hmb⟩ : ∃ x, x = w2.heap.size := ⟨_, rfl⟩
  rw [← hmb] at hI3 hW ⊢
  have HN := Lib.hid hW
  clear hW hmb hb1 hb2 hb3 hB2 cN ed1 fd1
  go_loopg [6] l.length (fun gk v6 wx => FRel w (mb + 1) mb l gk v6 wx)
  case atStart => exact ⟨0, [], 0, rfl, by omega, hI3, Okay.nil, hB3⟩
  case round =>
    obtain ⟨i, es, n, rfl, hig, hI, hO, hB⟩ := hrel
    clear hI3 hB3
    cases gk with
    | zero =>
      have hi : i = l.length := by omega
      have hnl : (i < l.length) = False := eq_false (by omega)
      have hlt1 : decide ((i : Int) < (l.length : Int)) = false := decide_eq_false (by omega)
      have hl1 := HF.out.1
      have hel := hO.len
      have c1 := find_calls wr (mb + 1) mb es n name (HLd.out.below hB) hI (by omega) hO.q0 HF.out.2.2
      have HO := Lib.hid (And.intro hO (show es.length ≤ 100 by omega))
      clear hO hig hi hel hl1
      go_wp2_with (go_at_call 16; refine c1.mono ?_; rintro e w5 ⟨v5, ws, rfl, hF5, hR5, hb5⟩)
      have hB5 := hB.trans (hb5.mono hB.size)
      have hI5 := hI.below hb5
      have hR5e := ownW (Kd.R_lower hR5 hB.size)
      obtain ⟨A5, cp5, rfl⟩ := Kd.R_slice hR5
      have hwl := bestis_len hF5
      have HS := Lib.hid (And.intro hF5 (show ws.length ≤ 100 by have := HO.out.2; omega))
      clear hB hI hb5 hR5 hwl hF5 c1 hnl hlt1
      go_loopg [10] ws.length (fun gk v10 wx => RiseRel w (mb + 1) mb es n ws (.slice A5 ws.length cp5) gk v10 wx)
      case atStart => exact ⟨0, rfl, by omega, hI5, hR5e, hB5⟩
      case round =>
        obtain ⟨i, rfl, hig, hIx, hRx, hBx⟩ := hrel
        clear hB5 hI5 hR5e
        cases gk with
        | zero =>
          have hi : i = ws.length := by omega
          have hnl : (i < ws.length) = False := eq_false (by omega)
          have hlt1 : decide ((i : Int) < (ws.length : Int)) = false := decide_eq_false (by omega)
          clear hig
          go_wp2
          go_loopg [11] l.length (fun gk v11 wx => EachRel w (mb + 1) mb es n ws (.slice A5 ws.length cp5) l gk v11 wx)
          case atStart => exact ⟨0, rfl, by omega, hIx, hRx, hBx⟩
          case round =>
            obtain ⟨i, rfl, hig, hIy, hRy, hBy⟩ := hrel
            clear hIx hRx hBx hnl hlt1 hi
            cases gk with
            | zero =>
              have hi : i = l.length := by omega
              have hnl : (i < l.length) = False := eq_false (by omega)
              have hlt1 : decide ((i : Int) < (l.length : Int)) = false := decide_eq_false (by omega)
              have cW := awake_calls _ (HLd.out.below hBy)
              clear hIy hRy hig hi
              go_wp2_with (go_at_call 13; refine cW.mono ?_; rintro e w6 ⟨rfl, hb6⟩)
              go_ret
              exact ⟨rfl, hBy.trans (hb6.mono hBy.size)⟩
            | succ gk =>
              have hi : i < l.length := by omega
              have hlt1 : decide ((i : Int) < (l.length : Int)) = true := decide_eq_true (by omega)
              have hC := Kd.C_below HC.out hBy
              obtain ⟨ad, eA, -, k1, -⟩ := cells_O hC i hi
              subst eA
              have p0 : ((0 : Int) ≤ (i : Int)) = True := eq_true (by omega)
              have p1 : ((i : Int) < (l.length : Int)) = True := eq_true (by omega)
              have hl1 := HF.out.1
              have hs1 : IntKind.i64.wrap ((i : Int) + 1) = ((i + 1 : Nat) : Int) := by rw [IntWalk.i64_in _ (by omega)]; rfl
              obtain ⟨c, hce⟩ : ∃ c, c = (rd_T28 l (i : Int)).f1 := ⟨_, rfl⟩
              rw [← hce] at k1
              have cO := of_calls wr (mb + 1) mb es n c hIy (by have := HO.out.2; omega)
              have hol := of_len es c
              have hbf := best_found HO.out.1 HF.out.2.2 HS.out.1 c
              have hof := of_flt HO.out.1 c
              generalize ofF es c = O at cO hol hbf hof
              have HE := Lib.hid (And.intro hbf (And.intro hof (And.intro (show O.length ≤ 100 by have := HO.out.2; omega) (And.intro hIy (And.intro hRy (And.intro hBy (And.intro hig k1)))))))
              clear hol hbf hof hIy hRy hig hC hce
              obtain ⟨go_, rfl⟩ : ∃ x, x = gk := ⟨_, rfl⟩
              go_wp2_with (go_at_call 11; refine cO.mono ?_; rintro e w6 ⟨v12, rfl, hR6, hb6⟩)
              obtain ⟨A12, cp12, rfl⟩ := Kd.R_slice hR6
              obtain ⟨wq, rfl⟩ : ∃ x, x = wr := ⟨_, rfl⟩
              clear k1 cO hlt1 p0 p1 hBy
              have HB6 := Lib.hid hb6
              clear hb6
              go_loopg [14, 15] O.length (fun gk v14 v15 wx => BestRel w6 wq.heap.size name O (.slice A12 O.length cp12) gk v14 v15 wx)
              case atStart => exact ⟨0, rfl, rfl, by omega, hR6, Below.refl _ _⟩
              case round =>
                obtain ⟨h, rfl, rfl, hhg, hR, hB7⟩ := hrel
                clear hR6
                cases gk with
                | zero =>
                  have hh : h = O.length := by omega
                  have hnl : (h < O.length) = False := eq_false (by omega)
                  have hlt2 : decide ((h : Int) < (O.length : Int)) = false := decide_eq_false (by omega)
                  rw [hh, List.take_length, HE.out.1]
                  have hb7 := HB6.out.trans (hB7.mono HB6.out.size)
                  have HB7 := Lib.hid hb7
                  rw [hh] at hnl hlt2
                  clear hR hb7 hhg
                  subst hh
                  go_wp2
                  obtain ⟨wp, rfl⟩ : ∃ x, x = wr := ⟨_, rfl⟩
                  clear hB7
                  go_loopg [16, 17] ws.length (fun gk v16 v17 wx => FoundRel wp c ws gk v16 v17 wx)
                  case atStart => exact ⟨0, rfl, rfl, by omega, Below.refl _ _⟩
                  case round =>
                    obtain ⟨h, rfl, rfl, hhg, hB8⟩ := hrel
                    clear hnl hlt2
                    cases gk with
                    | zero =>
                      have hh : h = ws.length := by omega
                      have hnl : (h < ws.length) = False := eq_false (by omega)
                      have hlt2 : decide ((h : Int) < (ws.length : Int)) = false := decide_eq_false (by omega)
                      rw [hh, List.take_length]
                      rw [hh] at hnl hlt2
                      clear hhg
                      generalize foundQ c ws = r at *
                      go_wp2
                      obtain ⟨gk, rfl⟩ : ∃ x, x = go_ := ⟨_, rfl⟩
                      go_roundg gk
                      case measure => omega
                      case rel =>
                        obtain ⟨-, -, -, hIy, hRy, hBy, hig, -⟩ := HE.out
                        have hb8 := HB7.out.trans (hB8.mono HB7.out.size)
                        exact ⟨i + 1, by first | rfl | (rw [hs1]), by omega, hIy.below hb8, Kd.R_below hRy hb8, hBy.trans (hb8.mono hBy.size)⟩
                    | succ gk =>
                      have hh : h < ws.length := by omega
                      have hyl : (h < ws.length) = True := eq_true hh
                      have hlt2 : decide ((h : Int) < (ws.length : Int)) = true := decide_eq_true (by omega)
                      have q0 : ((0 : Int) ≤ (h : Int)) = True := eq_true (by omega)
                      have q1 : ((h : Int) < (ws.length : Int)) = True := eq_true (by omega)
                      have p0 : ((0 : Int) ≤ (i : Int)) = True := eq_true (by omega)
                      have p1 : ((i : Int) < (l.length : Int)) = True := eq_true (by omega)
                      have hs3 : IntKind.i64.wrap ((h : Int) + 1) = ((h + 1 : Nat) : Int) := by rw [IntWalk.i64_in _ (by have := HS.out.2; omega)]; rfl
                      have hb8 := HB7.out.trans (hB8.mono HB7.out.size)
                      have k1 := cell_later hb8 HE.out.2.2.2.2.2.2.2
                      obtain ⟨ad5, eA, g0, g1⟩ := at_T48 (Kd.R_reads' (Kd.R_below HE.out.2.2.2.2.1 hb8)).2.2 (h : Int) (by omega) (by omega)
                      rw [Int.toNat_natCast] at g0 g1
                      subst eA
                      obtain ⟨y, hy⟩ : ∃ y, rd_T48 ws (h : Int) = y := ⟨_, rfl⟩
                      rw [hy] at g0 g1
                      have hst : foundQ c (ws.take (h + 1)) = stepF c (foundQ c (ws.take h)) y := by
                        rw [List.take_succ_eq_append_getElem hh, foundQ_snoc]
                        congr 1
                        rw [← hy]
                        unfold rd_T48
                        rw [Int.toNat_natCast, List.getD_eq_getElem?_getD, List.getElem?_eq_getElem hh]
                        rfl
                      have HT := Lib.hid hst
                      clear hst hy hb8
                      cases he : (y.f0.toList == c.toList)
                      · have hne : y.f0 ≠ c := fun e => by rw [e] at he; simp at he
                        have HNE := Lib.hid hne
                        clear hne
                        go_wp2
                        go_quiet (fail)
                        go_wp2
                        go_roundg gk
                        case measure => omega
                        case rel =>
                          have hst := HT.out
                          unfold stepF at hst
                          rw [if_neg HNE.out] at hst
                          exact ⟨h + 1, by rw [hst], by first | rfl | (rw [hs3]), by omega, pw_below_drewN hB8 _⟩
                      · have hne : y.f0 = c := by
                          rw [ba_eq] at he
                          exact of_decide_eq_true he
                        have HNE := Lib.hid hne
                        clear hne
                        go_wp2
                        go_quiet (fail)
                        go_wp2
                        go_roundg gk
                        case measure => omega
                        case rel =>
                          have hst := HT.out
                          unfold stepF at hst
                          rw [if_pos HNE.out] at hst
                          exact ⟨h + 1, by rw [hst], by first | rfl | (rw [hs3]), by omega, pw_below_drewN hB8 _⟩
                | succ gk =>
                  have hh : h < O.length := by omega
                  have hyl : (h < O.length) = True := eq_true hh
                  have hlt2 : decide ((h : Int) < (O.length : Int)) = true := decide_eq_true (by omega)
                  have q0 : ((0 : Int) ≤ (h : Int)) = True := eq_true (by omega)
                  have q1 : ((h : Int) < (O.length : Int)) = True := eq_true (by omega)
                  have hs3 : IntKind.i64.wrap ((h : Int) + 1) = ((h + 1 : Nat) : Int) := by rw [IntWalk.i64_in _ (by have := HE.out.2.2.1; omega)]; rfl
                  obtain ⟨ad5, eA, g0, g1⟩ := at_T33 (Kd.R_reads' hR).2.2 (h : Int) (by omega) (by omega)
                  rw [Int.toNat_natCast] at g0 g1
                  subst eA
                  have hyi : rd_T33 O (h : Int) = O[h] := by
                    unfold rd_T33
                    rw [Int.toNat_natCast, List.getD_eq_getElem?_getD, List.getElem?_eq_getElem hh]
                    rfl
                  obtain ⟨y, hy⟩ : ∃ y, rd_T33 O (h : Int) = y := ⟨_, rfl⟩
                  rw [hy] at g0 g1 hyi
                  have hyf : isFilter y.f0 = true := HE.out.2.1 y (by rw [hyi]; exact List.getElem_mem hh)
                  have cT := fun W => takes_calls y.f0 name hyf HF.out.2.2 W
                  have hst : bestQ name (O.take (h + 1)) = stepB name (bestQ name (O.take h)) y := by
                    rw [List.take_succ_eq_append_getElem hh, bestQ_snoc, ← hyi]
                  have HT := Lib.hid hst
                  generalize bestQ name (O.take h) = bq at *
                  have HR := Lib.hid hR
                  have G1 := Lib.hid g1
                  clear hst hy hyi hyf hR
                  cases ht : tkS name y.f0
                  · rw [ht] at cT
                    have HTK := Lib.hid ht
                    clear ht
                    go_wp2_with (go_at_call 19; refine (cT _).mono ?_; rintro e w8 ⟨rfl, hb8⟩)
                    go_roundg gk
                    case measure => omega
                    case rel =>
                      have hst := HT.out
                      unfold stepB at hst
                      rw [HTK.out, if_neg (by decide)] at hst
                      exact ⟨h + 1, by rw [hst], by first | rfl | (rw [hs3]), by omega, Kd.R_below HR.out hb8, hB7.trans (hb8.mono hB7.size)⟩
                  · rw [ht] at cT
                    have HTK := Lib.hid ht
                    clear ht
                    by_cases hq : bq < y.f1
                    · have HQ := Lib.hid hq
                      go_wp2_with (go_at_call 19; refine (cT _).mono ?_; rintro e w8 ⟨rfl, hb8⟩; have g2 := cell_later hb8 G1.out)
                      go_roundg gk
                      case measure => omega
                      case rel =>
                        have hst := HT.out
                        unfold stepB at hst
                        rw [HTK.out, if_pos rfl, if_pos HQ.out] at hst
                        exact ⟨h + 1, by rw [hst], by first | rfl | (rw [hs3]), by omega, Kd.R_below HR.out hb8, hB7.trans (hb8.mono hB7.size)⟩
                    · have HQ := Lib.hid hq
                      go_wp2_with (go_at_call 19; refine (cT _).mono ?_; rintro e w8 ⟨rfl, hb8⟩; have g2 := cell_later hb8 G1.out)
                      go_roundg gk
                      case measure => omega
                      case rel =>
                        have hst := HT.out
                        unfold stepB at hst
                        rw [HTK.out, if_pos rfl, if_neg (Int.not_lt.2 HQ.out)] at hst
                        exact ⟨h + 1, by rw [hst], by first | rfl | (rw [hs3]), by omega, Kd.R_below HR.out hb8, hB7.trans (hb8.mono hB7.size)⟩
        | succ gk =>
          have hi : i < ws.length := by omega
          have hlt1 : decide ((i : Int) < (ws.length : Int)) = true := decide_eq_true (by omega)
          have hyl : (i < ws.length) = True := eq_true hi
          have hwl := HS.out.2
          have hs1 : IntKind.i64.wrap ((i : Int) + 1) = ((i + 1 : Nat) : Int) := by rw [IntWalk.i64_in _ (by omega)]; rfl
          by_cases h0 : i = 0
          · subst h0
            have z0 : decide (((0 : Nat) : Int) > 0) = false := by decide
            have HX := Lib.hid (And.intro hIx (And.intro hRx hBx))
            clear hIx hRx hBx
            go_wp2
            go_quiet (fail)
            go_wp2
            go_roundg gk
            case measure => omega
            case rel =>
              obtain ⟨hIx, hRx, hBx⟩ := HX.out
              exact ⟨1, by first | rfl | (rw [hs1]), by omega, hIx.below (pw_below_drewN (Below.refl _ _) _), Kd.R_drewN hRx _, pw_below_drewN hBx _⟩
          · obtain ⟨j, hj⟩ : ∃ j, j + 1 = i := ⟨i - 1, by omega⟩
            have hr1 := rise_at HS.out.1.1 (j := j) (by omega)
            rw [hj] at hr1
            have z0 : decide ((i : Int) > 0) = true := decide_eq_true (by omega)
            have z1 : (0 < i) = True := eq_true (by omega)
            have hs2 : IntKind.i64.wrap ((i : Int) - 1) = (j : Int) := by rw [IntWalk.i64_in _ (by omega)]; omega
            have p0 : ((0 : Int) ≤ (i : Int)) = True := eq_true (by omega)
            have p1 : ((i : Int) < (ws.length : Int)) = True := eq_true (by omega)
            have q0 : ((0 : Int) ≤ (j : Int)) = True := eq_true (by omega)
            have q1 : ((j : Int) < (ws.length : Int)) = True := eq_true (by omega)
            obtain ⟨ad5, eA, k0, -⟩ := at_T48 (Kd.R_reads' hRx).2.2 (i : Int) (by omega) (by omega)
            obtain ⟨ad6, eA6, g0, -⟩ := at_T48 (Kd.R_reads' hRx).2.2 (j : Int) (by omega) (by omega)
            rw [Int.toNat_natCast] at k0 g0
            subst eA
            injection eA6 with eA6
            subst eA6
            obtain ⟨r1, r2, r3, r4⟩ := bytes_le hr1
            generalize (rd_T48 ws (i : Int)).f0 = y at k0 r1 r2 r3 r4
            generalize (rd_T48 ws (j : Int)).f0 = z at g0 r1 r2 r3 r4
            have HX := Lib.hid (And.intro hIx (And.intro hRx (And.intro hBx hig)))
            clear hIx hRx hBx hj hr1 h0 hig hi hwl
            go_wp2
            go_quiet (fail)
            go_wp2
            obtain ⟨hIx, hRx, hBx, hig⟩ := HX.out
            go_roundg gk
            case measure => omega
            case rel =>
              exact ⟨i + 1, by first | rfl | (rw [hs1]), by omega, hIx.below (pw_below_drewN (Below.refl _ _) _), Kd.R_drewN hRx _, pw_below_drewN hBx _⟩
    | succ gk =>
      have hi : i < l.length := by omega
      have hlt1 : decide ((i : Int) < (l.length : Int)) = true := decide_eq_true (by omega)
      have hC := Kd.C_below HC.out hB
      obtain ⟨ad, eA, k0, k1, k2, k3⟩ := cells_O hC i hi
      subst eA
      have p0 : ((0 : Int) ≤ (i : Int)) = True := eq_true (by omega)
      have p1 : ((i : Int) < (l.length : Int)) = True := eq_true (by omega)
      have hl1 := HF.out.1
      have hs1 : IntKind.i64.wrap ((i : Int) + 1) = ((i + 1 : Nat) : Int) := by rw [IntWalk.i64_in _ (by omega)]; rfl
      have hm := HF.out.2.1 _ (rd_mem l i hi)
      obtain ⟨m, hmm⟩ : ∃ m, rd_T28 l (i : Int) = m := ⟨_, rfl⟩
      rw [hmm] at k0 k1 k2 k3 hm
      have hB5 := hB.alloc hB.size (.cells #[.int .i64 m.f0, .string m.f1, .string m.f2, .int .i64 m.f3] 28 (0, 0))
      have hal := (Below.refl wr.heap.size wr).alloc (Nat.le_refl _) (.cells #[.int .i64 m.f0, .string m.f1, .string m.f2, .int .i64 m.f3] 28 (0, 0))
      have hI5 := hI.below hal
      have okm : okK (m.f1, m.f2) := by unfold okK maxLen; exact ⟨by show m.f1.size ≤ _; omega, by show m.f2.size ≤ _; omega⟩
      have hn0 := hO.n0
      have hn1 := hO.n1
      have hel := hO.len
      have c1 := drop_calls _ (mb + 1) mb es n (m.f1, m.f2) (HLd.out.below hB5) hI5 okm
      have c2 := gone_calls _ (mb + 1) mb es n m.f1 hI5 (by omega)
      have c3 := add_calls _ (mb + 1) mb es n (m.f1, m.f2) m.f3 (HLd.out.below hB5) hI5 okm hn0 (by omega)
      unfold DropPost at c1
      unfold GonePost at c2
      unfold AddPost at c3
      have HM := Lib.hid (And.intro hO (And.intro hB5 (And.intro hI.lt hig)))
      clear hmm hC hm hal hI5 hB5 okm hO hI hB hig hn0 hn1 hel hl1
      cases e1 : (m.f0 == 1)
      · cases e2 : (m.f0 == 2)
        · go_wp2_with (go_at_call 10; refine c3.mono ?_; rintro e w6 ⟨rfl, hf6, hI6⟩)
          go_roundg gk
          case measure => omega
          case rel =>
            have hN := HN.out
            obtain ⟨hO, hB5, hlt, hig⟩ := HM.out
            exact ⟨i + 1, _, _, by first | rfl | (rw [hs1]), by omega, hI6, hO.add _ _, hf6.far hB5 hB5.size (XB_le (by omega) (by omega))⟩
        · go_wp2_with (go_at_call 18; refine c2.mono ?_; rintro e w6 ⟨rfl, hf6, hI6⟩)
          go_roundg gk
          case measure => omega
          case rel =>
            have hN := HN.out
            obtain ⟨hO, hB5, hlt, hig⟩ := HM.out
            exact ⟨i + 1, _, _, by first | rfl | (rw [hs1]), by omega, hI6, (hO.gone _).mono (Nat.le_succ i), hf6.far hB5 hB5.size (XB_le (by omega) (by omega))⟩
      · go_wp2_with (go_at_call 12; refine c1.mono ?_; rintro e w6 ⟨rfl, hf6, hI6⟩)
        go_roundg gk
        case measure => omega
        case rel =>
          have hN := HN.out
          obtain ⟨hO, hB5, hlt, hig⟩ := HM.out
          exact ⟨i + 1, _, _, by first | rfl | (rw [hs1]), by omega, hI6, (hO.drop _).mono (Nat.le_succ i), hf6.far hB5 hB5.size (XB_le (by omega) (by omega))⟩
end Go.Proofs.YtjibcekillcgjaaDoor.Sb
