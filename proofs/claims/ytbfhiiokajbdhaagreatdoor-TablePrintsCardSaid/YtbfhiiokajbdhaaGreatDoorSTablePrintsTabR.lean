/- What the proof of TablePrints leans on: TabR. -/
import Derived.Test.YtbfhiiokajbdhaaGreatDoorProg
import Derived.Below
import Derived.WalkKit
import Derived.Deep.DeepFit
import Derived.Lib.Hide
import Derived.WalkMore
import Derived.LoopTactic
import Derived.OwnWalk
import Derived.Outline
import Derived.BigQuiet
import Derived.Deep.QuietTactic
import Derived.WalkSmall
import Derived.IntWalk
import Derived.Test.YtbfhiiokajbdhaaGreatDoorSTablePrintsTabA
set_option linter.unusedVariables false
set_option linter.unusedSimpArgs false
namespace Go.Proofs.YtbfhiiokajbdhaaGreatDoor.Tab
open Go.RowKit
theorem leaf0_ {P_ : Prop} (h_ : P_ := by
  simp only [Bool.not_true, Bool.not_false, Bool.true_and, Bool.false_and, Bool.and_false, Bool.and_true, Bool.true_or, Bool.false_or, Bool.or_true, Bool.or_false, Bool.false_beq, Bool.true_beq, beq_self_eq_true]
  go_enter Tryz.func50, Tryz.ntmps50
  go_wp2_with (first | (go_at_call 16; refine (cK _).mono ?_; rintro e w1 ⟨rfl, rfl⟩) | (go_at_call 17; refine (cW _).mono ?_; rintro e w2 ⟨rfl, rfl⟩))
  go_ret
  exact ⟨rfl, by exact (Below.refl _ _).alloc (Nat.le_refl _) _⟩) : P_ := h_
theorem leaf1_ {P_ : Prop} (h_ : P_ := by
  simp only [Bool.not_true, Bool.not_false, Bool.true_and, Bool.false_and, Bool.and_false, Bool.and_true, Bool.true_or, Bool.false_or, Bool.or_true, Bool.or_false, Bool.false_beq, Bool.true_beq, beq_self_eq_true]
  go_enter Tryz.func50, Tryz.ntmps50
  go_wp2_with (first | (go_at_call 16; refine (cK _).mono ?_; rintro e w1 ⟨rfl, rfl⟩) | (go_at_call 17; refine (cW _).mono ?_; rintro e w2 ⟨rfl, rfl⟩))
  refine wp_region_quiet_lit (by kernel_rfl) (by kernel_rfl) ?_
  dsimp only [List.append, HAppend.hAppend, Append.append]
  repeat (go_big_quiet_step ((go_at_call 17; exact Calls.quiet_of_same (cW _))))
  refine wpQuiet_nil ?_
  intro _ hw'
  obtain ⟨nq, hw''⟩ := hw'
  subst hw''
  go_wp2
  go_ret
  exact ⟨rfl, below_drewN ((Below.refl _ _).alloc (Nat.le_refl _) _) _⟩) : P_ := h_
set_option maxHeartbeats 4000000 in
set_option maxRecDepth 1000000 in
theorem range_calls (n : ByteArray) (u f a k s d : Int) (wr : Bool) (w : World) :
    Calls Tryz.prog 50 #[.agg #[.string n, .int .i64 u, .int .i64 f, .int .i64 a, .int .i64 k, .int .i64 s, .int .i64 d, .bool wr]] w fun e w' => e = .returned (.bool (rangeB u f a k s d wr)) ∧ Below w.heap.size w w' := by
  have cK := fun w => refKind_calls k w
  have cW := fun w => refWords_calls k w
  unfold rangeB
  cases e0 : decide (u < 1)
  case true =>
    exact leaf0_
  case false =>
    cases e1 : decide (247 < u)
    case true =>
      exact leaf0_
    case false =>
      cases e2 : decide (f < 1)
      case true =>
        exact leaf0_
      case false =>
        cases e3 : decide (4 < f)
        case true =>
          exact leaf0_
        case false =>
          cases e4 : kindB k
          case false =>
            rw [e4] at cK
            exact leaf0_
          case true =>
            rw [e4] at cK
            cases e5 : (k == 1)
            case false =>
              cases e6 : (k == 8)
              case false =>
                cases e7 : decide (f < 3)
                case true =>
                  exact leaf1_
                case false =>
                  cases e8 : decide (0 ≤ a)
                  case false =>
                    exact leaf1_
                  case true =>
                    rcases words_cases k with hw | hw | hw | hw
                    · skip
                      rw [hw] at cW
                      rw [hw, show (65536 - max 0 1 : Int) = 65535 by decide]
                      cases e9 : decide (a ≤ 65535)
                      case false =>
                        exact leaf1_
                      case true =>
                        cases e10 : decide (0 ≤ s)
                        case false =>
                          exact leaf1_
                        case true =>
                          cases e11 : decide (s ≤ 9)
                          case false =>
                            exact leaf1_
                          case true =>
                            cases e12 : decide (0 ≤ d)
                            case false =>
                              exact leaf1_
                            case true =>
                              cases e13 : decide (d ≤ 1000000000)
                              case false =>
                                exact leaf1_
                              case true =>
                                have hsd : IntKind.i64.wrap (s + d) = s + d := IntWalk.i64_in _ (by have := of_decide_eq_true e10; have := of_decide_eq_true e11; have := of_decide_eq_true e12; have := of_decide_eq_true e13; omega)
                                have hfm : IntKind.i64.wrap (f.tmod 2) = f.tmod 2 := IntWalk.i64_in _ (by have := of_decide_eq_false e2; have := of_decide_eq_false e3; rw [Int.tmod_eq_emod_of_nonneg (by omega)]; omega)
                                cases wr
                                case false =>
                                  exact leaf1_
                                case true =>
                                  cases e15 : (f.tmod 2 == 0)
                                  case false =>
                                    exact leaf1_
                                  case true =>
                                    exact leaf1_
                    · skip
                      rw [hw] at cW
                      rw [hw, show (65536 - max 1 1 : Int) = 65535 by decide]
                      cases e9 : decide (a ≤ 65535)
                      case false =>
                        exact leaf1_
                      case true =>
                        cases e10 : decide (0 ≤ s)
                        case false =>
                          exact leaf1_
                        case true =>
                          cases e11 : decide (s ≤ 9)
                          case false =>
                            exact leaf1_
                          case true =>
                            cases e12 : decide (0 ≤ d)
                            case false =>
                              exact leaf1_
                            case true =>
                              cases e13 : decide (d ≤ 1000000000)
                              case false =>
                                exact leaf1_
                              case true =>
                                have hsd : IntKind.i64.wrap (s + d) = s + d := IntWalk.i64_in _ (by have := of_decide_eq_true e10; have := of_decide_eq_true e11; have := of_decide_eq_true e12; have := of_decide_eq_true e13; omega)
                                have hfm : IntKind.i64.wrap (f.tmod 2) = f.tmod 2 := IntWalk.i64_in _ (by have := of_decide_eq_false e2; have := of_decide_eq_false e3; rw [Int.tmod_eq_emod_of_nonneg (by omega)]; omega)
                                cases wr
                                case false =>
                                  exact leaf1_
                                case true =>
                                  cases e15 : (f.tmod 2 == 0)
                                  case false =>
                                    exact leaf1_
                                  case true =>
                                    exact leaf1_
                    · skip
                      rw [hw] at cW
                      rw [hw, show (65536 - max 2 1 : Int) = 65534 by decide]
                      cases e9 : decide (a ≤ 65534)
                      case false =>
                        exact leaf1_
                      case true =>
                        cases e10 : decide (0 ≤ s)
                        case false =>
                          exact leaf1_
                        case true =>
                          cases e11 : decide (s ≤ 9)
                          case false =>
                            exact leaf1_
                          case true =>
                            cases e12 : decide (0 ≤ d)
                            case false =>
                              exact leaf1_
                            case true =>
                              cases e13 : decide (d ≤ 1000000000)
                              case false =>
                                exact leaf1_
                              case true =>
                                have hsd : IntKind.i64.wrap (s + d) = s + d := IntWalk.i64_in _ (by have := of_decide_eq_true e10; have := of_decide_eq_true e11; have := of_decide_eq_true e12; have := of_decide_eq_true e13; omega)
                                have hfm : IntKind.i64.wrap (f.tmod 2) = f.tmod 2 := IntWalk.i64_in _ (by have := of_decide_eq_false e2; have := of_decide_eq_false e3; rw [Int.tmod_eq_emod_of_nonneg (by omega)]; omega)
                                cases wr
                                case false =>
                                  exact leaf1_
                                case true =>
                                  cases e15 : (f.tmod 2 == 0)
                                  case false =>
                                    exact leaf1_
                                  case true =>
                                    exact leaf1_
                    · skip
                      rw [hw] at cW
                      rw [hw, show (65536 - max 4 1 : Int) = 65532 by decide]
                      cases e9 : decide (a ≤ 65532)
                      case false =>
                        exact leaf1_
                      case true =>
                        cases e10 : decide (0 ≤ s)
                        case false =>
                          exact leaf1_
                        case true =>
                          cases e11 : decide (s ≤ 9)
                          case false =>
                            exact leaf1_
                          case true =>
                            cases e12 : decide (0 ≤ d)
                            case false =>
                              exact leaf1_
                            case true =>
                              cases e13 : decide (d ≤ 1000000000)
                              case false =>
                                exact leaf1_
                              case true =>
                                have hsd : IntKind.i64.wrap (s + d) = s + d := IntWalk.i64_in _ (by have := of_decide_eq_true e10; have := of_decide_eq_true e11; have := of_decide_eq_true e12; have := of_decide_eq_true e13; omega)
                                have hfm : IntKind.i64.wrap (f.tmod 2) = f.tmod 2 := IntWalk.i64_in _ (by have := of_decide_eq_false e2; have := of_decide_eq_false e3; rw [Int.tmod_eq_emod_of_nonneg (by omega)]; omega)
                                cases wr
                                case false =>
                                  exact leaf1_
                                case true =>
                                  cases e15 : (f.tmod 2 == 0)
                                  case false =>
                                    exact leaf1_
                                  case true =>
                                    exact leaf1_
              case true =>
                cases e7 : decide (f < 3)
                case true =>
                  exact leaf1_
                case false =>
                  cases e8 : decide (0 ≤ a)
                  case false =>
                    exact leaf1_
                  case true =>
                    have hw : wordsOf k = 2 := by rw [eq_of_beq e6]; rfl
                    rw [hw] at cW
                    rw [hw, show (65536 - max 2 1 : Int) = 65534 by decide]
                    cases e9 : decide (a ≤ 65534)
                    case false =>
                      exact leaf1_
                    case true =>
                      cases e10 : decide (0 ≤ s)
                      case false =>
                        exact leaf1_
                      case true =>
                        cases e11 : decide (s ≤ 9)
                        case false =>
                          exact leaf1_
                        case true =>
                          cases e12 : decide (0 ≤ d)
                          case false =>
                            exact leaf1_
                          case true =>
                            cases e13 : decide (d ≤ 1000000000)
                            case false =>
                              exact leaf1_
                            case true =>
                              have hsd : IntKind.i64.wrap (s + d) = s + d := IntWalk.i64_in _ (by have := of_decide_eq_true e10; have := of_decide_eq_true e11; have := of_decide_eq_true e12; have := of_decide_eq_true e13; omega)
                              have hfm : IntKind.i64.wrap (f.tmod 2) = f.tmod 2 := IntWalk.i64_in _ (by have := of_decide_eq_false e2; have := of_decide_eq_false e3; rw [Int.tmod_eq_emod_of_nonneg (by omega)]; omega)
                              cases e14 : decide (0 < s + d)
                              case true =>
                                exact leaf1_
                              case false =>
                                cases wr
                                case false =>
                                  exact leaf1_
                                case true =>
                                  cases e15 : (f.tmod 2 == 0)
                                  case false =>
                                    exact leaf1_
                                  case true =>
                                    exact leaf1_
            case true =>
              cases e7 : decide (f < 3)
              case false =>
                exact leaf1_
              case true =>
                cases e8 : decide (0 ≤ a)
                case false =>
                  exact leaf1_
                case true =>
                  have hw : wordsOf k = 0 := by rw [eq_of_beq e5]; rfl
                  rw [hw] at cW
                  rw [hw, show (65536 - max 0 1 : Int) = 65535 by decide]
                  cases e9 : decide (a ≤ 65535)
                  case false =>
                    exact leaf1_
                  case true =>
                    cases e10 : decide (0 ≤ s)
                    case false =>
                      exact leaf1_
                    case true =>
                      cases e11 : decide (s ≤ 9)
                      case false =>
                        exact leaf1_
                      case true =>
                        cases e12 : decide (0 ≤ d)
                        case false =>
                          exact leaf1_
                        case true =>
                          cases e13 : decide (d ≤ 1000000000)
                          case false =>
                            exact leaf1_
                          case true =>
                            have hsd : IntKind.i64.wrap (s + d) = s + d := IntWalk.i64_in _ (by have := of_decide_eq_true e10; have := of_decide_eq_true e11; have := of_decide_eq_true e12; have := of_decide_eq_true e13; omega)
                            have hfm : IntKind.i64.wrap (f.tmod 2) = f.tmod 2 := IntWalk.i64_in _ (by have := of_decide_eq_false e2; have := of_decide_eq_false e3; rw [Int.tmod_eq_emod_of_nonneg (by omega)]; omega)
                            cases e14 : decide (0 < s + d)
                            case true =>
                              exact leaf1_
                            case false =>
                              cases wr
                              case false =>
                                exact leaf1_
                              case true =>
                                cases e15 : (f.tmod 2 == 0)
                                case false =>
                                  exact leaf1_
                                case true =>
                                  exact leaf1_
end Go.Proofs.YtbfhiiokajbdhaaGreatDoor.Tab
