/- What the proof of RetainKeeps leans on: WMore. -/
import Derived.Test.YtdchcdagjnaicaaDoorSRetainKeepsWWords
import Derived.Test.YtdchcdagjnaicaaDoorSRetainKeepsWLast
namespace Go.Proofs.YtdchcdagjnaicaaDoorW.PrintMore
open Go.RowKit Go.Proofs.YtdchcdagjnaicaaDoorW.PrintWords
namespace Kd
open Go.Proofs.YtdchcdagjnaicaaDoorW.PrintWords.Kd
end Kd
namespace Kd
open Go.Proofs.YtdchcdagjnaicaaDoorW.PrintWords.Kd
section
variable {α : Type} {d : Kd α} {e base g N : Nat} {ok : Nat → Prop} {W w1 : World} {u v : Value} {xs : List α}
end
end Kd
end Go.Proofs.YtdchcdagjnaicaaDoorW.PrintMore
namespace Go.Proofs.YtdchcdagjnaicaaDoorW.PrintWords
open Go.RowKit
section
variable {P : Program} {ops : Array Oper} {rest : List Oper} {o : Oper} {a : Act} {Q : Exit → Act → World → Prop} {W : World}
theorem gate_callee {f : FuncId} {as : Array Operand} {ts : Array TypeId} (_ho : o.op = .call { callee := .value (.func f), args := as, argTypes := ts }) (h : wpList P ops Q (o :: rest) a W) : wpList P ops Q (o :: rest) a W := h
theorem gate_builtin {b : Builtin} {xs : Array Operand} {ts : Array TypeId} (_ho : o.op = .call { callee := .builtin b, args := xs, argTypes := ts }) (h : wpList P ops Q (o :: rest) a W) : wpList P ops Q (o :: rest) a W := h
end
namespace Kd
section
variable {α : Type} {d : Kd α} {e base : Nat} {ok : Nat → Prop} {W w1 : World} {v : Value} {xs : List α}
end
section
variable {α : Type} {d : Kd α} {e base g n cap : Nat} {ok oki okp : Nat → Prop} {W : World} {xs : List α} {i : Int} {c : List Value}
end
section
variable {α : Type} {d : Kd α} {e base b b' g N : Nat} {ok ok1 : Nat → Prop} {W W2 w1 : World} {u v : Value} {xs ys : List α} {S : Nat → Prop}
end
end Kd
end Go.Proofs.YtdchcdagjnaicaaDoorW.PrintWords
namespace Go.Proofs.YtdchcdagjnaicaaDoorW.PrintWords
open Go.RowKit
namespace Kd
section
variable {α β : Type} {d : Kd α} {e base base' n m c g N' lo hi : Nat} {ok ok' S : Nat → Prop} {w W w1 : World} {A : Option Addr} {ad : Addr} {u v v1 : Value} {xs : List α}
end
end Kd
end Go.Proofs.YtdchcdagjnaicaaDoorW.PrintWords
