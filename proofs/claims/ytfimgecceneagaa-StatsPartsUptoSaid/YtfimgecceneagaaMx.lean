/- What this seat's function texts take of the print's words 'More': a cheap look ahead at a call; the greater and the smaller of two numbers. -/
import Derived.Test.YtfimgecceneagaaWWords
import Derived.Test.YtfimgecceneagaaWLast
namespace Go.Proofs.YtfimgecceneagaaW.PrintLast
open Go.RowKit Go.Proofs.YtfimgecceneagaaW.PrintWords
section
variable {P : Program} {ops : Array Oper} {rest : List Oper} {o : Oper} {a : Act} {Q : Exit → Act → World → Prop} {W : World}
theorem gate_callee {f : FuncId} {as : Array Operand} {ts : Array TypeId} (_ho : o.op = .call { callee := .value (.func f), args := as, argTypes := ts }) (h : wpList P ops Q (o :: rest) a W) : wpList P ops Q (o :: rest) a W := h
end
def mx (a b : Int) : Int := if a < b then b else a
def mn (a b : Int) : Int := if b < a then b else a
end Go.Proofs.YtfimgecceneagaaW.PrintLast
