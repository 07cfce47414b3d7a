/- A part of the words that print.sh laid for this seat: what the claim names; the rest struck by a program of this workplace. -/
import Derived.Test.YtbpfbdljcdcgnaaWInv
import Derived.Test.YtbpfbdljcdcgnaaWFootNe
namespace Go.Proofs.YtbpfbdljcdcgnaaW.PrintWords
open Go.RowKit
end Go.Proofs.YtbpfbdljcdcgnaaW.PrintWords
namespace Go.Proofs.YtbpfbdljcdcgnaaW.PrintLast
section
variable {ops : Array Oper} {a : Act} {o og : Oper} {g : Nat} {t : Tmp} {u : Bool}
end
end Go.Proofs.YtbpfbdljcdcgnaaW.PrintLast
