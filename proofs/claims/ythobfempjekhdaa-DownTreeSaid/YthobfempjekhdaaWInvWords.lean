/- A part of the words that print.sh laid for this seat: what the claim names; the rest struck by a program of this workplace. -/
import Derived.Test.YthobfempjekhdaaWInv
import Derived.Test.YthobfempjekhdaaWFootNe
namespace Go.Proofs.YthobfempjekhdaaW.PrintWords
open Go.RowKit
end Go.Proofs.YthobfempjekhdaaW.PrintWords
namespace Go.Proofs.YthobfempjekhdaaW.PrintLast
section
variable {ops : Array Oper} {a : Act} {o og : Oper} {g : Nat} {t : Tmp} {u : Bool}
end
end Go.Proofs.YthobfempjekhdaaW.PrintLast
