/- A part of the words that print.sh laid for this seat: what the claim names; the rest struck by a program of this workplace. -/
import Derived.Test.YtbpfbdljcdcgnaaWTab
/-! ### 56. Four, five, six operations that may come up next, in any order -/
namespace Go.Proofs.YtbpfbdljcdcgnaaW.PrintLast
section
variable {P : Program} {ops : Array Oper} {Q : Exit → Act → World → Prop} {md : Region.Mode} {S : World → Prop} {ds : List Nat} {T : Bool × List (List Nat × List Nat)}
end
end Go.Proofs.YtbpfbdljcdcgnaaW.PrintLast
