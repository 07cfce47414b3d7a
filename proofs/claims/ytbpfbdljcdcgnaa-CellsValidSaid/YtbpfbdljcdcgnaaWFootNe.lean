/- A part of the words that print.sh laid for this seat: what the claim names; the rest struck by a program of this workplace. -/
import Derived.Test.YtbpfbdljcdcgnaaWN
/-! ### 52. A row that stays read whatever happens to a block (a set of blocks) doesn't lie there -/
namespace Go.Proofs.YtbpfbdljcdcgnaaW.PrintWords
open Go.RowKit
namespace Kd
section
variable {α : Type} {d : Kd α} {W : World} {g n : Nat} {S ok : Nat → Prop} {A : Option Addr} {ad : Addr} {xs : List α}
end
end Kd
end Go.Proofs.YtbpfbdljcdcgnaaW.PrintWords
