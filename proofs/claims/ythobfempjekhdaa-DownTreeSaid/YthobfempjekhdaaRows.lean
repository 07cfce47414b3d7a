/-
  No cell of these rows narrows 'for every input' (looked for: loops, veiled, ifaces, maps, wideKeys, modest, calm, conditions, laid).
  DERIVED. THE GIVEN ROWS OF THIS SEAT. 7 by the template 'for every input the law returns true; each argument reads behind the call as it read before'; 0 by the template 'total and deterministic' (their statements: YthobfempjekhdaaTotals.lean).
  GIVEN WITH THE SEED: the statements are not yours to turn. If you find one false, say at which input.
  Laid BY PROGRAM, IN A SANDBOX (cutbox-rows.mjs): the forced cells as the released guide's own fill.sh prints them over the translation 1ae9749239817289… (all of the seat's roots in one cut). By AI agents, Wed Nov 11 2026. No macro, syntax, notation, axiom, sorry.
-/
import Derived.Test.YthobfempjekhdaaChecked
import GoSem.Claim
import GoSem.ClaimJoined
import GoSem.ClaimMapViews
import Derived.JoinedTies
import Derived.KernelRfl
namespace Go.Proofs.Ythobfempjekhdaa
/- THE CELL 'sum', in the pinned program and in every row, IS THE sha256 OF THE DUMP (.gsa) THAT YthobfempjekhdaaProg.lean LOADS. Nothing in Lean hashes anything: it is a label: what it is worth is what the hold of that sum in a sandbox is worth. -/
noncomputable def Try.pinned : Pinned := { name := "ythobfempjekhdaa", sum := "1ae9749239817289f2b53c39465e92d9bd7c2081dbfcfb4d763f9a10100229e1", checked := Try.checked }
namespace Rows
def none {H : Type} : Left H := { results := [], args := [] }

/-- 'slotmeshlaw21.DownMatchesReference': WHATEVER THE INPUT: true; the input reads as it did. -/
def downMatchesReferenceSpec : ChangeSpec := { name := "downMatchesReference", fn := fun _ => fun
  | [d1, d2, d3, d4, d5, d6] => { results := [.lit (.bool true)], args := [d1, d2, d3, d4, d5, d6] }
  | _ => none }
def downMatchesReferenceRow : OpenClaim := { program := "ythobfempjekhdaa", sum := "1ae9749239817289f2b53c39465e92d9bd7c2081dbfcfb4d763f9a10100229e1", func := "slotmesh/slotmeshlaw21.DownMatchesReference", spec := "downMatchesReference", unfollowed := true, recurses := true, apart := false }
def DownMatchesReferenceSaid : Prop := downMatchesReferenceRow.holds Try.pinned (OpenSpec.ofChange downMatchesReferenceSpec)

/-- ITS FALSE NEIGHBOUR: 'it returns false'. Refute it at one input. -/
def downMatchesReferenceWrong : ChangeSpec := { name := "downMatchesReference", fn := fun _ => fun
  | [d1, d2, d3, d4, d5, d6] => { results := [.lit (.bool false)], args := [d1, d2, d3, d4, d5, d6] }
  | _ => none }
def DownMatchesReferenceWrongFalsely : Prop := downMatchesReferenceRow.holds Try.pinned (OpenSpec.ofChange downMatchesReferenceWrong)

/-- 'slotmeshlaw21.DownValid': WHATEVER THE INPUT: true; the input reads as it did. -/
def downValidSpec : ChangeSpec := { name := "downValid", fn := fun _ => fun
  | [d1, d2, d3, d4, d5] => { results := [.lit (.bool true)], args := [d1, d2, d3, d4, d5] }
  | _ => none }
def downValidRow : OpenClaim := { program := "ythobfempjekhdaa", sum := "1ae9749239817289f2b53c39465e92d9bd7c2081dbfcfb4d763f9a10100229e1", func := "slotmesh/slotmeshlaw21.DownValid", spec := "downValid", unfollowed := true, recurses := true, apart := false }
def DownValidSaid : Prop := downValidRow.holds Try.pinned (OpenSpec.ofChange downValidSpec)

/-- ITS FALSE NEIGHBOUR: 'it returns false'. Refute it at one input. -/
def downValidWrong : ChangeSpec := { name := "downValid", fn := fun _ => fun
  | [d1, d2, d3, d4, d5] => { results := [.lit (.bool false)], args := [d1, d2, d3, d4, d5] }
  | _ => none }
def DownValidWrongFalsely : Prop := downValidRow.holds Try.pinned (OpenSpec.ofChange downValidWrong)

/-- 'slotmeshlaw21.DownNewest': WHATEVER THE INPUT: true; the input reads as it did. -/
def downNewestSpec : ChangeSpec := { name := "downNewest", fn := fun _ => fun
  | [d1, d2, d3, d4, d5, d6, d7] => { results := [.lit (.bool true)], args := [d1, d2, d3, d4, d5, d6, d7] }
  | _ => none }
def downNewestRow : OpenClaim := { program := "ythobfempjekhdaa", sum := "1ae9749239817289f2b53c39465e92d9bd7c2081dbfcfb4d763f9a10100229e1", func := "slotmesh/slotmeshlaw21.DownNewest", spec := "downNewest", unfollowed := true, recurses := true, apart := false }
def DownNewestSaid : Prop := downNewestRow.holds Try.pinned (OpenSpec.ofChange downNewestSpec)

/-- ITS FALSE NEIGHBOUR: 'it returns false'. Refute it at one input. -/
def downNewestWrong : ChangeSpec := { name := "downNewest", fn := fun _ => fun
  | [d1, d2, d3, d4, d5, d6, d7] => { results := [.lit (.bool false)], args := [d1, d2, d3, d4, d5, d6, d7] }
  | _ => none }
def DownNewestWrongFalsely : Prop := downNewestRow.holds Try.pinned (OpenSpec.ofChange downNewestWrong)

/-- 'slotmeshlaw21.DownTree': WHATEVER THE INPUT: true; the input reads as it did. -/
def downTreeSpec : ChangeSpec := { name := "downTree", fn := fun _ => fun
  | [d1, d2, d3] => { results := [.lit (.bool true)], args := [d1, d2, d3] }
  | _ => none }
def downTreeRow : OpenClaim := { program := "ythobfempjekhdaa", sum := "1ae9749239817289f2b53c39465e92d9bd7c2081dbfcfb4d763f9a10100229e1", func := "slotmesh/slotmeshlaw21.DownTree", spec := "downTree", unfollowed := true, recurses := true, apart := false }
def DownTreeSaid : Prop := downTreeRow.holds Try.pinned (OpenSpec.ofChange downTreeSpec)

/-- ITS FALSE NEIGHBOUR: 'it returns false'. Refute it at one input. -/
def downTreeWrong : ChangeSpec := { name := "downTree", fn := fun _ => fun
  | [d1, d2, d3] => { results := [.lit (.bool false)], args := [d1, d2, d3] }
  | _ => none }
def DownTreeWrongFalsely : Prop := downTreeRow.holds Try.pinned (OpenSpec.ofChange downTreeWrong)

/-- 'slotmeshlaw21.DownFades': WHATEVER THE INPUT: true; the input reads as it did. -/
def downFadesSpec : ChangeSpec := { name := "downFades", fn := fun _ => fun
  | [d1, d2, d3, d4, d5, d6] => { results := [.lit (.bool true)], args := [d1, d2, d3, d4, d5, d6] }
  | _ => none }
def downFadesRow : OpenClaim := { program := "ythobfempjekhdaa", sum := "1ae9749239817289f2b53c39465e92d9bd7c2081dbfcfb4d763f9a10100229e1", func := "slotmesh/slotmeshlaw21.DownFades", spec := "downFades", unfollowed := true, recurses := true, apart := false }
def DownFadesSaid : Prop := downFadesRow.holds Try.pinned (OpenSpec.ofChange downFadesSpec)

/-- ITS FALSE NEIGHBOUR: 'it returns false'. Refute it at one input. -/
def downFadesWrong : ChangeSpec := { name := "downFades", fn := fun _ => fun
  | [d1, d2, d3, d4, d5, d6] => { results := [.lit (.bool false)], args := [d1, d2, d3, d4, d5, d6] }
  | _ => none }
def DownFadesWrongFalsely : Prop := downFadesRow.holds Try.pinned (OpenSpec.ofChange downFadesWrong)

/-- 'slotmeshlaw21.DownOrder': WHATEVER THE INPUT: true; the input reads as it did. -/
def downOrderSpec : ChangeSpec := { name := "downOrder", fn := fun _ => fun
  | [d1, d2, d3, d4, d5, d6, d7, d8] => { results := [.lit (.bool true)], args := [d1, d2, d3, d4, d5, d6, d7, d8] }
  | _ => none }
def downOrderRow : OpenClaim := { program := "ythobfempjekhdaa", sum := "1ae9749239817289f2b53c39465e92d9bd7c2081dbfcfb4d763f9a10100229e1", func := "slotmesh/slotmeshlaw21.DownOrder", spec := "downOrder", unfollowed := true, recurses := true, apart := false }
def DownOrderSaid : Prop := downOrderRow.holds Try.pinned (OpenSpec.ofChange downOrderSpec)

/-- ITS FALSE NEIGHBOUR: 'it returns false'. Refute it at one input. -/
def downOrderWrong : ChangeSpec := { name := "downOrder", fn := fun _ => fun
  | [d1, d2, d3, d4, d5, d6, d7, d8] => { results := [.lit (.bool false)], args := [d1, d2, d3, d4, d5, d6, d7, d8] }
  | _ => none }
def DownOrderWrongFalsely : Prop := downOrderRow.holds Try.pinned (OpenSpec.ofChange downOrderWrong)

/-- 'slotmeshlaw21.DownTells': WHATEVER THE INPUT: true; the input reads as it did. -/
def downTellsSpec : ChangeSpec := { name := "downTells", fn := fun _ => fun
  | [d1, d2, d3, d4] => { results := [.lit (.bool true)], args := [d1, d2, d3, d4] }
  | _ => none }
def downTellsRow : OpenClaim := { program := "ythobfempjekhdaa", sum := "1ae9749239817289f2b53c39465e92d9bd7c2081dbfcfb4d763f9a10100229e1", func := "slotmesh/slotmeshlaw21.DownTells", spec := "downTells", unfollowed := true, recurses := true, apart := false }
def DownTellsSaid : Prop := downTellsRow.holds Try.pinned (OpenSpec.ofChange downTellsSpec)

/-- ITS FALSE NEIGHBOUR: 'it returns false'. Refute it at one input. -/
def downTellsWrong : ChangeSpec := { name := "downTells", fn := fun _ => fun
  | [d1, d2, d3, d4] => { results := [.lit (.bool false)], args := [d1, d2, d3, d4] }
  | _ => none }
def DownTellsWrongFalsely : Prop := downTellsRow.holds Try.pinned (OpenSpec.ofChange downTellsWrong)

/- THE SECOND FORM. 'bulk': how many values and letters a reading holds, each counted each time it is reached (what is shared counts as often as it is met; a slice's spare places count too). A statement '..UptoSaid' is the law's where the arguments, and the package variables that the reading takes, are together of bulk at most 1048576: NARROWER than '..Said'. Prove '..Said' where nothing that the law and all that it calls make is longer than what came in: it says more and counts as full. Else prove '..UptoSaid'. A law counts once. -/
mutual
def uptoBulk {H : Type} : DataW H → Nat
  | .lit (.string bytes) => bytes.length + 1
  | .lit _ => 1
  | .nil => 1
  | .ptr d => uptoBulk d + 1
  | .slice elems spare => uptoBulkAll elems + uptoBulkAll spare + 1
  | .agg parts => uptoBulkAll parts + 1
  | .iface _ d => uptoBulk d + 1
  | .map entries => uptoBulkEntries entries + 1
  | .held _ => 1
def uptoBulkAll {H : Type} : List (DataW H) → Nat
  | [] => 0
  | d :: r => uptoBulk d + uptoBulkAll r
def uptoBulkEntries {H : Type} : List (Lit × DataW H) → Nat
  | [] => 0
  | x :: r => uptoBulkEntry x + uptoBulkEntries r
def uptoBulkEntry {H : Type} : Lit × DataW H → Nat
  | (.string bytes, d) => bytes.length + uptoBulk d + 1
  | (_, d) => uptoBulk d + 1
 end
def uptoSmall : (H : Type) → List (DataW H) → Bool := fun _ ds => decide (uptoBulkAll ds ≤ 1048576)
def OpenSpec.upto (s : _root_.Go.ChangeSpec) : _root_.Go.OpenSpec := { _root_.Go.OpenSpec.ofChange s with cond := some uptoSmall }

/-- 'slotmeshlaw21.DownMatchesReference', WHERE WHAT IT READS IS OF BULK AT MOST 1048576: true; the input reads as it did. -/
def downMatchesReferenceUptoRow : OpenClaim := { program := "ythobfempjekhdaa", sum := "1ae9749239817289f2b53c39465e92d9bd7c2081dbfcfb4d763f9a10100229e1", func := "slotmesh/slotmeshlaw21.DownMatchesReference", spec := "downMatchesReference", unfollowed := true, recurses := true, apart := false, narrowed := true }
def DownMatchesReferenceUptoSaid : Prop := downMatchesReferenceUptoRow.holds Try.pinned (OpenSpec.upto downMatchesReferenceSpec)

/-- 'slotmeshlaw21.DownValid', WHERE WHAT IT READS IS OF BULK AT MOST 1048576: true; the input reads as it did. -/
def downValidUptoRow : OpenClaim := { program := "ythobfempjekhdaa", sum := "1ae9749239817289f2b53c39465e92d9bd7c2081dbfcfb4d763f9a10100229e1", func := "slotmesh/slotmeshlaw21.DownValid", spec := "downValid", unfollowed := true, recurses := true, apart := false, narrowed := true }
def DownValidUptoSaid : Prop := downValidUptoRow.holds Try.pinned (OpenSpec.upto downValidSpec)

/-- 'slotmeshlaw21.DownNewest', WHERE WHAT IT READS IS OF BULK AT MOST 1048576: true; the input reads as it did. -/
def downNewestUptoRow : OpenClaim := { program := "ythobfempjekhdaa", sum := "1ae9749239817289f2b53c39465e92d9bd7c2081dbfcfb4d763f9a10100229e1", func := "slotmesh/slotmeshlaw21.DownNewest", spec := "downNewest", unfollowed := true, recurses := true, apart := false, narrowed := true }
def DownNewestUptoSaid : Prop := downNewestUptoRow.holds Try.pinned (OpenSpec.upto downNewestSpec)

/-- 'slotmeshlaw21.DownTree', WHERE WHAT IT READS IS OF BULK AT MOST 1048576: true; the input reads as it did. -/
def downTreeUptoRow : OpenClaim := { program := "ythobfempjekhdaa", sum := "1ae9749239817289f2b53c39465e92d9bd7c2081dbfcfb4d763f9a10100229e1", func := "slotmesh/slotmeshlaw21.DownTree", spec := "downTree", unfollowed := true, recurses := true, apart := false, narrowed := true }
def DownTreeUptoSaid : Prop := downTreeUptoRow.holds Try.pinned (OpenSpec.upto downTreeSpec)

/-- 'slotmeshlaw21.DownFades', WHERE WHAT IT READS IS OF BULK AT MOST 1048576: true; the input reads as it did. -/
def downFadesUptoRow : OpenClaim := { program := "ythobfempjekhdaa", sum := "1ae9749239817289f2b53c39465e92d9bd7c2081dbfcfb4d763f9a10100229e1", func := "slotmesh/slotmeshlaw21.DownFades", spec := "downFades", unfollowed := true, recurses := true, apart := false, narrowed := true }
def DownFadesUptoSaid : Prop := downFadesUptoRow.holds Try.pinned (OpenSpec.upto downFadesSpec)

/-- 'slotmeshlaw21.DownOrder', WHERE WHAT IT READS IS OF BULK AT MOST 1048576: true; the input reads as it did. -/
def downOrderUptoRow : OpenClaim := { program := "ythobfempjekhdaa", sum := "1ae9749239817289f2b53c39465e92d9bd7c2081dbfcfb4d763f9a10100229e1", func := "slotmesh/slotmeshlaw21.DownOrder", spec := "downOrder", unfollowed := true, recurses := true, apart := false, narrowed := true }
def DownOrderUptoSaid : Prop := downOrderUptoRow.holds Try.pinned (OpenSpec.upto downOrderSpec)

/-- 'slotmeshlaw21.DownTells', WHERE WHAT IT READS IS OF BULK AT MOST 1048576: true; the input reads as it did. -/
def downTellsUptoRow : OpenClaim := { program := "ythobfempjekhdaa", sum := "1ae9749239817289f2b53c39465e92d9bd7c2081dbfcfb4d763f9a10100229e1", func := "slotmesh/slotmeshlaw21.DownTells", spec := "downTells", unfollowed := true, recurses := true, apart := false, narrowed := true }
def DownTellsUptoSaid : Prop := downTellsUptoRow.holds Try.pinned (OpenSpec.upto downTellsSpec)

end Rows
end Go.Proofs.Ythobfempjekhdaa
