/- The row of the law CellsTime: the walk of the function and the pure statement, joined. -/
import Derived.Test.YtbpfbdljcdcgnaaRows
import Derived.Test.YtbpfbdljcdcgnaaPx35
import Derived.Test.YtbpfbdljcdcgnaaOpen
import Derived.Test.YtbpfbdljcdcgnaaQCellsTime
namespace Go.Proofs.Ytbpfbdljcdcgnaa.Px.cellsTime
open Go.RowKit Go.Proofs.YtbpfbdljcdcgnaaW.PrintWords Go.Proofs.YtbpfbdljcdcgnaaW.PrintLast Go.Proofs.YtbpfbdljcdcgnaaW.PrintMore
open Go.ChangeShapes Go.WideShapes Go.ChangeAt
set_option linter.unusedVariables false
set_option linter.unusedSimpArgs false
theorem own : ownKnob Try.prog.godebug = none := by kernel_rfl
set_option maxRecDepth 100000 in
set_option maxHeartbeats 4000000 in
theorem lifted (os : Os) (started : os.Started) (H : Type) (enc : TypeId × Value → H) :
    ReturnsInHanded {} Try.checked os 8 .any (Rows.cellsTimeSpec.pre6 enc Try.prog Try.f8 Rows.cellsTimeRow.domain false) (Rows.cellsTimeSpec.post enc Try.prog Try.f8 false true false false) := by
  refine returnsInHanded_of_change_sized (C := Try.checked) own started (by kernel_rfl) Try.func8
    (ChangeSpec.witness6 (enc := enc) (C := Try.checked) false ⟨#[], #[.agg #[.slice none 0 0, .slice none 0 0, .slice none 0 0], .int .i64 0, .int .i64 0], []⟩ 8 (by kernel_rfl) (by kernel_rfl) (by kernel_rfl) (by kernel_rfl)) ?_
  intro W base args ds gs before hval0 hW hcnd hsz0 _
  have hval : ∀ (j : Nat) t v, Try.f8.params[j]? = some t → args[j]? = some v → Value.okWide Try.prog W .any base t v := hval0
  have hW' := hW
  obtain ⟨p, q, hA0, hV, rfl, hfz, hnd⟩ := hW
  have hA : DataW.TrodAll enc Try.prog W 0 (fun _ => true) true Try.f8.params.toList args.toList ds p := hA0
  rw [Try.params8] at hA hval
  obtain ⟨v0, vs0, d0, ds0, p0, q0, hargs, rfl, rfl, h0, r0⟩ := trodAll_cons hA
  obtain ⟨v1, vs1, d1, ds1, p1, q1, rfl, rfl, rfl, h1, r1⟩ := trodAll_cons r0
  obtain ⟨v2, vs2, d2, ds2, p2, q2, rfl, rfl, rfl, h2, r2⟩ := trodAll_cons r1
  obtain ⟨rfl, rfl, rfl⟩ := trodAll_nil r2
  obtain rfl : args = #[v0, v1, v2] := by cases args; simp_all
  obtain ⟨rfl, rfl⟩ := trodVars_none hV
  have k0 := h0
  have lt0 : ∀ x ∈ p0, x.block < W.heap.size := by obtain ⟨m, hm⟩ := k0; exact DataW.trod_lt m _ _ _ hm
  obtain ⟨cs0, rfl, _⟩ := okWide_struct Try.underlying26 (hval 0 26 v0 rfl rfl)
  obtain ⟨fuel0, hf0⟩ := h0
  have hcl0 : (Value.agg cs0).cells.toList = cs0.toList := rfl
  rw [hcl0] at hf0
  generalize hcs0 : cs0.toList = L0 at hf0
  obtain ⟨⟨l0_0, l0_1, l0_2⟩, _, ⟨_, _, rfl, ⟨A0_0, c0_0, rfl, hc0_0, hC0_0⟩, ⟨_, _, rfl, ⟨A0_1, c0_1, rfl, hc0_1, hC0_1⟩, ⟨A0_2, c0_2, rfl, hc0_2, hC0_2⟩⟩⟩⟩ := op26 _ _ _ _ _ _ _ _ _ hf0
  obtain rfl : cs0 = #[.slice A0_0 l0_0.length c0_0, .slice A0_1 l0_1.length c0_1, .slice A0_2 l0_2.length c0_2] := Array.ext' hcs0
  obtain ⟨a1, rfl, rfl, rfl, w1⟩ := open_int Try.underlying3 (hval 1 3 v1 rfl rfl) h1
  obtain ⟨a2, rfl, rfl, rfl, w2⟩ := open_int Try.underlying3 (hval 2 3 v2 rfl rfl) h2
  clear hA0 hval0 hsz0
  obtain ⟨k, hk⟩ := Pure.CellsTime l0_0 l0_1 l0_2 a1 a2 hC0_0.2.1 hC0_1.2.1 hC0_2.2.1 w1 w2
  refine (slotmeshlaw12_CellsTime.calls k _ _ l0_0 _ _ l0_1 _ _ l0_2 a1 a2 true W rfl hC0_0 hc0_0 hC0_1 hc0_1 hC0_2 hc0_2 hk).mono fun e W' ⟨he, bel⟩ => ?_
  subst he
  exact ⟨_, rfl, _, _, _, [], _, [], hW', trodAll_mk1 (shut_bool Try.underlying4 _), (trodAll_cons_mk (Below.trod laidOut (by kernel_rfl) (of_decide_eq_true (by kernel_rfl)) k0 bel lt0) (trodAll_cons_mk (shut_int Try.underlying3 w1) (trodAll_cons_mk (shut_int Try.underlying3 w2) trodAll_mk0))), rfl, bel.frame _, fun h => by cases h⟩
theorem over : Rows.cellsTimeRow.holds Try.pinned (OpenSpec.ofChange Rows.cellsTimeSpec) :=
  OpenClaim.holds_of_wide 8 Try.f8 rfl rfl rfl rfl rfl rfl rfl ⟨rfl, rfl, rfl, rfl, rfl⟩ rfl rfl rfl rfl rfl (by kernel_rfl) Try.func8 (by kernel_rfl)
    (of_decide_eq_true (by kernel_rfl)) (by unfold Func.isWrapper; first | (rw [if_pos (by decide +kernel)]; kernel_rfl) | (rw [if_neg (by decide +kernel)]; exact ⟨rfl, rfl⟩))
    (fun os started H enc _ => lifted os started H enc)
theorem proved : Rows.CellsTimeSaid := over
#print axioms proved
end Go.Proofs.Ytbpfbdljcdcgnaa.Px.cellsTime
namespace Go.Proofs.Ytbpfbdljcdcgnaa
/-- The row, under a short name, for the claim. -/
theorem cellsTime_holds : Rows.CellsTimeSaid := Px.cellsTime.proved
end Go.Proofs.Ytbpfbdljcdcgnaa
