/- The row of the law CellsValid: the walk of the function and the pure statement, joined. -/
import Derived.Test.YtbpfbdljcdcgnaaRows
import Derived.Test.YtbpfbdljcdcgnaaPx31
import Derived.Test.YtbpfbdljcdcgnaaOpen
import Derived.Test.YtbpfbdljcdcgnaaQCellsValid
namespace Go.Proofs.Ytbpfbdljcdcgnaa.Px.cellsValid
open Go.RowKit Go.Proofs.YtbpfbdljcdcgnaaW.PrintWords Go.Proofs.YtbpfbdljcdcgnaaW.PrintLast Go.Proofs.YtbpfbdljcdcgnaaW.PrintMore
open Go.ChangeShapes Go.WideShapes Go.ChangeAt
set_option linter.unusedVariables false
set_option linter.unusedSimpArgs false
theorem own : ownKnob Try.prog.godebug = none := by kernel_rfl
set_option maxRecDepth 100000 in
set_option maxHeartbeats 4000000 in
theorem lifted (os : Os) (started : os.Started) (H : Type) (enc : TypeId × Value → H) :
    ReturnsInHanded {} Try.checked os 4 .any (Rows.cellsValidSpec.pre6 enc Try.prog Try.f4 Rows.cellsValidRow.domain false) (Rows.cellsValidSpec.post enc Try.prog Try.f4 false true false false) := by
  refine returnsInHanded_of_change_sized (C := Try.checked) own started (by kernel_rfl) Try.func4
    (ChangeSpec.witness6 (enc := enc) (C := Try.checked) false ⟨#[], #[.agg #[.slice none 0 0, .slice none 0 0, .slice none 0 0], .agg #[.int .i64 0, .int .i64 0], .agg #[.int .i64 0, .int .i64 0, .int .i64 0, .int .i64 0], .agg #[.int .i64 0, .int .i64 0], .int .i64 0], []⟩ 8 (by kernel_rfl) (by kernel_rfl) (by kernel_rfl) (by kernel_rfl)) ?_
  intro W base args ds gs before hval0 hW hcnd hsz0 _
  have hval : ∀ (j : Nat) t v, Try.f4.params[j]? = some t → args[j]? = some v → Value.okWide Try.prog W .any base t v := hval0
  have hW' := hW
  obtain ⟨p, q, hA0, hV, rfl, hfz, hnd⟩ := hW
  have hA : DataW.TrodAll enc Try.prog W 0 (fun _ => true) true Try.f4.params.toList args.toList ds p := hA0
  rw [Try.params4] at hA hval
  obtain ⟨v0, vs0, d0, ds0, p0, q0, hargs, rfl, rfl, h0, r0⟩ := trodAll_cons hA
  obtain ⟨v1, vs1, d1, ds1, p1, q1, rfl, rfl, rfl, h1, r1⟩ := trodAll_cons r0
  obtain ⟨v2, vs2, d2, ds2, p2, q2, rfl, rfl, rfl, h2, r2⟩ := trodAll_cons r1
  obtain ⟨v3, vs3, d3, ds3, p3, q3, rfl, rfl, rfl, h3, r3⟩ := trodAll_cons r2
  obtain ⟨v4, vs4, d4, ds4, p4, q4, rfl, rfl, rfl, h4, r4⟩ := trodAll_cons r3
  obtain ⟨rfl, rfl, rfl⟩ := trodAll_nil r4
  obtain rfl : args = #[v0, v1, v2, v3, v4] := by cases args; simp_all
  obtain ⟨rfl, rfl⟩ := trodVars_none hV
  have k0 := h0
  have lt0 : ∀ x ∈ p0, x.block < W.heap.size := by obtain ⟨m, hm⟩ := k0; exact DataW.trod_lt m _ _ _ hm
  obtain ⟨cs0, rfl, _⟩ := okWide_struct Try.underlying26 (hval 0 26 v0 rfl rfl)
  obtain ⟨fuel0, hf0⟩ := h0
  have hcl0 : (Value.agg cs0).cells.toList = cs0.toList := rfl
  rw [hcl0] at hf0
  generalize hcs0 : cs0.toList = L0 at hf0
  obtain ⟨⟨l0_0, l0_1, l0_2⟩, _, ⟨_, _, rfl, ⟨A0_0, c0_0, rfl, hc0_0, hC0_0⟩, ⟨_, _, rfl, ⟨A0_1, c0_1, rfl, hc0_1, hC0_1⟩, ⟨A0_2, c0_2, rfl, hc0_2, hC0_2⟩⟩⟩⟩ := op26 _ _ _ _ _ _ _ _ _ hf0
  obtain rfl : cs0 = #[.slice A0_0 l0_0.length c0_0, .slice A0_1 l0_1.length c0_1, .slice A0_2 l0_2.length c0_2] := Array.ext' hcs0
  have k1 := h1
  have lt1 : ∀ x ∈ p1, x.block < W.heap.size := by obtain ⟨m, hm⟩ := k1; exact DataW.trod_lt m _ _ _ hm
  obtain ⟨cs1, rfl, _⟩ := okWide_struct Try.underlying28 (hval 1 28 v1 rfl rfl)
  obtain ⟨fuel1, hf1⟩ := h1
  have hcl1 : (Value.agg cs1).cells.toList = cs1.toList := rfl
  rw [hcl1] at hf1
  generalize hcs1 : cs1.toList = L1 at hf1
  obtain ⟨⟨a1_0, a1_1⟩, _, ⟨_, _, rfl, rfl, rfl⟩⟩ := op28 _ _ _ _ _ _ _ _ _ hf1
  obtain rfl : cs1 = #[.int .i64 a1_0, .int .i64 a1_1] := Array.ext' hcs1
  have k2 := h2
  have lt2 : ∀ x ∈ p2, x.block < W.heap.size := by obtain ⟨m, hm⟩ := k2; exact DataW.trod_lt m _ _ _ hm
  obtain ⟨cs2, rfl, _⟩ := okWide_struct Try.underlying32 (hval 2 32 v2 rfl rfl)
  obtain ⟨fuel2, hf2⟩ := h2
  have hcl2 : (Value.agg cs2).cells.toList = cs2.toList := rfl
  rw [hcl2] at hf2
  generalize hcs2 : cs2.toList = L2 at hf2
  obtain ⟨⟨⟨a2_0, a2_1⟩, a2_2, a2_3⟩, _, ⟨_, _, rfl, ⟨_, _, rfl, rfl, rfl⟩, ⟨_, _, rfl, rfl, rfl⟩⟩⟩ := op32 _ _ _ _ _ _ _ _ _ hf2
  obtain rfl : cs2 = #[.int .i64 a2_0, .int .i64 a2_1, .int .i64 a2_2, .int .i64 a2_3] := Array.ext' hcs2
  have k3 := h3
  have lt3 : ∀ x ∈ p3, x.block < W.heap.size := by obtain ⟨m, hm⟩ := k3; exact DataW.trod_lt m _ _ _ hm
  obtain ⟨cs3, rfl, _⟩ := okWide_struct Try.underlying30 (hval 3 30 v3 rfl rfl)
  obtain ⟨fuel3, hf3⟩ := h3
  have hcl3 : (Value.agg cs3).cells.toList = cs3.toList := rfl
  rw [hcl3] at hf3
  generalize hcs3 : cs3.toList = L3 at hf3
  obtain ⟨⟨a3_0, a3_1⟩, _, ⟨_, _, rfl, rfl, rfl⟩⟩ := op30 _ _ _ _ _ _ _ _ _ hf3
  obtain rfl : cs3 = #[.int .i64 a3_0, .int .i64 a3_1] := Array.ext' hcs3
  obtain ⟨a4, rfl, rfl, rfl, w4⟩ := open_int Try.underlying3 (hval 4 3 v4 rfl rfl) h4
  clear hA0 hval0 hsz0
  obtain ⟨k, hk⟩ := Pure.CellsValid l0_0 l0_1 l0_2 a1_0 a1_1 a2_0 a2_1 a2_2 a2_3 a3_0 a3_1 a4 hC0_0.2.1 hC0_1.2.1 hC0_2.2.1 w4
  refine (slotmeshlaw12_CellsValid.calls k _ _ l0_0 _ _ l0_1 _ _ l0_2 a1_0 a1_1 a2_0 a2_1 a2_2 a2_3 a3_0 a3_1 a4 true W rfl hC0_0 hc0_0 hC0_1 hc0_1 hC0_2 hc0_2 hk).mono fun e W' ⟨he, bel⟩ => ?_
  subst he
  exact ⟨_, rfl, _, _, _, [], _, [], hW', trodAll_mk1 (shut_bool Try.underlying4 _), (trodAll_cons_mk (Below.trod laidOut (by kernel_rfl) (of_decide_eq_true (by kernel_rfl)) k0 bel lt0) (trodAll_cons_mk (Below.trod laidOut (by kernel_rfl) (of_decide_eq_true (by kernel_rfl)) k1 bel lt1) (trodAll_cons_mk (Below.trod laidOut (by kernel_rfl) (of_decide_eq_true (by kernel_rfl)) k2 bel lt2) (trodAll_cons_mk (Below.trod laidOut (by kernel_rfl) (of_decide_eq_true (by kernel_rfl)) k3 bel lt3) (trodAll_cons_mk (shut_int Try.underlying3 w4) trodAll_mk0))))), rfl, bel.frame _, fun h => by cases h⟩
theorem over : Rows.cellsValidRow.holds Try.pinned (OpenSpec.ofChange Rows.cellsValidSpec) :=
  OpenClaim.holds_of_wide 4 Try.f4 rfl rfl rfl rfl rfl rfl rfl ⟨rfl, rfl, rfl, rfl, rfl⟩ rfl rfl rfl rfl rfl (by kernel_rfl) Try.func4 (by kernel_rfl)
    (of_decide_eq_true (by kernel_rfl)) (by unfold Func.isWrapper; first | (rw [if_pos (by decide +kernel)]; kernel_rfl) | (rw [if_neg (by decide +kernel)]; exact ⟨rfl, rfl⟩))
    (fun os started H enc _ => lifted os started H enc)
theorem proved : Rows.CellsValidSaid := over
#print axioms proved
end Go.Proofs.Ytbpfbdljcdcgnaa.Px.cellsValid
namespace Go.Proofs.Ytbpfbdljcdcgnaa
/-- The row, under a short name, for the claim. -/
theorem cellsValid_holds : Rows.CellsValidSaid := Px.cellsValid.proved
end Go.Proofs.Ytbpfbdljcdcgnaa
