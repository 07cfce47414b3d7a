/- The row of the law DownOrder: the walk of the function and the pure statement, joined. -/
import Derived.Test.YthobfempjekhdaaRows
import Derived.Test.YthobfempjekhdaaPx15
import Derived.Test.YthobfempjekhdaaOpen
import Derived.Test.YthobfempjekhdaaQDownOrder
namespace Go.Proofs.Ythobfempjekhdaa.Px.downOrder
open Go.RowKit Go.Proofs.YthobfempjekhdaaW.PrintWords Go.Proofs.YthobfempjekhdaaW.PrintLast Go.Proofs.YthobfempjekhdaaW.PrintMore
open Go.ChangeShapes Go.WideShapes Go.ChangeAt
set_option linter.unusedVariables false
set_option linter.unusedSimpArgs false
theorem own : ownKnob Try.prog.godebug = none := by kernel_rfl
set_option maxRecDepth 100000 in
set_option maxHeartbeats 4000000 in
theorem lifted (os : Os) (started : os.Started) (H : Type) (enc : TypeId × Value → H) :
    ReturnsInHanded {} Try.checked os 8 .any (Rows.downOrderSpec.pre6 enc Try.prog Try.f8 Rows.downOrderRow.domain false) (Rows.downOrderSpec.post enc Try.prog Try.f8 false true false false) := by
  refine returnsInHanded_of_change_sized (C := Try.checked) own started (by kernel_rfl) Try.func8
    (ChangeSpec.witness6 (enc := enc) (C := Try.checked) false ⟨#[], #[.slice none 0 0, .int .i64 0, .int .i64 0, .int .i64 0, .int .i64 0, .slice none 0 0, .slice none 0 0, .int .i64 0], []⟩ 8 (by kernel_rfl) (by kernel_rfl) (by kernel_rfl) (by kernel_rfl)) ?_
  intro W base args ds gs before hval0 hW hcnd hsz0 _
  have hval : ∀ (j : Nat) t v, Try.f8.params[j]? = some t → args[j]? = some v → Value.okWide Try.prog W .any base t v := hval0
  have hW' := hW
  obtain ⟨p, q, hA0, hV, rfl, hfz, hnd⟩ := hW
  have hA : DataW.TrodAll enc Try.prog W 0 (fun _ => true) true Try.f8.params.toList args.toList ds p := hA0
  rw [Try.params8] at hA hval
  obtain ⟨v0, vs0, d0, ds0, p0, q0, hargs, rfl, rfl, h0, r0⟩ := trodAll_cons hA
  obtain ⟨v1, vs1, d1, ds1, p1, q1, rfl, rfl, rfl, h1, r1⟩ := trodAll_cons r0
  obtain ⟨v2, vs2, d2, ds2, p2, q2, rfl, rfl, rfl, h2, r2⟩ := trodAll_cons r1
  obtain ⟨v3, vs3, d3, ds3, p3, q3, rfl, rfl, rfl, h3, r3⟩ := trodAll_cons r2
  obtain ⟨v4, vs4, d4, ds4, p4, q4, rfl, rfl, rfl, h4, r4⟩ := trodAll_cons r3
  obtain ⟨v5, vs5, d5, ds5, p5, q5, rfl, rfl, rfl, h5, r5⟩ := trodAll_cons r4
  obtain ⟨v6, vs6, d6, ds6, p6, q6, rfl, rfl, rfl, h6, r6⟩ := trodAll_cons r5
  obtain ⟨v7, vs7, d7, ds7, p7, q7, rfl, rfl, rfl, h7, r7⟩ := trodAll_cons r6
  obtain ⟨rfl, rfl, rfl⟩ := trodAll_nil r7
  obtain rfl : args = #[v0, v1, v2, v3, v4, v5, v6, v7] := by cases args; simp_all
  obtain ⟨rfl, rfl⟩ := trodVars_none hV
  have k0 := h0
  have lt0 : ∀ x ∈ p0, x.block < W.heap.size := by obtain ⟨m, hm⟩ := k0; exact DataW.trod_lt m _ _ _ hm
  obtain ⟨fuel0, hf0⟩ := h0
  obtain ⟨Az0, nz0, cz0, rfl⟩ := okWide_slice Try.underlying22 (hval 0 22 v0 rfl rfl)
  have hcl0 : (Value.slice Az0 nz0 cz0).cells.toList = [Value.slice Az0 nz0 cz0] := rfl
  rw [hcl0] at hf0
  obtain ⟨l0, w0, A0, c0, e0, hc0, hC0⟩ := op22 _ _ _ _ _ _ _ _ _ hf0
  injection e0 with e0 _
  injection e0 with e1_0 e2_0 e3_0
  subst e1_0 e2_0 e3_0
  obtain ⟨a1, rfl, rfl, rfl, w1⟩ := open_int Try.underlying3 (hval 1 3 v1 rfl rfl) h1
  obtain ⟨a2, rfl, rfl, rfl, w2⟩ := open_int Try.underlying3 (hval 2 3 v2 rfl rfl) h2
  obtain ⟨a3, rfl, rfl, rfl, w3⟩ := open_int Try.underlying3 (hval 3 3 v3 rfl rfl) h3
  obtain ⟨a4, rfl, rfl, rfl, w4⟩ := open_int Try.underlying3 (hval 4 3 v4 rfl rfl) h4
  have k5 := h5
  have lt5 : ∀ x ∈ p5, x.block < W.heap.size := by obtain ⟨m, hm⟩ := k5; exact DataW.trod_lt m _ _ _ hm
  obtain ⟨fuel5, hf5⟩ := h5
  obtain ⟨Az5, nz5, cz5, rfl⟩ := okWide_slice Try.underlying22 (hval 5 22 v5 rfl rfl)
  have hcl5 : (Value.slice Az5 nz5 cz5).cells.toList = [Value.slice Az5 nz5 cz5] := rfl
  rw [hcl5] at hf5
  obtain ⟨l5, w5, A5, c5, e5, hc5, hC5⟩ := op22 _ _ _ _ _ _ _ _ _ hf5
  injection e5 with e5 _
  injection e5 with e1_5 e2_5 e3_5
  subst e1_5 e2_5 e3_5
  have k6 := h6
  have lt6 : ∀ x ∈ p6, x.block < W.heap.size := by obtain ⟨m, hm⟩ := k6; exact DataW.trod_lt m _ _ _ hm
  obtain ⟨fuel6, hf6⟩ := h6
  obtain ⟨Az6, nz6, cz6, rfl⟩ := okWide_slice Try.underlying22 (hval 6 22 v6 rfl rfl)
  have hcl6 : (Value.slice Az6 nz6 cz6).cells.toList = [Value.slice Az6 nz6 cz6] := rfl
  rw [hcl6] at hf6
  obtain ⟨l6, w6, A6, c6, e6, hc6, hC6⟩ := op22 _ _ _ _ _ _ _ _ _ hf6
  injection e6 with e6 _
  injection e6 with e1_6 e2_6 e3_6
  subst e1_6 e2_6 e3_6
  obtain ⟨a7, rfl, rfl, rfl, w7⟩ := open_int Try.underlying3 (hval 7 3 v7 rfl rfl) h7
  clear hA0 hval0 hsz0
  obtain ⟨k, hk⟩ := Pure.DownOrder l0 a1 a2 a3 a4 l5 l6 a7 w0 w1 w2 w3 w4 w5 w6 w7
  refine (slotmeshlaw21_DownOrder.calls k _ _ l0 a1 a2 a3 a4 _ _ l5 _ _ l6 a7 true W rfl hC0 hc0 hC5 hc5 hC6 hc6 hk).mono fun e W' ⟨he, bel⟩ => ?_
  subst he
  exact ⟨_, rfl, _, _, _, [], _, [], hW', trodAll_mk1 (shut_bool Try.underlying4 _), (trodAll_cons_mk (Below.trod laidOut (by kernel_rfl) (of_decide_eq_true (by kernel_rfl)) k0 bel lt0) (trodAll_cons_mk (shut_int Try.underlying3 w1) (trodAll_cons_mk (shut_int Try.underlying3 w2) (trodAll_cons_mk (shut_int Try.underlying3 w3) (trodAll_cons_mk (shut_int Try.underlying3 w4) (trodAll_cons_mk (Below.trod laidOut (by kernel_rfl) (of_decide_eq_true (by kernel_rfl)) k5 bel lt5) (trodAll_cons_mk (Below.trod laidOut (by kernel_rfl) (of_decide_eq_true (by kernel_rfl)) k6 bel lt6) (trodAll_cons_mk (shut_int Try.underlying3 w7) trodAll_mk0)))))))), rfl, bel.frame _, fun h => by cases h⟩
theorem over : Rows.downOrderRow.holds Try.pinned (OpenSpec.ofChange Rows.downOrderSpec) :=
  OpenClaim.holds_of_wide 8 Try.f8 rfl rfl rfl rfl rfl rfl rfl ⟨rfl, rfl, rfl, rfl, rfl⟩ rfl rfl rfl rfl rfl (by kernel_rfl) Try.func8 (by kernel_rfl)
    (of_decide_eq_true (by kernel_rfl)) (by unfold Func.isWrapper; first | (rw [if_pos (by decide +kernel)]; kernel_rfl) | (rw [if_neg (by decide +kernel)]; exact ⟨rfl, rfl⟩))
    (fun os started H enc _ => lifted os started H enc)
theorem proved : Rows.DownOrderSaid := over
#print axioms proved
end Go.Proofs.Ythobfempjekhdaa.Px.downOrder
namespace Go.Proofs.Ythobfempjekhdaa
/-- The row, under a short name, for the claim. -/
theorem downOrder_holds : Rows.DownOrderSaid := Px.downOrder.proved
end Go.Proofs.Ythobfempjekhdaa
