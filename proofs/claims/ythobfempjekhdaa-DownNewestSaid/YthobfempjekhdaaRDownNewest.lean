/- The row of the law DownNewest: the walk of the function and the pure statement, joined. -/
import Derived.Test.YthobfempjekhdaaRows
import Derived.Test.YthobfempjekhdaaPx12
import Derived.Test.YthobfempjekhdaaOpen
import Derived.Test.YthobfempjekhdaaQDownNewest
namespace Go.Proofs.Ythobfempjekhdaa.Px.downNewest
open Go.RowKit Go.Proofs.YthobfempjekhdaaW.PrintWords Go.Proofs.YthobfempjekhdaaW.PrintLast Go.Proofs.YthobfempjekhdaaW.PrintMore
open Go.ChangeShapes Go.WideShapes Go.ChangeAt
set_option linter.unusedVariables false
set_option linter.unusedSimpArgs false
theorem own : ownKnob Try.prog.godebug = none := by kernel_rfl
set_option maxRecDepth 100000 in
set_option maxHeartbeats 4000000 in
theorem lifted (os : Os) (started : os.Started) (H : Type) (enc : TypeId × Value → H) :
    ReturnsInHanded {} Try.checked os 5 .any (Rows.downNewestSpec.pre6 enc Try.prog Try.f5 Rows.downNewestRow.domain false) (Rows.downNewestSpec.post enc Try.prog Try.f5 false true false false) := by
  refine returnsInHanded_of_change_sized (C := Try.checked) own started (by kernel_rfl) Try.func5
    (ChangeSpec.witness6 (enc := enc) (C := Try.checked) false ⟨#[], #[.slice none 0 0, .int .i64 0, .int .i64 0, .slice none 0 0, .int .i64 0, .int .u8 0, .slice none 0 0], []⟩ 8 (by kernel_rfl) (by kernel_rfl) (by kernel_rfl) (by kernel_rfl)) ?_
  intro W base args ds gs before hval0 hW hcnd hsz0 _
  have hval : ∀ (j : Nat) t v, Try.f5.params[j]? = some t → args[j]? = some v → Value.okWide Try.prog W .any base t v := hval0
  have hW' := hW
  obtain ⟨p, q, hA0, hV, rfl, hfz, hnd⟩ := hW
  have hA : DataW.TrodAll enc Try.prog W 0 (fun _ => true) true Try.f5.params.toList args.toList ds p := hA0
  rw [Try.params5] at hA hval
  obtain ⟨v0, vs0, d0, ds0, p0, q0, hargs, rfl, rfl, h0, r0⟩ := trodAll_cons hA
  obtain ⟨v1, vs1, d1, ds1, p1, q1, rfl, rfl, rfl, h1, r1⟩ := trodAll_cons r0
  obtain ⟨v2, vs2, d2, ds2, p2, q2, rfl, rfl, rfl, h2, r2⟩ := trodAll_cons r1
  obtain ⟨v3, vs3, d3, ds3, p3, q3, rfl, rfl, rfl, h3, r3⟩ := trodAll_cons r2
  obtain ⟨v4, vs4, d4, ds4, p4, q4, rfl, rfl, rfl, h4, r4⟩ := trodAll_cons r3
  obtain ⟨v5, vs5, d5, ds5, p5, q5, rfl, rfl, rfl, h5, r5⟩ := trodAll_cons r4
  obtain ⟨v6, vs6, d6, ds6, p6, q6, rfl, rfl, rfl, h6, r6⟩ := trodAll_cons r5
  obtain ⟨rfl, rfl, rfl⟩ := trodAll_nil r6
  obtain rfl : args = #[v0, v1, v2, v3, v4, v5, v6] := by cases args; simp_all
  obtain ⟨rfl, rfl⟩ := trodVars_none hV
  have k0 := h0
  have lt0 : ∀ x ∈ p0, x.block < W.heap.size := by obtain ⟨m, hm⟩ := k0; exact DataW.trod_lt m _ _ _ hm
  obtain ⟨fuel0, hf0⟩ := h0
  obtain ⟨Az0, nz0, cz0, rfl⟩ := okWide_slice Try.underlying22 (hval 0 22 v0 rfl rfl)
  have hcl0 : (Value.slice Az0 nz0 cz0).cells.toList = [Value.slice Az0 nz0 cz0] := rfl
  rw [hcl0] at hf0
  obtain ⟨l0, w0, A0, c0, e0, hc0, hC0⟩ := op22 _ _ _ _ _ _ _ _ _ hf0
  injection e0 with e0 _
  injection e0 with e1_0 e2_0 e3_0
  subst e1_0 e2_0 e3_0
  obtain ⟨a1, rfl, rfl, rfl, w1⟩ := open_int Try.underlying3 (hval 1 3 v1 rfl rfl) h1
  obtain ⟨a2, rfl, rfl, rfl, w2⟩ := open_int Try.underlying3 (hval 2 3 v2 rfl rfl) h2
  have k3 := h3
  have lt3 : ∀ x ∈ p3, x.block < W.heap.size := by obtain ⟨m, hm⟩ := k3; exact DataW.trod_lt m _ _ _ hm
  obtain ⟨fuel3, hf3⟩ := h3
  obtain ⟨Az3, nz3, cz3, rfl⟩ := okWide_slice Try.underlying22 (hval 3 22 v3 rfl rfl)
  have hcl3 : (Value.slice Az3 nz3 cz3).cells.toList = [Value.slice Az3 nz3 cz3] := rfl
  rw [hcl3] at hf3
  obtain ⟨l3, w3, A3, c3, e3, hc3, hC3⟩ := op22 _ _ _ _ _ _ _ _ _ hf3
  injection e3 with e3 _
  injection e3 with e1_3 e2_3 e3_3
  subst e1_3 e2_3 e3_3
  obtain ⟨a4, rfl, rfl, rfl, w4⟩ := open_int Try.underlying3 (hval 4 3 v4 rfl rfl) h4
  obtain ⟨a5, rfl, rfl, rfl, w5⟩ := open_int Try.underlying5 (hval 5 5 v5 rfl rfl) h5
  have k6 := h6
  have lt6 : ∀ x ∈ p6, x.block < W.heap.size := by obtain ⟨m, hm⟩ := k6; exact DataW.trod_lt m _ _ _ hm
  obtain ⟨fuel6, hf6⟩ := h6
  obtain ⟨Az6, nz6, cz6, rfl⟩ := okWide_slice Try.underlying38 (hval 6 38 v6 rfl rfl)
  have hcl6 : (Value.slice Az6 nz6 cz6).cells.toList = [Value.slice Az6 nz6 cz6] := rfl
  rw [hcl6] at hf6
  obtain ⟨l6, w6, A6, c6, e6, hc6, hC6⟩ := op38 _ _ _ _ _ _ _ _ _ hf6
  injection e6 with e6 _
  injection e6 with e1_6 e2_6 e3_6
  subst e1_6 e2_6 e3_6
  clear hA0 hval0 hsz0
  obtain ⟨k, hk⟩ := Pure.DownNewest l0 a1 a2 l3 a4 a5 l6 w0 w1 w2 w3 w4 w5 w6
  refine (slotmeshlaw21_DownNewest.calls k _ _ l0 a1 a2 _ _ l3 a4 a5 _ _ l6 true W rfl hC0 hc0 hC3 hc3 hC6 hc6 hk).mono fun e W' ⟨he, bel⟩ => ?_
  subst he
  exact ⟨_, rfl, _, _, _, [], _, [], hW', trodAll_mk1 (shut_bool Try.underlying4 _), (trodAll_cons_mk (Below.trod laidOut (by kernel_rfl) (of_decide_eq_true (by kernel_rfl)) k0 bel lt0) (trodAll_cons_mk (shut_int Try.underlying3 w1) (trodAll_cons_mk (shut_int Try.underlying3 w2) (trodAll_cons_mk (Below.trod laidOut (by kernel_rfl) (of_decide_eq_true (by kernel_rfl)) k3 bel lt3) (trodAll_cons_mk (shut_int Try.underlying3 w4) (trodAll_cons_mk (shut_int Try.underlying5 w5) (trodAll_cons_mk (Below.trod laidOut (by kernel_rfl) (of_decide_eq_true (by kernel_rfl)) k6 bel lt6) trodAll_mk0))))))), rfl, bel.frame _, fun h => by cases h⟩
theorem over : Rows.downNewestRow.holds Try.pinned (OpenSpec.ofChange Rows.downNewestSpec) :=
  OpenClaim.holds_of_wide 5 Try.f5 rfl rfl rfl rfl rfl rfl rfl ⟨rfl, rfl, rfl, rfl, rfl⟩ rfl rfl rfl rfl rfl (by kernel_rfl) Try.func5 (by kernel_rfl)
    (of_decide_eq_true (by kernel_rfl)) (by unfold Func.isWrapper; first | (rw [if_pos (by decide +kernel)]; kernel_rfl) | (rw [if_neg (by decide +kernel)]; exact ⟨rfl, rfl⟩))
    (fun os started H enc _ => lifted os started H enc)
theorem proved : Rows.DownNewestSaid := over
#print axioms proved
end Go.Proofs.Ythobfempjekhdaa.Px.downNewest
namespace Go.Proofs.Ythobfempjekhdaa
/-- The row, under a short name, for the claim. -/
theorem downNewest_holds : Rows.DownNewestSaid := Px.downNewest.proved
end Go.Proofs.Ythobfempjekhdaa
