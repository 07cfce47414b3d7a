/- The row of the law DownTree: the walk of the function and the pure statement, joined. -/
import Derived.Test.YthobfempjekhdaaRows
import Derived.Test.YthobfempjekhdaaWSized
import Derived.Test.YthobfempjekhdaaPx13
import Derived.Test.YthobfempjekhdaaOpen
import Derived.Test.YthobfempjekhdaaQDownTree
namespace Go.Proofs.Ythobfempjekhdaa.Px.downTree
open Go.RowKit Go.Proofs.YthobfempjekhdaaW.PrintWords Go.Proofs.YthobfempjekhdaaW.PrintLast Go.Proofs.YthobfempjekhdaaW.PrintMore
open Go.ChangeShapes Go.WideShapes Go.ChangeAt
set_option linter.unusedVariables false
set_option linter.unusedSimpArgs false
theorem own : ownKnob Try.prog.godebug = none := by kernel_rfl
set_option maxRecDepth 100000 in
set_option maxHeartbeats 4000000 in
theorem lifted (os : Os) (started : os.Started) (H : Type) (enc : TypeId × Value → H) :
    ReturnsInHanded {} Try.checked os 6 .any (Rows.downTreeSpec.pre6 enc Try.prog Try.f6 Rows.downTreeRow.domain false) (Rows.downTreeSpec.post enc Try.prog Try.f6 false true false false) := by
  refine returnsInHanded_of_change_sized (C := Try.checked) own started (by kernel_rfl) Try.func6
    (ChangeSpec.witness6 (enc := enc) (C := Try.checked) false ⟨#[], #[.slice none 0 0, .slice none 0 0, .int .i64 0], []⟩ 8 (by kernel_rfl) (by kernel_rfl) (by kernel_rfl) (by kernel_rfl)) ?_
  intro W base args ds gs before hval0 hW hcnd hsz0 _
  have hval : ∀ (j : Nat) t v, Try.f6.params[j]? = some t → args[j]? = some v → Value.okWide Try.prog W .any base t v := hval0
  have hW' := hW
  obtain ⟨p, q, hA0, hV, rfl, hfz, hnd⟩ := hW
  have hA : DataW.TrodAll enc Try.prog W 0 (fun _ => true) true Try.f6.params.toList args.toList ds p := hA0
  rw [Try.params6] at hA hval
  obtain ⟨v0, vs0, d0, ds0, p0, q0, hargs, rfl, rfl, h0, r0⟩ := trodAll_cons hA
  obtain ⟨v1, vs1, d1, ds1, p1, q1, rfl, rfl, rfl, h1, r1⟩ := trodAll_cons r0
  obtain ⟨v2, vs2, d2, ds2, p2, q2, rfl, rfl, rfl, h2, r2⟩ := trodAll_cons r1
  obtain ⟨rfl, rfl, rfl⟩ := trodAll_nil r2
  obtain rfl : args = #[v0, v1, v2] := by cases args; simp_all
  obtain ⟨rfl, rfl⟩ := trodVars_none hV
  have k0 := h0
  have lt0 : ∀ x ∈ p0, x.block < W.heap.size := by obtain ⟨m, hm⟩ := k0; exact DataW.trod_lt m _ _ _ hm
  obtain ⟨fuel0, hf0⟩ := h0
  obtain ⟨Az0, nz0, cz0, rfl⟩ := okWide_slice Try.underlying38 (hval 0 38 v0 rfl rfl)
  have hcl0 : (Value.slice Az0 nz0 cz0).cells.toList = [Value.slice Az0 nz0 cz0] := rfl
  rw [hcl0] at hf0
  obtain ⟨l0, w0, A0, c0, e0, hc0, hC0⟩ := op38 _ _ _ _ _ _ _ _ _ hf0
  injection e0 with e0 _
  injection e0 with e1_0 e2_0 e3_0
  subst e1_0 e2_0 e3_0
  have k1 := h1
  have lt1 : ∀ x ∈ p1, x.block < W.heap.size := by obtain ⟨m, hm⟩ := k1; exact DataW.trod_lt m _ _ _ hm
  obtain ⟨fuel1, hf1⟩ := h1
  obtain ⟨Az1, nz1, cz1, rfl⟩ := okWide_slice Try.underlying40 (hval 1 40 v1 rfl rfl)
  have hcl1 : (Value.slice Az1 nz1 cz1).cells.toList = [Value.slice Az1 nz1 cz1] := rfl
  rw [hcl1] at hf1
  obtain ⟨l1, w1, A1, c1, e1, hc1, hC1⟩ := op40 _ _ _ _ _ _ _ _ _ hf1
  injection e1 with e1 _
  injection e1 with e1_1 e2_1 e3_1
  subst e1_1 e2_1 e3_1
  obtain ⟨a2, rfl, rfl, rfl, w2⟩ := open_int Try.underlying3 (hval 2 3 v2 rfl rfl) h2
  have z0 := sized_ints hsz0 (j := 0) (t := 38) rfl rfl Try.underlying38 Try.underlying5 (by kernel_rfl) (B := 1) (by kernel_rfl) k0
  rw [Nat.mul_one] at z0
  clear hA0 hval0 hsz0
  obtain ⟨k, hk⟩ := Pure.DownTree l0 l1 a2 w0 z0 w1 w2
  refine (slotmeshlaw21_DownTree.calls k _ _ l0 _ _ l1 a2 true W rfl hC0 hc0 hC1 hc1 hk).mono fun e W' ⟨he, bel⟩ => ?_
  subst he
  exact ⟨_, rfl, _, _, _, [], _, [], hW', trodAll_mk1 (shut_bool Try.underlying4 _), (trodAll_cons_mk (Below.trod laidOut (by kernel_rfl) (of_decide_eq_true (by kernel_rfl)) k0 bel lt0) (trodAll_cons_mk (Below.trod laidOut (by kernel_rfl) (of_decide_eq_true (by kernel_rfl)) k1 bel lt1) (trodAll_cons_mk (shut_int Try.underlying3 w2) trodAll_mk0))), rfl, bel.frame _, fun h => by cases h⟩
theorem over : Rows.downTreeRow.holds Try.pinned (OpenSpec.ofChange Rows.downTreeSpec) :=
  OpenClaim.holds_of_wide 6 Try.f6 rfl rfl rfl rfl rfl rfl rfl ⟨rfl, rfl, rfl, rfl, rfl⟩ rfl rfl rfl rfl rfl (by kernel_rfl) Try.func6 (by kernel_rfl)
    (of_decide_eq_true (by kernel_rfl)) (by unfold Func.isWrapper; first | (rw [if_pos (by decide +kernel)]; kernel_rfl) | (rw [if_neg (by decide +kernel)]; exact ⟨rfl, rfl⟩))
    (fun os started H enc _ => lifted os started H enc)
theorem proved : Rows.DownTreeSaid := over
#print axioms proved
end Go.Proofs.Ythobfempjekhdaa.Px.downTree
namespace Go.Proofs.Ythobfempjekhdaa
/-- The row, under a short name, for the claim. -/
theorem downTree_holds : Rows.DownTreeSaid := Px.downTree.proved
end Go.Proofs.Ythobfempjekhdaa
