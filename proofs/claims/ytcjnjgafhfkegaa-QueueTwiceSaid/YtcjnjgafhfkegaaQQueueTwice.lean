/- QueueTwice: the pure statement, over numbers and lists alone. -/
import Derived.Test.YtcjnjgafhfkegaaPx16
import Derived.Test.YtcjnjgafhfkegaaSpec
namespace Go.Proofs.Ytcjnjgafhfkegaa.Px
open Go.RowKit Go.Proofs.YtcjnjgafhfkegaaW.PrintWords Go.Proofs.YtcjnjgafhfkegaaW.PrintLast Go.Proofs.YtcjnjgafhfkegaaW.PrintMore
set_option linter.unusedVariables false
set_option linter.unusedSimpArgs false
def slotmeshlaw27_QueueTwice.Pure : Prop := ∀ (l0_0 : List S26) (a1 : Int) (a2 : Int) (a3 : Int) (a4 : Int), l0_0.length ≤ 9223372036854775807 → (Lit.int .u8 a1).wf = true → (Lit.int .i64 a2).wf = true → (Lit.int .i64 a3).wf = true → (Lit.int .i64 a4).wf = true → ∃ k, slotmeshlaw27_QueueTwice.f k l0_0 a1 a2 a3 a4 = some true
namespace Pure
theorem nm_self (x : S26) : nm26 x.f0 x.f1 x = true := by simp [nm26]
theorem QueueTwice : slotmeshlaw27_QueueTwice.Pure := by
  intro l p v at_ me hn hp _ _ _
  have hp0 : 0 ≤ p ∧ p ≤ 255 := by
    have h1 := of_decide_eq_true (Bool.and_eq_true_iff.1 (show (decide (IntKind.u8.min ≤ p) && decide (p ≤ IntKind.u8.max)) = true from hp)).1
    have h2 := of_decide_eq_true (Bool.and_eq_true_iff.1 (show (decide (IntKind.u8.min ≤ p) && decide (p ≤ IntKind.u8.max)) = true from hp)).2
    exact ⟨h1, h2⟩
  refine ⟨(2 * l.length + 999) + 1, ?_⟩
  unfold slotmeshlaw27_QueueTwice.f slotmeshlaw27_head.f slotmeshlaw27_short.f
  simp only [Option.bind_some]
  have hj : ∀ k x, slotmeshlaw27_QueueTwice.j0 (k + 1) p v at_ me true true x = some true := fun k x => by simp [slotmeshlaw27_QueueTwice.j0]
  by_cases h : (l.length : Int) ≤ 40
  · rw [if_pos (by simpa using h), rvalid_eq l hn _ (by omega)]
    simp only [Option.bind_some]
    by_cases hv : vld l = true
    · rw [if_pos hv]
      by_cases h0 : (l.length : Int) = 0
      · rw [if_pos h0, hj]
      · rw [if_neg h0]
        by_cases h1 : me < 0
        · rw [if_pos h1, hj]
        · rw [if_neg h1]
          by_cases h2 : me ≥ 60
          · rw [if_pos h2, hj]
          · rw [if_neg h2]
            by_cases h3 : at_ < 0
            · rw [if_pos h3, hj]
            · rw [if_neg h3]
              by_cases h4 : at_ > 1000000000
              · rw [decide_eq_true h4, hj]
              · rw [decide_eq_false h4]
                have hV := (vld_iff l).1 hv
                have hlen := hV.2.2
                have hw : wrap64 p = p := by unfold wrap64; omega
                obtain ⟨i, hi, hil⟩ : ∃ i : Nat, Int.tmod (wrap64 p) (l.length : Int) = (i : Int) ∧ i < l.length := by
                  refine ⟨(Int.tmod (wrap64 p) (l.length : Int)).toNat, ?_, ?_⟩ <;> rw [hw, Int.tmod_eq_emod_of_nonneg hp0.1] <;> have := Int.emod_nonneg p h0 <;> have := Int.emod_lt_of_pos p (show (0 : Int) < l.length by omega) <;> omega
                simp only [slotmeshlaw27_QueueTwice.j0]
                rw [if_neg (by decide), if_neg h0, hi, if_pos (by omega), if_pos (by omega), rdn, getD_eq l i hil]
                generalize hx : l[i] = x
                have hmem : x ∈ l := hx ▸ List.getElem_mem hil
                have hfx := hV.1 x hmem
                have hfr : frm ⟨x.f0, x.f1, x.f2, v, at_⟩ = true := by
                  have := hfx
                  simp only [frm, decide_eq_true_iff] at this ⊢
                  omega
                have hq : ¬ qidx l x.f0 x.f1 < 0 := fun hc => by
                  have := qidx_neg.1 hc x hmem
                  rw [nm_self] at this; cases this
                have hp1 : putS l ⟨x.f0, x.f1, x.f2, v, at_⟩ me = ([], 5) := by
                  unfold putS
                  rw [if_pos ⟨hv, hfr, by omega, by omega⟩, if_pos (show qidx l x.f0 x.f1 ≥ 0 by omega)]
                have hd : dropS l x.f0 x.f1 = out26 x.f0 x.f1 l := by unfold dropS; rw [if_pos hv]
                have hdl : (out26 x.f0 x.f1 l).length < 16 := by
                  have h5 := out_at hV.2.1 i hil (show nm26 x.f0 x.f1 (l.getD i z26) = true by rw [getD_eq l i hil, hx]; exact nm_self x)
                  rw [h5, List.length_append, List.length_take, List.length_drop]; omega
                have hVd := out_VP x.f0 x.f1 hV
                have hno : ∀ y ∈ out26 x.f0 x.f1 l, nm26 x.f0 x.f1 y = false := fun y hy => by
                  have := (List.mem_filter.1 hy).2; simpa using this
                have hp2 := put_ok (r := ⟨x.f0, x.f1, x.f2, v, at_⟩) (me := me) hVd hfr (by omega) (by omega) hno
                rw [put_eq l _ _ _ _ _ me hn _ (by omega), hp1]
                simp only [Option.bind_some]
                rw [drop_eq l _ _ hn _ (by omega), hd]
                simp only [Option.bind_some]
                rw [put_eq _ _ _ _ _ _ me (by omega) _ (by omega), hp2]
                simp only [Option.bind_some]
                rw [if_pos trivial, if_pos trivial]
                by_cases h6 : x.f0 = me
                · rw [if_pos h6]
                · rw [if_neg h6, if_neg (show ¬ ((out26 x.f0 x.f1 l).length = 16 ∨ (out26 x.f0 x.f1 l).length ≥ 12 ∧ x.f0 = me) from fun hc => hc.elim (fun hc => by omega) (fun hc => h6 hc.2))]
                  rfl
    · rw [if_neg hv, hj]
  · rw [if_neg (by simpa using h), hj]
end Pure
end Go.Proofs.Ytcjnjgafhfkegaa.Px
