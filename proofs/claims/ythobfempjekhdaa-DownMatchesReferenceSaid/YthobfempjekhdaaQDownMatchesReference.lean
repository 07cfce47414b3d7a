/- DownMatchesReference: the pure statement, over numbers and lists alone. -/
import Derived.Test.YthobfempjekhdaaPx10
import Derived.Test.YthobfempjekhdaaSpec
namespace Go.Proofs.Ythobfempjekhdaa.Px
open Go.RowKit Go.Proofs.YthobfempjekhdaaW.PrintWords Go.Proofs.YthobfempjekhdaaW.PrintLast Go.Proofs.YthobfempjekhdaaW.PrintMore
set_option linter.unusedVariables false
set_option linter.unusedSimpArgs false
def slotmeshlaw21_DownMatchesReference.Pure : Prop := ∀ (l0 : List S35) (a1 : Int) (a2 : Int) (l3 : List S35) (a4 : Int) (a5 : Int), (l0.length ≤ maxLen ∧ ∀ x35 ∈ l0, True) → (Lit.int .i64 a1).wf = true → (Lit.int .i64 a2).wf = true → (l3.length ≤ maxLen ∧ ∀ x35 ∈ l3, True) → (Lit.int .i64 a4).wf = true → (Lit.int .i64 a5).wf = true → ∃ k, slotmeshlaw21_DownMatchesReference.f k l0 a1 a2 l3 a4 a5 = some true
namespace Pure
theorem DownMatchesReference : slotmeshlaw21_DownMatchesReference.Pure := by
  intro l c s b f t hl hc hs hb hf ht
  refine ⟨3000, ?_⟩
  unfold slotmeshlaw21_DownMatchesReference.f slotmeshlaw21_head.f slotmeshlaw21_short.f
  simp only [Option.bind_some]
  by_cases h1 : (l.length : Int) ≤ 70
  · rw [if_pos h1, Option.bind_some]
    by_cases h2 : (b.length : Int) ≤ 70
    · rw [if_pos (decide_eq_true h2), Spec.learn_eq l c s b f (by omega) (by omega) _ (by decide), Spec.rlearn_eq l c s b f (by omega) (by omega) _ (by decide), Spec.next_eq l t (by omega) _ (by decide), Spec.rnext_eq l t (by omega) _ (by decide), Spec.expire_eq l f (by omega) _ (by decide), Spec.rexpire_eq l f (by omega) _ (by decide), Spec.tell_eq l (by omega) _ (by decide), Spec.rtell_eq l (by omega) _ (by decide)]
      simp only [Option.bind_some]
      have e1 := Spec.learn_len l c s b f
      have e2 := Spec.exp_len l f (by omega)
      have e3 := Spec.tell_len l (by omega)
      rw [Spec.same_eq _ _ (by omega) _ (by omega), Spec.same_eq _ _ (by omega) _ (by omega), Spec.same_eq _ _ (by omega) _ (by omega)]
      simp
    · rw [if_neg (by simpa using h2)]
  · rw [if_neg h1, Option.bind_some]; rfl
end Pure
end Go.Proofs.Ythobfempjekhdaa.Px
