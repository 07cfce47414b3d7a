/- QueuePlaces: the pure statement, over numbers and lists alone. -/
import Derived.Test.YtcjnjgafhfkegaaPx14
import Derived.Test.YtcjnjgafhfkegaaSpec
namespace Go.Proofs.Ytcjnjgafhfkegaa.Px
open Go.RowKit Go.Proofs.YtcjnjgafhfkegaaW.PrintWords Go.Proofs.YtcjnjgafhfkegaaW.PrintLast Go.Proofs.YtcjnjgafhfkegaaW.PrintMore
set_option linter.unusedVariables false
set_option linter.unusedSimpArgs false
def slotmeshlaw27_QueuePlaces.Pure : Prop := ∀ (l0_0 : List S26) (a1_0 : Int) (a1_1 : Int) (a1_2 : Int) (a1_3 : Int) (a1_4 : Int) (a2 : Int), l0_0.length ≤ 9223372036854775807 → (Lit.int .i64 a2).wf = true → ∃ k, slotmeshlaw27_QueuePlaces.f k l0_0 a1_0 a1_1 a1_2 a1_3 a1_4 a2 = some true
namespace Pure
theorem QueuePlaces : slotmeshlaw27_QueuePlaces.Pure := by
  intro l a b c d e me hn _
  refine ⟨(2 * l.length + 999) + 1, ?_⟩
  unfold slotmeshlaw27_QueuePlaces.f slotmeshlaw27_head.f slotmeshlaw27_short.f
  simp only [Option.bind_some]
  have hj : ∀ k x a b c d e, slotmeshlaw27_QueuePlaces.j0 (k + 1) me true true x a b c d e = some true := fun k x a b c d e => by simp [slotmeshlaw27_QueuePlaces.j0]
  by_cases h : (l.length : Int) ≤ 40
  · rw [if_pos (by simpa using h), rvalid_eq l hn _ (by omega)]
    simp only [Option.bind_some]
    by_cases hv : vld l = true
    · rw [if_pos hv, rformed_eq]
      simp only [Option.bind_some]
      by_cases hf : frm ⟨a, b, c, d, e⟩ = true
      · rw [if_pos hf]
        by_cases h0 : me < 0
        · rw [if_pos h0, hj]
        · rw [if_neg h0]
          by_cases h1 : me ≥ 60
          · rw [if_pos h1, hj]
          · rw [if_neg h1, rfind_eq l a b hn _ (by omega)]
            simp only [Option.bind_some]
            by_cases h2 : qidx l a b ≥ 0
            · rw [decide_eq_true h2, hj]
            · rw [decide_eq_false h2]
              have hV := (vld_iff l).1 hv
              have hlen := hV.2.2
              have hq := qidx_neg.1 (show qidx l a b < 0 by omega)
              have hp := put_ok (r := ⟨a, b, c, d, e⟩) (me := me) hV hf (by omega) (by omega) hq
              dsimp only at hp
              simp only [slotmeshlaw27_QueuePlaces.j0]
              rw [if_neg (by decide), put_eq l a b c d e me hn _ (by omega), hp]
              simp only [Option.bind_some]
              by_cases h3 : a = me
              · rw [if_pos h3, if_pos trivial]
                by_cases h4 : (l.length : Int) < 12
                · rw [if_neg (show ¬ (l.length = 16 ∨ l.length ≥ 12 ∧ a = me) by omega)]; show (if (0 : Int) = 0 then _ else _) = _; rw [if_pos rfl, if_pos h4]
                · rw [if_pos (show (l.length = 16 ∨ l.length ≥ 12 ∧ a = me) by omega), if_neg (by decide), if_neg h4]; rfl
              · rw [if_neg h3, if_pos trivial]
                by_cases h4 : (l.length : Int) < 16
                · rw [if_neg (show ¬ (l.length = 16 ∨ l.length ≥ 12 ∧ a = me) by omega)]; show (if (0 : Int) = 0 then _ else _) = _; rw [if_pos rfl, if_pos h4]
                · rw [if_pos (show (l.length = 16 ∨ l.length ≥ 12 ∧ a = me) by omega), if_neg (by decide), if_neg h4]; rfl
      · rw [if_neg hf, hj]
    · rw [if_neg hv, hj]
  · rw [if_neg (by simpa using h), hj]
end Pure
end Go.Proofs.Ytcjnjgafhfkegaa.Px
