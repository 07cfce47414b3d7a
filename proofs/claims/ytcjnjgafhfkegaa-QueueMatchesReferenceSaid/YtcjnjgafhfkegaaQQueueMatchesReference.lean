/- QueueMatchesReference: the pure statement, over numbers and lists alone. -/
import Derived.Test.YtcjnjgafhfkegaaPx11
import Derived.Test.YtcjnjgafhfkegaaSpecR
namespace Go.Proofs.Ytcjnjgafhfkegaa.Px
open Go.RowKit Go.Proofs.YtcjnjgafhfkegaaW.PrintWords Go.Proofs.YtcjnjgafhfkegaaW.PrintLast Go.Proofs.YtcjnjgafhfkegaaW.PrintMore
set_option linter.unusedVariables false
set_option linter.unusedSimpArgs false
def slotmeshlaw27_QueueMatchesReference.Pure : Prop := ∀ (l0_0 : List S26) (a1_0 : Int) (a1_1 : Int) (a1_2 : Int) (a1_3 : Int) (a1_4 : Int) (a2 : Int) (a3 : Int) (a4 : Int), l0_0.length ≤ 9223372036854775807 → (Lit.int .i64 a2).wf = true → (Lit.int .i64 a3).wf = true → (Lit.int .i64 a4).wf = true → ∃ k, slotmeshlaw27_QueueMatchesReference.f k l0_0 a1_0 a1_1 a1_2 a1_3 a1_4 a2 a3 a4 = some true
namespace Pure
theorem putS_len (l : List S26) (r : S26) (me : Int) : (putS l r me).1.length ≤ l.length + 1 := by
  unfold putS
  repeat' split
  all_goals simp
theorem dropS_len (l : List S26) (a b : Int) : (dropS l a b).length ≤ l.length := by
  unfold dropS
  split
  · exact List.length_filter_le _ _
  · simp
theorem QueueMatchesReference : slotmeshlaw27_QueueMatchesReference.Pure := by
  intro l a b c d e me o n hn _ _ _
  refine ⟨2 * l.length + 1000, ?_⟩
  unfold slotmeshlaw27_QueueMatchesReference.f slotmeshlaw27_head.f slotmeshlaw27_short.f
  simp only [Option.bind_some]
  by_cases h : (l.length : Int) ≤ 40
  · rw [if_pos (by simpa using h), put_eq l a b c d e me hn _ (by omega), rput_eq l a b c d e me hn _ (by omega), head_eq l hn _ (by omega), rhead_eq l hn _ (by omega)]
    simp only [Option.bind_some]
    have h1 := putS_len l ⟨a, b, c, d, e⟩ me
    have h2 := dropS_len l o n
    rw [if_pos trivial, same_eq _ (by omega) _ (by omega)]
    simp only [Option.bind_some]
    rw [if_pos trivial, if_pos trivial, if_pos (by simp), if_pos (by simp), drop_eq l o n hn _ (by omega), rdrop_eq l o n hn _ (by omega)]
    simp only [Option.bind_some]
    rw [same_eq _ (by omega) _ (by omega)]
    simp only [Option.bind_some]
    rw [if_pos trivial, full_eq l hn _ (by omega), rfull_eq l hn _ (by omega)]
    simp
  · rw [if_neg (by simpa using h)]
end Pure
end Go.Proofs.Ytcjnjgafhfkegaa.Px
