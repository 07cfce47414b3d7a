/- QueueFirst: the pure statement, over numbers and lists alone. -/
import Derived.Test.YtcjnjgafhfkegaaPx12
import Derived.Test.YtcjnjgafhfkegaaSpec
namespace Go.Proofs.Ytcjnjgafhfkegaa.Px
open Go.RowKit Go.Proofs.YtcjnjgafhfkegaaW.PrintWords Go.Proofs.YtcjnjgafhfkegaaW.PrintLast Go.Proofs.YtcjnjgafhfkegaaW.PrintMore
set_option linter.unusedVariables false
set_option linter.unusedSimpArgs false
def slotmeshlaw27_QueueFirst.Pure : Prop := ∀ (l0 : List S39) (a1 : Int), (l0.length ≤ maxLen ∧ ∀ x39 ∈ l0, True) → (Lit.int .i64 a1).wf = true → ∃ k, slotmeshlaw27_QueueFirst.f k l0 a1 = some true
namespace Pure
theorem rd0 (q : List S26) : rd_T26 q 0 = q.getD 0 z26 := rfl
theorem qf_l0 (acts : List S39) (me : Int) (hn : acts.length ≤ 100) : ∀ (d k i : Nat) (q : List S26), i + d = acts.length → 2 * d + 100 < k → VP q →
    slotmeshlaw27_QueueFirst.l0 k me true q acts (acts.length : Int) (i : Int) q = some true
  | 0, k, i, q, hd, hk, hV => by
    obtain ⟨k, rfl⟩ : ∃ m, k = m + 1 := ⟨k - 1, by omega⟩
    have hlen := hV.2.2
    simp only [slotmeshlaw27_QueueFirst.l0]
    rw [if_neg (by omega), if_pos trivial, same_eq q (by omega) k (by omega), Option.bind_some]
  | d + 1, k, i, q, hd, hk, hV => by
    obtain ⟨k, rfl⟩ : ∃ m, k = m + 2 := ⟨k - 2, by omega⟩
    have hlen := hV.2.2
    have hvq := (vld_iff q).2 hV
    have ih := fun p hp => qf_l0 acts me hn d k (i + 1) p (by omega) (by omega) hp
    have hj : ∀ (ad hd : Bool) (a b c e f x0 x1 x2 x3 x4 : Int), (hd = true → 0 < q.length ∧ x0 = (q.getD 0 z26).f0 ∧ x1 = (q.getD 0 z26).f1) →
        slotmeshlaw27_QueueFirst.j1 (k + 1) me true q hd acts (acts.length : Int) (i : Int) false q ad a b c e f x0 x1 x2 x3 x4 = some true := by
      intro ad hd a b c e f x0 x1 x2 x3 x4 hh
      simp only [slotmeshlaw27_QueueFirst.j1]
      rw [if_neg (by decide), w1 (n := acts.length) (by omega) (by omega)]
      by_cases had : ad = true
      · rw [if_pos had]
        by_cases hhd : hd = true
        · obtain ⟨h0, h1, h2⟩ := hh hhd
          have ho := out_at hV.2.1 0 h0 (show nm26 x0 x1 (q.getD 0 z26) = true from (nm_iff _ _ _).2 ⟨h1.symm, h2.symm⟩)
          have hd1 : dropS q x0 x1 = q.drop 1 := by unfold dropS; rw [if_pos hvq, ho]; rfl
          have hV1 : VP (q.drop 1) := by have := out_VP x0 x1 hV; rw [ho] at this; exact this
          rw [if_pos hhd, drop_eq q x0 x1 (by omega) k (by omega), hd1, Option.bind_some, if_pos (by omega)]
          exact ih _ hV1
        · rw [if_neg hhd]
          exact ih _ hV
      · rw [if_neg had, put_eq q a b c e f me (by omega) k (by omega), Option.bind_some]
        by_cases h : (putS q ⟨a, b, c, e, f⟩ me).2 = 0
        · obtain ⟨_, hf, h1, hV2, hq, hl⟩ := put_VP h
          have ht : q.take ((q.length : Int)).toNat = q := List.take_length
          rw [if_pos h, h1, if_pos (by omega), if_pos (by omega), ht, Option.bind_some, if_pos (by omega)]
          exact ih _ hV2
        · rw [if_neg h]
          exact ih _ hV
    simp only [slotmeshlaw27_QueueFirst.l0]
    rw [if_pos (by omega), if_pos (by omega), if_pos (by omega), head_eq q (by omega) _ (by omega)]
    simp only [Option.bind_some]
    by_cases hq : 0 < q.length
    · have hh : headS q = ((q.getD 0 z26).f0, (q.getD 0 z26).f1, (q.getD 0 z26).f2, (q.getD 0 z26).f3, (q.getD 0 z26).f4, true) := by
        unfold headS; rw [if_pos ⟨hvq, hq⟩]
      rw [hh, rd0]
      dsimp only
      rw [if_pos rfl, if_pos (by omega), if_pos (by omega)]
      have hb : ∀ x : S26, (!(x.f0 == x.f0) || (!(x.f1 == x.f1) || (!(x.f2 == x.f2) || (!(x.f3 == x.f3) || (!(x.f4 == x.f4)))))) = false := fun x => by simp
      rw [hb]
      exact hj _ true _ _ _ _ _ _ _ _ _ _ (fun _ => ⟨hq, rfl, rfl⟩)
    · have hh : headS q = (0, 0, 0, 0, 0, false) := by
        unfold headS; rw [if_neg (fun h => hq h.2)]
      rw [hh]
      dsimp only
      rw [if_neg (by decide), if_neg (by omega)]
      exact hj _ false _ _ _ _ _ _ _ _ _ _ (fun h => by cases h)
theorem QueueFirst : slotmeshlaw27_QueueFirst.Pure := by
  intro l me hn _
  refine ⟨2 * l.length + 101, ?_⟩
  unfold slotmeshlaw27_QueueFirst.f slotmeshlaw27_head.f
  rw [Option.bind_some]
  by_cases h : (l.length : Int) > 100
  · rw [if_pos h]
  · rw [if_neg h]
    exact qf_l0 l me (by omega) l.length _ 0 [] (by omega) (by omega) ⟨fun x hx => absurd hx List.not_mem_nil, List.Pairwise.nil, Nat.zero_le _⟩
end Pure
end Go.Proofs.Ytcjnjgafhfkegaa.Px
