/- CellsTime: the pure statement, over numbers and lists alone. -/
import Derived.Test.YtbpfbdljcdcgnaaPx35
import Derived.Test.YtbpfbdljcdcgnaaSpec
namespace Go.Proofs.Ytbpfbdljcdcgnaa.Px
open Go.RowKit Go.Proofs.YtbpfbdljcdcgnaaW.PrintWords Go.Proofs.YtbpfbdljcdcgnaaW.PrintLast Go.Proofs.YtbpfbdljcdcgnaaW.PrintMore
set_option linter.unusedVariables false
set_option linter.unusedSimpArgs false
def slotmeshlaw12_CellsTime.Pure : Prop := ∀ (l0_0 : List S32) (l0_1 : List S34) (l0_2 : List S51) (a1 : Int) (a2 : Int), l0_0.length ≤ 9223372036854775807 → l0_1.length ≤ 9223372036854775807 → l0_2.length ≤ 9223372036854775807 → (Lit.int .i64 a1).wf = true → (Lit.int .i64 a2).wf = true → ∃ k, slotmeshlaw12_CellsTime.f k l0_0 l0_1 l0_2 a1 a2 = some true
namespace Pure
theorem loop_eq (a b : Int) (l0 : List S32) (l1 : List S34) (l2 : List S51) (x0 : List S32) (x1 : List S34) (x2 : List S51) (h1 : l1.length ≤ 1000) (r : Bool) (K : Nat)
    (hend : ∀ k, K ≤ k → slotmeshlaw12_CellsTime.l0 (k + 1) a b true l1 (l1.length : Int) (l1.length : Int) l0 l1 l2 x0 x1 x2 l0 (l1.filter fun x => !ecl34 a x && !ecl34 b x) l2 = some r) :
    ∀ (m i k : Nat) (acc : List S34), l1.length = i + m → m + K < k → acc = (l1.take i).filter (fun x => !ecl34 a x && !ecl34 b x) →
      slotmeshlaw12_CellsTime.l0 k a b true l1 (l1.length : Int) (i : Int) l0 l1 l2 x0 x1 x2 l0 acc l2 = some r
  | 0, i, 0, _, _, h, _ => absurd h (by omega)
  | 0, i, k + 1, acc, h, hk, he => by
    obtain rfl : i = l1.length := by omega
    rw [List.take_length] at he
    rw [he]
    exact hend k (by omega)
  | m + 1, i, 0, _, _, h, _ => absurd h (by omega)
  | m + 1, i, k + 1, acc, h, hk, he => by
    have hi : i < l1.length := by omega
    have hlen : acc.length ≤ 1000 := by rw [he]; refine Nat.le_trans (List.length_filter_le _ _) ?_; rw [List.length_take]; omega
    have hx : rd_T34 l1 (i : Int) = l1[i] := by unfold rd_T34; rw [Int.toNat_natCast, List.getD_eq_getElem?_getD, List.getElem?_eq_getElem hi]; rfl
    have ht : (l1.take (i + 1)).filter (fun x => !ecl34 a x && !ecl34 b x) = acc ++ (if (!ecl34 a l1[i] && !ecl34 b l1[i]) = true then [l1[i]] else []) := by
      rw [List.take_succ_eq_append_getElem hi, List.filter_append, ← he, List.filter_cons, List.filter_nil]
    have ih := loop_eq a b l0 l1 l2 x0 x1 x2 h1 r K hend m (i + 1) k
    simp only [slotmeshlaw12_CellsTime.l0]
    rw [if_pos (by omega), if_pos (by omega), if_pos (by omega), hx, Spec.next_eq i (by omega)]
    have ea : ecl34 a l1[i] = decide (l1[i].f3 < a) := rfl
    have eb : ecl34 b l1[i] = decide (l1[i].f3 < b) := rfl
    by_cases ha : l1[i].f3 ≥ a
    · rw [if_pos ha]
      have ea2 : ecl34 a l1[i] = false := by rw [ea]; exact decide_eq_false (by omega)
      by_cases hb : l1[i].f3 ≥ b
      · have eb2 : ecl34 b l1[i] = false := by rw [eb]; exact decide_eq_false (by omega)
        rw [if_pos hb, if_pos (by omega)]
        refine ih _ (by omega) (by omega) ?_
        rw [ht, ea2, eb2]; rfl
      · have eb2 : ecl34 b l1[i] = true := by rw [eb]; exact decide_eq_true (by omega)
        rw [if_neg hb]
        refine ih _ (by omega) (by omega) ?_
        rw [ht, ea2, eb2]; simp
    · have ea2 : ecl34 a l1[i] = true := by rw [ea]; exact decide_eq_true (by omega)
      rw [if_neg ha]
      refine ih _ (by omega) (by omega) ?_
      rw [ht, ea2]; simp
theorem keep_max (a b : Int) (l : List S34) : Spec.keepU (mx a b) l = l.filter fun x => !ecl34 a x && !ecl34 b x := by
  unfold Spec.keepU
  refine List.filter_congr fun x _ => ?_
  unfold ecl34 mx
  by_cases h : a < b
  · rw [if_pos h]
    by_cases h2 : x.f3 < b
    · simp [h2]
    · simp [h2]; omega
  · rw [if_neg h]
    by_cases h2 : x.f3 < a
    · simp [h2]
    · simp [h2]; omega
theorem keep_keep (a b : Int) (l : List S34) : Spec.keepU b (Spec.keepU a l) = l.filter fun x => !ecl34 a x && !ecl34 b x := by
  unfold Spec.keepU
  rw [List.filter_filter]
  exact List.filter_congr fun x _ => Bool.and_comm _ _
theorem CellsTime : slotmeshlaw12_CellsTime.Pure := by
  intro l0 l1 l2 a b _ _ _ _ _
  refine ⟨9000, ?_⟩
  unfold slotmeshlaw12_CellsTime.f slotmeshlaw12_head.f
  rw [Option.bind_some, Spec.few_eq, Option.bind_some]
  by_cases h : l0.length ≤ 70 ∧ l1.length ≤ 70 ∧ l2.length ≤ 70
  · rw [decide_eq_true h, if_pos rfl]
    obtain ⟨h0, h1, h2⟩ := h
    rw [Spec.expire_eq l0 l1 l2 _ (by omega) (by omega) (by omega), Option.bind_some]
    dsimp only
    refine loop_eq a b l0 l1 l2 l0 _ l2 (by omega) true 4000 (fun k hk => ?_) l1.length 0 9000 [] (by omega) (by omega) (by simp)
    simp only [slotmeshlaw12_CellsTime.l0]
    have hka := Spec.keepU_len a l1
    have hkm := Spec.keepU_len (mx a b) l1
    rw [if_neg (by omega), if_pos trivial, Spec.expire_eq l0 l1 l2 a (by omega) (by omega) (by omega), Option.bind_some]
    dsimp only
    rw [Spec.expire_eq l0 _ l2 b (by omega) (by omega) (by omega), Option.bind_some]
    dsimp only
    rw [keep_keep, ← keep_max, Spec.same_refl _ _ _ (by omega) (by omega) (by omega) _ hk, Option.bind_some, if_pos rfl, Option.bind_some]
  · rw [decide_eq_false h, if_neg (by decide)]
end Pure
end Go.Proofs.Ytbpfbdljcdcgnaa.Px
