/- CellsBack: the pure statement, over numbers and lists alone. -/
import Derived.Test.YtbpfbdljcdcgnaaPx34
import Derived.Test.YtbpfbdljcdcgnaaSpec
namespace Go.Proofs.Ytbpfbdljcdcgnaa.Px
open Go.RowKit Go.Proofs.YtbpfbdljcdcgnaaW.PrintWords Go.Proofs.YtbpfbdljcdcgnaaW.PrintLast Go.Proofs.YtbpfbdljcdcgnaaW.PrintMore
set_option linter.unusedVariables false
set_option linter.unusedSimpArgs false
def slotmeshlaw12_CellsBack.Pure : Prop := ∀ (l0_0 : List S32) (l0_1 : List S34) (l0_2 : List S51) (a1_0 : Int) (a1_1 : Int) (a2_0 : Int) (a2_1 : Int) (a2_2 : Int) (a2_3 : Int) (a2_4 : Int), l0_0.length ≤ 9223372036854775807 → l0_1.length ≤ 9223372036854775807 → l0_2.length ≤ 9223372036854775807 → ∃ k, slotmeshlaw12_CellsBack.f k l0_0 l0_1 l0_2 a1_0 a1_1 a2_0 a2_1 a2_2 a2_3 a2_4 = some true
namespace Pure
theorem drop_ins (x : S34) (l1 : List S34) (h : ∀ y ∈ l1, Spec.s34 y ≠ x.f0.f0) : (Spec.i34 x l1).filter (fun y => !dcl34 x.f0.f0 x.f0.f1 y) = l1 := by
  have hk : ∀ y ∈ l1, (!dcl34 x.f0.f0 x.f0.f1 y) = true := fun y hy => by
    have := h y hy
    unfold dcl34 Spec.s34 at *
    simp [this]
  unfold Spec.i34 Spec.insG
  rw [List.filter_append, List.filter_cons, if_neg (by unfold dcl34; simp), ← List.filter_append, List.take_append_drop]
  exact List.filter_eq_self.2 hk
theorem finish (l0 : List S32) (l1 : List S34) (l2 : List S51) (a b : Int) (x : S34) (h0 : l0.length ≤ 70) (h1 : l1.length ≤ 70) (h2 : l2.length ≤ 70) (ha : ∀ y ∈ l2, Spec.s51 y ≠ x.f0.f0) (k : Nat) (hk : 4000 ≤ k) (i n : Int) (hi : ¬ i < n) :
    slotmeshlaw12_CellsBack.l0 (k + 1) true l2 n i l0 l1 l2 a b x.f0.f0 x.f0.f1 x.f1 x.f2 x.f3 = some true := by
  simp only [slotmeshlaw12_CellsBack.l0]
  rw [if_neg hi]
  show ((addB34 l0 l1 l2 a b x).bind _) = _
  rw [Spec.addG_eq _ _ _ _ _ _ (by omega) (by omega) (by omega)]
  by_cases e : refB l0 l1 l2 a b (v34 a b x) x.f0.f0 = 0
  · rw [if_pos e, Option.bind_some]
    dsimp only
    rw [if_pos trivial, if_pos rfl]
    obtain ⟨hg, hv, hb, hl⟩ := Spec.ref_zero e
    obtain ⟨b0, b1⟩ := Spec.busy_not hb
    have hun := Spec.un_len x.f0.f0 l2
    have hil : (Spec.i34 x l1).length = l1.length + 1 := Spec.insG_len _ _ _
    rw [Spec.drop_eq _ _ _ _ _ (by omega) (by omega) (by omega), Option.bind_some]
    dsimp only
    have e0 : l0.filter (fun y => !dcl32 x.f0.f0 x.f0.f1 y) = l0 := List.filter_eq_self.2 fun y hy => by
      have := b0 y hy
      unfold dcl32 Spec.s32 at *
      simp [this]
    have eu : Spec.un x.f0.f0 l2 = l2 := List.filter_eq_self.2 fun y hy => by
      have := ha y hy
      unfold slot51 Spec.s51 at *
      simp [this]
    have e2 : l2.filter (fun y => !dcl51 x.f0.f0 x.f0.f1 y) = l2 := List.filter_eq_self.2 fun y hy => by
      have := ha y hy
      unfold dcl51 Spec.s51 at *
      simp [this]
    rw [e0, drop_ins x l1 b1, eu, e2, Spec.same_refl _ _ _ (by omega) (by omega) (by omega) _ hk, Option.bind_some]
  · rw [if_neg e, Option.bind_some]
    dsimp only
    rw [if_pos trivial, if_neg e]
theorem loop_eq (l0 : List S32) (l1 : List S34) (l2 : List S51) (a b : Int) (x : S34) (h0 : l0.length ≤ 70) (h1 : l1.length ≤ 70) (h2 : l2.length ≤ 70) :
    ∀ (m i k : Nat), l2.length = i + m → m + 4000 < k → (∀ y ∈ l2.take i, Spec.s51 y ≠ x.f0.f0) → slotmeshlaw12_CellsBack.l0 k true l2 (l2.length : Int) (i : Int) l0 l1 l2 a b x.f0.f0 x.f0.f1 x.f1 x.f2 x.f3 = some true
  | 0, i, 0, _, h, _ => absurd h (by omega)
  | 0, i, k + 1, h, hk, ha => by
    rw [List.take_of_length_le (by omega)] at ha
    exact finish l0 l1 l2 a b x h0 h1 h2 ha k (by omega) _ _ (by omega)
  | m + 1, i, 0, _, h, _ => absurd h (by omega)
  | m + 1, i, k + 1, h, hk, ha => by
    have hi : i < l2.length := by omega
    have hx : rd_T51 l2 (i : Int) = l2[i] := by unfold rd_T51; rw [Int.toNat_natCast, List.getD_eq_getElem?_getD, List.getElem?_eq_getElem hi]; rfl
    have ih := loop_eq l0 l1 l2 a b x h0 h1 h2 m (i + 1) k (by omega) (by omega)
    simp only [slotmeshlaw12_CellsBack.l0]
    rw [if_pos (by omega), if_pos (by omega), if_pos (by omega), hx, Spec.next_eq i (by omega)]
    by_cases e : l2[i].f0.f0 = x.f0.f0
    · rw [if_pos e]
    · rw [if_neg e]
      refine ih fun y hy => ?_
      rw [List.take_succ_eq_append_getElem hi] at hy
      rcases List.mem_append.1 hy with hy | hy
      · exact ha y hy
      · rw [List.mem_singleton.1 hy]; exact e
theorem CellsBack : slotmeshlaw12_CellsBack.Pure := by
  intro l0 l1 l2 a b x0 x1 x2 x3 x4 _ _ _
  refine ⟨9000, ?_⟩
  unfold slotmeshlaw12_CellsBack.f slotmeshlaw12_head.f
  rw [Option.bind_some, Spec.few_eq, Option.bind_some]
  by_cases h : l0.length ≤ 70 ∧ l1.length ≤ 70 ∧ l2.length ≤ 70
  · rw [decide_eq_true h, if_pos rfl]
    obtain ⟨h0, h1, h2⟩ := h
    show ((cells_Valid.f l0 l1 l2 a b).bind _) = _
    rw [Spec.valid_eq _ _ _ _ _ (by omega) (by omega) (by omega), Option.bind_some]
    cases validB l0 l1 l2 a b
    · simp only [slotmeshlaw12_CellsBack.j0]; rfl
    · simp only [slotmeshlaw12_CellsBack.j0]
      rw [if_neg (by decide)]
      exact loop_eq l0 l1 l2 a b ⟨⟨x0, x1⟩, x2, x3, x4⟩ h0 h1 h2 l2.length 0 8999 (by omega) (by omega) (by simp)
  · rw [decide_eq_false h, if_neg (by decide)]
    simp only [slotmeshlaw12_CellsBack.j0]
    rfl
end Pure
end Go.Proofs.Ytbpfbdljcdcgnaa.Px
