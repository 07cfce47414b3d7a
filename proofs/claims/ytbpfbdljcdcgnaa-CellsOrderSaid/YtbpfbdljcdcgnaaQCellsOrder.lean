/- CellsOrder: the pure statement, over numbers and lists alone. -/
import Derived.Test.YtbpfbdljcdcgnaaPx33
import Derived.Test.YtbpfbdljcdcgnaaSpec
namespace Go.Proofs.Ytbpfbdljcdcgnaa.Px
open Go.RowKit Go.Proofs.YtbpfbdljcdcgnaaW.PrintWords Go.Proofs.YtbpfbdljcdcgnaaW.PrintLast Go.Proofs.YtbpfbdljcdcgnaaW.PrintMore
set_option linter.unusedVariables false
set_option linter.unusedSimpArgs false
def slotmeshlaw12_CellsOrder.Pure : Prop := ∀ (l0_0 : List S32) (l0_1 : List S34) (l0_2 : List S51) (a1_0 : Int) (a1_1 : Int) (a2_0 : Int) (a2_1 : Int) (a2_2 : Int) (a2_3 : Int) (a3_0 : Int) (a3_1 : Int) (a3_2 : Int) (a3_3 : Int) (a3_4 : Int), l0_0.length ≤ 9223372036854775807 → l0_1.length ≤ 9223372036854775807 → l0_2.length ≤ 9223372036854775807 → ∃ k, slotmeshlaw12_CellsOrder.f k l0_0 l0_1 l0_2 a1_0 a1_1 a2_0 a2_1 a2_2 a2_3 a3_0 a3_1 a3_2 a3_3 a3_4 = some true
namespace Pure
theorem un_un (s t : Int) (l : List S51) : Spec.un s (Spec.un t l) = Spec.un t (Spec.un s l) := by
  unfold Spec.un
  rw [List.filter_filter, List.filter_filter]
  exact List.filter_congr fun x _ => Bool.and_comm _ _
theorem i32_len (x : S32) (l : List S32) : (Spec.i32 x l).length = l.length + 1 := Spec.insG_len _ _ _
theorem i34_len (x : S34) (l : List S34) : (Spec.i34 x l).length = l.length + 1 := Spec.insG_len _ _ _
theorem end_j0 (l0 : List S32) (l1 : List S34) (l2 : List S51) (a b : Int) (x : S32) (y : S34) (h0 : l0.length ≤ 70) (h1 : l1.length ≤ 70) (h2 : l2.length ≤ 70) (hne : x.f0.f0 ≠ y.f0.f0) (hl : l0.length + l1.length + 2 ≤ 24) (k : Nat) (hk : 4000 ≤ k) :
    slotmeshlaw12_CellsOrder.j0 (k + 2) true false l0 l1 l2 a b x.f0.f0 x.f0.f1 x.f1 x.f2 y.f0.f0 y.f0.f1 y.f1 y.f2 y.f3 = some true := by
  simp only [slotmeshlaw12_CellsOrder.j0]
  rw [if_neg (by decide)]
  show ((addB32 l0 l1 l2 a b x).bind fun s => (addB34 l0 l1 l2 a b y).bind fun t => _) = _
  rw [Spec.addU_eq _ _ _ _ _ _ (by omega) (by omega) (by omega), Spec.addG_eq _ _ _ _ _ _ (by omega) (by omega) (by omega)]
  by_cases e : refB l0 l1 l2 a b (v32 a b x) x.f0.f0 = 0
  · rw [if_pos e, Option.bind_some]
    by_cases f : refB l0 l1 l2 a b (v34 a b y) y.f0.f0 = 0
    · rw [if_pos f, Option.bind_some]
      dsimp only
      rw [if_pos rfl]
      simp only [slotmeshlaw12_CellsOrder.j1]
      rw [if_neg (by decide)]
      obtain ⟨hg, hv, hb, _⟩ := Spec.ref_zero e
      obtain ⟨_, hw, hc, _⟩ := Spec.ref_zero f
      have lx := i32_len x l0
      have ly := i34_len y l1
      have ux := Spec.un_len x.f0.f0 l2
      have uy := Spec.un_len y.f0.f0 l2
      obtain ⟨b0, b1⟩ := Spec.busy_not hb
      obtain ⟨c0, c1⟩ := Spec.busy_not hc
      have gx := Spec.goodU hg hv hb (by omega)
      have gy := Spec.goodG hg hw hc (by omega)
      have bx : busyB (Spec.i32 x l0) l1 y.f0.f0 = false := Spec.not_busy (fun z hz => by
        rcases Spec.insG_mem.1 hz with rfl | hz
        · exact hne
        · exact c0 z hz) c1
      have by' : busyB l0 (Spec.i34 y l1) x.f0.f0 = false := Spec.not_busy b0 (fun z hz => by
        rcases Spec.insG_mem.1 hz with rfl | hz
        · exact Ne.symm hne
        · exact b1 z hz)
      have e2 := Spec.zero_ref gx hw bx (by omega)
      have f2 := Spec.zero_ref gy hv by' (by omega)
      show ((addB34 (Spec.i32 x l0) l1 (Spec.un x.f0.f0 l2) a b y).bind fun s => (addB32 l0 (Spec.i34 y l1) (Spec.un y.f0.f0 l2) a b x).bind fun t => _) = _
      rw [Spec.addG_eq _ _ _ _ _ _ (by omega) (by omega) (by omega), Spec.addU_eq _ _ _ _ _ _ (by omega) (by omega) (by omega), if_pos e2, if_pos f2, Option.bind_some, Option.bind_some]
      dsimp only
      have uxy := Spec.un_len y.f0.f0 (Spec.un x.f0.f0 l2)
      rw [if_pos trivial, if_pos rfl, if_pos rfl, un_un x.f0.f0 y.f0.f0 l2, Spec.same_refl _ _ _ (by omega) (by omega) (by omega) _ hk, Option.bind_some]
    · rw [if_neg f, Option.bind_some]
      dsimp only
      rw [if_pos rfl]
      simp only [slotmeshlaw12_CellsOrder.j1]
      rw [if_pos (by simpa using f)]
  · rw [if_neg e, Option.bind_some]
    have fin : ∀ (t : List S32 × List S34 × List S51 × Int), (if refB l0 l1 l2 a b (v32 a b x) x.f0.f0 = 0 then
          slotmeshlaw12_CellsOrder.j1 (k + 1) true (t.2.2.2 != 0) a b x.f0.f0 x.f0.f1 x.f1 x.f2 y.f0.f0 y.f0.f1 y.f1 y.f2 y.f3 [] [] [] t.1 t.2.1 t.2.2.1
        else slotmeshlaw12_CellsOrder.j1 (k + 1) true true a b x.f0.f0 x.f0.f1 x.f1 x.f2 y.f0.f0 y.f0.f1 y.f1 y.f2 y.f3 [] [] [] t.1 t.2.1 t.2.2.1) = some true := fun t => by
      rw [if_neg e]
      simp only [slotmeshlaw12_CellsOrder.j1]
      rw [if_pos trivial]
    by_cases f : refB l0 l1 l2 a b (v34 a b y) y.f0.f0 = 0
    · rw [if_pos f, Option.bind_some]; exact fin _
    · rw [if_neg f, Option.bind_some]; exact fin _
theorem skip (l0 : List S32) (l1 : List S34) (l2 : List S51) (a b x0 x1 x2 x3 y0 y1 y2 y3 y4 : Int) (k : Nat) : slotmeshlaw12_CellsOrder.j0 (k + 1) true true l0 l1 l2 a b x0 x1 x2 x3 y0 y1 y2 y3 y4 = some true := by
  simp only [slotmeshlaw12_CellsOrder.j0]
  rw [if_pos trivial]
theorem CellsOrder : slotmeshlaw12_CellsOrder.Pure := by
  intro l0 l1 l2 a b x0 x1 x2 x3 y0 y1 y2 y3 y4 _ _ _
  refine ⟨9000, ?_⟩
  unfold slotmeshlaw12_CellsOrder.f slotmeshlaw12_head.f
  rw [Option.bind_some, Spec.few_eq, Option.bind_some]
  by_cases h : l0.length ≤ 70 ∧ l1.length ≤ 70 ∧ l2.length ≤ 70
  · rw [decide_eq_true h, if_pos rfl]
    obtain ⟨h0, h1, h2⟩ := h
    show ((cells_Valid.f l0 l1 l2 a b).bind _) = _
    rw [Spec.valid_eq _ _ _ _ _ (by omega) (by omega) (by omega), Option.bind_some]
    cases validB l0 l1 l2 a b
    · rw [if_neg (by decide)]; exact skip ..
    · rw [if_pos rfl]
      by_cases hs : x0 = y0
      · rw [if_pos hs]; exact skip ..
      · rw [if_neg hs]
        have hw : wrap64 (wrap64 ((l0.length : Int) + (l1.length : Int)) + 2) = (l0.length : Int) + (l1.length : Int) + 2 := by unfold wrap64; omega
        rw [hw]
        by_cases hl : (l0.length : Int) + (l1.length : Int) + 2 > 24
        · rw [decide_eq_true hl]; exact skip ..
        · rw [decide_eq_false hl]
          exact end_j0 l0 l1 l2 a b ⟨⟨x0, x1⟩, x2, x3⟩ ⟨⟨y0, y1⟩, y2, y3, y4⟩ h0 h1 h2 hs (by omega) 8998 (by omega)
  · rw [decide_eq_false h, if_neg (by decide)]; exact skip ..
end Pure
end Go.Proofs.Ytbpfbdljcdcgnaa.Px
