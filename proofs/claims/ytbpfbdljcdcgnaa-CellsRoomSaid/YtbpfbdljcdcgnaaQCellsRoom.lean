/- CellsRoom: the pure statement, over numbers and lists alone. -/
import Derived.Test.YtbpfbdljcdcgnaaPx36
import Derived.Test.YtbpfbdljcdcgnaaSpec
import Derived.Test.YtbpfbdljcdcgnaaPx22
namespace Go.Proofs.Ytbpfbdljcdcgnaa.Px
open Go.RowKit Go.Proofs.YtbpfbdljcdcgnaaW.PrintWords Go.Proofs.YtbpfbdljcdcgnaaW.PrintLast Go.Proofs.YtbpfbdljcdcgnaaW.PrintMore
set_option linter.unusedVariables false
set_option linter.unusedSimpArgs false
def slotmeshlaw12_CellsRoom.Pure : Prop := ∀ (l0_0 : List S32) (l0_1 : List S34) (l0_2 : List S51) (a1_0 : Int) (a1_1 : Int) (a2_0 : Int) (a2_1 : Int) (a2_2 : Int) (a2_3 : Int) (a3 : Int), l0_0.length ≤ 9223372036854775807 → l0_1.length ≤ 9223372036854775807 → l0_2.length ≤ 9223372036854775807 → (Lit.int .u8 a3).wf = true → ∃ k, slotmeshlaw12_CellsRoom.f k l0_0 l0_1 l0_2 a1_0 a1_1 a2_0 a2_1 a2_2 a2_3 a3 = some true
namespace Pure
def cellU (x : S32) : S30 := ⟨x.f0.f0, x.f0.f1⟩
def cellG (x : S34) : S30 := ⟨x.f0.f0, x.f0.f1⟩
/-- The two loops lay the held cells out. -/
theorem loop1 (p n e : Int) (acc0 : List S30) (l0 : List S32) (l1 : List S34) (l2 : List S51) (a b x0 x1 x2 x3 : Int) (ha : acc0.length ≤ 100) (h1 : l1.length ≤ 70) (r : Bool) (K : Nat)
    (hend : ∀ k, K ≤ k → slotmeshlaw12_CellsRoom.l1 (k + 1) p true e (acc0 ++ l1.map cellG) l1 (l1.length : Int) (l1.length : Int) l0 l1 l2 a b x0 x1 x2 x3 = some r) :
    ∀ (m i k : Nat), l1.length = i + m → m + K < k → slotmeshlaw12_CellsRoom.l1 k p true e (acc0 ++ (l1.take i).map cellG) l1 (l1.length : Int) (i : Int) l0 l1 l2 a b x0 x1 x2 x3 = some r
  | 0, i, 0, _, h => absurd h (by omega)
  | 0, i, k + 1, h, hk => by
    obtain rfl : i = l1.length := by omega
    rw [List.take_length]
    exact hend k (by omega)
  | m + 1, i, 0, _, h => absurd h (by omega)
  | m + 1, i, k + 1, h, hk => by
    have hi : i < l1.length := by omega
    have hx : rd_T34 l1 (i : Int) = l1[i] := by unfold rd_T34; rw [Int.toNat_natCast, List.getD_eq_getElem?_getD, List.getElem?_eq_getElem hi]; rfl
    have ht : acc0 ++ (l1.take i).map cellG ++ [cellG l1[i]] = acc0 ++ (l1.take (i + 1)).map cellG := by
      rw [List.take_succ_eq_append_getElem hi, List.map_append, List.append_assoc]; rfl
    have hlen : (acc0 ++ (l1.take i).map cellG).length < 8796093022208 := by simp only [List.length_append, List.length_map, List.length_take]; omega
    have ih := loop1 p n e acc0 l0 l1 l2 a b x0 x1 x2 x3 ha h1 r K hend m (i + 1) k (by omega) (by omega)
    simp only [slotmeshlaw12_CellsRoom.l1]
    rw [if_pos (by omega), if_pos (by omega), if_pos (by omega), if_pos hlen, hx, Spec.next_eq i (by omega)]
    rw [← ht] at ih
    exact ih
theorem loop0 (p e : Int) (l0 : List S32) (l1 : List S34) (l2 : List S51) (a b x0 x1 x2 x3 : Int) (h0 : l0.length ≤ 70) (r : Bool) (K : Nat)
    (hend : ∀ k, K ≤ k → slotmeshlaw12_CellsRoom.l0 (k + 1) p true e (l0.map cellU) l0 (l0.length : Int) (l0.length : Int) l0 l1 l2 a b x0 x1 x2 x3 = some r) :
    ∀ (m i k : Nat), l0.length = i + m → m + K < k → slotmeshlaw12_CellsRoom.l0 k p true e ((l0.take i).map cellU) l0 (l0.length : Int) (i : Int) l0 l1 l2 a b x0 x1 x2 x3 = some r
  | 0, i, 0, _, h => absurd h (by omega)
  | 0, i, k + 1, h, hk => by
    obtain rfl : i = l0.length := by omega
    rw [List.take_length]
    exact hend k (by omega)
  | m + 1, i, 0, _, h => absurd h (by omega)
  | m + 1, i, k + 1, h, hk => by
    have hi : i < l0.length := by omega
    have hx : rd_T32 l0 (i : Int) = l0[i] := by unfold rd_T32; rw [Int.toNat_natCast, List.getD_eq_getElem?_getD, List.getElem?_eq_getElem hi]; rfl
    have ht : (l0.take i).map cellU ++ [cellU l0[i]] = (l0.take (i + 1)).map cellU := by
      rw [List.take_succ_eq_append_getElem hi, List.map_append]; rfl
    have hlen : ((l0.take i).map cellU).length < 8796093022208 := by simp only [List.length_map, List.length_take]; omega
    have ih := loop0 p e l0 l1 l2 a b x0 x1 x2 x3 h0 r K hend m (i + 1) k (by omega) (by omega)
    simp only [slotmeshlaw12_CellsRoom.l0]
    rw [if_pos (by omega), if_pos (by omega), if_pos (by omega), if_pos hlen, hx, Spec.next_eq i (by omega)]
    rw [← ht] at ih
    exact ih
theorem filter_lt {α : Type} (q : α → Bool) (l : List α) (x : α) (hx : x ∈ l) (hq : q x = false) : (l.filter q).length < l.length := by
  have h : l.filter q ≠ l := fun e => by
    have := List.filter_eq_self.1 e x hx
    rw [hq] at this; cases this
  have h2 := List.length_filter_le q l
  rcases Nat.lt_or_ge (l.filter q).length l.length with h3 | h3
  · exact h3
  · exact absurd (List.filter_sublist.eq_of_length (by omega)) h
/-- Behind the dropping of a held cell there is room. -/
theorem room (l0 : List S32) (l1 : List S34) (l2 : List S51) (a b : Int) (x : S32) (c : S30) (hg : Spec.Good l0 l1 l2 a b) (hv : v32 a b x = true) (hb : busyB l0 l1 x.f0.f0 = false) (hc : c ∈ l0.map cellU ++ l1.map cellG) :
    refB (l0.filter fun y => !dcl32 c.f0 c.f1 y) (l1.filter fun y => !dcl34 c.f0 c.f1 y) (l2.filter fun y => !dcl51 c.f0 c.f1 y) a b (v32 a b x) x.f0.f0 = 0 := by
  obtain ⟨b0, b1⟩ := Spec.busy_not hb
  refine Spec.zero_ref (Spec.good_sub hg List.filter_sublist List.filter_sublist List.filter_sublist) hv (Spec.not_busy (fun y hy => b0 y (List.mem_filter.1 hy).1) (fun y hy => b1 y (List.mem_filter.1 hy).1)) ?_
  have h0 := List.length_filter_le (fun y => !dcl32 c.f0 c.f1 y) l0
  have h1 := List.length_filter_le (fun y => !dcl34 c.f0 c.f1 y) l1
  have hl := hg.len
  rcases List.mem_append.1 hc with hc | hc
  · obtain ⟨y, hy, rfl⟩ := List.mem_map.1 hc
    have := filter_lt (fun z => !dcl32 (cellU y).f0 (cellU y).f1 z) l0 y hy (by unfold dcl32 cellU; simp)
    omega
  · obtain ⟨y, hy, rfl⟩ := List.mem_map.1 hc
    have := filter_lt (fun z => !dcl34 (cellG y).f0 (cellG y).f1 z) l1 y hy (by unfold dcl34 cellG; simp)
    omega
theorem skip (p : Int) (l0 : List S32) (l1 : List S34) (l2 : List S51) (a b x0 x1 x2 x3 : Int) (k : Nat) : slotmeshlaw12_CellsRoom.j0 (k + 1) p true true l0 l1 l2 a b x0 x1 x2 x3 = some true := by
  simp only [slotmeshlaw12_CellsRoom.j0]
  rw [if_pos trivial]
theorem finish (p : Int) (hp : 0 ≤ p ∧ p ≤ 255) (l0 : List S32) (l1 : List S34) (l2 : List S51) (a b : Int) (x : S32) (h0 : l0.length ≤ 70) (h1 : l1.length ≤ 70) (h2 : l2.length ≤ 70) (hg : Spec.Good l0 l1 l2 a b) (hv : v32 a b x = true) (hb : busyB l0 l1 x.f0.f0 = false)
    (hl : ¬ l0.length + l1.length < 24) (k : Nat) : slotmeshlaw12_CellsRoom.l1 (k + 1) p true 10 (l0.map cellU ++ l1.map cellG) l1 (l1.length : Int) (l1.length : Int) l0 l1 l2 a b x.f0.f0 x.f0.f1 x.f1 x.f2 = some true := by
  simp only [slotmeshlaw12_CellsRoom.l1]
  have hlen : (l0.map cellU ++ l1.map cellG).length = l0.length + l1.length := by simp
  have hwp : wrap64 p = p := by unfold wrap64; omega
  rw [hwp, if_neg (by omega), if_neg (by omega)]
  have t0 : 0 ≤ Int.tmod p ((l0.map cellU ++ l1.map cellG).length : Int) := Int.tmod_nonneg _ hp.1
  have t1 : Int.tmod p ((l0.map cellU ++ l1.map cellG).length : Int) < ((l0.map cellU ++ l1.map cellG).length : Int) := Int.tmod_lt_of_pos _ (by omega)
  rw [if_pos t0, if_pos t1]
  have hc : rd_T30 (l0.map cellU ++ l1.map cellG) (Int.tmod p ((l0.map cellU ++ l1.map cellG).length : Int)) ∈ l0.map cellU ++ l1.map cellG := by
    unfold rd_T30
    rw [List.getD_eq_getElem?_getD, List.getElem?_eq_getElem (by omega)]
    exact List.getElem_mem _
  generalize rd_T30 (l0.map cellU ++ l1.map cellG) (Int.tmod p ((l0.map cellU ++ l1.map cellG).length : Int)) = c at hc ⊢
  rw [Spec.drop_eq _ _ _ _ _ (by omega) (by omega) (by omega), Option.bind_some]
  dsimp only
  have e := room l0 l1 l2 a b x c hg hv hb hc
  have f0 := List.length_filter_le (fun y => !dcl32 c.f0 c.f1 y) l0
  have f1 := List.length_filter_le (fun y => !dcl34 c.f0 c.f1 y) l1
  have f2 := List.length_filter_le (fun y => !dcl51 c.f0 c.f1 y) l2
  show ((addB32 _ _ _ a b x).bind _) = _
  rw [Spec.addU_eq _ _ _ _ _ _ (by omega) (by omega) (by omega), if_pos e, Option.bind_some]
  dsimp only
  rw [if_pos trivial, if_pos trivial]
  rfl
theorem step (p : Int) (hp : 0 ≤ p ∧ p ≤ 255) (l0 : List S32) (l1 : List S34) (l2 : List S51) (a b : Int) (x : S32) (h0 : l0.length ≤ 70) (h1 : l1.length ≤ 70) (h2 : l2.length ≤ 70) (hg : Spec.Good l0 l1 l2 a b) (hv : v32 a b x = true) (hb : busyB l0 l1 x.f0.f0 = false) (k : Nat) (hk : 1000 ≤ k) :
    slotmeshlaw12_CellsRoom.j0 (k + 1) p true false l0 l1 l2 a b x.f0.f0 x.f0.f1 x.f1 x.f2 = some true := by
  simp only [slotmeshlaw12_CellsRoom.j0]
  rw [if_neg (by decide)]
  have hw : wrap64 ((l0.length : Int) + (l1.length : Int)) = (l0.length : Int) + (l1.length : Int) := by unfold wrap64; omega
  rw [hw]
  show ((addB32 l0 l1 l2 a b x).bind _) = _
  rw [Spec.addU_eq _ _ _ _ _ _ (by omega) (by omega) (by omega)]
  by_cases hl : l0.length + l1.length < 24
  · rw [if_pos (Spec.zero_ref hg hv hb hl), Option.bind_some]
    dsimp only
    rw [if_pos (by omega), if_pos trivial]
    rfl
  · have e : refB l0 l1 l2 a b (v32 a b x) x.f0.f0 = 10 := by
      unfold refB
      rw [if_neg (by rw [(Spec.valid_iff _ _ _ _ _).2 hg]; decide), if_neg (by rw [hv]; decide), if_neg (by rw [hb]; decide), if_pos (by omega)]
    rw [if_neg (by rw [e]; decide), Option.bind_some, e]
    dsimp only
    rw [if_neg (by omega)]
    refine loop0 p 10 l0 l1 l2 a b _ _ _ _ h0 true 500 (fun j hj => ?_) l0.length 0 k (by omega) (by omega)
    simp only [slotmeshlaw12_CellsRoom.l0]
    rw [if_neg (by omega)]
    have h := loop1 p 0 10 (l0.map cellU) l0 l1 l2 a b x.f0.f0 x.f0.f1 x.f1 x.f2 (by rw [List.length_map]; omega) h1 true 100 (fun i hi => finish p hp l0 l1 l2 a b x h0 h1 h2 hg hv hb hl i) l1.length 0 j (by omega) (by omega)
    rw [List.take_zero, List.map_nil, List.append_nil] at h
    exact h
theorem CellsRoom : slotmeshlaw12_CellsRoom.Pure := by
  intro l0 l1 l2 a b x0 x1 x2 x3 p _ _ _ hp
  have hpb : 0 ≤ p ∧ p ≤ 255 := by
    simp only [Lit.wf, IntKind.min, IntKind.max, IntKind.signed, IntKind.bits, Bool.and_eq_true, decide_eq_true_eq] at hp
    simpa using hp
  refine ⟨9000, ?_⟩
  unfold slotmeshlaw12_CellsRoom.f slotmeshlaw12_head.f
  rw [Option.bind_some, Spec.few_eq, Option.bind_some]
  by_cases h : l0.length ≤ 70 ∧ l1.length ≤ 70 ∧ l2.length ≤ 70
  · rw [decide_eq_true h, if_pos rfl]
    obtain ⟨h0, h1, h2⟩ := h
    show ((cells_Valid.f l0 l1 l2 a b).bind _) = _
    rw [Spec.valid_eq _ _ _ _ _ (by omega) (by omega) (by omega), Option.bind_some]
    cases hv : validB l0 l1 l2 a b
    · rw [if_neg (by decide)]; exact skip ..
    · rw [if_pos rfl]
      have hu : slotmeshref12_Use.f x0 x1 x2 x3 a b = some (v32 a b ⟨⟨x0, x1⟩, x2, x3⟩) := rv32_eq a b ⟨⟨x0, x1⟩, x2, x3⟩
      rw [hu, Option.bind_some]
      cases hx : v32 a b ⟨⟨x0, x1⟩, x2, x3⟩
      · rw [if_neg (by decide)]; exact skip ..
      · rw [if_pos rfl, Spec.rbusy_eq l0 l1 l2 x0 (by omega) (by omega) 9000 (by omega), Option.bind_some]
        cases hb : busyB l0 l1 x0
        · exact step p hpb l0 l1 l2 a b ⟨⟨x0, x1⟩, x2, x3⟩ h0 h1 h2 ((Spec.valid_iff _ _ _ _ _).1 hv) hx hb 8999 (by omega)
        · exact skip ..
  · rw [decide_eq_false h, if_neg (by decide)]; exact skip ..
end Pure
end Go.Proofs.Ytbpfbdljcdcgnaa.Px
