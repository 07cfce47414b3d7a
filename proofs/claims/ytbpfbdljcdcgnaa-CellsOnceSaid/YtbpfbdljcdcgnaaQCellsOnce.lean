/- CellsOnce: the pure statement, over numbers and lists alone. -/
import Derived.Test.YtbpfbdljcdcgnaaPx32
import Derived.Test.YtbpfbdljcdcgnaaSpec
namespace Go.Proofs.Ytbpfbdljcdcgnaa.Px
open Go.RowKit Go.Proofs.YtbpfbdljcdcgnaaW.PrintWords Go.Proofs.YtbpfbdljcdcgnaaW.PrintLast Go.Proofs.YtbpfbdljcdcgnaaW.PrintMore
set_option linter.unusedVariables false
set_option linter.unusedSimpArgs false
def slotmeshlaw12_CellsOnce.Pure : Prop := ∀ (l0_0 : List S32) (l0_1 : List S34) (l0_2 : List S51) (a1_0 : Int) (a1_1 : Int) (l2 : List S55), l0_0.length ≤ 9223372036854775807 → l0_1.length ≤ 9223372036854775807 → l0_2.length ≤ 9223372036854775807 → (l2.length ≤ maxLen ∧ ∀ x55 ∈ l2, True) → ∃ k, slotmeshlaw12_CellsOnce.f k l0_0 l0_1 l0_2 a1_0 a1_1 l2 = some true
namespace Pure
def cnt (l0 : List S32) (l1 : List S34) (s : Int) : Nat := l0.countP (slot32 s) + l1.countP (slot34 s)
theorem cnt_eq (l0 : List S32) (l1 : List S34) (s : Int) : cnt l0 l1 s = (l0.map Spec.s32 ++ l1.map Spec.s34).count s := by
  unfold cnt
  rw [List.count_append, List.count_eq_countP, List.count_eq_countP, List.countP_map, List.countP_map]
  rfl
theorem cnt_le {l0 : List S32} {l1 : List S34} {l2 : List S51} {a b : Int} (hg : Spec.Good l0 l1 l2 a b) (s : Int) : cnt l0 l1 s ≤ 1 := by
  rw [cnt_eq]
  have h := hg.nd
  unfold slotsOf at h
  exact List.nodup_iff_count.1 (List.nodup_append.1 h).1 s
theorem busy_cnt {l0 : List S32} {l1 : List S34} {l2 : List S51} {a b : Int} (hg : Spec.Good l0 l1 l2 a b) (s : Int) : busyB l0 l1 s = true ↔ cnt l0 l1 s = 1 := by
  have h1 := cnt_le hg s
  have h2 : 0 < cnt l0 l1 s ↔ busyB l0 l1 s = true := by
    unfold cnt busyB
    rw [Spec.fidx_any, Spec.fidx_any, Bool.or_eq_true, List.any_eq_true, List.any_eq_true, ← List.countP_pos_iff, ← List.countP_pos_iff]
    omega
  rw [← h2]; omega
section
variable (st : List S55) (n i : Int) (l0 : List S32) (l1 : List S34) (l2 : List S51) (a b : Int)
theorem in3 (hg : Spec.Good l0 l1 l2 a b) (hsz : l1.length ≤ 100) (s : Nat) (hs : s ≤ 1000) (K : Nat) (hend : ∀ k, K ≤ k → slotmeshlaw12_CellsOnce.l1 k true st n i b ((s + 1 : Nat) : Int) l0 l1 l2 a b = some true) : ∀ (m j k c : Nat), l1.length = j + m → m + K < k →
    c + (l1.drop j).countP (slot34 s) = cnt l0 l1 s → slotmeshlaw12_CellsOnce.l3 k true (s : Int) (c : Int) st n i b (s : Int) l1 (l1.length : Int) (j : Int) l0 l1 l2 a b = some true
  | _, _, 0, _, _, h, _ => absurd h (by omega)
  | 0, j, k + 1, c, h, hk, hc => by
    rw [List.drop_of_length_le (by omega), List.countP_nil, Nat.add_zero] at hc
    have hb := busy_cnt hg (s : Int)
    have hl := cnt_le hg (s : Int)
    have h0 := hg.len
    have h2 := hg.len2
    have hbe : cells_Busy.f l0 l1 l2 (s : Int) = some (busyB l0 l1 s) := rfl
    simp only [slotmeshlaw12_CellsOnce.l3]
    rw [if_neg (by omega), if_neg (by omega), hbe, Option.bind_some, Spec.next_eq s (by omega)]
    cases hB : busyB l0 l1 s
    · rw [if_neg (by decide), if_neg (by intro e; have : cnt l0 l1 s = 1 := by omega
                                         rw [← hb, hB] at this; cases this)]
      exact hend k (by omega)
    · rw [if_pos rfl, if_pos (by have := hb.1 hB; omega)]
      exact hend k (by omega)
  | m + 1, j, k + 1, c, h, hk, hc => by
    have hj : j < l1.length := by omega
    have hx : rd_T34 l1 (j : Int) = l1[j] := by unfold rd_T34; rw [Int.toNat_natCast, List.getD_eq_getElem?_getD, List.getElem?_eq_getElem hj]; rfl
    have hl := cnt_le hg (s : Int)
    rw [List.drop_eq_getElem_cons hj, List.countP_cons] at hc
    have hw : wrap64 ((c : Int) + 1) = ((c + 1 : Nat) : Int) := by unfold wrap64; omega
    simp only [slotmeshlaw12_CellsOnce.l3]
    rw [if_pos (by omega), if_pos (by omega), if_pos (by omega), hx, Spec.next_eq j (by omega)]
    by_cases e : l1[j].f0.f0 = (s : Int)
    · rw [if_pos (show slot34 s l1[j] = true by unfold slot34; simpa using e)] at hc
      rw [if_pos e, hw]
      exact in3 hg hsz s hs K hend m (j + 1) k (c + 1) (by omega) (by omega) (by omega)
    · rw [if_neg (show ¬ slot34 s l1[j] = true by unfold slot34; simpa using e)] at hc
      rw [if_neg e]
      exact in3 hg hsz s hs K hend m (j + 1) k c (by omega) (by omega) (by omega)
theorem in2 (hg : Spec.Good l0 l1 l2 a b) (h0 : l0.length ≤ 100) (hsz : l1.length ≤ 100) (s : Nat) (hs : s ≤ 1000) (K : Nat) (hend : ∀ k, K ≤ k → slotmeshlaw12_CellsOnce.l1 k true st n i b ((s + 1 : Nat) : Int) l0 l1 l2 a b = some true) : ∀ (m j k c : Nat), l0.length = j + m → m + l1.length + 1 + K < k →
    c + (l0.drop j).countP (slot32 s) + l1.countP (slot34 s) = cnt l0 l1 s → slotmeshlaw12_CellsOnce.l2 k true (s : Int) (c : Int) st n i b (s : Int) l0 (l0.length : Int) (j : Int) l0 l1 l2 a b = some true
  | _, _, 0, _, _, h, _ => absurd h (by omega)
  | 0, j, k + 1, c, h, hk, hc => by
    rw [List.drop_of_length_le (by omega), List.countP_nil, Nat.add_zero] at hc
    simp only [slotmeshlaw12_CellsOnce.l2]
    rw [if_neg (by omega)]
    exact in3 st n i l0 l1 l2 a b hg hsz s hs K hend l1.length 0 k c (by omega) (by omega) (by rw [List.drop_zero]; exact hc)
  | m + 1, j, k + 1, c, h, hk, hc => by
    have hj : j < l0.length := by omega
    have hx : rd_T32 l0 (j : Int) = l0[j] := by unfold rd_T32; rw [Int.toNat_natCast, List.getD_eq_getElem?_getD, List.getElem?_eq_getElem hj]; rfl
    have hl := cnt_le hg (s : Int)
    rw [List.drop_eq_getElem_cons hj, List.countP_cons] at hc
    have hw : wrap64 ((c : Int) + 1) = ((c + 1 : Nat) : Int) := by unfold wrap64; omega
    simp only [slotmeshlaw12_CellsOnce.l2]
    rw [if_pos (by omega), if_pos (by omega), if_pos (by omega), hx, Spec.next_eq j (by omega)]
    by_cases e : l0[j].f0.f0 = (s : Int)
    · rw [if_pos (show slot32 s l0[j] = true by unfold slot32; simpa using e)] at hc
      rw [if_pos e, hw]
      exact in2 hg h0 hsz s hs K hend m (j + 1) k (c + 1) (by omega) (by omega) (by omega)
    · rw [if_neg (show ¬ slot32 s l0[j] = true by unfold slot32; simpa using e)] at hc
      rw [if_neg e]
      exact in2 hg h0 hsz s hs K hend m (j + 1) k c (by omega) (by omega) (by omega)
/-- All data slots are looked through. -/
theorem slots (hg : Spec.Good l0 l1 l2 a b) (K : Nat) (hend : ∀ k, K ≤ k → slotmeshlaw12_CellsOnce.l0 k true st n (wrap64 (i + 1)) l0 l1 l2 a b = some true) : ∀ (m s k : Nat), b = (s : Int) + m → m * 60 + K < k →
    slotmeshlaw12_CellsOnce.l1 k true st n i b (s : Int) l0 l1 l2 a b = some true
  | _, _, 0, _, h => absurd h (by omega)
  | 0, s, k + 1, h, hk => by
    simp only [slotmeshlaw12_CellsOnce.l1]
    rw [if_neg (by omega)]
    exact hend k (by omega)
  | m + 1, s, k + 1, h, hk => by
    have h0 := hg.len
    have hd := hg.d2
    simp only [slotmeshlaw12_CellsOnce.l1]
    rw [if_pos (by omega)]
    exact in2 st n i l0 l1 l2 a b hg (by omega) (by omega) s (by omega) (m * 60 + K + 1) (fun k' hk' => slots hg K hend m (s + 1) k' (by omega) (by omega)) l0.length 0 k 0 (by omega) (by omega) (by rw [List.drop_zero, Nat.zero_add]; rfl)
end
theorem chosen (st : List S55) (n i : Int) (l0 : List S32) (l1 : List S34) (l2 : List S51) (a b e : Int) (m0 : List S32) (m1 : List S34) (m2 : List S51) (hg : Spec.Good l0 l1 l2 a b) (hm : e = 0 → Spec.Good m0 m1 m2 a b) (K : Nat)
    (hend : ∀ (t0 : List S32) (t1 : List S34) (t2 : List S51), Spec.Good t0 t1 t2 a b → ∀ k, K ≤ k → slotmeshlaw12_CellsOnce.l0 k true st n (wrap64 (i + 1)) t0 t1 t2 a b = some true) (k : Nat) (hk : 3700 + K < k) :
    slotmeshlaw12_CellsOnce.j2 k true e st n i l0 l1 l2 a b m0 m1 m2 = some true := by
  obtain ⟨j, rfl⟩ : ∃ j, k = j + 2 := ⟨k - 2, by omega⟩
  simp only [slotmeshlaw12_CellsOnce.j2]
  have hd := hg.d2
  have hd1 := hg.d1
  by_cases he : e = 0
  · rw [if_pos he]
    simp only [slotmeshlaw12_CellsOnce.j3]
    have := slots st n i m0 m1 m2 a b (hm he) K (hend _ _ _ (hm he)) b.toNat 0 j (by omega) (by omega)
    exact this
  · rw [if_neg he]
    simp only [slotmeshlaw12_CellsOnce.j3]
    have := slots st n i l0 l1 l2 a b hg K (hend _ _ _ hg) b.toNat 0 j (by omega) (by omega)
    exact this
theorem steps (st : List S55) (hst : st.length ≤ 60) (a b : Int) : ∀ (m i k : Nat) (l0 : List S32) (l1 : List S34) (l2 : List S51), st.length = i + m → Spec.Good l0 l1 l2 a b → m * 4000 < k → slotmeshlaw12_CellsOnce.l0 k true st (st.length : Int) (i : Int) l0 l1 l2 a b = some true := by
  intro m
  induction m with
  | zero =>
    intro i k l0 l1 l2 h _ hk
    obtain ⟨k, rfl⟩ : ∃ j, k = j + 1 := ⟨k - 1, by omega⟩
    simp only [slotmeshlaw12_CellsOnce.l0]
    rw [if_neg (by omega)]
  | succ m ih =>
    intro i k l0 l1 l2 h hg hk
    obtain ⟨k, rfl⟩ : ∃ j, k = j + 1 := ⟨k - 1, by omega⟩
    have hend : ∀ (t0 : List S32) (t1 : List S34) (t2 : List S51), Spec.Good t0 t1 t2 a b → ∀ k', m * 4000 + 1 ≤ k' → slotmeshlaw12_CellsOnce.l0 k' true st (st.length : Int) (wrap64 ((i : Int) + 1)) t0 t1 t2 a b = some true := fun t0 t1 t2 ht k' hk' => by
      rw [Spec.next_eq i (by omega)]
      exact ih (i + 1) k' t0 t1 t2 (by clear hk hk'; omega) ht (Nat.lt_of_succ_le hk')
    have hl := hg.len
    have hl2 := hg.len2
    have p1 : (i : Int) < (st.length : Int) := by omega
    have p2 : 0 ≤ (i : Int) := by omega
    simp only [slotmeshlaw12_CellsOnce.l0]
    refine (if_pos p1).trans ((if_pos p2).trans ((if_pos p1).trans ?_))
    generalize rd_T55 st (i : Int) = S
    by_cases c0 : Int.tmod S.f0 4 = 0
    · rw [if_pos c0]
      show ((addB32 l0 l1 l2 a b ⟨⟨S.f1.f0, S.f1.f1⟩, S.f2, S.f3⟩).bind _) = _
      rw [Spec.addU_eq _ _ _ _ _ _ (by omega) (by omega) (by omega)]
      by_cases e : refB l0 l1 l2 a b (v32 a b ⟨⟨S.f1.f0, S.f1.f1⟩, S.f2, S.f3⟩) S.f1.f0 = 0
      · refine Eq.trans (congrArg (fun z => Option.bind z _) (if_pos e)) ?_
        rw [Option.bind_some]
        obtain ⟨_, hv, hb, hn⟩ := Spec.ref_zero e
        exact chosen st _ _ l0 l1 l2 a b _ _ _ _ hg (fun _ => Spec.goodU hg hv hb hn) (m * 4000 + 1) hend k (by omega)
      · refine Eq.trans (congrArg (fun z => Option.bind z _) (if_neg e)) ?_
        rw [Option.bind_some]
        exact chosen st _ _ l0 l1 l2 a b _ _ _ _ hg (fun h0 => absurd h0 e) (m * 4000 + 1) hend k (by omega)
    rw [if_neg c0]
    by_cases c1 : Int.tmod S.f0 4 = 1
    · rw [if_pos c1]
      show ((addB34 l0 l1 l2 a b ⟨⟨S.f1.f0, S.f1.f1⟩, S.f2, S.f3, S.f3⟩).bind _) = _
      rw [Spec.addG_eq _ _ _ _ _ _ (by omega) (by omega) (by omega)]
      by_cases e : refB l0 l1 l2 a b (v34 a b ⟨⟨S.f1.f0, S.f1.f1⟩, S.f2, S.f3, S.f3⟩) S.f1.f0 = 0
      · refine Eq.trans (congrArg (fun z => Option.bind z _) (if_pos e)) ?_
        rw [Option.bind_some]
        obtain ⟨_, hv, hb, hn⟩ := Spec.ref_zero e
        exact chosen st _ _ l0 l1 l2 a b _ _ _ _ hg (fun _ => Spec.goodG hg hv hb hn) (m * 4000 + 1) hend k (by omega)
      · refine Eq.trans (congrArg (fun z => Option.bind z _) (if_neg e)) ?_
        rw [Option.bind_some]
        exact chosen st _ _ l0 l1 l2 a b _ _ _ _ hg (fun h0 => absurd h0 e) (m * 4000 + 1) hend k (by omega)
    rw [if_neg c1]
    by_cases c2 : Int.tmod S.f0 4 = 2
    · rw [if_pos c2, Spec.drop_eq _ _ _ _ _ (by omega) (by omega) (by omega), Option.bind_some]
      exact chosen st _ _ l0 l1 l2 a b _ _ _ _ hg (fun _ => Spec.good_sub hg List.filter_sublist List.filter_sublist List.filter_sublist) (m * 4000 + 1) hend k (by omega)
    · rw [if_neg c2, Spec.expire_eq _ _ _ _ (by omega) (by omega) (by omega), Option.bind_some]
      exact chosen st _ _ l0 l1 l2 a b _ _ _ _ hg (fun _ => Spec.good_sub hg (List.Sublist.refl _) List.filter_sublist (List.Sublist.refl _)) (m * 4000 + 1) hend k (by omega)
theorem CellsOnce : slotmeshlaw12_CellsOnce.Pure := by
  intro l0 l1 l2 a b st _ _ _ _
  refine ⟨300000, ?_⟩
  unfold slotmeshlaw12_CellsOnce.f slotmeshlaw12_head.f
  rw [Option.bind_some, Spec.few_eq, Option.bind_some]
  by_cases h : l0.length ≤ 70 ∧ l1.length ≤ 70 ∧ l2.length ≤ 70
  · rw [decide_eq_true h, if_pos rfl]
    obtain ⟨h0, h1, h2⟩ := h
    show ((cells_Valid.f l0 l1 l2 a b).bind _) = _
    rw [Spec.valid_eq _ _ _ _ _ (by omega) (by omega) (by omega), Option.bind_some]
    cases hv : validB l0 l1 l2 a b
    · rw [if_neg (by decide)]; simp only [slotmeshlaw12_CellsOnce.j0]; rfl
    · rw [if_pos rfl]
      by_cases hs : (st.length : Int) > 60
      · rw [decide_eq_true hs]; simp only [slotmeshlaw12_CellsOnce.j0]; rfl
      · rw [decide_eq_false hs]
        simp only [slotmeshlaw12_CellsOnce.j0]
        rw [if_neg (by decide)]
        exact steps st (by omega) a b st.length 0 299999 l0 l1 l2 (by omega) ((Spec.valid_iff _ _ _ _ _).1 hv) (by omega)
  · rw [decide_eq_false h, if_neg (by decide)]; simp only [slotmeshlaw12_CellsOnce.j0]; rfl
end Pure
end Go.Proofs.Ytbpfbdljcdcgnaa.Px
