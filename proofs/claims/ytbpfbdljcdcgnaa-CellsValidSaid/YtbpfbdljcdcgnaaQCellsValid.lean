/- CellsValid: the pure statement, over numbers and lists alone. -/
import Derived.Test.YtbpfbdljcdcgnaaPx31
import Derived.Test.YtbpfbdljcdcgnaaSpec
namespace Go.Proofs.Ytbpfbdljcdcgnaa.Px
open Go.RowKit Go.Proofs.YtbpfbdljcdcgnaaW.PrintWords Go.Proofs.YtbpfbdljcdcgnaaW.PrintLast Go.Proofs.YtbpfbdljcdcgnaaW.PrintMore
set_option linter.unusedVariables false
set_option linter.unusedSimpArgs false
def slotmeshlaw12_CellsValid.Pure : Prop := ∀ (l0_0 : List S32) (l0_1 : List S34) (l0_2 : List S51) (a1_0 : Int) (a1_1 : Int) (a2_0 : Int) (a2_1 : Int) (a2_2 : Int) (a2_3 : Int) (a3_0 : Int) (a3_1 : Int) (a4 : Int), l0_0.length ≤ 9223372036854775807 → l0_1.length ≤ 9223372036854775807 → l0_2.length ≤ 9223372036854775807 → (Lit.int .i64 a4).wf = true → ∃ k, slotmeshlaw12_CellsValid.f k l0_0 l0_1 l0_2 a1_0 a1_1 a2_0 a2_1 a2_2 a2_3 a3_0 a3_1 a4 = some true
namespace Pure
def e32 (x y : S32) : Bool := (x.f0.f0 == y.f0.f0 && (x.f0.f1 == y.f0.f1)) && (x.f1 == y.f1 && (x.f2 == y.f2))
def e34 (x y : S34) : Bool := (x.f0.f0 == y.f0.f0 && (x.f0.f1 == y.f0.f1)) && (x.f1 == y.f1 && (x.f2 == y.f2 && (x.f3 == y.f3)))
def e51 (x y : S51) : Bool := (x.f0.f0 == y.f0.f0 && (x.f0.f1 == y.f0.f1)) && (x.f1 == y.f1)
theorem c32_in (a0 : List S32) (a1 : List S34) (a2 : List S51) (b0 : List S32) (b1 : List S34) (b2 : List S51) (x : S32) (i n0 : Int) (hb : b0.length ≤ 1000) : ∀ (m j k c : Nat) (x8 x9 : Int), b0.length = j + m → c + m ≤ 1000000 →
    slotmeshlaw12_counts.l1 (k + m + 1) (c : Int) x8 x9 a0 n0 i b0 (b0.length : Int) (j : Int) a0 a1 a2 b0 b1 b2 x.f0.f0 x.f0.f1 x.f1 x.f2 = slotmeshlaw12_counts.l0 k ((c + (b0.drop j).countP (e32 x) : Nat) : Int) x8 x9 a0 n0 (wrap64 (i + 1)) a0 a1 a2 b0 b1 b2
  | 0, j, k, c, x8, x9, h, _ => by
    simp only [slotmeshlaw12_counts.l1]
    rw [if_neg (by omega), List.drop_of_length_le (by omega)]
    rfl
  | m + 1, j, k, c, x8, x9, h, hc => by
    have hj : j < b0.length := by omega
    have hx : rd_T32 b0 (j : Int) = b0[j] := by unfold rd_T32; rw [Int.toNat_natCast, List.getD_eq_getElem?_getD, List.getElem?_eq_getElem hj]; rfl
    have hw : wrap64 ((c : Int) + 1) = ((c + 1 : Nat) : Int) := by unfold wrap64; omega
    show slotmeshlaw12_counts.l1 ((k + m + 1) + 1) (c : Int) x8 x9 a0 n0 i b0 (b0.length : Int) (j : Int) a0 a1 a2 b0 b1 b2 x.f0.f0 x.f0.f1 x.f1 x.f2 = _
    generalize hK : k + m + 1 = K
    simp only [slotmeshlaw12_counts.l1]
    subst hK
    rw [if_pos (by omega), if_pos (by omega), if_pos (by omega), hx, Spec.next_eq j (by omega), List.drop_eq_getElem_cons hj, List.countP_cons]
    by_cases e : e32 x b0[j] = true
    · refine (if_pos e).trans ?_
      rw [if_pos e, hw, c32_in a0 a1 a2 b0 b1 b2 x i n0 hb m (j + 1) k (c + 1) x8 x9 (by omega) (by omega)]
      rw [show c + 1 + List.countP (e32 x) (List.drop (j + 1) b0) = c + (List.countP (e32 x) (List.drop (j + 1) b0) + 1) by omega]
    · refine (if_neg e).trans ?_
      rw [if_neg e, c32_in a0 a1 a2 b0 b1 b2 x i n0 hb m (j + 1) k c x8 x9 (by omega) (by omega)]
      rfl
theorem c32_out (a0 : List S32) (a1 : List S34) (a2 : List S51) (b0 : List S32) (b1 : List S34) (b2 : List S51) (ha : a0.length ≤ 100) (hb : b0.length ≤ 100) : ∀ (m i k c : Nat) (x8 x9 : Int), a0.length = i + m → c + m * 100 ≤ 100000 →
    slotmeshlaw12_counts.l0 (k + m * (b0.length + 2) + 1) (c : Int) x8 x9 a0 (a0.length : Int) (i : Int) a0 a1 a2 b0 b1 b2 = slotmeshlaw12_counts.l2 k ((c + ((a0.drop i).map (fun x => b0.countP (e32 x))).sum : Nat) : Int) x8 x9 a1 (a1.length : Int) 0 a0 a1 a2 b0 b1 b2
  | 0, i, k, c, x8, x9, h, _ => by
    rw [Nat.zero_mul, Nat.add_zero]
    simp only [slotmeshlaw12_counts.l0]
    rw [if_neg (by omega), List.drop_of_length_le (by omega)]
    rfl
  | m + 1, i, k, c, x8, x9, h, hc => by
    have hi : i < a0.length := by omega
    have hx : rd_T32 a0 (i : Int) = a0[i] := by unfold rd_T32; rw [Int.toNat_natCast, List.getD_eq_getElem?_getD, List.getElem?_eq_getElem hi]; rfl
    have hf : k + (m + 1) * (b0.length + 2) + 1 = ((k + m * (b0.length + 2) + 1) + b0.length + 1) + 1 := by rw [Nat.succ_mul]; omega
    have hle : (b0).countP (e32 a0[i]) ≤ b0.length := List.countP_le_length
    rw [hf]
    generalize hK : (k + m * (b0.length + 2) + 1) + b0.length + 1 = K
    simp only [slotmeshlaw12_counts.l0]
    subst hK
    rw [if_pos (by omega), if_pos (by omega), if_pos (by omega), hx]
    have hin := c32_in a0 a1 a2 b0 b1 b2 a0[i] (i : Int) (a0.length : Int) (by omega) b0.length 0 (k + m * (b0.length + 2) + 1) c x8 x9 (by omega) (by omega)
    rw [List.drop_zero, Spec.next_eq i (by omega)] at hin
    refine hin.trans ?_
    rw [c32_out a0 a1 a2 b0 b1 b2 ha hb m (i + 1) k _ x8 x9 (by omega) (by omega), List.drop_eq_getElem_cons hi, List.map_cons, List.sum_cons, Nat.add_assoc]
theorem c34_in (a0 : List S32) (a1 : List S34) (a2 : List S51) (b0 : List S32) (b1 : List S34) (b2 : List S51) (x : S34) (i n0 : Int) (hb : b1.length ≤ 1000) : ∀ (m j k c : Nat) (x7 x9 : Int), b1.length = j + m → c + m ≤ 1000000 →
    slotmeshlaw12_counts.l3 (k + m + 1) x7 (c : Int) x9 a1 n0 i b1 (b1.length : Int) (j : Int) a0 a1 a2 b0 b1 b2 x.f0.f0 x.f0.f1 x.f1 x.f2 x.f3 = slotmeshlaw12_counts.l2 k x7 ((c + (b1.drop j).countP (e34 x) : Nat) : Int) x9 a1 n0 (wrap64 (i + 1)) a0 a1 a2 b0 b1 b2
  | 0, j, k, c, x7, x9, h, _ => by
    simp only [slotmeshlaw12_counts.l3]
    rw [if_neg (by omega), List.drop_of_length_le (by omega)]
    rfl
  | m + 1, j, k, c, x7, x9, h, hc => by
    have hj : j < b1.length := by omega
    have hx : rd_T34 b1 (j : Int) = b1[j] := by unfold rd_T34; rw [Int.toNat_natCast, List.getD_eq_getElem?_getD, List.getElem?_eq_getElem hj]; rfl
    have hw : wrap64 ((c : Int) + 1) = ((c + 1 : Nat) : Int) := by unfold wrap64; omega
    show slotmeshlaw12_counts.l3 ((k + m + 1) + 1) x7 (c : Int) x9 a1 n0 i b1 (b1.length : Int) (j : Int) a0 a1 a2 b0 b1 b2 x.f0.f0 x.f0.f1 x.f1 x.f2 x.f3 = _
    generalize hK : k + m + 1 = K
    simp only [slotmeshlaw12_counts.l3]
    subst hK
    rw [if_pos (by omega), if_pos (by omega), if_pos (by omega), hx, Spec.next_eq j (by omega), List.drop_eq_getElem_cons hj, List.countP_cons]
    by_cases e : e34 x b1[j] = true
    · refine (if_pos e).trans ?_
      rw [if_pos e, hw, c34_in a0 a1 a2 b0 b1 b2 x i n0 hb m (j + 1) k (c + 1) x7 x9 (by omega) (by omega)]
      rw [show c + 1 + List.countP (e34 x) (List.drop (j + 1) b1) = c + (List.countP (e34 x) (List.drop (j + 1) b1) + 1) by omega]
    · refine (if_neg e).trans ?_
      rw [if_neg e, c34_in a0 a1 a2 b0 b1 b2 x i n0 hb m (j + 1) k c x7 x9 (by omega) (by omega)]
      rfl
theorem c34_out (a0 : List S32) (a1 : List S34) (a2 : List S51) (b0 : List S32) (b1 : List S34) (b2 : List S51) (ha : a1.length ≤ 100) (hb : b1.length ≤ 100) : ∀ (m i k c : Nat) (x7 x9 : Int), a1.length = i + m → c + m * 100 ≤ 100000 →
    slotmeshlaw12_counts.l2 (k + m * (b1.length + 2) + 1) x7 (c : Int) x9 a1 (a1.length : Int) (i : Int) a0 a1 a2 b0 b1 b2 = slotmeshlaw12_counts.l4 k x7 ((c + ((a1.drop i).map (fun x => b1.countP (e34 x))).sum : Nat) : Int) x9 a2 (a2.length : Int) 0 b0 b1 b2
  | 0, i, k, c, x7, x9, h, _ => by
    rw [Nat.zero_mul, Nat.add_zero]
    simp only [slotmeshlaw12_counts.l2]
    rw [if_neg (by omega), List.drop_of_length_le (by omega)]
    rfl
  | m + 1, i, k, c, x7, x9, h, hc => by
    have hi : i < a1.length := by omega
    have hx : rd_T34 a1 (i : Int) = a1[i] := by unfold rd_T34; rw [Int.toNat_natCast, List.getD_eq_getElem?_getD, List.getElem?_eq_getElem hi]; rfl
    have hf : k + (m + 1) * (b1.length + 2) + 1 = ((k + m * (b1.length + 2) + 1) + b1.length + 1) + 1 := by rw [Nat.succ_mul]; omega
    have hle : (b1).countP (e34 a1[i]) ≤ b1.length := List.countP_le_length
    rw [hf]
    generalize hK : (k + m * (b1.length + 2) + 1) + b1.length + 1 = K
    simp only [slotmeshlaw12_counts.l2]
    subst hK
    rw [if_pos (by omega), if_pos (by omega), if_pos (by omega), hx]
    have hin := c34_in a0 a1 a2 b0 b1 b2 a1[i] (i : Int) (a1.length : Int) (by omega) b1.length 0 (k + m * (b1.length + 2) + 1) c x7 x9 (by omega) (by omega)
    rw [List.drop_zero, Spec.next_eq i (by omega)] at hin
    refine hin.trans ?_
    rw [c34_out a0 a1 a2 b0 b1 b2 ha hb m (i + 1) k _ x7 x9 (by omega) (by omega), List.drop_eq_getElem_cons hi, List.map_cons, List.sum_cons, Nat.add_assoc]
theorem c51_in (a0 : List S32) (a1 : List S34) (a2 : List S51) (b0 : List S32) (b1 : List S34) (b2 : List S51) (x : S51) (i n0 : Int) (hb : b2.length ≤ 1000) : ∀ (m j k c : Nat) (x7 x8 : Int), b2.length = j + m → c + m ≤ 1000000 →
    slotmeshlaw12_counts.l5 (k + m + 1) x7 x8 (c : Int) a2 n0 i b2 (b2.length : Int) (j : Int) b0 b1 b2 x.f0.f0 x.f0.f1 x.f1 = slotmeshlaw12_counts.l4 k x7 x8 ((c + (b2.drop j).countP (e51 x) : Nat) : Int) a2 n0 (wrap64 (i + 1)) b0 b1 b2
  | 0, j, k, c, x7, x8, h, _ => by
    simp only [slotmeshlaw12_counts.l5]
    rw [if_neg (by omega), List.drop_of_length_le (by omega)]
    rfl
  | m + 1, j, k, c, x7, x8, h, hc => by
    have hj : j < b2.length := by omega
    have hx : rd_T51 b2 (j : Int) = b2[j] := by unfold rd_T51; rw [Int.toNat_natCast, List.getD_eq_getElem?_getD, List.getElem?_eq_getElem hj]; rfl
    have hw : wrap64 ((c : Int) + 1) = ((c + 1 : Nat) : Int) := by unfold wrap64; omega
    show slotmeshlaw12_counts.l5 ((k + m + 1) + 1) x7 x8 (c : Int) a2 n0 i b2 (b2.length : Int) (j : Int) b0 b1 b2 x.f0.f0 x.f0.f1 x.f1 = _
    generalize hK : k + m + 1 = K
    simp only [slotmeshlaw12_counts.l5]
    subst hK
    rw [if_pos (by omega), if_pos (by omega), if_pos (by omega), hx, Spec.next_eq j (by omega), List.drop_eq_getElem_cons hj, List.countP_cons]
    by_cases e : e51 x b2[j] = true
    · refine (if_pos e).trans ?_
      rw [if_pos e, hw, c51_in a0 a1 a2 b0 b1 b2 x i n0 hb m (j + 1) k (c + 1) x7 x8 (by omega) (by omega)]
      rw [show c + 1 + List.countP (e51 x) (List.drop (j + 1) b2) = c + (List.countP (e51 x) (List.drop (j + 1) b2) + 1) by omega]
    · refine (if_neg e).trans ?_
      rw [if_neg e, c51_in a0 a1 a2 b0 b1 b2 x i n0 hb m (j + 1) k c x7 x8 (by omega) (by omega)]
      rfl
theorem c51_out (a0 : List S32) (a1 : List S34) (a2 : List S51) (b0 : List S32) (b1 : List S34) (b2 : List S51) (ha : a2.length ≤ 100) (hb : b2.length ≤ 100) : ∀ (m i k c : Nat) (x7 x8 : Int), a2.length = i + m → c + m * 100 ≤ 100000 →
    slotmeshlaw12_counts.l4 (k + m * (b2.length + 2) + 1) x7 x8 (c : Int) a2 (a2.length : Int) (i : Int) b0 b1 b2 = some (x7, x8, ((c + ((a2.drop i).map (fun x => b2.countP (e51 x))).sum : Nat) : Int))
  | 0, i, k, c, x7, x8, h, _ => by
    rw [Nat.zero_mul, Nat.add_zero]
    simp only [slotmeshlaw12_counts.l4]
    rw [if_neg (by omega), List.drop_of_length_le (by omega)]
    rfl
  | m + 1, i, k, c, x7, x8, h, hc => by
    have hi : i < a2.length := by omega
    have hx : rd_T51 a2 (i : Int) = a2[i] := by unfold rd_T51; rw [Int.toNat_natCast, List.getD_eq_getElem?_getD, List.getElem?_eq_getElem hi]; rfl
    have hf : k + (m + 1) * (b2.length + 2) + 1 = ((k + m * (b2.length + 2) + 1) + b2.length + 1) + 1 := by rw [Nat.succ_mul]; omega
    have hle : (b2).countP (e51 a2[i]) ≤ b2.length := List.countP_le_length
    rw [hf]
    generalize hK : (k + m * (b2.length + 2) + 1) + b2.length + 1 = K
    simp only [slotmeshlaw12_counts.l4]
    subst hK
    rw [if_pos (by omega), if_pos (by omega), if_pos (by omega), hx]
    have hin := c51_in a0 a1 a2 b0 b1 b2 a2[i] (i : Int) (a2.length : Int) (by omega) b2.length 0 (k + m * (b2.length + 2) + 1) c x7 x8 (by omega) (by omega)
    rw [List.drop_zero, Spec.next_eq i (by omega)] at hin
    refine hin.trans ?_
    rw [c51_out a0 a1 a2 b0 b1 b2 ha hb m (i + 1) k _ x7 x8 (by omega) (by omega), List.drop_eq_getElem_cons hi, List.map_cons, List.sum_cons, Nat.add_assoc]
theorem up {α : Type} (g : Nat → Option α) (hm : ∀ k, LeO (g k) (g (k + 1))) {a : Nat} {r : α} (h : g a = some r) : ∀ (d : Nat), g (a + d) = some r
  | 0 => h
  | d + 1 => hm _ _ (up g hm h d)
/-- How many entries of one table stand in another. -/
theorem counts_eq (a0 : List S32) (a1 : List S34) (a2 : List S51) (b0 : List S32) (b1 : List S34) (b2 : List S51) (ha0 : a0.length ≤ 100) (ha1 : a1.length ≤ 100) (ha2 : a2.length ≤ 100) (hb0 : b0.length ≤ 100) (hb1 : b1.length ≤ 100) (hb2 : b2.length ≤ 100) (k : Nat) (hk : 40000 ≤ k) :
    slotmeshlaw12_counts.f k a0 a1 a2 b0 b1 b2 = some ((((a0.map (fun x => b0.countP (e32 x))).sum : Nat) : Int), (((a1.map (fun x => b1.countP (e34 x))).sum : Nat) : Int), (((a2.map (fun x => b2.countP (e51 x))).sum : Nat) : Int)) := by
  have h : slotmeshlaw12_counts.f (((0 + a2.length * (b2.length + 2) + 1) + a1.length * (b1.length + 2) + 1) + a0.length * (b0.length + 2) + 1) a0 a1 a2 b0 b1 b2 = some ((((a0.map (fun x => b0.countP (e32 x))).sum : Nat) : Int), (((a1.map (fun x => b1.countP (e34 x))).sum : Nat) : Int), (((a2.map (fun x => b2.countP (e51 x))).sum : Nat) : Int)) := by
    unfold slotmeshlaw12_counts.f
    have h0 := c32_out a0 a1 a2 b0 b1 b2 ha0 hb0 a0.length 0 ((0 + a2.length * (b2.length + 2) + 1) + a1.length * (b1.length + 2) + 1) 0 0 0 (by omega) (by omega)
    have h1 := c34_out a0 a1 a2 b0 b1 b2 ha1 hb1 a1.length 0 (0 + a2.length * (b2.length + 2) + 1) 0 (((a0.map (fun x => b0.countP (e32 x))).sum : Nat) : Int) 0 (by omega) (by omega)
    have h2 := c51_out a0 a1 a2 b0 b1 b2 ha2 hb2 a2.length 0 0 0 (((a0.map (fun x => b0.countP (e32 x))).sum : Nat) : Int) (((a1.map (fun x => b1.countP (e34 x))).sum : Nat) : Int) (by omega) (by omega)
    rw [List.drop_zero] at h0 h1 h2
    simp only [Nat.zero_add] at h0 h1 h2 ⊢
    exact h0.trans (h1.trans h2)
  have q0 : a0.length * (b0.length + 2) ≤ 100 * 102 := Nat.mul_le_mul ha0 (by omega)
  have q1 : a1.length * (b1.length + 2) ≤ 100 * 102 := Nat.mul_le_mul ha1 (by omega)
  have q2 : a2.length * (b2.length + 2) ≤ 100 * 102 := Nat.mul_le_mul ha2 (by omega)
  have hu := up (fun k => slotmeshlaw12_counts.f k a0 a1 a2 b0 b1 b2) (fun k => slotmeshlaw12_counts.mono a0 a1 a2 b0 b1 b2 k) h (k - (((0 + a2.length * (b2.length + 2) + 1) + a1.length * (b1.length + 2) + 1) + a0.length * (b0.length + 2) + 1))
  have e : (((0 + a2.length * (b2.length + 2) + 1) + a1.length * (b1.length + 2) + 1) + a0.length * (b0.length + 2) + 1) + (k - (((0 + a2.length * (b2.length + 2) + 1) + a1.length * (b1.length + 2) + 1) + a0.length * (b0.length + 2) + 1)) = k := by omega
  rw [e] at hu
  exact hu
theorem e32_iff (x y : S32) : e32 x y = true ↔ x = y := by
  obtain ⟨⟨a, b⟩, c, d⟩ := x; obtain ⟨⟨a', b'⟩, c', d'⟩ := y
  unfold e32; simp [and_assoc]
theorem e34_iff (x y : S34) : e34 x y = true ↔ x = y := by
  obtain ⟨⟨a, b⟩, c, d, e⟩ := x; obtain ⟨⟨a', b'⟩, c', d', e'⟩ := y
  unfold e34; simp [and_assoc]
theorem e51_iff (x y : S51) : e51 x y = true ↔ x = y := by
  obtain ⟨⟨a, b⟩, c⟩ := x; obtain ⟨⟨a', b'⟩, c'⟩ := y
  unfold e51; simp [and_assoc]
theorem cp_none {α : Type} (e : α → α → Bool) (he : ∀ x y, e x y = true ↔ x = y) {x : α} {b : List α} (h : x ∉ b) : b.countP (e x) = 0 :=
  List.countP_eq_zero.2 fun y hy => by rw [he]; exact fun h2 => h (h2 ▸ hy)
theorem cp_one {α : Type} (e : α → α → Bool) (he : ∀ x y, e x y = true ↔ x = y) (σ : α → Int) {x : α} : ∀ {b : List α}, b.Pairwise (fun p q => σ p < σ q) → x ∈ b → b.countP (e x) = 1
  | [], _, h => absurd h (by simp)
  | y :: t, hp, h => by
    obtain ⟨h1, h2⟩ := List.pairwise_cons.1 hp
    rw [List.countP_cons]
    rcases List.mem_cons.1 h with rfl | h
    · rw [if_pos ((he _ _).2 rfl), cp_none e he (fun hm => by have := h1 _ hm; omega)]
    · rw [cp_one e he σ h2 h, if_neg (fun hc => by have e2 := (he _ _).1 hc; have := h1 _ h; rw [e2] at this; omega)]
theorem sum_one {α : Type} (f : α → Nat) : ∀ (a : List α), (∀ x ∈ a, f x = 1) → (a.map f).sum = a.length
  | [], _ => rfl
  | x :: t, h => by rw [List.map_cons, List.sum_cons, h x (by simp), sum_one f t (fun y hy => h y (by simp [hy])), List.length_cons]; omega
theorem sum_if {α : Type} (q : α → Bool) (f : α → Nat) : ∀ (a : List α), (∀ x ∈ a, q x = true → f x = 1) → (∀ x ∈ a, q x = false → f x = 0) → (a.map f).sum = (a.filter q).length
  | [], _, _ => rfl
  | x :: t, h, g => by
    rw [List.map_cons, List.sum_cons, sum_if q f t (fun y hy => h y (by simp [hy])) (fun y hy => g y (by simp [hy])), List.filter_cons]
    cases hq : q x
    · rw [g x (by simp) hq, if_neg (by decide), Nat.zero_add]
    · rw [h x (by simp) hq, if_pos rfl, List.length_cons]; omega
/-- The asks in the slot are counted. -/
theorem asked (r : Bool) (p q z : Int) (l0 : List S32) (l1 : List S34) (l2 : List S51) (a b s x1 x2 x3 : Int) (m0 : List S32) (m1 : List S34) (m2 : List S51) (h2 : l2.length ≤ 70) : ∀ (m i k c : Nat), l2.length = i + m → c + m ≤ 1000 →
    slotmeshlaw12_CellsValid.l1 (k + m + 1) r p q z (c : Int) l2 (l2.length : Int) (i : Int) l0 l1 l2 a b s x1 x2 x3 m0 m1 m2 = slotmeshlaw12_CellsValid.l2 k r p q z ((c + (l2.drop i).countP (slot51 s) : Nat) : Int) false m0 (m0.length : Int) 0 l0 l1 l2 a b s x1 x2 x3 m0 m1 m2
  | 0, i, k, c, h, _ => by
    simp only [slotmeshlaw12_CellsValid.l1]
    rw [if_neg (by omega), List.drop_of_length_le (by omega)]
    rfl
  | m + 1, i, k, c, h, hc => by
    have hi : i < l2.length := by omega
    have hx : rd_T51 l2 (i : Int) = l2[i] := by unfold rd_T51; rw [Int.toNat_natCast, List.getD_eq_getElem?_getD, List.getElem?_eq_getElem hi]; rfl
    have hw : wrap64 ((c : Int) + 1) = ((c + 1 : Nat) : Int) := by unfold wrap64; omega
    show slotmeshlaw12_CellsValid.l1 ((k + m + 1) + 1) r p q z (c : Int) l2 (l2.length : Int) (i : Int) l0 l1 l2 a b s x1 x2 x3 m0 m1 m2 = _
    generalize hK : k + m + 1 = K
    simp only [slotmeshlaw12_CellsValid.l1]
    subst hK
    rw [if_pos (by omega), if_pos (by omega), if_pos (by omega), hx, Spec.next_eq i (by omega), List.drop_eq_getElem_cons hi, List.countP_cons]
    by_cases e : l2[i].f0.f0 = s
    · rw [if_pos e, if_pos (show slot51 s l2[i] = true by unfold slot51; simpa using e), hw, asked r p q z l0 l1 l2 a b s x1 x2 x3 m0 m1 m2 h2 m (i + 1) k (c + 1) (by omega) (by omega)]
      rw [show c + 1 + List.countP (slot51 s) (List.drop (i + 1) l2) = c + (List.countP (slot51 s) (List.drop (i + 1) l2) + 1) by omega]
    · rw [if_neg e, if_neg (show ¬ slot51 s l2[i] = true by unfold slot51; simpa using e), asked r p q z l0 l1 l2 a b s x1 x2 x3 m0 m1 m2 h2 m (i + 1) k c (by omega) (by omega)]
      rfl
/-- The new use is looked for. -/
theorem looked (r : Bool) (p q z c : Int) (l0 : List S32) (l1 : List S34) (l2 : List S51) (a b : Int) (x : S32) (m0 : List S32) (m1 : List S34) (m2 : List S51) (h0 : m0.length ≤ 100) : ∀ (m i k : Nat) (t : Bool), m0.length = i + m →
    slotmeshlaw12_CellsValid.l2 (k + m + 1) r p q z c t m0 (m0.length : Int) (i : Int) l0 l1 l2 a b x.f0.f0 x.f0.f1 x.f1 x.f2 m0 m1 m2 = slotmeshlaw12_CellsValid.l2 (k + 1) r p q z c (t || (m0.drop i).any (fun y => e32 y x)) m0 (m0.length : Int) (m0.length : Int) l0 l1 l2 a b x.f0.f0 x.f0.f1 x.f1 x.f2 m0 m1 m2
  | 0, i, k, t, h => by
    obtain rfl : i = m0.length := by omega
    rw [List.drop_length, List.any_nil, Bool.or_false, Nat.add_zero]
  | m + 1, i, k, t, h => by
    have hi : i < m0.length := by omega
    have hx : rd_T32 m0 (i : Int) = m0[i] := by unfold rd_T32; rw [Int.toNat_natCast, List.getD_eq_getElem?_getD, List.getElem?_eq_getElem hi]; rfl
    show slotmeshlaw12_CellsValid.l2 ((k + m + 1) + 1) r p q z c t m0 (m0.length : Int) (i : Int) l0 l1 l2 a b x.f0.f0 x.f0.f1 x.f1 x.f2 m0 m1 m2 = _
    have ih := looked r p q z c l0 l1 l2 a b x m0 m1 m2 h0 m (i + 1) k
    rw [List.drop_eq_getElem_cons hi, List.any_cons]
    generalize hK : k + m + 1 = K at ih
    generalize hR : slotmeshlaw12_CellsValid.l2 (k + 1) = R at ih ⊢
    simp only [slotmeshlaw12_CellsValid.l2]
    rw [if_pos (by omega), if_pos (by omega), if_pos (by omega), hx, Spec.next_eq i (by omega)]
    cases t
    · rw [if_neg (by decide), Bool.false_or]
      exact ih (e32 m0[i] x) (by omega)
    · rw [if_pos rfl, Bool.true_or]
      have := ih true (by omega)
      rwa [Bool.true_or] at this
theorem fin (l0 : List S32) (l1 : List S34) (l2 : List S51) (a b : Int) (x : S32) (h0 : l0.length ≤ 70) (h1 : l1.length ≤ 70) (h2 : l2.length ≤ 70) (hg : Spec.Good l0 l1 l2 a b) (tabs : List S26) (k : Nat) (hk : 50000 ≤ k) (i n : Int) (hi : ¬ i < n) :
    slotmeshlaw12_CellsValid.l0 (k + 1) true tabs n i l0 l1 l2 a b x.f0.f0 x.f0.f1 x.f1 x.f2 = some true := by
  simp only [slotmeshlaw12_CellsValid.l0]
  rw [if_neg hi]
  show ((addB32 l0 l1 l2 a b x).bind _) = _
  rw [Spec.addU_eq _ _ _ _ _ _ (by omega) (by omega) (by omega)]
  by_cases e : refB l0 l1 l2 a b (v32 a b x) x.f0.f0 = 0
  · rw [if_pos e, Option.bind_some]
    dsimp only
    obtain ⟨_, hv, hb, hl⟩ := Spec.ref_zero e
    have hgx := Spec.goodU hg hv hb hl
    have hun := Spec.un_len x.f0.f0 l2
    have hil : (Spec.i32 x l0).length = l0.length + 1 := Spec.insG_len _ _ _
    rw [if_pos rfl, counts_eq l0 l1 l2 _ _ _ (by omega) (by omega) (by omega) (by omega) (by omega) (by omega) k (by omega), Option.bind_some]
    dsimp only
    have s0 : (l0.map fun y => (Spec.i32 x l0).countP (e32 y)).sum = l0.length := sum_one _ _ fun y hy => cp_one e32 e32_iff Spec.s32 hgx.us (Spec.insG_mem.2 (.inr hy))
    have s1 : (l1.map fun y => l1.countP (e34 y)).sum = l1.length := sum_one _ _ fun y hy => cp_one e34 e34_iff Spec.s34 hg.gs hy
    have s2 : (l2.map fun y => (Spec.un x.f0.f0 l2).countP (e51 y)).sum = (Spec.un x.f0.f0 l2).length := sum_if (fun z => !slot51 x.f0.f0 z) _ l2
      (fun y hy hq => cp_one e51 e51_iff Spec.s51 hgx.ks (List.mem_filter.2 ⟨hy, hq⟩)) (fun y hy hq => cp_none e51 e51_iff (fun hm => by have := (List.mem_filter.1 hm).2; rw [hq] at this; cases this))
    rw [s0, s1, s2]
    obtain ⟨j, rfl⟩ : ∃ j, k = ((j + (Spec.i32 x l0).length + 1) + l2.length + 1) := ⟨k - ((Spec.i32 x l0).length + 1 + l2.length + 1), by omega⟩
    have ha := asked true (l0.length : Int) (l1.length : Int) ((Spec.un x.f0.f0 l2).length : Int) l0 l1 l2 a b x.f0.f0 x.f0.f1 x.f1 x.f2 (Spec.i32 x l0) l1 (Spec.un x.f0.f0 l2) h2 l2.length 0 (j + (Spec.i32 x l0).length + 1) 0 (by omega) (by omega)
    rw [List.drop_zero, Nat.zero_add] at ha
    refine ha.trans ?_
    have hlk := looked true (l0.length : Int) (l1.length : Int) ((Spec.un x.f0.f0 l2).length : Int) ((l2.countP (slot51 x.f0.f0) : Nat) : Int) l0 l1 l2 a b x (Spec.i32 x l0) l1 (Spec.un x.f0.f0 l2) (by omega) (Spec.i32 x l0).length 0 j false (by omega)
    rw [List.drop_zero, Bool.false_or, show (Spec.i32 x l0).any (fun y => e32 y x) = true from List.any_eq_true.2 ⟨x, Spec.insG_mem.2 (.inl rfl), (e32_iff x x).2 rfl⟩] at hlk
    refine hlk.trans ?_
    have hc : l2.length = l2.countP (slot51 x.f0.f0) + (Spec.un x.f0.f0 l2).length := by
      have := List.length_eq_countP_add_countP (slot51 x.f0.f0) (l := l2)
      unfold Spec.un
      rw [← List.countP_eq_length_filter]
      simpa using this
    simp only [slotmeshlaw12_CellsValid.l2]
    rw [if_neg (by omega), if_pos trivial, if_pos trivial]
    show ((cells_Valid.f (Spec.i32 x l0) l1 (Spec.un x.f0.f0 l2) a b).bind _) = _
    rw [Spec.valid_eq _ _ _ _ _ (by omega) (by omega) (by omega), (Spec.valid_iff _ _ _ _ _).2 hgx]
    have w1 : wrap64 ((l2.length : Int) - ((l2.countP (slot51 x.f0.f0) : Nat) : Int)) = ((Spec.un x.f0.f0 l2).length : Int) := by unfold wrap64; omega
    have w2 : wrap64 ((l0.length : Int) + 1) = ((Spec.i32 x l0).length : Int) := by unfold wrap64; omega
    rw [Option.bind_some, if_pos rfl, if_pos trivial, if_pos trivial, w1, if_pos rfl, w2, if_pos rfl, if_pos trivial]
    simp
  · rw [if_neg e, Option.bind_some]
    dsimp only
    rw [if_neg e]
theorem one (l0 : List S32) (l1 : List S34) (l2 : List S51) (a b : Int) (x : S32) (h0 : l0.length ≤ 70) (h1 : l1.length ≤ 70) (h2 : l2.length ≤ 70) (hg : Spec.Good l0 l1 l2 a b) (tabs : List S26) (k : Nat) (hk : 50000 ≤ k) (i : Nat) (hi : i < tabs.length) (ht : tabs.length ≤ 10)
    (s0 : (tabs.getD i z26).f0.Sublist l0) (s1 : (tabs.getD i z26).f1.Sublist l1) (s2 : (tabs.getD i z26).f2.Sublist l2) :
    slotmeshlaw12_CellsValid.l0 (k + 1) true tabs (tabs.length : Int) (i : Int) l0 l1 l2 a b x.f0.f0 x.f0.f1 x.f1 x.f2 = slotmeshlaw12_CellsValid.l0 k true tabs (tabs.length : Int) ((i + 1 : Nat) : Int) l0 l1 l2 a b x.f0.f0 x.f0.f1 x.f1 x.f2 := by
  generalize hR : slotmeshlaw12_CellsValid.l0 k true tabs (tabs.length : Int) ((i + 1 : Nat) : Int) l0 l1 l2 a b x.f0.f0 x.f0.f1 x.f1 x.f2 = R
  simp only [slotmeshlaw12_CellsValid.l0]
  have hx : rd_T26 tabs (i : Int) = tabs.getD i z26 := by unfold rd_T26; rw [Int.toNat_natCast]
  rw [if_pos (by omega), if_pos (by omega), if_pos (by omega), hx, Spec.next_eq i (by omega)]
  generalize tabs.getD i z26 = T at s0 s1 s2 ⊢
  have e0 := s0.length_le
  have e1 := s1.length_le
  have e2 := s2.length_le
  rw [counts_eq T.f0 T.f1 T.f2 l0 l1 l2 (by omega) (by omega) (by omega) (by omega) (by omega) (by omega) k (by omega), Option.bind_some]
  dsimp only
  show ((cells_Valid.f T.f0 T.f1 T.f2 a b).bind _) = _
  rw [Spec.valid_eq _ _ _ _ _ (by omega) (by omega) (by omega), Option.bind_some, (Spec.valid_iff _ _ _ _ _).2 (Spec.good_sub hg s0 s1 s2)]
  rw [sum_one _ _ (fun y hy => cp_one e32 e32_iff Spec.s32 hg.us (s0.subset hy)), sum_one _ _ (fun y hy => cp_one e34 e34_iff Spec.s34 hg.gs (s1.subset hy)), sum_one _ _ (fun y hy => cp_one e51 e51_iff Spec.s51 hg.ks (s2.subset hy))]
  rw [if_pos rfl, if_pos rfl, if_pos rfl, if_pos rfl]
  exact hR
theorem two (l0 : List S32) (l1 : List S34) (l2 : List S51) (a b : Int) (x : S32) (h0 : l0.length ≤ 70) (h1 : l1.length ≤ 70) (h2 : l2.length ≤ 70) (hg : Spec.Good l0 l1 l2 a b) (d e : S26)
    (d0 : d.f0.Sublist l0) (d1 : d.f1.Sublist l1) (d2 : d.f2.Sublist l2) (e0 : e.f0.Sublist l0) (e1 : e.f1.Sublist l1) (e2 : e.f2.Sublist l2) : slotmeshlaw12_CellsValid.l0 59999 true [d, e] (([d, e] : List S26).length : Int) 0 l0 l1 l2 a b x.f0.f0 x.f0.f1 x.f1 x.f2 = some true :=
  (one l0 l1 l2 a b x h0 h1 h2 hg [d, e] 59998 (by omega) 0 (by simp) (by simp) d0 d1 d2).trans ((one l0 l1 l2 a b x h0 h1 h2 hg [d, e] 59997 (by omega) 1 (by simp) (by simp) e0 e1 e2).trans (fin l0 l1 l2 a b x h0 h1 h2 hg [d, e] 59996 (by omega) _ _ (by simp)))
theorem CellsValid : slotmeshlaw12_CellsValid.Pure := by
  intro l0 l1 l2 a b x0 x1 x2 x3 c0 c1 fr _ _ _ _
  refine ⟨60000, ?_⟩
  unfold slotmeshlaw12_CellsValid.f slotmeshlaw12_head.f
  rw [Option.bind_some, Spec.few_eq, Option.bind_some]
  by_cases h : l0.length ≤ 70 ∧ l1.length ≤ 70 ∧ l2.length ≤ 70
  · rw [decide_eq_true h, if_pos rfl]
    obtain ⟨h0, h1, h2⟩ := h
    show ((cells_Valid.f l0 l1 l2 a b).bind _) = _
    rw [Spec.valid_eq _ _ _ _ _ (by omega) (by omega) (by omega), Option.bind_some]
    cases hv : validB l0 l1 l2 a b
    · simp only [slotmeshlaw12_CellsValid.j0]; rfl
    · have hg := (Spec.valid_iff _ _ _ _ _).1 hv
      simp only [slotmeshlaw12_CellsValid.j0]
      rw [if_neg (by decide), Spec.drop_eq _ _ _ _ _ (by omega) (by omega) (by omega), Option.bind_some, Spec.expire_eq _ _ _ _ (by omega) (by omega) (by omega), Option.bind_some, Option.bind_some]
      dsimp only
      refine two l0 l1 l2 a b ⟨⟨x0, x1⟩, x2, x3⟩ h0 h1 h2 hg _ _ ?_ ?_ ?_ ?_ ?_ ?_
      all_goals first | exact List.filter_sublist | exact List.Sublist.refl _
  · rw [decide_eq_false h, if_neg (by decide)]
    simp only [slotmeshlaw12_CellsValid.j0]; rfl
end Pure
end Go.Proofs.Ytbpfbdljcdcgnaa.Px
