/- What the functions of package queue and of its reference compute, as plain functions of lists. -/
import Derived.Test.YtcjnjgafhfkegaaPx4
import Derived.Test.YtcjnjgafhfkegaaPx5
import Derived.Test.YtcjnjgafhfkegaaPx8
import Derived.Test.YtcjnjgafhfkegaaPx9s
namespace Go.Proofs.Ytcjnjgafhfkegaa.Px
open Go.RowKit Go.Proofs.YtcjnjgafhfkegaaW.PrintWords Go.Proofs.YtcjnjgafhfkegaaW.PrintLast Go.Proofs.YtcjnjgafhfkegaaW.PrintMore
set_option linter.unusedVariables false
set_option linter.unusedSimpArgs false
theorem w1 {i n : Nat} (h : i < n) (hn : n ≤ 9223372036854775807) : wrap64 ((i : Int) + 1) = ((i + 1 : Nat) : Int) := by
  unfold wrap64; omega
theorem rdn (l : List S26) (i : Nat) : rd_T26 l (i : Int) = l.getD i z26 := by simp [rd_T26]
theorem drop_cons_getD {α : Type} (l : List α) (i : Nat) (d : α) (h : i < l.length) : l.drop i = l.getD i d :: l.drop (i + 1) := by
  rw [List.drop_eq_getElem_cons h]; simp [List.getD_eq_getElem?_getD, h]
/-! ### formed -/
def frm (x : S26) : Bool := decide (0 ≤ x.f0 ∧ x.f0 < 60 ∧ 1 ≤ x.f1 ∧ x.f1 ≤ 1000000000 ∧ (x.f2 = 0 ∨ x.f2 = 1) ∧ 0 ≤ x.f4 ∧ x.f4 ≤ 1000000000)
theorem formed_eq (a b c d e : Int) : queue_formed.f a b c d e = some (frm ⟨a, b, c, d, e⟩) := by
  unfold queue_formed.f frm
  repeat' split
  all_goals (congr 1; dsimp only; first | (rw [Bool.eq_iff_iff, decide_eq_true_iff, decide_eq_true_iff]; omega) | (symm; apply decide_eq_false; omega))
theorem rformed_eq (a b c d e : Int) : slotmeshref27_Formed.f a b c d e = some (frm ⟨a, b, c, d, e⟩) := formed_eq a b c d e
theorem name_eq (a b c d e : Int) : queue_name.f a b c d e = some (a, b) := rfl
theorem find_eq (l : List S26) (a b : Int) : queue_find.f l a b = some (qidx l a b) := rfl
/-! ### find -/
theorem nm_iff (a b : Int) (x : S26) : nm26 a b x = true ↔ x.f0 = a ∧ x.f1 = b := by simp [nm26]
theorem nm_not {a b : Int} {x : S26} (h : ¬ (x.f0 = a ∧ x.f1 = b)) : (!nm26 a b x) = true := by unfold nm26; rw [decide_eq_false h]; rfl
theorem nm_yes {a b : Int} {x : S26} (h1 : x.f0 = a) (h2 : x.f1 = b) : ¬ ((!nm26 a b x) = true) := by simp [nm26, h1, h2]
theorem rfind_l0 (l : List S26) (a b : Int) (hn : l.length ≤ 9223372036854775807) : ∀ (d k i : Nat), i + d = l.length → d < k → slotmeshref27_Find.l0 k l a b (i : Int) = some (fidx (nm26 a b) (l.drop i) i)
  | 0, k, i, hd, hk => by
    obtain ⟨k, rfl⟩ : ∃ m, k = m + 1 := ⟨k - 1, by omega⟩
    simp only [slotmeshref27_Find.l0]
    rw [if_neg (by omega), List.drop_of_length_le (by omega)]
    rfl
  | d + 1, k, i, hd, hk => by
    obtain ⟨k, rfl⟩ : ∃ m, k = m + 1 := ⟨k - 1, by omega⟩
    simp only [slotmeshref27_Find.l0]
    rw [if_pos (by omega), if_pos (by omega), rdn, w1 (n := l.length) (by omega) hn, rfind_l0 l a b hn d k (i + 1) (by omega) (by omega), drop_cons_getD l i z26 (by omega)]
    show _ = some (if nm26 a b (l.getD i z26) = true then (i : Int) else fidx (nm26 a b) (l.drop (i + 1)) ((i : Int) + 1))
    by_cases h1 : (l.getD i z26).f0 = a
    · rw [if_pos h1]
      by_cases h2 : (l.getD i z26).f1 = b
      · rw [if_pos h2, if_pos ((nm_iff a b (l.getD i z26)).2 ⟨h1, h2⟩)]
      · rw [if_neg h2, if_neg (fun h => h2 ((nm_iff a b (l.getD i z26)).1 h).2)]; rfl
    · rw [if_neg h1, if_neg (fun h => h1 ((nm_iff a b (l.getD i z26)).1 h).1)]; rfl
theorem rfind_eq (l : List S26) (a b : Int) (hn : l.length ≤ 9223372036854775807) (k : Nat) (hk : l.length < k) : slotmeshref27_Find.f k l a b = some (qidx l a b) := by
  unfold slotmeshref27_Find.f
  have := rfind_l0 l a b hn l.length k 0 (by omega) hk
  simpa [qidx] using this
/-! ### valid -/
def vat (l : List S26) (i : Nat) : Bool := frm (l.getD i z26) && decide (qidx l (l.getD i z26).f0 (l.getD i z26).f1 = (i : Int))
def vld (l : List S26) : Bool := (List.range' 0 l.length).all (vat l) && decide (l.length ≤ 16)
theorem valid_l0 (l : List S26) (hn : l.length ≤ 9223372036854775807) : ∀ (d k i : Nat), i + d = l.length → d < k → queue_valid.l0 k l (l.length : Int) (i : Int) l = some ((List.range' i d).all (vat l) && decide (l.length ≤ 16))
  | 0, k, i, hd, hk => by
    obtain ⟨k, rfl⟩ : ∃ m, k = m + 1 := ⟨k - 1, by omega⟩
    simp only [queue_valid.l0]
    rw [if_neg (by omega)]
    simp; omega
  | d + 1, k, i, hd, hk => by
    obtain ⟨k, rfl⟩ : ∃ m, k = m + 1 := ⟨k - 1, by omega⟩
    simp only [queue_valid.l0]
    rw [if_pos (by omega), if_pos (by omega), if_pos (by omega), rdn, formed_eq, w1 (n := l.length) (by omega) hn, valid_l0 l hn d k (i + 1) (by omega) (by omega)]
    simp only [Option.bind_some, name_eq, find_eq]
    rw [List.range'_succ]
    have hv : vat l i = (frm (l.getD i z26) && decide (qidx l (l.getD i z26).f0 (l.getD i z26).f1 = (i : Int))) := rfl
    rw [List.all_cons, hv]
    by_cases h1 : frm (l.getD i z26) = true
    · rw [if_pos h1, h1]
      by_cases h2 : qidx l (l.getD i z26).f0 (l.getD i z26).f1 = (i : Int)
      · rw [if_pos h2, decide_eq_true h2]; simp only [Bool.true_and]
      · rw [if_neg h2, decide_eq_false h2]; simp only [Bool.and_false, Bool.false_and]
    · rw [if_neg h1, Bool.eq_false_iff.2 h1]; simp only [Bool.false_and]
theorem valid_eq (l : List S26) (hn : l.length ≤ 9223372036854775807) (k : Nat) (hk : l.length < k) : queue_valid.f k l = some (vld l) := by
  unfold queue_valid.f
  exact valid_l0 l hn l.length k 0 (by omega) hk
theorem rvalid_l0 (l : List S26) (hn : l.length ≤ 9223372036854775807) : ∀ (d k i : Nat), i + d = l.length → l.length + d < k → slotmeshref27_Valid.l0 k (i : Int) l = some ((List.range' i d).all (vat l) && decide (l.length ≤ 16))
  | 0, k, i, hd, hk => by
    obtain ⟨k, rfl⟩ : ∃ m, k = m + 1 := ⟨k - 1, by omega⟩
    simp only [slotmeshref27_Valid.l0]
    rw [if_neg (by omega)]
    simp; omega
  | d + 1, k, i, hd, hk => by
    obtain ⟨k, rfl⟩ : ∃ m, k = m + 1 := ⟨k - 1, by omega⟩
    simp only [slotmeshref27_Valid.l0]
    rw [if_pos (by omega), if_pos (by omega), rdn, rformed_eq, w1 (n := l.length) (by omega) hn, rvalid_l0 l hn d k (i + 1) (by omega) (by omega), rfind_eq l _ _ hn k (by omega)]
    simp only [Option.bind_some]
    rw [List.range'_succ]
    have hv : vat l i = (frm (l.getD i z26) && decide (qidx l (l.getD i z26).f0 (l.getD i z26).f1 = (i : Int))) := rfl
    rw [List.all_cons, hv]
    by_cases h1 : frm (l.getD i z26) = true
    · rw [if_pos h1, h1]
      by_cases h2 : qidx l (l.getD i z26).f0 (l.getD i z26).f1 = (i : Int)
      · rw [if_pos h2, decide_eq_true h2]; simp only [Bool.true_and]
      · rw [if_neg h2, decide_eq_false h2]; simp only [Bool.and_false, Bool.false_and]
    · rw [if_neg h1, Bool.eq_false_iff.2 h1]; simp only [Bool.false_and]
theorem rvalid_eq (l : List S26) (hn : l.length ≤ 9223372036854775807) (k : Nat) (hk : 2 * l.length < k) : slotmeshref27_Valid.f k l = some (vld l) := by
  unfold slotmeshref27_Valid.f
  exact rvalid_l0 l hn l.length k 0 (by omega) (by omega)
/-! ### put, head, full -/
def putS (l : List S26) (r : S26) (me : Int) : List S26 × Int :=
  if vld l = true ∧ frm r = true ∧ 0 ≤ me ∧ me < 60 then
    if qidx l r.f0 r.f1 ≥ 0 then ([], 5) else if l.length = 16 ∨ l.length ≥ 12 ∧ r.f0 = me then ([], 10) else (l ++ [r], 0)
  else ([], 1)
theorem vld_len {l : List S26} (h : vld l = true) : l.length ≤ 16 := by
  unfold vld at h; simp at h; exact h.2
theorem put_eq (l : List S26) (a b c d e me : Int) (hn : l.length ≤ 9223372036854775807) (k : Nat) (hk : l.length + 1 < k) : queue_Put.f k l a b c d e me = some (putS l ⟨a, b, c, d, e⟩ me) := by
  obtain ⟨k, rfl⟩ : ∃ m, k = m + 1 := ⟨k - 1, by omega⟩
  unfold queue_Put.f putS
  rw [valid_eq l hn _ (by omega), formed_eq]
  simp only [Option.bind_some]
  by_cases hv : vld l = true
  · have hl := vld_len hv
    rw [if_pos hv]
    by_cases hf : frm ⟨a, b, c, d, e⟩ = true
    · rw [if_pos hf]
      by_cases h0 : me < 0
      · rw [if_pos h0, if_neg (by omega)]; simp [queue_Put.j0]
      · rw [if_neg h0]
        by_cases h1 : me ≥ 60
        · rw [if_neg (by omega)]; simp [queue_Put.j0, h1]
        · rw [if_pos ⟨hv, hf, by omega, by omega⟩]
          simp only [queue_Put.j0, name_eq, find_eq, Option.bind_some]
          rw [if_neg (by simpa using h1)]
          by_cases h2 : qidx l a b ≥ 0
          · rw [if_pos h2, if_pos h2]
          · rw [if_neg h2, if_neg h2]
            have ht : (l.take ((l.length : Int)).toNat) = l := by simp
            by_cases h3 : (l.length : Int) = 16
            · rw [if_pos h3, if_pos (by omega)]
            · rw [if_neg h3]
              by_cases h4 : (l.length : Int) ≥ 12
              · rw [if_pos h4]
                by_cases h5 : a = me
                · rw [if_pos h5, if_pos (.inr ⟨by omega, h5⟩)]
                · rw [if_neg h5, if_neg (show ¬ (l.length = 16 ∨ l.length ≥ 12 ∧ a = me) from fun h => h.elim (fun h => h3 (by omega)) (fun h => h5 h.2)), if_pos (by omega), if_pos (by omega)]
                  simp only [Option.bind_some, ht]; rw [if_pos (by omega)]
              · rw [if_neg h4, if_neg (show ¬ (l.length = 16 ∨ l.length ≥ 12 ∧ a = me) from fun h => h.elim (fun h => h3 (by omega)) (fun h => h4 (by omega))), if_pos (by omega), if_pos (by omega)]
                simp only [Option.bind_some, ht]; rw [if_pos (by omega)]
    · rw [if_neg hf, if_neg (fun h => hf h.2.1)]; simp [queue_Put.j0]
  · rw [if_neg hv, if_neg (fun h => hv h.1)]; simp [queue_Put.j0]
def headS (l : List S26) : Int × Int × Int × Int × Int × Bool := if vld l = true ∧ 0 < l.length then ((l.getD 0 z26).f0, (l.getD 0 z26).f1, (l.getD 0 z26).f2, (l.getD 0 z26).f3, (l.getD 0 z26).f4, true) else (0, 0, 0, 0, 0, false)
theorem head_eq (l : List S26) (hn : l.length ≤ 9223372036854775807) (k : Nat) (hk : l.length < k) : queue_Head.f k l = some (headS l) := by
  unfold queue_Head.f headS
  rw [valid_eq l hn k hk]
  simp only [Option.bind_some]
  have h0 : rd_T26 l 0 = l.getD 0 z26 := rdn l 0
  by_cases hv : vld l = true
  · rw [if_pos hv]
    by_cases h : (l.length : Int) = 0
    · rw [if_pos h, if_neg (by omega)]
    · rw [if_neg h, if_pos (by omega), if_pos ⟨hv, by omega⟩, h0]
  · rw [if_neg hv, if_neg (fun h => hv h.1)]
def fullS (l : List S26) : Bool := vld l && decide (14 ≤ l.length)
theorem full_eq (l : List S26) (hn : l.length ≤ 9223372036854775807) (k : Nat) (hk : l.length < k) : queue_Full.f k l = some (fullS l) := by
  unfold queue_Full.f fullS
  rw [valid_eq l hn k hk]
  simp only [Option.bind_some]
  by_cases hv : vld l = true
  · rw [if_pos hv]; simp [hv]; omega
  · rw [if_neg hv]; simp [Bool.eq_false_iff.2 hv]
theorem same_l0 (l m : List S26) (hl : l.length = m.length) (hn : l.length ≤ 9223372036854775807) : ∀ (d k i : Nat), i + d = l.length → d < k → l = m → slotmeshref27_Same.l0 k (i : Int) l m = some true
  | 0, k, i, hd, hk, h => by
    obtain ⟨k, rfl⟩ : ∃ m, k = m + 1 := ⟨k - 1, by omega⟩
    simp only [slotmeshref27_Same.l0]
    rw [if_neg (by omega)]
  | d + 1, k, i, hd, hk, h => by
    obtain ⟨k, rfl⟩ : ∃ m, k = m + 1 := ⟨k - 1, by omega⟩
    simp only [slotmeshref27_Same.l0]
    rw [if_pos (by omega), if_pos (by omega), if_pos (by omega), w1 (n := l.length) (by omega) hn, same_l0 l m hl hn d k (i + 1) (by omega) (by omega) h]
    subst h
    rw [if_neg (by simp)]
theorem same_eq (l : List S26) (hn : l.length ≤ 9223372036854775807) (k : Nat) (hk : l.length < k) : slotmeshref27_Same.f k l l = some true := by
  unfold slotmeshref27_Same.f
  rw [if_pos rfl]
  exact same_l0 l l rfl hn l.length k 0 (by omega) hk rfl
/-! ### what a valid queue is -/
theorem fidx_spec {α : Type} (p : α → Bool) (d : α) : ∀ (l : List α) (i : Int), (fidx p l i = -1 ∧ ∀ x ∈ l, p x = false) ∨ ∃ n, n < l.length ∧ fidx p l i = i + n ∧ p (l.getD n d) = true ∧ ∀ j, j < n → p (l.getD j d) = false
  | [], i => .inl ⟨rfl, fun x h => by simp at h⟩
  | x :: t, i => by
    by_cases h : p x = true
    · exact .inr ⟨0, by simp, by simp [fidx, h], by simpa using h, fun j hj => absurd hj (Nat.not_lt_zero _)⟩
    · rcases fidx_spec p d t (i + 1) with ⟨h1, h2⟩ | ⟨n, h1, h2, h3, h4⟩
      · refine .inl ⟨by simp [fidx, h, h1], fun y hy => ?_⟩
        rcases List.mem_cons.1 hy with rfl | hy
        · exact Bool.eq_false_iff.2 h
        · exact h2 y hy
      · refine .inr ⟨n + 1, by simpa using h1, by simp [fidx, h, h2]; omega, by simpa using h3, fun j hj => ?_⟩
        cases j with
        | zero => simpa using Bool.eq_false_iff.2 h
        | succ j => simpa using h4 j (by omega)
def Nd (l : List S26) : Prop := l.Pairwise (fun x y => ¬ (x.f0 = y.f0 ∧ x.f1 = y.f1))
def VP (l : List S26) : Prop := (∀ x ∈ l, frm x = true) ∧ Nd l ∧ l.length ≤ 16
theorem getD_eq (l : List S26) (i : Nat) (h : i < l.length) : l.getD i z26 = l[i] := by simp [List.getD_eq_getElem?_getD, h]
theorem qidx_neg {l : List S26} {a b : Int} : qidx l a b < 0 ↔ ∀ x ∈ l, nm26 a b x = false := by
  unfold qidx
  rcases fidx_spec (nm26 a b) z26 l 0 with ⟨h1, h2⟩ | ⟨n, h1, h2, h3, h4⟩
  · rw [h1]; exact ⟨fun _ => h2, fun _ => by omega⟩
  · rw [h2]
    refine ⟨fun h => by omega, fun h => ?_⟩
    rw [getD_eq l n h1] at h3
    rw [h _ (List.getElem_mem h1)] at h3
    cases h3
theorem vld_iff (l : List S26) : vld l = true ↔ VP l := by
  unfold vld VP
  rw [Bool.and_eq_true, List.all_eq_true, decide_eq_true_iff]
  have key : (∀ i ∈ List.range' 0 l.length, vat l i = true) ↔ (∀ x ∈ l, frm x = true) ∧ Nd l := by
    constructor
    · intro h
      have hv : ∀ i (hi : i < l.length), frm l[i] = true ∧ qidx l l[i].f0 l[i].f1 = (i : Int) := fun i hi => by
        have := h i (List.mem_range'.2 ⟨i, by omega, by omega⟩)
        rw [vat, getD_eq l i hi, Bool.and_eq_true, decide_eq_true_iff] at this
        exact this
      refine ⟨fun x hx => ?_, List.pairwise_iff_getElem.2 fun i j hi hj hij hn => ?_⟩
      · obtain ⟨i, hi, rfl⟩ := List.mem_iff_getElem.1 hx
        exact (hv i hi).1
      · have h1 := (hv i hi).2
        have h2 := (hv j hj).2
        rw [hn.1, hn.2, h2] at h1
        omega
    · rintro ⟨hf, hn⟩ i hi
      obtain ⟨j, hj, rfl⟩ := List.mem_range'.1 hi
      have hj' : 0 + 1 * j < l.length := by omega
      generalize 0 + 1 * j = i at hj' ⊢
      rw [vat, getD_eq l i hj', Bool.and_eq_true, decide_eq_true_iff]
      refine ⟨hf _ (List.getElem_mem hj'), ?_⟩
      unfold qidx
      rw [fidx_hit (nm26 l[i].f0 l[i].f1) z26 l 0 i hj' (fun m hm => ?_) (by rw [getD_eq l i hj']; simp [nm26])]
      · omega
      · rw [getD_eq l m (by omega)]
        have := List.pairwise_iff_getElem.1 hn m i (by omega) hj' hm
        simpa [nm26] using this
  rw [key]
  exact ⟨fun ⟨⟨a, b⟩, c⟩ => ⟨a, b, c⟩, fun ⟨a, b, c⟩ => ⟨⟨a, b⟩, c⟩⟩
/-- Without the reading of a name. -/
def out26 (a b : Int) (l : List S26) : List S26 := l.filter (fun x => !nm26 a b x)
theorem out_of_none {l : List S26} {a b : Int} (h : ∀ x ∈ l, nm26 a b x = false) : out26 a b l = l := by
  unfold out26
  rw [List.filter_eq_self]
  intro x hx; simp [h x hx]
theorem out_at {l : List S26} {a b : Int} (hn : Nd l) (n : Nat) (hl : n < l.length) (h : nm26 a b (l.getD n z26) = true) : out26 a b l = l.take n ++ l.drop (n + 1) := by
  have hp := List.pairwise_iff_getElem.1 hn
  have hother : ∀ j (hj : j < l.length), j ≠ n → nm26 a b l[j] = false := fun j hj hne => by
    rw [getD_eq l n hl, nm_iff] at h
    apply Bool.eq_false_iff.2
    intro hc
    rw [nm_iff] at hc
    rcases Nat.lt_or_gt_of_ne hne with hlt | hgt
    · exact hp j n hj hl hlt ⟨hc.1.trans h.1.symm, hc.2.trans h.2.symm⟩
    · exact hp n j hl hj hgt ⟨h.1.trans hc.1.symm, h.2.trans hc.2.symm⟩
  conv => lhs; rw [← List.take_append_drop n l, drop_cons_getD l n z26 hl]
  unfold out26
  rw [List.filter_append, List.filter_cons, h]
  simp only [Bool.not_true, Bool.false_eq_true, if_false]
  congr 1
  · rw [List.filter_eq_self]
    intro x hx
    obtain ⟨j, hj, rfl⟩ := List.mem_iff_getElem.1 hx
    rw [List.length_take] at hj
    rw [List.getElem_take, hother j (by omega) (by omega)]; rfl
  · rw [List.filter_eq_self]
    intro x hx
    obtain ⟨j, hj, rfl⟩ := List.mem_iff_getElem.1 hx
    rw [List.length_drop] at hj
    rw [List.getElem_drop, hother (n + 1 + j) (by omega) (by omega)]; rfl
/-! ### drop -/
def dropS (l : List S26) (a b : Int) : List S26 := if vld l = true then out26 a b l else []
theorem drop_eq (l : List S26) (a b : Int) (hn : l.length ≤ 9223372036854775807) (k : Nat) (hk : l.length < k) : queue_Drop.f k l a b = some (dropS l a b) := by
  unfold queue_Drop.f dropS
  rw [valid_eq l hn k hk]
  simp only [Option.bind_some, find_eq]
  by_cases hv : vld l = true
  · rw [if_pos hv, if_pos hv]
    have hV := (vld_iff l).1 hv
    have hlen := hV.2.2
    by_cases h0 : qidx l a b < 0
    · rw [if_pos h0, out_of_none (qidx_neg.1 h0)]
      simp only [api_Reading_28.f]
      rw [if_pos (by omega)]; rfl
    · rw [if_neg h0]
      rcases fidx_spec (nm26 a b) z26 l 0 with ⟨h1, h2⟩ | ⟨n, h1, h2, h3, h4⟩
      · exact absurd (show qidx l a b < 0 by unfold qidx; rw [h1]; omega) h0
      · have hq : qidx l a b = (n : Int) := by unfold qidx; rw [h2]; omega
        rw [hq, out_at hV.2.1 n h1 h3, if_pos (by omega), if_pos (by omega), w1 h1 hn, if_pos (by omega), if_pos (by omega)]
        simp only [api_Reading_29.f, Int.toNat_natCast]
        rw [if_pos (by simp; omega)]
        simp
  · rw [if_neg hv, if_neg hv]
end Go.Proofs.Ytcjnjgafhfkegaa.Px
