/- Plain facts on the functions of package cells and of its reference, over numbers and lists alone. -/
import Derived.Test.YtbpfbdljcdcgnaaPx23
import Derived.Test.YtbpfbdljcdcgnaaPx19
import Derived.Test.YtbpfbdljcdcgnaaPx22
import Derived.Test.YtbpfbdljcdcgnaaPx21
import Derived.Test.YtbpfbdljcdcgnaaPx20
import Derived.Test.YtbpfbdljcdcgnaaPx16
import Derived.Test.YtbpfbdljcdcgnaaPx18
namespace Go.Proofs.Ytbpfbdljcdcgnaa.Px
open Go.RowKit Go.Proofs.YtbpfbdljcdcgnaaW.PrintWords Go.Proofs.YtbpfbdljcdcgnaaW.PrintLast Go.Proofs.YtbpfbdljcdcgnaaW.PrintMore
set_option linter.unusedVariables false
set_option linter.unusedSimpArgs false
namespace Spec
theorem few_eq (l0 : List S32) (l1 : List S34) (l2 : List S51) : slotmeshref12_Few.f l0 l1 l2 = some (decide (l0.length ≤ 70 ∧ l1.length ≤ 70 ∧ l2.length ≤ 70)) := by
  unfold slotmeshref12_Few.f
  by_cases h : (l0.length : Int) ≤ 70
  · rw [if_pos h]
    by_cases h1 : (l1.length : Int) ≤ 70
    · rw [if_pos h1]; congr 1; rw [Bool.eq_iff_iff, decide_eq_true_iff, decide_eq_true_iff]; omega
    · rw [if_neg h1]; congr 1; symm; exact decide_eq_false (by omega)
  · rw [if_neg h]; congr 1; symm; exact decide_eq_false (by omega)
theorem next_eq (i : Nat) (h : i ≤ 100000) : wrap64 ((i : Int) + 1) = ((i + 1 : Nat) : Int) := by unfold wrap64; omega
theorem same_l2 (a : List S32) (b : List S34) (c : List S51) (hc : c.length ≤ 1000) : ∀ (m i k : Nat), c.length = i + m → m < k → slotmeshref12_Same.l2 k (i : Int) a b c a b c = some true
  | 0, i, 0, _, h => absurd h (by omega)
  | 0, i, k + 1, h, _ => by simp only [slotmeshref12_Same.l2]; rw [if_neg (by omega)]
  | m + 1, i, 0, _, h => absurd h (by omega)
  | m + 1, i, k + 1, h, hk => by
    simp only [slotmeshref12_Same.l2]
    rw [if_pos (by omega), if_pos (by omega), if_pos (by omega), if_neg (by simp), next_eq i (by omega)]
    exact same_l2 a b c hc m (i + 1) k (by omega) (by omega)
theorem same_l1 (a : List S32) (b : List S34) (c : List S51) (hb : b.length ≤ 1000) (hc : c.length ≤ 1000) : ∀ (m i k : Nat), b.length = i + m → m + 1001 < k → slotmeshref12_Same.l1 k (i : Int) a b c a b c = some true
  | 0, i, 0, _, h => absurd h (by omega)
  | 0, i, k + 1, h, _ => by simp only [slotmeshref12_Same.l1]; rw [if_neg (by omega)]; exact same_l2 a b c hc c.length 0 k (by omega) (by omega)
  | m + 1, i, 0, _, h => absurd h (by omega)
  | m + 1, i, k + 1, h, hk => by
    simp only [slotmeshref12_Same.l1]
    rw [if_pos (by omega), if_pos (by omega), if_pos (by omega), if_neg (by simp), next_eq i (by omega)]
    exact same_l1 a b c hb hc m (i + 1) k (by omega) (by omega)
theorem same_l0 (a : List S32) (b : List S34) (c : List S51) (ha : a.length ≤ 1000) (hb : b.length ≤ 1000) (hc : c.length ≤ 1000) : ∀ (m i k : Nat), a.length = i + m → m + 2003 < k → slotmeshref12_Same.l0 k (i : Int) a b c a b c = some true
  | 0, i, 0, _, h => absurd h (by omega)
  | 0, i, k + 1, h, _ => by simp only [slotmeshref12_Same.l0]; rw [if_neg (by omega)]; exact same_l1 a b c hb hc b.length 0 k (by omega) (by omega)
  | m + 1, i, 0, _, h => absurd h (by omega)
  | m + 1, i, k + 1, h, hk => by
    simp only [slotmeshref12_Same.l0]
    rw [if_pos (by omega), if_pos (by omega), if_pos (by omega), if_neg (by simp), next_eq i (by omega)]
    exact same_l0 a b c ha hb hc m (i + 1) k (by omega) (by omega)
/-- A table is the same as itself. -/
theorem same_refl (a : List S32) (b : List S34) (c : List S51) (ha : a.length ≤ 1000) (hb : b.length ≤ 1000) (hc : c.length ≤ 1000) (k : Nat) (hk : 4000 ≤ k) : slotmeshref12_Same.f k a b c a b c = some true := by
  unfold slotmeshref12_Same.f
  rw [if_pos rfl, if_pos rfl, show ((c.length : Int) != (c.length : Int)) = false by simp]
  obtain ⟨j, rfl⟩ : ∃ j, k = j + 1 := ⟨k - 1, by omega⟩
  simp only [slotmeshref12_Same.j0]
  rw [if_neg (by decide)]
  exact same_l0 a b c ha hb hc a.length 0 j (by omega) (by omega)
def keepU (n : Int) (l : List S34) : List S34 := l.filter fun x => !ecl34 n x
theorem expire_eq (l0 : List S32) (l1 : List S34) (l2 : List S51) (n : Int) (h0 : l0.length ≤ 1000) (h1 : l1.length ≤ 1000) (h2 : l2.length ≤ 1000) : cells_Expire.f l0 l1 l2 n = some (l0, keepU n l1, l2) := by
  unfold cells_Expire.f; rw [if_pos (by omega)]; rfl
theorem keepU_len (n : Int) (l : List S34) : (keepU n l).length ≤ l.length := List.length_filter_le _ _
theorem drop_eq (l0 : List S32) (l1 : List S34) (l2 : List S51) (a b : Int) (h0 : l0.length ≤ 1000) (h1 : l1.length ≤ 1000) (h2 : l2.length ≤ 1000) : cells_Drop.f l0 l1 l2 a b = some (l0.filter (fun x => !dcl32 a b x), l1.filter (fun x => !dcl34 a b x), l2.filter (fun x => !dcl51 a b x)) := by
  unfold cells_Drop.f; rw [if_pos (by omega)]
/-! ### the place of an entry -/
theorem fidx_any {α : Type} (p : α → Bool) (l : List α) : decide (0 ≤ fidx p l 0) = l.any p := by
  have key : ∀ (l : List α) (i : Int), 0 ≤ i → (0 ≤ fidx p l i ↔ l.any p = true) := by
    intro l
    induction l with
    | nil => intro i _; simp [fidx]
    | cons x t ih =>
      intro i hi
      unfold fidx
      by_cases h : p x = true
      · rw [if_pos h]; simp [h, hi]
      · rw [if_neg h, ih (i + 1) (by omega)]; simp [h]
  rw [Bool.eq_iff_iff, decide_eq_true_iff]
  exact key l 0 (Int.le_refl _)
def at0 {α : Type} (p : α → Bool) (l : List α) : Nat := if fidx p l 0 < 0 then l.length else (fidx p l 0).toNat
theorem at0_spec {α : Type} (p : α → Bool) (l : List α) : at0 p l ≤ l.length ∧ (∀ y ∈ l.take (at0 p l), p y = false) ∧ (∀ h : at0 p l < l.length, p l[at0 p l] = true) := by
  have key : ∀ (l : List α) (i : Int), 0 ≤ i → (fidx p l i = -1 ∧ ∀ y ∈ l, p y = false) ∨ (∃ n : Nat, fidx p l i = i + n ∧ ∃ h : n < l.length, (∀ y ∈ l.take n, p y = false) ∧ p l[n] = true) := by
    intro l
    induction l with
    | nil => intro i _; exact .inl ⟨rfl, fun y hy => absurd hy (by simp)⟩
    | cons x t ih =>
      intro i hi
      unfold fidx
      by_cases h : p x = true
      · rw [if_pos h]; exact .inr ⟨0, by simp, by simp, by simp, h⟩
      · rw [if_neg h]
        have hx : p x = false := by simpa using h
        rcases ih (i + 1) (by omega) with ⟨h1, h2⟩ | ⟨n, h1, h2, h3, h4⟩
        · refine .inl ⟨h1, fun y hy => ?_⟩
          rcases List.mem_cons.1 hy with rfl | hy
          · exact hx
          · exact h2 y hy
        · refine .inr ⟨n + 1, by rw [h1]; omega, by simpa using h2, fun y hy => ?_, by simpa using h4⟩
          rw [List.take_succ_cons] at hy
          rcases List.mem_cons.1 hy with rfl | hy
          · exact hx
          · exact h3 y hy
  unfold at0
  rcases key l 0 (Int.le_refl _) with ⟨h1, h2⟩ | ⟨n, h1, h2, h3, h4⟩
  · rw [h1, if_pos (by omega)]
    refine ⟨Nat.le_refl _, fun y hy => h2 y (List.mem_of_mem_take hy), fun h => absurd h (Nat.lt_irrefl _)⟩
  · rw [h1, if_neg (by omega)]
    have e : (0 + (n : Int)).toNat = n := by omega
    rw [e]
    exact ⟨Nat.le_of_lt h2, h3, fun _ => h4⟩
def insG {α : Type} (p : α → Bool) (x : α) (l : List α) : List α := l.take (at0 p l) ++ x :: l.drop (at0 p l)
theorem insG_perm {α : Type} (p : α → Bool) (x : α) (l : List α) : (insG p x l).Perm (x :: l) := by
  have h : (insG p x l).Perm (x :: (l.take (at0 p l) ++ l.drop (at0 p l))) := List.perm_middle
  rwa [List.take_append_drop] at h
theorem insG_len {α : Type} (p : α → Bool) (x : α) (l : List α) : (insG p x l).length = l.length + 1 := (insG_perm p x l).length_eq
theorem insG_mem {α : Type} {p : α → Bool} {x : α} {l : List α} {y : α} : y ∈ insG p x l ↔ y = x ∨ y ∈ l := by
  rw [(insG_perm p x l).mem_iff, List.mem_cons]
theorem insG_sorted {α : Type} (σ : α → Int) (x : α) (l : List α) (hs : l.Pairwise (fun a b => σ a < σ b)) (hx : ∀ y ∈ l, σ y ≠ σ x) : (insG (fun y => decide (σ x < σ y)) x l).Pairwise (fun a b => σ a < σ b) := by
  obtain ⟨h1, h2, h3⟩ := at0_spec (fun y => decide (σ x < σ y)) l
  have hlo : ∀ a ∈ l.take (at0 (fun y => decide (σ x < σ y)) l), σ a < σ x := fun a ha => by
    have e1 := h2 a ha
    have e2 := hx a (List.mem_of_mem_take ha)
    have e3 : ¬ σ x < σ a := by simpa using e1
    omega
  have hhi : ∀ b ∈ l.drop (at0 (fun y => decide (σ x < σ y)) l), σ x < σ b := fun b hb => by
    by_cases hl : at0 (fun y => decide (σ x < σ y)) l < l.length
    · have e1 := h3 hl
      have e2 : σ x < σ l[at0 (fun y => decide (σ x < σ y)) l] := by simpa using e1
      have hd := hs.sublist (List.drop_sublist (at0 (fun y => decide (σ x < σ y)) l) l)
      rw [List.drop_eq_getElem_cons hl] at hd hb
      rcases List.mem_cons.1 hb with rfl | hb
      · exact e2
      · have := (List.pairwise_cons.1 hd).1 b hb; omega
    · rw [List.drop_of_length_le (by omega)] at hb; exact absurd hb (by simp)
  unfold insG
  rw [List.pairwise_append]
  refine ⟨hs.sublist (List.take_sublist _ _), List.pairwise_cons.2 ⟨hhi, hs.sublist (List.drop_sublist _ _)⟩, fun a ha b hb => ?_⟩
  have ha' := hlo a ha
  rcases List.mem_cons.1 hb with rfl | hb
  · exact ha'
  · have := hhi b hb; omega
def s32 (x : S32) : Int := x.f0.f0
def s34 (x : S34) : Int := x.f0.f0
def s51 (x : S51) : Int := x.f0.f0
def i32 (x : S32) (l : List S32) : List S32 := insG (fun y => decide (s32 x < s32 y)) x l
def i34 (x : S34) (l : List S34) : List S34 := insG (fun y => decide (s34 x < s34 y)) x l
def un (s : Int) (l : List S51) : List S51 := l.filter fun z => !slot51 s z
theorem un_len (s : Int) (l : List S51) : (un s l).length ≤ l.length := List.length_filter_le _ _
theorem valid_eq (l0 : List S32) (l1 : List S34) (l2 : List S51) (a b : Int) (h0 : l0.length ≤ 1000) (h1 : l1.length ≤ 1000) (h2 : l2.length ≤ 1000) : cells_Valid.f l0 l1 l2 a b = some (validB l0 l1 l2 a b) := by
  unfold cells_Valid.f; rw [if_pos (by omega)]
theorem addU_eq (l0 : List S32) (l1 : List S34) (l2 : List S51) (a b : Int) (x : S32) (h0 : l0.length ≤ 1000) (h1 : l1.length ≤ 1000) (h2 : l2.length ≤ 1000) :
    addB32 l0 l1 l2 a b x = if refB l0 l1 l2 a b (v32 a b x) x.f0.f0 = 0 then some (i32 x l0, l1, un x.f0.f0 l2, 0) else some ([], [], [], refB l0 l1 l2 a b (v32 a b x) x.f0.f0) := by
  unfold addB32; rw [if_pos (by omega)]; rfl
theorem addG_eq (l0 : List S32) (l1 : List S34) (l2 : List S51) (a b : Int) (x : S34) (h0 : l0.length ≤ 1000) (h1 : l1.length ≤ 1000) (h2 : l2.length ≤ 1000) :
    addB34 l0 l1 l2 a b x = if refB l0 l1 l2 a b (v34 a b x) x.f0.f0 = 0 then some (l0, i34 x l1, un x.f0.f0 l2, 0) else some ([], [], [], refB l0 l1 l2 a b (v34 a b x) x.f0.f0) := by
  unfold addB34; rw [if_pos (by omega)]; rfl
/-! ### validity -/
theorem snd32_iff {n d : Int} : ∀ {last : Int} {l : List S32}, snd32 n d last l = true ↔ (∀ x ∈ l, v32 n d x = true) ∧ (∀ x ∈ l, last < s32 x) ∧ l.Pairwise (fun a b => s32 a < s32 b)
  | last, [] => by simp [snd32]
  | last, x :: t => by
    have e : snd32 n d last (x :: t) = (v32 n d x && decide (last < x.f0.f0) && snd32 n d x.f0.f0 t) := rfl
    rw [e, Bool.and_eq_true, Bool.and_eq_true, snd32_iff, decide_eq_true_iff, List.pairwise_cons]
    constructor
    · rintro ⟨⟨h1, h2⟩, h3, h4, h5⟩
      refine ⟨fun y hy => ?_, fun y hy => ?_, h4, h5⟩
      · rcases List.mem_cons.1 hy with rfl | hy
        · exact h1
        · exact h3 y hy
      · rcases List.mem_cons.1 hy with rfl | hy
        · exact h2
        · have := h4 y hy; unfold s32 at *; omega
    · rintro ⟨h1, h2, h3, h4⟩
      exact ⟨⟨h1 x (by simp), h2 x (by simp)⟩, fun y hy => h1 y (by simp [hy]), h3, h4⟩
theorem snd34_iff {n d : Int} : ∀ {last : Int} {l : List S34}, snd34 n d last l = true ↔ (∀ x ∈ l, v34 n d x = true) ∧ (∀ x ∈ l, last < s34 x) ∧ l.Pairwise (fun a b => s34 a < s34 b)
  | last, [] => by simp [snd34]
  | last, x :: t => by
    have e : snd34 n d last (x :: t) = (v34 n d x && decide (last < x.f0.f0) && snd34 n d x.f0.f0 t) := rfl
    rw [e, Bool.and_eq_true, Bool.and_eq_true, snd34_iff, decide_eq_true_iff, List.pairwise_cons]
    constructor
    · rintro ⟨⟨h1, h2⟩, h3, h4, h5⟩
      refine ⟨fun y hy => ?_, fun y hy => ?_, h4, h5⟩
      · rcases List.mem_cons.1 hy with rfl | hy
        · exact h1
        · exact h3 y hy
      · rcases List.mem_cons.1 hy with rfl | hy
        · exact h2
        · have := h4 y hy; unfold s34 at *; omega
    · rintro ⟨h1, h2, h3, h4⟩
      exact ⟨⟨h1 x (by simp), h2 x (by simp)⟩, fun y hy => h1 y (by simp [hy]), h3, h4⟩
theorem snd51_iff {n d : Int} : ∀ {last : Int} {l : List S51}, snd51 n d last l = true ↔ (∀ x ∈ l, v51 n d x = true) ∧ (∀ x ∈ l, last < s51 x) ∧ l.Pairwise (fun a b => s51 a < s51 b)
  | last, [] => by simp [snd51]
  | last, x :: t => by
    have e : snd51 n d last (x :: t) = (v51 n d x && decide (last < x.f0.f0) && snd51 n d x.f0.f0 t) := rfl
    rw [e, Bool.and_eq_true, Bool.and_eq_true, snd51_iff, decide_eq_true_iff, List.pairwise_cons]
    constructor
    · rintro ⟨⟨h1, h2⟩, h3, h4, h5⟩
      refine ⟨fun y hy => ?_, fun y hy => ?_, h4, h5⟩
      · rcases List.mem_cons.1 hy with rfl | hy
        · exact h1
        · exact h3 y hy
      · rcases List.mem_cons.1 hy with rfl | hy
        · exact h2
        · have := h4 y hy; unfold s51 at *; omega
    · rintro ⟨h1, h2, h3, h4⟩
      exact ⟨⟨h1 x (by simp), h2 x (by simp)⟩, fun y hy => h1 y (by simp [hy]), h3, h4⟩
theorem dupfree_iff (ss : List Int) : dupfree ss = true ↔ ss.Nodup := by
  rw [List.nodup_iff_count]
  unfold dupfree
  rw [List.all_eq_true]
  constructor
  · intro h a
    by_cases ha : a ∈ ss
    · exact of_decide_eq_true (h a ha)
    · rw [List.count_eq_zero_of_not_mem ha]; omega
  · intro h s _; exact decide_eq_true (h s)
structure Good (l0 : List S32) (l1 : List S34) (l2 : List S51) (n d : Int) : Prop where
  n1 : 1 ≤ n
  n2 : n ≤ 60
  d1 : 1 ≤ d
  d2 : d ≤ 60
  len : l0.length + l1.length ≤ 24
  len2 : l2.length ≤ 24
  u : ∀ x ∈ l0, v32 n d x = true
  g : ∀ x ∈ l1, v34 n d x = true
  a : ∀ x ∈ l2, v51 n d x = true
  us : l0.Pairwise (fun a b => s32 a < s32 b)
  gs : l1.Pairwise (fun a b => s34 a < s34 b)
  ks : l2.Pairwise (fun a b => s51 a < s51 b)
  nd : (slotsOf l0 l1 l2).Nodup
theorem valid_iff (l0 : List S32) (l1 : List S34) (l2 : List S51) (n d : Int) : validB l0 l1 l2 n d = true ↔ Good l0 l1 l2 n d := by
  constructor
  · intro h
    unfold validB at h
    by_cases c0 : n < 1
    · rw [if_pos c0] at h; cases h
    by_cases c1 : 60 < n
    · rw [if_neg c0, if_pos c1] at h; cases h
    by_cases c2 : d < 1
    · rw [if_neg c0, if_neg c1, if_pos c2] at h; cases h
    by_cases c3 : 60 < d
    · rw [if_neg c0, if_neg c1, if_neg c2, if_pos c3] at h; cases h
    by_cases c4 : 24 < (l0.length : Int) + (l1.length : Int)
    · rw [if_neg c0, if_neg c1, if_neg c2, if_neg c3, if_pos c4] at h; cases h
    by_cases c5 : 24 < (l2.length : Int)
    · rw [if_neg c0, if_neg c1, if_neg c2, if_neg c3, if_neg c4, if_pos c5] at h; cases h
    rw [if_neg c0, if_neg c1, if_neg c2, if_neg c3, if_neg c4, if_neg c5] at h
    cases e0 : snd32 n d (-1) l0
    · rw [if_pos e0] at h; cases h
    cases e1 : snd34 n d (-1) l1
    · rw [if_neg (by rw [e0]; decide), if_pos e1] at h; cases h
    cases e2 : snd51 n d (-1) l2
    · rw [if_neg (by rw [e0]; decide), if_neg (by rw [e1]; decide), if_pos e2] at h; cases h
    rw [if_neg (by rw [e0]; decide), if_neg (by rw [e1]; decide), if_neg (by rw [e2]; decide)] at h
    obtain ⟨a1, _, a3⟩ := snd32_iff.1 e0
    obtain ⟨b1, _, b3⟩ := snd34_iff.1 e1
    obtain ⟨g1, _, g3⟩ := snd51_iff.1 e2
    exact ⟨by omega, by omega, by omega, by omega, by omega, by omega, a1, b1, g1, a3, b3, g3, (dupfree_iff _).1 h⟩
  · intro h
    obtain ⟨n1, n2, d1, d2, len, len2, u, g, a, us, gs, ks, nd⟩ := h
    have e0 : snd32 n d (-1) l0 = true := snd32_iff.2 ⟨u, fun x hx => by have := (v32_slot (u x hx)).1; unfold s32; omega, us⟩
    have e1 : snd34 n d (-1) l1 = true := snd34_iff.2 ⟨g, fun x hx => by have := (v34_slot (g x hx)).1; unfold s34; omega, gs⟩
    have e2 : snd51 n d (-1) l2 = true := snd51_iff.2 ⟨a, fun x hx => by have := (v51_slot (a x hx)).1; unfold s51; omega, ks⟩
    unfold validB
    rw [if_neg (by omega), if_neg (by omega), if_neg (by omega), if_neg (by omega), if_neg (by omega), if_neg (by omega), if_neg (by rw [e0]; decide), if_neg (by rw [e1]; decide), if_neg (by rw [e2]; decide)]
    exact (dupfree_iff _).2 nd
theorem busy_iff (l0 : List S32) (l1 : List S34) (s : Int) : busyB l0 l1 s = true ↔ (∃ x ∈ l0, s32 x = s) ∨ (∃ x ∈ l1, s34 x = s) := by
  unfold busyB
  rw [fidx_any, fidx_any, Bool.or_eq_true, List.any_eq_true, List.any_eq_true]
  unfold slot32 slot34 s32 s34
  simp only [beq_iff_eq]
theorem busy_not {l0 : List S32} {l1 : List S34} {s : Int} (h : busyB l0 l1 s = false) : (∀ x ∈ l0, s32 x ≠ s) ∧ (∀ x ∈ l1, s34 x ≠ s) := by
  have h2 : ¬ busyB l0 l1 s = true := by rw [h]; decide
  rw [busy_iff, not_or] at h2
  exact ⟨fun x hx e => h2.1 ⟨x, hx, e⟩, fun x hx e => h2.2 ⟨x, hx, e⟩⟩
theorem not_busy {l0 : List S32} {l1 : List S34} {s : Int} (h0 : ∀ x ∈ l0, s32 x ≠ s) (h1 : ∀ x ∈ l1, s34 x ≠ s) : busyB l0 l1 s = false := by
  cases h : busyB l0 l1 s
  · rfl
  · rcases (busy_iff _ _ _).1 h with ⟨x, hx, e⟩ | ⟨x, hx, e⟩
    · exact absurd e (h0 x hx)
    · exact absurd e (h1 x hx)
theorem ref_zero {l0 : List S32} {l1 : List S34} {l2 : List S51} {n d : Int} {v : Bool} {s : Int} (h : refB l0 l1 l2 n d v s = 0) : Good l0 l1 l2 n d ∧ v = true ∧ busyB l0 l1 s = false ∧ l0.length + l1.length < 24 := by
  unfold refB at h
  cases h0 : validB l0 l1 l2 n d
  · rw [if_pos h0] at h; omega
  rw [if_neg (by rw [h0]; decide)] at h
  cases v
  · rw [if_pos rfl] at h; omega
  rw [if_neg (by decide)] at h
  cases hb : busyB l0 l1 s
  · rw [if_neg (by rw [hb]; decide)] at h
    by_cases hf : 24 ≤ (l0.length : Int) + (l1.length : Int)
    · rw [if_pos hf] at h; omega
    · exact ⟨(valid_iff _ _ _ _ _).1 h0, rfl, rfl, by omega⟩
  · rw [if_pos hb] at h; omega
theorem zero_ref {l0 : List S32} {l1 : List S34} {l2 : List S51} {n d : Int} {v : Bool} {s : Int} (h : Good l0 l1 l2 n d) (hv : v = true) (hb : busyB l0 l1 s = false) (hl : l0.length + l1.length < 24) : refB l0 l1 l2 n d v s = 0 := by
  unfold refB
  rw [if_neg (by rw [(valid_iff _ _ _ _ _).2 h]; decide), if_neg (by rw [hv]; decide), if_neg (by rw [hb]; decide), if_neg (by omega)]
theorem un_mem {s : Int} {l : List S51} {x : S51} : x ∈ un s l ↔ x ∈ l ∧ s51 x ≠ s := by
  unfold un slot51 s51
  rw [List.mem_filter]; simp
theorem un_sub (s : Int) (l : List S51) : (un s l).Sublist l := List.filter_sublist
theorem mem_slots {l0 : List S32} {l1 : List S34} {l2 : List S51} {s : Int} : s ∈ slotsOf l0 l1 l2 ↔ (∃ x ∈ l0, s32 x = s) ∨ (∃ x ∈ l1, s34 x = s) ∨ (∃ x ∈ l2, s51 x = s) := by
  unfold slotsOf s32 s34 s51
  simp only [List.mem_append, List.mem_map, or_assoc]
theorem goodU {l0 : List S32} {l1 : List S34} {l2 : List S51} {n d : Int} {x : S32} (h : Good l0 l1 l2 n d) (hv : v32 n d x = true) (hb : busyB l0 l1 x.f0.f0 = false) (hl : l0.length + l1.length < 24) : Good (i32 x l0) l1 (un x.f0.f0 l2) n d := by
  obtain ⟨b0, b1⟩ := busy_not hb
  have hlen : (i32 x l0).length = l0.length + 1 := insG_len _ _ _
  have hu := un_len x.f0.f0 l2
  refine ⟨h.n1, h.n2, h.d1, h.d2, by omega, Nat.le_trans hu h.len2, fun y hy => ?_, h.g, fun y hy => h.a y (un_mem.1 hy).1, insG_sorted s32 x l0 h.us b0, h.gs, h.ks.sublist (un_sub _ _), ?_⟩
  · rcases insG_mem.1 hy with rfl | hy
    · exact hv
    · exact h.u y hy
  · have hp : (slotsOf (i32 x l0) l1 (un x.f0.f0 l2)).Perm (x.f0.f0 :: slotsOf l0 l1 (un x.f0.f0 l2)) := by
      unfold slotsOf
      exact (((insG_perm _ x l0).map _).append_right _).append_right _
    rw [hp.nodup_iff, List.nodup_cons]
    refine ⟨fun hm => ?_, h.nd.sublist ((List.Sublist.refl _).append ((un_sub _ _).map _))⟩
    rcases mem_slots.1 hm with ⟨y, hy, e⟩ | ⟨y, hy, e⟩ | ⟨y, hy, e⟩
    · exact b0 y hy e
    · exact b1 y hy e
    · exact (un_mem.1 hy).2 e
theorem goodG {l0 : List S32} {l1 : List S34} {l2 : List S51} {n d : Int} {x : S34} (h : Good l0 l1 l2 n d) (hv : v34 n d x = true) (hb : busyB l0 l1 x.f0.f0 = false) (hl : l0.length + l1.length < 24) : Good l0 (i34 x l1) (un x.f0.f0 l2) n d := by
  obtain ⟨b0, b1⟩ := busy_not hb
  have hlen : (i34 x l1).length = l1.length + 1 := insG_len _ _ _
  have hu := un_len x.f0.f0 l2
  refine ⟨h.n1, h.n2, h.d1, h.d2, by omega, Nat.le_trans hu h.len2, h.u, fun y hy => ?_, fun y hy => h.a y (un_mem.1 hy).1, h.us, insG_sorted s34 x l1 h.gs b1, h.ks.sublist (un_sub _ _), ?_⟩
  · rcases insG_mem.1 hy with rfl | hy
    · exact hv
    · exact h.g y hy
  · have hp : (slotsOf l0 (i34 x l1) (un x.f0.f0 l2)).Perm (x.f0.f0 :: slotsOf l0 l1 (un x.f0.f0 l2)) := by
      unfold slotsOf
      refine List.Perm.trans (((((insG_perm _ x l1).map _).append_left _)).append_right _) ?_
      rw [List.map_cons]
      exact (List.perm_middle (l₁ := l0.map _)).append_right _
    rw [hp.nodup_iff, List.nodup_cons]
    refine ⟨fun hm => ?_, h.nd.sublist ((List.Sublist.refl _).append ((un_sub _ _).map _))⟩
    rcases mem_slots.1 hm with ⟨y, hy, e⟩ | ⟨y, hy, e⟩ | ⟨y, hy, e⟩
    · exact b0 y hy e
    · exact b1 y hy e
    · exact (un_mem.1 hy).2 e
/-- What is left of a valid table is valid. -/
theorem good_sub {l0 m0 : List S32} {l1 m1 : List S34} {l2 m2 : List S51} {n d : Int} (h : Good l0 l1 l2 n d) (h0 : m0.Sublist l0) (h1 : m1.Sublist l1) (h2 : m2.Sublist l2) : Good m0 m1 m2 n d := by
  have e0 := h0.length_le
  have e1 := h1.length_le
  have e2 := h2.length_le
  have := h.len
  have := h.len2
  exact ⟨h.n1, h.n2, h.d1, h.d2, by omega, by omega, fun y hy => h.u y (h0.subset hy), fun y hy => h.g y (h1.subset hy), fun y hy => h.a y (h2.subset hy), h.us.sublist h0, h.gs.sublist h1, h.ks.sublist h2,
    h.nd.sublist (((h0.map _).append (h1.map _)).append (h2.map _))⟩
/-! ### the reference's Busy -/
theorem rbusy_l1 (s : Int) (l0 : List S32) (l1 : List S34) (l2 : List S51) (h1 : l1.length ≤ 1000) : ∀ (m i k : Nat), l1.length = i + m → m < k → slotmeshref12_Busy.l1 k s (i : Int) l0 l1 l2 = some ((l1.drop i).any (slot34 s))
  | 0, i, 0, _, h => absurd h (by omega)
  | 0, i, k + 1, h, _ => by simp only [slotmeshref12_Busy.l1]; rw [if_neg (by omega), List.drop_of_length_le (by omega)]; rfl
  | m + 1, i, 0, _, h => absurd h (by omega)
  | m + 1, i, k + 1, h, hk => by
    have hi : i < l1.length := by omega
    have hx : rd_T34 l1 (i : Int) = l1[i] := by unfold rd_T34; rw [Int.toNat_natCast, List.getD_eq_getElem?_getD, List.getElem?_eq_getElem hi]; rfl
    simp only [slotmeshref12_Busy.l1]
    rw [if_pos (by omega), if_pos (by omega), hx, next_eq i (by omega), List.drop_eq_getElem_cons hi, List.any_cons]
    by_cases e : l1[i].f0.f0 = s
    · rw [if_pos e, show slot34 s l1[i] = true by unfold slot34; simpa using e, Bool.true_or]
    · rw [if_neg e, show slot34 s l1[i] = false by unfold slot34; simpa using e, Bool.false_or]
      exact rbusy_l1 s l0 l1 l2 h1 m (i + 1) k (by omega) (by omega)
theorem rbusy_l0 (s : Int) (l0 : List S32) (l1 : List S34) (l2 : List S51) (h0 : l0.length ≤ 1000) (h1 : l1.length ≤ 1000) : ∀ (m i k : Nat), l0.length = i + m → m + 1001 < k → slotmeshref12_Busy.l0 k s (i : Int) l0 l1 l2 = some ((l0.drop i).any (slot32 s) || l1.any (slot34 s))
  | 0, i, 0, _, h => absurd h (by omega)
  | 0, i, k + 1, h, _ => by
    simp only [slotmeshref12_Busy.l0]
    have e := rbusy_l1 s l0 l1 l2 h1 l1.length 0 k (by omega) (by omega)
    rw [List.drop_zero] at e
    rw [if_neg (by omega), List.drop_of_length_le (by omega), show ((0 : Int)) = ((0 : Nat) : Int) from rfl, e]; rfl
  | m + 1, i, 0, _, h => absurd h (by omega)
  | m + 1, i, k + 1, h, hk => by
    have hi : i < l0.length := by omega
    have hx : rd_T32 l0 (i : Int) = l0[i] := by unfold rd_T32; rw [Int.toNat_natCast, List.getD_eq_getElem?_getD, List.getElem?_eq_getElem hi]; rfl
    simp only [slotmeshref12_Busy.l0]
    rw [if_pos (by omega), if_pos (by omega), hx, next_eq i (by omega), List.drop_eq_getElem_cons hi, List.any_cons]
    by_cases e : l0[i].f0.f0 = s
    · rw [if_pos e, show slot32 s l0[i] = true by unfold slot32; simpa using e]; rfl
    · rw [if_neg e, show slot32 s l0[i] = false by unfold slot32; simpa using e, Bool.false_or]
      exact rbusy_l0 s l0 l1 l2 h0 h1 m (i + 1) k (by omega) (by omega)
theorem rbusy_eq (l0 : List S32) (l1 : List S34) (l2 : List S51) (s : Int) (h0 : l0.length ≤ 1000) (h1 : l1.length ≤ 1000) (k : Nat) (hk : 4000 ≤ k) : slotmeshref12_Busy.f k l0 l1 l2 s = some (busyB l0 l1 s) := by
  unfold slotmeshref12_Busy.f busyB
  rw [fidx_any, fidx_any]
  exact rbusy_l0 s l0 l1 l2 h0 h1 l0.length 0 k (by omega) (by omega)
end Spec
end Go.Proofs.Ytbpfbdljcdcgnaa.Px
