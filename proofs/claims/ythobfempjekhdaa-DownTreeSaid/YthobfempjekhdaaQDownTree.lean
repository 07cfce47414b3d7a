/- DownTree: the pure statement, over numbers and lists alone. -/
import Derived.Test.YthobfempjekhdaaPx13
import Derived.Test.YthobfempjekhdaaSpec
namespace Go.Proofs.Ythobfempjekhdaa.Px
open Go.RowKit Go.Proofs.YthobfempjekhdaaW.PrintWords Go.Proofs.YthobfempjekhdaaW.PrintLast Go.Proofs.YthobfempjekhdaaW.PrintMore
set_option linter.unusedVariables false
set_option linter.unusedSimpArgs false
def slotmeshlaw21_DownTree.Pure : Prop := ∀ (l0 : List Int) (l1 : List Int) (a2 : Int), (l0.length ≤ maxLen ∧ ∀ x5 ∈ l0, (Lit.int .u8 x5).wf = true) → l0.length ≤ 140737488351232 → (l1.length ≤ maxLen ∧ ∀ x43 ∈ l1, (Lit.int .u16 x43).wf = true) → (Lit.int .i64 a2).wf = true → ∃ k, slotmeshlaw21_DownTree.f k l0 l1 a2 = some true
namespace Pure
open Go.Proofs.Ythobfempjekhdaa.Px.Spec (lk at' vld Lok learnS mrg nlk comb nw pick)
theorem at_neg {l : List S35} {t : Int} (h : lk l t = none) : at' l t = -1 := by
  rcases Spec.at_lk l t with ⟨h1, _⟩ | ⟨n, _, _, h2, _⟩
  · exact h1
  · rw [h] at h2; cases h2
theorem at_pos {l : List S35} {t : Int} {x : S35} (h : lk l t = some x) : ∃ n : Nat, n < l.length ∧ at' l t = (n : Int) ∧ l.getD n z35 = x := by
  rcases Spec.at_lk l t with ⟨_, h1⟩ | ⟨n, h0, h1, h2, _⟩
  · rw [h] at h1; cases h1
  · rw [h] at h2; exact ⟨n, h0, h1, (Option.some.inj h2).symm⟩
theorem getD_mem {l : List S35} {i : Nat} (h : i < l.length) : l.getD i z35 ∈ l := by
  rw [List.getD_eq_getElem?_getD, List.getElem?_eq_getElem h]; exact List.getElem_mem h
theorem short_eq (l b : List S35) : slotmeshlaw21_short.f l b = some (decide (l.length ≤ 70 ∧ b.length ≤ 70)) := by
  unfold slotmeshlaw21_short.f
  by_cases h : (l.length : Int) ≤ 70
  · rw [if_pos h]; congr 1; rw [Bool.eq_iff_iff, decide_eq_true_iff, decide_eq_true_iff]; omega
  · rw [if_neg h]; congr 1; symm; exact decide_eq_false (by omega)
theorem tl_srt : ∀ (l : List S35) (b : Int), Spec.Srt b l → Spec.Srt b (l.map Spec.tl)
  | [], _, _ => trivial
  | x :: l, b, h => ⟨h.1, tl_srt l x.f0 h.2⟩
theorem tl_lk (t : Int) : ∀ l : List S35, lk (l.map Spec.tl) t = (lk l t).map Spec.tl
  | [] => rfl
  | x :: l => by
    rw [List.map_cons, Spec.lk_cons, Spec.lk_cons, tl_lk t l]
    by_cases h : x.f0 = t
    · rw [if_pos h, if_pos (show (Spec.tl x).f0 = t from h)]; rfl
    · rw [if_neg h, if_neg (show ¬ (Spec.tl x).f0 = t from h)]
theorem tl_tld {l : List S35} (h : vld l = true) : Spec.tld (-1) (l.map Spec.tl) = true := by
  have h := (Spec.vld_iff l).1 h
  refine Spec.tld_of (tl_srt l _ h.1) fun x hx => ?_
  obtain ⟨y, hy, rfl⟩ := List.mem_map.1 hx
  exact (h.2 y hy).1
/-! A tree by its parents: the way up. -/
def Up (P : Nat → Nat) (x : Nat) : List Nat := if h : 0 < x ∧ P x < x then P x :: Up P (P x) else []
termination_by x
decreasing_by exact h.2
theorem up_pos {P : Nat → Nat} {x : Nat} (h0 : 0 < x) (h1 : P x < x) (a : Nat) : a ∈ Up P x ↔ a = P x ∨ a ∈ Up P (P x) := by
  rw [Up, dif_pos ⟨h0, h1⟩, List.mem_cons]
theorem up_zero {P : Nat → Nat} (a : Nat) : ¬ a ∈ Up P 0 := by
  rw [Up, dif_neg (fun h => by omega)]; exact List.not_mem_nil
structure Tr (P : Nat → Nat) (n : Nat) : Prop where
  lt : ∀ j, 0 < j → j < n → P j < j
theorem up_lt {P : Nat → Nat} {n : Nat} (T : Tr P n) : ∀ (x a : Nat), x < n → a ∈ Up P x → a < x := by
  intro x
  induction x using Nat.strongRecOn with
  | ind x ih =>
    intro a hx ha
    by_cases h0 : 0 < x
    · have h1 := T.lt x h0 hx
      rcases (up_pos h0 h1 a).1 ha with rfl | ha
      · exact h1
      · have := ih (P x) h1 a (by omega) ha; omega
    · obtain rfl : x = 0 := by omega
      exact absurd ha (up_zero a)
theorem up_trans {P : Nat → Nat} {n : Nat} (T : Tr P n) (j a : Nat) (ha : a ∈ Up P j) : ∀ x : Nat, x < n → j ∈ Up P x → a ∈ Up P x := by
  intro x
  induction x using Nat.strongRecOn with
  | ind x ih =>
    intro hx hj
    by_cases h0 : 0 < x
    · have h1 := T.lt x h0 hx
      rcases (up_pos h0 h1 j).1 hj with rfl | hj
      · exact (up_pos h0 h1 a).2 (Or.inr ha)
      · exact (up_pos h0 h1 a).2 (Or.inr (ih (P x) h1 (by omega) hj))
    · obtain rfl : x = 0 := by omega
      exact absurd hj (up_zero j)
theorem up_child {P : Nat → Nat} {n : Nat} (T : Tr P n) (a : Nat) : ∀ x : Nat, x < n → a ∈ Up P x → ∃ j, 0 < j ∧ P j = a ∧ (x = j ∨ j ∈ Up P x) := by
  intro x
  induction x using Nat.strongRecOn with
  | ind x ih =>
    intro hx ha
    by_cases h0 : 0 < x
    · have h1 := T.lt x h0 hx
      rcases (up_pos h0 h1 a).1 ha with rfl | ha
      · exact ⟨x, h0, rfl, Or.inl rfl⟩
      · obtain ⟨j, h2, h3, h4⟩ := ih (P x) h1 (by omega) ha
        refine ⟨j, h2, h3, Or.inr ((up_pos h0 h1 j).2 ?_)⟩
        rcases h4 with h4 | h4
        · exact Or.inl h4.symm
        · exact Or.inr h4
    · obtain rfl : x = 0 := by omega
      exact absurd ha (up_zero a)
theorem child_up {P : Nat → Nat} {n : Nat} (T : Tr P n) {x j : Nat} (hx : x < n) (h0 : 0 < j) (hj : j < n) (h : x = j ∨ j ∈ Up P x) : P j ∈ Up P x := by
  have h1 := (up_pos h0 (T.lt j h0 hj) (P j)).2 (Or.inl rfl)
  rcases h with rfl | h
  · exact h1
  · exact up_trans T j _ h1 x hx h
/-- t is j or lies below j. -/
def Dn (P : Nat → Nat) (n j : Nat) (t : Int) : Prop := ∃ x : Nat, t = (x : Int) ∧ x < n ∧ (x = j ∨ j ∈ Up P x)
/-- The routes after the children above i have told. -/
structure Inv (P : Nat → Nat) (n i : Nat) (R : List (List S35)) : Prop where
  len : R.length = n
  v : ∀ a, a < n → vld (R.getD a []) = true
  h1 : ∀ a, a < n → ∀ t r, lk (R.getD a []) t = some r → ∃ j : Nat, i < j ∧ j < n ∧ r.f1 = (j : Int) ∧ P j = a ∧ Dn P n j t
  h2 : ∀ a, a < n → ∀ t (j : Nat), i < j → j < n → P j = a → Dn P n j t → lk (R.getD a []) t ≠ none
theorem comb_ne {c s : Int} {o p : Option S35} (h : o ≠ none ∨ p ≠ none) : comb c s o p ≠ none := by
  cases o <;> cases p <;> simp [comb] at h ⊢
theorem inv_low {P : Nat → Nat} {n i : Nat} {R : List (List S35)} (T : Tr P n) (H : Inv P n i R) (hi : i < n) {x : S35} (hx : x ∈ R.getD i []) : (i : Int) < x.f0 := by
  have h := Spec.mem_lk ((Spec.vld_iff _).1 (H.v i hi)).1 x hx
  obtain ⟨j, h1, h2, h3, h4, t, h5, h6, h7⟩ := H.h1 i hi _ _ h
  rcases h7 with h7 | h7
  · omega
  · have := up_lt T t j h6 h7; omega
theorem inv_ok {P : Nat → Nat} {n i : Nat} {R : List (List S35)} (T : Tr P n) (H : Inv P n i R) (hn : n ≤ 20) (h0 : 0 < i) (hi : i < n) {s f : Int} (s0 : 0 ≤ s) (s1 : s ≤ 1000000000) (f0 : 0 ≤ f) (f1 : f ≤ 999999997) : Lok (R.getD (P i) []) (i : Int) s (Spec.tellS (R.getD i [])) f := by
  have hp := T.lt i h0 hi
  rw [show Spec.tellS (R.getD i []) = (R.getD i []).map Spec.tl from if_pos (H.v i hi)]
  exact ⟨H.v _ (by omega), by omega, by omega, s0, s1, f0, f1, tl_tld (H.v i hi), fun x hx e => by
    obtain ⟨y, hy, rfl⟩ := List.mem_map.1 hx
    have := inv_low T H hi hy
    have e : y.f0 = (i : Int) := e
    omega⟩
theorem inv_step {P : Nat → Nat} {n i : Nat} {R : List (List S35)} (T : Tr P n) (H : Inv P n i R) (hn : n ≤ 20) (h0 : 0 < i) (hi : i < n) {s f : Int} (s0 : 0 ≤ s) (s1 : s ≤ 1000000000) (f0 : 0 ≤ f) (f1 : f ≤ 999999997) : Inv P n (i - 1) (R.set (P i) (mrg (R.getD (P i) []) (i : Int) s (Spec.tellS (R.getD i [])) f)) := by
  have hok := inv_ok T H hn h0 hi s0 s1 f0 f1
  have hp := T.lt i h0 hi
  have hlen := H.len
  have ht : Spec.tellS (R.getD i []) = (R.getD i []).map Spec.tl := if_pos (H.v i hi)
  have heq : ∀ a, (R.set (P i) (mrg (R.getD (P i) []) (i : Int) s (Spec.tellS (R.getD i [])) f)).getD a [] = if a = P i then mrg (R.getD (P i) []) (i : Int) s (Spec.tellS (R.getD i [])) f else R.getD a [] := fun a => by
    rw [List.getD_eq_getElem?_getD, List.getElem?_set]
    by_cases h : a = P i
    · rw [if_pos h, if_pos h.symm, if_pos (by omega)]; rfl
    · rw [if_neg h, if_neg (fun e => h e.symm), List.getD_eq_getElem?_getD]
  refine ⟨by rw [List.length_set]; exact hlen, fun a ha => ?_, fun a ha t r h => ?_, fun a ha t j hj1 hj2 hj3 hd => ?_⟩
  · rw [heq]
    by_cases h : a = P i
    · rw [if_pos h]; exact hok.valid
    · rw [if_neg h]; exact H.v a ha
  · rw [heq] at h
    by_cases h3 : a = P i
    · rw [if_pos h3, hok.lk] at h
      rcases Spec.comb_some h with h5 | ⟨d, h5, rfl⟩
      · obtain ⟨j, g1, g2, g3, g4, g5⟩ := H.h1 (P i) (by omega) t r h5
        exact ⟨j, by omega, g2, g3, by omega, g5⟩
      · refine ⟨i, by omega, hi, rfl, h3.symm, ?_⟩
        rw [nlk] at h5
        by_cases e : t = (i : Int)
        · exact ⟨i, e, hi, Or.inl rfl⟩
        · rw [if_neg e, ht, tl_lk] at h5
          cases e2 : lk (R.getD i []) t with
          | none => rw [e2] at h5; cases h5
          | some z =>
            obtain ⟨j, g1, g2, g3, g4, x, g5, g6, g7⟩ := H.h1 i hi t z e2
            exact ⟨x, g5, g6, Or.inr (by have := child_up T g6 (by omega) g2 g7; rwa [g4] at this)⟩
    · rw [if_neg h3] at h
      obtain ⟨j, g1, g2, g3, g4, g5⟩ := H.h1 a ha t r h
      exact ⟨j, by omega, g2, g3, g4, g5⟩
  · rw [heq]
    by_cases h3 : a = P i
    · rw [if_pos h3, hok.lk]
      refine comb_ne ?_
      by_cases h4 : j = i
      · left
        rw [nlk]
        by_cases e : t = (i : Int)
        · rw [if_pos e]; simp
        · rw [if_neg e, ht, tl_lk]
          obtain ⟨x, g5, g6, g7⟩ := hd
          rw [h4] at g7
          rcases g7 with g7 | g7
          · omega
          · obtain ⟨j', q1, q2, q3⟩ := up_child T i x g6 g7
            have q4 : j' < n := by
              rcases q3 with rfl | q3
              · exact g6
              · have := up_lt T x j' g6 q3; omega
            have q5 := T.lt j' q1 q4
            have := H.h2 i hi t j' (by omega) q4 q2 ⟨x, g5, g6, q3⟩
            cases e2 : lk (R.getD i []) t with
            | none => exact absurd e2 this
            | some z => simp
      · right
        exact H.h2 (P i) (by omega) t j (by omega) hj2 (by omega) hd
    · rw [if_neg h3]
      by_cases h4 : j = i
      · rw [h4] at hj3; exact absurd hj3.symm h3
      · exact H.h2 a ha t j (by omega) hj2 hj3 hd
theorem inv_start (P : Nat → Nat) (n : Nat) : Inv P n (n - 1) (List.replicate n []) := by
  have e : ∀ a, (List.replicate n ([] : List S35)).getD a [] = [] := fun a => by
    rw [List.getD_eq_getElem?_getD, List.getElem?_replicate]; split <;> rfl
  exact ⟨List.length_replicate, fun a _ => by rw [e]; rfl, fun a _ t r h => (by rw [e] at h; cases h), fun a _ t j h1 h2 => by omega⟩
theorem u16_in {n : Int} (h : (Lit.int .u16 n).wf = true) : 0 ≤ n ∧ n ≤ 65535 := by
  simp [Lit.wf, IntKind.min, IntKind.max, IntKind.signed, IntKind.bits] at h
  omega
theorem u8_in {n : Int} (h : (Lit.int .u8 n).wf = true) : 0 ≤ n ∧ n ≤ 255 := by
  simp [Lit.wf, IntKind.min, IntKind.max, IntKind.signed, IntKind.bits] at h
  omega
theorem getD_mem' {l : List Int} {i : Nat} (h : i < l.length) : l.getD i 0 ∈ l := by
  rw [List.getD_eq_getElem?_getD, List.getElem?_eq_getElem h]; exact List.getElem_mem h
theorem rdl (l : List Int) (i : Nat) : rd l (i : Int) = l.getD i 0 := by simp [rd]
theorem rdb (l : List Bool) (i : Nat) : rdOf false l (i : Int) = l.getD i false := by simp [rdOf]
theorem rdll (l : List (List S35)) (i : Nat) : rd_L2 l (i : Int) = l.getD i [] := by simp [rd_L2]
theorem set_getD {α : Type} (l : List α) (i j : Nat) (v d : α) (h : i < l.length) : (l.set i v).getD j d = if j = i then v else l.getD j d := by
  rw [List.getD_eq_getElem?_getD, List.getElem?_set]
  by_cases e : j = i
  · rw [if_pos e, if_pos e.symm, if_pos h]; rfl
  · rw [if_neg e, if_neg (fun h => e h.symm), List.getD_eq_getElem?_getD]
/-- The parents as they lie in the row. -/
def Par (P : Nat → Nat) (n m : Nat) (p : List Int) : Prop := p.length = n ∧ ∀ j, 0 < j → j < m → p.getD j 0 = (P j : Int)
theorem cast_eq {a b : Nat} : ((a : Int) = (b : Int)) = (a = b) := propext ⟨by omega, by omega⟩
section
variable (P : Nat → Nat) (n : Nat) (T : Tr P n) (hn : n ≤ 20) (p : List Int) (hp : Par P n n p) (R : List (List S35)) (H : Inv P n 0 R)
include T hn hp H
theorem dt_l4 (B : List Bool) (hB : B.length = n) (i : Nat) (hi : i < n) (hb : ∀ a, a < n → B.getD a false = decide (a ∈ Up P i)) (K : Nat) (hK : 1001 ≤ K) (next : ∀ k, K ≤ k → slotmeshlaw21_DownTree.l2 k true (n : Int) p R (n : Int) ((i + 1 : Nat) : Int) = some true) :
    ∀ (d k at_ : Nat), at_ + d = n → d + K < k → slotmeshlaw21_DownTree.l4 k true (n : Int) p R (i : Int) B (n : Int) (i : Int) (n : Int) (at_ : Int) = some true
  | 0, k, at_, hd, hk => by
    obtain ⟨k, rfl⟩ : ∃ q, k = q + 1 := ⟨k - 1, by omega⟩
    simp only [slotmeshlaw21_DownTree.l4]
    rw [if_neg (by omega), Spec.w1 (n := 100) (by omega) (by omega)]
    exact next k (by omega)
  | d + 1, k, at_, hd, hk => by
    obtain ⟨k, rfl⟩ : ∃ q, k = q + 1 := ⟨k - 1, by omega⟩
    simp only [slotmeshlaw21_DownTree.l4]
    have hlen := H.len
    have ha : at_ < n := by omega
    have hv := H.v at_ ha
    rw [if_pos (by omega), if_pos (by omega), if_pos (by omega), rdll, Spec.next_eq _ _ (by have := Spec.vld_len hv; omega) k (by omega)]
    simp only [Option.bind_some]
    rw [if_pos (by omega), Spec.w1 (n := n) (by omega) (by omega), dt_l4 B hB i hi hb K hK next d k (at_ + 1) (by omega) (by omega), rdb, hb at_ ha]
    cases e : lk (R.getD at_ []) (i : Int) with
    | none =>
      have hno : ¬ at_ ∈ Up P i := fun h => by
        obtain ⟨j, h0, h1, h2⟩ := up_child T at_ i hi h
        have hj : j < n := by
          rcases h2 with rfl | h2
          · exact hi
          · have := up_lt T i j hi h2; omega
        exact H.h2 at_ ha (i : Int) j h0 hj h1 ⟨i, rfl, hi, h2⟩ e
      have hns : Spec.nextS (R.getD at_ []) (i : Int) = (0, false) := by rw [Spec.nextS, if_pos hv, e]
      rw [decide_eq_false hno, hns]; rfl
    | some r =>
      obtain ⟨j, h0, hj, h1, h2, x, h3, h4, h5⟩ := H.h1 at_ ha _ r e
      obtain rfl : i = x := by omega
      have hup := child_up T hi h0 hj h5
      rw [h2] at hup
      have hns : Spec.nextS (R.getD at_ []) (i : Int) = ((j : Int), true) := by rw [Spec.nextS, if_pos hv, e, ← h1]
      rw [hns]
      dsimp only
      rw [decide_eq_true hup, if_pos rfl, if_pos rfl, if_neg (by omega), if_neg (by omega), if_pos (by omega), if_pos (by have := hp.1; omega), rdl, hp.2 j h0 hj, h2, if_pos rfl]
      by_cases h6 : (j : Int) = (i : Int)
      · rw [if_pos h6]
      · rw [if_neg h6, if_pos (by omega), rdb, hb j hj]
        rcases h5 with h5 | h5
        · omega
        · rw [decide_eq_true h5, if_pos rfl]
theorem dt_l3 (i : Nat) (hi : i < n) (K : Nat) (hK : 1001 ≤ K) (next : ∀ k, K ≤ k → slotmeshlaw21_DownTree.l2 k true (n : Int) p R (n : Int) ((i + 1 : Nat) : Int) = some true) :
    ∀ (x : Nat), x < n → ∀ (k : Nat) (B : List Bool), x + n + K + 1 < k → B.length = n → (∀ a, a < n → decide (a ∈ Up P i) = (B.getD a false || decide (a ∈ Up P x))) → slotmeshlaw21_DownTree.l3 k true (n : Int) p R (i : Int) B (x : Int) (n : Int) (i : Int) = some true := by
  intro x
  induction x using Nat.strongRecOn with
  | ind x ih =>
    intro hx k B hk hB hb
    obtain ⟨k, rfl⟩ : ∃ q, k = q + 1 := ⟨k - 1, by omega⟩
    simp only [slotmeshlaw21_DownTree.l3]
    by_cases h0 : 0 < x
    · have h1 := T.lt x h0 hx
      have hpl := hp.1
      rw [if_pos (by omega), if_pos (by omega), if_pos (by omega), rdl, hp.2 x h0 hx, if_pos (by omega), if_pos (by omega)]
      refine ih (P x) h1 (by omega) k _ (by omega) (by rw [List.length_set]; exact hB) fun a ha => ?_
      rw [Int.toNat_natCast, set_getD _ _ _ _ _ (by omega), hb a ha]
      have hu := up_pos h0 h1 a
      by_cases e : a = P x
      · rw [if_pos e, decide_eq_true (hu.2 (Or.inl e))]; simp
      · rw [if_neg e]; congr 1
        rw [Bool.eq_iff_iff, decide_eq_true_iff, decide_eq_true_iff, hu]
        exact ⟨fun h => h.resolve_left e, Or.inr⟩
    · obtain rfl : x = 0 := by omega
      rw [if_neg (by decide)]
      refine dt_l4 P n T hn p hp R H B hB i hi (fun a ha => ?_) K hK next n k 0 (by omega) (by omega)
      rw [hb a ha, decide_eq_false (up_zero a), Bool.or_false]
theorem dt_l2 : ∀ (d k i : Nat), i + d = n → 100 * d + 1100 < k → slotmeshlaw21_DownTree.l2 k true (n : Int) p R (n : Int) (i : Int) = some true
  | 0, k, i, hd, hk => by
    obtain ⟨k, rfl⟩ : ∃ q, k = q + 1 := ⟨k - 1, by omega⟩
    simp only [slotmeshlaw21_DownTree.l2]
    rw [if_neg (by omega)]
  | d + 1, k, i, hd, hk => by
    obtain ⟨k, rfl⟩ : ∃ q, k = q + 1 := ⟨k - 1, by omega⟩
    simp only [slotmeshlaw21_DownTree.l2]
    rw [if_pos (by omega), if_pos (by omega), if_pos (by omega), Int.toNat_natCast]
    obtain ⟨K, hK⟩ : ∃ K, K = 100 * d + 1101 := ⟨_, rfl⟩
    refine dt_l3 P n T hn p hp R H i (by omega) K (by omega) (fun k hk => dt_l2 d k (i + 1) (by omega) (by omega)) i (by omega) k _ (by omega) List.length_replicate fun a ha => ?_
    rw [List.getD_eq_getElem?_getD, List.getElem?_replicate]
    split <;> simp
end
theorem dt_l1 (P : Nat → Nat) (n : Nat) (T : Tr P n) (hn : n ≤ 20) (p : List Int) (hp : Par P n n p) (seqs : List Int) (hs : n ≤ seqs.length) (hq : ∀ x ∈ seqs, 0 ≤ x ∧ x ≤ 65535) (f : Int) (f0 : 0 ≤ f) (f1 : f ≤ 999999997) (hn1 : 1 ≤ n) :
    ∀ (i k : Nat) (R : List (List S35)), i < n → i + 3200 < k → Inv P n i R → slotmeshlaw21_DownTree.l1 k seqs f true (n : Int) p R (i : Int) = some true
  | 0, k, R, hi, hk, H => by
    obtain ⟨k, rfl⟩ : ∃ q, k = q + 1 := ⟨k - 1, by omega⟩
    simp only [slotmeshlaw21_DownTree.l1]
    rw [if_neg (by decide)]
    exact dt_l2 P n T hn p hp R H n k 0 (by omega) (by omega)
  | i + 1, k, R, hi, hk, H => by
    obtain ⟨k, rfl⟩ : ∃ q, k = q + 1 := ⟨k - 1, by omega⟩
    simp only [slotmeshlaw21_DownTree.l1]
    have hpl := hp.1
    have hlen := H.len
    have hlt := T.lt (i + 1) (by omega) hi
    have hsq := hq _ (getD_mem' (show i + 1 < seqs.length by omega))
    have hw : wrap64 (seqs.getD (i + 1) 0) = seqs.getD (i + 1) 0 := by unfold wrap64; omega
    have hwi : wrap64 (((i + 1 : Nat) : Int) - 1) = (i : Int) := by unfold wrap64; omega
    have hl1 := Spec.vld_len (H.v (i + 1) hi)
    have hl2 := Spec.vld_len (H.v (P (i + 1)) (by omega))
    have hl3 := Spec.tell_len (R.getD (i + 1) []) (by omega)
    rw [if_pos (by omega), if_pos (by omega), if_pos (by omega), rdl, hp.2 (i + 1) (by omega) hi, if_pos (by omega), if_pos (by omega), if_pos (by omega), if_pos (by omega), rdll, rdll, rdl, hw, hwi, Spec.tell_eq _ (by omega) k (by omega)]
    rw [Option.bind_some, Spec.learn_eq _ _ _ _ f (by omega) hl3 k (by omega), Option.bind_some]
    have hok := inv_ok T H hn (by omega) hi hsq.1 (by omega) f0 f1
    rw [Spec.learn_ok hok]
    dsimp only
    rw [if_pos rfl, Int.toNat_natCast]
    exact dt_l1 P n T hn p hp seqs hs hq f f0 f1 hn1 i k _ (by omega) (by omega) (inv_step T H hn (by omega) hi hsq.1 (by omega) f0 f1)
def parF (picks : List Int) (i : Nat) : Nat := (picks.getD (i - 1) 0 % (i : Int)).toNat
theorem parF_lt (picks : List Int) (i : Nat) (h : 0 < i) : (parF picks i : Int) = picks.getD (i - 1) 0 % (i : Int) ∧ parF picks i < i := by
  have h1 := Int.emod_nonneg (picks.getD (i - 1) 0) (show (i : Int) ≠ 0 by omega)
  have h2 := Int.emod_lt_of_pos (picks.getD (i - 1) 0) (show (0 : Int) < (i : Int) by omega)
  unfold parF
  omega
theorem dt_l0' (picks seqs : List Int) (n : Nat) (hn : n ≤ 20) (hpn : picks.length + 1 = n) (hpk : ∀ x ∈ picks, 0 ≤ x ∧ x ≤ 255) (hs : n ≤ seqs.length) (hq : ∀ x ∈ seqs, 0 ≤ x ∧ x ≤ 65535) (f : Int) (f0 : 0 ≤ f) (f1 : f ≤ 999999997) :
    ∀ (d k i : Nat) (p : List Int), i + d = n → 1 ≤ i → d + 3300 < k → Par (parF picks) n i p → slotmeshlaw21_DownTree.l0 k picks seqs f true (n : Int) p (i : Int) = some true
  | 0, k, i, p, hd, hi, hk, hp => by
    obtain ⟨k, rfl⟩ : ∃ q, k = q + 1 := ⟨k - 1, by omega⟩
    simp only [slotmeshlaw21_DownTree.l0]
    rw [if_neg (by omega), if_pos (by omega), if_pos (by omega), Int.toNat_natCast, show wrap64 ((n : Int) - 1) = ((n - 1 : Nat) : Int) from by unfold wrap64; omega]
    exact dt_l1 (parF picks) n ⟨fun j h0 _ => (parF_lt picks j h0).2⟩ hn p (by rwa [show i = n by omega] at hp) seqs hs hq f f0 f1 (by omega) (n - 1) k _ (by omega) (by omega) (inv_start _ n)
  | d + 1, k, i, p, hd, hi, hk, hp => by
    obtain ⟨k, rfl⟩ : ∃ q, k = q + 1 := ⟨k - 1, by omega⟩
    simp only [slotmeshlaw21_DownTree.l0]
    have hpl := hp.1
    have hx := hpk _ (getD_mem' (show i - 1 < picks.length by omega))
    have hwi : wrap64 ((i : Int) - 1) = ((i - 1 : Nat) : Int) := by unfold wrap64; omega
    have hw : wrap64 (picks.getD (i - 1) 0) = picks.getD (i - 1) 0 := by unfold wrap64; omega
    rw [hwi, rdl, hw, if_pos (by omega), if_pos (by omega), if_pos (by omega), if_neg (by omega), if_pos (by omega), if_pos (by omega), Int.toNat_natCast, Spec.w1 (n := n) (by omega) (by omega), Int.tmod_eq_emod_of_nonneg hx.1, ← (parF_lt picks i hi).1]
    refine dt_l0' picks seqs n hn hpn hpk hs hq f f0 f1 d k (i + 1) _ (by omega) (by omega) (by omega) ⟨by rw [List.length_set]; exact hpl, fun j h0 hj => ?_⟩
    rw [set_getD _ _ _ _ _ (by omega)]
    by_cases e : j = i
    · rw [if_pos e, e]
    · rw [if_neg e]; exact hp.2 j h0 (by omega)
theorem dt_no (picks seqs : List Int) (f x : Int) (k : Nat) : slotmeshlaw21_DownTree.j0 (k + 1) picks seqs f true x true = some true := by
  simp only [slotmeshlaw21_DownTree.j0]
  rw [if_pos trivial]
theorem dt_yes (picks seqs : List Int) (n : Nat) (hn : n ≤ 20) (hpn : picks.length + 1 = n) (hpk : ∀ x ∈ picks, 0 ≤ x ∧ x ≤ 255) (hs : n ≤ seqs.length) (hq : ∀ x ∈ seqs, 0 ≤ x ∧ x ≤ 65535) (f : Int) (f0 : 0 ≤ f) (f1 : f ≤ 999999997) (k : Nat) (hk : 3400 < k) : slotmeshlaw21_DownTree.j0 (k + 1) picks seqs f true (n : Int) false = some true := by
  simp only [slotmeshlaw21_DownTree.j0]
  rw [if_neg (by decide), if_pos (by omega), if_pos (by omega), Int.toNat_natCast]
  exact dt_l0' picks seqs n hn hpn hpk hs hq f f0 f1 (n - 1) k 1 _ (by omega) (by omega) (by omega) ⟨List.length_replicate, fun j h0 h1 => by omega⟩
theorem DownTree : slotmeshlaw21_DownTree.Pure := by
  intro picks seqs f hpk hsz hsq hf
  refine ⟨4999 + 1, ?_⟩
  unfold slotmeshlaw21_DownTree.f slotmeshlaw21_head.f
  rw [Option.bind_some]
  rw [show wrap64 ((picks.length : Int) + 1) = ((picks.length + 1 : Nat) : Int) from Spec.w1 (n := 140737488351233) (by omega) (by omega)]
  by_cases h1 : ((picks.length + 1 : Nat) : Int) > 20
  · rw [if_pos h1]; exact dt_no _ _ _ _ _
  · rw [if_neg h1]
    by_cases h2 : (seqs.length : Int) < ((picks.length + 1 : Nat) : Int)
    · rw [if_pos h2]; exact dt_no _ _ _ _ _
    · rw [if_neg h2]
      by_cases h3 : f < 0
      · rw [if_pos h3]; exact dt_no _ _ _ _ _
      · rw [if_neg h3]
        by_cases h4 : f > 999999997
        · rw [decide_eq_true h4]; exact dt_no _ _ _ _ _
        · rw [decide_eq_false h4]
          exact dt_yes picks seqs (picks.length + 1) (by omega) rfl (fun x hx => u8_in (hpk.2 x hx)) (by omega) (fun x hx => u16_in (hsq.2 x hx)) f (by omega) (by omega) 4999 (by omega)
end Pure
end Go.Proofs.Ythobfempjekhdaa.Px
