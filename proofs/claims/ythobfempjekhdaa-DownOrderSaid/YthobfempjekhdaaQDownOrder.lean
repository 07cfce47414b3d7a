/- DownOrder: the pure statement, over numbers and lists alone. -/
import Derived.Test.YthobfempjekhdaaPx15
import Derived.Test.YthobfempjekhdaaSpec
namespace Go.Proofs.Ythobfempjekhdaa.Px
open Go.RowKit Go.Proofs.YthobfempjekhdaaW.PrintWords Go.Proofs.YthobfempjekhdaaW.PrintLast Go.Proofs.YthobfempjekhdaaW.PrintMore
set_option linter.unusedVariables false
set_option linter.unusedSimpArgs false
def slotmeshlaw21_DownOrder.Pure : Prop := ∀ (l0 : List S35) (a1 : Int) (a2 : Int) (a3 : Int) (a4 : Int) (l5 : List S35) (l6 : List S35) (a7 : Int), (l0.length ≤ maxLen ∧ ∀ x35 ∈ l0, True) → (Lit.int .i64 a1).wf = true → (Lit.int .i64 a2).wf = true → (Lit.int .i64 a3).wf = true → (Lit.int .i64 a4).wf = true → (l5.length ≤ maxLen ∧ ∀ x35 ∈ l5, True) → (l6.length ≤ maxLen ∧ ∀ x35 ∈ l6, True) → (Lit.int .i64 a7).wf = true → ∃ k, slotmeshlaw21_DownOrder.f k l0 a1 a2 a3 a4 l5 l6 a7 = some true
namespace Pure
open Go.Proofs.Ythobfempjekhdaa.Px.Spec (lk at' vld Lok learnS mrg nlk comb nw pick)
theorem at_neg {l : List S35} {t : Int} (h : lk l t = none) : at' l t = -1 := by
  rcases Spec.at_lk l t with ⟨h1, _⟩ | ⟨n, _, _, h2, _⟩
  · exact h1
  · rw [h] at h2; cases h2
theorem at_pos {l : List S35} {t : Int} {x : S35} (h : lk l t = some x) : ∃ n : Nat, n < l.length ∧ at' l t = (n : Int) ∧ l.getD n z35 = x := by
  rcases Spec.at_lk l t with ⟨_, h1⟩ | ⟨n, h0, h1, h2, _⟩
  · rw [h] at h1; cases h1
  · rw [h] at h2; exact ⟨n, h0, h1, (Option.some.inj h2).symm⟩
theorem getD_mem {l : List S35} {i : Nat} (h : i < l.length) : l.getD i z35 ∈ l := by
  rw [List.getD_eq_getElem?_getD, List.getElem?_eq_getElem h]; exact List.getElem_mem h
theorem short_eq (l b : List S35) : slotmeshlaw21_short.f l b = some (decide (l.length ≤ 70 ∧ b.length ≤ 70)) := by
  unfold slotmeshlaw21_short.f
  by_cases h : (l.length : Int) ≤ 70
  · rw [if_pos h]; congr 1; rw [Bool.eq_iff_iff, decide_eq_true_iff, decide_eq_true_iff]; omega
  · rw [if_neg h]; congr 1; symm; exact decide_eq_false (by omega)
theorem comb_comm (a b F : Int) (o p q : Option S35) (h : o = none ∨ p = none) : comb b F p (comb a F o q) = comb a F o (comb b F p q) := by
  rcases h with rfl | rfl <;> rfl
theorem do_end (l : List S35) (a b s t : Int) (x y : List S35) (f : Int) (hl : l.length ≤ 1000) (hx : x.length ≤ 1000) (hy : y.length ≤ 1000) (hab : a ≠ b) (hxb : lk x b = none) (hya : lk y a = none) (hd : ∀ d ∈ x, lk y d.f0 = none) (k : Nat) (hk : 1002 < k) (i n : Int) (hi : ¬ i < n) : slotmeshlaw21_DownOrder.l0 (k + 2) l a b s t x y f true x n i = some true := by
  simp only [slotmeshlaw21_DownOrder.l0]
  rw [if_neg hi, Spec.learn_eq l a s x f hl hx _ (by omega), Spec.learn_eq l b t y f hl hy _ (by omega)]
  simp only [Option.bind_some]
  rcases Spec.learn_cases l a s x f with ⟨h1, e1⟩ | ⟨h1, e1⟩
  · rw [e1]
    dsimp only
    rw [if_pos rfl]
    rcases Spec.learn_cases l b t y f with ⟨h2, e2⟩ | ⟨h2, e2⟩
    · rw [e2]
      dsimp only
      rw [show ((0 : Int) != 0) = false from rfl]
      simp only [slotmeshlaw21_DownOrder.j2]
      have hp := h1.len
      have hq := h2.len
      have h3 : Lok (mrg l a s x f) b t y f := ⟨h1.valid, h2.c0, h2.c1, h2.s0, h2.s1, h2.f0, h2.f1, h2.t, h2.n⟩
      have h4 : Lok (mrg l b t y f) a s x f := ⟨h2.valid, h1.c0, h1.c1, h1.s0, h1.s1, h1.f0, h1.f1, h1.t, h1.n⟩
      have hu := h3.len
      rw [if_neg (by decide), Spec.learn_eq _ b t y f (by omega) hy _ (by omega), Spec.learn_eq _ a s x f (by omega) hx _ (by omega)]
      simp only [Option.bind_some]
      rw [Spec.learn_ok h3, Spec.learn_ok h4]
      dsimp only
      rw [if_pos rfl, if_pos rfl, if_pos trivial, Spec.same_eq _ _ (by omega) k (by omega)]
      rw [decide_eq_true]
      · rfl
      · refine Spec.Srt.ext h3.srt h4.srt fun z => ?_
        rw [h3.lk, h4.lk, h1.lk, h2.lk]
        refine comb_comm _ _ _ _ _ _ ?_
        unfold Spec.nlk
        by_cases z1 : z = a
        · right; rw [if_neg (by omega), z1]; exact hya
        · by_cases z2 : z = b
          · left; rw [if_neg z1, z2]; exact hxb
          · rw [if_neg z1, if_neg z2]
            cases e : lk x z with
            | none => exact Or.inl rfl
            | some d => right; have := hd d (Spec.lk_mem e); rw [Spec.lk_f0 e] at this; exact this
    · rw [e2]; rfl
  · rw [e1]; rfl
theorem do_l0 (l : List S35) (a b s t : Int) (x y : List S35) (f : Int) (hl : l.length ≤ 1000) (hx : x.length ≤ 1000) (hy : y.length ≤ 1000) (hab : a ≠ b) (hxb : lk x b = none) (hya : lk y a = none) : ∀ (d k i : Nat), i + d = x.length → d + 1003 < k → (∀ e ∈ x.take i, lk y e.f0 = none) → slotmeshlaw21_DownOrder.l0 (k + 2) l a b s t x y f true x (x.length : Int) (i : Int) = some true
  | 0, k, i, hd, hk, H => do_end l a b s t x y f hl hx hy hab hxb hya (by rwa [List.take_of_length_le (by omega)] at H) k (by omega) _ _ (by omega)
  | d + 1, k, i, hd, hk, H => by
    obtain ⟨k, rfl⟩ : ∃ q, k = q + 1 := ⟨k - 1, by omega⟩
    have ih := do_l0 l a b s t x y f hl hx hy hab hxb hya d k (i + 1) (by omega) (by omega)
    show slotmeshlaw21_DownOrder.l0 (k + 2 + 1) l a b s t x y f true x (x.length : Int) (i : Int) = some true
    simp only [slotmeshlaw21_DownOrder.l0] at ih ⊢
    rw [if_pos (by omega), if_pos (by omega), if_pos (by omega), Spec.rdn, Spec.rfind_eq y _ (by omega) (k + 2) (by omega), Spec.w1 (n := x.length) (by omega) (by omega)]
    simp only [Option.bind_some]
    by_cases h : at' y (x.getD i z35).f0 ≥ 0
    · rw [if_pos h]
    · rw [if_neg h]
      refine ih fun e he => ?_
      rw [List.take_add_one] at he
      rcases List.mem_append.1 he with he | he
      · exact H e he
      · have hi : i < x.length := by omega
        rw [List.getElem?_eq_getElem hi] at he
        have : e = x.getD i z35 := by
          rw [List.getD_eq_getElem?_getD, List.getElem?_eq_getElem hi]; simpa using he
        rw [this]
        cases e : lk y (x.getD i z35).f0 with
        | none => rfl
        | some z => obtain ⟨n, _, h4, _⟩ := at_pos e; omega
theorem DownOrder : slotmeshlaw21_DownOrder.Pure := by
  intro l a b s t x y f _ _ _ _ _ _ _ _
  refine ⟨5000, ?_⟩
  unfold slotmeshlaw21_DownOrder.f slotmeshlaw21_head.f
  rw [short_eq]
  simp only [Option.bind_some]
  have hj : slotmeshlaw21_DownOrder.j0 5000 l a b s t x y f true true = some true := rfl
  have hn : ∀ {z : List S35} {w : Int}, ¬ at' z w ≥ 0 → lk z w = none := fun {z w} h => by
    cases e : lk z w with
    | none => rfl
    | some v => obtain ⟨n, _, h4, _⟩ := at_pos e; omega
  by_cases h1 : x.length ≤ 70 ∧ y.length ≤ 70
  · rw [if_pos (decide_eq_true h1)]
    by_cases h2 : (l.length : Int) > 70
    · rw [if_pos h2]; exact hj
    · rw [if_neg h2, Spec.rvalid_eq l (by omega) _ (by omega), Option.bind_some]
      by_cases hv : vld l = true
      · rw [if_pos hv]
        by_cases h3 : a = b
        · rw [if_pos h3]; exact hj
        · rw [if_neg h3, Spec.rfind_eq x b (by omega) _ (by omega), Option.bind_some]
          by_cases h4 : at' x b ≥ 0
          · rw [if_pos h4]; exact hj
          · rw [if_neg h4, Spec.rfind_eq y a (by omega) _ (by omega), Option.bind_some]
            by_cases h5 : at' y a ≥ 0
            · rw [decide_eq_true h5]; exact hj
            · rw [decide_eq_false h5]
              show slotmeshlaw21_DownOrder.j0 (4999 + 1) l a b s t x y f true false = some true
              simp only [slotmeshlaw21_DownOrder.j0]
              rw [if_neg (by decide)]
              exact do_l0 l a b s t x y f (by omega) (by omega) (by omega) h3 (hn h4) (hn h5) x.length 4997 0 (by omega) (by omega) (by simp)
      · rw [if_neg hv]; exact hj
  · rw [if_neg (by simpa using h1)]; exact hj
end Pure
end Go.Proofs.Ythobfempjekhdaa.Px
