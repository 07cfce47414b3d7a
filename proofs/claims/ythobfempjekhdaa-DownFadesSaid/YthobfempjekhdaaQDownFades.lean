/- DownFades: the pure statement, over numbers and lists alone. -/
import Derived.Test.YthobfempjekhdaaPx14
import Derived.Test.YthobfempjekhdaaSpec
namespace Go.Proofs.Ythobfempjekhdaa.Px
open Go.RowKit Go.Proofs.YthobfempjekhdaaW.PrintWords Go.Proofs.YthobfempjekhdaaW.PrintLast Go.Proofs.YthobfempjekhdaaW.PrintMore
set_option linter.unusedVariables false
set_option linter.unusedSimpArgs false
def slotmeshlaw21_DownFades.Pure : Prop := ∀ (l0 : List S35) (a1 : Int) (a2 : Int) (l3 : List S35) (a4 : Int) (a5 : Int), (l0.length ≤ maxLen ∧ ∀ x35 ∈ l0, True) → (Lit.int .i64 a1).wf = true → (Lit.int .i64 a2).wf = true → (l3.length ≤ maxLen ∧ ∀ x35 ∈ l3, True) → (Lit.int .i64 a4).wf = true → (Lit.int .i64 a5).wf = true → ∃ k, slotmeshlaw21_DownFades.f k l0 a1 a2 l3 a4 a5 = some true
namespace Pure
open Go.Proofs.Ythobfempjekhdaa.Px.Spec (lk at' vld Lok learnS mrg nlk comb nw pick)
theorem at_neg {l : List S35} {t : Int} (h : lk l t = none) : at' l t = -1 := by
  rcases Spec.at_lk l t with ⟨h1, _⟩ | ⟨n, _, _, h2, _⟩
  · exact h1
  · rw [h] at h2; cases h2
theorem at_pos {l : List S35} {t : Int} {x : S35} (h : lk l t = some x) : ∃ n : Nat, n < l.length ∧ at' l t = (n : Int) ∧ l.getD n z35 = x := by
  rcases Spec.at_lk l t with ⟨_, h1⟩ | ⟨n, h0, h1, h2, _⟩
  · rw [h] at h1; cases h1
  · rw [h] at h2; exact ⟨n, h0, h1, (Option.some.inj h2).symm⟩
theorem getD_mem {l : List S35} {i : Nat} (h : i < l.length) : l.getD i z35 ∈ l := by
  rw [List.getD_eq_getElem?_getD, List.getElem?_eq_getElem h]; exact List.getElem_mem h
theorem short_eq (l b : List S35) : slotmeshlaw21_short.f l b = some (decide (l.length ≤ 70 ∧ b.length ≤ 70)) := by
  unfold slotmeshlaw21_short.f
  by_cases h : (l.length : Int) ≤ 70
  · rw [if_pos h]; congr 1; rw [Bool.eq_iff_iff, decide_eq_true_iff, decide_eq_true_iff]; omega
  · rw [if_neg h]; congr 1; symm; exact decide_eq_false (by omega)
theorem fd_end (l : List S35) (c s : Int) (b : List S35) (f u : Int) (hl : l.length ≤ 1000) (hb : b.length ≤ 1000) (hv : vld l = true) (k : Nat) (hk : 1001 < k) (x31 x32 : Int) (h : ¬ x32 < x31) : slotmeshlaw21_DownFades.l0 (k + 1) l c s b f u true (l.filter fun x => decide (x.f3 ≥ u)) l x31 x32 = some true := by
  simp only [slotmeshlaw21_DownFades.l0]
  have hel := Spec.exp_len l u hl
  rw [if_neg h, Spec.expire_eq l u hl k (by omega), Spec.learn_eq [] c s b f (by simp) hb k (by omega)]
  simp only [Option.bind_some]
  rw [Spec.same_eq _ _ (by omega) k (by omega), Spec.expS, if_pos hv, decide_eq_true rfl]
  simp only [Option.bind_some, if_true]
  rcases Spec.learn_cases [] c s b f with ⟨h, e⟩ | ⟨h, e⟩
  · rw [e]
    dsimp only
    have hlen := h.len
    have hw3 : wrap64 (f + 3) = f + 3 := by have := h.f0; have := h.f1; unfold wrap64; omega
    have hw4 : wrap64 (f + 4) = f + 4 := by have := h.f0; have := h.f1; unfold wrap64; omega
    have hall : ∀ x ∈ mrg [] c s b f, x.f3 = f + 3 := fun x hx => by
      rcases h.mem hx with hx | ⟨d, rfl, _⟩
      · cases hx
      · rfl
    have e3 : Spec.expS (mrg [] c s b f) (f + 3) = mrg [] c s b f := by
      rw [Spec.expS, if_pos h.valid, List.filter_eq_self]
      intro x hx; rw [hall x hx]; exact decide_eq_true (Int.le_refl _)
    have e4 : Spec.expS (mrg [] c s b f) (f + 4) = [] := by
      rw [Spec.expS, if_pos h.valid, List.filter_eq_nil_iff]
      intro x hx; rw [hall x hx]; simp
    rw [if_pos rfl, hw3, hw4, Spec.expire_eq _ _ (by omega) k (by omega), Spec.expire_eq _ _ (by omega) k (by omega), e3, e4]
    simp only [Option.bind_some]
    rw [Spec.same_eq _ _ (by omega) k (by omega), decide_eq_true rfl]
    rfl
  · rw [e]; rfl
theorem fd_l0 (l : List S35) (c s : Int) (b : List S35) (f u : Int) (hl : l.length ≤ 1000) (hb : b.length ≤ 1000) (hv : vld l = true) : ∀ (d k i : Nat) (o : List S35), i + d = l.length → d + 1003 < k → o.length ≤ i → (o ++ (l.drop i).filter fun x => decide (x.f3 ≥ u)) = (l.filter fun x => decide (x.f3 ≥ u)) → slotmeshlaw21_DownFades.l0 k l c s b f u true o l (l.length : Int) (i : Int) = some true
  | 0, k, i, o, hd, hk, ho, he => by
    obtain ⟨k, rfl⟩ : ∃ q, k = q + 1 := ⟨k - 1, by omega⟩
    rw [List.drop_of_length_le (by omega), List.filter_nil, List.append_nil] at he
    rw [he]
    exact fd_end l c s b f u hl hb hv k (by omega) _ _ (by omega)
  | d + 1, k, i, o, hd, hk, ho, he => by
    obtain ⟨k, rfl⟩ : ∃ q, k = q + 1 := ⟨k - 1, by omega⟩
    rw [Spec.drop_cons_getD l i z35 (by omega), List.filter_cons] at he
    simp only [slotmeshlaw21_DownFades.l0]
    rw [if_pos (by omega), if_pos (by omega), if_pos (by omega), Spec.rdn, Spec.w1 (n := l.length) (by omega) (by omega)]
    by_cases h : (l.getD i z35).f3 ≥ u
    · rw [if_pos h, if_pos (by omega)]
      rw [if_pos (decide_eq_true h)] at he
      exact fd_l0 l c s b f u hl hb hv d k (i + 1) _ (by omega) (by omega) (by simp; omega) (by rw [← he]; simp)
    · rw [if_neg h]
      rw [if_neg (by simpa using h)] at he
      exact fd_l0 l c s b f u hl hb hv d k (i + 1) _ (by omega) (by omega) (by omega) he
theorem DownFades : slotmeshlaw21_DownFades.Pure := by
  intro l c s b f u _ _ _ _ _ _
  refine ⟨5000, ?_⟩
  unfold slotmeshlaw21_DownFades.f slotmeshlaw21_head.f
  rw [short_eq]
  simp only [Option.bind_some]
  have hj : slotmeshlaw21_DownFades.j0 5000 l c s b f u true true = some true := rfl
  by_cases h1 : l.length ≤ 70 ∧ b.length ≤ 70
  · rw [if_pos (decide_eq_true h1), Spec.rvalid_eq l (by omega) _ (by omega), Option.bind_some]
    by_cases hv : vld l = true
    · rw [hv]
      show slotmeshlaw21_DownFades.j0 (4999 + 1) l c s b f u true false = some true
      simp only [slotmeshlaw21_DownFades.j0]
      rw [if_neg (by decide)]
      exact fd_l0 l c s b f u (by omega) (by omega) hv l.length 4999 0 [] (by omega) (by omega) (by simp) (by simp)
    · rw [Bool.eq_false_iff.2 hv]; exact hj
  · rw [if_neg (by simpa using h1)]; exact hj
end Pure
end Go.Proofs.Ythobfempjekhdaa.Px
