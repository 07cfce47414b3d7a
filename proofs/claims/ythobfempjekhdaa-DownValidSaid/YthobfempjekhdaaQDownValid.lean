/- DownValid: the pure statement, over numbers and lists alone. -/
import Derived.Test.YthobfempjekhdaaPx11
import Derived.Test.YthobfempjekhdaaSpec
namespace Go.Proofs.Ythobfempjekhdaa.Px
open Go.RowKit Go.Proofs.YthobfempjekhdaaW.PrintWords Go.Proofs.YthobfempjekhdaaW.PrintLast Go.Proofs.YthobfempjekhdaaW.PrintMore
set_option linter.unusedVariables false
set_option linter.unusedSimpArgs false
def slotmeshlaw21_DownValid.Pure : Prop := ∀ (l0 : List S35) (a1 : Int) (a2 : Int) (l3 : List S35) (a4 : Int), (l0.length ≤ maxLen ∧ ∀ x35 ∈ l0, True) → (Lit.int .i64 a1).wf = true → (Lit.int .i64 a2).wf = true → (l3.length ≤ maxLen ∧ ∀ x35 ∈ l3, True) → (Lit.int .i64 a4).wf = true → ∃ k, slotmeshlaw21_DownValid.f k l0 a1 a2 l3 a4 = some true
namespace Pure
open Go.Proofs.Ythobfempjekhdaa.Px.Spec (lk at' vld Lok learnS mrg nlk comb nw pick)
theorem at_neg {l : List S35} {t : Int} (h : lk l t = none) : at' l t = -1 := by
  rcases Spec.at_lk l t with ⟨h1, _⟩ | ⟨n, _, _, h2, _⟩
  · exact h1
  · rw [h] at h2; cases h2
theorem at_pos {l : List S35} {t : Int} {x : S35} (h : lk l t = some x) : ∃ n : Nat, n < l.length ∧ at' l t = (n : Int) ∧ l.getD n z35 = x := by
  rcases Spec.at_lk l t with ⟨_, h1⟩ | ⟨n, h0, h1, h2, _⟩
  · rw [h] at h1; cases h1
  · rw [h] at h2; exact ⟨n, h0, h1, (Option.some.inj h2).symm⟩
theorem getD_mem {l : List S35} {i : Nat} (h : i < l.length) : l.getD i z35 ∈ l := by
  rw [List.getD_eq_getElem?_getD, List.getElem?_eq_getElem h]; exact List.getElem_mem h
theorem short_eq (l b : List S35) : slotmeshlaw21_short.f l b = some (decide (l.length ≤ 70 ∧ b.length ≤ 70)) := by
  unfold slotmeshlaw21_short.f
  by_cases h : (l.length : Int) ≤ 70
  · rw [if_pos h]; congr 1; rw [Bool.eq_iff_iff, decide_eq_true_iff, decide_eq_true_iff]; omega
  · rw [if_neg h]; congr 1; symm; exact decide_eq_false (by omega)
theorem dv_l1 (l : List S35) (c : Int) (b m : List S35) (hl : l.length ≤ 1000) (hb : b.length ≤ 1000) (hm : m.length ≤ 1000) (H : ∀ x ∈ m, lk l x.f0 = none → x.f0 ≠ c → lk b x.f0 ≠ none) (hv : vld m = true) (hc : lk m c ≠ none) : ∀ (d k i : Nat), i + d = m.length → d + 1001 < k → slotmeshlaw21_DownValid.l1 k l c b true m m (m.length : Int) (i : Int) = some true
  | 0, k, i, hd, hk => by
    obtain ⟨k, rfl⟩ : ∃ q, k = q + 1 := ⟨k - 1, by omega⟩
    simp only [slotmeshlaw21_DownValid.l1]
    rw [if_neg (by omega), Spec.rvalid_eq m (by omega) k (by omega), Spec.rfind_eq m c (by omega) k (by omega), hv]
    cases e : lk m c with
    | none => exact absurd e hc
    | some x => obtain ⟨n, h0, h1, h2⟩ := at_pos e; simp [h1]
  | d + 1, k, i, hd, hk => by
    obtain ⟨k, rfl⟩ : ∃ q, k = q + 1 := ⟨k - 1, by omega⟩
    simp only [slotmeshlaw21_DownValid.l1]
    have ih := dv_l1 l c b m hl hb hm H hv hc d k (i + 1) (by omega) (by omega)
    rw [if_pos (by omega), if_pos (by omega), if_pos (by omega), Spec.rdn, Spec.rfind_eq l _ (by omega) k (by omega), Spec.rfind_eq b _ (by omega) k (by omega), Spec.w1 (n := m.length) (by omega) (by omega), ih]
    simp only [Option.bind_some]
    have hx := H _ (getD_mem (show i < m.length by omega))
    by_cases h1 : at' l (m.getD i z35).f0 < 0
    · rw [if_pos h1]
      by_cases h2 : (m.getD i z35).f0 = c
      · rw [if_pos h2]
      · rw [if_neg h2]
        have e1 : lk l (m.getD i z35).f0 = none := by
          cases e : lk l (m.getD i z35).f0 with
          | none => rfl
          | some x => obtain ⟨n, h0, h1', h2⟩ := at_pos e; omega
        cases e : lk b (m.getD i z35).f0 with
        | none => exact absurd e (hx e1 h2)
        | some x => obtain ⟨n, h0, h1', h2⟩ := at_pos e; rw [if_neg (by omega)]
    · rw [if_neg h1]
theorem dv_l0 (l : List S35) (c : Int) (b m : List S35) (hl : l.length ≤ 1000) (hb : b.length ≤ 1000) (hm : m.length ≤ 1000) (G : ∀ x ∈ l, lk m x.f0 ≠ none) (H : ∀ x ∈ m, lk l x.f0 = none → x.f0 ≠ c → lk b x.f0 ≠ none) (hv : vld m = true) (hc : lk m c ≠ none) : ∀ (d k i : Nat), i + d = l.length → d + 2002 < k → slotmeshlaw21_DownValid.l0 k l c b true m l (l.length : Int) (i : Int) = some true
  | 0, k, i, hd, hk => by
    obtain ⟨k, rfl⟩ : ∃ q, k = q + 1 := ⟨k - 1, by omega⟩
    simp only [slotmeshlaw21_DownValid.l0]
    rw [if_neg (by omega)]
    exact dv_l1 l c b m hl hb hm H hv hc m.length k 0 (by omega) (by omega)
  | d + 1, k, i, hd, hk => by
    obtain ⟨k, rfl⟩ : ∃ q, k = q + 1 := ⟨k - 1, by omega⟩
    simp only [slotmeshlaw21_DownValid.l0]
    rw [if_pos (by omega), if_pos (by omega), if_pos (by omega), Spec.rdn, Spec.rfind_eq m _ (by omega) k (by omega), Spec.w1 (n := l.length) (by omega) (by omega), dv_l0 l c b m hl hb hm G H hv hc d k (i + 1) (by omega) (by omega)]
    simp only [Option.bind_some]
    cases e : lk m (l.getD i z35).f0 with
    | none => exact absurd e (G _ (getD_mem (by omega)))
    | some x => obtain ⟨n, h0, h1, h2⟩ := at_pos e; rw [if_neg (by omega)]
theorem DownValid : slotmeshlaw21_DownValid.Pure := by
  intro l c s b f _ _ _ _ _
  refine ⟨5000, ?_⟩
  unfold slotmeshlaw21_DownValid.f slotmeshlaw21_head.f
  rw [short_eq]
  simp only [Option.bind_some]
  have hj : slotmeshlaw21_DownValid.j0 5000 l c s b f true true = some true := rfl
  by_cases h1 : l.length ≤ 70 ∧ b.length ≤ 70
  · rw [if_pos (decide_eq_true h1), Spec.rvalid_eq l (by omega) _ (by omega), Option.bind_some]
    by_cases hv : vld l = true
    · rw [hv]
      show slotmeshlaw21_DownValid.j0 (4999 + 1) l c s b f true false = some true
      simp only [slotmeshlaw21_DownValid.j0]
      rw [if_neg (by decide), Spec.learn_eq l c s b f (by omega) (by omega) _ (by decide)]
      simp only [Option.bind_some]
      rcases Spec.learn_cases l c s b f with ⟨h, e⟩ | ⟨h, e⟩
      · rw [e]
        dsimp only
        rw [if_pos rfl]
        have hlen := h.len
        refine dv_l0 l c b _ (by omega) (by omega) (by omega) (fun x hx => ?_) (fun x hx e1 e2 => ?_) h.valid ?_ l.length 4999 0 (by omega) (by omega)
        · rw [h.lk, Spec.mem_lk ((Spec.vld_iff l).1 hv).1 x hx]
          cases nlk c s b x.f0 <;> simp [comb]
        · have := Spec.mem_lk h.srt x hx
          rw [h.lk, e1, nlk, if_neg e2] at this
          intro e3
          rw [e3] at this; cases this
        · rw [h.lk, nlk, if_pos rfl]
          cases lk l c <;> simp [comb]
      · rw [e]; rfl
    · rw [Bool.eq_false_iff.2 hv]; exact hj
  · rw [if_neg (by simpa using h1)]; exact hj
end Pure
end Go.Proofs.Ythobfempjekhdaa.Px
