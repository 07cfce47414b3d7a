/- DownTells: the pure statement, over numbers and lists alone. -/
import Derived.Test.YthobfempjekhdaaPx16
import Derived.Test.YthobfempjekhdaaSpec
namespace Go.Proofs.Ythobfempjekhdaa.Px
open Go.RowKit Go.Proofs.YthobfempjekhdaaW.PrintWords Go.Proofs.YthobfempjekhdaaW.PrintLast Go.Proofs.YthobfempjekhdaaW.PrintMore
set_option linter.unusedVariables false
set_option linter.unusedSimpArgs false
def slotmeshlaw21_DownTells.Pure : Prop := ∀ (l0 : List S35) (a1 : Int) (a2 : Int) (a3 : Int), (l0.length ≤ maxLen ∧ ∀ x35 ∈ l0, True) → (Lit.int .i64 a1).wf = true → (Lit.int .i64 a2).wf = true → (Lit.int .i64 a3).wf = true → ∃ k, slotmeshlaw21_DownTells.f k l0 a1 a2 a3 = some true
namespace Pure
open Go.Proofs.Ythobfempjekhdaa.Px.Spec (lk at' vld Lok learnS mrg nlk comb nw pick)
theorem at_neg {l : List S35} {t : Int} (h : lk l t = none) : at' l t = -1 := by
  rcases Spec.at_lk l t with ⟨h1, _⟩ | ⟨n, _, _, h2, _⟩
  · exact h1
  · rw [h] at h2; cases h2
theorem at_pos {l : List S35} {t : Int} {x : S35} (h : lk l t = some x) : ∃ n : Nat, n < l.length ∧ at' l t = (n : Int) ∧ l.getD n z35 = x := by
  rcases Spec.at_lk l t with ⟨_, h1⟩ | ⟨n, h0, h1, h2, _⟩
  · rw [h] at h1; cases h1
  · rw [h] at h2; exact ⟨n, h0, h1, (Option.some.inj h2).symm⟩
theorem getD_mem {l : List S35} {i : Nat} (h : i < l.length) : l.getD i z35 ∈ l := by
  rw [List.getD_eq_getElem?_getD, List.getElem?_eq_getElem h]; exact List.getElem_mem h
theorem short_eq (l b : List S35) : slotmeshlaw21_short.f l b = some (decide (l.length ≤ 70 ∧ b.length ≤ 70)) := by
  unfold slotmeshlaw21_short.f
  by_cases h : (l.length : Int) ≤ 70
  · rw [if_pos h]; congr 1; rw [Bool.eq_iff_iff, decide_eq_true_iff, decide_eq_true_iff]; omega
  · rw [if_neg h]; congr 1; symm; exact decide_eq_false (by omega)
theorem news_length (c s : Int) : ∀ (l : List S35) (p : Option Int) (b : Int), (p.all fun q => decide (q < c)) = true → Spec.Srt b l → (∀ x ∈ l, x.f0 ≠ c) → (newsL c s p l).length = l.length + 1
  | [], p, b, hp, _, _ => by unfold newsL; rw [if_pos hp]; rfl
  | x :: l, p, b, hp, hs, hc => by
    unfold newsL
    have hxc := hc x List.mem_cons_self
    by_cases hx : x.f0 > c
    · rw [if_pos ⟨hx, hp⟩, Spec.news_some c s x.f0 (by omega) l hs.2]; simp
    · rw [if_neg (fun h => hx h.1)]
      have ih := news_length c s l (some x.f0) x.f0 (by simp; omega) hs.2 (fun y hy => hc y (List.mem_cons_of_mem _ hy))
      simp [ih]
theorem mg_nil (c s : Int) : ∀ n : List S35, Spec.mg c s n [] = n.map (nw c s)
  | [] => by rw [Spec.mg]; rfl
  | d :: n => by rw [Spec.mg, mg_nil c s n]; rfl
theorem tl_srt : ∀ (l : List S35) (b : Int), Spec.Srt b l → Spec.Srt b (l.map Spec.tl)
  | [], _, _ => trivial
  | x :: l, b, h => ⟨h.1, tl_srt l x.f0 h.2⟩
theorem tl_lk (t : Int) : ∀ l : List S35, lk (l.map Spec.tl) t = (lk l t).map Spec.tl
  | [] => rfl
  | x :: l => by
    rw [List.map_cons, Spec.lk_cons, Spec.lk_cons, tl_lk t l]
    by_cases h : x.f0 = t
    · rw [if_pos h, if_pos (show (Spec.tl x).f0 = t from h)]; rfl
    · rw [if_neg h, if_neg (show ¬ (Spec.tl x).f0 = t from h)]
theorem tl_tld {l : List S35} (h : vld l = true) : Spec.tld (-1) (l.map Spec.tl) = true := by
  have h := (Spec.vld_iff l).1 h
  refine Spec.tld_of (tl_srt l _ h.1) fun x hx => ?_
  obtain ⟨y, hy, rfl⟩ := List.mem_map.1 hx
  exact (h.2 y hy).1
theorem dt_l0 (c : Int) (m y : List S35) (hm : m.length ≤ 1000) (hy : y.length ≤ 1000) (H : ∀ x ∈ y, ∃ z, lk m x.f0 = some z ∧ z.f1 = c ∧ z.f2 = x.f2) : ∀ (d k i : Nat), i + d = y.length → d + 1001 < k → slotmeshlaw21_DownTells.l0 k c true m y (y.length : Int) (i : Int) = some true
  | 0, k, i, hd, hk => by
    obtain ⟨k, rfl⟩ : ∃ q, k = q + 1 := ⟨k - 1, by omega⟩
    simp only [slotmeshlaw21_DownTells.l0]
    rw [if_neg (by omega)]
  | d + 1, k, i, hd, hk => by
    obtain ⟨k, rfl⟩ : ∃ q, k = q + 1 := ⟨k - 1, by omega⟩
    simp only [slotmeshlaw21_DownTells.l0]
    rw [if_pos (by omega), if_pos (by omega), if_pos (by omega), Spec.rdn, Spec.rfind_eq m _ (by omega) k (by omega), Spec.w1 (n := y.length) (by omega) (by omega), dt_l0 c m y hm hy H d k (i + 1) (by omega) (by omega)]
    simp only [Option.bind_some]
    obtain ⟨z, h1, h2, h3⟩ := H _ (getD_mem (show i < y.length by omega))
    obtain ⟨n, h4, h5, h6⟩ := at_pos h1
    rw [h5, Spec.rdn, h6, if_neg (by omega), if_pos (by omega), if_pos (by omega), if_pos h2, if_pos h3]
theorem dt_go (l : List S35) (c s f : Int) (hl : l.length ≤ 70) (hv : vld l = true) (hc : lk l c = none) (c0 : 0 ≤ c) (c1 : c < 60) (s0 : 0 ≤ s) (s1 : s ≤ 1000000000) (f0 : 0 ≤ f) (f1 : f ≤ 999999997) (k : Nat) (hk : 3000 < k) : slotmeshlaw21_DownTells.j0 (k + 2) l c s f true false = some true := by
  simp only [slotmeshlaw21_DownTells.j0]
  have hv' := (Spec.vld_iff l).1 hv
  have ht : Spec.tellS l = l.map Spec.tl := if_pos hv
  have hlt : (l.map Spec.tl).length = l.length := List.length_map ..
  rw [if_neg (by decide), Spec.tell_eq l (by omega) _ (by omega)]
  simp only [Option.bind_some]
  rw [ht, Spec.learn_eq [] c s _ f (by simp) (by omega) _ (by omega)]
  have hcn : ∀ x ∈ l.map Spec.tl, x.f0 ≠ c := fun x hx e => by
    obtain ⟨y, hy, rfl⟩ := List.mem_map.1 hx
    have h1 := Spec.mem_lk hv'.1 y hy
    have h2 : y.f0 = c := e
    rw [h2, hc] at h1; cases h1
  have hok : Lok [] c s (l.map Spec.tl) f := ⟨rfl, c0, c1, s0, s1, f0, f1, tl_tld hv, hcn⟩
  simp only [Option.bind_some]
  rw [Spec.learn_ok hok]
  dsimp only
  have hlen : (mrg [] c s (l.map Spec.tl) f).length = l.length + 1 := by
    rw [mrg, mg_nil, List.length_map, news_length c s _ none (-1) rfl (tl_srt l _ hv'.1) hcn, hlt]
  rw [if_pos rfl, hlen, show wrap64 ((l.length : Int) + 1) = ((l.length + 1 : Nat) : Int) from Spec.w1 (n := 100) (by omega) (by omega)]
  rw [show (((l.length + 1 : Nat) : Int) != ((l.length + 1 : Nat) : Int)) = false from bne_self_eq_false _]
  simp only [slotmeshlaw21_DownTells.j1]
  rw [if_neg (by decide)]
  simp only [Option.bind_some]
  rw [if_pos (by simp; omega)]
  refine dt_l0 c _ _ (by omega) (by simp; omega) (fun x hx => ?_) _ k 0 (Nat.zero_add _) (by simp; omega)
  rw [hok.lk, nlk]
  by_cases e : x.f0 = c
  · rw [if_pos e]
    refine ⟨_, rfl, rfl, ?_⟩
    rcases List.mem_append.1 hx with hx | hx
    · rw [List.mem_singleton.1 hx]; rfl
    · have h1 := Spec.mem_lk hv'.1 x hx
      rw [e, hc] at h1; cases h1
  · rw [if_neg e, tl_lk]
    rcases List.mem_append.1 hx with hx | hx
    · exact absurd (by rw [List.mem_singleton.1 hx]) e
    · rw [Spec.mem_lk hv'.1 x hx]
      exact ⟨_, rfl, rfl, rfl⟩
theorem DownTells : slotmeshlaw21_DownTells.Pure := by
  intro l c s f _ _ _ _
  refine ⟨5000, ?_⟩
  unfold slotmeshlaw21_DownTells.f slotmeshlaw21_head.f
  rw [short_eq]
  simp only [Option.bind_some]
  have hj : slotmeshlaw21_DownTells.j0 5000 l c s f true true = some true := rfl
  by_cases h1 : l.length ≤ 70
  · rw [if_pos (decide_eq_true ⟨h1, by simp⟩), Spec.rvalid_eq l (by omega) _ (by omega), Option.bind_some]
    by_cases hv : vld l = true
    · rw [if_pos hv, Spec.rfind_eq l c (by omega) _ (by omega), Option.bind_some]
      by_cases h2 : at' l c ≥ 0
      · rw [if_pos h2]; exact hj
      · rw [if_neg h2]
        have hc : lk l c = none := by
          cases e : lk l c with
          | none => rfl
          | some x => obtain ⟨n, _, h4, _⟩ := at_pos e; omega
        by_cases h3 : c < 0
        · rw [if_pos h3]; exact hj
        rw [if_neg h3]
        by_cases h4 : c ≥ 60
        · rw [if_pos h4]; exact hj
        rw [if_neg h4]
        by_cases h5 : s < 0
        · rw [if_pos h5]; exact hj
        rw [if_neg h5]
        by_cases h6 : s > 1000000000
        · rw [if_pos h6]; exact hj
        rw [if_neg h6]
        by_cases h7 : f < 0
        · rw [if_pos h7]; exact hj
        rw [if_neg h7]
        by_cases h8 : f > 999999997
        · rw [decide_eq_true h8]; exact hj
        rw [decide_eq_false h8]
        exact dt_go l c s f h1 hv hc (by omega) (by omega) (by omega) (by omega) (by omega) (by omega) 4998 (by omega)
    · rw [if_neg hv]; exact hj
  · rw [if_neg (by simp; omega)]; exact hj
end Pure
end Go.Proofs.Ythobfempjekhdaa.Px
