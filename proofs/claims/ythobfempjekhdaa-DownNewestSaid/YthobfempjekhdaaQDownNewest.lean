/- DownNewest: the pure statement, over numbers and lists alone. -/
import Derived.Test.YthobfempjekhdaaPx12
import Derived.Test.YthobfempjekhdaaSpec
namespace Go.Proofs.Ythobfempjekhdaa.Px
open Go.RowKit Go.Proofs.YthobfempjekhdaaW.PrintWords Go.Proofs.YthobfempjekhdaaW.PrintLast Go.Proofs.YthobfempjekhdaaW.PrintMore
set_option linter.unusedVariables false
set_option linter.unusedSimpArgs false
def slotmeshlaw21_DownNewest.Pure : Prop := ∀ (l0 : List S35) (a1 : Int) (a2 : Int) (l3 : List S35) (a4 : Int) (a5 : Int) (l6 : List Int), (l0.length ≤ maxLen ∧ ∀ x35 ∈ l0, True) → (Lit.int .i64 a1).wf = true → (Lit.int .i64 a2).wf = true → (l3.length ≤ maxLen ∧ ∀ x35 ∈ l3, True) → (Lit.int .i64 a4).wf = true → (Lit.int .u8 a5).wf = true → (l6.length ≤ maxLen ∧ ∀ x5 ∈ l6, (Lit.int .u8 x5).wf = true) → ∃ k, slotmeshlaw21_DownNewest.f k l0 a1 a2 l3 a4 a5 l6 = some true
namespace Pure
open Go.Proofs.Ythobfempjekhdaa.Px.Spec (lk at' vld Lok learnS mrg nlk comb nw pick)
theorem at_neg {l : List S35} {t : Int} (h : lk l t = none) : at' l t = -1 := by
  rcases Spec.at_lk l t with ⟨h1, _⟩ | ⟨n, _, _, h2, _⟩
  · exact h1
  · rw [h] at h2; cases h2
theorem at_pos {l : List S35} {t : Int} {x : S35} (h : lk l t = some x) : ∃ n : Nat, n < l.length ∧ at' l t = (n : Int) ∧ l.getD n z35 = x := by
  rcases Spec.at_lk l t with ⟨_, h1⟩ | ⟨n, h0, h1, h2, _⟩
  · rw [h] at h1; cases h1
  · rw [h] at h2; exact ⟨n, h0, h1, (Option.some.inj h2).symm⟩
theorem getD_mem {l : List S35} {i : Nat} (h : i < l.length) : l.getD i z35 ∈ l := by
  rw [List.getD_eq_getElem?_getD, List.getElem?_eq_getElem h]; exact List.getElem_mem h
theorem short_eq (l b : List S35) : slotmeshlaw21_short.f l b = some (decide (l.length ≤ 70 ∧ b.length ≤ 70)) := by
  unfold slotmeshlaw21_short.f
  by_cases h : (l.length : Int) ≤ 70
  · rw [if_pos h]; congr 1; rw [Bool.eq_iff_iff, decide_eq_true_iff, decide_eq_true_iff]; omega
  · rw [if_neg h]; congr 1; symm; exact decide_eq_false (by omega)
theorem u8_in {n : Int} (h : (Lit.int .u8 n).wf = true) : 0 ≤ n ∧ n ≤ 255 := by
  simp [Lit.wf, IntKind.min, IntKind.max, IntKind.signed, IntKind.bits] at h
  omega
theorem m60 {n : Int} (h0 : 0 ≤ n) (h1 : n ≤ 255) : Int.tmod (wrap64 n) 60 = n % 60 := by
  rw [show wrap64 n = n from by unfold wrap64; omega, Int.tmod_eq_emod_of_nonneg h0]
theorem rdl (l : List Int) (i : Nat) : rd l (i : Int) = l.getD i 0 := by simp [rd]
theorem getD_mem' {l : List Int} {i : Nat} (h : i < l.length) : l.getD i 0 ∈ l := by
  rw [List.getD_eq_getElem?_getD, List.getElem?_eq_getElem h]; exact List.getElem_mem h
/-- What the routes and the last child are after i rounds. -/
def NInv (t : Int) (i : Nat) (r : List S35) (last : Int) : Prop := vld r = true ∧ ((last = -1 ∧ lk r t = none) ∨ (0 ≤ last ∧ ∃ x, lk r t = some x ∧ x.f1 = last ∧ x.f2 ≤ (i : Int)))
theorem NInv.up {t : Int} {i : Nat} {r : List S35} {last : Int} (h : NInv t i r last) : NInv t (i + 1) r last := by
  refine ⟨h.1, ?_⟩
  rcases h.2 with h | ⟨h0, x, h1, h2, h3⟩
  · exact Or.inl h
  · exact Or.inr ⟨h0, x, h1, h2, by omega⟩
theorem dn_l1 (f t : Int) (t0 : 0 ≤ t) (t1 : t < 60) (f0 : 0 ≤ f) (f1 : f ≤ 999999997) (cs : List Int) (hcs : ∀ x ∈ cs, 0 ≤ x ∧ x ≤ 255) (hl : cs.length ≤ 30) : ∀ (d k i : Nat) (r : List S35) (last : Int), i + d = cs.length → d + 1001 < k → NInv t i r last → slotmeshlaw21_DownNewest.l1 k f true t r last cs (cs.length : Int) (i : Int) = some true
  | 0, k, i, r, last, hd, hk, H => by
    obtain ⟨k, rfl⟩ : ∃ q, k = q + 1 := ⟨k - 1, by omega⟩
    simp only [slotmeshlaw21_DownNewest.l1]
    have hlen := Spec.vld_len H.1
    rw [if_neg (by omega), Spec.next_eq r t (by omega) k (by omega)]
    simp only [Option.bind_some]
    rw [Spec.nextS, if_pos H.1]
    rcases H.2 with ⟨rfl, h⟩ | ⟨h0, x, h1, h2, h3⟩
    · rw [h]; rfl
    · rw [h1]; dsimp only; rw [if_pos trivial, if_pos rfl, if_pos h0, h2]; simp
  | d + 1, k, i, r, last, hd, hk, H => by
    obtain ⟨k, rfl⟩ : ∃ q, k = q + 1 := ⟨k - 1, by omega⟩
    simp only [slotmeshlaw21_DownNewest.l1]
    have hlen := Spec.vld_len H.1
    have hx := hcs _ (getD_mem' (show i < cs.length by omega))
    rw [if_pos (by omega), if_pos (by omega), if_pos (by omega), rdl, Spec.w1 (n := cs.length) (by omega) (by omega), m60 hx.1 hx.2]
    generalize hc : cs.getD i 0 % 60 = c
    have c0 : 0 ≤ c := by omega
    have c1 : c < 60 := by omega
    by_cases h : c = t
    · rw [if_pos h]
      exact dn_l1 f t t0 t1 f0 f1 cs hcs hl d k (i + 1) r last (by omega) (by omega) H.up
    · rw [if_neg h, Spec.learn_eq r c 0 _ f (by omega) (by simp) k (by omega)]
      simp only [Option.bind_some]
      have hok : Lok r c 0 [⟨t, 0, ((i + 1 : Nat) : Int), 0⟩] f := ⟨H.1, c0, c1, by omega, by omega, f0, f1, Spec.tld_of ⟨by show (-1 : Int) < t; omega, trivial⟩ (fun x hx => by rw [List.mem_singleton.1 hx]; exact ⟨t0, t1, by show (0 : Int) ≤ ((i + 1 : Nat) : Int); omega, by show ((i + 1 : Nat) : Int) ≤ 1000000000; omega⟩), fun x hx => by rw [List.mem_singleton.1 hx]; exact fun e => h e.symm⟩
      rw [Spec.learn_ok hok]
      dsimp only
      rw [if_pos rfl]
      refine dn_l1 f t t0 t1 f0 f1 cs hcs hl d k (i + 1) _ c (by omega) (by omega) ⟨hok.valid, Or.inr ⟨c0, ?_⟩⟩
      have hlk := hok.lk t
      rw [nlk, if_neg (fun e => h e.symm), Spec.lk_cons, if_pos (rfl : (⟨t, 0, ((i + 1 : Nat) : Int), 0⟩ : S35).f0 = t)] at hlk
      have fin : (mrg r c 0 [⟨t, 0, ((i + 1 : Nat) : Int), 0⟩] f) = (mrg r c 0 [⟨t, 0, ((i + 1 : Nat) : Int), 0⟩] f) := rfl
      rcases H.2 with ⟨_, h1⟩ | ⟨_, x, h1, h2, h3⟩
      · rw [h1] at hlk
        exact ⟨_, hlk, rfl, Int.le_refl _⟩
      · rw [h1] at hlk
        have : pick c (f + 3) ⟨t, 0, ((i + 1 : Nat) : Int), 0⟩ x = nw c (f + 3) ⟨t, 0, ((i + 1 : Nat) : Int), 0⟩ := by
          rw [pick, if_neg]
          intro e
          have := e.2
          have : ((i + 1 : Nat) : Int) ≤ x.f2 := this
          omega
        rw [comb, this] at hlk
        exact ⟨_, hlk, rfl, Int.le_refl _⟩
theorem dn_l0 (l m : List S35) (c f a5 : Int) (cs : List Int) (h5 : 0 ≤ a5 ∧ a5 ≤ 255) (f0 : 0 ≤ f) (f1 : f ≤ 999999997) (hcs : ∀ x ∈ cs, 0 ≤ x ∧ x ≤ 255) (hl : cs.length ≤ 30) (hll : l.length ≤ 1000) (hm : m.length ≤ 1000) (G : ∀ x ∈ l, ∃ z, lk m x.f0 = some z ∧ (x.f1 ≠ c → x.f2 ≤ z.f2)) : ∀ (d k i : Nat), i + d = l.length → d + 2002 < k → slotmeshlaw21_DownNewest.l0 k c f a5 cs true m l (l.length : Int) (i : Int) = some true
  | 0, k, i, hd, hk => by
    obtain ⟨k, rfl⟩ : ∃ q, k = q + 1 := ⟨k - 1, by omega⟩
    simp only [slotmeshlaw21_DownNewest.l0]
    rw [if_neg (by omega), m60 h5.1 h5.2]
    exact dn_l1 f (a5 % 60) (by omega) (by omega) f0 f1 cs hcs hl cs.length k 0 [] (-1) (by omega) (by omega) ⟨rfl, Or.inl ⟨rfl, rfl⟩⟩
  | d + 1, k, i, hd, hk => by
    obtain ⟨k, rfl⟩ : ∃ q, k = q + 1 := ⟨k - 1, by omega⟩
    simp only [slotmeshlaw21_DownNewest.l0]
    have ih := dn_l0 l m c f a5 cs h5 f0 f1 hcs hl hll hm G d k (i + 1) (by omega) (by omega)
    rw [if_pos (by omega), if_pos (by omega), if_pos (by omega), Spec.rdn, Spec.rfind_eq m _ (by omega) k (by omega), Spec.w1 (n := l.length) (by omega) (by omega), ih]
    simp only [Option.bind_some]
    obtain ⟨z, h1, h2⟩ := G _ (getD_mem (show i < l.length by omega))
    obtain ⟨n, h4, h5, h6⟩ := at_pos h1
    rw [h5, Spec.rdn, h6, if_neg (by omega), if_pos (by omega), if_pos (by omega)]
    by_cases h7 : z.f2 < (l.getD i z35).f2
    · rw [if_pos h7]
      by_cases h8 : (l.getD i z35).f1 = c
      · rw [if_pos h8]
      · have := h2 h8; omega
    · rw [if_neg h7]
theorem DownNewest : slotmeshlaw21_DownNewest.Pure := by
  intro l c s b f a5 cs _ _ _ _ _ h5 hcs
  refine ⟨5000, ?_⟩
  unfold slotmeshlaw21_DownNewest.f slotmeshlaw21_head.f
  rw [short_eq]
  simp only [Option.bind_some]
  have hj : slotmeshlaw21_DownNewest.j0 5000 l c s b f a5 cs true true = some true := rfl
  by_cases h1 : l.length ≤ 70 ∧ b.length ≤ 70
  · rw [if_pos (decide_eq_true h1), Spec.rvalid_eq l (by omega) _ (by omega), Option.bind_some]
    by_cases hv : vld l = true
    · rw [if_pos hv]
      by_cases h2 : (cs.length : Int) > 30
      · rw [decide_eq_true h2]; exact hj
      · rw [decide_eq_false h2]
        show slotmeshlaw21_DownNewest.j0 (4999 + 1) l c s b f a5 cs true false = some true
        simp only [slotmeshlaw21_DownNewest.j0]
        rw [if_neg (by decide), Spec.learn_eq l c s b f (by omega) (by omega) _ (by decide)]
        simp only [Option.bind_some]
        rcases Spec.learn_cases l c s b f with ⟨h, e⟩ | ⟨h, e⟩
        · rw [e]
          dsimp only
          rw [if_pos rfl]
          have hlen := h.len
          refine dn_l0 l _ c f a5 cs (u8_in h5) h.f0 h.f1 (fun x hx => u8_in (hcs.2 x hx)) (by omega) (by omega) (by omega) (fun x hx => ?_) l.length 4999 0 (by omega) (by omega)
          have hx := Spec.mem_lk ((Spec.vld_iff l).1 hv).1 x hx
          rw [h.lk, hx]
          cases nlk c s b x.f0 with
          | none => exact ⟨x, rfl, fun _ => Int.le_refl _⟩
          | some d =>
            refine ⟨_, rfl, fun hc => ?_⟩
            unfold Spec.pick
            by_cases h9 : x.f2 ≥ d.f2
            · rw [if_pos ⟨hc, h9⟩]; exact Int.le_refl _
            · rw [if_neg (fun e => h9 e.2)]; show x.f2 ≤ d.f2; omega
        · rw [e]; rfl
    · rw [if_neg hv]; exact hj
  · rw [if_neg (by simpa using h1)]; exact hj
end Pure
end Go.Proofs.Ythobfempjekhdaa.Px
