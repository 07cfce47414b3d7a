/- QueueBack: the pure statement, over numbers and lists alone. -/
import Derived.Test.YtcjnjgafhfkegaaPx15
import Derived.Test.YtcjnjgafhfkegaaSpec
namespace Go.Proofs.Ytcjnjgafhfkegaa.Px
open Go.RowKit Go.Proofs.YtcjnjgafhfkegaaW.PrintWords Go.Proofs.YtcjnjgafhfkegaaW.PrintLast Go.Proofs.YtcjnjgafhfkegaaW.PrintMore
set_option linter.unusedVariables false
set_option linter.unusedSimpArgs false
def slotmeshlaw27_QueueBack.Pure : Prop := ∀ (l0_0 : List S26) (a1 : Int) (a2 : Int), l0_0.length ≤ 9223372036854775807 → (Lit.int .i64 a1).wf = true → (Lit.int .i64 a2).wf = true → ∃ k, slotmeshlaw27_QueueBack.f k l0_0 a1 a2 = some true
namespace Pure
def upto (o n : Int) (x : S26) : Bool := decide (x.f0 = o ∧ 1 ≤ x.f1 ∧ x.f1 < n)
theorem count_more {α : Type} (p q : α → Bool) (h : ∀ x, p x = true → q x = true) : ∀ l : List α, (∃ x ∈ l, q x = true ∧ p x = false) → l.countP p + 1 ≤ l.countP q
  | [], ⟨x, hx, _⟩ => absurd hx List.not_mem_nil
  | y :: r, ⟨x, hx, h1, h2⟩ => by
    have hm : r.countP p ≤ r.countP q := List.countP_mono_left fun x _ => h x
    rw [List.countP_cons, List.countP_cons]
    rcases List.mem_cons.1 hx with rfl | hx
    · rw [if_pos h1, if_neg (by rw [h2]; decide)]; omega
    · have := count_more p q h r ⟨x, hx, h1, h2⟩
      by_cases hy : p y = true
      · rw [if_pos hy, if_pos (h y hy)]; omega
      · rw [if_neg hy]; omega
theorem upto_more (o : Int) (n : Nat) (hn : 1 ≤ n) (q : List S26) (h : ∃ x ∈ q, nm26 o n x = true) : q.countP (upto o n) + 1 ≤ q.countP (upto o ((n + 1 : Nat) : Int)) := by
  refine count_more _ _ (fun x hx => ?_) q ?_
  · have := of_decide_eq_true hx
    exact decide_eq_true ⟨this.1, this.2.1, by omega⟩
  · obtain ⟨x, hx, h⟩ := h
    have := (nm_iff _ _ _).1 h
    exact ⟨x, hx, decide_eq_true ⟨this.1, by omega, by omega⟩, decide_eq_false (by omega)⟩
theorem qb_end (k : Nat) (len t : Nat) (hl : len ≤ 16) (h : (t < 3 ∧ 16 ≤ len + t) ∨ (t = 3 ∧ len + t ≤ 16)) :
    (if decide (14 ≤ len) = true then (if (t : Int) < 3 then some true else some false) else (if (t : Int) < 3 then some false else some true)) = some true := by
  by_cases h1 : 14 ≤ len
  · rw [if_pos (decide_eq_true h1), if_pos (by omega)]
  · rw [if_neg (by rw [decide_eq_false h1]; decide), if_neg (by omega)]
theorem qb_l0 (len : Nat) (me value o : Int) (hm0 : 0 ≤ me) (hm1 : me < 60) (ho0 : 0 ≤ o) (ho1 : o < 60) (hom : o ≠ me) (hlen : len ≤ 16) : ∀ (d k n t : Nat) (q : List S26), n + d = 41 → 1 ≤ n → 2 * d + 100 < k → VP q → q.length = len + t → t ≤ 3 → n ≤ q.countP (upto o n) + 1 →
    slotmeshlaw27_QueueBack.l0 k me value true (decide (14 ≤ len)) o (t : Int) (n : Int) q = some true
  | 0, k, n, t, q, hd, hn, hk, hV, hq, ht, hc => by
    have := List.countP_le_length (p := upto o n) (l := q)
    have := hV.2.2
    omega
  | d + 1, k, n, t, q, hd, hn, hk, hV, hq, ht, hc => by
    obtain ⟨k, rfl⟩ : ∃ m, k = m + 2 := ⟨k - 2, by omega⟩
    have ih := qb_l0 len me value o hm0 hm1 ho0 ho1 hom hlen d k (n + 1)
    have hl16 := hV.2.2
    simp only [slotmeshlaw27_QueueBack.l0]
    rw [if_pos (by omega)]
    simp only [slotmeshlaw27_QueueBack.j2]
    by_cases h3 : (t : Int) < 3
    · rw [if_pos (decide_eq_true h3), rfind_eq q o n (by omega) k (by omega), Option.bind_some, w1 (n := 100) (by omega) (by omega)]
      by_cases hf : qidx q o n ≥ 0
      · rw [if_pos hf]
        have hin : ∃ x ∈ q, nm26 o n x = true := by
          refine Classical.byContradiction fun hc => ?_
          have : qidx q o n < 0 := qidx_neg.2 fun x hx => Bool.eq_false_iff.2 fun h => hc ⟨x, hx, h⟩
          omega
        have := upto_more o n hn q hin
        exact ih t q (by omega) (by omega) (by omega) hV hq ht (by omega)
      · rw [if_neg hf, put_eq q o n 0 value 0 me (by omega) k (by omega), Option.bind_some]
        have hno := qidx_neg.1 (show qidx q o n < 0 by omega)
        have hfr : frm ⟨o, (n : Int), 0, value, 0⟩ = true := decide_eq_true ⟨ho0, ho1, show (1 : Int) ≤ (n : Int) by omega, show (n : Int) ≤ 1000000000 by omega, Or.inl rfl, Int.le_refl _, show (0 : Int) ≤ 1000000000 by omega⟩
        have hp := put_ok (r := ⟨o, (n : Int), 0, value, 0⟩) (me := me) hV hfr hm0 hm1 hno
        dsimp only at hp
        by_cases h16 : q.length = 16
        · rw [if_pos (Or.inl h16)] at hp
          rw [hp]
          dsimp only
          rw [if_neg (by decide), if_pos trivial]
          exact qb_end k len t hlen (Or.inl ⟨by omega, by omega⟩)
        · rw [if_neg (fun h => h.elim h16 (fun h => hom h.2))] at hp
          have hV2 : VP (q ++ [(⟨o, (n : Int), 0, value, 0⟩ : S26)]) := by
            have hz : (putS q ⟨o, (n : Int), 0, value, 0⟩ me).2 = 0 := by rw [hp]
            exact (put_VP hz).2.2.2.1
          rw [hp]
          dsimp only
          rw [if_pos rfl, w1 (n := 100) (by omega) (by omega)]
          have hm := upto_more o n hn (q ++ [(⟨o, (n : Int), 0, value, 0⟩ : S26)]) ⟨_, List.mem_append_right _ (List.mem_singleton.2 rfl), (nm_iff _ _ _).2 ⟨rfl, rfl⟩⟩
          rw [List.countP_append (p := upto o n)] at hm
          have hge : q.countP (upto o n) ≤ (q ++ [(⟨o, (n : Int), 0, value, 0⟩ : S26)]).countP (upto o n) := by rw [List.countP_append]; exact Nat.le_add_right _ _
          have hl1 : (q ++ [(⟨o, (n : Int), 0, value, 0⟩ : S26)]).length = len + (t + 1) := by rw [List.length_append, hq]; exact Nat.add_assoc _ _ _
          exact ih (t + 1) _ (by omega) (by omega) (by omega) hV2 hl1 (by omega) (by omega)
    · rw [if_neg (by rw [decide_eq_false h3]; decide), if_pos trivial]
      exact qb_end k len t hlen (Or.inr ⟨by omega, by omega⟩)
theorem QueueBack : slotmeshlaw27_QueueBack.Pure := by
  intro l me value hn _ _
  refine ⟨(2 * l.length + 299) + 1, ?_⟩
  unfold slotmeshlaw27_QueueBack.f slotmeshlaw27_head.f slotmeshlaw27_short.f
  simp only [Option.bind_some]
  have hj : ∀ k x, slotmeshlaw27_QueueBack.j0 (k + 1) me value true true x = some true := fun k x => by simp [slotmeshlaw27_QueueBack.j0]
  by_cases h : (l.length : Int) ≤ 40
  · rw [if_pos (by simpa using h), rvalid_eq l hn _ (by omega)]
    simp only [Option.bind_some]
    by_cases hv : vld l = true
    · rw [if_pos hv]
      by_cases h0 : me < 0
      · rw [if_pos h0, hj]
      · rw [if_neg h0]
        by_cases h1 : me ≥ 60
        · rw [decide_eq_true h1, hj]
        · rw [decide_eq_false h1]
          have hV := (vld_iff l).1 hv
          have hlen := hV.2.2
          simp only [slotmeshlaw27_QueueBack.j0]
          have hfu : fullS l = decide (14 ≤ l.length) := by unfold fullS; rw [hv, Bool.true_and]
          rw [if_neg (by decide), full_eq l hn _ (by omega), hfu, Option.bind_some]
          have hw : wrap64 (me + 1) = me + 1 := by unfold wrap64; omega
          have ho : Int.tmod (wrap64 (me + 1)) 60 = (me + 1) % 60 := by rw [hw, Int.tmod_eq_emod_of_nonneg (by omega)]
          rw [ho]
          exact qb_l0 l.length me value ((me + 1) % 60) (by omega) (by omega) (by omega) (by omega) (by omega) hlen 40 _ 1 0 l (by omega) (by omega) (by omega) hV (by omega) (by omega) (by omega)
    · rw [if_neg hv, hj]
  · rw [if_neg (by simpa using h), hj]
end Pure
end Go.Proofs.Ytcjnjgafhfkegaa.Px
