/- QueueValid: the pure statement, over numbers and lists alone. -/
import Derived.Test.YtcjnjgafhfkegaaPx13
import Derived.Test.YtcjnjgafhfkegaaSpec
namespace Go.Proofs.Ytcjnjgafhfkegaa.Px
open Go.RowKit Go.Proofs.YtcjnjgafhfkegaaW.PrintWords Go.Proofs.YtcjnjgafhfkegaaW.PrintLast Go.Proofs.YtcjnjgafhfkegaaW.PrintMore
set_option linter.unusedVariables false
set_option linter.unusedSimpArgs false
def slotmeshlaw27_QueueValid.Pure : Prop := ∀ (l0_0 : List S26) (a1_0 : Int) (a1_1 : Int) (a1_2 : Int) (a1_3 : Int) (a1_4 : Int) (a2 : Int) (a3 : Int) (a4 : Int), l0_0.length ≤ 9223372036854775807 → (Lit.int .i64 a2).wf = true → (Lit.int .i64 a3).wf = true → (Lit.int .i64 a4).wf = true → ∃ k, slotmeshlaw27_QueueValid.f k l0_0 a1_0 a1_1 a1_2 a1_3 a1_4 a2 a3 a4 = some true
namespace Pure
theorem qv_j3 (l : List S26) (hV : VP l) (me a b c d e : Int) (k : Nat) (hk : 100 < k) : slotmeshlaw27_QueueValid.j3 k me true false l a b c d e = some true := by
  obtain ⟨k, rfl⟩ : ∃ m, k = m + 1 := ⟨k - 1, by omega⟩
  have hlen := hV.2.2
  simp only [slotmeshlaw27_QueueValid.j3]
  rw [if_neg (by decide), put_eq l _ _ _ _ _ me (by omega) k (by omega)]
  simp only [Option.bind_some]
  rw [if_pos trivial]
  by_cases h : (putS l ⟨a, b, c, d, e⟩ me).2 = 0
  · obtain ⟨_, hf, h1, hV2, hq, hl⟩ := put_VP h
    have hl2 := hV2.2.2
    rw [if_pos h, h1, rvalid_eq _ (by omega) k (by omega), (vld_iff _).2 hV2, Option.bind_some]
    have hw : wrap64 ((l.length : Int) + 1) = ((l.length + 1 : Nat) : Int) := by unfold wrap64; omega
    rw [if_pos rfl, hw, if_pos (by rw [List.length_append]; rfl), drop_eq _ _ _ (by omega) k (by omega)]
    have hd : dropS (l ++ [(⟨a, b, c, d, e⟩ : S26)]) a b = l := by
      unfold dropS
      rw [if_pos ((vld_iff _).2 hV2)]
      unfold out26
      rw [List.filter_append]
      have h2 : l.filter (fun x => !nm26 a b x) = l := out_of_none hq
      rw [h2]
      simp [nm26]
    rw [hd, Option.bind_some, same_eq l (by omega) k (by omega), Option.bind_some]
  · rw [if_neg h]
theorem out_yes {o n : Int} {y : S26} (h : nm26 o n y = true) : out26 o n [y] = [] := by
  unfold out26; rw [List.filter_cons, if_neg (by rw [h]; decide)]; rfl
theorem out_no {o n : Int} {y : S26} (r : List S26) (h : nm26 o n y = false) : out26 o n (y :: r) = y :: out26 o n r := by
  unfold out26; rw [List.filter_cons, if_pos (by rw [h]; rfl)]
theorem getD_mid (p r : List S26) (y : S26) : (p ++ y :: r).getD p.length z26 = y := by
  rw [List.getD_eq_getElem?_getD, List.getElem?_append_right (Nat.le_refl _), Nat.sub_self]; rfl
theorem take_succ_getD (l : List S26) (i : Nat) (h : i < l.length) : l.take (i + 1) = l.take i ++ [l.getD i z26] := by
  rw [List.take_succ_eq_append_getElem h, getD_eq l i h]
theorem qv_l0 (l : List S26) (hV : VP l) (me o n a b c d e : Int) : ∀ (dd k i : Nat), i + dd = l.length → 2 * dd + 200 < k →
    slotmeshlaw27_QueueValid.l0 k me o n true ((out26 o n (l.take i)).length : Int) l (l.length : Int) (i : Int) l a b c d e (out26 o n l) = some true
  | 0, k, i, hd, hk => by
    obtain ⟨k, rfl⟩ : ∃ m, k = m + 1 := ⟨k - 1, by omega⟩
    have hlen := hV.2.2
    have hVo := out_VP o n hV
    have hlo := hVo.2.2
    simp only [slotmeshlaw27_QueueValid.l0]
    rw [if_neg (by omega), List.take_of_length_le (by omega), if_pos rfl, rvalid_eq _ (by omega) k (by omega), (vld_iff _).2 hVo]
    simp only [Option.bind_some]
    exact qv_j3 l hV me a b c d e k (by omega)
  | dd + 1, k, i, hd, hk => by
    obtain ⟨k, rfl⟩ : ∃ m, k = m + 2 := ⟨k - 2, by omega⟩
    have hlen := hV.2.2
    have hil : i < l.length := by omega
    have ih := qv_l0 l hV me o n a b c d e dd k (i + 1) (by omega) (by omega)
    have hsplit : out26 o n l = out26 o n (l.take i) ++ out26 o n (l.drop i) := by
      unfold out26; rw [← List.filter_append, List.take_append_drop]
    have ht : out26 o n (l.take (i + 1)) = out26 o n (l.take i) ++ out26 o n [l.getD i z26] := by
      rw [take_succ_getD l i hil]; unfold out26; rw [List.filter_append]
    have hdr := drop_cons_getD l i z26 hil
    have hno : (out26 o n l).length ≤ l.length := List.length_filter_le _ _
    simp only [slotmeshlaw27_QueueValid.l0]
    rw [if_pos (by omega), if_pos (by omega), if_pos (by omega), rdn]
    have hyes : nm26 o n (l.getD i z26) = true → slotmeshlaw27_QueueValid.l0 k me o n true ((out26 o n (l.take i)).length : Int) l (l.length : Int) ((i + 1 : Nat) : Int) l a b c d e (out26 o n l) = some true := fun h => by
      have : out26 o n [l.getD i z26] = [] := out_yes h
      rw [ht, this, List.append_nil] at ih
      exact ih
    have hno' : ∀ x, nm26 o n (l.getD i z26) = false → x = l.getD i z26 → slotmeshlaw27_QueueValid.j2 (k + 1) me o n true ((out26 o n (l.take i)).length : Int) l (l.length : Int) (i : Int) false l a b c d e (out26 o n l) x.f0 x.f1 x.f2 x.f3 x.f4 = some true := fun x h hx => by
      have h1 : out26 o n [l.getD i z26] = [l.getD i z26] := out_no [] h
      rw [ht, h1, List.length_append] at ih
      have hget : (out26 o n l).getD (out26 o n (l.take i)).length z26 = l.getD i z26 := by
        rw [hsplit, hdr]
        rw [out_no _ h]
        exact getD_mid _ _ _
      have hlt : (out26 o n (l.take i)).length < (out26 o n l).length := by
        rw [hsplit, hdr]
        rw [out_no _ h, List.length_append, List.length_cons]; omega
      simp only [slotmeshlaw27_QueueValid.j2]
      rw [if_neg (by decide), if_neg (by omega), if_pos (by omega), if_pos (by omega), rdn, hget, hx, if_neg (by simp), w1 (n := (out26 o n l).length) hlt (by omega), w1 (n := l.length) hil (by omega)]
      exact ih
    by_cases h1 : (l.getD i z26).f0 = o
    · rw [if_pos h1]
      by_cases h2 : (l.getD i z26).f1 = n
      · rw [h2, beq_self_eq_true]
        simp only [slotmeshlaw27_QueueValid.j2]
        rw [if_pos trivial, w1 (n := l.length) hil (by omega)]
        exact hyes ((nm_iff _ _ _).2 ⟨h1, h2⟩)
      · rw [show ((l.getD i z26).f1 == n) = false from beq_eq_false_iff_ne.2 h2]
        exact hno' _ (Bool.eq_false_iff.2 (fun h => h2 ((nm_iff _ _ _).1 h).2)) rfl
    · rw [if_neg h1]
      exact hno' _ (Bool.eq_false_iff.2 (fun h => h1 ((nm_iff _ _ _).1 h).1)) rfl
theorem QueueValid : slotmeshlaw27_QueueValid.Pure := by
  intro l a b c d e me o n hn _ _ _
  refine ⟨(4 * l.length + 1000) + 1, ?_⟩
  unfold slotmeshlaw27_QueueValid.f slotmeshlaw27_head.f slotmeshlaw27_short.f
  simp only [Option.bind_some]
  have hj : ∀ k x a b c d e, slotmeshlaw27_QueueValid.j0 (k + 1) me o n true true x a b c d e = some true := fun k x a b c d e => by simp [slotmeshlaw27_QueueValid.j0]
  by_cases h : (l.length : Int) ≤ 40
  · rw [if_pos (by simpa using h), rvalid_eq l hn _ (by omega)]
    simp only [Option.bind_some]
    by_cases hv : vld l = true
    · have hV := (vld_iff l).1 hv
      have hlen := hV.2.2
      rw [hv]
      simp only [slotmeshlaw27_QueueValid.j0, Bool.not_true]
      rw [if_neg (by decide), drop_eq l o n hn _ (by omega)]
      simp only [Option.bind_some]
      have hd : dropS l o n = out26 o n l := by unfold dropS; rw [if_pos hv]
      rw [hd]
      have := qv_l0 l hV me o n a b c d e l.length (4 * l.length + 1000) 0 (by omega) (by omega)
      simpa [out26] using this
    · rw [Bool.eq_false_iff.2 hv]
      exact hj _ _ _ _ _ _ _
  · rw [if_neg (by simpa using h), hj]
end Pure
end Go.Proofs.Ytcjnjgafhfkegaa.Px
