/- What the functions of the reference compute, as plain functions of lists. -/
import Derived.Test.YtcjnjgafhfkegaaSpec
import Derived.Test.YtcjnjgafhfkegaaPx9
import Derived.Test.YtcjnjgafhfkegaaPx10
namespace Go.Proofs.Ytcjnjgafhfkegaa.Px
open Go.RowKit Go.Proofs.YtcjnjgafhfkegaaW.PrintWords Go.Proofs.YtcjnjgafhfkegaaW.PrintLast Go.Proofs.YtcjnjgafhfkegaaW.PrintMore
set_option linter.unusedVariables false
set_option linter.unusedSimpArgs false
theorem rput_eq (l : List S26) (a b c d e me : Int) (hn : l.length ≤ 9223372036854775807) (k : Nat) (hk : 2 * l.length + 2 < k) : slotmeshref27_Put.f k l a b c d e me = some (putS l ⟨a, b, c, d, e⟩ me) := by
  obtain ⟨k, rfl⟩ : ∃ m, k = m + 1 := ⟨k - 1, by omega⟩
  unfold slotmeshref27_Put.f putS
  rw [rvalid_eq l hn _ (by omega), rformed_eq]
  simp only [Option.bind_some]
  by_cases hv : vld l = true
  · have hl := vld_len hv
    rw [if_pos hv]
    by_cases hf : frm ⟨a, b, c, d, e⟩ = true
    · rw [if_pos hf]
      by_cases h0 : me < 0
      · rw [if_pos h0, if_neg (by omega)]; simp [slotmeshref27_Put.j0]
      · rw [if_neg h0]
        by_cases h1 : me ≥ 60
        · rw [if_neg (by omega)]; simp [slotmeshref27_Put.j0, h1]
        · rw [if_pos ⟨hv, hf, by omega, by omega⟩]
          simp only [slotmeshref27_Put.j0]
          rw [if_neg (by simpa using h1), rfind_eq l _ _ hn k (by omega)]
          simp only [Option.bind_some]
          by_cases h2 : qidx l a b ≥ 0
          · rw [if_pos h2, if_pos h2]
          · rw [if_neg h2, if_neg h2]
            by_cases h3 : (l.length : Int) = 16
            · rw [if_pos h3, if_pos (by omega)]
            · rw [if_neg h3]
              by_cases h4 : (l.length : Int) ≥ 12
              · rw [if_pos h4]
                by_cases h5 : a = me
                · rw [if_pos h5, if_pos (.inr ⟨by omega, h5⟩)]
                · rw [if_neg h5, if_neg (show ¬ (l.length = 16 ∨ l.length ≥ 12 ∧ a = me) from fun h => h.elim (fun h => h3 (by omega)) (fun h => h5 h.2)), if_pos (by simp; omega)]
                  simp only [Option.bind_some, List.nil_append]; rw [if_pos (by omega)]
              · rw [if_neg h4, if_neg (show ¬ (l.length = 16 ∨ l.length ≥ 12 ∧ a = me) from fun h => h.elim (fun h => h3 (by omega)) (fun h => h4 (by omega))), if_pos (by simp; omega)]
                simp only [Option.bind_some, List.nil_append]; rw [if_pos (by omega)]
    · rw [if_neg hf, if_neg (fun h => hf h.2.1)]; simp [slotmeshref27_Put.j0]
  · rw [if_neg hv, if_neg (fun h => hv h.1)]; simp [slotmeshref27_Put.j0]
theorem rhead_eq (l : List S26) (hn : l.length ≤ 9223372036854775807) (k : Nat) (hk : 2 * l.length < k) : slotmeshref27_Head.f k l = some (headS l) := by
  unfold slotmeshref27_Head.f headS
  rw [rvalid_eq l hn k hk]
  simp only [Option.bind_some]
  have h0 : rd_T26 l 0 = l.getD 0 z26 := rdn l 0
  by_cases hv : vld l = true
  · rw [if_pos hv]
    by_cases h : (l.length : Int) = 0
    · rw [if_pos h, if_neg (by omega)]
    · rw [if_neg h, if_pos (by omega), if_pos ⟨hv, by omega⟩, h0]
  · rw [if_neg hv, if_neg (fun h => hv h.1)]
theorem rfull_eq (l : List S26) (hn : l.length ≤ 9223372036854775807) (k : Nat) (hk : 2 * l.length < k) : slotmeshref27_Full.f k l = some (fullS l) := by
  unfold slotmeshref27_Full.f fullS
  rw [rvalid_eq l hn k hk]
  simp only [Option.bind_some]
  by_cases hv : vld l = true
  · rw [if_pos hv]; simp [hv]; omega
  · rw [if_neg hv]; simp [Bool.eq_false_iff.2 hv]
/-! ### same -/
theorem rdrop_l0 (l : List S26) (a b : Int) (hn : l.length ≤ 16) : ∀ (d k i : Nat) (acc : List S26), i + d = l.length → d < k → acc.length ≤ i → slotmeshref27_Drop.l0 k a b acc (i : Int) l = some (acc ++ out26 a b (l.drop i))
  | 0, k, i, acc, hd, hk, ha => by
    obtain ⟨k, rfl⟩ : ∃ m, k = m + 1 := ⟨k - 1, by omega⟩
    simp only [slotmeshref27_Drop.l0]
    rw [if_neg (by omega), List.drop_of_length_le (by omega)]
    simp [out26]
  | d + 1, k, i, acc, hd, hk, ha => by
    obtain ⟨k, rfl⟩ : ∃ m, k = m + 1 := ⟨k - 1, by omega⟩
    simp only [slotmeshref27_Drop.l0]
    rw [if_pos (by omega), if_pos (by omega), rdn, w1 (n := l.length) (by omega) (by omega), drop_cons_getD l i z26 (by omega)]
    by_cases h1 : (l.getD i z26).f0 = a
    · rw [if_pos h1]
      by_cases h2 : (l.getD i z26).f1 = b
      · rw [if_pos h2, rdrop_l0 l a b hn d k (i + 1) acc (by omega) (by omega) (by omega)]
        rw [out26, out26, List.filter_cons, if_neg (nm_yes h1 h2)]
      · rw [if_neg h2, if_pos (by omega), rdrop_l0 l a b hn d k (i + 1) _ (by omega) (by omega) (by simp; omega)]
        rw [out26, out26, List.filter_cons, if_pos (nm_not (fun h => h2 h.2))]; simp
    · rw [if_neg h1, if_pos (by omega), rdrop_l0 l a b hn d k (i + 1) _ (by omega) (by omega) (by simp; omega)]
      rw [out26, out26, List.filter_cons, if_pos (nm_not (fun h => h1 h.1))]; simp
theorem rdrop_eq (l : List S26) (a b : Int) (hn : l.length ≤ 9223372036854775807) (k : Nat) (hk : 2 * l.length < k) : slotmeshref27_Drop.f k l a b = some (dropS l a b) := by
  unfold slotmeshref27_Drop.f dropS
  rw [rvalid_eq l hn k hk]
  simp only [Option.bind_some]
  by_cases hv : vld l = true
  · rw [if_pos hv, if_pos hv]
    have := rdrop_l0 l a b (vld_len hv) l.length k 0 [] (by omega) (by omega) (by simp)
    simpa using this
  · rw [if_neg hv, if_neg hv]
end Go.Proofs.Ytcjnjgafhfkegaa.Px
