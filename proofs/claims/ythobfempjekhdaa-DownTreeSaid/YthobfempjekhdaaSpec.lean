/- What the functions of package down and of its reference compute, as plain functions of sorted rows. -/
import Derived.Test.YthobfempjekhdaaPx3
import Derived.Test.YthobfempjekhdaaPx4
import Derived.Test.YthobfempjekhdaaPx5
import Derived.Test.YthobfempjekhdaaPx6
import Derived.Test.YthobfempjekhdaaPx7
import Derived.Test.YthobfempjekhdaaPx8
import Derived.Test.YthobfempjekhdaaPx9
namespace Go.Proofs.Ythobfempjekhdaa.Px
open Go.RowKit Go.Proofs.YthobfempjekhdaaW.PrintWords Go.Proofs.YthobfempjekhdaaW.PrintLast Go.Proofs.YthobfempjekhdaaW.PrintMore
set_option linter.unusedVariables false
set_option linter.unusedSimpArgs false
namespace Spec
theorem w1 {i n : Nat} (h : i < n) (hn : n ≤ 9223372036854775807) : wrap64 ((i : Int) + 1) = ((i + 1 : Nat) : Int) := by
  unfold wrap64; omega
theorem rdn (l : List S35) (i : Nat) : rd_T35 l (i : Int) = l.getD i z35 := by simp [rd_T35]
theorem drop_cons_getD {α : Type} (l : List α) (i : Nat) (d : α) (h : i < l.length) : l.drop i = l.getD i d :: l.drop (i + 1) := by
  rw [List.drop_eq_getElem_cons h]; simp [List.getD_eq_getElem?_getD, h]
/-! ### told, valid -/
def okD (b : Int) (x : S35) : Bool := decide (0 ≤ x.f0 ∧ x.f0 < 60 ∧ b < x.f0 ∧ 0 ≤ x.f2 ∧ x.f2 ≤ 1000000000)
def tld : Int → List S35 → Bool
  | _, [] => true
  | b, x :: t => okD b x && tld x.f0 t
def vld (l : List S35) : Bool := tld (-1) l && l.all (fun x => !bad35 x)
theorem rid2_eq (a : Int) : slotmeshref21_id.f a = some (ndb a) := node_eq a
theorem ndb_iff {a : Int} : ndb a = true ↔ 0 ≤ a ∧ a < 60 := by simp [ndb]
theorem okD_false {b : Int} {x : S35} (h : ¬ (0 ≤ x.f0 ∧ x.f0 < 60 ∧ b < x.f0 ∧ 0 ≤ x.f2 ∧ x.f2 ≤ 1000000000)) : okD b x = false := decide_eq_false h
instance : DecidableEq S35 := fun a b => decidable_of_iff (a.f0 = b.f0 ∧ a.f1 = b.f1 ∧ a.f2 = b.f2 ∧ a.f3 = b.f3) (by cases a; cases b; simp)
theorem told_l0 (l : List S35) (hn : l.length ≤ 9223372036854775807) : ∀ (d k i : Nat) (b : Int), i + d = l.length → d < k → down_told.l0 k b l (l.length : Int) (i : Int) = some (tld b (l.drop i))
  | 0, k, i, b, hd, hk => by
    obtain ⟨k, rfl⟩ : ∃ m, k = m + 1 := ⟨k - 1, by omega⟩
    simp only [down_told.l0]
    rw [if_neg (by omega), List.drop_of_length_le (by omega)]; rfl
  | d + 1, k, i, b, hd, hk => by
    obtain ⟨k, rfl⟩ : ∃ m, k = m + 1 := ⟨k - 1, by omega⟩
    simp only [down_told.l0]
    rw [if_pos (by omega), if_pos (by omega), if_pos (by omega), rdn, node_eq, w1 (n := l.length) (by omega) hn, told_l0 l hn d k (i + 1) _ (by omega) (by omega), drop_cons_getD l i z35 (by omega)]
    simp only [Option.bind_some, tld]
    generalize l.getD i z35 = x
    by_cases h0 : ndb x.f0 = true
    · rw [if_pos h0]
      have h0' := ndb_iff.1 h0
      by_cases h1 : x.f0 ≤ b
      · rw [if_pos h1, okD_false (by omega)]; rfl
      · rw [if_neg h1]
        by_cases h2 : x.f2 < 0
        · rw [if_pos h2, okD_false (by omega)]; rfl
        · rw [if_neg h2]
          by_cases h3 : x.f2 > 1000000000
          · rw [if_pos h3, okD_false (by omega)]; rfl
          · rw [if_neg h3, show okD b x = true from decide_eq_true (by omega)]; rfl
    · rw [if_neg h0, okD_false (fun h => h0 (ndb_iff.2 ⟨h.1, h.2.1⟩))]; rfl
theorem told_eq (l : List S35) (hn : l.length ≤ 9223372036854775807) (k : Nat) (hk : l.length < k) : down_told.f k l = some (tld (-1) l) := by
  unfold down_told.f
  have := told_l0 l hn l.length k 0 (-1) (by omega) hk
  simpa using this
theorem fidx_any {α : Type} (p : α → Bool) : ∀ (l : List α) (i : Int), 0 ≤ i → decide (0 ≤ fidx p l i) = l.any p
  | [], i, h => by simp [fidx]
  | x :: t, i, h => by
    unfold fidx
    by_cases hx : p x = true
    · rw [if_pos hx, List.any_cons, hx, decide_eq_true h]; rfl
    · rw [if_neg hx, fidx_any p t (i + 1) (by omega), List.any_cons, Bool.eq_false_iff.2 hx]; rfl
theorem valid_eq (l : List S35) (hn : l.length ≤ 9223372036854775807) (k : Nat) (hk : l.length < k) : down_valid.f k l = some (vld l) := by
  unfold down_valid.f valb vld
  rw [told_eq l hn k hk]
  simp only [Option.bind_some]
  congr 2
  rw [decide_not, fidx_any bad35 l 0 (by omega), List.not_any_eq_all_not]
theorem toldR_eq (c : Int) : ∀ (l : List S35) (p : Option Int), toldR c p l = (tld (p.getD (-1)) l && l.all (fun x => !(x.f0 == c)))
  | [], p => rfl
  | x :: t, p => by
    unfold toldR tld
    rw [toldR_eq c t (some x.f0), List.all_cons]
    have : (!tbad c p x) = (okD (p.getD (-1)) x && !(x.f0 == c)) := by
      unfold tbad
      rw [Bool.eq_iff_iff]
      cases p with
      | none =>
        simp only [Option.any_none, Option.getD_none, okD, Bool.not_or, Bool.and_eq_true, Bool.not_eq_true', Bool.not_eq_false', ndb_iff, decide_eq_true_iff, decide_eq_false_iff_not, Bool.or_false]
        constructor
        · rintro ⟨⟨⟨h1, h2⟩, h3⟩, h4⟩; exact ⟨⟨h1.1, h1.2, by omega, by omega, by omega⟩, h2⟩
        · rintro ⟨⟨h1, h2, h3, h4, h5⟩, h6⟩; exact ⟨⟨⟨⟨h1, h2⟩, h6⟩, by omega⟩, by omega⟩
      | some q =>
        simp only [Option.any_some, Option.getD_some, okD, Bool.not_or, Bool.and_eq_true, Bool.not_eq_true', Bool.not_eq_false', ndb_iff, decide_eq_true_iff, decide_eq_false_iff_not]
        constructor
        · rintro ⟨⟨⟨⟨h1, h2⟩, h3⟩, h4⟩, h5⟩; exact ⟨⟨h1.1, h1.2, by omega, by omega, by omega⟩, h2⟩
        · rintro ⟨⟨h1, h2, h3, h4, h5⟩, h6⟩; exact ⟨⟨⟨⟨⟨h1, h2⟩, h6⟩, by omega⟩, by omega⟩, by omega⟩
    rw [this, Option.getD_some]
    cases okD (p.getD (-1)) x <;> cases (x.f0 == c) <;> cases tld x.f0 t <;> rfl
theorem rtold_eq (l : List S35) (c : Int) : slotmeshref21_Told.f l c = some (tld (-1) l && l.all (fun x => !(x.f0 == c))) := by
  unfold slotmeshref21_Told.f; rw [toldR_eq]; rfl
theorem tld_all (c : Int) (hc : c < 0) : ∀ (l : List S35) (b : Int), tld b l = true → l.all (fun x => !(x.f0 == c)) = true
  | [], b, h => rfl
  | x :: t, b, h => by
    unfold tld at h
    rw [Bool.and_eq_true] at h
    rw [List.all_cons, tld_all c hc t x.f0 h.2, Bool.and_true]
    have := of_decide_eq_true h.1
    have : ¬ x.f0 = c := by omega
    simp [this]
theorem rvalid_l0 (l : List S35) (hn : l.length ≤ 9223372036854775807) : ∀ (d k i : Nat), i + d = l.length → d < k → slotmeshref21_Valid.l0 k l (i : Int) = some ((l.drop i).all (fun x => !bad35 x) && tld (-1) l)
  | 0, k, i, hd, hk => by
    obtain ⟨k, rfl⟩ : ∃ m, k = m + 1 := ⟨k - 1, by omega⟩
    simp only [slotmeshref21_Valid.l0]
    rw [if_neg (by omega), List.drop_of_length_le (by omega), rtold_eq]
    show some _ = some _
    congr 1
    cases h : tld (-1) l
    · rfl
    · rw [tld_all (-1) (by decide) l _ h]; rfl
  | d + 1, k, i, hd, hk => by
    obtain ⟨k, rfl⟩ : ∃ m, k = m + 1 := ⟨k - 1, by omega⟩
    simp only [slotmeshref21_Valid.l0]
    rw [if_pos (by omega), if_pos (by omega), rdn, rid2_eq, w1 (n := l.length) (by omega) hn, rvalid_l0 l hn d k (i + 1) (by omega) (by omega), drop_cons_getD l i z35 (by omega)]
    simp only [Option.bind_some, List.all_cons]
    generalize l.getD i z35 = x
    by_cases h0 : ndb x.f1 = true
    · rw [if_pos h0]
      by_cases h1 : x.f3 < 0
      · rw [if_pos h1, show bad35 x = true by simp [bad35, h1]]; rfl
      · rw [if_neg h1]
        by_cases h2 : x.f3 > 1000000000
        · rw [if_pos h2, show bad35 x = true by simp [bad35, h2]]; rfl
        · rw [if_neg h2, show bad35 x = false by simp [bad35, h0]; omega]; rfl
    · rw [if_neg h0, show bad35 x = true by simp [bad35, h0]]; rfl
theorem rvalid_eq (l : List S35) (hn : l.length ≤ 9223372036854775807) (k : Nat) (hk : l.length < k) : slotmeshref21_Valid.f k l = some (vld l) := by
  unfold slotmeshref21_Valid.f
  have := rvalid_l0 l hn l.length k 0 (by omega) hk
  simp only [List.drop_zero] at this
  rw [show ((0 : Nat) : Int) = 0 from rfl] at this
  rw [this, vld, Bool.and_comm]
/-! ### look up -/
def lk (l : List S35) (t : Int) : Option S35 := l.find? (nxt33 t)
theorem nxt_iff (t : Int) (x : S35) : nxt33 t x = true ↔ x.f0 = t := by simp [nxt33]
theorem fidx_find (p : S35 → Bool) : ∀ (l : List S35) (i : Int), (fidx p l i = -1 ∧ l.find? p = none) ∨ ∃ n, n < l.length ∧ fidx p l i = i + (n : Int) ∧ l.find? p = some (l.getD n z35) ∧ p (l.getD n z35) = true
  | [], i => Or.inl ⟨rfl, rfl⟩
  | x :: t, i => by
    unfold fidx
    rw [List.find?_cons]
    by_cases hx : p x = true
    · rw [if_pos hx, hx]
      exact Or.inr ⟨0, by simp, by simp, rfl, hx⟩
    · rw [if_neg hx, Bool.eq_false_iff.2 hx]
      rcases fidx_find p t (i + 1) with h | ⟨n, h1, h2, h3, h4⟩
      · exact Or.inl h
      · exact Or.inr ⟨n + 1, by simp; omega, by omega, h3, h4⟩
def at' (l : List S35) (t : Int) : Int := fidx (nxt33 t) l 0
theorem at_lk (l : List S35) (t : Int) : (at' l t = -1 ∧ lk l t = none) ∨ ∃ n : Nat, n < l.length ∧ at' l t = (n : Int) ∧ lk l t = some (l.getD n z35) ∧ (l.getD n z35).f0 = t := by
  rcases fidx_find (nxt33 t) l 0 with h | ⟨n, h1, h2, h3, h4⟩
  · exact Or.inl h
  · exact Or.inr ⟨n, h1, by unfold at'; omega, h3, (nxt_iff _ _).1 h4⟩
theorem rfind_l0 (l : List S35) (t : Int) (hn : l.length ≤ 9223372036854775807) : ∀ (d k i : Nat), i + d = l.length → d < k → slotmeshref21_Find.l0 k l t (i : Int) = some (fidx (nxt33 t) (l.drop i) i)
  | 0, k, i, hd, hk => by
    obtain ⟨k, rfl⟩ : ∃ m, k = m + 1 := ⟨k - 1, by omega⟩
    simp only [slotmeshref21_Find.l0]
    rw [if_neg (by omega), List.drop_of_length_le (by omega)]; rfl
  | d + 1, k, i, hd, hk => by
    obtain ⟨k, rfl⟩ : ∃ m, k = m + 1 := ⟨k - 1, by omega⟩
    simp only [slotmeshref21_Find.l0]
    rw [if_pos (by omega), if_pos (by omega), rdn, w1 (n := l.length) (by omega) hn, rfind_l0 l t hn d k (i + 1) (by omega) (by omega), drop_cons_getD l i z35 (by omega)]
    show _ = some (if nxt33 t (l.getD i z35) = true then (i : Int) else fidx (nxt33 t) (l.drop (i + 1)) ((i : Int) + 1))
    by_cases h1 : (l.getD i z35).f0 = t
    · rw [if_pos h1, if_pos ((nxt_iff _ _).2 h1)]
    · rw [if_neg h1, if_neg (fun h => h1 ((nxt_iff _ _).1 h))]; rfl
theorem rfind_eq (l : List S35) (t : Int) (hn : l.length ≤ 9223372036854775807) (k : Nat) (hk : l.length < k) : slotmeshref21_Find.f k l t = some (at' l t) := by
  unfold slotmeshref21_Find.f at'
  have := rfind_l0 l t hn l.length k 0 (by omega) hk
  simpa using this
/-! ### Same -/
theorem same_l0 (a b : List S35) (hl : a.length = b.length) (hn : a.length ≤ 9223372036854775807) : ∀ (d k i : Nat), i + d = a.length → d < k → slotmeshref21_Same.l0 k a b (i : Int) = some (decide (a.drop i = b.drop i))
  | 0, k, i, hd, hk => by
    obtain ⟨k, rfl⟩ : ∃ m, k = m + 1 := ⟨k - 1, by omega⟩
    simp only [slotmeshref21_Same.l0]
    rw [if_neg (by omega), List.drop_of_length_le (by omega), List.drop_of_length_le (by omega)]; simp
  | d + 1, k, i, hd, hk => by
    obtain ⟨k, rfl⟩ : ∃ m, k = m + 1 := ⟨k - 1, by omega⟩
    simp only [slotmeshref21_Same.l0]
    rw [if_pos (by omega), if_pos (by omega), if_pos (by omega), rdn, rdn, w1 (n := a.length) (by omega) hn, same_l0 a b hl hn d k (i + 1) (by omega) (by omega), drop_cons_getD a i z35 (by omega), drop_cons_getD b i z35 (by omega)]
    rcases a.getD i z35 with ⟨x0, x1, x2, x3⟩
    rcases b.getD i z35 with ⟨y0, y1, y2, y3⟩
    by_cases h0 : x0 = y0 <;> by_cases h1 : x1 = y1 <;> by_cases h2 : x2 = y2 <;> by_cases h3 : x3 = y3 <;> simp [h0, h1, h2, h3]
theorem same_eq (a b : List S35) (hn : a.length ≤ 9223372036854775807) (k : Nat) (hk : a.length < k) : slotmeshref21_Same.f k a b = some (decide (a = b)) := by
  unfold slotmeshref21_Same.f
  by_cases h : a.length = b.length
  · rw [if_pos (by omega)]
    have := same_l0 a b h hn a.length k 0 (by omega) hk
    simpa using this
  · rw [if_neg (by omega)]; congr 1; symm; exact decide_eq_false (fun e => h (by rw [e]))
/-! ### sorted rows and look up -/
def Srt : Int → List S35 → Prop
  | _, [] => True
  | b, x :: t => b < x.f0 ∧ Srt x.f0 t
theorem lk_nil (t : Int) : lk [] t = none := rfl
theorem lk_cons (x : S35) (l : List S35) (t : Int) : lk (x :: l) t = if x.f0 = t then some x else lk l t := by
  unfold lk
  rw [List.find?_cons]
  by_cases h : x.f0 = t
  · rw [if_pos h, (nxt_iff t x).2 h]
  · rw [if_neg h, Bool.eq_false_iff.2 (fun e => h ((nxt_iff t x).1 e))]
theorem lk_f0 {l : List S35} {t : Int} {x : S35} (h : lk l t = some x) : x.f0 = t := (nxt_iff t x).1 (List.find?_some h)
theorem lk_mem {l : List S35} {t : Int} {x : S35} (h : lk l t = some x) : x ∈ l := List.mem_of_find?_eq_some h
theorem Srt.low : ∀ {l : List S35} {b t : Int}, Srt b l → t ≤ b → lk l t = none
  | [], _, _, _, _ => rfl
  | x :: l, b, t, h, ht => by rw [lk_cons, if_neg (by have := h.1; omega)]; exact Srt.low h.2 (by have := h.1; omega)
theorem Srt.mono {l : List S35} {b c : Int} (h : Srt b l) (hc : c ≤ b) : Srt c l := by
  cases l with
  | nil => trivial
  | cons x l => exact ⟨by have := h.1; omega, h.2⟩
theorem Srt.ext : ∀ {a b : List S35} {c d : Int}, Srt c a → Srt d b → (∀ t, lk a t = lk b t) → a = b
  | [], [], _, _, _, _, _ => rfl
  | [], y :: b, _, _, _, _, h => by have := h y.f0; rw [lk_cons, if_pos rfl] at this; cases this
  | x :: a, [], _, _, _, _, h => by have := h x.f0; rw [lk_cons, if_pos rfl] at this; cases this
  | x :: a, y :: b, c, d, ha, hb, h => by
    have hx := h x.f0
    have hy := h y.f0
    rw [lk_cons, lk_cons, if_pos rfl] at hx
    rw [lk_cons, lk_cons, if_pos (rfl : y.f0 = y.f0)] at hy
    have e : x.f0 = y.f0 := by
      rcases Int.lt_trichotomy x.f0 y.f0 with h1 | h1 | h1
      · rw [if_neg (by omega), hb.2.low (by omega)] at hx; cases hx
      · exact h1
      · rw [if_neg (by omega), ha.2.low (by omega)] at hy; cases hy
    rw [if_pos e.symm] at hx
    obtain rfl := Option.some.inj hx
    congr 1
    refine Srt.ext ha.2 hb.2 fun t => ?_
    have ht := h t
    rw [lk_cons, lk_cons] at ht
    by_cases e2 : x.f0 = t
    · rw [ha.2.low (by omega), hb.2.low (by omega)]
    · rw [if_neg e2, if_neg e2] at ht; exact ht
theorem mem_lk : ∀ {l : List S35} {b : Int}, Srt b l → ∀ x ∈ l, lk l x.f0 = some x
  | y :: l, b, h, x, hx => by
    rw [lk_cons]
    rcases List.mem_cons.1 hx with rfl | hx
    · rw [if_pos rfl]
    · have := mem_lk h.2 x hx
      by_cases e : y.f0 = x.f0
      · rw [h.2.low (by omega)] at this; cases this
      · rw [if_neg e]; exact this
theorem Srt.all_gt : ∀ {l : List S35} {b : Int}, Srt b l → ∀ x ∈ l, b < x.f0
  | y :: l, b, h, x, hx => by
    rcases List.mem_cons.1 hx with rfl | hx
    · exact h.1
    · have := Srt.all_gt h.2 x hx; have := h.1; omega
/-! ### the news -/
theorem news_some (c s q : Int) (hq : ¬ q < c) : ∀ l : List S35, Srt q l → newsL c s (some q) l = l
  | [], _ => by simp [newsL, hq]
  | x :: l, h => by
    unfold newsL
    rw [news_some c s x.f0 (by have := h.1; omega) l h.2, if_neg (by simp; omega)]; rfl
theorem news_low (c s : Int) : ∀ (l : List S35) (p : Option Int) (b : Int), b < c → (p.all fun q => decide (q < c)) = true → Srt b l → (∀ x ∈ l, x.f0 ≠ c) → Srt b (newsL c s p l) ∧ ∀ t, lk (newsL c s p l) t = if t = c then some ⟨c, 0, s, 0⟩ else lk l t
  | [], p, b, hb, hp, _, _ => by
    unfold newsL
    rw [if_pos hp]
    refine ⟨⟨hb, trivial⟩, fun t => ?_⟩
    rw [lk_cons]
    by_cases h : t = c
    · rw [if_pos h, if_pos h.symm]
    · rw [if_neg h, if_neg (fun e => h e.symm)]
  | x :: l, p, b, hb, hp, hs, hc => by
    unfold newsL
    have hxc := hc x List.mem_cons_self
    by_cases hx : x.f0 > c
    · rw [if_pos ⟨hx, hp⟩, news_some c s x.f0 (by omega) l hs.2]
      refine ⟨⟨hb, hx, hs.2⟩, fun t => ?_⟩
      show lk (⟨c, 0, s, 0⟩ :: x :: l) t = _
      rw [lk_cons]
      by_cases h : t = c
      · rw [if_pos h, if_pos h.symm]
      · rw [if_neg h, if_neg (fun e => h e.symm)]
    · rw [if_neg (fun h => hx h.1)]
      have ih := news_low c s l (some x.f0) x.f0 (by omega) (by simp; omega) hs.2 (fun y hy => hc y (List.mem_cons_of_mem _ hy))
      refine ⟨⟨hs.1, ih.1⟩, fun t => ?_⟩
      show lk (x :: newsL c s (some x.f0) l) t = _
      rw [lk_cons, lk_cons, ih.2 t]
      by_cases h : t = c
      · rw [if_pos h, if_neg (by omega), if_pos h]
      · rw [if_neg h, if_neg h]
/-! ### the merge -/
def nw (c s : Int) (d : S35) : S35 := ⟨d.f0, c, d.f2, s⟩
def pick (c s : Int) (d old : S35) : S35 := if old.f1 ≠ c ∧ old.f2 ≥ d.f2 then old else nw c s d
def mg (c s : Int) : List S35 → List S35 → List S35
  | [], l => l
  | d :: n, [] => nw c s d :: mg c s n []
  | d :: n, x :: l => if x.f0 < d.f0 then x :: mg c s (d :: n) l else if x.f0 = d.f0 then pick c s d x :: mg c s n l else nw c s d :: mg c s n (x :: l)
termination_by n l => n.length + l.length
theorem mg_cc (c s : Int) (d x : S35) (n l : List S35) : mg c s (d :: n) (x :: l) = if x.f0 < d.f0 then x :: mg c s (d :: n) l else if x.f0 = d.f0 then pick c s d x :: mg c s n l else nw c s d :: mg c s n (x :: l) := by rw [mg]
theorem step_mg (c s : Int) (d : S35) (n : List S35) : ∀ (l a : List S35), let r := stepL c s d (a, l); r.1 ++ mg c s n r.2 = a ++ mg c s (d :: n) l
  | [], a => by simp [stepL, mg, nw]
  | x :: l, a => by
    have ih := step_mg c s d n l (a ++ [x])
    rw [mg_cc]
    by_cases h1 : x.f0 < d.f0
    · rw [if_pos h1]
      have e : stepL c s d (a, x :: l) = stepL c s d (a ++ [x], l) := by
        unfold stepL
        simp only [List.dropWhile_cons, List.takeWhile_cons, h1, decide_true, if_true]
        simp only [List.append_assoc, List.singleton_append]
      rw [e]
      simp only [] at ih ⊢
      rw [ih]; simp
    · rw [if_neg h1]
      have e : stepL c s d (a, x :: l) = if x.f0 = d.f0 then (a ++ [pick c s d x], l) else (a ++ [nw c s d], x :: l) := by
        unfold stepL
        simp only [List.dropWhile_cons, List.takeWhile_cons, h1, decide_false, Bool.false_eq_true, if_false, List.append_nil]
        unfold pick nw
        split
        · split <;> rfl
        · rfl
      rw [e]
      by_cases h2 : x.f0 = d.f0
      · rw [if_pos h2, if_pos h2]; simp
      · rw [if_neg h2, if_neg h2]; simp
theorem fold_mg (c s : Int) : ∀ (n : List S35) (a l : List S35), (let r := n.foldl (fun s' d => stepL c s d s') (a, l); r.1 ++ r.2) = a ++ mg c s n l
  | [], a, l => by simp [mg]
  | d :: n, a, l => by
    have h := step_mg c s d n l a
    have h2 := fold_mg c s n (stepL c s d (a, l)).1 (stepL c s d (a, l)).2
    simp only [List.foldl_cons] at h2 ⊢
    simp only [] at h
    rw [← h, ← h2]
theorem merge_mg (c s : Int) (n l : List S35) : mergeL c s n l = mg c s n l := fold_mg c s n [] l
def comb (c s : Int) : Option S35 → Option S35 → Option S35
  | none, o => o
  | some d, none => some (nw c s d)
  | some d, some x => some (pick c s d x)
theorem pick_f0 {c s : Int} {d x : S35} (h : x.f0 = d.f0) : (pick c s d x).f0 = d.f0 := by unfold pick nw; split <;> simp [h]
theorem mg_srt (c s : Int) : ∀ (n l : List S35) (b : Int), Srt b n → Srt b l → Srt b (mg c s n l)
  | [], l, b, _, hl => by unfold mg; exact hl
  | d :: n, [], b, hn, hl => by unfold mg; exact ⟨hn.1, mg_srt c s n [] d.f0 hn.2 trivial⟩
  | d :: n, x :: l, b, hn, hl => by
    unfold mg
    by_cases h1 : x.f0 < d.f0
    · rw [if_pos h1]; exact ⟨hl.1, mg_srt c s (d :: n) l x.f0 ⟨h1, hn.2⟩ hl.2⟩
    · rw [if_neg h1]
      by_cases h2 : x.f0 = d.f0
      · rw [if_pos h2]
        refine ⟨by rw [pick_f0 h2]; exact hn.1, ?_⟩
        rw [pick_f0 h2]
        exact mg_srt c s n l d.f0 hn.2 (h2 ▸ hl.2)
      · rw [if_neg h2]
        exact ⟨hn.1, mg_srt c s n (x :: l) d.f0 hn.2 ⟨by omega, hl.2⟩⟩
termination_by n l => n.length + l.length
theorem mg_lk (c s t : Int) : ∀ (n l : List S35) (b : Int), Srt b n → Srt b l → lk (mg c s n l) t = comb c s (lk n t) (lk l t)
  | [], l, b, _, hl => by unfold mg; rfl
  | d :: n, [], b, hn, hl => by
    unfold mg
    rw [lk_cons, lk_cons, mg_lk c s t n [] d.f0 hn.2 trivial]
    by_cases h : d.f0 = t
    · rw [if_pos h, if_pos (show (nw c s d).f0 = t from h)]; rfl
    · rw [if_neg h, if_neg (show ¬ (nw c s d).f0 = t from h)]
  | d :: n, x :: l, b, hn, hl => by
    unfold mg
    by_cases h1 : x.f0 < d.f0
    · rw [if_pos h1, lk_cons, mg_lk c s t (d :: n) l x.f0 ⟨h1, hn.2⟩ hl.2, lk_cons x]
      by_cases h : x.f0 = t
      · rw [if_pos h, if_pos h, lk_cons, if_neg (by omega), hn.2.low (by omega)]; rfl
      · rw [if_neg h, if_neg h]
    · rw [if_neg h1]
      by_cases h2 : x.f0 = d.f0
      · rw [if_pos h2, lk_cons, pick_f0 h2, lk_cons, lk_cons, mg_lk c s t n l d.f0 hn.2 (h2 ▸ hl.2), h2]
        by_cases h : d.f0 = t
        · rw [if_pos h, if_pos h, if_pos h]; rfl
        · rw [if_neg h, if_neg h, if_neg h]
      · rw [if_neg h2, lk_cons, mg_lk c s t n (x :: l) d.f0 hn.2 ⟨by omega, hl.2⟩, lk_cons d]
        by_cases h : d.f0 = t
        · rw [if_pos h, if_pos (show (nw c s d).f0 = t from h), lk_cons, if_neg (by omega), hl.2.low (by omega)]; rfl
        · rw [if_neg h, if_neg (show ¬ (nw c s d).f0 = t from h)]
termination_by n l => n.length + l.length
/-! ### what is told, as a sorted row -/
theorem tld_srt : ∀ {l : List S35} {b : Int}, tld b l = true → Srt b l
  | [], _, _ => trivial
  | x :: l, b, h => by
    unfold tld at h
    rw [Bool.and_eq_true] at h
    exact ⟨(of_decide_eq_true h.1).2.2.1, tld_srt h.2⟩
def okT (x : S35) : Prop := 0 ≤ x.f0 ∧ x.f0 < 60 ∧ 0 ≤ x.f2 ∧ x.f2 ≤ 1000000000
theorem tld_ok : ∀ {l : List S35} {b : Int}, tld b l = true → ∀ x ∈ l, okT x
  | y :: l, b, h, x, hx => by
    unfold tld at h
    rw [Bool.and_eq_true] at h
    have := of_decide_eq_true h.1
    rcases List.mem_cons.1 hx with rfl | hx
    · exact ⟨this.1, this.2.1, this.2.2.2⟩
    · exact tld_ok h.2 x hx
theorem tld_of : ∀ {l : List S35} {b : Int}, Srt b l → (∀ x ∈ l, okT x) → tld b l = true
  | [], _, _, _ => rfl
  | x :: l, b, h, ho => by
    unfold tld
    have hx := ho x List.mem_cons_self
    rw [tld_of h.2 (fun y hy => ho y (List.mem_cons_of_mem _ hy)), Bool.and_true]
    exact decide_eq_true ⟨hx.1, hx.2.1, h.1, hx.2.2⟩
theorem Srt.len : ∀ {l : List S35} {b : Int}, Srt b l → (∀ x ∈ l, x.f0 < 60) → b < 60 → (l.length : Int) + b ≤ 59
  | [], b, _, _, hb => by simp; omega
  | x :: l, b, h, ho, hb => by
    have := Srt.len h.2 (fun y hy => ho y (List.mem_cons_of_mem _ hy)) (ho x List.mem_cons_self)
    have := h.1
    rw [List.length_cons]; omega
theorem tld_len {l : List S35} (h : tld (-1) l = true) : l.length ≤ 60 := by
  have := (tld_srt h).len (fun x hx => (tld_ok h x hx).2.1) (by decide); omega
def okV (x : S35) : Prop := okT x ∧ 0 ≤ x.f1 ∧ x.f1 < 60 ∧ 0 ≤ x.f3 ∧ x.f3 ≤ 1000000000
theorem bad_iff (x : S35) : bad35 x = false ↔ 0 ≤ x.f1 ∧ x.f1 < 60 ∧ 0 ≤ x.f3 ∧ x.f3 ≤ 1000000000 := by
  simp [bad35, ndb]; omega
theorem vld_iff (l : List S35) : vld l = true ↔ Srt (-1) l ∧ ∀ x ∈ l, okV x := by
  unfold vld
  rw [Bool.and_eq_true, List.all_eq_true]
  constructor
  · rintro ⟨h1, h2⟩
    exact ⟨tld_srt h1, fun x hx => ⟨tld_ok h1 x hx, (bad_iff x).1 (by have := h2 x hx; simpa using this)⟩⟩
  · rintro ⟨h1, h2⟩
    exact ⟨tld_of h1 fun x hx => (h2 x hx).1, fun x hx => by rw [(bad_iff x).2 (h2 x hx).2]; rfl⟩
theorem vld_len {l : List S35} (h : vld l = true) : l.length ≤ 60 := by
  unfold vld at h; rw [Bool.and_eq_true] at h; exact tld_len h.1
theorem vld_nil : vld [] = true := rfl
/-! ### Learn -/
def lok (l : List S35) (c s : Int) (b : List S35) (f : Int) : Bool := vld l && (decide (0 ≤ c ∧ c < 60 ∧ 0 ≤ s ∧ s ≤ 1000000000 ∧ 0 ≤ f ∧ f ≤ 999999997) && (tld (-1) b && !b.any (slf35 c)))
def learnS (l : List S35) (c s : Int) (b : List S35) (f : Int) : List S35 × Int := if lok l c s b f = true then (mg c (f + 3) (newsL c s none b) l, 0) else ([], 1)
theorem learn_eq (l : List S35) (c s : Int) (b : List S35) (f : Int) (hl : l.length ≤ 1000) (hb : b.length ≤ 1000) (k : Nat) (hk : 1000 < k) : down_Learn.f k l c s b f = some (learnS l c s b f) := by
  unfold down_Learn.f learnS lok
  rw [valid_eq l (by omega) k (by omega), told_eq b (by omega) k (by omega)]
  simp only [Option.bind_some]
  have hany := fidx_any (slf35 c) b 0 (by omega)
  by_cases h1 : vld l = true
  · by_cases h2 : 0 ≤ c ∧ c < 60 ∧ 0 ≤ s ∧ s ≤ 1000000000 ∧ 0 ≤ f ∧ f ≤ 999999997
    · rw [if_neg (by rw [h1]; have := ndb_iff.2 ⟨h2.1, h2.2.1⟩; rw [this]; simp; omega), h1, decide_eq_true h2]
      by_cases h3 : tld (-1) b = false ∨ 0 ≤ fidx (slf35 c) b 0
      · rw [if_pos h3, if_neg]
        rcases h3 with h3 | h3
        · rw [h3]; simp
        · rw [← hany, decide_eq_true h3]; simp
      · rw [if_neg h3, if_pos (by omega), if_pos]
        · rw [merge_mg, show wrap64 (f + 3) = f + 3 from by unfold wrap64; omega]
        · have h4 := fun h => h3 (Or.inl h)
          have h5 := fun h => h3 (Or.inr h)
          rw [← hany, decide_eq_false h5, Bool.of_not_eq_false h4]; rfl
    · rw [if_pos, h1, decide_eq_false h2, if_neg (by simp)]
      by_cases hc : 0 ≤ c ∧ c < 60
      · right; right; omega
      · right; left; exact Bool.eq_false_iff.2 fun h => hc (ndb_iff.1 h)
  · have h1 := Bool.eq_false_iff.2 h1
    rw [h1, if_pos (Or.inl rfl), if_neg (by simp)]
structure Lok (l : List S35) (c s : Int) (b : List S35) (f : Int) : Prop where
  v : vld l = true
  c0 : 0 ≤ c
  c1 : c < 60
  s0 : 0 ≤ s
  s1 : s ≤ 1000000000
  f0 : 0 ≤ f
  f1 : f ≤ 999999997
  t : tld (-1) b = true
  n : ∀ x ∈ b, x.f0 ≠ c
theorem lok_iff (l : List S35) (c s : Int) (b : List S35) (f : Int) : lok l c s b f = true ↔ Lok l c s b f := by
  unfold lok
  rw [Bool.and_eq_true, Bool.and_eq_true, Bool.and_eq_true, decide_eq_true_iff, Bool.not_eq_true', List.any_eq_false]
  constructor
  · rintro ⟨h1, ⟨h2, h3, h4, h5, h6, h7⟩, h8, h9⟩
    exact ⟨h1, h2, h3, h4, h5, h6, h7, h8, fun x hx e => h9 x hx (by simp [slf35, e])⟩
  · rintro ⟨h1, h2, h3, h4, h5, h6, h7, h8, h9⟩
    exact ⟨h1, ⟨h2, h3, h4, h5, h6, h7⟩, h8, fun x hx e => h9 x hx (by simpa [slf35] using e)⟩
def nlk (c s : Int) (b : List S35) (t : Int) : Option S35 := if t = c then some ⟨c, 0, s, 0⟩ else lk b t
def mrg (l : List S35) (c s : Int) (b : List S35) (f : Int) : List S35 := mg c (f + 3) (newsL c s none b) l
theorem learn_ok {l : List S35} {c s : Int} {b : List S35} {f : Int} (h : Lok l c s b f) : learnS l c s b f = (mrg l c s b f, 0) := if_pos ((lok_iff l c s b f).2 h)
theorem learn_bad {l : List S35} {c s : Int} {b : List S35} {f : Int} (h : ¬ Lok l c s b f) : learnS l c s b f = ([], 1) := if_neg fun e => h ((lok_iff l c s b f).1 e)
theorem learn_cases (l : List S35) (c s : Int) (b : List S35) (f : Int) : (Lok l c s b f ∧ learnS l c s b f = (mrg l c s b f, 0)) ∨ (¬ Lok l c s b f ∧ learnS l c s b f = ([], 1)) := by
  by_cases h : Lok l c s b f
  · exact Or.inl ⟨h, learn_ok h⟩
  · exact Or.inr ⟨h, learn_bad h⟩
theorem Lok.news {l : List S35} {c s : Int} {b : List S35} {f : Int} (h : Lok l c s b f) : Srt (-1) (newsL c s none b) ∧ ∀ t, lk (newsL c s none b) t = nlk c s b t :=
  news_low c s b none (-1) (by have := h.c0; omega) rfl (tld_srt h.t) h.n
theorem Lok.srt {l : List S35} {c s : Int} {b : List S35} {f : Int} (h : Lok l c s b f) : Srt (-1) (mrg l c s b f) := mg_srt _ _ _ _ _ h.news.1 ((vld_iff l).1 h.v).1
theorem Lok.lk {l : List S35} {c s : Int} {b : List S35} {f : Int} (h : Lok l c s b f) (t : Int) : lk (mrg l c s b f) t = comb c (f + 3) (nlk c s b t) (lk l t) := by
  rw [mrg, mg_lk _ _ _ _ _ _ h.news.1 ((vld_iff l).1 h.v).1, h.news.2]
theorem comb_some {c s : Int} {o p : Option S35} {x : S35} (h : comb c s o p = some x) : p = some x ∨ ∃ d, o = some d ∧ x = nw c s d := by
  cases o with
  | none => exact Or.inl h
  | some d =>
    cases p with
    | none => exact Or.inr ⟨d, rfl, (Option.some.inj h).symm⟩
    | some y =>
      have h := Option.some.inj h
      unfold pick at h
      split at h
      · exact Or.inl (congrArg some h)
      · exact Or.inr ⟨d, rfl, h.symm⟩
theorem Lok.mem {l : List S35} {c s : Int} {b : List S35} {f : Int} (h : Lok l c s b f) {x : S35} (hx : x ∈ mrg l c s b f) : x ∈ l ∨ ∃ d, x = nw c (f + 3) d ∧ (d = ⟨c, 0, s, 0⟩ ∨ d ∈ b) := by
  have e := mem_lk h.srt x hx
  rw [h.lk] at e
  rcases comb_some e with e | ⟨d, e, rfl⟩
  · exact Or.inl (lk_mem e)
  · refine Or.inr ⟨d, rfl, ?_⟩
    unfold nlk at e
    split at e
    · exact Or.inl (Option.some.inj e).symm
    · exact Or.inr (lk_mem e)
theorem Lok.valid {l : List S35} {c s : Int} {b : List S35} {f : Int} (h : Lok l c s b f) : vld (mrg l c s b f) = true := by
  refine (vld_iff _).2 ⟨h.srt, fun x hx => ?_⟩
  rcases h.mem hx with hx | ⟨d, rfl, hd⟩
  · exact ((vld_iff l).1 h.v).2 x hx
  · have hd : okT d := by
      rcases hd with rfl | hd
      · exact ⟨h.c0, h.c1, h.s0, h.s1⟩
      · exact tld_ok h.t d hd
    exact ⟨hd, h.c0, h.c1, show 0 ≤ f + 3 by have := h.f0; omega, show f + 3 ≤ 1000000000 by have := h.f1; omega⟩
theorem Lok.len {l : List S35} {c s : Int} {b : List S35} {f : Int} (h : Lok l c s b f) : (mrg l c s b f).length ≤ 60 := vld_len h.valid
theorem learn_len (l : List S35) (c s : Int) (b : List S35) (f : Int) : (learnS l c s b f).1.length ≤ 60 := by
  rcases learn_cases l c s b f with ⟨h, e⟩ | ⟨_, e⟩
  · rw [e]; exact h.len
  · rw [e]; simp
/-! ### a row by its look up -/
def gen (g : Int → Option S35) : Nat → Nat → List S35
  | _, 0 => []
  | i, d + 1 => (g (i : Int)).toList ++ gen g (i + 1) d
theorem gen_srt (g : Int → Option S35) (hg : ∀ t x, g t = some x → x.f0 = t) : ∀ (d i : Nat) (b : Int), b < (i : Int) → Srt b (gen g i d)
  | 0, i, b, h => trivial
  | d + 1, i, b, h => by
    unfold gen
    cases e : g (i : Int) with
    | none => exact gen_srt g hg d (i + 1) b (by omega)
    | some x =>
      have := hg _ _ e
      exact ⟨by omega, gen_srt g hg d (i + 1) x.f0 (by omega)⟩
theorem gen_lk (g : Int → Option S35) (hg : ∀ t x, g t = some x → x.f0 = t) (t : Int) : ∀ (d i : Nat), lk (gen g i d) t = if (i : Int) ≤ t ∧ t < (i : Int) + d then g t else none
  | 0, i => by rw [if_neg (by omega)]; rfl
  | d + 1, i => by
    unfold gen
    have ih := gen_lk g hg t d (i + 1)
    by_cases ht : t = (i : Int)
    · subst ht
      rw [if_pos (by omega)]
      cases e : g (i : Int) with
      | none => show lk (gen g (i + 1) d) _ = _; rw [ih, if_neg (by omega)]
      | some x => show lk (x :: gen g (i + 1) d) _ = _; rw [lk_cons, if_pos (hg _ _ e)]
    · have e2 : lk ((g (i : Int)).toList ++ gen g (i + 1) d) t = lk (gen g (i + 1) d) t := by
        cases e : g (i : Int) with
        | none => rfl
        | some x => show lk (x :: gen g (i + 1) d) _ = _; rw [lk_cons, if_neg (by have := hg _ _ e; omega)]
      rw [e2, ih]
      by_cases h2 : ((i + 1 : Nat) : Int) ≤ t ∧ t < ((i + 1 : Nat) : Int) + d
      · rw [if_pos h2, if_pos (by omega)]
      · rw [if_neg h2, if_neg (by omega)]
theorem lk_none {l : List S35} {t : Int} (h : ∀ x ∈ l, x.f0 ≠ t) : lk l t = none := List.find?_eq_none.2 fun x hx e => h x hx ((nxt_iff t x).1 e)
theorem gen_eq {l : List S35} (hs : Srt (-1) l) (h60 : ∀ x ∈ l, x.f0 < 60) : gen (lk l) 0 60 = l := by
  refine Srt.ext (gen_srt _ (fun t x e => lk_f0 e) 60 0 (-1) (by decide)) hs fun t => ?_
  rw [gen_lk _ (fun t x e => lk_f0 e)]
  by_cases h : ((0 : Nat) : Int) ≤ t ∧ t < ((0 : Nat) : Int) + ((60 : Nat) : Int)
  · rw [if_pos h]
  · rw [if_neg h]; symm
    refine lk_none fun x hx e => ?_
    have := h60 x hx; have := hs.all_gt x hx; omega
/-! ### the reference's Learn -/
theorem rl_step (l : List S35) (c s : Int) (b : List S35) (f : Int) (hl : l.length ≤ 1000) (hb : b.length ≤ 1000) (hc : lk b c = none) (k i : Nat) (o : List S35) (hk : 1000 < k) (hi : i < 60) (ho : o.length ≤ i) :
    slotmeshref21_Learn.l0 (k + 3) l c s b f o (i : Int) = slotmeshref21_Learn.l0 k l c s b f (o ++ (comb c (wrap64 (f + 3)) (nlk c s b (i : Int)) (lk l (i : Int))).toList) ((i + 1 : Nat) : Int) := by
  simp only [slotmeshref21_Learn.l0]
  rw [if_pos (by omega), rfind_eq l _ (by omega) _ (by omega), rfind_eq b _ (by omega) _ (by omega)]
  simp only [Option.bind_some, slotmeshref21_Learn.j2, slotmeshref21_Learn.j3]
  rw [w1 (n := 60) hi (by omega)]
  have ho' : o.length < 4398046511104 := by omega
  rcases at_lk b (i : Int) with ⟨hb1, hb2⟩ | ⟨nb, hb0, hb1, hb2, hb3⟩
  · rw [hb1, if_neg (by decide), if_pos (by decide)]
    by_cases hic : (i : Int) = c
    · rw [nlk, if_pos hic, if_neg (by simp [hic])]
      rcases at_lk l (i : Int) with ⟨h1, h2⟩ | ⟨n, h0, h1, h2, h3⟩
      · rw [h1, if_neg (by decide), if_pos ho', h2, comb, hic]; rfl
      · rw [h1, if_pos (by omega), if_pos (by omega), if_pos (by omega), rdn, h2, comb, pick]
        by_cases e1 : (l.getD n z35).f1 = c
        · rw [if_pos e1, if_pos ho', if_neg (fun h => h.1 e1), nw, hic]; rfl
        · rw [if_neg e1]
          by_cases e2 : (l.getD n z35).f2 ≥ s
          · rw [if_pos e2, if_pos ho', if_pos ⟨e1, e2⟩]; rfl
          · rw [if_neg e2, if_pos ho', if_neg (fun h => e2 h.2), nw, hic]; rfl
    · rw [nlk, if_neg hic, hb2, if_pos (by simp [hic])]
      rcases at_lk l (i : Int) with ⟨h1, h2⟩ | ⟨n, h0, h1, h2, h3⟩
      · rw [h1, if_neg (by decide), h2, comb]; simp
      · rw [h1, if_pos (by omega), if_pos (by omega), if_pos (by omega), rdn, h2, comb, if_pos ho']; rfl
  · have hic : ¬ (i : Int) = c := fun e => by rw [e, hc] at hb2; cases hb2
    rw [hb1, if_pos (by omega), if_pos (by omega), if_pos (by omega), rdn, if_neg (by omega), nlk, if_neg hic, hb2, if_neg (by decide)]
    rcases at_lk l (i : Int) with ⟨h1, h2⟩ | ⟨n, h0, h1, h2, h3⟩
    · rw [h1, if_neg (by decide), if_pos ho', h2, comb, nw, hb3]; rfl
    · rw [h1, if_pos (by omega), if_pos (by omega), if_pos (by omega), rdn, h2, comb, pick]
      by_cases e1 : (l.getD n z35).f1 = c
      · rw [if_pos e1, if_pos ho', if_neg (fun h => h.1 e1), nw, hb3]; rfl
      · rw [if_neg e1]
        by_cases e2 : (l.getD n z35).f2 ≥ (b.getD nb z35).f2
        · rw [if_pos e2, if_pos ho', if_pos ⟨e1, e2⟩]; rfl
        · rw [if_neg e2, if_pos ho', if_neg (fun h => e2 h.2), nw, hb3]; rfl
theorem rl_l0 (l : List S35) (c s : Int) (b : List S35) (f : Int) (hl : l.length ≤ 1000) (hb : b.length ≤ 1000) (hc : lk b c = none) : ∀ (d k i : Nat) (o : List S35), i + d = 60 → 3 * d + 1001 < k → o.length ≤ i →
    slotmeshref21_Learn.l0 k l c s b f o (i : Int) = some (o ++ gen (fun t => comb c (wrap64 (f + 3)) (nlk c s b t) (lk l t)) i d, 0)
  | 0, k, i, o, hd, hk, ho => by
    obtain ⟨k, rfl⟩ : ∃ m, k = m + 1 := ⟨k - 1, by omega⟩
    simp only [slotmeshref21_Learn.l0]
    rw [if_neg (by omega)]; simp [gen]
  | d + 1, k, i, o, hd, hk, ho => by
    obtain ⟨k, rfl⟩ : ∃ m, k = m + 3 := ⟨k - 3, by omega⟩
    rw [rl_step l c s b f hl hb hc k i o (by omega) (by omega) ho, rl_l0 l c s b f hl hb hc d k (i + 1) _ (by omega) (by omega)]
    · rw [List.append_assoc]; rfl
    · cases comb c (wrap64 (f + 3)) (nlk c s b (i : Int)) (lk l (i : Int)) <;> simp <;> omega
theorem all_any (b : List S35) (c : Int) : (b.all fun x => !(x.f0 == c)) = !b.any (slf35 c) := by
  rw [List.not_any_eq_all_not]; rfl
theorem rlearn_eq (l : List S35) (c s : Int) (b : List S35) (f : Int) (hl : l.length ≤ 1000) (hb : b.length ≤ 1000) (k : Nat) (hk : 2000 < k) : slotmeshref21_Learn.f k l c s b f = some (learnS l c s b f) := by
  have hj : ∀ k, 0 < k → slotmeshref21_Learn.j0 k l c s b f true = some ([], 1) := fun k h => by
    obtain ⟨k, rfl⟩ : ∃ m, k = m + 1 := ⟨k - 1, by omega⟩
    simp [slotmeshref21_Learn.j0]
  unfold slotmeshref21_Learn.f
  rw [rvalid_eq l (by omega) k (by omega), rtold_eq, rid2_eq, hj k (by omega)]
  simp only [Option.bind_some]
  rcases learn_cases l c s b f with ⟨h, e⟩ | ⟨h, e⟩
  · have hx : lk b c = none := lk_none h.n
    rw [if_pos h.v, if_pos (ndb_iff.2 ⟨h.c0, h.c1⟩), if_neg (by have := h.s0; omega), if_neg (by have := h.s1; omega), if_neg (by have := h.f0; omega), if_neg (by have := h.f1; omega), h.t, e, all_any]
    have h9 : b.any (slf35 c) = false := List.any_eq_false.2 fun x hx e => h.n x hx (by simpa [slf35] using e)
    rw [h9]
    obtain ⟨k, rfl⟩ : ∃ m, k = m + 1 := ⟨k - 1, by omega⟩
    simp only [slotmeshref21_Learn.j0]
    rw [if_neg (by decide)]
    have := rl_l0 l c s b f hl hb hx 60 k 0 [] rfl (by omega) (by simp)
    rw [show ((0 : Nat) : Int) = 0 from rfl] at this
    rw [this, List.nil_append]
    congr 2
    have hw : wrap64 (f + 3) = f + 3 := by have := h.f0; have := h.f1; unfold wrap64; omega
    rw [hw]
    have : (fun t => comb c (f + 3) (nlk c s b t) (lk l t)) = lk (mrg l c s b f) := funext fun t => (h.lk t).symm
    rw [this]
    exact gen_eq h.srt fun x hx => (((vld_iff _).1 h.valid).2 x hx).1.2.1
  · rw [e]
    by_cases h1 : vld l = true
    · rw [if_pos h1]
      by_cases h2 : ndb c = true
      · rw [if_pos h2]
        have h2' := ndb_iff.1 h2
        by_cases h3 : s < 0
        · rw [if_pos h3]
        · rw [if_neg h3]
          by_cases h4 : s > 1000000000
          · rw [if_pos h4]
          · rw [if_neg h4]
            by_cases h5 : f < 0
            · rw [if_pos h5]
            · rw [if_neg h5]
              by_cases h6 : f > 999999997
              · rw [if_pos h6]
              · rw [if_neg h6]
                have : (tld (-1) b && b.all fun x => !(x.f0 == c)) = false := by
                  refine Bool.eq_false_iff.2 fun h7 => h ?_
                  rw [Bool.and_eq_true, List.all_eq_true] at h7
                  exact ⟨h1, h2'.1, h2'.2, by omega, by omega, by omega, by omega, h7.1, fun x hx e => by have := h7.2 x hx; simp [e] at this⟩
                rw [this]
                exact hj k (by omega)
      · rw [if_neg h2]
    · rw [if_neg h1]
/-! ### Next, Expire, Tell -/
def nextS (l : List S35) (t : Int) : Int × Bool := if vld l = true then (match lk l t with | none => (0, false) | some x => (x.f1, true)) else (0, false)
theorem next_eq (l : List S35) (t : Int) (hn : l.length ≤ 1000) (k : Nat) (hk : 1000 < k) : down_Next.f k l t = some (nextS l t) := by
  unfold down_Next.f nextS
  rw [valid_eq l (by omega) k (by omega)]
  simp only [Option.bind_some]
  have h := at_lk l t
  unfold at' at h
  rcases h with ⟨h1, h2⟩ | ⟨n, h0, h1, h2, h3⟩
  · rw [h1, if_pos (by decide), h2]; simp
  · rw [h1, if_neg (by omega), rdn, h2]; cases vld l <;> rfl
theorem rnext_eq (l : List S35) (t : Int) (hn : l.length ≤ 1000) (k : Nat) (hk : 1000 < k) : slotmeshref21_Next.f k l t = some (nextS l t) := by
  unfold slotmeshref21_Next.f nextS
  rw [rvalid_eq l (by omega) k (by omega), rfind_eq l t (by omega) k (by omega)]
  simp only [Option.bind_some]
  by_cases hv : vld l = true
  · rw [if_pos hv, if_pos hv]
    rcases at_lk l t with ⟨h1, h2⟩ | ⟨n, h0, h1, h2, h3⟩
    · rw [h1, if_pos (by decide), h2]
    · rw [h1, if_neg (by omega), if_pos (by omega), if_pos (by omega), rdn, h2]
  · rw [if_neg hv, if_neg hv]
def expS (l : List S35) (u : Int) : List S35 := if vld l = true then l.filter (fun x => decide (x.f3 ≥ u)) else []
theorem expire_eq (l : List S35) (u : Int) (hn : l.length ≤ 1000) (k : Nat) (hk : 1000 < k) : down_Expire.f k l u = some (expS l u) := by
  unfold down_Expire.f expS
  rw [valid_eq l (by omega) k (by omega)]
  simp only [Option.bind_some]
  by_cases hv : vld l = true
  · rw [if_pos hv, if_pos hv, api_Down_35.f, if_pos (by omega), Option.bind_some]
    congr 2
    funext x
    unfold exp36
    rw [← decide_not]; congr 1; simp
  · rw [if_neg hv, if_neg hv]
theorem eta35 (x : S35) : (⟨x.f0, x.f1, x.f2, x.f3⟩ : S35) = x := rfl
theorem rexp_l0 (l : List S35) (u : Int) (hn : l.length ≤ 1000) : ∀ (d k i : Nat) (o : List S35), i + d = l.length → d < k → o.length ≤ i → slotmeshref21_Expire.l0 k l u o (i : Int) = some (o ++ (l.drop i).filter fun x => decide (x.f3 ≥ u))
  | 0, k, i, o, hd, hk, ho => by
    obtain ⟨k, rfl⟩ : ∃ m, k = m + 1 := ⟨k - 1, by omega⟩
    simp only [slotmeshref21_Expire.l0]
    rw [if_neg (by omega), List.drop_of_length_le (by omega)]; simp
  | d + 1, k, i, o, hd, hk, ho => by
    obtain ⟨k, rfl⟩ : ∃ m, k = m + 1 := ⟨k - 1, by omega⟩
    simp only [slotmeshref21_Expire.l0]
    rw [if_pos (by omega), if_pos (by omega), rdn, w1 (n := l.length) (by omega) (by omega), drop_cons_getD l i z35 (by omega), List.filter_cons]
    by_cases h : (l.getD i z35).f3 ≥ u
    · rw [if_pos h, if_pos (by omega), rexp_l0 l u hn d k (i + 1) _ (by omega) (by omega) (by simp; omega), if_pos (decide_eq_true h)]; simp
    · rw [if_neg h, rexp_l0 l u hn d k (i + 1) _ (by omega) (by omega) (by omega), if_neg (by simpa using h)]
theorem rexpire_eq (l : List S35) (u : Int) (hn : l.length ≤ 1000) (k : Nat) (hk : 1000 < k) : slotmeshref21_Expire.f k l u = some (expS l u) := by
  unfold slotmeshref21_Expire.f expS
  rw [rvalid_eq l (by omega) k (by omega)]
  simp only [Option.bind_some]
  have := rexp_l0 l u hn l.length k 0 [] (by omega) (by omega) (by simp)
  rw [show ((0 : Nat) : Int) = 0 from rfl] at this
  rw [this]
  by_cases hv : vld l = true
  · rw [if_pos hv, if_pos hv]; simp
  · rw [if_neg hv, if_neg hv]
def tl (x : S35) : S35 := ⟨x.f0, 0, x.f2, 0⟩
def tellS (l : List S35) : List S35 := if vld l = true then l.map tl else []
theorem tell_l0 : ∀ (d k i : Nat) (l : List S35), l.length ≤ 1000 → i + d = l.length → d < k → down_Tell.l0 k l (l.length : Int) (i : Int) = some (l.take i ++ (l.drop i).map tl)
  | 0, k, i, l, hn, hd, hk => by
    obtain ⟨k, rfl⟩ : ∃ m, k = m + 1 := ⟨k - 1, by omega⟩
    simp only [down_Tell.l0]
    rw [if_neg (by omega), List.drop_of_length_le (by omega), List.take_of_length_le (by omega)]; simp
  | d + 1, k, i, l, hn, hd, hk => by
    obtain ⟨k, rfl⟩ : ∃ m, k = m + 1 := ⟨k - 1, by omega⟩
    simp only [down_Tell.l0]
    rw [if_pos (by omega), if_pos (by omega), if_pos (by omega), w1 (n := l.length) (by omega) (by omega)]
    simp only [Option.bind_some, rdn, Int.toNat_natCast]
    have hi : i < l.length := by omega
    have e1 : (l.set i ⟨(l.getD i z35).f0, 0, (l.getD i z35).f2, (l.getD i z35).f3⟩).getD i z35 = ⟨(l.getD i z35).f0, 0, (l.getD i z35).f2, (l.getD i z35).f3⟩ := by
      simp [List.getD_eq_getElem?_getD, hi]
    rw [e1, List.set_set]
    show down_Tell.l0 k (l.set i (tl (l.getD i z35))) (l.length : Int) ((i + 1 : Nat) : Int) = _
    have ih := tell_l0 d k (i + 1) (l.set i (tl (l.getD i z35))) (by simpa using hn) (by simp; omega) (by omega)
    rw [List.length_set] at ih
    rw [ih, drop_cons_getD l i z35 hi]
    congr 1
    rw [List.drop_set_of_lt (by omega), List.take_add_one, List.getElem?_set_self hi, List.take_set_of_le (Nat.le_refl i)]
    simp
theorem tell_eq (l : List S35) (hn : l.length ≤ 1000) (k : Nat) (hk : 1000 < k) : down_Tell.f k l = some (tellS l) := by
  unfold down_Tell.f tellS
  rw [valid_eq l (by omega) k (by omega)]
  simp only [Option.bind_some]
  by_cases hv : vld l = true
  · rw [if_pos hv, if_pos hv, api_Down_35.f, if_pos (by omega), Option.bind_some]
    have := tell_l0 l.length k 0 l hn (by omega) (by omega)
    simpa using this
  · rw [if_neg hv, if_neg hv]
theorem rtell_l0 (l : List S35) (hn : l.length ≤ 1000) : ∀ (d k i : Nat) (o : List S35), i + d = l.length → d < k → o.length ≤ i → slotmeshref21_Tell.l0 k l o (i : Int) = some (o ++ (l.drop i).map tl)
  | 0, k, i, o, hd, hk, ho => by
    obtain ⟨k, rfl⟩ : ∃ m, k = m + 1 := ⟨k - 1, by omega⟩
    simp only [slotmeshref21_Tell.l0]
    rw [if_neg (by omega), List.drop_of_length_le (by omega)]; simp
  | d + 1, k, i, o, hd, hk, ho => by
    obtain ⟨k, rfl⟩ : ∃ m, k = m + 1 := ⟨k - 1, by omega⟩
    simp only [slotmeshref21_Tell.l0]
    rw [if_pos (by omega), if_pos (by omega), rdn, w1 (n := l.length) (by omega) (by omega), drop_cons_getD l i z35 (by omega), if_pos (by omega), rtell_l0 l hn d k (i + 1) _ (by omega) (by omega) (by simp; omega)]
    simp [tl]
theorem rtell_eq (l : List S35) (hn : l.length ≤ 1000) (k : Nat) (hk : 1000 < k) : slotmeshref21_Tell.f k l = some (tellS l) := by
  unfold slotmeshref21_Tell.f tellS
  rw [rvalid_eq l (by omega) k (by omega)]
  simp only [Option.bind_some]
  have := rtell_l0 l hn l.length k 0 [] (by omega) (by omega) (by simp)
  rw [show ((0 : Nat) : Int) = 0 from rfl] at this
  rw [this]
  by_cases hv : vld l = true
  · rw [if_pos hv, if_pos hv]; simp
  · rw [if_neg hv, if_neg hv]
theorem exp_len (l : List S35) (u : Int) (hn : l.length ≤ 1000) : (expS l u).length ≤ 1000 := by
  unfold expS; split
  · have := List.length_filter_le (fun x => decide (x.f3 ≥ u)) l; omega
  · simp
theorem tell_len (l : List S35) (hn : l.length ≤ 1000) : (tellS l).length ≤ 1000 := by
  unfold tellS; split
  · simpa using hn
  · simp
end Spec
end Go.Proofs.Ythobfempjekhdaa.Px
