/- Walks of functions of this seat, written by a program of this workplace out of the translation. -/
import Derived.Test.YtbpfbdljcdcgnaaPx0
namespace Go.Proofs.Ytbpfbdljcdcgnaa.Px
open Go.RowKit Go.Proofs.YtbpfbdljcdcgnaaW.PrintWords Go.Proofs.YtbpfbdljcdcgnaaW.PrintLast Go.Proofs.YtbpfbdljcdcgnaaW.PrintMore
attribute [local go_sem] max2_int min2_int max_two min_two max_three min_three max_four min_four   -- for this text's walks alone
set_option linter.unusedVariables false
set_option linter.unusedSimpArgs false

/-! ### api_Grant_32: function 32 -/
theorem eqlIn_slice_nil {P : Program} (d : Nat) (t e : TypeId) (h : P.underlying t = some (.slice e)) (a : Option Addr) (l c : Nat) (w : World) : (Op.equalIn (d + 1) t (.slice a l c) (.slice none 0 0)).run P w = .ok a.isNone w := by
 cases a <;> simp [Op.equalIn, run_underlying h]
theorem eql_slice_nil {P : Program} (t e : TypeId) (h : P.underlying t = some (.slice e)) (a : Option Addr) (l c : Nat) (w : World) : (binOp .eql t (.slice a l c) (.slice none 0 0)).run P w = .ok (.bool a.isNone) w := by
 have h2 : (Op.equal t (.slice a l c) (.slice none 0 0)).run P w = .ok a.isNone w := eqlIn_slice_nil 9999 t e h a l c w
 simp only [binOp]
 simp [h2]
theorem flat32 (w : World) (base : Nat) (ok : Nat → Prop) (x : S32) (c : List Value) (h : k32.K w x c) : k32.M w base ok x c := by
 obtain rfl := k32_open h
 exact k32_mkM _ _ _ _
theorem flat34 (w : World) (base : Nat) (ok : Nat → Prop) (x : S34) (c : List Value) (h : k34.K w x c) : k34.M w base ok x c := by
 obtain rfl := k34_open h
 exact k34_mkM _ _ _ _
theorem flat51 (w : World) (base : Nat) (ok : Nat → Prop) (x : S51) (c : List Value) (h : k51.K w x c) : k51.M w base ok x c := by
 obtain rfl := k51_open h
 exact k51_mkM _ _ _ _
def api_Grant_32.f (l0 : List (S34)) : Option (List (S34)) := if l0.length < 3518437208883 then some l0 else none
set_option maxHeartbeats 4000000 in
theorem api_Grant_32.calls (A0 : Option Addr) (c0 : Nat) (l0 : List (S34)) (r : List (S34)) (w : World) (hr0 : Kd.C k34 w A0 l0.length l0) (hc0 : l0.length ≤ c0) (h : api_Grant_32.f l0 = some r) :
  Calls Try.prog 32 #[.slice A0 l0.length c0] w fun e w' => ∃ v0_ : Value, e = .returned (v0_) ∧ Kd.R k34 34 w' w.heap.size (fun _ => True) v0_ r ∧ Below w.heap.size w w' := by
 have HL : Aside0 (l0.length < 3518437208883 ∧ l0 = r) := ⟨by
  unfold api_Grant_32.f at h
  by_cases hl : l0.length < 3518437208883
  ·rw [if_pos hl] at h; exact ⟨hl, Option.some.inj h⟩
  rw [if_neg hl] at h; exact absurd h (by simp)⟩
 obtain rfl := HL.out.2
 clear h hc0
 have HR := Aside0.mk hr0
 clear hr0
 have HB := Aside0.mk (Below.refl w.heap.size w)
 rcases A0 with _ | ad
 ·have h0 : l0 = [] := by
   rcases Nat.eq_zero_or_pos l0.length with h0 | h0
   ·exact List.eq_nil_of_length_eq_zero h0
   obtain ⟨ad, h, _⟩ := HR.out.2.2 h0
   cases h
  subst h0
  have heq := eql_slice_nil (P := Try.prog) 23 34 Try.underlying23 none 0 c0
  go_enter Try.func32, Try.ntmps32
  go_wp2
  go_ret
  exact ⟨_, rfl, Kd.R_nil _ _ _ _ _, HB.out⟩
 have heq := eql_slice_nil (P := Try.prog) 23 34 Try.underlying23 (some ad) l0.length c0
 go_enter Try.func32, Try.ntmps32
 go_wp2_with (first
  | ((with_reducible refine gate_dst (N := 5) rfl ?_); refine Kd.R_lit k34 _ 34 ?hg (N := 5) ?hd (xs := []) (inner := []) (ok := fun _ => True) (okp := fun _ => True) ?hr ?hp (fun _ hk => hk) trivial (Below.refl _ _) (Nat.le_refl _) (by simp) ?_; (case hd => rfl); (case hg => rfl); (case hr => first | (go_simp; done) | (go_simp; rfl)); (case hp => exact Reps.none _ _); intro v5 w5 ho hb hg_ hnew_; clear hg_ hnew_; have HO5 := Aside0.mk (Kd.R_lower ho HB.out.size); have HB5 := Aside0.mk (below_step HB.out hb); clear ho hb)
  | ((with_reducible refine gate_builtin (b := .append) (xs := #[.tmp 5, .tmp 6]) rfl ?_); at_builtin; refine Kd.R_append_rows k34 (w0 := w) w.heap.size rfl (.tmp 5) (.tmp 6) 23 34 (.agg #[(.int .i64 0), (.int .i64 0), (.int .i64 0), (.int .i64 0), (.int .i64 0)]) 40 rfl Try.underlying23 info34 rfl (by decide) (by omega) v5 [] l0 _ _ _ (fun _ => True) (fun _ => False) rfl rfl ?aO ?aR (fun _ _ h_ => flat34 _ _ _ _ _ h_) (fun _ h_ => h_.elim) (fun _ _ => trivial) ?aB ?aS ?aL ?_; (case aR => exact Kd.C_below HR.out HB5.out); (case aO => exact HO5.out); (case aB => exact HB5.out); (case aS => exact HB5.out.size); (case aL => have := HL.out.1; simp; omega); intro v7 w7 ho hb hg hat; clear hg hat; have HO7 := Aside0.mk ho; have HB7 := Aside0.mk hb; clear ho hb))
 go_ret
 exact ⟨_, rfl, HO7.out, HB7.out⟩
def fidx {α : Type} (p : α → Bool) : List α → Int → Int
 | [], _ => -1
 | x :: t, i => if p x = true then i else fidx p t (i + 1)
theorem fidx_hit {α : Type} (p : α → Bool) (d : α) : ∀ (l : List α) (i : Int) (n : Nat), n < l.length → (∀ j, j < n → p (l.getD j d) = false) → p (l.getD n d) = true → fidx p l i = i + n
 | [], _, _, h, _, _ => absurd h (Nat.not_lt_zero _)
 | x :: t, i, 0, _, _, h2 => by
  have h2' : p x = true := h2
  unfold fidx; rw [if_pos h2']; simp
 | x :: t, i, n + 1, h, h1, h2 => by
  have h0 : p x = false := h1 0 (Nat.succ_pos _)
  unfold fidx; rw [if_neg (by rw [h0]; decide)]
  rw [fidx_hit p d t (i + 1) n (by simpa using h) (fun j hj => h1 (j + 1) (by omega)) h2]
  omega
theorem fidx_miss {α : Type} (p : α → Bool) (d : α) : ∀ (l : List α) (i : Int), (∀ j, j < l.length → p (l.getD j d) = false) → fidx p l i = -1
 | [], _, _ => rfl
 | x :: t, i, h => by
  have h0 : p x = false := h 0 (Nat.succ_pos _)
  unfold fidx; rw [if_neg (by rw [h0]; decide)]
  exact fidx_miss p d t (i + 1) (fun j hj => h (j + 1) (by simpa using hj))
set_option maxHeartbeats 8000000 in
set_option maxRecDepth 100000 in
theorem ixf32 (g : Nat) (cb : Array Value) (p : S32 → Bool) (A : Option Addr) (c : Nat) (l : List (S32)) (w : World) (hr : Kd.C k32 w A l.length l)
  (eg : ∀ args w, (callFunc g args).run Try.prog w = .ok (.enter g args) w)
  (hp : ∀ (W : World) (x : S32), Below w.heap.size w W → Calls Try.prog g (#[.agg #[.int .i64 x.f0.f0, .int .i64 x.f0.f1, .int .i64 x.f1, .int .i64 x.f2]] ++ cb) W fun e w' => e = .returned (.bool (p x)) ∧ Below w.heap.size w w') :
  Calls Try.prog 61 #[.slice A l.length c, .func (.func g) #[] cb] w fun e w' => e = .returned (.int .i64 (fidx p l 0)) ∧ Below w.heap.size w w' := by
 have HR := Aside0.mk hr
 clear hr
 have hu32 := Try.underlying32
 have hbig : l.length ≤ 9223372036854775807 := by
  have := HR.out.2.1
  omega
 go_enter Try.func61, Try.ntmps61
 go_wp2
 go_loopg [5, 8] l.length (fun gg _ s8 wr => ∃ kk : Nat, kk ≤ l.length ∧ l.length - kk ≤ gg ∧ s8 = .int .i64 kk ∧ Aside0 (Below w.heap.size w wr) ∧ Aside0 (∀ j, j < kk → p (l.getD j z32) = false))
 case atStart => exact ⟨0, Nat.zero_le _, by omega, rfl, ⟨Below.refl _ w⟩, ⟨fun j hj => absurd hj (Nat.not_lt_zero _)⟩⟩
 case round =>
  obtain ⟨kk, hkk, hg, rfl, BW, NO⟩ := hrel
  by_cases hlt : kk < l.length
  ·have hltz : (kk : Int) < (l.length : Int) := by omega
   obtain ⟨ad, hA, h0, h1, h2, h3⟩ := at_T32 HR.out kk (by omega) hltz
   subst hA
   replace h0 := (BW.out.cell (World.block_lt_of_cell? w _ h0)).trans h0
   replace h1 := (BW.out.cell (World.block_lt_of_cell? w _ h1)).trans h1
   replace h2 := (BW.out.cell (World.block_lt_of_cell? w _ h2)).trans h2
   replace h3 := (BW.out.cell (World.block_lt_of_cell? w _ h3)).trans h3
   simp only [Int.toNat_natCast] at h0 h1 h2 h3
   have hcall := hp wr (rd_T32 l kk) BW.out
   have hel : rd_T32 l kk = l.getD kk z32 := by simp [rd_T32]
   generalize hy : rd_T32 l kk = y at h0 h1 h2 h3 hcall hel
   have EY := Aside0.mk hel
   clear hel hy
   cases hq : p y with
   | true =>
    rw [hq] at hcall
    go_wp2_with (go_at_fn g; refine hcall.mono ?_; rintro e w' ⟨rfl, hb'⟩)
    go_ret
    refine ⟨?_, hb'⟩
    rw [fidx_hit p z32 l 0 kk hlt NO.out (by rw [← EY.out]; exact hq)]
    simp
   | false =>
    rw [hq] at hcall
    go_wp2_with (go_at_fn g; refine hcall.mono ?_; rintro e w' ⟨rfl, hb'⟩)
    go_roundg (l.length - (kk + 1))
    case measure => omega
    case rel =>
     refine ⟨kk + 1, by omega, by omega, by go_num, ⟨hb'⟩, ⟨fun j hj => ?_⟩⟩
     by_cases e : j = kk
     ·subst e
      rw [← EY.out]; exact hq
     exact NO.out j (by omega)
  have hltz : ¬ (kk : Int) < (l.length : Int) := by omega
  have hd := decide_eq_false hltz
  have hkl := Aside0.mk (show kk = l.length by omega)
  go_wp2
  go_ret
  refine ⟨?_, BW.out⟩
  rw [fidx_miss p z32 l 0 (by rw [← hkl.out]; exact NO.out)]
  rfl
theorem ctf32 (g : Nat) (cb : Array Value) (p : S32 → Bool) (A : Option Addr) (c : Nat) (l : List (S32)) (w : World) (hr : Kd.C k32 w A l.length l)
  (eg : ∀ args w, (callFunc g args).run Try.prog w = .ok (.enter g args) w)
  (hp : ∀ (W : World) (x : S32), Below w.heap.size w W → Calls Try.prog g (#[.agg #[.int .i64 x.f0.f0, .int .i64 x.f0.f1, .int .i64 x.f1, .int .i64 x.f2]] ++ cb) W fun e w' => e = .returned (.bool (p x)) ∧ Below w.heap.size w w') :
  Calls Try.prog 49 #[.slice A l.length c, .func (.func g) #[] cb] w fun e w' => e = .returned (.bool (decide (0 ≤ fidx p l 0))) ∧ Below w.heap.size w w' := by
 have HI := Aside0.mk (ixf32 g cb p A c l w hr eg hp)
 clear hr eg hp
 generalize fidx p l 0 = i at HI ⊢
 go_enter Try.func49, Try.ntmps49
 go_wp2_with (go_at_call 61; refine HI.out.mono ?_; rintro e w' ⟨rfl, hb'⟩)
 go_ret
 exact ⟨rfl, hb'⟩
set_option maxHeartbeats 8000000 in
set_option maxRecDepth 100000 in
theorem ixf34 (g : Nat) (cb : Array Value) (p : S34 → Bool) (A : Option Addr) (c : Nat) (l : List (S34)) (w : World) (hr : Kd.C k34 w A l.length l)
  (eg : ∀ args w, (callFunc g args).run Try.prog w = .ok (.enter g args) w)
  (hp : ∀ (W : World) (x : S34), Below w.heap.size w W → Calls Try.prog g (#[.agg #[.int .i64 x.f0.f0, .int .i64 x.f0.f1, .int .i64 x.f1, .int .i64 x.f2, .int .i64 x.f3]] ++ cb) W fun e w' => e = .returned (.bool (p x)) ∧ Below w.heap.size w w') :
  Calls Try.prog 65 #[.slice A l.length c, .func (.func g) #[] cb] w fun e w' => e = .returned (.int .i64 (fidx p l 0)) ∧ Below w.heap.size w w' := by
 have HR := Aside0.mk hr
 clear hr
 have hu34 := Try.underlying34
 have hbig : l.length ≤ 9223372036854775807 := by
  have := HR.out.2.1
  omega
 go_enter Try.func65, Try.ntmps65
 go_wp2
 go_loopg [5, 8] l.length (fun gg _ s8 wr => ∃ kk : Nat, kk ≤ l.length ∧ l.length - kk ≤ gg ∧ s8 = .int .i64 kk ∧ Aside0 (Below w.heap.size w wr) ∧ Aside0 (∀ j, j < kk → p (l.getD j z34) = false))
 case atStart => exact ⟨0, Nat.zero_le _, by omega, rfl, ⟨Below.refl _ w⟩, ⟨fun j hj => absurd hj (Nat.not_lt_zero _)⟩⟩
 case round =>
  obtain ⟨kk, hkk, hg, rfl, BW, NO⟩ := hrel
  by_cases hlt : kk < l.length
  ·have hltz : (kk : Int) < (l.length : Int) := by omega
   obtain ⟨ad, hA, h0, h1, h2, h3, h4⟩ := at_T34 HR.out kk (by omega) hltz
   subst hA
   replace h0 := (BW.out.cell (World.block_lt_of_cell? w _ h0)).trans h0
   replace h1 := (BW.out.cell (World.block_lt_of_cell? w _ h1)).trans h1
   replace h2 := (BW.out.cell (World.block_lt_of_cell? w _ h2)).trans h2
   replace h3 := (BW.out.cell (World.block_lt_of_cell? w _ h3)).trans h3
   replace h4 := (BW.out.cell (World.block_lt_of_cell? w _ h4)).trans h4
   simp only [Int.toNat_natCast] at h0 h1 h2 h3 h4
   have hcall := hp wr (rd_T34 l kk) BW.out
   have hel : rd_T34 l kk = l.getD kk z34 := by simp [rd_T34]
   generalize hy : rd_T34 l kk = y at h0 h1 h2 h3 h4 hcall hel
   have EY := Aside0.mk hel
   clear hel hy
   cases hq : p y with
   | true =>
    rw [hq] at hcall
    go_wp2_with (go_at_fn g; refine hcall.mono ?_; rintro e w' ⟨rfl, hb'⟩)
    go_ret
    refine ⟨?_, hb'⟩
    rw [fidx_hit p z34 l 0 kk hlt NO.out (by rw [← EY.out]; exact hq)]
    simp
   | false =>
    rw [hq] at hcall
    go_wp2_with (go_at_fn g; refine hcall.mono ?_; rintro e w' ⟨rfl, hb'⟩)
    go_roundg (l.length - (kk + 1))
    case measure => omega
    case rel =>
     refine ⟨kk + 1, by omega, by omega, by go_num, ⟨hb'⟩, ⟨fun j hj => ?_⟩⟩
     by_cases e : j = kk
     ·subst e
      rw [← EY.out]; exact hq
     exact NO.out j (by omega)
  have hltz : ¬ (kk : Int) < (l.length : Int) := by omega
  have hd := decide_eq_false hltz
  have hkl := Aside0.mk (show kk = l.length by omega)
  go_wp2
  go_ret
  refine ⟨?_, BW.out⟩
  rw [fidx_miss p z34 l 0 (by rw [← hkl.out]; exact NO.out)]
  rfl
theorem ctf34 (g : Nat) (cb : Array Value) (p : S34 → Bool) (A : Option Addr) (c : Nat) (l : List (S34)) (w : World) (hr : Kd.C k34 w A l.length l)
  (eg : ∀ args w, (callFunc g args).run Try.prog w = .ok (.enter g args) w)
  (hp : ∀ (W : World) (x : S34), Below w.heap.size w W → Calls Try.prog g (#[.agg #[.int .i64 x.f0.f0, .int .i64 x.f0.f1, .int .i64 x.f1, .int .i64 x.f2, .int .i64 x.f3]] ++ cb) W fun e w' => e = .returned (.bool (p x)) ∧ Below w.heap.size w w') :
  Calls Try.prog 51 #[.slice A l.length c, .func (.func g) #[] cb] w fun e w' => e = .returned (.bool (decide (0 ≤ fidx p l 0))) ∧ Below w.heap.size w w' := by
 have HI := Aside0.mk (ixf34 g cb p A c l w hr eg hp)
 clear hr eg hp
 generalize fidx p l 0 = i at HI ⊢
 go_enter Try.func51, Try.ntmps51
 go_wp2_with (go_at_call 65; refine HI.out.mono ?_; rintro e w' ⟨rfl, hb'⟩)
 go_ret
 exact ⟨rfl, hb'⟩
set_option maxHeartbeats 8000000 in
set_option maxRecDepth 100000 in
theorem ixf51 (g : Nat) (cb : Array Value) (p : S51 → Bool) (A : Option Addr) (c : Nat) (l : List (S51)) (w : World) (hr : Kd.C k51 w A l.length l)
  (eg : ∀ args w, (callFunc g args).run Try.prog w = .ok (.enter g args) w)
  (hp : ∀ (W : World) (x : S51), Below w.heap.size w W → Calls Try.prog g (#[.agg #[.int .i64 x.f0.f0, .int .i64 x.f0.f1, .int .i64 x.f1]] ++ cb) W fun e w' => e = .returned (.bool (p x)) ∧ Below w.heap.size w w') :
  Calls Try.prog 76 #[.slice A l.length c, .func (.func g) #[] cb] w fun e w' => e = .returned (.int .i64 (fidx p l 0)) ∧ Below w.heap.size w w' := by
 have HR := Aside0.mk hr
 clear hr
 have hu51 := Try.underlying51
 have hbig : l.length ≤ 9223372036854775807 := by
  have := HR.out.2.1
  omega
 go_enter Try.func76, Try.ntmps76
 go_wp2
 go_loopg [5, 8] l.length (fun gg _ s8 wr => ∃ kk : Nat, kk ≤ l.length ∧ l.length - kk ≤ gg ∧ s8 = .int .i64 kk ∧ Aside0 (Below w.heap.size w wr) ∧ Aside0 (∀ j, j < kk → p (l.getD j z51) = false))
 case atStart => exact ⟨0, Nat.zero_le _, by omega, rfl, ⟨Below.refl _ w⟩, ⟨fun j hj => absurd hj (Nat.not_lt_zero _)⟩⟩
 case round =>
  obtain ⟨kk, hkk, hg, rfl, BW, NO⟩ := hrel
  by_cases hlt : kk < l.length
  ·have hltz : (kk : Int) < (l.length : Int) := by omega
   obtain ⟨ad, hA, h0, h1, h2⟩ := at_T51 HR.out kk (by omega) hltz
   subst hA
   replace h0 := (BW.out.cell (World.block_lt_of_cell? w _ h0)).trans h0
   replace h1 := (BW.out.cell (World.block_lt_of_cell? w _ h1)).trans h1
   replace h2 := (BW.out.cell (World.block_lt_of_cell? w _ h2)).trans h2
   simp only [Int.toNat_natCast] at h0 h1 h2
   have hcall := hp wr (rd_T51 l kk) BW.out
   have hel : rd_T51 l kk = l.getD kk z51 := by simp [rd_T51]
   generalize hy : rd_T51 l kk = y at h0 h1 h2 hcall hel
   have EY := Aside0.mk hel
   clear hel hy
   cases hq : p y with
   | true =>
    rw [hq] at hcall
    go_wp2_with (go_at_fn g; refine hcall.mono ?_; rintro e w' ⟨rfl, hb'⟩)
    go_ret
    refine ⟨?_, hb'⟩
    rw [fidx_hit p z51 l 0 kk hlt NO.out (by rw [← EY.out]; exact hq)]
    simp
   | false =>
    rw [hq] at hcall
    go_wp2_with (go_at_fn g; refine hcall.mono ?_; rintro e w' ⟨rfl, hb'⟩)
    go_roundg (l.length - (kk + 1))
    case measure => omega
    case rel =>
     refine ⟨kk + 1, by omega, by omega, by go_num, ⟨hb'⟩, ⟨fun j hj => ?_⟩⟩
     by_cases e : j = kk
     ·subst e
      rw [← EY.out]; exact hq
     exact NO.out j (by omega)
  have hltz : ¬ (kk : Int) < (l.length : Int) := by omega
  have hd := decide_eq_false hltz
  have hkl := Aside0.mk (show kk = l.length by omega)
  go_wp2
  go_ret
  refine ⟨?_, BW.out⟩
  rw [fidx_miss p z51 l 0 (by rw [← hkl.out]; exact NO.out)]
  rfl

/-! ### api_Use_36: function 36 -/
def api_Use_36.f (l0 : List (S32)) : Option (List (S32)) := if l0.length < 4398046511104 then some l0 else none
set_option maxHeartbeats 4000000 in
theorem api_Use_36.calls (A0 : Option Addr) (c0 : Nat) (l0 : List (S32)) (r : List (S32)) (w : World) (hr0 : Kd.C k32 w A0 l0.length l0) (hc0 : l0.length ≤ c0) (h : api_Use_36.f l0 = some r) :
  Calls Try.prog 36 #[.slice A0 l0.length c0] w fun e w' => ∃ v0_ : Value, e = .returned (v0_) ∧ Kd.R k32 32 w' w.heap.size (fun _ => True) v0_ r ∧ Below w.heap.size w w' := by
 have HL : Aside0 (l0.length < 4398046511104 ∧ l0 = r) := ⟨by
  unfold api_Use_36.f at h
  by_cases hl : l0.length < 4398046511104
  ·rw [if_pos hl] at h; exact ⟨hl, Option.some.inj h⟩
  rw [if_neg hl] at h; exact absurd h (by simp)⟩
 obtain rfl := HL.out.2
 clear h hc0
 have HR := Aside0.mk hr0
 clear hr0
 have HB := Aside0.mk (Below.refl w.heap.size w)
 rcases A0 with _ | ad
 ·have h0 : l0 = [] := by
   rcases Nat.eq_zero_or_pos l0.length with h0 | h0
   ·exact List.eq_nil_of_length_eq_zero h0
   obtain ⟨ad, h, _⟩ := HR.out.2.2 h0
   cases h
  subst h0
  have heq := eql_slice_nil (P := Try.prog) 22 32 Try.underlying22 none 0 c0
  go_enter Try.func36, Try.ntmps36
  go_wp2
  go_ret
  exact ⟨_, rfl, Kd.R_nil _ _ _ _ _, HB.out⟩
 have heq := eql_slice_nil (P := Try.prog) 22 32 Try.underlying22 (some ad) l0.length c0
 go_enter Try.func36, Try.ntmps36
 go_wp2_with (first
  | ((with_reducible refine gate_dst (N := 5) rfl ?_); refine Kd.R_lit k32 _ 32 ?hg (N := 5) ?hd (xs := []) (inner := []) (ok := fun _ => True) (okp := fun _ => True) ?hr ?hp (fun _ hk => hk) trivial (Below.refl _ _) (Nat.le_refl _) (by simp) ?_; (case hd => rfl); (case hg => rfl); (case hr => first | (go_simp; done) | (go_simp; rfl)); (case hp => exact Reps.none _ _); intro v5 w5 ho hb hg_ hnew_; clear hg_ hnew_; have HO5 := Aside0.mk (Kd.R_lower ho HB.out.size); have HB5 := Aside0.mk (below_step HB.out hb); clear ho hb)
  | ((with_reducible refine gate_builtin (b := .append) (xs := #[.tmp 5, .tmp 6]) rfl ?_); at_builtin; refine Kd.R_append_rows k32 (w0 := w) w.heap.size rfl (.tmp 5) (.tmp 6) 22 32 (.agg #[(.int .i64 0), (.int .i64 0), (.int .i64 0), (.int .i64 0)]) 32 rfl Try.underlying22 info32 rfl (by decide) (by omega) v5 [] l0 _ _ _ (fun _ => True) (fun _ => False) rfl rfl ?aO ?aR (fun _ _ h_ => flat32 _ _ _ _ _ h_) (fun _ h_ => h_.elim) (fun _ _ => trivial) ?aB ?aS ?aL ?_; (case aR => exact Kd.C_below HR.out HB5.out); (case aO => exact HO5.out); (case aB => exact HB5.out); (case aS => exact HB5.out.size); (case aL => have := HL.out.1; simp; omega); intro v7 w7 ho hb hg hat; clear hg hat; have HO7 := Aside0.mk ho; have HB7 := Aside0.mk hb; clear ho hb))
 go_ret
 exact ⟨_, rfl, HO7.out, HB7.out⟩

end Go.Proofs.Ytbpfbdljcdcgnaa.Px
