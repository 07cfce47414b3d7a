/- Walks of functions of this seat, written by a program of this workplace out of the translation. -/
import Derived.Test.YthobfempjekhdaaLn1
import Derived.Test.YthobfempjekhdaaPx0
import Derived.Test.YthobfempjekhdaaPx1
import Derived.Test.YthobfempjekhdaaPx2
namespace Go.Proofs.Ythobfempjekhdaa.Px
open Go.RowKit Go.Proofs.YthobfempjekhdaaW.PrintWords Go.Proofs.YthobfempjekhdaaW.PrintLast Go.Proofs.YthobfempjekhdaaW.PrintMore
attribute [local go_sem] max2_int min2_int max_two min_two max_three min_three max_four min_four   -- for this text's walks alone
set_option linter.unusedVariables false
set_option linter.unusedSimpArgs false

attribute [local go_sem high] eqA35
/-! ### down_Learn: function 12 -/
def down_Learn.f (k : Nat) (l0 : List (S35)) (a1 : Int) (a2 : Int) (l3 : List (S35)) (a4 : Int) : Option ((List (S35)) × Int) :=
  (down_valid.f k l0).bind fun v => if v = false ∨ ndb a1 = false ∨ a2 < 0 ∨ a2 > 1000000000 ∨ a4 < 0 ∨ a4 > 999999997 then some ([], 1) else
    (down_told.f k l3).bind fun t => if t = false ∨ 0 ≤ fidx (slf35 a1) l3 0 then some ([], 1) else
      if l0.length + (2 * l3.length + 1) < 4398046511104 then some (mergeL a1 (wrap64 (a4 + 3)) (newsL a1 a2 none l3) l0, 0) else none
theorem down_Learn.mono : ∀ a0 a1 a2 a3 a4 k, LeO (down_Learn.f k a0 a1 a2 a3 a4) (down_Learn.f (k + 1) a0 a1 a2 a3 a4) := by
  intro l0 a1 a2 l3 a4 k r h
  unfold down_Learn.f at h ⊢
  obtain ⟨v, hv, h⟩ := Option.bind_eq_some_iff.1 h
  rw [down_valid.mono l0 k _ hv, Option.bind_some]
  by_cases hc : v = false ∨ ndb a1 = false ∨ a2 < 0 ∨ a2 > 1000000000 ∨ a4 < 0 ∨ a4 > 999999997
  · rw [if_pos hc] at h ⊢; exact h
  · rw [if_neg hc] at h ⊢
    obtain ⟨t, ht, h⟩ := Option.bind_eq_some_iff.1 h
    rw [down_told.mono l3 k _ ht]
    exact h
theorem down_Learn.calls (k : Nat) (A0 : Option Addr) (c0 : Nat) (l0 : List (S35)) (a1 : Int) (a2 : Int) (A3 : Option Addr) (c3 : Nat) (l3 : List (S35)) (a4 : Int) (r1 : List (S35)) (r2 : Int) (w : World) (hr0 : Kd.C k35 w A0 l0.length l0) (hc0 : l0.length ≤ c0) (hr3 : Kd.C k35 w A3 l3.length l3) (hc3 : l3.length ≤ c3) (h : down_Learn.f k l0 a1 a2 l3 a4 = some (r1, r2)) :
    Calls Try.prog 12 #[.slice A0 l0.length c0, .int .i64 a1, .int .i64 a2, .slice A3 l3.length c3, .int .i64 a4] w fun e w' => ∃ v0_ : Value, e = .returned (.tuple #[v0_, .int .i64 r2]) ∧ Kd.R k35 35 w' w.heap.size (fun _ => True) v0_ r1 ∧ Below w.heap.size w w' := by
  exact Learn2.calls k A0 c0 l0 a1 a2 A3 c3 l3 a4 r1 r2 w hr0 hc0 hr3 hc3 h

/-! ### down_Next: function 14 -/
def nxt33 (t : Int) (x : S35) : Bool := x.f0 == t
set_option maxHeartbeats 2000000 in
theorem nxt33.calls (t : Int) (x : S35) (gb : Nat) (W : World) (hb : W.heap[gb]? = some (.cells #[.int .i64 t] 3 (0, 0))) :
    Calls Try.prog 33 #[.agg #[.int .i64 x.f0, .int .i64 x.f1, .int .i64 x.f2, .int .i64 x.f3], .pointer (some ⟨gb, 0, none⟩)] W fun e w' => e = .returned (.bool (nxt33 t x)) ∧ Below W.heap.size W w' := by
  have hu35 := Try.underlying35
  have HB0 := Aside0.mk (Below.refl W.heap.size W)
  have BG := Aside0.mk hb
  clear hb
  go_enter Try.func33, Try.ntmps33
  go_wp2_with (first | ((with_reducible refine gate_dst (N := 2) rfl ?_); refine box_event ?hg (N := 2) ?hd (cs := #[.int .i64 x.f0, .int .i64 x.f1, .int .i64 x.f2, .int .i64 x.f3]) (t := 35) ?hr ?_; (case hd => rfl); (case hg => rfl); (case hr => first | (go_simp; done) | (go_simp; rfl)); intro gx hg w1 hbox hb1; have BX := Aside0.mk hbox; have HB1 := Aside0.mk (below_step HB0.out hb1); have x0 : w1.cell? ⟨gx, 0, none⟩ = some (.int .i64 x.f0) := blk_cell' BX.out 0 _ rfl; have g0 : w1.cell? ⟨gb, 0, none⟩ = some (.int .i64 t) := blk_cell' (blk_below BG.out hb1) 0 _ rfl; clear hb1 hbox hg))
  go_ret
  exact ⟨rfl, by repeat (first | exact HB1.out | apply below_drew1 | apply pw_below_drewN)⟩
def down_Next.f (k : Nat) (l0 : List (S35)) (a1 : Int) : Option (Int × Bool) := if fidx (nxt33 a1) l0 0 < 0 then some (0, false) else (down_valid.f k l0).bind fun t => if t = true then some ((rd_T35 l0 (fidx (nxt33 a1) l0 0)).f1, true) else some (0, false)
theorem down_Next.mono : ∀ a0 a1 k, LeO (down_Next.f k a0 a1) (down_Next.f (k + 1) a0 a1) := by
  intro l0 a1 k r h
  unfold down_Next.f at h ⊢
  by_cases hi : fidx (nxt33 a1) l0 0 < 0
  · rw [if_pos hi] at h ⊢; exact h
  · rw [if_neg hi] at h ⊢
    obtain ⟨t, ht, hr⟩ := Option.bind_eq_some_iff.1 h
    rw [down_valid.mono l0 k _ ht]
    exact hr
theorem fidx_bound {α : Type} (p : α → Bool) : ∀ (l : List α) (i : Int), fidx p l i = -1 ∨ (i ≤ fidx p l i ∧ fidx p l i < i + l.length)
  | [], _ => Or.inl rfl
  | x :: r, i => by
    unfold fidx
    by_cases h : p x = true
    · rw [if_pos h]; right; rw [List.length_cons]; omega
    · rw [if_neg h]
      rcases fidx_bound p r (i + 1) with h1 | h1
      · exact Or.inl h1
      · right; rw [List.length_cons]; omega
set_option maxHeartbeats 4000000 in
theorem down_Next.calls (k : Nat) (A0 : Option Addr) (c0 : Nat) (l0 : List (S35)) (a1 : Int) (r1 : Int) (r2 : Bool) (w : World) (hr0 : Kd.C k35 w A0 l0.length l0) (hc0 : l0.length ≤ c0) (h : down_Next.f k l0 a1 = some (r1, r2)) :
    Calls Try.prog 14 #[.slice A0 l0.length c0, .int .i64 a1] w fun e w' => e = .returned (.tuple #[.int .i64 r1, .bool r2]) ∧ Below w.heap.size w w' := by
  have HR := Aside0.mk hr0
  have HC := Aside0.mk hc0
  have H := Aside0.mk h
  have HB0 := Aside0.mk (Below.refl w.heap.size w)
  have hmf : ∀ (fn : Fn) (first cap : Array Value) (w : World), (Instr.makeFunc fn first cap).run Try.prog w = .ok (.func fn first cap) w := fun _ _ _ _ => rfl
  have eg : ∀ args w, (callFunc 33 args).run Try.prog w = .ok (.enter 33 args) w := enters_of Try.func33 (by kernel_rfl) rfl
  have EG := Aside0.mk eg
  have FB := Aside0.mk (fidx_bound (nxt33 a1) l0 0)
  have hu35 := Try.underlying35
  clear hr0 hc0 h eg
  have key : ∀ i : Int, fidx (nxt33 a1) l0 0 = i → Calls Try.prog 14 #[.slice A0 l0.length c0, .int .i64 a1] w fun e w' => e = .returned (.tuple #[.int .i64 r1, .bool r2]) ∧ Below w.heap.size w w' := by
    intro i hi
    have HIX : Aside0 (∀ (w1 : World) (gx : Nat), Below w.heap.size w w1 → w1.heap[gx]? = some (.cells #[.int .i64 a1] 3 (0, 0)) → Calls Try.prog 32 #[.slice A0 l0.length c0, .func (.func 33) #[] #[.pointer (some ⟨gx, 0, none⟩)]] w1 fun e w' => e = .returned (.int .i64 i) ∧ Below w1.heap.size w1 w') := ⟨fun w1 gx hw hbx => by
      rw [← hi]
      exact ixf35 33 #[.pointer (some ⟨gx, 0, none⟩)] (nxt33 a1) A0 c0 l0 w1 (Kd.C_below HR.out hw) EG.out (fun W x hW => (nxt33.calls a1 x gx W (blk_below hbx hW)).mono fun e w'' hq => ⟨hq.1, below_step hW hq.2⟩)⟩
    have H2 : Aside0 ((if i < 0 then some (0, false) else (down_valid.f k l0).bind fun t => if t = true then some ((rd_T35 l0 i).f1, true) else some (0, false)) = some (r1, r2)) := ⟨by rw [← hi]; exact H.out⟩
    have HF : Aside0 (i = -1 ∨ 0 ≤ i ∧ i < 0 + (l0.length : Int)) := ⟨by rw [← hi]; exact FB.out⟩
    clear H FB hi
    by_cases hneg : i < 0
    · have H3 := H2.out
      rw [if_pos hneg] at H3
      obtain ⟨rfl, rfl⟩ := Prod.mk.inj (Option.some.inj H3)
      have hd := decide_eq_true hneg
      clear H3
      go_enter Try.func14, Try.ntmps14
      go_wp2_with (first | ((with_reducible refine gate_dst (N := 3) rfl ?_); refine box_event ?hg (N := 3) ?hd (cs := #[.int .i64 a1]) (t := 3) ?hr ?_; (case hd => rfl); (case hg => rfl); (case hr => first | (go_simp; done) | (go_simp; rfl)); intro gx hg w1 hbox hb1; have BX := Aside0.mk hbox; have HB1 := Aside0.mk (below_step HB0.out hb1); clear hb1 hbox hg) | (go_at_call 32; refine (HIX.out _ gx HB1.out BX.out).mono ?_; rintro e w2 ⟨rfl, hb2⟩; have HB2 := Aside0.mk (below_step HB1.out hb2); clear hb2))
      go_ret2
      exact ⟨rfl, HB2.out⟩
    · have H3 := H2.out
      rw [if_neg hneg] at H3
      obtain ⟨t, ht, hr⟩ := Option.bind_eq_some_iff.1 H3
      have HV := Aside0.mk (fun w' (hw : Below w.heap.size w w') => down_valid.calls k A0 c0 l0 t w' (Kd.C_below HR.out hw) HC.out ht)
      have hd := decide_eq_false hneg
      have hr2 := Aside0.mk hr
      clear H3 ht hr
      have hi0 : 0 ≤ i := by omega
      have hi1 : i < (l0.length : Int) := by rcases HF.out with h | h <;> omega
      obtain ⟨ad, hA, h0, h1, h2, h3⟩ := at_T35 HR.out i hi0 hi1
      subst hA
      have CE := Aside0.mk h1
      clear h0 h1 h2 h3
      cases t
      · have H4 := hr2.out
        rw [if_neg (by decide)] at H4
        obtain ⟨rfl, rfl⟩ := Prod.mk.inj (Option.some.inj H4)
        clear H4
        go_enter Try.func14, Try.ntmps14
        go_wp2_with (first | ((with_reducible refine gate_dst (N := 3) rfl ?_); refine box_event ?hg (N := 3) ?hd (cs := #[.int .i64 a1]) (t := 3) ?hr ?_; (case hd => rfl); (case hg => rfl); (case hr => first | (go_simp; done) | (go_simp; rfl)); intro gx hg w1 hbox hb1; have BX := Aside0.mk hbox; have HB1 := Aside0.mk (below_step HB0.out hb1); clear hb1 hbox hg) | (go_at_call 32; refine (HIX.out _ gx HB1.out BX.out).mono ?_; rintro e w2 ⟨rfl, hb2⟩; have HB2 := Aside0.mk (below_step HB1.out hb2); clear hb2) | (go_at_call 25; refine (HV.out _ HB2.out).mono ?_; rintro e w3 ⟨rfl, hb3⟩; have HB3 := Aside0.mk (below_step HB2.out hb3); clear hb3))
        go_ret2
        exact ⟨rfl, HB3.out⟩
      · have H4 := hr2.out
        rw [if_pos rfl] at H4
        obtain ⟨rfl, rfl⟩ := Prod.mk.inj (Option.some.inj H4)
        clear H4
        go_enter Try.func14, Try.ntmps14
        go_wp2_with (first | ((with_reducible refine gate_dst (N := 3) rfl ?_); refine box_event ?hg (N := 3) ?hd (cs := #[.int .i64 a1]) (t := 3) ?hr ?_; (case hd => rfl); (case hg => rfl); (case hr => first | (go_simp; done) | (go_simp; rfl)); intro gx hg w1 hbox hb1; have BX := Aside0.mk hbox; have HB1 := Aside0.mk (below_step HB0.out hb1); clear hb1 hbox hg) | (go_at_call 32; refine (HIX.out _ gx HB1.out BX.out).mono ?_; rintro e w2 ⟨rfl, hb2⟩; have HB2 := Aside0.mk (below_step HB1.out hb2); clear hb2) | (go_at_call 25; refine (HV.out _ HB2.out).mono ?_; rintro e w3 ⟨rfl, hb3⟩; have HB3 := Aside0.mk (below_step HB2.out hb3); clear hb3; have hce := (HB3.out.cell (World.block_lt_of_cell? w _ CE.out)).trans CE.out))
        go_ret2
        exact ⟨rfl, HB3.out⟩
  exact key _ rfl

/-! ### slotmeshref21_Same: function 16 -/
def slotmeshref21_Same.l0 : Nat → List (S35) → List (S35) → Int → Option (Bool)
  | 0, _, _, _ => none
  | k + 1, x0, x1, x5 => if x5 < (x0.length : Int) then (if 0 ≤ x5 then (if x5 < (x1.length : Int) then (if (!(((rd_T35 x0 x5).f0) == ((rd_T35 x1 x5).f0)) || (!(((rd_T35 x0 x5).f1) == ((rd_T35 x1 x5).f1)) || (!(((rd_T35 x0 x5).f2) == ((rd_T35 x1 x5).f2)) || (!(((rd_T35 x0 x5).f3) == ((rd_T35 x1 x5).f3)))))) = true then (some false) else (slotmeshref21_Same.l0 k x0 x1 (wrap64 (x5 + 1)))) else (none)) else (none)) else (some true)
def slotmeshref21_Same.f (k : Nat) (l0 : List (S35)) (l1 : List (S35)) : Option (Bool) := if (l0.length : Int) = (l1.length : Int) then (slotmeshref21_Same.l0 k l0 l1 0) else (some false)
theorem slotmeshref21_Same.mono_l : ∀ k, (∀ y0 y1 y2, LeO (slotmeshref21_Same.l0 k y0 y1 y2) (slotmeshref21_Same.l0 (k + 1) y0 y1 y2))
  | 0 => fun _ _ _ r h => by simp [slotmeshref21_Same.l0] at h
  | k + 1 => by
    have ih0 := slotmeshref21_Same.mono_l k
    · intro y0 y1 y2
      unfold slotmeshref21_Same.l0
      repeat' first
      | (with_reducible exact ih0 _ _ _)
      | (with_reducible exact LeO.refl _)
      | (with_reducible exact LeO.none _)
      | (with_reducible refine LeO.ite ?_ ?_)
      | (with_reducible refine LeO.bind ?_ (fun _ => ?_))
      | exact ih0 _ _ _
      | exact LeO.none _
      | refine LeO.ite ?_ ?_
      | refine LeO.bind ?_ (fun _ => ?_)
theorem slotmeshref21_Same.mono : ∀ a0 a1 k, LeO (slotmeshref21_Same.f k a0 a1) (slotmeshref21_Same.f (k + 1) a0 a1) := by
  intro a0 a1 k
  have ih0 := slotmeshref21_Same.mono_l k
  unfold slotmeshref21_Same.f
  repeat' first
      | (with_reducible exact ih0 _ _ _)
      | (with_reducible exact LeO.refl _)
      | (with_reducible exact LeO.none _)
      | (with_reducible refine LeO.ite ?_ ?_)
      | (with_reducible refine LeO.bind ?_ (fun _ => ?_))
      | exact ih0 _ _ _
      | exact LeO.none _
      | refine LeO.ite ?_ ?_
      | refine LeO.bind ?_ (fun _ => ?_)
set_option maxHeartbeats 8000000 in
set_option maxRecDepth 100000 in
theorem slotmeshref21_Same.calls (k : Nat) (A0 : Option Addr) (c0 : Nat) (l0 : List (S35)) (A1 : Option Addr) (c1 : Nat) (l1 : List (S35)) (r : Bool) (w : World) (hr0 : Kd.C k35 w A0 l0.length l0) (hc0 : l0.length ≤ c0) (hr1 : Kd.C k35 w A1 l1.length l1) (hc1 : l1.length ≤ c1) (h : slotmeshref21_Same.f k l0 l1 = some r) :
    Calls Try.prog 16 #[.slice A0 l0.length c0, .slice A1 l1.length c1] w fun e w' => e = .returned (.bool r) ∧ Drawn0 w w' := by
  have hu35 := Try.underlying35
  have HR0 := Aside0.mk hr0
  have HC0 := Aside0.mk hc0
  clear hr0 hc0
  have HR1 := Aside0.mk hr1
  have HC1 := Aside0.mk hc1
  clear hr1 hc1
  have H : (if (l0.length : Int) = (l1.length : Int) then (slotmeshref21_Same.l0 k l0 l1 0) else (some false)) = some r := h
  clear h
  by_cases c3 : (l0.length : Int) = (l1.length : Int)
  · rw [if_pos c3] at H
    have c3b0 : ((l0.length : Int) == (l1.length : Int)) = true := beq_iff_eq.mpr c3
    have c3b1 : ((l0.length : Int) != (l1.length : Int)) = false := bne_eq_false_iff_eq.mpr c3
    have c3b2 : (l0.length == l1.length) = true := by first | simpa using c3 | (simp at c3 ⊢; omega)
    clear c3
    have H' := Aside0.mk H
    clear H
    go_enter Try.func16, Try.ntmps16
    go_wp2
    repeat (go_quiet (fail); try go_wp2)
    go_loopg [5] k (fun kq v5 w' => ∃ (x5_1 : Int), v5 = .int .i64 x5_1 ∧ Aside0 (slotmeshref21_Same.l0 kq l0 l1 x5_1 = some r) ∧ Aside0 (kq ≤ k) ∧ Drawn0 w w')
    case atStart => exact ⟨(0), (by first | rfl | (simp; done) | (simp [*]; done)), H', ⟨Nat.le_refl _⟩, by repeat (first | exact Drawn0.refl _ | apply Drawn0.step)⟩
    case round =>
      clear H'
      try clear c1
      try clear p2
      try clear c3
      try clear c3b0
      try clear c3b1
      try clear c3b2
      obtain ⟨x5_1, rfl, HA, HK1, ⟨m1, rfl⟩⟩ := hrel
      cases gk with
      | zero => exact absurd HA.out (by simp [slotmeshref21_Same.l0])
      | succ k1 =>
        have H := HA.out
        clear HA
        simp only [slotmeshref21_Same.l0] at H
        by_cases c4 : x5_1 < (l0.length : Int)
        · rw [if_pos c4] at H
          have c4b0 : decide (x5_1 < (l0.length : Int)) = true := decide_eq_true c4
          clear c4
          by_cases c5 : 0 ≤ x5_1
          · rw [if_pos c5] at H
            have c5b0 : decide (0 ≤ x5_1) = true := decide_eq_true c5
            clear c5
            by_cases c6 : x5_1 < (l1.length : Int)
            · rw [if_pos c6] at H
              have c6b0 : decide (x5_1 < (l1.length : Int)) = true := decide_eq_true c6
              clear c6
              by_cases c7 : (!(((rd_T35 l0 x5_1).f0) == ((rd_T35 l1 x5_1).f0)) || (!(((rd_T35 l0 x5_1).f1) == ((rd_T35 l1 x5_1).f1)) || (!(((rd_T35 l0 x5_1).f2) == ((rd_T35 l1 x5_1).f2)) || (!(((rd_T35 l0 x5_1).f3) == ((rd_T35 l1 x5_1).f3)))))) = true
              · rw [if_pos c7] at H
                have c7b0 : (!(((rd_T35 l0 x5_1).f0) == ((rd_T35 l1 x5_1).f0)) || (!(((rd_T35 l0 x5_1).f1) == ((rd_T35 l1 x5_1).f1)) || (!(((rd_T35 l0 x5_1).f2) == ((rd_T35 l1 x5_1).f2)) || (!(((rd_T35 l0 x5_1).f3) == ((rd_T35 l1 x5_1).f3)))))) = true := c7
                clear c7
                obtain rfl := Option.some.inj H
                have p104 : 0 ≤ (x5_1 : Int) := of_decide_eq_true (by first | (with_reducible assumption) | assumption)
                have q104 : x5_1 < (l0.length : Int) := of_decide_eq_true (by first | (with_reducible assumption) | assumption)
                obtain ⟨ad104, e104, hx104_0, hx104_1, hx104_2, hx104_3⟩ := at_T35 HR0.out x5_1 p104 q104
                cases e104
                replace p104 := eq_true p104
                replace q104 := eq_true q104
                have p105 : 0 ≤ (x5_1 : Int) := of_decide_eq_true (by first | (with_reducible assumption) | assumption)
                have q105 : x5_1 < (l1.length : Int) := of_decide_eq_true (by first | (with_reducible assumption) | assumption)
                obtain ⟨ad105, e105, hx105_0, hx105_1, hx105_2, hx105_3⟩ := at_T35 HR1.out x5_1 p105 q105
                cases e105
                replace p105 := eq_true p105
                replace q105 := eq_true q105
                go_wp2
                repeat (go_quiet (fail); try go_wp2)
                go_ret
                exact ⟨by first | rfl | (simp; done) | (simp [*]; done), by repeat (first | exact Drawn0.refl _ | apply Drawn0.step)⟩
              · rw [if_neg c7] at H
                have c7b0 : (!(((rd_T35 l0 x5_1).f0) == ((rd_T35 l1 x5_1).f0)) || (!(((rd_T35 l0 x5_1).f1) == ((rd_T35 l1 x5_1).f1)) || (!(((rd_T35 l0 x5_1).f2) == ((rd_T35 l1 x5_1).f2)) || (!(((rd_T35 l0 x5_1).f3) == ((rd_T35 l1 x5_1).f3)))))) = false := by simpa using c7
                clear c7
                have H' := Aside0.mk H
                clear H
                have p104 : 0 ≤ (x5_1 : Int) := of_decide_eq_true (by first | (with_reducible assumption) | assumption)
                have q104 : x5_1 < (l0.length : Int) := of_decide_eq_true (by first | (with_reducible assumption) | assumption)
                obtain ⟨ad104, e104, hx104_0, hx104_1, hx104_2, hx104_3⟩ := at_T35 HR0.out x5_1 p104 q104
                cases e104
                replace p104 := eq_true p104
                replace q104 := eq_true q104
                have p105 : 0 ≤ (x5_1 : Int) := of_decide_eq_true (by first | (with_reducible assumption) | assumption)
                have q105 : x5_1 < (l1.length : Int) := of_decide_eq_true (by first | (with_reducible assumption) | assumption)
                obtain ⟨ad105, e105, hx105_0, hx105_1, hx105_2, hx105_3⟩ := at_T35 HR1.out x5_1 p105 q105
                cases e105
                replace p105 := eq_true p105
                replace q105 := eq_true q105
                go_wp2
                repeat (go_quiet (fail); try go_wp2)
                go_roundg k1
                case measure => have := HK1.out; omega
                case rel => exact ⟨(wrap64 (x5_1 + 1)), (by first | rfl | (simp; done) | (simp [*]; done)), H', ⟨by have := HK1.out; omega⟩, by repeat (first | exact Drawn0.refl _ | apply Drawn0.step)⟩
            · rw [if_neg c6] at H
              exact absurd H (by simp)
          · rw [if_neg c5] at H
            exact absurd H (by simp)
        · rw [if_neg c4] at H
          have c4b0 : decide (x5_1 < (l0.length : Int)) = false := decide_eq_false c4
          clear c4
          obtain rfl := Option.some.inj H
          go_wp2
          repeat (go_quiet (fail); try go_wp2)
          go_ret
          exact ⟨by first | rfl | (simp; done) | (simp [*]; done), by repeat (first | exact Drawn0.refl _ | apply Drawn0.step)⟩
  · rw [if_neg c3] at H
    have c3b0 : ((l0.length : Int) == (l1.length : Int)) = false := beq_eq_false_iff_ne.mpr c3
    have c3b1 : ((l0.length : Int) != (l1.length : Int)) = true := bne_iff_ne.mpr c3
    have c3b2 : (l0.length == l1.length) = false := by first | simpa using c3 | (simp at c3 ⊢; omega)
    obtain rfl := Option.some.inj H
    go_enter Try.func16, Try.ntmps16
    go_wp2
    repeat (go_quiet (fail); try go_wp2)
    go_ret
    exact ⟨by first | rfl | (simp; done) | (simp [*]; done), by repeat (first | exact Drawn0.refl _ | apply Drawn0.step)⟩

-- NOT PRINTED: function 34 (api_Down_34)

/-! ### api_Down_35: function 35 -/
theorem eqlIn_slice_nil {P : Program} (d : Nat) (t e : TypeId) (h : P.underlying t = some (.slice e)) (a : Option Addr) (l c : Nat) (w : World) : (Op.equalIn (d + 1) t (.slice a l c) (.slice none 0 0)).run P w = .ok a.isNone w := by
  cases a <;> simp [Op.equalIn, run_underlying h]
theorem eql_slice_nil {P : Program} (t e : TypeId) (h : P.underlying t = some (.slice e)) (a : Option Addr) (l c : Nat) (w : World) : (binOp .eql t (.slice a l c) (.slice none 0 0)).run P w = .ok (.bool a.isNone) w := by
  have h2 : (Op.equal t (.slice a l c) (.slice none 0 0)).run P w = .ok a.isNone w := eqlIn_slice_nil 9999 t e h a l c w
  simp only [binOp]
  simp [h2]
theorem flat35 (w : World) (base : Nat) (ok : Nat → Prop) (x : S35) (c : List Value) (h : k35.K w x c) : k35.M w base ok x c := by
  obtain rfl := k35_open h
  exact k35_mkM _ _ _ _
def api_Down_35.f (l0 : List (S35)) : Option (List (S35)) := if l0.length < 4398046511104 then some l0 else none
set_option maxHeartbeats 4000000 in
theorem api_Down_35.calls (A0 : Option Addr) (c0 : Nat) (l0 : List (S35)) (r : List (S35)) (w : World) (hr0 : Kd.C k35 w A0 l0.length l0) (hc0 : l0.length ≤ c0) (h : api_Down_35.f l0 = some r) :
    Calls Try.prog 35 #[.slice A0 l0.length c0] w fun e w' => ∃ v0_ : Value, e = .returned (v0_) ∧ Kd.R k35 35 w' w.heap.size (fun _ => True) v0_ r ∧ Below w.heap.size w w' := by
  have HL : Aside0 (l0.length < 4398046511104 ∧ l0 = r) := ⟨by
    unfold api_Down_35.f at h
    by_cases hl : l0.length < 4398046511104
    · rw [if_pos hl] at h; exact ⟨hl, Option.some.inj h⟩
    · rw [if_neg hl] at h; exact absurd h (by simp)⟩
  obtain rfl := HL.out.2
  clear h hc0
  have HR := Aside0.mk hr0
  clear hr0
  have HB := Aside0.mk (Below.refl w.heap.size w)
  rcases A0 with _ | ad
  · have h0 : l0 = [] := by
      rcases Nat.eq_zero_or_pos l0.length with h0 | h0
      · exact List.eq_nil_of_length_eq_zero h0
      · obtain ⟨ad, h, _⟩ := HR.out.2.2 h0
        cases h
    subst h0
    have heq := eql_slice_nil (P := Try.prog) 22 35 Try.underlying22 none 0 c0
    go_enter Try.func35, Try.ntmps35
    go_wp2
    go_ret
    exact ⟨_, rfl, Kd.R_nil _ _ _ _ _, HB.out⟩
  · have heq := eql_slice_nil (P := Try.prog) 22 35 Try.underlying22 (some ad) l0.length c0
    go_enter Try.func35, Try.ntmps35
    go_wp2_with (first
      | ((with_reducible refine gate_dst (N := 5) rfl ?_); refine Kd.R_lit k35 _ 35 ?hg (N := 5) ?hd (xs := []) (inner := []) (ok := fun _ => True) (okp := fun _ => True) ?hr ?hp (fun _ hk => hk) trivial (Below.refl _ _) (Nat.le_refl _) (by simp) ?_; (case hd => rfl); (case hg => rfl); (case hr => first | (go_simp; done) | (go_simp; rfl)); (case hp => exact Reps.none _ _); intro v5 w5 ho hb hg_ hnew_; clear hg_ hnew_; have HO5 := Aside0.mk (Kd.R_lower ho HB.out.size); have HB5 := Aside0.mk (below_step HB.out hb); clear ho hb)
      | ((with_reducible refine gate_builtin (b := .append) (xs := #[.tmp 5, .tmp 6]) rfl ?_); at_builtin; refine Kd.R_append_rows k35 (w0 := w) w.heap.size rfl (.tmp 5) (.tmp 6) 22 35 (.agg #[(.int .i64 0), (.int .i64 0), (.int .i64 0), (.int .i64 0)]) 32 rfl Try.underlying22 info35 rfl (by decide) (by omega) v5 [] l0 _ _ _ (fun _ => True) (fun _ => False) rfl rfl ?aO ?aR (fun _ _ h_ => flat35 _ _ _ _ _ h_) (fun _ h_ => h_.elim) (fun _ _ => trivial) ?aB ?aS ?aL ?_; (case aR => exact Kd.C_below HR.out HB5.out); (case aO => exact HO5.out); (case aB => exact HB5.out); (case aS => exact HB5.out.size); (case aL => have := HL.out.1; simp; omega); intro v7 w7 ho hb hg hat; clear hg hat; have HO7 := Aside0.mk ho; have HB7 := Aside0.mk hb; clear ho hb))
    go_ret
    exact ⟨_, rfl, HO7.out, HB7.out⟩

end Go.Proofs.Ythobfempjekhdaa.Px
