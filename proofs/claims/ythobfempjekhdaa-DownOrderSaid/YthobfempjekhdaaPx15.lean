/- Walks of functions of this seat, written by a program of this workplace out of the translation. -/
import Derived.Test.YthobfempjekhdaaPx0
import Derived.Test.YthobfempjekhdaaPx3
import Derived.Test.YthobfempjekhdaaPx5
import Derived.Test.YthobfempjekhdaaPx6
namespace Go.Proofs.Ythobfempjekhdaa.Px
open Go.RowKit Go.Proofs.YthobfempjekhdaaW.PrintWords Go.Proofs.YthobfempjekhdaaW.PrintLast Go.Proofs.YthobfempjekhdaaW.PrintMore
attribute [local go_sem] max2_int min2_int max_two min_two max_three min_three max_four min_four   -- for this text's walks alone
set_option linter.unusedVariables false
set_option linter.unusedSimpArgs false

/-! ### slotmeshlaw21_DownOrder: function 8 -/
mutual
def slotmeshlaw21_DownOrder.j0 : Nat → List (S35) → Int → Int → Int → Int → List (S35) → List (S35) → Int → Bool → Bool → Option (Bool)
  | 0, _, _, _, _, _, _, _, _, _, _ => none
  | k + 1, x0, x1, x2, x3, x4, x5, x6, x7, x17, x59 => if x59 = true then (some x17) else (slotmeshlaw21_DownOrder.l0 k x0 x1 x2 x3 x4 x5 x6 x7 x17 x5 (x5.length : Int) 0)
def slotmeshlaw21_DownOrder.l0 : Nat → List (S35) → Int → Int → Int → Int → List (S35) → List (S35) → Int → Bool → List (S35) → Int → Int → Option (Bool)
  | 0, _, _, _, _, _, _, _, _, _, _, _, _ => none
  | k + 1, x0, x1, x2, x3, x4, x5, x6, x7, x17, x61, x62, x63 => if x63 < x62 then (if 0 ≤ x63 then (if x63 < (x61.length : Int) then ((slotmeshref21_Find.f k x6 ((rd_T35 x61 x63).f0)).bind fun t382 => (if t382 ≥ 0 then (some x17) else (slotmeshlaw21_DownOrder.l0 k x0 x1 x2 x3 x4 x5 x6 x7 x17 x61 x62 (wrap64 (x63 + 1))))) else (none)) else (none)) else ((down_Learn.f k x0 x1 x3 x5 x7).bind fun bt383 => ((down_Learn.f k x0 x2 x4 x6 x7).bind fun bt387 => (if bt383.2 = 0 then (slotmeshlaw21_DownOrder.j2 k x1 x2 x3 x4 x5 x6 x7 x17 bt383.1 bt387.1 (bt387.2 != 0)) else (slotmeshlaw21_DownOrder.j2 k x1 x2 x3 x4 x5 x6 x7 x17 bt383.1 bt387.1 true))))
def slotmeshlaw21_DownOrder.j2 : Nat → Int → Int → Int → Int → List (S35) → List (S35) → Int → Bool → List (S35) → List (S35) → Bool → Option (Bool)
  | 0, _, _, _, _, _, _, _, _, _, _, _ => none
  | k + 1, x1, x2, x3, x4, x5, x6, x7, x17, x20, x22, x97 => if x97 = true then (some x17) else ((down_Learn.f k x20 x2 x4 x6 x7).bind fun bt391 => ((down_Learn.f k x22 x1 x3 x5 x7).bind fun bt395 => (if x17 = true then (if bt391.2 = 0 then (if bt395.2 = 0 then ((slotmeshref21_Same.f k bt391.1 bt395.1).bind fun t399 => (some t399)) else (some false)) else (some false)) else (some false))))
end
def slotmeshlaw21_DownOrder.f (k : Nat) (l0 : List (S35)) (a1 : Int) (a2 : Int) (a3 : Int) (a4 : Int) (l5 : List (S35)) (l6 : List (S35)) (a7 : Int) : Option (Bool) := (slotmeshlaw21_head.f).bind fun t375 => ((slotmeshlaw21_short.f l5 l6).bind fun t376 => (if t376 = true then (if (l0.length : Int) > 70 then (slotmeshlaw21_DownOrder.j0 k l0 a1 a2 a3 a4 l5 l6 a7 t375 true) else ((slotmeshref21_Valid.f k l0).bind fun t377 => (if t377 = true then (if a1 = a2 then (slotmeshlaw21_DownOrder.j0 k l0 a1 a2 a3 a4 l5 l6 a7 t375 true) else ((slotmeshref21_Find.f k l5 a2).bind fun t378 => (if t378 ≥ 0 then (slotmeshlaw21_DownOrder.j0 k l0 a1 a2 a3 a4 l5 l6 a7 t375 true) else ((slotmeshref21_Find.f k l6 a1).bind fun t379 => (slotmeshlaw21_DownOrder.j0 k l0 a1 a2 a3 a4 l5 l6 a7 t375 (decide (t379 ≥ 0))))))) else (slotmeshlaw21_DownOrder.j0 k l0 a1 a2 a3 a4 l5 l6 a7 t375 true)))) else (slotmeshlaw21_DownOrder.j0 k l0 a1 a2 a3 a4 l5 l6 a7 t375 true)))
theorem slotmeshlaw21_DownOrder.mono_l : ∀ k, (∀ y0 y1 y2 y3 y4 y5 y6 y7 y8 y9, LeO (slotmeshlaw21_DownOrder.j0 k y0 y1 y2 y3 y4 y5 y6 y7 y8 y9) (slotmeshlaw21_DownOrder.j0 (k + 1) y0 y1 y2 y3 y4 y5 y6 y7 y8 y9)) ∧ (∀ y0 y1 y2 y3 y4 y5 y6 y7 y8 y9 y10 y11, LeO (slotmeshlaw21_DownOrder.l0 k y0 y1 y2 y3 y4 y5 y6 y7 y8 y9 y10 y11) (slotmeshlaw21_DownOrder.l0 (k + 1) y0 y1 y2 y3 y4 y5 y6 y7 y8 y9 y10 y11)) ∧ (∀ y0 y1 y2 y3 y4 y5 y6 y7 y8 y9 y10, LeO (slotmeshlaw21_DownOrder.j2 k y0 y1 y2 y3 y4 y5 y6 y7 y8 y9 y10) (slotmeshlaw21_DownOrder.j2 (k + 1) y0 y1 y2 y3 y4 y5 y6 y7 y8 y9 y10))
  | 0 => ⟨fun _ _ _ _ _ _ _ _ _ _ r h => by simp [slotmeshlaw21_DownOrder.j0] at h, fun _ _ _ _ _ _ _ _ _ _ _ _ r h => by simp [slotmeshlaw21_DownOrder.l0] at h, fun _ _ _ _ _ _ _ _ _ _ _ r h => by simp [slotmeshlaw21_DownOrder.j2] at h⟩
  | k + 1 => by
    obtain ⟨ih0, ih1, ih2⟩ := slotmeshlaw21_DownOrder.mono_l k
    refine ⟨?_, ?_, ?_⟩
    · intro y0 y1 y2 y3 y4 y5 y6 y7 y8 y9
      unfold slotmeshlaw21_DownOrder.j0
      repeat' first
      | (with_reducible exact ih0 _ _ _ _ _ _ _ _ _ _)
      | (with_reducible exact ih1 _ _ _ _ _ _ _ _ _ _ _ _)
      | (with_reducible exact ih2 _ _ _ _ _ _ _ _ _ _ _)
      | (with_reducible exact down_Learn.mono _ _ _ _ _ _)
      | (with_reducible exact slotmeshref21_Find.mono _ _ _)
      | (with_reducible exact slotmeshref21_Same.mono _ _ _)
      | (with_reducible exact slotmeshref21_Valid.mono _ _)
      | (with_reducible exact LeO.refl _)
      | (with_reducible exact LeO.none _)
      | (with_reducible refine LeO.ite ?_ ?_)
      | (with_reducible refine LeO.bind ?_ (fun _ => ?_))
      | exact ih0 _ _ _ _ _ _ _ _ _ _
      | exact ih1 _ _ _ _ _ _ _ _ _ _ _ _
      | exact ih2 _ _ _ _ _ _ _ _ _ _ _
      | exact down_Learn.mono _ _ _ _ _ _
      | exact slotmeshref21_Find.mono _ _ _
      | exact slotmeshref21_Same.mono _ _ _
      | exact slotmeshref21_Valid.mono _ _
      | exact LeO.none _
      | refine LeO.ite ?_ ?_
      | refine LeO.bind ?_ (fun _ => ?_)
    · intro y0 y1 y2 y3 y4 y5 y6 y7 y8 y9 y10 y11
      unfold slotmeshlaw21_DownOrder.l0
      repeat' first
      | (with_reducible exact ih0 _ _ _ _ _ _ _ _ _ _)
      | (with_reducible exact ih1 _ _ _ _ _ _ _ _ _ _ _ _)
      | (with_reducible exact ih2 _ _ _ _ _ _ _ _ _ _ _)
      | (with_reducible exact down_Learn.mono _ _ _ _ _ _)
      | (with_reducible exact slotmeshref21_Find.mono _ _ _)
      | (with_reducible exact slotmeshref21_Same.mono _ _ _)
      | (with_reducible exact slotmeshref21_Valid.mono _ _)
      | (with_reducible exact LeO.refl _)
      | (with_reducible exact LeO.none _)
      | (with_reducible refine LeO.ite ?_ ?_)
      | (with_reducible refine LeO.bind ?_ (fun _ => ?_))
      | exact ih0 _ _ _ _ _ _ _ _ _ _
      | exact ih1 _ _ _ _ _ _ _ _ _ _ _ _
      | exact ih2 _ _ _ _ _ _ _ _ _ _ _
      | exact down_Learn.mono _ _ _ _ _ _
      | exact slotmeshref21_Find.mono _ _ _
      | exact slotmeshref21_Same.mono _ _ _
      | exact slotmeshref21_Valid.mono _ _
      | exact LeO.none _
      | refine LeO.ite ?_ ?_
      | refine LeO.bind ?_ (fun _ => ?_)
    · intro y0 y1 y2 y3 y4 y5 y6 y7 y8 y9 y10
      unfold slotmeshlaw21_DownOrder.j2
      repeat' first
      | (with_reducible exact ih0 _ _ _ _ _ _ _ _ _ _)
      | (with_reducible exact ih1 _ _ _ _ _ _ _ _ _ _ _ _)
      | (with_reducible exact ih2 _ _ _ _ _ _ _ _ _ _ _)
      | (with_reducible exact down_Learn.mono _ _ _ _ _ _)
      | (with_reducible exact slotmeshref21_Find.mono _ _ _)
      | (with_reducible exact slotmeshref21_Same.mono _ _ _)
      | (with_reducible exact slotmeshref21_Valid.mono _ _)
      | (with_reducible exact LeO.refl _)
      | (with_reducible exact LeO.none _)
      | (with_reducible refine LeO.ite ?_ ?_)
      | (with_reducible refine LeO.bind ?_ (fun _ => ?_))
      | exact ih0 _ _ _ _ _ _ _ _ _ _
      | exact ih1 _ _ _ _ _ _ _ _ _ _ _ _
      | exact ih2 _ _ _ _ _ _ _ _ _ _ _
      | exact down_Learn.mono _ _ _ _ _ _
      | exact slotmeshref21_Find.mono _ _ _
      | exact slotmeshref21_Same.mono _ _ _
      | exact slotmeshref21_Valid.mono _ _
      | exact LeO.none _
      | refine LeO.ite ?_ ?_
      | refine LeO.bind ?_ (fun _ => ?_)
theorem slotmeshlaw21_DownOrder.mono : ∀ a0 a1 a2 a3 a4 a5 a6 a7 k, LeO (slotmeshlaw21_DownOrder.f k a0 a1 a2 a3 a4 a5 a6 a7) (slotmeshlaw21_DownOrder.f (k + 1) a0 a1 a2 a3 a4 a5 a6 a7) := by
  intro a0 a1 a2 a3 a4 a5 a6 a7 k
  obtain ⟨ih0, ih1, ih2⟩ := slotmeshlaw21_DownOrder.mono_l k
  unfold slotmeshlaw21_DownOrder.f
  repeat' first
      | (with_reducible exact ih0 _ _ _ _ _ _ _ _ _ _)
      | (with_reducible exact ih1 _ _ _ _ _ _ _ _ _ _ _ _)
      | (with_reducible exact ih2 _ _ _ _ _ _ _ _ _ _ _)
      | (with_reducible exact down_Learn.mono _ _ _ _ _ _)
      | (with_reducible exact slotmeshref21_Find.mono _ _ _)
      | (with_reducible exact slotmeshref21_Same.mono _ _ _)
      | (with_reducible exact slotmeshref21_Valid.mono _ _)
      | (with_reducible exact LeO.refl _)
      | (with_reducible exact LeO.none _)
      | (with_reducible refine LeO.ite ?_ ?_)
      | (with_reducible refine LeO.bind ?_ (fun _ => ?_))
      | exact ih0 _ _ _ _ _ _ _ _ _ _
      | exact ih1 _ _ _ _ _ _ _ _ _ _ _ _
      | exact ih2 _ _ _ _ _ _ _ _ _ _ _
      | exact down_Learn.mono _ _ _ _ _ _
      | exact slotmeshref21_Find.mono _ _ _
      | exact slotmeshref21_Same.mono _ _ _
      | exact slotmeshref21_Valid.mono _ _
      | exact LeO.none _
      | refine LeO.ite ?_ ?_
      | refine LeO.bind ?_ (fun _ => ?_)
set_option maxHeartbeats 8000000 in
set_option maxRecDepth 100000 in
theorem slotmeshlaw21_DownOrder.calls (k : Nat) (A0 : Option Addr) (c0 : Nat) (l0 : List (S35)) (a1 : Int) (a2 : Int) (a3 : Int) (a4 : Int) (A5 : Option Addr) (c5 : Nat) (l5 : List (S35)) (A6 : Option Addr) (c6 : Nat) (l6 : List (S35)) (a7 : Int) (r : Bool) (w : World) (hrt : r = true) (hr0 : Kd.C k35 w A0 l0.length l0) (hc0 : l0.length ≤ c0) (hr5 : Kd.C k35 w A5 l5.length l5) (hc5 : l5.length ≤ c5) (hr6 : Kd.C k35 w A6 l6.length l6) (hc6 : l6.length ≤ c6) (h : slotmeshlaw21_DownOrder.f k l0 a1 a2 a3 a4 l5 l6 a7 = some r) :
    Calls Try.prog 8 #[.slice A0 l0.length c0, .int .i64 a1, .int .i64 a2, .int .i64 a3, .int .i64 a4, .slice A5 l5.length c5, .slice A6 l6.length c6, .int .i64 a7] w fun e w' => e = .returned (.bool r) ∧ Below w.heap.size w w' := by
  have hu35 := Try.underlying35
  have HR0 := Aside0.mk hr0
  have HC0 := Aside0.mk hc0
  clear hr0 hc0
  have HR5 := Aside0.mk hr5
  have HC5 := Aside0.mk hc5
  clear hr5 hc5
  have HR6 := Aside0.mk hr6
  have HC6 := Aside0.mk hc6
  clear hr6 hc6
  have HB := Aside0.mk (Below.refl w.heap.size w)
  have HRT := Aside0.mk hrt
  clear hrt
  have H : ((slotmeshlaw21_head.f).bind fun t375 => ((slotmeshlaw21_short.f l5 l6).bind fun t376 => (if t376 = true then (if (l0.length : Int) > 70 then (slotmeshlaw21_DownOrder.j0 k l0 a1 a2 a3 a4 l5 l6 a7 t375 true) else ((slotmeshref21_Valid.f k l0).bind fun t377 => (if t377 = true then (if a1 = a2 then (slotmeshlaw21_DownOrder.j0 k l0 a1 a2 a3 a4 l5 l6 a7 t375 true) else ((slotmeshref21_Find.f k l5 a2).bind fun t378 => (if t378 ≥ 0 then (slotmeshlaw21_DownOrder.j0 k l0 a1 a2 a3 a4 l5 l6 a7 t375 true) else ((slotmeshref21_Find.f k l6 a1).bind fun t379 => (slotmeshlaw21_DownOrder.j0 k l0 a1 a2 a3 a4 l5 l6 a7 t375 (decide (t379 ≥ 0))))))) else (slotmeshlaw21_DownOrder.j0 k l0 a1 a2 a3 a4 l5 l6 a7 t375 true)))) else (slotmeshlaw21_DownOrder.j0 k l0 a1 a2 a3 a4 l5 l6 a7 t375 true)))) = some r := h
  clear h
  replace H := Option.bind_eq_some_iff.mp H
  obtain ⟨t375, A90, H⟩ := H
  replace H : ((slotmeshlaw21_short.f l5 l6).bind fun t376 => (if t376 = true then (if (l0.length : Int) > 70 then (slotmeshlaw21_DownOrder.j0 k l0 a1 a2 a3 a4 l5 l6 a7 t375 true) else ((slotmeshref21_Valid.f k l0).bind fun t377 => (if t377 = true then (if a1 = a2 then (slotmeshlaw21_DownOrder.j0 k l0 a1 a2 a3 a4 l5 l6 a7 t375 true) else ((slotmeshref21_Find.f k l5 a2).bind fun t378 => (if t378 ≥ 0 then (slotmeshlaw21_DownOrder.j0 k l0 a1 a2 a3 a4 l5 l6 a7 t375 true) else ((slotmeshref21_Find.f k l6 a1).bind fun t379 => (slotmeshlaw21_DownOrder.j0 k l0 a1 a2 a3 a4 l5 l6 a7 t375 (decide (t379 ≥ 0))))))) else (slotmeshlaw21_DownOrder.j0 k l0 a1 a2 a3 a4 l5 l6 a7 t375 true)))) else (slotmeshlaw21_DownOrder.j0 k l0 a1 a2 a3 a4 l5 l6 a7 t375 true))) = some r := H
  have A9 := Aside0.mk A90
  clear A90
  have HC10 := Aside0.mk H
  clear H
  go_enter Try.func8, Try.ntmps8
  go_upto_region 2 with (first | ((with_reducible refine gate_callee (f := 10) rfl ?_); refine goesL_ (some 28) rfl rfl Try.func10 (by kernel_rfl) rfl #[] rfl (by (try simp only [List.map_toArray, List.map_cons, List.map_nil]); first | done | rfl | (simp only [List.length_drop, List.length_take]; rfl)) ?_; (with_reducible refine (slotmeshlaw21_head.calls  t375 _ A9.out).mono ?_); rintro e w11 ⟨rfl, hb⟩; refine ⟨_, rfl, ?_⟩; have n0_ := Aside0.mk (below_step (by repeat (first | (with_reducible first | exact HB.out | apply below_alloc | apply pw_below_drewN | apply below_drew1) | exact HB.out)) hb); clear HB; have HB := n0_; clear n0_; (try clear hb); (try clear hb2); (try clear hk); (try clear hi)))
  (try simp only [Act.put, List.setIfInBounds_toArray, List.set_cons_zero, List.set_cons_succ])
  go_cut [59] (fun v59 wc => ∃ (kq : Nat) (x59_9 : Bool), v59 = .bool x59_9 ∧ Aside0 (slotmeshlaw21_DownOrder.j0 kq l0 a1 a2 a3 a4 l5 l6 a7 t375 x59_9 = some r) ∧ Aside0 (kq ≤ k) ∧ Aside0 (Below w.heap.size w wc))
  case first =>
    have H := HC10.out
    clear HC10
    replace H := Option.bind_eq_some_iff.mp H
    obtain ⟨t376, A120, H⟩ := H
    replace H : (if t376 = true then (if (l0.length : Int) > 70 then (slotmeshlaw21_DownOrder.j0 k l0 a1 a2 a3 a4 l5 l6 a7 t375 true) else ((slotmeshref21_Valid.f k l0).bind fun t377 => (if t377 = true then (if a1 = a2 then (slotmeshlaw21_DownOrder.j0 k l0 a1 a2 a3 a4 l5 l6 a7 t375 true) else ((slotmeshref21_Find.f k l5 a2).bind fun t378 => (if t378 ≥ 0 then (slotmeshlaw21_DownOrder.j0 k l0 a1 a2 a3 a4 l5 l6 a7 t375 true) else ((slotmeshref21_Find.f k l6 a1).bind fun t379 => (slotmeshlaw21_DownOrder.j0 k l0 a1 a2 a3 a4 l5 l6 a7 t375 (decide (t379 ≥ 0))))))) else (slotmeshlaw21_DownOrder.j0 k l0 a1 a2 a3 a4 l5 l6 a7 t375 true)))) else (slotmeshlaw21_DownOrder.j0 k l0 a1 a2 a3 a4 l5 l6 a7 t375 true)) = some r := H
    have A12 := Aside0.mk A120
    clear A120
    by_cases c13 : t376 = true
    · subst c13
      have H1 : (if (l0.length : Int) > 70 then (slotmeshlaw21_DownOrder.j0 k l0 a1 a2 a3 a4 l5 l6 a7 t375 true) else ((slotmeshref21_Valid.f k l0).bind fun t377 => (if t377 = true then (if a1 = a2 then (slotmeshlaw21_DownOrder.j0 k l0 a1 a2 a3 a4 l5 l6 a7 t375 true) else ((slotmeshref21_Find.f k l5 a2).bind fun t378 => (if t378 ≥ 0 then (slotmeshlaw21_DownOrder.j0 k l0 a1 a2 a3 a4 l5 l6 a7 t375 true) else ((slotmeshref21_Find.f k l6 a1).bind fun t379 => (slotmeshlaw21_DownOrder.j0 k l0 a1 a2 a3 a4 l5 l6 a7 t375 (decide (t379 ≥ 0))))))) else (slotmeshlaw21_DownOrder.j0 k l0 a1 a2 a3 a4 l5 l6 a7 t375 true)))) = some r := by rw [if_pos rfl] at H; exact H
      clear H
      have H := H1
      clear H1
      by_cases c14 : (l0.length : Int) > 70
      · rw [if_pos c14] at H
        have c14b0 : decide (70 < (l0.length : Int)) = true := decide_eq_true c14
        have c14b1 : decide (70 < l0.length) = true := decide_eq_true (by omega)
        clear c14
        (first | rw [c14b0] | (simp only [i64_w, i32_w]; rw [c14b0]) | skip)
        have H' := Aside0.mk H
        clear H
        go_wp2_with (first | ((with_reducible refine gate_callee (f := 11) rfl ?_); refine goesL_ (some 31) rfl rfl Try.func11 (by kernel_rfl) rfl #[.slice A5 l5.length c5, .slice A6 l6.length c6] rfl (by (try simp only [List.map_toArray, List.map_cons, List.map_nil]); first | done | rfl | (simp only [List.length_drop, List.length_take]; rfl)) ?_; (with_reducible refine (slotmeshlaw21_short.calls _ _ l5 _ _ l6 true _ ?side1 ?side2 ?side3 ?side4 A12.out).mono ?_); (case side1 => repeat (first | exact (Kd.C_below HR5.out HB.out) | (with_reducible refine Kd.C_alloc ?_ _) | (with_reducible refine Kd.C_drewN ?_ _) | (with_reducible refine Kd.C_drew ?_))); (case side2 => exact HC5.out); (case side3 => repeat (first | exact (Kd.C_below HR6.out HB.out) | (with_reducible refine Kd.C_alloc ?_ _) | (with_reducible refine Kd.C_drewN ?_ _) | (with_reducible refine Kd.C_drew ?_))); (case side4 => exact HC6.out); rintro e w' ⟨rfl, ⟨nd, rfl⟩⟩; refine ⟨_, rfl, ?_⟩))
        go_meet
        case rel => exact ⟨_, (true), (by first | rfl | (simp; done) | (simp [*]; done)), H', ⟨by first | omega | exact Nat.le_refl _⟩, ⟨by repeat (first | (with_reducible first | exact HB.out | apply below_alloc | apply pw_below_drewN | apply below_drew1) | exact HB.out)⟩⟩
      · rw [if_neg c14] at H
        have c14b0 : decide (70 < (l0.length : Int)) = false := decide_eq_false c14
        have c14b1 : decide (70 < l0.length) = false := decide_eq_false (by omega)
        clear c14
        (first | rw [c14b0] | (simp only [i64_w, i32_w]; rw [c14b0]) | skip)
        replace H := Option.bind_eq_some_iff.mp H
        obtain ⟨t377, A150, H⟩ := H
        replace H : (if t377 = true then (if a1 = a2 then (slotmeshlaw21_DownOrder.j0 k l0 a1 a2 a3 a4 l5 l6 a7 t375 true) else ((slotmeshref21_Find.f k l5 a2).bind fun t378 => (if t378 ≥ 0 then (slotmeshlaw21_DownOrder.j0 k l0 a1 a2 a3 a4 l5 l6 a7 t375 true) else ((slotmeshref21_Find.f k l6 a1).bind fun t379 => (slotmeshlaw21_DownOrder.j0 k l0 a1 a2 a3 a4 l5 l6 a7 t375 (decide (t379 ≥ 0))))))) else (slotmeshlaw21_DownOrder.j0 k l0 a1 a2 a3 a4 l5 l6 a7 t375 true)) = some r := H
        have A15 := Aside0.mk A150
        clear A150
        by_cases c16 : t377 = true
        · subst c16
          have H1 : (if a1 = a2 then (slotmeshlaw21_DownOrder.j0 k l0 a1 a2 a3 a4 l5 l6 a7 t375 true) else ((slotmeshref21_Find.f k l5 a2).bind fun t378 => (if t378 ≥ 0 then (slotmeshlaw21_DownOrder.j0 k l0 a1 a2 a3 a4 l5 l6 a7 t375 true) else ((slotmeshref21_Find.f k l6 a1).bind fun t379 => (slotmeshlaw21_DownOrder.j0 k l0 a1 a2 a3 a4 l5 l6 a7 t375 (decide (t379 ≥ 0))))))) = some r := by rw [if_pos rfl] at H; exact H
          clear H
          have H := H1
          clear H1
          by_cases c17 : a1 = a2
          · rw [if_pos c17] at H
            have c17b0 : (a1 == a2) = true := beq_iff_eq.mpr c17
            have c17b1 : (a1 != a2) = false := bne_eq_false_iff_eq.mpr c17
            clear c17
            have H' := Aside0.mk H
            clear H
            go_wp2_with (first | ((with_reducible refine gate_callee (f := 11) rfl ?_); refine goesL_ (some 31) rfl rfl Try.func11 (by kernel_rfl) rfl #[.slice A5 l5.length c5, .slice A6 l6.length c6] rfl (by (try simp only [List.map_toArray, List.map_cons, List.map_nil]); first | done | rfl | (simp only [List.length_drop, List.length_take]; rfl)) ?_; (with_reducible refine (slotmeshlaw21_short.calls _ _ l5 _ _ l6 true _ ?side1 ?side2 ?side3 ?side4 A12.out).mono ?_); (case side1 => repeat (first | exact (Kd.C_below HR5.out HB.out) | (with_reducible refine Kd.C_alloc ?_ _) | (with_reducible refine Kd.C_drewN ?_ _) | (with_reducible refine Kd.C_drew ?_))); (case side2 => exact HC5.out); (case side3 => repeat (first | exact (Kd.C_below HR6.out HB.out) | (with_reducible refine Kd.C_alloc ?_ _) | (with_reducible refine Kd.C_drewN ?_ _) | (with_reducible refine Kd.C_drew ?_))); (case side4 => exact HC6.out); rintro e w' ⟨rfl, ⟨nd, rfl⟩⟩; refine ⟨_, rfl, ?_⟩) | (go_at_call 21; (with_reducible refine (slotmeshref21_Valid.calls k _ _ l0 true _ ?side1 ?side2 A15.out).mono ?_); (case side1 => repeat (first | exact (Kd.C_below HR0.out (by repeat (first | (with_reducible first | exact HB.out | apply below_alloc | apply pw_below_drewN | apply below_drew1) | exact HB.out))) | (with_reducible refine Kd.C_alloc ?_ _) | (with_reducible refine Kd.C_drewN ?_ _) | (with_reducible refine Kd.C_drew ?_))); (case side2 => exact HC0.out); rintro e w18 ⟨rfl, hb⟩; have n0_ := Aside0.mk (below_step (by repeat (first | (with_reducible first | exact HB.out | apply below_alloc | apply pw_below_drewN | apply below_drew1) | exact HB.out)) hb); clear HB; have HB := n0_; clear n0_; (try clear hb); (try clear hb2); (try clear hk); (try clear hi)))
            go_meet
            case rel => exact ⟨_, (true), (by first | rfl | (simp; done) | (simp [*]; done)), H', ⟨by first | omega | exact Nat.le_refl _⟩, ⟨by repeat (first | (with_reducible first | exact HB.out | apply below_alloc | apply pw_below_drewN | apply below_drew1) | exact HB.out)⟩⟩
          · rw [if_neg c17] at H
            have c17b0 : (a1 == a2) = false := beq_eq_false_iff_ne.mpr c17
            have c17b1 : (a1 != a2) = true := bne_iff_ne.mpr c17
            replace H := Option.bind_eq_some_iff.mp H
            obtain ⟨t378, A190, H⟩ := H
            replace H : (if t378 ≥ 0 then (slotmeshlaw21_DownOrder.j0 k l0 a1 a2 a3 a4 l5 l6 a7 t375 true) else ((slotmeshref21_Find.f k l6 a1).bind fun t379 => (slotmeshlaw21_DownOrder.j0 k l0 a1 a2 a3 a4 l5 l6 a7 t375 (decide (t379 ≥ 0))))) = some r := H
            have A19 := Aside0.mk A190
            clear A190
            by_cases c20 : t378 ≥ 0
            · rw [if_pos c20] at H
              have c20b0 : decide (0 ≤ t378) = true := decide_eq_true c20
              clear c20
              have H' := Aside0.mk H
              clear H
              go_wp2_with (first | ((with_reducible refine gate_callee (f := 11) rfl ?_); refine goesL_ (some 31) rfl rfl Try.func11 (by kernel_rfl) rfl #[.slice A5 l5.length c5, .slice A6 l6.length c6] rfl (by (try simp only [List.map_toArray, List.map_cons, List.map_nil]); first | done | rfl | (simp only [List.length_drop, List.length_take]; rfl)) ?_; (with_reducible refine (slotmeshlaw21_short.calls _ _ l5 _ _ l6 true _ ?side1 ?side2 ?side3 ?side4 A12.out).mono ?_); (case side1 => repeat (first | exact (Kd.C_below HR5.out HB.out) | (with_reducible refine Kd.C_alloc ?_ _) | (with_reducible refine Kd.C_drewN ?_ _) | (with_reducible refine Kd.C_drew ?_))); (case side2 => exact HC5.out); (case side3 => repeat (first | exact (Kd.C_below HR6.out HB.out) | (with_reducible refine Kd.C_alloc ?_ _) | (with_reducible refine Kd.C_drewN ?_ _) | (with_reducible refine Kd.C_drew ?_))); (case side4 => exact HC6.out); rintro e w' ⟨rfl, ⟨nd, rfl⟩⟩; refine ⟨_, rfl, ?_⟩) | (go_at_call 21; (with_reducible refine (slotmeshref21_Valid.calls k _ _ l0 true _ ?side1 ?side2 A15.out).mono ?_); (case side1 => repeat (first | exact (Kd.C_below HR0.out (by repeat (first | (with_reducible first | exact HB.out | apply below_alloc | apply pw_below_drewN | apply below_drew1) | exact HB.out))) | (with_reducible refine Kd.C_alloc ?_ _) | (with_reducible refine Kd.C_drewN ?_ _) | (with_reducible refine Kd.C_drew ?_))); (case side2 => exact HC0.out); rintro e w21 ⟨rfl, hb⟩; have n0_ := Aside0.mk (below_step (by repeat (first | (with_reducible first | exact HB.out | apply below_alloc | apply pw_below_drewN | apply below_drew1) | exact HB.out)) hb); clear HB; have HB := n0_; clear n0_; (try clear hb); (try clear hb2); (try clear hk); (try clear hi)) | (go_at_call 22; (with_reducible refine (slotmeshref21_Find.calls k _ _ l5 a2 t378 _ ?side1 ?side2 A19.out).mono ?_); (case side1 => repeat (first | exact (Kd.C_below HR5.out HB.out) | (with_reducible refine Kd.C_alloc ?_ _) | (with_reducible refine Kd.C_drewN ?_ _) | (with_reducible refine Kd.C_drew ?_))); (case side2 => exact HC5.out); rintro e w' ⟨rfl, ⟨nd, rfl⟩⟩))
              go_meet
              case rel => exact ⟨_, (true), (by first | rfl | (simp; done) | (simp [*]; done)), H', ⟨by first | omega | exact Nat.le_refl _⟩, ⟨by repeat (first | (with_reducible first | exact HB.out | apply below_alloc | apply pw_below_drewN | apply below_drew1) | exact HB.out)⟩⟩
            · rw [if_neg c20] at H
              have c20b0 : decide (0 ≤ t378) = false := decide_eq_false c20
              clear c20
              replace H := Option.bind_eq_some_iff.mp H
              obtain ⟨t379, A220, H⟩ := H
              replace H : (slotmeshlaw21_DownOrder.j0 k l0 a1 a2 a3 a4 l5 l6 a7 t375 (decide (t379 ≥ 0))) = some r := H
              have A22 := Aside0.mk A220
              clear A220
              have H' := Aside0.mk H
              clear H
              go_wp2_with (first | ((with_reducible refine gate_callee (f := 11) rfl ?_); refine goesL_ (some 31) rfl rfl Try.func11 (by kernel_rfl) rfl #[.slice A5 l5.length c5, .slice A6 l6.length c6] rfl (by (try simp only [List.map_toArray, List.map_cons, List.map_nil]); first | done | rfl | (simp only [List.length_drop, List.length_take]; rfl)) ?_; (with_reducible refine (slotmeshlaw21_short.calls _ _ l5 _ _ l6 true _ ?side1 ?side2 ?side3 ?side4 A12.out).mono ?_); (case side1 => repeat (first | exact (Kd.C_below HR5.out HB.out) | (with_reducible refine Kd.C_alloc ?_ _) | (with_reducible refine Kd.C_drewN ?_ _) | (with_reducible refine Kd.C_drew ?_))); (case side2 => exact HC5.out); (case side3 => repeat (first | exact (Kd.C_below HR6.out HB.out) | (with_reducible refine Kd.C_alloc ?_ _) | (with_reducible refine Kd.C_drewN ?_ _) | (with_reducible refine Kd.C_drew ?_))); (case side4 => exact HC6.out); rintro e w' ⟨rfl, ⟨nd, rfl⟩⟩; refine ⟨_, rfl, ?_⟩) | (go_at_call 21; (with_reducible refine (slotmeshref21_Valid.calls k _ _ l0 true _ ?side1 ?side2 A15.out).mono ?_); (case side1 => repeat (first | exact (Kd.C_below HR0.out (by repeat (first | (with_reducible first | exact HB.out | apply below_alloc | apply pw_below_drewN | apply below_drew1) | exact HB.out))) | (with_reducible refine Kd.C_alloc ?_ _) | (with_reducible refine Kd.C_drewN ?_ _) | (with_reducible refine Kd.C_drew ?_))); (case side2 => exact HC0.out); rintro e w23 ⟨rfl, hb⟩; have n0_ := Aside0.mk (below_step (by repeat (first | (with_reducible first | exact HB.out | apply below_alloc | apply pw_below_drewN | apply below_drew1) | exact HB.out)) hb); clear HB; have HB := n0_; clear n0_; (try clear hb); (try clear hb2); (try clear hk); (try clear hi)) | (go_at_call 22; (with_reducible refine (slotmeshref21_Find.calls k _ _ l5 a2 t378 _ ?side1 ?side2 A19.out).mono ?_); (case side1 => repeat (first | exact (Kd.C_below HR5.out HB.out) | (with_reducible refine Kd.C_alloc ?_ _) | (with_reducible refine Kd.C_drewN ?_ _) | (with_reducible refine Kd.C_drew ?_))); (case side2 => exact HC5.out); rintro e w' ⟨rfl, ⟨nd, rfl⟩⟩) | (go_at_call 22; (with_reducible refine (slotmeshref21_Find.calls k _ _ l6 a1 t379 _ ?side1 ?side2 A22.out).mono ?_); (case side1 => repeat (first | exact (Kd.C_below HR6.out (by repeat (first | (with_reducible first | exact HB.out | apply below_alloc | apply pw_below_drewN | apply below_drew1) | exact HB.out))) | (with_reducible refine Kd.C_alloc ?_ _) | (with_reducible refine Kd.C_drewN ?_ _) | (with_reducible refine Kd.C_drew ?_))); (case side2 => exact HC6.out); rintro e w' ⟨rfl, ⟨nd, rfl⟩⟩))
              go_meet
              case rel => exact ⟨_, (decide (t379 ≥ 0)), (by first | rfl | (simp; done) | (simp [*]; done)), H', ⟨by first | omega | exact Nat.le_refl _⟩, ⟨by repeat (first | (with_reducible first | exact HB.out | apply below_alloc | apply pw_below_drewN | apply below_drew1) | exact HB.out)⟩⟩
        · replace c16 := Bool.eq_false_iff.mpr c16
          subst c16
          have H1 : (slotmeshlaw21_DownOrder.j0 k l0 a1 a2 a3 a4 l5 l6 a7 t375 true) = some r := by rw [if_neg (show ¬ (false = true) by decide)] at H; exact H
          clear H
          have H := H1
          clear H1
          have H' := Aside0.mk H
          clear H
          go_wp2_with (first | ((with_reducible refine gate_callee (f := 11) rfl ?_); refine goesL_ (some 31) rfl rfl Try.func11 (by kernel_rfl) rfl #[.slice A5 l5.length c5, .slice A6 l6.length c6] rfl (by (try simp only [List.map_toArray, List.map_cons, List.map_nil]); first | done | rfl | (simp only [List.length_drop, List.length_take]; rfl)) ?_; (with_reducible refine (slotmeshlaw21_short.calls _ _ l5 _ _ l6 true _ ?side1 ?side2 ?side3 ?side4 A12.out).mono ?_); (case side1 => repeat (first | exact (Kd.C_below HR5.out HB.out) | (with_reducible refine Kd.C_alloc ?_ _) | (with_reducible refine Kd.C_drewN ?_ _) | (with_reducible refine Kd.C_drew ?_))); (case side2 => exact HC5.out); (case side3 => repeat (first | exact (Kd.C_below HR6.out HB.out) | (with_reducible refine Kd.C_alloc ?_ _) | (with_reducible refine Kd.C_drewN ?_ _) | (with_reducible refine Kd.C_drew ?_))); (case side4 => exact HC6.out); rintro e w' ⟨rfl, ⟨nd, rfl⟩⟩; refine ⟨_, rfl, ?_⟩) | (go_at_call 21; (with_reducible refine (slotmeshref21_Valid.calls k _ _ l0 false _ ?side1 ?side2 A15.out).mono ?_); (case side1 => repeat (first | exact (Kd.C_below HR0.out (by repeat (first | (with_reducible first | exact HB.out | apply below_alloc | apply pw_below_drewN | apply below_drew1) | exact HB.out))) | (with_reducible refine Kd.C_alloc ?_ _) | (with_reducible refine Kd.C_drewN ?_ _) | (with_reducible refine Kd.C_drew ?_))); (case side2 => exact HC0.out); rintro e w24 ⟨rfl, hb⟩; have n0_ := Aside0.mk (below_step (by repeat (first | (with_reducible first | exact HB.out | apply below_alloc | apply pw_below_drewN | apply below_drew1) | exact HB.out)) hb); clear HB; have HB := n0_; clear n0_; (try clear hb); (try clear hb2); (try clear hk); (try clear hi)))
          go_meet
          case rel => exact ⟨_, (true), (by first | rfl | (simp; done) | (simp [*]; done)), H', ⟨by first | omega | exact Nat.le_refl _⟩, ⟨by repeat (first | (with_reducible first | exact HB.out | apply below_alloc | apply pw_below_drewN | apply below_drew1) | exact HB.out)⟩⟩
    · replace c13 := Bool.eq_false_iff.mpr c13
      subst c13
      have H1 : (slotmeshlaw21_DownOrder.j0 k l0 a1 a2 a3 a4 l5 l6 a7 t375 true) = some r := by rw [if_neg (show ¬ (false = true) by decide)] at H; exact H
      clear H
      have H := H1
      clear H1
      have H' := Aside0.mk H
      clear H
      go_wp2_with (first | ((with_reducible refine gate_callee (f := 11) rfl ?_); refine goesL_ (some 31) rfl rfl Try.func11 (by kernel_rfl) rfl #[.slice A5 l5.length c5, .slice A6 l6.length c6] rfl (by (try simp only [List.map_toArray, List.map_cons, List.map_nil]); first | done | rfl | (simp only [List.length_drop, List.length_take]; rfl)) ?_; (with_reducible refine (slotmeshlaw21_short.calls _ _ l5 _ _ l6 false _ ?side1 ?side2 ?side3 ?side4 A12.out).mono ?_); (case side1 => repeat (first | exact (Kd.C_below HR5.out HB.out) | (with_reducible refine Kd.C_alloc ?_ _) | (with_reducible refine Kd.C_drewN ?_ _) | (with_reducible refine Kd.C_drew ?_))); (case side2 => exact HC5.out); (case side3 => repeat (first | exact (Kd.C_below HR6.out HB.out) | (with_reducible refine Kd.C_alloc ?_ _) | (with_reducible refine Kd.C_drewN ?_ _) | (with_reducible refine Kd.C_drew ?_))); (case side4 => exact HC6.out); rintro e w' ⟨rfl, ⟨nd, rfl⟩⟩; refine ⟨_, rfl, ?_⟩))
      go_meet
      case rel => exact ⟨_, (true), (by first | rfl | (simp; done) | (simp [*]; done)), H', ⟨by first | omega | exact Nat.le_refl _⟩, ⟨by repeat (first | (with_reducible first | exact HB.out | apply below_alloc | apply pw_below_drewN | apply below_drew1) | exact HB.out)⟩⟩
  case rest =>
    clear HC10
    try clear c1
    try clear c2
    try clear p2
    try clear c5
    try clear c6
    try clear c8
    try clear c10
    try clear c11
    try clear c13
    try clear c14
    try clear c14b0
    try clear c14b1
    try clear c16
    try clear c17
    try clear c17b0
    try clear c17b1
    try clear c20
    try clear c20b0
    obtain ⟨kq, x59_9, rfl, HA, HJ9, HB⟩ := hcut
    cases kq with
    | zero => exact absurd HA.out (by simp [slotmeshlaw21_DownOrder.j0])
    | succ kj9 =>
      have H := HA.out
      clear HA
      simp only [slotmeshlaw21_DownOrder.j0] at H
      by_cases c25 : x59_9 = true
      · subst c25
        have H1 : (some t375) = some r := by rw [if_pos rfl] at H; exact H
        clear H
        have H := H1
        clear H1
        obtain rfl := Option.some.inj H
        go_wp2
        go_ret
        exact ⟨by first | rfl | (simp [errW_none, errW_some] <;> rfl) | (simp [*, errW_none, errW_some] <;> rfl), by repeat (first | (with_reducible first | exact HB.out | apply below_alloc | apply pw_below_drewN | apply below_drew1) | exact HB.out)⟩
      · replace c25 := Bool.eq_false_iff.mpr c25
        subst c25
        have H1 : (slotmeshlaw21_DownOrder.l0 kj9 l0 a1 a2 a3 a4 l5 l6 a7 t375 l5 (l5.length : Int) 0) = some r := by rw [if_neg (show ¬ (false = true) by decide)] at H; exact H
        clear H
        have H := H1
        clear H1
        have H' := Aside0.mk H
        clear H
        go_wp2
        go_loopg [63] kj9 (fun kq v63 w' => ∃ (x63_2 : Int), v63 = .int .i64 x63_2 ∧ Aside0 (slotmeshlaw21_DownOrder.l0 kq l0 a1 a2 a3 a4 l5 l6 a7 t375 l5 (l5.length : Int) x63_2 = some r) ∧ Aside0 (kq ≤ kj9) ∧ Aside0 (Below w.heap.size w w'))
        case atStart => exact ⟨(0), (by first | rfl | (simp; done) | (simp [*]; done)), H', ⟨Nat.le_refl _⟩, ⟨by repeat (first | (with_reducible first | exact HB.out | apply below_alloc | apply pw_below_drewN | apply below_drew1) | exact HB.out)⟩⟩
        case round =>
          clear H'
          try clear c1
          try clear c2
          try clear p2
          try clear c5
          try clear c6
          try clear c8
          try clear c10
          try clear c11
          try clear c13
          try clear c14
          try clear c14b0
          try clear c14b1
          try clear c16
          try clear c17
          try clear c17b0
          try clear c17b1
          try clear c20
          try clear c20b0
          try clear c25
          try clear p2
          obtain ⟨x63_2, rfl, HA, HK2, HB⟩ := hrel
          cases gk with
          | zero => exact absurd HA.out (by simp [slotmeshlaw21_DownOrder.l0])
          | succ k2 =>
            have H := HA.out
            clear HA
            simp only [slotmeshlaw21_DownOrder.l0] at H
            by_cases c26 : x63_2 < (l5.length : Int)
            · rw [if_pos c26] at H
              have c26b0 : decide (x63_2 < (l5.length : Int)) = true := decide_eq_true c26
              clear c26
              by_cases c27 : 0 ≤ x63_2
              · rw [if_pos c27] at H
                have c27b0 : decide (0 ≤ x63_2) = true := decide_eq_true c27
                clear c27
                by_cases c28 : x63_2 < (l5.length : Int)
                · rw [if_pos c28] at H
                  have c28b0 : decide (x63_2 < (l5.length : Int)) = true := decide_eq_true c28
                  clear c28
                  replace H := Option.bind_eq_some_iff.mp H
                  obtain ⟨t382, A290, H⟩ := H
                  replace H : (if t382 ≥ 0 then (some t375) else (slotmeshlaw21_DownOrder.l0 k2 l0 a1 a2 a3 a4 l5 l6 a7 t375 l5 (l5.length : Int) (wrap64 (x63_2 + 1)))) = some r := H
                  have A29 := Aside0.mk A290
                  clear A290
                  by_cases c30 : t382 ≥ 0
                  · rw [if_pos c30] at H
                    have c30b0 : decide (0 ≤ t382) = true := decide_eq_true c30
                    clear c30
                    obtain rfl := Option.some.inj H
                    have p380 : 0 ≤ (x63_2 : Int) := of_decide_eq_true (by first | (with_reducible assumption) | assumption)
                    have q380 : x63_2 < (l5.length : Int) := of_decide_eq_true (by first | (with_reducible assumption) | assumption)
                    obtain ⟨ad380, e380, hx380_0, hx380_1, hx380_2, hx380_3⟩ := at_T35 HR5.out x63_2 p380 q380
                    cases e380
                    replace hx380_0 := (HB.out.cell (World.block_lt_of_cell? w _ hx380_0)).trans hx380_0
                    replace hx380_1 := (HB.out.cell (World.block_lt_of_cell? w _ hx380_1)).trans hx380_1
                    replace hx380_2 := (HB.out.cell (World.block_lt_of_cell? w _ hx380_2)).trans hx380_2
                    replace hx380_3 := (HB.out.cell (World.block_lt_of_cell? w _ hx380_3)).trans hx380_3
                    replace p380 := eq_true p380
                    replace q380 := eq_true q380
                    go_wp2_with (first | ((with_reducible refine gate_dst (N := 19) rfl ?_); (try (refine gate_guard (by rfl) ?_; dsimp only)); refine box_event ?hg (N := 19) ?hd (cs := #[.int .i64 0, .int .i64 0, .int .i64 0, .int .i64 0]) (t := 35) ?hr ?_; (case hd => rfl); (case hg => rfl); (case hr => first | (go_simp; done) | (go_simp; rfl)); intro gb381 hg w31 hbox hb; have n0_ := Aside0.mk (below_step (by repeat (first | (with_reducible first | exact HB.out | apply below_alloc | apply pw_below_drewN | apply below_drew1) | exact HB.out)) hb); have n1_ := Aside0.mk (hbox); have n2_ := Aside0.mk ((by rw [hg]; exact (below_size (by repeat (first | (with_reducible first | exact HB.out | apply below_alloc | apply pw_below_drewN | apply below_drew1) | exact HB.out))) : w.heap.size ≤ gb381)); have n3_ := Aside0.mk ((by rw [hg]; exact (below_size (by repeat (first | (with_reducible first | exact HB.out | apply below_alloc | apply pw_below_drewN | apply below_drew1) | exact HB.out))) : w.heap.size ≤ gb381)); clear HB; have HB := n0_; have BK381 := n1_; have GW381 := n2_; have GE381 := n3_; clear n0_ n1_ n2_ n3_; clear hb hbox hg; have hcz32_0 : w31.cell? ⟨gb381, 0, none⟩ = some (.int .i64 0) := (blk_cell BK381.out 0).trans rfl; have hcz32_1 : w31.cell? ⟨gb381, 1, none⟩ = some (.int .i64 0) := (blk_cell BK381.out 1).trans rfl; have hcz32_2 : w31.cell? ⟨gb381, 2, none⟩ = some (.int .i64 0) := (blk_cell BK381.out 2).trans rfl; have hcz32_3 : w31.cell? ⟨gb381, 3, none⟩ = some (.int .i64 0) := (blk_cell BK381.out 3).trans rfl; have hfz32_0 := blk_frozen BK381.out 0; have hfz32_1 := blk_frozen BK381.out 1; have hfz32_2 := blk_frozen BK381.out 2; have hfz32_3 := blk_frozen BK381.out 3) | ((with_reducible refine gate_callee (f := 22) rfl ?_); refine goesL_ (some 70) rfl rfl Try.func22 (by kernel_rfl) rfl #[.slice A6 l6.length c6, .int .i64 ((rd_T35 l5 x63_2).f0)] rfl (by (try simp only [List.map_toArray, List.map_cons, List.map_nil]); first | done | rfl | (simp only [List.length_drop, List.length_take]; rfl)) ?_; (with_reducible refine (slotmeshref21_Find.calls k2 _ _ l6 ((rd_T35 l5 x63_2).f0) t382 _ ?side1 ?side2 A29.out).mono ?_); (case side1 => exact Kd.C_below HR6.out (by repeat (first | (with_reducible first | exact HB.out | apply below_alloc | apply pw_below_drewN | apply below_drew1 | refine below_set ?_ GE381.out) | exact HB.out))); (case side2 => exact HC6.out); rintro e w' ⟨rfl, ⟨nd, rfl⟩⟩; refine ⟨_, rfl, ?_⟩))
                    go_ret
                    exact ⟨by first | rfl | (simp [errW_none, errW_some] <;> rfl) | (simp [*, errW_none, errW_some] <;> rfl), by repeat (first | (with_reducible first | exact HB.out | apply below_alloc | apply pw_below_drewN | apply below_drew1 | refine below_set ?_ GE381.out) | exact HB.out)⟩
                  · rw [if_neg c30] at H
                    have c30b0 : decide (0 ≤ t382) = false := decide_eq_false c30
                    clear c30
                    have H' := Aside0.mk H
                    clear H
                    have p380 : 0 ≤ (x63_2 : Int) := of_decide_eq_true (by first | (with_reducible assumption) | assumption)
                    have q380 : x63_2 < (l5.length : Int) := of_decide_eq_true (by first | (with_reducible assumption) | assumption)
                    obtain ⟨ad380, e380, hx380_0, hx380_1, hx380_2, hx380_3⟩ := at_T35 HR5.out x63_2 p380 q380
                    cases e380
                    replace hx380_0 := (HB.out.cell (World.block_lt_of_cell? w _ hx380_0)).trans hx380_0
                    replace hx380_1 := (HB.out.cell (World.block_lt_of_cell? w _ hx380_1)).trans hx380_1
                    replace hx380_2 := (HB.out.cell (World.block_lt_of_cell? w _ hx380_2)).trans hx380_2
                    replace hx380_3 := (HB.out.cell (World.block_lt_of_cell? w _ hx380_3)).trans hx380_3
                    replace p380 := eq_true p380
                    replace q380 := eq_true q380
                    go_wp2_with (first | ((with_reducible refine gate_dst (N := 19) rfl ?_); (try (refine gate_guard (by rfl) ?_; dsimp only)); refine box_event ?hg (N := 19) ?hd (cs := #[.int .i64 0, .int .i64 0, .int .i64 0, .int .i64 0]) (t := 35) ?hr ?_; (case hd => rfl); (case hg => rfl); (case hr => first | (go_simp; done) | (go_simp; rfl)); intro gb381 hg w33 hbox hb; have n0_ := Aside0.mk (below_step (by repeat (first | (with_reducible first | exact HB.out | apply below_alloc | apply pw_below_drewN | apply below_drew1) | exact HB.out)) hb); have n1_ := Aside0.mk (hbox); have n2_ := Aside0.mk ((by rw [hg]; exact (below_size (by repeat (first | (with_reducible first | exact HB.out | apply below_alloc | apply pw_below_drewN | apply below_drew1) | exact HB.out))) : w.heap.size ≤ gb381)); have n3_ := Aside0.mk ((by rw [hg]; exact (below_size (by repeat (first | (with_reducible first | exact HB.out | apply below_alloc | apply pw_below_drewN | apply below_drew1) | exact HB.out))) : w.heap.size ≤ gb381)); clear HB; have HB := n0_; have BK381 := n1_; have GW381 := n2_; have GE381 := n3_; clear n0_ n1_ n2_ n3_; clear hb hbox hg; have hcz34_0 : w33.cell? ⟨gb381, 0, none⟩ = some (.int .i64 0) := (blk_cell BK381.out 0).trans rfl; have hcz34_1 : w33.cell? ⟨gb381, 1, none⟩ = some (.int .i64 0) := (blk_cell BK381.out 1).trans rfl; have hcz34_2 : w33.cell? ⟨gb381, 2, none⟩ = some (.int .i64 0) := (blk_cell BK381.out 2).trans rfl; have hcz34_3 : w33.cell? ⟨gb381, 3, none⟩ = some (.int .i64 0) := (blk_cell BK381.out 3).trans rfl; have hfz34_0 := blk_frozen BK381.out 0; have hfz34_1 := blk_frozen BK381.out 1; have hfz34_2 := blk_frozen BK381.out 2; have hfz34_3 := blk_frozen BK381.out 3) | ((with_reducible refine gate_callee (f := 22) rfl ?_); refine goesL_ (some 70) rfl rfl Try.func22 (by kernel_rfl) rfl #[.slice A6 l6.length c6, .int .i64 ((rd_T35 l5 x63_2).f0)] rfl (by (try simp only [List.map_toArray, List.map_cons, List.map_nil]); first | done | rfl | (simp only [List.length_drop, List.length_take]; rfl)) ?_; (with_reducible refine (slotmeshref21_Find.calls k2 _ _ l6 ((rd_T35 l5 x63_2).f0) t382 _ ?side1 ?side2 A29.out).mono ?_); (case side1 => exact Kd.C_below HR6.out (by repeat (first | (with_reducible first | exact HB.out | apply below_alloc | apply pw_below_drewN | apply below_drew1 | refine below_set ?_ GE381.out) | exact HB.out))); (case side2 => exact HC6.out); rintro e w' ⟨rfl, ⟨nd, rfl⟩⟩; refine ⟨_, rfl, ?_⟩))
                    go_roundg k2
                    case measure => have := HJ9.out; have := HK2.out; omega
                    case rel => exact ⟨(wrap64 (x63_2 + 1)), (by first | rfl | (simp; done) | (simp [*]; done)), H', ⟨by have := HJ9.out; have := HK2.out; omega⟩, ⟨by repeat (first | (with_reducible first | exact HB.out | apply below_alloc | apply pw_below_drewN | apply below_drew1 | refine below_set ?_ GE381.out) | exact HB.out)⟩⟩
                · rw [if_neg c28] at H
                  exact absurd H (by simp)
              · rw [if_neg c27] at H
                exact absurd H (by simp)
            · rw [if_neg c26] at H
              have c26b0 : decide (x63_2 < (l5.length : Int)) = false := decide_eq_false c26
              clear c26
              replace H := Option.bind_eq_some_iff.mp H
              obtain ⟨⟨t383, t384⟩, A350, H⟩ := H
              replace H : ((down_Learn.f k2 l0 a2 a4 l6 a7).bind fun bt387 => (if t384 = 0 then (slotmeshlaw21_DownOrder.j2 k2 a1 a2 a3 a4 l5 l6 a7 t375 t383 bt387.1 (bt387.2 != 0)) else (slotmeshlaw21_DownOrder.j2 k2 a1 a2 a3 a4 l5 l6 a7 t375 t383 bt387.1 true))) = some r := H
              have A35 := Aside0.mk A350
              clear A350
              replace H := Option.bind_eq_some_iff.mp H
              obtain ⟨⟨t387, t388⟩, A360, H⟩ := H
              replace H : (if t384 = 0 then (slotmeshlaw21_DownOrder.j2 k2 a1 a2 a3 a4 l5 l6 a7 t375 t383 t387 (t388 != 0)) else (slotmeshlaw21_DownOrder.j2 k2 a1 a2 a3 a4 l5 l6 a7 t375 t383 t387 true)) = some r := H
              have A36 := Aside0.mk A360
              clear A360
              have HC37 := Aside0.mk H
              clear H
              go_upto_region 12 with (first | ((with_reducible refine gate_callee (f := 12) rfl ?_); refine goesL_ (some 80) rfl rfl Try.func12 (by kernel_rfl) rfl #[.slice A0 l0.length c0, .int .i64 a1, .int .i64 a3, .slice A5 l5.length c5, .int .i64 a7] rfl (by (try simp only [List.map_toArray, List.map_cons, List.map_nil]); first | done | rfl | (simp only [List.length_drop, List.length_take]; rfl)) ?_; (with_reducible refine (down_Learn.calls k2 _ _ l0 a1 a3 _ _ l5 a7 t383 t384 _ ?side1 ?side2 ?side3 ?side4 A35.out).mono ?_); (case side1 => repeat (first | exact (Kd.C_below HR0.out HB.out) | (with_reducible refine Kd.C_alloc ?_ _) | (with_reducible refine Kd.C_drewN ?_ _) | (with_reducible refine Kd.C_drew ?_))); (case side2 => exact HC0.out); (case side3 => repeat (first | exact (Kd.C_below HR5.out HB.out) | (with_reducible refine Kd.C_alloc ?_ _) | (with_reducible refine Kd.C_drewN ?_ _) | (with_reducible refine Kd.C_drew ?_))); (case side4 => exact HC5.out); rintro e w38 ⟨v385, rfl, ho0, hb⟩; refine ⟨_, rfl, ?_⟩; have n0_ := Aside0.mk (Kd.R_lower ho0 (below_size (by repeat (first | (with_reducible first | exact HB.out | apply below_alloc | apply pw_below_drewN | apply below_drew1) | exact HB.out)))); have n1_ := Aside0.mk (below_step (by repeat (first | (with_reducible first | exact HB.out | apply below_alloc | apply pw_below_drewN | apply below_drew1) | exact HB.out)) hb); clear HB; have HO386 := n0_; have HB := n1_; clear n0_ n1_; (try clear hb); (try clear hb2); (try clear hk); (try clear hi); (try clear ho0)) | ((with_reducible refine gate_callee (f := 12) rfl ?_); refine goesL_ (some 89) rfl rfl Try.func12 (by kernel_rfl) rfl #[.slice A0 l0.length c0, .int .i64 a2, .int .i64 a4, .slice A6 l6.length c6, .int .i64 a7] rfl (by (try simp only [List.map_toArray, List.map_cons, List.map_nil]); first | done | rfl | (simp only [List.length_drop, List.length_take]; rfl)) ?_; (with_reducible refine (down_Learn.calls k2 _ _ l0 a2 a4 _ _ l6 a7 t387 t388 _ ?side1 ?side2 ?side3 ?side4 A36.out).mono ?_); (case side1 => repeat (first | exact (Kd.C_below HR0.out HB.out) | (with_reducible refine Kd.C_alloc ?_ _) | (with_reducible refine Kd.C_drewN ?_ _) | (with_reducible refine Kd.C_drew ?_))); (case side2 => exact HC0.out); (case side3 => repeat (first | exact (Kd.C_below HR6.out HB.out) | (with_reducible refine Kd.C_alloc ?_ _) | (with_reducible refine Kd.C_drewN ?_ _) | (with_reducible refine Kd.C_drew ?_))); (case side4 => exact HC6.out); rintro e w39 ⟨v389, rfl, ho0, hb⟩; refine ⟨_, rfl, ?_⟩; have n0_ := Aside0.mk (Kd.R_elder' (by (with_reducible repeat (first | apply Kd.R_alloc | apply Kd.R_drewN | apply Kd.R_drew)); exact HO386.out) (Kd.R_base ho0) hb); have n1_ := Aside0.mk (Kd.R_lower (Kd.R_new' ho0 (Kd.R_lt (by (with_reducible repeat (first | apply Kd.R_alloc | apply Kd.R_drewN | apply Kd.R_drew)); exact HO386.out))) (below_size (by repeat (first | (with_reducible first | exact HB.out | apply below_alloc | apply pw_below_drewN | apply below_drew1) | exact HB.out)))); have n2_ := Aside0.mk (below_step (by repeat (first | (with_reducible first | exact HB.out | apply below_alloc | apply pw_below_drewN | apply below_drew1) | exact HB.out)) hb); clear HO386; clear HB; have HO386 := n0_; have HO390 := n1_; have HB := n2_; clear n0_ n1_ n2_; (try clear hb); (try clear hb2); (try clear hk); (try clear hi); (try clear ho0)))
              (try simp only [Act.put, List.setIfInBounds_toArray, List.set_cons_zero, List.set_cons_succ])
              go_cut [97] (fun v97 wc => ∃ (kq : Nat) (x97_36 : Bool), v97 = .bool x97_36 ∧ Aside0 (slotmeshlaw21_DownOrder.j2 kq a1 a2 a3 a4 l5 l6 a7 t375 t383 t387 x97_36 = some r) ∧ Aside0 (kq ≤ k2) ∧ Aside0 (Kd.R k35 35 wc w.heap.size (fun k_ => some k_ ≠ (v389 : Value).ownBlock) v385 t383) ∧ Aside0 (Kd.R k35 35 wc w.heap.size (fun k_ => some k_ ≠ (v385 : Value).ownBlock) v389 t387) ∧ Aside0 (Below w.heap.size w wc))
              case first =>
                have H := HC37.out
                clear HC37
                by_cases c40 : t384 = 0
                · rw [if_pos c40] at H
                  have c40b0 : (t384 == 0) = true := beq_iff_eq.mpr c40
                  have c40b1 : (t384 != 0) = false := bne_eq_false_iff_eq.mpr c40
                  clear c40
                  (first | rw [c40b0] | (simp only [i64_w, i32_w]; rw [c40b0]) | skip)
                  have H' := Aside0.mk H
                  clear H
                  go_wp2
                  go_meet
                  case rel => exact ⟨_, ((t388 != 0)), (by first | rfl | (simp; done) | (simp [*]; done)), H', ⟨by have := HJ9.out; have := HK2.out; first | omega | exact Nat.le_refl _⟩, ⟨by (with_reducible repeat (first | apply Kd.R_alloc | apply Kd.R_drewN | apply Kd.R_drew)); exact Kd.R_mono HO386.out (fun _ hk => hk.2)⟩, ⟨by (with_reducible repeat (first | apply Kd.R_alloc | apply Kd.R_drewN | apply Kd.R_drew)); exact Kd.R_mono HO390.out (fun _ hk => hk.2)⟩, ⟨by repeat (first | (with_reducible first | exact HB.out | apply below_alloc | apply pw_below_drewN | apply below_drew1) | exact HB.out)⟩⟩
                · rw [if_neg c40] at H
                  have c40b0 : (t384 == 0) = false := beq_eq_false_iff_ne.mpr c40
                  have c40b1 : (t384 != 0) = true := bne_iff_ne.mpr c40
                  (first | rw [c40b0] | (simp only [i64_w, i32_w]; rw [c40b0]) | skip)
                  have H' := Aside0.mk H
                  clear H
                  go_wp2
                  go_meet
                  case rel => exact ⟨_, (true), (by first | rfl | (simp; done) | (simp [*]; done)), H', ⟨by have := HJ9.out; have := HK2.out; first | omega | exact Nat.le_refl _⟩, ⟨by (with_reducible repeat (first | apply Kd.R_alloc | apply Kd.R_drewN | apply Kd.R_drew)); exact Kd.R_mono HO386.out (fun _ hk => hk.2)⟩, ⟨by (with_reducible repeat (first | apply Kd.R_alloc | apply Kd.R_drewN | apply Kd.R_drew)); exact Kd.R_mono HO390.out (fun _ hk => hk.2)⟩, ⟨by repeat (first | (with_reducible first | exact HB.out | apply below_alloc | apply pw_below_drewN | apply below_drew1) | exact HB.out)⟩⟩
              case rest =>
                clear HC37
                try clear c1
                try clear c2
                try clear p2
                try clear c3
                try clear p3
                try clear q3
                try clear hx3
                try clear c4
                try clear c5
                try clear c6
                try clear p6
                try clear c8
                try clear c10
                try clear c11
                try clear c12
                try clear c13
                try clear c14
                try clear c14b0
                try clear c14b1
                try clear c16
                try clear c17
                try clear c17b0
                try clear c17b1
                try clear c20
                try clear c20b0
                try clear c22
                try clear c25
                try clear c26
                try clear c26b0
                try clear c27
                try clear c27b0
                try clear c28
                try clear c28b0
                try clear c30
                try clear c30b0
                try clear p38
                try clear q38
                try clear hx38
                try clear c40
                try clear c40b0
                try clear c40b1
                try clear hcz32_0
                try clear hcz32_1
                try clear hcz32_2
                try clear hcz32_3
                try clear hcz34_0
                try clear hcz34_1
                try clear hcz34_2
                try clear hcz34_3
                try clear hfz32_0
                try clear hfz32_1
                try clear hfz32_2
                try clear hfz32_3
                try clear hfz34_0
                try clear hfz34_1
                try clear hfz34_2
                try clear hfz34_3
                try clear hx380_0
                try clear hx380_1
                try clear hx380_2
                try clear hx380_3
                try clear p2
                try clear p380
                try clear q380
                obtain ⟨kq, x97_36, rfl, HA, HJ36, HO_20, HO_22, HB⟩ := hcut
                cases kq with
                | zero => exact absurd HA.out (by simp [slotmeshlaw21_DownOrder.j2])
                | succ kj36 =>
                  have H := HA.out
                  clear HA
                  simp only [slotmeshlaw21_DownOrder.j2] at H
                  by_cases c41 : x97_36 = true
                  · subst c41
                    have H1 : (some t375) = some r := by rw [if_pos rfl] at H; exact H
                    clear H
                    have H := H1
                    clear H1
                    obtain rfl := Option.some.inj H
                    go_wp2
                    go_ret
                    exact ⟨by first | rfl | (simp [errW_none, errW_some] <;> rfl) | (simp [*, errW_none, errW_some] <;> rfl), by repeat (first | (with_reducible first | exact HB.out | apply below_alloc | apply pw_below_drewN | apply below_drew1) | exact HB.out)⟩
                  · replace c41 := Bool.eq_false_iff.mpr c41
                    subst c41
                    have H1 : ((down_Learn.f kj36 t383 a2 a4 l6 a7).bind fun bt391 => ((down_Learn.f kj36 t387 a1 a3 l5 a7).bind fun bt395 => (if t375 = true then (if bt391.2 = 0 then (if bt395.2 = 0 then ((slotmeshref21_Same.f kj36 bt391.1 bt395.1).bind fun t399 => (some t399)) else (some false)) else (some false)) else (some false)))) = some r := by rw [if_neg (show ¬ (false = true) by decide)] at H; exact H
                    clear H
                    have H := H1
                    clear H1
                    replace H := Option.bind_eq_some_iff.mp H
                    obtain ⟨⟨t391, t392⟩, A420, H⟩ := H
                    replace H : ((down_Learn.f kj36 t387 a1 a3 l5 a7).bind fun bt395 => (if t375 = true then (if t392 = 0 then (if bt395.2 = 0 then ((slotmeshref21_Same.f kj36 t391 bt395.1).bind fun t399 => (some t399)) else (some false)) else (some false)) else (some false))) = some r := H
                    have A42 := Aside0.mk A420
                    clear A420
                    replace H := Option.bind_eq_some_iff.mp H
                    obtain ⟨⟨t395, t396⟩, A430, H⟩ := H
                    replace H : (if t375 = true then (if t392 = 0 then (if t396 = 0 then ((slotmeshref21_Same.f kj36 t391 t395).bind fun t399 => (some t399)) else (some false)) else (some false)) else (some false)) = some r := H
                    have A43 := Aside0.mk A430
                    clear A430
                    by_cases c44 : t375 = true
                    · subst c44
                      have H1 : (if t392 = 0 then (if t396 = 0 then ((slotmeshref21_Same.f kj36 t391 t395).bind fun t399 => (some t399)) else (some false)) else (some false)) = some r := by rw [if_pos rfl] at H; exact H
                      clear H
                      have H := H1
                      clear H1
                      by_cases c45 : t392 = 0
                      · rw [if_pos c45] at H
                        have c45b0 : (t392 == 0) = true := beq_iff_eq.mpr c45
                        have c45b1 : (t392 != 0) = false := bne_eq_false_iff_eq.mpr c45
                        clear c45
                        by_cases c46 : t396 = 0
                        · rw [if_pos c46] at H
                          have c46b0 : (t396 == 0) = true := beq_iff_eq.mpr c46
                          have c46b1 : (t396 != 0) = false := bne_eq_false_iff_eq.mpr c46
                          clear c46
                          replace H := Option.bind_eq_some_iff.mp H
                          obtain ⟨t399, A470, H⟩ := H
                          replace H : (some t399) = some r := H
                          have A47 := Aside0.mk A470
                          clear A470
                          obtain rfl := Option.some.inj H
                          obtain ⟨Ao48, co48, eo48⟩ := Kd.R_slice HO_20.out
                          subst eo48
                          go_wp2_with (first | ((with_reducible refine gate_callee (f := 12) rfl ?_); refine goesL_ (some 105) rfl rfl Try.func12 (by kernel_rfl) rfl #[.slice Ao48 t383.length co48, .int .i64 a2, .int .i64 a4, .slice A6 l6.length c6, .int .i64 a7] rfl (by (try simp only [List.map_toArray, List.map_cons, List.map_nil]); first | done | rfl | (simp only [List.length_drop, List.length_take]; rfl)) ?_; (with_reducible refine (down_Learn.calls kj36 _ _ t383 a2 a4 _ _ l6 a7 t391 t392 _ ?side1 ?side2 ?side3 ?side4 A42.out).mono ?_); (case side1 => repeat (first | exact (Kd.R_reads' HO_20.out).2.2 | (with_reducible refine Kd.C_alloc ?_ _) | (with_reducible refine Kd.C_drewN ?_ _) | (with_reducible refine Kd.C_drew ?_))); (case side2 => exact (Kd.R_reads' HO_20.out).2.1); (case side3 => repeat (first | exact (Kd.C_below HR6.out HB.out) | (with_reducible refine Kd.C_alloc ?_ _) | (with_reducible refine Kd.C_drewN ?_ _) | (with_reducible refine Kd.C_drew ?_))); (case side4 => exact HC6.out); rintro e w49 ⟨v393, rfl, ho0, hb⟩; refine ⟨_, rfl, ?_⟩; have n0_ := Aside0.mk (Kd.R_elder' (by (with_reducible repeat (first | apply Kd.R_alloc | apply Kd.R_drewN | apply Kd.R_drew)); exact HO_20.out) (Kd.R_base ho0) hb); have n1_ := Aside0.mk (Kd.R_elder' (by (with_reducible repeat (first | apply Kd.R_alloc | apply Kd.R_drewN | apply Kd.R_drew)); exact HO_22.out) (Kd.R_base ho0) hb); have n2_ := Aside0.mk (Kd.R_lower (Kd.R_new' (Kd.R_new' ho0 (Kd.R_lt (by (with_reducible repeat (first | apply Kd.R_alloc | apply Kd.R_drewN | apply Kd.R_drew)); exact HO_20.out))) (Kd.R_lt (by (with_reducible repeat (first | apply Kd.R_alloc | apply Kd.R_drewN | apply Kd.R_drew)); exact HO_22.out))) (below_size (by repeat (first | (with_reducible first | exact HB.out | apply below_alloc | apply pw_below_drewN | apply below_drew1) | exact HB.out)))); have n3_ := Aside0.mk (below_step (by repeat (first | (with_reducible first | exact HB.out | apply below_alloc | apply pw_below_drewN | apply below_drew1) | exact HB.out)) hb); clear HO_20; clear HO_22; clear HB; have HO_20 := n0_; have HO_22 := n1_; have HO394 := n2_; have HB := n3_; clear n0_ n1_ n2_ n3_; (try clear hb); (try clear hb2); (try clear hk); (try clear hi); (try clear ho0); obtain ⟨Ao50, co50, eo50⟩ := Kd.R_slice HO_22.out; subst eo50) | ((with_reducible refine gate_callee (f := 12) rfl ?_); refine goesL_ (some 114) rfl rfl Try.func12 (by kernel_rfl) rfl #[.slice Ao50 t387.length co50, .int .i64 a1, .int .i64 a3, .slice A5 l5.length c5, .int .i64 a7] rfl (by (try simp only [List.map_toArray, List.map_cons, List.map_nil]); first | done | rfl | (simp only [List.length_drop, List.length_take]; rfl)) ?_; (with_reducible refine (down_Learn.calls kj36 _ _ t387 a1 a3 _ _ l5 a7 t395 t396 _ ?side1 ?side2 ?side3 ?side4 A43.out).mono ?_); (case side1 => repeat (first | exact (Kd.R_reads' HO_22.out).2.2 | (with_reducible refine Kd.C_alloc ?_ _) | (with_reducible refine Kd.C_drewN ?_ _) | (with_reducible refine Kd.C_drew ?_))); (case side2 => exact (Kd.R_reads' HO_22.out).2.1); (case side3 => repeat (first | exact (Kd.C_below HR5.out HB.out) | (with_reducible refine Kd.C_alloc ?_ _) | (with_reducible refine Kd.C_drewN ?_ _) | (with_reducible refine Kd.C_drew ?_))); (case side4 => exact HC5.out); rintro e w51 ⟨v397, rfl, ho0, hb⟩; refine ⟨_, rfl, ?_⟩; have n0_ := Aside0.mk (Kd.R_elder' (by (with_reducible repeat (first | apply Kd.R_alloc | apply Kd.R_drewN | apply Kd.R_drew)); exact HO_20.out) (Kd.R_base ho0) hb); have n1_ := Aside0.mk (Kd.R_elder' (by (with_reducible repeat (first | apply Kd.R_alloc | apply Kd.R_drewN | apply Kd.R_drew)); exact HO_22.out) (Kd.R_base ho0) hb); have n2_ := Aside0.mk (Kd.R_elder' (by (with_reducible repeat (first | apply Kd.R_alloc | apply Kd.R_drewN | apply Kd.R_drew)); exact HO394.out) (Kd.R_base ho0) hb); have n3_ := Aside0.mk (Kd.R_lower (Kd.R_new' (Kd.R_new' (Kd.R_new' ho0 (Kd.R_lt (by (with_reducible repeat (first | apply Kd.R_alloc | apply Kd.R_drewN | apply Kd.R_drew)); exact HO_20.out))) (Kd.R_lt (by (with_reducible repeat (first | apply Kd.R_alloc | apply Kd.R_drewN | apply Kd.R_drew)); exact HO_22.out))) (Kd.R_lt (by (with_reducible repeat (first | apply Kd.R_alloc | apply Kd.R_drewN | apply Kd.R_drew)); exact HO394.out))) (below_size (by repeat (first | (with_reducible first | exact HB.out | apply below_alloc | apply pw_below_drewN | apply below_drew1) | exact HB.out)))); have n4_ := Aside0.mk (below_step (by repeat (first | (with_reducible first | exact HB.out | apply below_alloc | apply pw_below_drewN | apply below_drew1) | exact HB.out)) hb); clear HO_20; clear HO_22; clear HO394; clear HB; have HO_20 := n0_; have HO_22 := n1_; have HO394 := n2_; have HO398 := n3_; have HB := n4_; clear n0_ n1_ n2_ n3_ n4_; (try clear hb); (try clear hb2); (try clear hk); (try clear hi); (try clear ho0); obtain ⟨Ao52, co52, eo52⟩ := Kd.R_slice HO394.out; subst eo52; obtain ⟨Ao53, co53, eo53⟩ := Kd.R_slice HO398.out; subst eo53) | (go_at_call 16; (with_reducible refine (slotmeshref21_Same.calls kj36 _ _ t391 _ _ t395 t399 _ ?side1 ?side2 ?side3 ?side4 A47.out).mono ?_); (case side1 => repeat (first | exact (Kd.R_reads' HO394.out).2.2 | (with_reducible refine Kd.C_alloc ?_ _) | (with_reducible refine Kd.C_drewN ?_ _) | (with_reducible refine Kd.C_drew ?_))); (case side2 => exact (Kd.R_reads' HO394.out).2.1); (case side3 => repeat (first | exact (Kd.R_reads' HO398.out).2.2 | (with_reducible refine Kd.C_alloc ?_ _) | (with_reducible refine Kd.C_drewN ?_ _) | (with_reducible refine Kd.C_drew ?_))); (case side4 => exact (Kd.R_reads' HO398.out).2.1); rintro e w' ⟨rfl, ⟨nd, rfl⟩⟩))
                          go_ret
                          exact ⟨by first | rfl | (simp [errW_none, errW_some] <;> rfl) | (simp [*, errW_none, errW_some] <;> rfl), by repeat (first | (with_reducible first | exact HB.out | apply below_alloc | apply pw_below_drewN | apply below_drew1) | exact HB.out)⟩
                        · rw [if_neg c46] at H
                          have c46b0 : (t396 == 0) = false := beq_eq_false_iff_ne.mpr c46
                          have c46b1 : (t396 != 0) = true := bne_iff_ne.mpr c46
                          exact absurd (Option.some.inj H) (by rw [HRT.out]; decide)
                      · rw [if_neg c45] at H
                        have c45b0 : (t392 == 0) = false := beq_eq_false_iff_ne.mpr c45
                        have c45b1 : (t392 != 0) = true := bne_iff_ne.mpr c45
                        exact absurd (Option.some.inj H) (by rw [HRT.out]; decide)
                    · replace c44 := Bool.eq_false_iff.mpr c44
                      subst c44
                      have H1 : (some false) = some r := by rw [if_neg (show ¬ (false = true) by decide)] at H; exact H
                      clear H
                      have H := H1
                      clear H1
                      exact absurd (Option.some.inj H) (by rw [HRT.out]; decide)

end Go.Proofs.Ythobfempjekhdaa.Px
