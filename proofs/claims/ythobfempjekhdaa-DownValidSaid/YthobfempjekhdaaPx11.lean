/- Walks of functions of this seat, written by a program of this workplace out of the translation. -/
import Derived.Test.YthobfempjekhdaaPx0
import Derived.Test.YthobfempjekhdaaPx3
import Derived.Test.YthobfempjekhdaaPx5
import Derived.Test.YthobfempjekhdaaPx6
namespace Go.Proofs.Ythobfempjekhdaa.Px
open Go.RowKit Go.Proofs.YthobfempjekhdaaW.PrintWords Go.Proofs.YthobfempjekhdaaW.PrintLast Go.Proofs.YthobfempjekhdaaW.PrintMore
attribute [local go_sem] max2_int min2_int max_two min_two max_three min_three max_four min_four   -- for this text's walks alone
set_option linter.unusedVariables false
set_option linter.unusedSimpArgs false

/-! ### slotmeshlaw21_DownValid: function 4 -/
mutual
def slotmeshlaw21_DownValid.j0 : Nat → List (S35) → Int → Int → List (S35) → Int → Bool → Bool → Option (Bool)
  | 0, _, _, _, _, _, _, _ => none
  | k + 1, x0, x1, x2, x3, x4, x11, x27 => if x27 = true then (some x11) else ((down_Learn.f k x0 x1 x2 x3 x4).bind fun bt284 => (if bt284.2 = 0 then (slotmeshlaw21_DownValid.l0 k x0 x1 x3 x11 bt284.1 x0 (x0.length : Int) 0) else (if x11 = true then (some ((bt284.1.length : Int) == 0)) else (some false))))
def slotmeshlaw21_DownValid.l0 : Nat → List (S35) → Int → List (S35) → Bool → List (S35) → List (S35) → Int → Int → Option (Bool)
  | 0, _, _, _, _, _, _, _, _ => none
  | k + 1, x0, x1, x3, x11, x12, x46, x47, x48 => if x48 < x47 then (if 0 ≤ x48 then (if x48 < (x46.length : Int) then ((slotmeshref21_Find.f k x12 ((rd_T35 x46 x48).f0)).bind fun t290 => (if t290 < 0 then (some false) else (slotmeshlaw21_DownValid.l0 k x0 x1 x3 x11 x12 x46 x47 (wrap64 (x48 + 1))))) else (none)) else (none)) else (slotmeshlaw21_DownValid.l1 k x0 x1 x3 x11 x12 x12 (x12.length : Int) 0)
def slotmeshlaw21_DownValid.l1 : Nat → List (S35) → Int → List (S35) → Bool → List (S35) → List (S35) → Int → Int → Option (Bool)
  | 0, _, _, _, _, _, _, _, _ => none
  | k + 1, x0, x1, x3, x11, x12, x58, x59, x60 => if x60 < x59 then (if 0 ≤ x60 then (if x60 < (x58.length : Int) then ((slotmeshref21_Find.f k x0 ((rd_T35 x58 x60).f0)).bind fun t295 => (if t295 < 0 then (if ((rd_T35 x58 x60).f0) = x1 then (slotmeshlaw21_DownValid.l1 k x0 x1 x3 x11 x12 x58 x59 (wrap64 (x60 + 1))) else ((slotmeshref21_Find.f k x3 ((rd_T35 x58 x60).f0)).bind fun t296 => (if t296 < 0 then (some false) else (slotmeshlaw21_DownValid.l1 k x0 x1 x3 x11 x12 x58 x59 (wrap64 (x60 + 1)))))) else (slotmeshlaw21_DownValid.l1 k x0 x1 x3 x11 x12 x58 x59 (wrap64 (x60 + 1))))) else (none)) else (none)) else (if x11 = true then ((slotmeshref21_Valid.f k x12).bind fun t291 => (if t291 = true then ((slotmeshref21_Find.f k x12 x1).bind fun t292 => (some (decide (t292 ≥ 0)))) else (some false))) else (some false))
end
def slotmeshlaw21_DownValid.f (k : Nat) (l0 : List (S35)) (a1 : Int) (a2 : Int) (l3 : List (S35)) (a4 : Int) : Option (Bool) := (slotmeshlaw21_head.f).bind fun t281 => ((slotmeshlaw21_short.f l0 l3).bind fun t282 => (if t282 = true then ((slotmeshref21_Valid.f k l0).bind fun t283 => (slotmeshlaw21_DownValid.j0 k l0 a1 a2 l3 a4 t281 (!t283))) else (slotmeshlaw21_DownValid.j0 k l0 a1 a2 l3 a4 t281 true)))
theorem slotmeshlaw21_DownValid.mono_l : ∀ k, (∀ y0 y1 y2 y3 y4 y5 y6, LeO (slotmeshlaw21_DownValid.j0 k y0 y1 y2 y3 y4 y5 y6) (slotmeshlaw21_DownValid.j0 (k + 1) y0 y1 y2 y3 y4 y5 y6)) ∧ (∀ y0 y1 y2 y3 y4 y5 y6 y7, LeO (slotmeshlaw21_DownValid.l0 k y0 y1 y2 y3 y4 y5 y6 y7) (slotmeshlaw21_DownValid.l0 (k + 1) y0 y1 y2 y3 y4 y5 y6 y7)) ∧ (∀ y0 y1 y2 y3 y4 y5 y6 y7, LeO (slotmeshlaw21_DownValid.l1 k y0 y1 y2 y3 y4 y5 y6 y7) (slotmeshlaw21_DownValid.l1 (k + 1) y0 y1 y2 y3 y4 y5 y6 y7))
  | 0 => ⟨fun _ _ _ _ _ _ _ r h => by simp [slotmeshlaw21_DownValid.j0] at h, fun _ _ _ _ _ _ _ _ r h => by simp [slotmeshlaw21_DownValid.l0] at h, fun _ _ _ _ _ _ _ _ r h => by simp [slotmeshlaw21_DownValid.l1] at h⟩
  | k + 1 => by
    obtain ⟨ih0, ih1, ih2⟩ := slotmeshlaw21_DownValid.mono_l k
    refine ⟨?_, ?_, ?_⟩
    · intro y0 y1 y2 y3 y4 y5 y6
      unfold slotmeshlaw21_DownValid.j0
      repeat' first
      | (with_reducible exact ih0 _ _ _ _ _ _ _)
      | (with_reducible exact ih1 _ _ _ _ _ _ _ _)
      | (with_reducible exact ih2 _ _ _ _ _ _ _ _)
      | (with_reducible exact down_Learn.mono _ _ _ _ _ _)
      | (with_reducible exact slotmeshref21_Find.mono _ _ _)
      | (with_reducible exact slotmeshref21_Valid.mono _ _)
      | (with_reducible exact LeO.refl _)
      | (with_reducible exact LeO.none _)
      | (with_reducible refine LeO.ite ?_ ?_)
      | (with_reducible refine LeO.bind ?_ (fun _ => ?_))
      | exact ih0 _ _ _ _ _ _ _
      | exact ih1 _ _ _ _ _ _ _ _
      | exact ih2 _ _ _ _ _ _ _ _
      | exact down_Learn.mono _ _ _ _ _ _
      | exact slotmeshref21_Find.mono _ _ _
      | exact slotmeshref21_Valid.mono _ _
      | exact LeO.none _
      | refine LeO.ite ?_ ?_
      | refine LeO.bind ?_ (fun _ => ?_)
    · intro y0 y1 y2 y3 y4 y5 y6 y7
      unfold slotmeshlaw21_DownValid.l0
      repeat' first
      | (with_reducible exact ih0 _ _ _ _ _ _ _)
      | (with_reducible exact ih1 _ _ _ _ _ _ _ _)
      | (with_reducible exact ih2 _ _ _ _ _ _ _ _)
      | (with_reducible exact down_Learn.mono _ _ _ _ _ _)
      | (with_reducible exact slotmeshref21_Find.mono _ _ _)
      | (with_reducible exact slotmeshref21_Valid.mono _ _)
      | (with_reducible exact LeO.refl _)
      | (with_reducible exact LeO.none _)
      | (with_reducible refine LeO.ite ?_ ?_)
      | (with_reducible refine LeO.bind ?_ (fun _ => ?_))
      | exact ih0 _ _ _ _ _ _ _
      | exact ih1 _ _ _ _ _ _ _ _
      | exact ih2 _ _ _ _ _ _ _ _
      | exact down_Learn.mono _ _ _ _ _ _
      | exact slotmeshref21_Find.mono _ _ _
      | exact slotmeshref21_Valid.mono _ _
      | exact LeO.none _
      | refine LeO.ite ?_ ?_
      | refine LeO.bind ?_ (fun _ => ?_)
    · intro y0 y1 y2 y3 y4 y5 y6 y7
      unfold slotmeshlaw21_DownValid.l1
      repeat' first
      | (with_reducible exact ih0 _ _ _ _ _ _ _)
      | (with_reducible exact ih1 _ _ _ _ _ _ _ _)
      | (with_reducible exact ih2 _ _ _ _ _ _ _ _)
      | (with_reducible exact down_Learn.mono _ _ _ _ _ _)
      | (with_reducible exact slotmeshref21_Find.mono _ _ _)
      | (with_reducible exact slotmeshref21_Valid.mono _ _)
      | (with_reducible exact LeO.refl _)
      | (with_reducible exact LeO.none _)
      | (with_reducible refine LeO.ite ?_ ?_)
      | (with_reducible refine LeO.bind ?_ (fun _ => ?_))
      | exact ih0 _ _ _ _ _ _ _
      | exact ih1 _ _ _ _ _ _ _ _
      | exact ih2 _ _ _ _ _ _ _ _
      | exact down_Learn.mono _ _ _ _ _ _
      | exact slotmeshref21_Find.mono _ _ _
      | exact slotmeshref21_Valid.mono _ _
      | exact LeO.none _
      | refine LeO.ite ?_ ?_
      | refine LeO.bind ?_ (fun _ => ?_)
theorem slotmeshlaw21_DownValid.mono : ∀ a0 a1 a2 a3 a4 k, LeO (slotmeshlaw21_DownValid.f k a0 a1 a2 a3 a4) (slotmeshlaw21_DownValid.f (k + 1) a0 a1 a2 a3 a4) := by
  intro a0 a1 a2 a3 a4 k
  obtain ⟨ih0, ih1, ih2⟩ := slotmeshlaw21_DownValid.mono_l k
  unfold slotmeshlaw21_DownValid.f
  repeat' first
      | (with_reducible exact ih0 _ _ _ _ _ _ _)
      | (with_reducible exact ih1 _ _ _ _ _ _ _ _)
      | (with_reducible exact ih2 _ _ _ _ _ _ _ _)
      | (with_reducible exact down_Learn.mono _ _ _ _ _ _)
      | (with_reducible exact slotmeshref21_Find.mono _ _ _)
      | (with_reducible exact slotmeshref21_Valid.mono _ _)
      | (with_reducible exact LeO.refl _)
      | (with_reducible exact LeO.none _)
      | (with_reducible refine LeO.ite ?_ ?_)
      | (with_reducible refine LeO.bind ?_ (fun _ => ?_))
      | exact ih0 _ _ _ _ _ _ _
      | exact ih1 _ _ _ _ _ _ _ _
      | exact ih2 _ _ _ _ _ _ _ _
      | exact down_Learn.mono _ _ _ _ _ _
      | exact slotmeshref21_Find.mono _ _ _
      | exact slotmeshref21_Valid.mono _ _
      | exact LeO.none _
      | refine LeO.ite ?_ ?_
      | refine LeO.bind ?_ (fun _ => ?_)
set_option maxHeartbeats 8000000 in
set_option maxRecDepth 100000 in
theorem slotmeshlaw21_DownValid.calls (k : Nat) (A0 : Option Addr) (c0 : Nat) (l0 : List (S35)) (a1 : Int) (a2 : Int) (A3 : Option Addr) (c3 : Nat) (l3 : List (S35)) (a4 : Int) (r : Bool) (w : World) (hrt : r = true) (hr0 : Kd.C k35 w A0 l0.length l0) (hc0 : l0.length ≤ c0) (hr3 : Kd.C k35 w A3 l3.length l3) (hc3 : l3.length ≤ c3) (h : slotmeshlaw21_DownValid.f k l0 a1 a2 l3 a4 = some r) :
    Calls Try.prog 4 #[.slice A0 l0.length c0, .int .i64 a1, .int .i64 a2, .slice A3 l3.length c3, .int .i64 a4] w fun e w' => e = .returned (.bool r) ∧ Below w.heap.size w w' := by
  have hu35 := Try.underlying35
  have HR0 := Aside0.mk hr0
  have HC0 := Aside0.mk hc0
  clear hr0 hc0
  have HR3 := Aside0.mk hr3
  have HC3 := Aside0.mk hc3
  clear hr3 hc3
  have HB := Aside0.mk (Below.refl w.heap.size w)
  have HRT := Aside0.mk hrt
  clear hrt
  have H : ((slotmeshlaw21_head.f).bind fun t281 => ((slotmeshlaw21_short.f l0 l3).bind fun t282 => (if t282 = true then ((slotmeshref21_Valid.f k l0).bind fun t283 => (slotmeshlaw21_DownValid.j0 k l0 a1 a2 l3 a4 t281 (!t283))) else (slotmeshlaw21_DownValid.j0 k l0 a1 a2 l3 a4 t281 true)))) = some r := h
  clear h
  replace H := Option.bind_eq_some_iff.mp H
  obtain ⟨t281, A60, H⟩ := H
  replace H : ((slotmeshlaw21_short.f l0 l3).bind fun t282 => (if t282 = true then ((slotmeshref21_Valid.f k l0).bind fun t283 => (slotmeshlaw21_DownValid.j0 k l0 a1 a2 l3 a4 t281 (!t283))) else (slotmeshlaw21_DownValid.j0 k l0 a1 a2 l3 a4 t281 true))) = some r := H
  have A6 := Aside0.mk A60
  clear A60
  have HC7 := Aside0.mk H
  clear H
  go_enter Try.func4, Try.ntmps4
  go_upto_region 2 with (first | ((with_reducible refine gate_callee (f := 10) rfl ?_); refine goesL_ (some 18) rfl rfl Try.func10 (by kernel_rfl) rfl #[] rfl (by (try simp only [List.map_toArray, List.map_cons, List.map_nil]); first | done | rfl | (simp only [List.length_drop, List.length_take]; rfl)) ?_; (with_reducible refine (slotmeshlaw21_head.calls  t281 _ A6.out).mono ?_); rintro e w8 ⟨rfl, hb⟩; refine ⟨_, rfl, ?_⟩; have n0_ := Aside0.mk (below_step (by repeat (first | (with_reducible first | exact HB.out | apply below_alloc | apply pw_below_drewN | apply below_drew1) | exact HB.out)) hb); clear HB; have HB := n0_; clear n0_; (try clear hb); (try clear hb2); (try clear hk); (try clear hi)))
  (try simp only [Act.put, List.setIfInBounds_toArray, List.set_cons_zero, List.set_cons_succ])
  go_cut [27] (fun v27 wc => ∃ (kq : Nat) (x27_6 : Bool), v27 = .bool x27_6 ∧ Aside0 (slotmeshlaw21_DownValid.j0 kq l0 a1 a2 l3 a4 t281 x27_6 = some r) ∧ Aside0 (kq ≤ k) ∧ Aside0 (Below w.heap.size w wc))
  case first =>
    have H := HC7.out
    clear HC7
    replace H := Option.bind_eq_some_iff.mp H
    obtain ⟨t282, A90, H⟩ := H
    replace H : (if t282 = true then ((slotmeshref21_Valid.f k l0).bind fun t283 => (slotmeshlaw21_DownValid.j0 k l0 a1 a2 l3 a4 t281 (!t283))) else (slotmeshlaw21_DownValid.j0 k l0 a1 a2 l3 a4 t281 true)) = some r := H
    have A9 := Aside0.mk A90
    clear A90
    by_cases c10 : t282 = true
    · subst c10
      have H1 : ((slotmeshref21_Valid.f k l0).bind fun t283 => (slotmeshlaw21_DownValid.j0 k l0 a1 a2 l3 a4 t281 (!t283))) = some r := by rw [if_pos rfl] at H; exact H
      clear H
      have H := H1
      clear H1
      replace H := Option.bind_eq_some_iff.mp H
      obtain ⟨t283, A110, H⟩ := H
      replace H : (slotmeshlaw21_DownValid.j0 k l0 a1 a2 l3 a4 t281 (!t283)) = some r := H
      have A11 := Aside0.mk A110
      clear A110
      have H' := Aside0.mk H
      clear H
      go_wp2_with (first | ((with_reducible refine gate_callee (f := 11) rfl ?_); refine goesL_ (some 21) rfl rfl Try.func11 (by kernel_rfl) rfl #[.slice A0 l0.length c0, .slice A3 l3.length c3] rfl (by (try simp only [List.map_toArray, List.map_cons, List.map_nil]); first | done | rfl | (simp only [List.length_drop, List.length_take]; rfl)) ?_; (with_reducible refine (slotmeshlaw21_short.calls _ _ l0 _ _ l3 true _ ?side1 ?side2 ?side3 ?side4 A9.out).mono ?_); (case side1 => repeat (first | exact (Kd.C_below HR0.out HB.out) | (with_reducible refine Kd.C_alloc ?_ _) | (with_reducible refine Kd.C_drewN ?_ _) | (with_reducible refine Kd.C_drew ?_))); (case side2 => exact HC0.out); (case side3 => repeat (first | exact (Kd.C_below HR3.out HB.out) | (with_reducible refine Kd.C_alloc ?_ _) | (with_reducible refine Kd.C_drewN ?_ _) | (with_reducible refine Kd.C_drew ?_))); (case side4 => exact HC3.out); rintro e w' ⟨rfl, ⟨nd, rfl⟩⟩; refine ⟨_, rfl, ?_⟩) | (go_at_call 21; (with_reducible refine (slotmeshref21_Valid.calls k _ _ l0 t283 _ ?side1 ?side2 A11.out).mono ?_); (case side1 => repeat (first | exact (Kd.C_below HR0.out (by repeat (first | (with_reducible first | exact HB.out | apply below_alloc | apply pw_below_drewN | apply below_drew1) | exact HB.out))) | (with_reducible refine Kd.C_alloc ?_ _) | (with_reducible refine Kd.C_drewN ?_ _) | (with_reducible refine Kd.C_drew ?_))); (case side2 => exact HC0.out); rintro e w12 ⟨rfl, hb⟩; have n0_ := Aside0.mk (below_step (by repeat (first | (with_reducible first | exact HB.out | apply below_alloc | apply pw_below_drewN | apply below_drew1) | exact HB.out)) hb); clear HB; have HB := n0_; clear n0_; (try clear hb); (try clear hb2); (try clear hk); (try clear hi)))
      go_meet
      case rel => exact ⟨_, (!t283), (by first | rfl | (simp; done) | (simp [*]; done)), H', ⟨by first | omega | exact Nat.le_refl _⟩, ⟨by repeat (first | (with_reducible first | exact HB.out | apply below_alloc | apply pw_below_drewN | apply below_drew1) | exact HB.out)⟩⟩
    · replace c10 := Bool.eq_false_iff.mpr c10
      subst c10
      have H1 : (slotmeshlaw21_DownValid.j0 k l0 a1 a2 l3 a4 t281 true) = some r := by rw [if_neg (show ¬ (false = true) by decide)] at H; exact H
      clear H
      have H := H1
      clear H1
      have H' := Aside0.mk H
      clear H
      go_wp2_with (first | ((with_reducible refine gate_callee (f := 11) rfl ?_); refine goesL_ (some 21) rfl rfl Try.func11 (by kernel_rfl) rfl #[.slice A0 l0.length c0, .slice A3 l3.length c3] rfl (by (try simp only [List.map_toArray, List.map_cons, List.map_nil]); first | done | rfl | (simp only [List.length_drop, List.length_take]; rfl)) ?_; (with_reducible refine (slotmeshlaw21_short.calls _ _ l0 _ _ l3 false _ ?side1 ?side2 ?side3 ?side4 A9.out).mono ?_); (case side1 => repeat (first | exact (Kd.C_below HR0.out HB.out) | (with_reducible refine Kd.C_alloc ?_ _) | (with_reducible refine Kd.C_drewN ?_ _) | (with_reducible refine Kd.C_drew ?_))); (case side2 => exact HC0.out); (case side3 => repeat (first | exact (Kd.C_below HR3.out HB.out) | (with_reducible refine Kd.C_alloc ?_ _) | (with_reducible refine Kd.C_drewN ?_ _) | (with_reducible refine Kd.C_drew ?_))); (case side4 => exact HC3.out); rintro e w' ⟨rfl, ⟨nd, rfl⟩⟩; refine ⟨_, rfl, ?_⟩))
      go_meet
      case rel => exact ⟨_, (true), (by first | rfl | (simp; done) | (simp [*]; done)), H', ⟨by first | omega | exact Nat.le_refl _⟩, ⟨by repeat (first | (with_reducible first | exact HB.out | apply below_alloc | apply pw_below_drewN | apply below_drew1) | exact HB.out)⟩⟩
  case rest =>
    clear HC7
    try clear c1
    try clear p2
    try clear c3
    try clear c4
    try clear c10
    try clear c11
    obtain ⟨kq, x27_6, rfl, HA, HJ6, HB⟩ := hcut
    cases kq with
    | zero => exact absurd HA.out (by simp [slotmeshlaw21_DownValid.j0])
    | succ kj6 =>
      have H := HA.out
      clear HA
      simp only [slotmeshlaw21_DownValid.j0] at H
      by_cases c13 : x27_6 = true
      · subst c13
        have H1 : (some t281) = some r := by rw [if_pos rfl] at H; exact H
        clear H
        have H := H1
        clear H1
        obtain rfl := Option.some.inj H
        go_wp2
        go_ret
        exact ⟨by first | rfl | (simp [errW_none, errW_some] <;> rfl) | (simp [*, errW_none, errW_some] <;> rfl), by repeat (first | (with_reducible first | exact HB.out | apply below_alloc | apply pw_below_drewN | apply below_drew1) | exact HB.out)⟩
      · replace c13 := Bool.eq_false_iff.mpr c13
        subst c13
        have H1 : ((down_Learn.f kj6 l0 a1 a2 l3 a4).bind fun bt284 => (if bt284.2 = 0 then (slotmeshlaw21_DownValid.l0 kj6 l0 a1 l3 t281 bt284.1 l0 (l0.length : Int) 0) else (if t281 = true then (some ((bt284.1.length : Int) == 0)) else (some false)))) = some r := by rw [if_neg (show ¬ (false = true) by decide)] at H; exact H
        clear H
        have H := H1
        clear H1
        replace H := Option.bind_eq_some_iff.mp H
        obtain ⟨⟨t284, t285⟩, A140, H⟩ := H
        replace H : (if t285 = 0 then (slotmeshlaw21_DownValid.l0 kj6 l0 a1 l3 t281 t284 l0 (l0.length : Int) 0) else (if t281 = true then (some ((t284.length : Int) == 0)) else (some false))) = some r := H
        have A14 := Aside0.mk A140
        clear A140
        by_cases c15 : t285 = 0
        · rw [if_pos c15] at H
          have c15b0 : (t285 == 0) = true := beq_iff_eq.mpr c15
          have c15b1 : (t285 != 0) = false := bne_eq_false_iff_eq.mpr c15
          clear c15
          have H' := Aside0.mk H
          clear H
          go_wp2_with (first | ((with_reducible refine gate_callee (f := 12) rfl ?_); refine goesL_ (some 35) rfl rfl Try.func12 (by kernel_rfl) rfl #[.slice A0 l0.length c0, .int .i64 a1, .int .i64 a2, .slice A3 l3.length c3, .int .i64 a4] rfl (by (try simp only [List.map_toArray, List.map_cons, List.map_nil]); first | done | rfl | (simp only [List.length_drop, List.length_take]; rfl)) ?_; (with_reducible refine (down_Learn.calls kj6 _ _ l0 a1 a2 _ _ l3 a4 t284 t285 _ ?side1 ?side2 ?side3 ?side4 A14.out).mono ?_); (case side1 => repeat (first | exact (Kd.C_below HR0.out HB.out) | (with_reducible refine Kd.C_alloc ?_ _) | (with_reducible refine Kd.C_drewN ?_ _) | (with_reducible refine Kd.C_drew ?_))); (case side2 => exact HC0.out); (case side3 => repeat (first | exact (Kd.C_below HR3.out HB.out) | (with_reducible refine Kd.C_alloc ?_ _) | (with_reducible refine Kd.C_drewN ?_ _) | (with_reducible refine Kd.C_drew ?_))); (case side4 => exact HC3.out); rintro e w16 ⟨v286, rfl, ho0, hb⟩; refine ⟨_, rfl, ?_⟩; have n0_ := Aside0.mk (Kd.R_lower ho0 (below_size (by repeat (first | (with_reducible first | exact HB.out | apply below_alloc | apply pw_below_drewN | apply below_drew1) | exact HB.out)))); have n1_ := Aside0.mk (below_step (by repeat (first | (with_reducible first | exact HB.out | apply below_alloc | apply pw_below_drewN | apply below_drew1) | exact HB.out)) hb); clear HB; have HO287 := n0_; have HB := n1_; clear n0_ n1_; (try clear hb); (try clear hb2); (try clear hk); (try clear hi); (try clear ho0)))
          go_loopg [48] kj6 (fun kq v48 w' => ∃ (x48_2 : Int), v48 = .int .i64 x48_2 ∧ Aside0 (slotmeshlaw21_DownValid.l0 kq l0 a1 l3 t281 t284 l0 (l0.length : Int) x48_2 = some r) ∧ Aside0 (kq ≤ kj6) ∧ Aside0 (Kd.R k35 35 w' w.heap.size (fun _ => True) v286 t284) ∧ Aside0 (Below w.heap.size w w'))
          case atStart => exact ⟨(0), (by first | rfl | (simp; done) | (simp [*]; done)), H', ⟨Nat.le_refl _⟩, ⟨by (with_reducible repeat (first | apply Kd.R_alloc | apply Kd.R_drewN | apply Kd.R_drew)); exact HO287.out⟩, ⟨by repeat (first | (with_reducible first | exact HB.out | apply below_alloc | apply pw_below_drewN | apply below_drew1) | exact HB.out)⟩⟩
          case round =>
            clear H'
            try clear c1
            try clear p2
            try clear c3
            try clear c4
            try clear c10
            try clear c11
            try clear c12
            try clear c13
            try clear c15
            try clear c15b0
            try clear c15b1
            try clear p2
            obtain ⟨x48_2, rfl, HA, HK2, HO_12, HB⟩ := hrel
            cases gk with
            | zero => exact absurd HA.out (by simp [slotmeshlaw21_DownValid.l0])
            | succ k2 =>
              have H := HA.out
              clear HA
              simp only [slotmeshlaw21_DownValid.l0] at H
              by_cases c17 : x48_2 < (l0.length : Int)
              · rw [if_pos c17] at H
                have c17b0 : decide (x48_2 < (l0.length : Int)) = true := decide_eq_true c17
                clear c17
                by_cases c18 : 0 ≤ x48_2
                · rw [if_pos c18] at H
                  have c18b0 : decide (0 ≤ x48_2) = true := decide_eq_true c18
                  clear c18
                  by_cases c19 : x48_2 < (l0.length : Int)
                  · rw [if_pos c19] at H
                    have c19b0 : decide (x48_2 < (l0.length : Int)) = true := decide_eq_true c19
                    clear c19
                    replace H := Option.bind_eq_some_iff.mp H
                    obtain ⟨t290, A200, H⟩ := H
                    replace H : (if t290 < 0 then (some false) else (slotmeshlaw21_DownValid.l0 k2 l0 a1 l3 t281 t284 l0 (l0.length : Int) (wrap64 (x48_2 + 1)))) = some r := H
                    have A20 := Aside0.mk A200
                    clear A200
                    by_cases c21 : t290 < 0
                    · rw [if_pos c21] at H
                      have c21b0 : decide (t290 < 0) = true := decide_eq_true c21
                      clear c21
                      exact absurd (Option.some.inj H) (by rw [HRT.out]; decide)
                    · rw [if_neg c21] at H
                      have c21b0 : decide (t290 < 0) = false := decide_eq_false c21
                      clear c21
                      have H' := Aside0.mk H
                      clear H
                      have p288 : 0 ≤ (x48_2 : Int) := of_decide_eq_true (by first | (with_reducible assumption) | assumption)
                      have q288 : x48_2 < (l0.length : Int) := of_decide_eq_true (by first | (with_reducible assumption) | assumption)
                      obtain ⟨ad288, e288, hx288_0, hx288_1, hx288_2, hx288_3⟩ := at_T35 HR0.out x48_2 p288 q288
                      cases e288
                      replace hx288_0 := (HB.out.cell (World.block_lt_of_cell? w _ hx288_0)).trans hx288_0
                      replace hx288_1 := (HB.out.cell (World.block_lt_of_cell? w _ hx288_1)).trans hx288_1
                      replace hx288_2 := (HB.out.cell (World.block_lt_of_cell? w _ hx288_2)).trans hx288_2
                      replace hx288_3 := (HB.out.cell (World.block_lt_of_cell? w _ hx288_3)).trans hx288_3
                      replace p288 := eq_true p288
                      replace q288 := eq_true q288
                      go_wp2_with (first | ((with_reducible refine gate_dst (N := 15) rfl ?_); (try (refine gate_guard (by rfl) ?_; dsimp only)); refine box_event ?hg (N := 15) ?hd (cs := #[.int .i64 0, .int .i64 0, .int .i64 0, .int .i64 0]) (t := 35) ?hr ?_; (case hd => rfl); (case hg => rfl); (case hr => first | (go_simp; done) | (go_simp; rfl)); intro gb289 hg w22 hbox hb; have n0_ := Aside0.mk (Kd.R_below (Kd.R_elderB (by (with_reducible repeat (first | apply Kd.R_alloc | apply Kd.R_drewN | apply Kd.R_drew)); exact HO_12.out) gb289 (Nat.le_of_eq hg.symm)) hb); have n1_ := Aside0.mk (below_step (by repeat (first | (with_reducible first | exact HB.out | apply below_alloc | apply pw_below_drewN | apply below_drew1) | exact HB.out)) hb); have n2_ := Aside0.mk (hbox); have n3_ := Aside0.mk ((by rw [hg]; exact (below_size (by repeat (first | (with_reducible first | exact HB.out | apply below_alloc | apply pw_below_drewN | apply below_drew1) | exact HB.out))) : w.heap.size ≤ gb289)); have n4_ := Aside0.mk ((by rw [hg]; exact (below_size (by repeat (first | (with_reducible first | exact HB.out | apply below_alloc | apply pw_below_drewN | apply below_drew1) | exact HB.out))) : w.heap.size ≤ gb289)); clear HO_12; clear HB; have HO_12 := n0_; have HB := n1_; have BK289 := n2_; have GW289 := n3_; have GE289 := n4_; clear n0_ n1_ n2_ n3_ n4_; clear hb hbox hg; have hcz23_0 : w22.cell? ⟨gb289, 0, none⟩ = some (.int .i64 0) := (blk_cell BK289.out 0).trans rfl; have hcz23_1 : w22.cell? ⟨gb289, 1, none⟩ = some (.int .i64 0) := (blk_cell BK289.out 1).trans rfl; have hcz23_2 : w22.cell? ⟨gb289, 2, none⟩ = some (.int .i64 0) := (blk_cell BK289.out 2).trans rfl; have hcz23_3 : w22.cell? ⟨gb289, 3, none⟩ = some (.int .i64 0) := (blk_cell BK289.out 3).trans rfl; have hfz23_0 := blk_frozen BK289.out 0; have hfz23_1 := blk_frozen BK289.out 1; have hfz23_2 := blk_frozen BK289.out 2; have hfz23_3 := blk_frozen BK289.out 3; obtain ⟨Ao24, co24, eo24⟩ := Kd.R_slice HO_12.out; subst eo24) | ((with_reducible refine gate_callee (f := 22) rfl ?_); refine goesL_ (some 55) rfl rfl Try.func22 (by kernel_rfl) rfl #[.slice Ao24 t284.length co24, .int .i64 ((rd_T35 l0 x48_2).f0)] rfl (by (try simp only [List.map_toArray, List.map_cons, List.map_nil]); first | done | rfl | (simp only [List.length_drop, List.length_take]; rfl)) ?_; (with_reducible refine (slotmeshref21_Find.calls k2 _ _ t284 ((rd_T35 l0 x48_2).f0) t290 _ ?side1 ?side2 A20.out).mono ?_); (case side1 => refine (Kd.R_reads' (e := 35) (base := w.heap.size) (ok := fun k_ => (True ∧ k_ ≠ gb289)) (n := t284.length) (c := co24) ?_).2.2; exact (by (with_reducible repeat (first | apply Kd.R_alloc | apply Kd.R_drewN | apply Kd.R_drew)); exact (Kd.R_mono (Kd.R_far (p := ⟨gb289, 3, none⟩) (Kd.R_far (p := ⟨gb289, 2, none⟩) (Kd.R_far (p := ⟨gb289, 1, none⟩) (Kd.R_far (p := ⟨gb289, 0, none⟩) (Kd.R_mono HO_12.out (fun k_ hk => (⟨hk, hk.2⟩ : _ ∧ k_ ≠ gb289))) (fun _ hk => hk.2) (.int .i64 ((rd_T35 l0 x48_2).f0))) (fun _ hk => hk.2) (.int .i64 ((rd_T35 l0 x48_2).f1))) (fun _ hk => hk.2) (.int .i64 ((rd_T35 l0 x48_2).f2))) (fun _ hk => hk.2) (.int .i64 ((rd_T35 l0 x48_2).f3))) (fun _ h_ => h_.1)))); (case side2 => exact (Kd.R_reads' HO_12.out).2.1); rintro e w' ⟨rfl, ⟨nd, rfl⟩⟩; refine ⟨_, rfl, ?_⟩))
                      go_roundg k2
                      case measure => have := HJ6.out; have := HK2.out; omega
                      case rel => exact ⟨(wrap64 (x48_2 + 1)), (by first | rfl | (simp; done) | (simp [*]; done)), H', ⟨by have := HJ6.out; have := HK2.out; omega⟩, ⟨by (with_reducible repeat (first | apply Kd.R_alloc | apply Kd.R_drewN | apply Kd.R_drew)); exact Kd.R_mono (Kd.R_far (p := ⟨gb289, 3, none⟩) (Kd.R_far (p := ⟨gb289, 2, none⟩) (Kd.R_far (p := ⟨gb289, 1, none⟩) (Kd.R_far (p := ⟨gb289, 0, none⟩) (Kd.R_mono HO_12.out (fun k_ hk => (⟨hk, hk.2⟩ : _ ∧ k_ ≠ gb289))) (fun _ hk => hk.2) (.int .i64 ((rd_T35 l0 x48_2).f0))) (fun _ hk => hk.2) (.int .i64 ((rd_T35 l0 x48_2).f1))) (fun _ hk => hk.2) (.int .i64 ((rd_T35 l0 x48_2).f2))) (fun _ hk => hk.2) (.int .i64 ((rd_T35 l0 x48_2).f3))) (fun _ hk => trivial)⟩, ⟨by repeat (first | (with_reducible first | exact HB.out | apply below_alloc | apply pw_below_drewN | apply below_drew1 | refine below_set ?_ GE289.out) | exact HB.out)⟩⟩
                  · rw [if_neg c19] at H
                    exact absurd H (by simp)
                · rw [if_neg c18] at H
                  exact absurd H (by simp)
              · rw [if_neg c17] at H
                have c17b0 : decide (x48_2 < (l0.length : Int)) = false := decide_eq_false c17
                clear c17
                have H' := Aside0.mk H
                clear H
                obtain ⟨Ao25, co25, eo25⟩ := Kd.R_slice HO_12.out
                subst eo25
                go_wp2
                go_loopg [60] k2 (fun kq v60 w' => ∃ (x60_3 : Int), v60 = .int .i64 x60_3 ∧ Aside0 (slotmeshlaw21_DownValid.l1 kq l0 a1 l3 t281 t284 t284 (t284.length : Int) x60_3 = some r) ∧ Aside0 (kq ≤ k2) ∧ Aside0 (Kd.R k35 35 w' w.heap.size (fun _ => True) (.slice Ao25 t284.length co25) t284) ∧ Aside0 (Kd.R k35 35 w' w.heap.size (fun _ => True) (.slice Ao25 t284.length co25) t284) ∧ Aside0 (Below w.heap.size w w'))
                case atStart => exact ⟨(0), (by first | rfl | (simp; done) | (simp [*]; done)), H', ⟨Nat.le_refl _⟩, ⟨by (with_reducible repeat (first | apply Kd.R_alloc | apply Kd.R_drewN | apply Kd.R_drew)); exact HO_12.out⟩, ⟨by (with_reducible repeat (first | apply Kd.R_alloc | apply Kd.R_drewN | apply Kd.R_drew)); exact HO_12.out⟩, ⟨by repeat (first | (with_reducible first | exact HB.out | apply below_alloc | apply pw_below_drewN | apply below_drew1) | exact HB.out)⟩⟩
                case round =>
                  clear H'
                  try clear c1
                  try clear c2
                  try clear p2
                  try clear q2
                  try clear hx2
                  try clear c3
                  try clear c4
                  try clear p6
                  try clear c10
                  try clear c11
                  try clear c12
                  try clear c13
                  try clear c15
                  try clear c15b0
                  try clear c15b1
                  try clear c17
                  try clear c17b0
                  try clear c18
                  try clear c18b0
                  try clear c19
                  try clear c19b0
                  try clear c21
                  try clear c21b0
                  try clear c22
                  try clear hcz23_0
                  try clear hcz23_1
                  try clear hcz23_2
                  try clear hcz23_3
                  try clear hfz23_0
                  try clear hfz23_1
                  try clear hfz23_2
                  try clear hfz23_3
                  try clear hx288_0
                  try clear hx288_1
                  try clear hx288_2
                  try clear hx288_3
                  try clear p2
                  try clear p288
                  try clear q288
                  obtain ⟨x60_3, rfl, HA, HK3, HO_12, HO_58, HB⟩ := hrel
                  cases gk with
                  | zero => exact absurd HA.out (by simp [slotmeshlaw21_DownValid.l1])
                  | succ k3 =>
                    have H := HA.out
                    clear HA
                    simp only [slotmeshlaw21_DownValid.l1] at H
                    by_cases c26 : x60_3 < (t284.length : Int)
                    · rw [if_pos c26] at H
                      have c26b0 : decide (x60_3 < (t284.length : Int)) = true := decide_eq_true c26
                      clear c26
                      by_cases c27 : 0 ≤ x60_3
                      · rw [if_pos c27] at H
                        have c27b0 : decide (0 ≤ x60_3) = true := decide_eq_true c27
                        clear c27
                        by_cases c28 : x60_3 < (t284.length : Int)
                        · rw [if_pos c28] at H
                          have c28b0 : decide (x60_3 < (t284.length : Int)) = true := decide_eq_true c28
                          clear c28
                          replace H := Option.bind_eq_some_iff.mp H
                          obtain ⟨t295, A290, H⟩ := H
                          replace H : (if t295 < 0 then (if ((rd_T35 t284 x60_3).f0) = a1 then (slotmeshlaw21_DownValid.l1 k3 l0 a1 l3 t281 t284 t284 (t284.length : Int) (wrap64 (x60_3 + 1))) else ((slotmeshref21_Find.f k3 l3 ((rd_T35 t284 x60_3).f0)).bind fun t296 => (if t296 < 0 then (some false) else (slotmeshlaw21_DownValid.l1 k3 l0 a1 l3 t281 t284 t284 (t284.length : Int) (wrap64 (x60_3 + 1)))))) else (slotmeshlaw21_DownValid.l1 k3 l0 a1 l3 t281 t284 t284 (t284.length : Int) (wrap64 (x60_3 + 1)))) = some r := H
                          have A29 := Aside0.mk A290
                          clear A290
                          by_cases c30 : t295 < 0
                          · rw [if_pos c30] at H
                            have c30b0 : decide (t295 < 0) = true := decide_eq_true c30
                            clear c30
                            by_cases c31 : ((rd_T35 t284 x60_3).f0) = a1
                            · rw [if_pos c31] at H
                              have c31b0 : (((rd_T35 t284 x60_3).f0) == a1) = true := beq_iff_eq.mpr c31
                              have c31b1 : (((rd_T35 t284 x60_3).f0) != a1) = false := bne_eq_false_iff_eq.mpr c31
                              clear c31
                              have H' := Aside0.mk H
                              clear H
                              have p293 : 0 ≤ (x60_3 : Int) := of_decide_eq_true (by first | (with_reducible assumption) | assumption)
                              have q293 : x60_3 < (t284.length : Int) := of_decide_eq_true (by first | (with_reducible assumption) | assumption)
                              obtain ⟨ad293, e293, hx293_0, hx293_1, hx293_2, hx293_3⟩ := at_T35 (Kd.R_reads' HO_58.out).2.2 x60_3 p293 q293
                              cases e293
                              replace p293 := eq_true p293
                              replace q293 := eq_true q293
                              go_wp2_with (first | ((with_reducible refine gate_dst (N := 17) rfl ?_); (try (refine gate_guard (by rfl) ?_; dsimp only)); refine box_event ?hg (N := 17) ?hd (cs := #[.int .i64 0, .int .i64 0, .int .i64 0, .int .i64 0]) (t := 35) ?hr ?_; (case hd => rfl); (case hg => rfl); (case hr => first | (go_simp; done) | (go_simp; rfl)); intro gb294 hg w32 hbox hb; have n0_ := Aside0.mk (Kd.R_below (Kd.R_elderB (by (with_reducible repeat (first | apply Kd.R_alloc | apply Kd.R_drewN | apply Kd.R_drew)); exact HO_12.out) gb294 (Nat.le_of_eq hg.symm)) hb); have n1_ := Aside0.mk (Kd.R_below (Kd.R_elderB (by (with_reducible repeat (first | apply Kd.R_alloc | apply Kd.R_drewN | apply Kd.R_drew)); exact HO_58.out) gb294 (Nat.le_of_eq hg.symm)) hb); have n2_ := Aside0.mk (below_step (by repeat (first | (with_reducible first | exact HB.out | apply below_alloc | apply pw_below_drewN | apply below_drew1) | exact HB.out)) hb); have n3_ := Aside0.mk (hbox); have n4_ := Aside0.mk ((by rw [hg]; exact (below_size (by repeat (first | (with_reducible first | exact HB.out | apply below_alloc | apply pw_below_drewN | apply below_drew1) | exact HB.out))) : w.heap.size ≤ gb294)); have n5_ := Aside0.mk ((by rw [hg]; exact (below_size (by repeat (first | (with_reducible first | exact HB.out | apply below_alloc | apply pw_below_drewN | apply below_drew1) | exact HB.out))) : w.heap.size ≤ gb294)); clear HO_12; clear HO_58; clear HB; have HO_12 := n0_; have HO_58 := n1_; have HB := n2_; have BK294 := n3_; have GW294 := n4_; have GE294 := n5_; clear n0_ n1_ n2_ n3_ n4_ n5_; clear hb hbox hg; have hcz33_0 : w32.cell? ⟨gb294, 0, none⟩ = some (.int .i64 0) := (blk_cell BK294.out 0).trans rfl; have hcz33_1 : w32.cell? ⟨gb294, 1, none⟩ = some (.int .i64 0) := (blk_cell BK294.out 1).trans rfl; have hcz33_2 : w32.cell? ⟨gb294, 2, none⟩ = some (.int .i64 0) := (blk_cell BK294.out 2).trans rfl; have hcz33_3 : w32.cell? ⟨gb294, 3, none⟩ = some (.int .i64 0) := (blk_cell BK294.out 3).trans rfl; have hfz33_0 := blk_frozen BK294.out 0; have hfz33_1 := blk_frozen BK294.out 1; have hfz33_2 := blk_frozen BK294.out 2; have hfz33_3 := blk_frozen BK294.out 3) | ((with_reducible refine gate_callee (f := 22) rfl ?_); refine goesL_ (some 67) rfl rfl Try.func22 (by kernel_rfl) rfl #[.slice A0 l0.length c0, .int .i64 ((rd_T35 t284 x60_3).f0)] rfl (by (try simp only [List.map_toArray, List.map_cons, List.map_nil]); first | done | rfl | (simp only [List.length_drop, List.length_take]; rfl)) ?_; (with_reducible refine (slotmeshref21_Find.calls k3 _ _ l0 ((rd_T35 t284 x60_3).f0) t295 _ ?side1 ?side2 A29.out).mono ?_); (case side1 => exact Kd.C_below HR0.out (by repeat (first | (with_reducible first | exact HB.out | apply below_alloc | apply pw_below_drewN | apply below_drew1 | refine below_set ?_ GE294.out) | exact HB.out))); (case side2 => exact HC0.out); rintro e w' ⟨rfl, ⟨nd, rfl⟩⟩; refine ⟨_, rfl, ?_⟩))
                              go_roundg k3
                              case measure => have := HJ6.out; have := HK2.out; have := HK3.out; omega
                              case rel => exact ⟨(wrap64 (x60_3 + 1)), (by first | rfl | (simp; done) | (simp [*]; done)), H', ⟨by have := HJ6.out; have := HK2.out; have := HK3.out; omega⟩, ⟨by (with_reducible repeat (first | apply Kd.R_alloc | apply Kd.R_drewN | apply Kd.R_drew)); exact Kd.R_mono (Kd.R_far (p := ⟨gb294, 3, none⟩) (Kd.R_far (p := ⟨gb294, 2, none⟩) (Kd.R_far (p := ⟨gb294, 1, none⟩) (Kd.R_far (p := ⟨gb294, 0, none⟩) (Kd.R_mono HO_12.out (fun k_ hk => (⟨hk, hk.2⟩ : _ ∧ k_ ≠ gb294))) (fun _ hk => hk.2) (.int .i64 ((rd_T35 t284 x60_3).f0))) (fun _ hk => hk.2) (.int .i64 ((rd_T35 t284 x60_3).f1))) (fun _ hk => hk.2) (.int .i64 ((rd_T35 t284 x60_3).f2))) (fun _ hk => hk.2) (.int .i64 ((rd_T35 t284 x60_3).f3))) (fun _ hk => trivial)⟩, ⟨by (with_reducible repeat (first | apply Kd.R_alloc | apply Kd.R_drewN | apply Kd.R_drew)); exact Kd.R_mono (Kd.R_far (p := ⟨gb294, 3, none⟩) (Kd.R_far (p := ⟨gb294, 2, none⟩) (Kd.R_far (p := ⟨gb294, 1, none⟩) (Kd.R_far (p := ⟨gb294, 0, none⟩) (Kd.R_mono HO_58.out (fun k_ hk => (⟨hk, hk.2⟩ : _ ∧ k_ ≠ gb294))) (fun _ hk => hk.2) (.int .i64 ((rd_T35 t284 x60_3).f0))) (fun _ hk => hk.2) (.int .i64 ((rd_T35 t284 x60_3).f1))) (fun _ hk => hk.2) (.int .i64 ((rd_T35 t284 x60_3).f2))) (fun _ hk => hk.2) (.int .i64 ((rd_T35 t284 x60_3).f3))) (fun _ hk => trivial)⟩, ⟨by repeat (first | (with_reducible first | exact HB.out | apply below_alloc | apply pw_below_drewN | apply below_drew1 | refine below_set ?_ GE294.out) | exact HB.out)⟩⟩
                            · rw [if_neg c31] at H
                              have c31b0 : (((rd_T35 t284 x60_3).f0) == a1) = false := beq_eq_false_iff_ne.mpr c31
                              have c31b1 : (((rd_T35 t284 x60_3).f0) != a1) = true := bne_iff_ne.mpr c31
                              replace H := Option.bind_eq_some_iff.mp H
                              obtain ⟨t296, A340, H⟩ := H
                              replace H : (if t296 < 0 then (some false) else (slotmeshlaw21_DownValid.l1 k3 l0 a1 l3 t281 t284 t284 (t284.length : Int) (wrap64 (x60_3 + 1)))) = some r := H
                              have A34 := Aside0.mk A340
                              clear A340
                              by_cases c35 : t296 < 0
                              · rw [if_pos c35] at H
                                have c35b0 : decide (t296 < 0) = true := decide_eq_true c35
                                clear c35
                                exact absurd (Option.some.inj H) (by rw [HRT.out]; decide)
                              · rw [if_neg c35] at H
                                have c35b0 : decide (t296 < 0) = false := decide_eq_false c35
                                clear c35
                                have H' := Aside0.mk H
                                clear H
                                have p293 : 0 ≤ (x60_3 : Int) := of_decide_eq_true (by first | (with_reducible assumption) | assumption)
                                have q293 : x60_3 < (t284.length : Int) := of_decide_eq_true (by first | (with_reducible assumption) | assumption)
                                obtain ⟨ad293, e293, hx293_0, hx293_1, hx293_2, hx293_3⟩ := at_T35 (Kd.R_reads' HO_58.out).2.2 x60_3 p293 q293
                                cases e293
                                replace p293 := eq_true p293
                                replace q293 := eq_true q293
                                go_wp2_with (first | ((with_reducible refine gate_dst (N := 17) rfl ?_); (try (refine gate_guard (by rfl) ?_; dsimp only)); refine box_event ?hg (N := 17) ?hd (cs := #[.int .i64 0, .int .i64 0, .int .i64 0, .int .i64 0]) (t := 35) ?hr ?_; (case hd => rfl); (case hg => rfl); (case hr => first | (go_simp; done) | (go_simp; rfl)); intro gb294 hg w36 hbox hb; have n0_ := Aside0.mk (Kd.R_below (Kd.R_elderB (by (with_reducible repeat (first | apply Kd.R_alloc | apply Kd.R_drewN | apply Kd.R_drew)); exact HO_12.out) gb294 (Nat.le_of_eq hg.symm)) hb); have n1_ := Aside0.mk (Kd.R_below (Kd.R_elderB (by (with_reducible repeat (first | apply Kd.R_alloc | apply Kd.R_drewN | apply Kd.R_drew)); exact HO_58.out) gb294 (Nat.le_of_eq hg.symm)) hb); have n2_ := Aside0.mk (below_step (by repeat (first | (with_reducible first | exact HB.out | apply below_alloc | apply pw_below_drewN | apply below_drew1) | exact HB.out)) hb); have n3_ := Aside0.mk (hbox); have n4_ := Aside0.mk ((by rw [hg]; exact (below_size (by repeat (first | (with_reducible first | exact HB.out | apply below_alloc | apply pw_below_drewN | apply below_drew1) | exact HB.out))) : w.heap.size ≤ gb294)); have n5_ := Aside0.mk ((by rw [hg]; exact (below_size (by repeat (first | (with_reducible first | exact HB.out | apply below_alloc | apply pw_below_drewN | apply below_drew1) | exact HB.out))) : w.heap.size ≤ gb294)); clear HO_12; clear HO_58; clear HB; have HO_12 := n0_; have HO_58 := n1_; have HB := n2_; have BK294 := n3_; have GW294 := n4_; have GE294 := n5_; clear n0_ n1_ n2_ n3_ n4_ n5_; clear hb hbox hg; have hcz37_0 : w36.cell? ⟨gb294, 0, none⟩ = some (.int .i64 0) := (blk_cell BK294.out 0).trans rfl; have hcz37_1 : w36.cell? ⟨gb294, 1, none⟩ = some (.int .i64 0) := (blk_cell BK294.out 1).trans rfl; have hcz37_2 : w36.cell? ⟨gb294, 2, none⟩ = some (.int .i64 0) := (blk_cell BK294.out 2).trans rfl; have hcz37_3 : w36.cell? ⟨gb294, 3, none⟩ = some (.int .i64 0) := (blk_cell BK294.out 3).trans rfl; have hfz37_0 := blk_frozen BK294.out 0; have hfz37_1 := blk_frozen BK294.out 1; have hfz37_2 := blk_frozen BK294.out 2; have hfz37_3 := blk_frozen BK294.out 3) | ((with_reducible refine gate_callee (f := 22) rfl ?_); refine goesL_ (some 67) rfl rfl Try.func22 (by kernel_rfl) rfl #[.slice A0 l0.length c0, .int .i64 ((rd_T35 t284 x60_3).f0)] rfl (by (try simp only [List.map_toArray, List.map_cons, List.map_nil]); first | done | rfl | (simp only [List.length_drop, List.length_take]; rfl)) ?_; (with_reducible refine (slotmeshref21_Find.calls k3 _ _ l0 ((rd_T35 t284 x60_3).f0) t295 _ ?side1 ?side2 A29.out).mono ?_); (case side1 => exact Kd.C_below HR0.out (by repeat (first | (with_reducible first | exact HB.out | apply below_alloc | apply pw_below_drewN | apply below_drew1 | refine below_set ?_ GE294.out) | exact HB.out))); (case side2 => exact HC0.out); rintro e w' ⟨rfl, ⟨nd, rfl⟩⟩; refine ⟨_, rfl, ?_⟩) | (go_at_call 22; (with_reducible refine (slotmeshref21_Find.calls k3 _ _ l3 ((rd_T35 t284 x60_3).f0) t296 _ ?side1 ?side2 A34.out).mono ?_); (case side1 => exact Kd.C_below HR3.out (by repeat (first | (with_reducible first | exact HB.out | apply below_alloc | apply pw_below_drewN | apply below_drew1 | refine below_set ?_ GE294.out) | exact HB.out))); (case side2 => exact HC3.out); rintro e w' ⟨rfl, ⟨nd, rfl⟩⟩))
                                go_roundg k3
                                case measure => have := HJ6.out; have := HK2.out; have := HK3.out; omega
                                case rel => exact ⟨(wrap64 (x60_3 + 1)), (by first | rfl | (simp; done) | (simp [*]; done)), H', ⟨by have := HJ6.out; have := HK2.out; have := HK3.out; omega⟩, ⟨by (with_reducible repeat (first | apply Kd.R_alloc | apply Kd.R_drewN | apply Kd.R_drew)); exact Kd.R_mono (Kd.R_far (p := ⟨gb294, 3, none⟩) (Kd.R_far (p := ⟨gb294, 2, none⟩) (Kd.R_far (p := ⟨gb294, 1, none⟩) (Kd.R_far (p := ⟨gb294, 0, none⟩) (Kd.R_mono HO_12.out (fun k_ hk => (⟨hk, hk.2⟩ : _ ∧ k_ ≠ gb294))) (fun _ hk => hk.2) (.int .i64 ((rd_T35 t284 x60_3).f0))) (fun _ hk => hk.2) (.int .i64 ((rd_T35 t284 x60_3).f1))) (fun _ hk => hk.2) (.int .i64 ((rd_T35 t284 x60_3).f2))) (fun _ hk => hk.2) (.int .i64 ((rd_T35 t284 x60_3).f3))) (fun _ hk => trivial)⟩, ⟨by (with_reducible repeat (first | apply Kd.R_alloc | apply Kd.R_drewN | apply Kd.R_drew)); exact Kd.R_mono (Kd.R_far (p := ⟨gb294, 3, none⟩) (Kd.R_far (p := ⟨gb294, 2, none⟩) (Kd.R_far (p := ⟨gb294, 1, none⟩) (Kd.R_far (p := ⟨gb294, 0, none⟩) (Kd.R_mono HO_58.out (fun k_ hk => (⟨hk, hk.2⟩ : _ ∧ k_ ≠ gb294))) (fun _ hk => hk.2) (.int .i64 ((rd_T35 t284 x60_3).f0))) (fun _ hk => hk.2) (.int .i64 ((rd_T35 t284 x60_3).f1))) (fun _ hk => hk.2) (.int .i64 ((rd_T35 t284 x60_3).f2))) (fun _ hk => hk.2) (.int .i64 ((rd_T35 t284 x60_3).f3))) (fun _ hk => trivial)⟩, ⟨by repeat (first | (with_reducible first | exact HB.out | apply below_alloc | apply pw_below_drewN | apply below_drew1 | refine below_set ?_ GE294.out) | exact HB.out)⟩⟩
                          · rw [if_neg c30] at H
                            have c30b0 : decide (t295 < 0) = false := decide_eq_false c30
                            clear c30
                            have H' := Aside0.mk H
                            clear H
                            have p293 : 0 ≤ (x60_3 : Int) := of_decide_eq_true (by first | (with_reducible assumption) | assumption)
                            have q293 : x60_3 < (t284.length : Int) := of_decide_eq_true (by first | (with_reducible assumption) | assumption)
                            obtain ⟨ad293, e293, hx293_0, hx293_1, hx293_2, hx293_3⟩ := at_T35 (Kd.R_reads' HO_58.out).2.2 x60_3 p293 q293
                            cases e293
                            replace p293 := eq_true p293
                            replace q293 := eq_true q293
                            go_wp2_with (first | ((with_reducible refine gate_dst (N := 17) rfl ?_); (try (refine gate_guard (by rfl) ?_; dsimp only)); refine box_event ?hg (N := 17) ?hd (cs := #[.int .i64 0, .int .i64 0, .int .i64 0, .int .i64 0]) (t := 35) ?hr ?_; (case hd => rfl); (case hg => rfl); (case hr => first | (go_simp; done) | (go_simp; rfl)); intro gb294 hg w38 hbox hb; have n0_ := Aside0.mk (Kd.R_below (Kd.R_elderB (by (with_reducible repeat (first | apply Kd.R_alloc | apply Kd.R_drewN | apply Kd.R_drew)); exact HO_12.out) gb294 (Nat.le_of_eq hg.symm)) hb); have n1_ := Aside0.mk (Kd.R_below (Kd.R_elderB (by (with_reducible repeat (first | apply Kd.R_alloc | apply Kd.R_drewN | apply Kd.R_drew)); exact HO_58.out) gb294 (Nat.le_of_eq hg.symm)) hb); have n2_ := Aside0.mk (below_step (by repeat (first | (with_reducible first | exact HB.out | apply below_alloc | apply pw_below_drewN | apply below_drew1) | exact HB.out)) hb); have n3_ := Aside0.mk (hbox); have n4_ := Aside0.mk ((by rw [hg]; exact (below_size (by repeat (first | (with_reducible first | exact HB.out | apply below_alloc | apply pw_below_drewN | apply below_drew1) | exact HB.out))) : w.heap.size ≤ gb294)); have n5_ := Aside0.mk ((by rw [hg]; exact (below_size (by repeat (first | (with_reducible first | exact HB.out | apply below_alloc | apply pw_below_drewN | apply below_drew1) | exact HB.out))) : w.heap.size ≤ gb294)); clear HO_12; clear HO_58; clear HB; have HO_12 := n0_; have HO_58 := n1_; have HB := n2_; have BK294 := n3_; have GW294 := n4_; have GE294 := n5_; clear n0_ n1_ n2_ n3_ n4_ n5_; clear hb hbox hg; have hcz39_0 : w38.cell? ⟨gb294, 0, none⟩ = some (.int .i64 0) := (blk_cell BK294.out 0).trans rfl; have hcz39_1 : w38.cell? ⟨gb294, 1, none⟩ = some (.int .i64 0) := (blk_cell BK294.out 1).trans rfl; have hcz39_2 : w38.cell? ⟨gb294, 2, none⟩ = some (.int .i64 0) := (blk_cell BK294.out 2).trans rfl; have hcz39_3 : w38.cell? ⟨gb294, 3, none⟩ = some (.int .i64 0) := (blk_cell BK294.out 3).trans rfl; have hfz39_0 := blk_frozen BK294.out 0; have hfz39_1 := blk_frozen BK294.out 1; have hfz39_2 := blk_frozen BK294.out 2; have hfz39_3 := blk_frozen BK294.out 3) | ((with_reducible refine gate_callee (f := 22) rfl ?_); refine goesL_ (some 67) rfl rfl Try.func22 (by kernel_rfl) rfl #[.slice A0 l0.length c0, .int .i64 ((rd_T35 t284 x60_3).f0)] rfl (by (try simp only [List.map_toArray, List.map_cons, List.map_nil]); first | done | rfl | (simp only [List.length_drop, List.length_take]; rfl)) ?_; (with_reducible refine (slotmeshref21_Find.calls k3 _ _ l0 ((rd_T35 t284 x60_3).f0) t295 _ ?side1 ?side2 A29.out).mono ?_); (case side1 => exact Kd.C_below HR0.out (by repeat (first | (with_reducible first | exact HB.out | apply below_alloc | apply pw_below_drewN | apply below_drew1 | refine below_set ?_ GE294.out) | exact HB.out))); (case side2 => exact HC0.out); rintro e w' ⟨rfl, ⟨nd, rfl⟩⟩; refine ⟨_, rfl, ?_⟩))
                            go_roundg k3
                            case measure => have := HJ6.out; have := HK2.out; have := HK3.out; omega
                            case rel => exact ⟨(wrap64 (x60_3 + 1)), (by first | rfl | (simp; done) | (simp [*]; done)), H', ⟨by have := HJ6.out; have := HK2.out; have := HK3.out; omega⟩, ⟨by (with_reducible repeat (first | apply Kd.R_alloc | apply Kd.R_drewN | apply Kd.R_drew)); exact Kd.R_mono (Kd.R_far (p := ⟨gb294, 3, none⟩) (Kd.R_far (p := ⟨gb294, 2, none⟩) (Kd.R_far (p := ⟨gb294, 1, none⟩) (Kd.R_far (p := ⟨gb294, 0, none⟩) (Kd.R_mono HO_12.out (fun k_ hk => (⟨hk, hk.2⟩ : _ ∧ k_ ≠ gb294))) (fun _ hk => hk.2) (.int .i64 ((rd_T35 t284 x60_3).f0))) (fun _ hk => hk.2) (.int .i64 ((rd_T35 t284 x60_3).f1))) (fun _ hk => hk.2) (.int .i64 ((rd_T35 t284 x60_3).f2))) (fun _ hk => hk.2) (.int .i64 ((rd_T35 t284 x60_3).f3))) (fun _ hk => trivial)⟩, ⟨by (with_reducible repeat (first | apply Kd.R_alloc | apply Kd.R_drewN | apply Kd.R_drew)); exact Kd.R_mono (Kd.R_far (p := ⟨gb294, 3, none⟩) (Kd.R_far (p := ⟨gb294, 2, none⟩) (Kd.R_far (p := ⟨gb294, 1, none⟩) (Kd.R_far (p := ⟨gb294, 0, none⟩) (Kd.R_mono HO_58.out (fun k_ hk => (⟨hk, hk.2⟩ : _ ∧ k_ ≠ gb294))) (fun _ hk => hk.2) (.int .i64 ((rd_T35 t284 x60_3).f0))) (fun _ hk => hk.2) (.int .i64 ((rd_T35 t284 x60_3).f1))) (fun _ hk => hk.2) (.int .i64 ((rd_T35 t284 x60_3).f2))) (fun _ hk => hk.2) (.int .i64 ((rd_T35 t284 x60_3).f3))) (fun _ hk => trivial)⟩, ⟨by repeat (first | (with_reducible first | exact HB.out | apply below_alloc | apply pw_below_drewN | apply below_drew1 | refine below_set ?_ GE294.out) | exact HB.out)⟩⟩
                        · rw [if_neg c28] at H
                          exact absurd H (by simp)
                      · rw [if_neg c27] at H
                        exact absurd H (by simp)
                    · rw [if_neg c26] at H
                      have c26b0 : decide (x60_3 < (t284.length : Int)) = false := decide_eq_false c26
                      clear c26
                      by_cases c40 : t281 = true
                      · subst c40
                        have H1 : ((slotmeshref21_Valid.f k3 t284).bind fun t291 => (if t291 = true then ((slotmeshref21_Find.f k3 t284 a1).bind fun t292 => (some (decide (t292 ≥ 0)))) else (some false))) = some r := by rw [if_pos rfl] at H; exact H
                        clear H
                        have H := H1
                        clear H1
                        replace H := Option.bind_eq_some_iff.mp H
                        obtain ⟨t291, A410, H⟩ := H
                        replace H : (if t291 = true then ((slotmeshref21_Find.f k3 t284 a1).bind fun t292 => (some (decide (t292 ≥ 0)))) else (some false)) = some r := H
                        have A41 := Aside0.mk A410
                        clear A410
                        by_cases c42 : t291 = true
                        · subst c42
                          have H1 : ((slotmeshref21_Find.f k3 t284 a1).bind fun t292 => (some (decide (t292 ≥ 0)))) = some r := by rw [if_pos rfl] at H; exact H
                          clear H
                          have H := H1
                          clear H1
                          replace H := Option.bind_eq_some_iff.mp H
                          obtain ⟨t292, A430, H⟩ := H
                          replace H : (some (decide (t292 ≥ 0))) = some r := H
                          have A43 := Aside0.mk A430
                          clear A430
                          obtain rfl := Option.some.inj H
                          go_wp2_with (first | (go_at_call 21; (with_reducible refine (slotmeshref21_Valid.calls k3 _ _ t284 true _ ?side1 ?side2 A41.out).mono ?_); (case side1 => repeat (first | exact (Kd.R_reads' HO_12.out).2.2 | (with_reducible refine Kd.C_alloc ?_ _) | (with_reducible refine Kd.C_drewN ?_ _) | (with_reducible refine Kd.C_drew ?_))); (case side2 => exact (Kd.R_reads' HO_12.out).2.1); rintro e w44 ⟨rfl, hb⟩; have n0_ := Aside0.mk (Kd.R_below (by (with_reducible repeat (first | apply Kd.R_alloc | apply Kd.R_drewN | apply Kd.R_drew)); exact HO_12.out) hb); have n1_ := Aside0.mk (Kd.R_below (by (with_reducible repeat (first | apply Kd.R_alloc | apply Kd.R_drewN | apply Kd.R_drew)); exact HO_58.out) hb); have n2_ := Aside0.mk (below_step (by repeat (first | (with_reducible first | exact HB.out | apply below_alloc | apply pw_below_drewN | apply below_drew1) | exact HB.out)) hb); clear HO_12; clear HO_58; clear HB; have HO_12 := n0_; have HO_58 := n1_; have HB := n2_; clear n0_ n1_ n2_; (try clear hb); (try clear hb2); (try clear hk); (try clear hi)) | (go_at_call 22; (with_reducible refine (slotmeshref21_Find.calls k3 _ _ t284 a1 t292 _ ?side1 ?side2 A43.out).mono ?_); (case side1 => repeat (first | exact (Kd.R_reads' HO_12.out).2.2 | (with_reducible refine Kd.C_alloc ?_ _) | (with_reducible refine Kd.C_drewN ?_ _) | (with_reducible refine Kd.C_drew ?_))); (case side2 => exact (Kd.R_reads' HO_12.out).2.1); rintro e w' ⟨rfl, ⟨nd, rfl⟩⟩))
                          go_ret
                          exact ⟨by first | rfl | (simp [errW_none, errW_some] <;> rfl) | (simp [*, errW_none, errW_some] <;> rfl), by repeat (first | (with_reducible first | exact HB.out | apply below_alloc | apply pw_below_drewN | apply below_drew1) | exact HB.out)⟩
                        · replace c42 := Bool.eq_false_iff.mpr c42
                          subst c42
                          have H1 : (some false) = some r := by rw [if_neg (show ¬ (false = true) by decide)] at H; exact H
                          clear H
                          have H := H1
                          clear H1
                          exact absurd (Option.some.inj H) (by rw [HRT.out]; decide)
                      · replace c40 := Bool.eq_false_iff.mpr c40
                        subst c40
                        have H1 : (some false) = some r := by rw [if_neg (show ¬ (false = true) by decide)] at H; exact H
                        clear H
                        have H := H1
                        clear H1
                        exact absurd (Option.some.inj H) (by rw [HRT.out]; decide)
        · rw [if_neg c15] at H
          have c15b0 : (t285 == 0) = false := beq_eq_false_iff_ne.mpr c15
          have c15b1 : (t285 != 0) = true := bne_iff_ne.mpr c15
          by_cases c45 : t281 = true
          · subst c45
            have H1 : (some ((t284.length : Int) == 0)) = some r := by rw [if_pos rfl] at H; exact H
            clear H
            have H := H1
            clear H1
            obtain rfl := Option.some.inj H
            go_wp2_with (first | ((with_reducible refine gate_callee (f := 12) rfl ?_); refine goesL_ (some 35) rfl rfl Try.func12 (by kernel_rfl) rfl #[.slice A0 l0.length c0, .int .i64 a1, .int .i64 a2, .slice A3 l3.length c3, .int .i64 a4] rfl (by (try simp only [List.map_toArray, List.map_cons, List.map_nil]); first | done | rfl | (simp only [List.length_drop, List.length_take]; rfl)) ?_; (with_reducible refine (down_Learn.calls kj6 _ _ l0 a1 a2 _ _ l3 a4 t284 t285 _ ?side1 ?side2 ?side3 ?side4 A14.out).mono ?_); (case side1 => repeat (first | exact (Kd.C_below HR0.out HB.out) | (with_reducible refine Kd.C_alloc ?_ _) | (with_reducible refine Kd.C_drewN ?_ _) | (with_reducible refine Kd.C_drew ?_))); (case side2 => exact HC0.out); (case side3 => repeat (first | exact (Kd.C_below HR3.out HB.out) | (with_reducible refine Kd.C_alloc ?_ _) | (with_reducible refine Kd.C_drewN ?_ _) | (with_reducible refine Kd.C_drew ?_))); (case side4 => exact HC3.out); rintro e w46 ⟨v286, rfl, ho0, hb⟩; refine ⟨_, rfl, ?_⟩; have n0_ := Aside0.mk (Kd.R_lower ho0 (below_size (by repeat (first | (with_reducible first | exact HB.out | apply below_alloc | apply pw_below_drewN | apply below_drew1) | exact HB.out)))); have n1_ := Aside0.mk (below_step (by repeat (first | (with_reducible first | exact HB.out | apply below_alloc | apply pw_below_drewN | apply below_drew1) | exact HB.out)) hb); clear HB; have HO287 := n0_; have HB := n1_; clear n0_ n1_; (try clear hb); (try clear hb2); (try clear hk); (try clear hi); (try clear ho0); obtain ⟨Ao47, co47, eo47⟩ := Kd.R_slice HO287.out; subst eo47))
            go_ret
            exact ⟨by first | rfl | (simp [errW_none, errW_some] <;> rfl) | (simp [*, errW_none, errW_some] <;> rfl), by repeat (first | (with_reducible first | exact HB.out | apply below_alloc | apply pw_below_drewN | apply below_drew1) | exact HB.out)⟩
          · replace c45 := Bool.eq_false_iff.mpr c45
            subst c45
            have H1 : (some false) = some r := by rw [if_neg (show ¬ (false = true) by decide)] at H; exact H
            clear H
            have H := H1
            clear H1
            exact absurd (Option.some.inj H) (by rw [HRT.out]; decide)

end Go.Proofs.Ythobfempjekhdaa.Px
