/- Walks of functions of this seat, written by a program of this workplace out of the translation. -/
import Derived.Test.YthobfempjekhdaaPx0
import Derived.Test.YthobfempjekhdaaPx5
import Derived.Test.YthobfempjekhdaaPx6
namespace Go.Proofs.Ythobfempjekhdaa.Px
open Go.RowKit Go.Proofs.YthobfempjekhdaaW.PrintWords Go.Proofs.YthobfempjekhdaaW.PrintLast Go.Proofs.YthobfempjekhdaaW.PrintMore
attribute [local go_sem] max2_int min2_int max_two min_two max_three min_three max_four min_four   -- for this text's walks alone
set_option linter.unusedVariables false
set_option linter.unusedSimpArgs false

/-! ### slotmeshref21_Learn: function 13 -/
mutual
def slotmeshref21_Learn.j0 : Nat → List (S35) → Int → Int → List (S35) → Int → Bool → Option ((List (S35)) × Int)
  | 0, _, _, _, _, _, _ => none
  | k + 1, x0, x1, x2, x3, x4, x46 => if x46 = true then (some (([] : List (S35)), 1)) else (slotmeshref21_Learn.l0 k x0 x1 x2 x3 x4 ([] : List (S35)) 0)
def slotmeshref21_Learn.l0 : Nat → List (S35) → Int → Int → List (S35) → Int → List (S35) → Int → Option ((List (S35)) × Int)
  | 0, _, _, _, _, _, _, _ => none
  | k + 1, x0, x1, x2, x3, x4, x12, x13 => if x13 < 60 then ((slotmeshref21_Find.f k x0 x13).bind fun t214 => ((slotmeshref21_Find.f k x3 x13).bind fun t215 => (if t215 ≥ 0 then (if 0 ≤ t215 then (if t215 < (x3.length : Int) then (slotmeshref21_Learn.j2 k x0 x1 x2 x3 x4 x12 x13 t214 t215 x13 x1 ((rd_T35 x3 t215).f2) (wrap64 (x4 + 3))) else (none)) else (none)) else (slotmeshref21_Learn.j2 k x0 x1 x2 x3 x4 x12 x13 t214 t215 x13 x1 x2 (wrap64 (x4 + 3)))))) else (some (x12, 0))
def slotmeshref21_Learn.j2 : Nat → List (S35) → Int → Int → List (S35) → Int → List (S35) → Int → Int → Int → Int → Int → Int → Int → Option ((List (S35)) × Int)
  | 0, _, _, _, _, _, _, _, _, _, _, _, _, _ => none
  | k + 1, x0, x1, x2, x3, x4, x12, x13, x14, x15, x217000, x217001, x217002, x217003 => if x15 < 0 then (slotmeshref21_Learn.j3 k x0 x1 x2 x3 x4 x12 x13 x14 (x13 != x1) x217000 x217001 x217002 x217003) else (slotmeshref21_Learn.j3 k x0 x1 x2 x3 x4 x12 x13 x14 false x217000 x217001 x217002 x217003)
def slotmeshref21_Learn.j3 : Nat → List (S35) → Int → Int → List (S35) → Int → List (S35) → Int → Int → Bool → Int → Int → Int → Int → Option ((List (S35)) × Int)
  | 0, _, _, _, _, _, _, _, _, _, _, _, _, _ => none
  | k + 1, x0, x1, x2, x3, x4, x12, x13, x14, x77, x217000, x217001, x217002, x217003 => if x77 = true then (if x14 ≥ 0 then (if 0 ≤ x14 then (if x14 < (x0.length : Int) then (if x12.length < 4398046511104 then (slotmeshref21_Learn.l0 k x0 x1 x2 x3 x4 (x12 ++ [(⟨(rd_T35 x0 x14).f0, (rd_T35 x0 x14).f1, (rd_T35 x0 x14).f2, (rd_T35 x0 x14).f3⟩ : S35)]) (wrap64 (x13 + 1))) else (none)) else (none)) else (none)) else (slotmeshref21_Learn.l0 k x0 x1 x2 x3 x4 x12 (wrap64 (x13 + 1)))) else (if x14 ≥ 0 then (if 0 ≤ x14 then (if x14 < (x0.length : Int) then (if ((rd_T35 x0 x14).f1) = x1 then (if x12.length < 4398046511104 then (slotmeshref21_Learn.l0 k x0 x1 x2 x3 x4 (x12 ++ [(⟨x217000, x217001, x217002, x217003⟩ : S35)]) (wrap64 (x13 + 1))) else (none)) else (if ((rd_T35 x0 x14).f2) ≥ x217002 then (if x12.length < 4398046511104 then (slotmeshref21_Learn.l0 k x0 x1 x2 x3 x4 (x12 ++ [(⟨(rd_T35 x0 x14).f0, (rd_T35 x0 x14).f1, (rd_T35 x0 x14).f2, (rd_T35 x0 x14).f3⟩ : S35)]) (wrap64 (x13 + 1))) else (none)) else (if x12.length < 4398046511104 then (slotmeshref21_Learn.l0 k x0 x1 x2 x3 x4 (x12 ++ [(⟨x217000, x217001, x217002, x217003⟩ : S35)]) (wrap64 (x13 + 1))) else (none)))) else (none)) else (none)) else (if x12.length < 4398046511104 then (slotmeshref21_Learn.l0 k x0 x1 x2 x3 x4 (x12 ++ [(⟨x217000, x217001, x217002, x217003⟩ : S35)]) (wrap64 (x13 + 1))) else (none)))
end
def slotmeshref21_Learn.f (k : Nat) (l0 : List (S35)) (a1 : Int) (a2 : Int) (l3 : List (S35)) (a4 : Int) : Option ((List (S35)) × Int) := (slotmeshref21_Valid.f k l0).bind fun t211 => (if t211 = true then ((slotmeshref21_id.f a1).bind fun t212 => (if t212 = true then (if a2 < 0 then (slotmeshref21_Learn.j0 k l0 a1 a2 l3 a4 true) else (if a2 > 1000000000 then (slotmeshref21_Learn.j0 k l0 a1 a2 l3 a4 true) else (if a4 < 0 then (slotmeshref21_Learn.j0 k l0 a1 a2 l3 a4 true) else (if a4 > 999999997 then (slotmeshref21_Learn.j0 k l0 a1 a2 l3 a4 true) else ((slotmeshref21_Told.f l3 a1).bind fun t213 => (slotmeshref21_Learn.j0 k l0 a1 a2 l3 a4 (!t213))))))) else (slotmeshref21_Learn.j0 k l0 a1 a2 l3 a4 true))) else (slotmeshref21_Learn.j0 k l0 a1 a2 l3 a4 true))
theorem slotmeshref21_Learn.mono_l : ∀ k, (∀ y0 y1 y2 y3 y4 y5, LeO (slotmeshref21_Learn.j0 k y0 y1 y2 y3 y4 y5) (slotmeshref21_Learn.j0 (k + 1) y0 y1 y2 y3 y4 y5)) ∧ (∀ y0 y1 y2 y3 y4 y5 y6, LeO (slotmeshref21_Learn.l0 k y0 y1 y2 y3 y4 y5 y6) (slotmeshref21_Learn.l0 (k + 1) y0 y1 y2 y3 y4 y5 y6)) ∧ (∀ y0 y1 y2 y3 y4 y5 y6 y7 y8 y9 y10 y11 y12, LeO (slotmeshref21_Learn.j2 k y0 y1 y2 y3 y4 y5 y6 y7 y8 y9 y10 y11 y12) (slotmeshref21_Learn.j2 (k + 1) y0 y1 y2 y3 y4 y5 y6 y7 y8 y9 y10 y11 y12)) ∧ (∀ y0 y1 y2 y3 y4 y5 y6 y7 y8 y9 y10 y11 y12, LeO (slotmeshref21_Learn.j3 k y0 y1 y2 y3 y4 y5 y6 y7 y8 y9 y10 y11 y12) (slotmeshref21_Learn.j3 (k + 1) y0 y1 y2 y3 y4 y5 y6 y7 y8 y9 y10 y11 y12))
  | 0 => ⟨fun _ _ _ _ _ _ r h => by simp [slotmeshref21_Learn.j0] at h, fun _ _ _ _ _ _ _ r h => by simp [slotmeshref21_Learn.l0] at h, fun _ _ _ _ _ _ _ _ _ _ _ _ _ r h => by simp [slotmeshref21_Learn.j2] at h, fun _ _ _ _ _ _ _ _ _ _ _ _ _ r h => by simp [slotmeshref21_Learn.j3] at h⟩
  | k + 1 => by
    obtain ⟨ih0, ih1, ih2, ih3⟩ := slotmeshref21_Learn.mono_l k
    refine ⟨?_, ?_, ?_, ?_⟩
    · intro y0 y1 y2 y3 y4 y5
      unfold slotmeshref21_Learn.j0
      repeat' first
      | (with_reducible exact ih0 _ _ _ _ _ _)
      | (with_reducible exact ih1 _ _ _ _ _ _ _)
      | (with_reducible exact ih2 _ _ _ _ _ _ _ _ _ _ _ _ _)
      | (with_reducible exact ih3 _ _ _ _ _ _ _ _ _ _ _ _ _)
      | (with_reducible exact slotmeshref21_Find.mono _ _ _)
      | (with_reducible exact slotmeshref21_Valid.mono _ _)
      | (with_reducible exact LeO.refl _)
      | (with_reducible exact LeO.none _)
      | (with_reducible refine LeO.ite ?_ ?_)
      | (with_reducible refine LeO.bind ?_ (fun _ => ?_))
      | exact ih0 _ _ _ _ _ _
      | exact ih1 _ _ _ _ _ _ _
      | exact ih2 _ _ _ _ _ _ _ _ _ _ _ _ _
      | exact ih3 _ _ _ _ _ _ _ _ _ _ _ _ _
      | exact slotmeshref21_Find.mono _ _ _
      | exact slotmeshref21_Valid.mono _ _
      | exact LeO.none _
      | refine LeO.ite ?_ ?_
      | refine LeO.bind ?_ (fun _ => ?_)
    · intro y0 y1 y2 y3 y4 y5 y6
      unfold slotmeshref21_Learn.l0
      repeat' first
      | (with_reducible exact ih0 _ _ _ _ _ _)
      | (with_reducible exact ih1 _ _ _ _ _ _ _)
      | (with_reducible exact ih2 _ _ _ _ _ _ _ _ _ _ _ _ _)
      | (with_reducible exact ih3 _ _ _ _ _ _ _ _ _ _ _ _ _)
      | (with_reducible exact slotmeshref21_Find.mono _ _ _)
      | (with_reducible exact slotmeshref21_Valid.mono _ _)
      | (with_reducible exact LeO.refl _)
      | (with_reducible exact LeO.none _)
      | (with_reducible refine LeO.ite ?_ ?_)
      | (with_reducible refine LeO.bind ?_ (fun _ => ?_))
      | exact ih0 _ _ _ _ _ _
      | exact ih1 _ _ _ _ _ _ _
      | exact ih2 _ _ _ _ _ _ _ _ _ _ _ _ _
      | exact ih3 _ _ _ _ _ _ _ _ _ _ _ _ _
      | exact slotmeshref21_Find.mono _ _ _
      | exact slotmeshref21_Valid.mono _ _
      | exact LeO.none _
      | refine LeO.ite ?_ ?_
      | refine LeO.bind ?_ (fun _ => ?_)
    · intro y0 y1 y2 y3 y4 y5 y6 y7 y8 y9 y10 y11 y12
      unfold slotmeshref21_Learn.j2
      repeat' first
      | (with_reducible exact ih0 _ _ _ _ _ _)
      | (with_reducible exact ih1 _ _ _ _ _ _ _)
      | (with_reducible exact ih2 _ _ _ _ _ _ _ _ _ _ _ _ _)
      | (with_reducible exact ih3 _ _ _ _ _ _ _ _ _ _ _ _ _)
      | (with_reducible exact slotmeshref21_Find.mono _ _ _)
      | (with_reducible exact slotmeshref21_Valid.mono _ _)
      | (with_reducible exact LeO.refl _)
      | (with_reducible exact LeO.none _)
      | (with_reducible refine LeO.ite ?_ ?_)
      | (with_reducible refine LeO.bind ?_ (fun _ => ?_))
      | exact ih0 _ _ _ _ _ _
      | exact ih1 _ _ _ _ _ _ _
      | exact ih2 _ _ _ _ _ _ _ _ _ _ _ _ _
      | exact ih3 _ _ _ _ _ _ _ _ _ _ _ _ _
      | exact slotmeshref21_Find.mono _ _ _
      | exact slotmeshref21_Valid.mono _ _
      | exact LeO.none _
      | refine LeO.ite ?_ ?_
      | refine LeO.bind ?_ (fun _ => ?_)
    · intro y0 y1 y2 y3 y4 y5 y6 y7 y8 y9 y10 y11 y12
      unfold slotmeshref21_Learn.j3
      repeat' first
      | (with_reducible exact ih0 _ _ _ _ _ _)
      | (with_reducible exact ih1 _ _ _ _ _ _ _)
      | (with_reducible exact ih2 _ _ _ _ _ _ _ _ _ _ _ _ _)
      | (with_reducible exact ih3 _ _ _ _ _ _ _ _ _ _ _ _ _)
      | (with_reducible exact slotmeshref21_Find.mono _ _ _)
      | (with_reducible exact slotmeshref21_Valid.mono _ _)
      | (with_reducible exact LeO.refl _)
      | (with_reducible exact LeO.none _)
      | (with_reducible refine LeO.ite ?_ ?_)
      | (with_reducible refine LeO.bind ?_ (fun _ => ?_))
      | exact ih0 _ _ _ _ _ _
      | exact ih1 _ _ _ _ _ _ _
      | exact ih2 _ _ _ _ _ _ _ _ _ _ _ _ _
      | exact ih3 _ _ _ _ _ _ _ _ _ _ _ _ _
      | exact slotmeshref21_Find.mono _ _ _
      | exact slotmeshref21_Valid.mono _ _
      | exact LeO.none _
      | refine LeO.ite ?_ ?_
      | refine LeO.bind ?_ (fun _ => ?_)
theorem slotmeshref21_Learn.mono : ∀ a0 a1 a2 a3 a4 k, LeO (slotmeshref21_Learn.f k a0 a1 a2 a3 a4) (slotmeshref21_Learn.f (k + 1) a0 a1 a2 a3 a4) := by
  intro a0 a1 a2 a3 a4 k
  obtain ⟨ih0, ih1, ih2, ih3⟩ := slotmeshref21_Learn.mono_l k
  unfold slotmeshref21_Learn.f
  repeat' first
      | (with_reducible exact ih0 _ _ _ _ _ _)
      | (with_reducible exact ih1 _ _ _ _ _ _ _)
      | (with_reducible exact ih2 _ _ _ _ _ _ _ _ _ _ _ _ _)
      | (with_reducible exact ih3 _ _ _ _ _ _ _ _ _ _ _ _ _)
      | (with_reducible exact slotmeshref21_Find.mono _ _ _)
      | (with_reducible exact slotmeshref21_Valid.mono _ _)
      | (with_reducible exact LeO.refl _)
      | (with_reducible exact LeO.none _)
      | (with_reducible refine LeO.ite ?_ ?_)
      | (with_reducible refine LeO.bind ?_ (fun _ => ?_))
      | exact ih0 _ _ _ _ _ _
      | exact ih1 _ _ _ _ _ _ _
      | exact ih2 _ _ _ _ _ _ _ _ _ _ _ _ _
      | exact ih3 _ _ _ _ _ _ _ _ _ _ _ _ _
      | exact slotmeshref21_Find.mono _ _ _
      | exact slotmeshref21_Valid.mono _ _
      | exact LeO.none _
      | refine LeO.ite ?_ ?_
      | refine LeO.bind ?_ (fun _ => ?_)
set_option maxHeartbeats 8000000 in
set_option maxRecDepth 100000 in
theorem slotmeshref21_Learn.calls (k : Nat) (A0 : Option Addr) (c0 : Nat) (l0 : List (S35)) (a1 : Int) (a2 : Int) (A3 : Option Addr) (c3 : Nat) (l3 : List (S35)) (a4 : Int) (r1 : List (S35)) (r2 : Int) (w : World) (hr0 : Kd.C k35 w A0 l0.length l0) (hc0 : l0.length ≤ c0) (hr3 : Kd.C k35 w A3 l3.length l3) (hc3 : l3.length ≤ c3) (h : slotmeshref21_Learn.f k l0 a1 a2 l3 a4 = some (r1, r2)) :
    Calls Try.prog 13 #[.slice A0 l0.length c0, .int .i64 a1, .int .i64 a2, .slice A3 l3.length c3, .int .i64 a4] w fun e w' => ∃ v0_ : Value, e = .returned (.tuple #[v0_, .int .i64 r2]) ∧ Kd.R k35 35 w' w.heap.size (fun _ => True) v0_ r1 ∧ Below w.heap.size w w' := by
  have hu35 := Try.underlying35
  have HR0 := Aside0.mk hr0
  have HC0 := Aside0.mk hc0
  clear hr0 hc0
  have HR3 := Aside0.mk hr3
  have HC3 := Aside0.mk hc3
  clear hr3 hc3
  have HB := Aside0.mk (Below.refl w.heap.size w)
  have H : ((slotmeshref21_Valid.f k l0).bind fun t211 => (if t211 = true then ((slotmeshref21_id.f a1).bind fun t212 => (if t212 = true then (if a2 < 0 then (slotmeshref21_Learn.j0 k l0 a1 a2 l3 a4 true) else (if a2 > 1000000000 then (slotmeshref21_Learn.j0 k l0 a1 a2 l3 a4 true) else (if a4 < 0 then (slotmeshref21_Learn.j0 k l0 a1 a2 l3 a4 true) else (if a4 > 999999997 then (slotmeshref21_Learn.j0 k l0 a1 a2 l3 a4 true) else ((slotmeshref21_Told.f l3 a1).bind fun t213 => (slotmeshref21_Learn.j0 k l0 a1 a2 l3 a4 (!t213))))))) else (slotmeshref21_Learn.j0 k l0 a1 a2 l3 a4 true))) else (slotmeshref21_Learn.j0 k l0 a1 a2 l3 a4 true))) = some (r1, r2) := h
  clear h
  have HC6 := Aside0.mk H
  clear H
  go_enter Try.func13, Try.ntmps13
  go_upto_region 1 with (fail)
  repeat (go_quiet (fail); go_upto_region 1 with (fail))
  go_cut [46] (fun v46 wc => ∃ (kq : Nat) (x46_5 : Bool), v46 = .bool x46_5 ∧ Aside0 (slotmeshref21_Learn.j0 kq l0 a1 a2 l3 a4 x46_5 = some (r1, r2)) ∧ Aside0 (kq ≤ k) ∧ Aside0 (Below w.heap.size w wc))
  case first =>
    have H := HC6.out
    clear HC6
    replace H := Option.bind_eq_some_iff.mp H
    obtain ⟨t211, A70, H⟩ := H
    replace H : (if t211 = true then ((slotmeshref21_id.f a1).bind fun t212 => (if t212 = true then (if a2 < 0 then (slotmeshref21_Learn.j0 k l0 a1 a2 l3 a4 true) else (if a2 > 1000000000 then (slotmeshref21_Learn.j0 k l0 a1 a2 l3 a4 true) else (if a4 < 0 then (slotmeshref21_Learn.j0 k l0 a1 a2 l3 a4 true) else (if a4 > 999999997 then (slotmeshref21_Learn.j0 k l0 a1 a2 l3 a4 true) else ((slotmeshref21_Told.f l3 a1).bind fun t213 => (slotmeshref21_Learn.j0 k l0 a1 a2 l3 a4 (!t213))))))) else (slotmeshref21_Learn.j0 k l0 a1 a2 l3 a4 true))) else (slotmeshref21_Learn.j0 k l0 a1 a2 l3 a4 true)) = some (r1, r2) := H
    have A7 := Aside0.mk A70
    clear A70
    by_cases c8 : t211 = true
    · subst c8
      have H1 : ((slotmeshref21_id.f a1).bind fun t212 => (if t212 = true then (if a2 < 0 then (slotmeshref21_Learn.j0 k l0 a1 a2 l3 a4 true) else (if a2 > 1000000000 then (slotmeshref21_Learn.j0 k l0 a1 a2 l3 a4 true) else (if a4 < 0 then (slotmeshref21_Learn.j0 k l0 a1 a2 l3 a4 true) else (if a4 > 999999997 then (slotmeshref21_Learn.j0 k l0 a1 a2 l3 a4 true) else ((slotmeshref21_Told.f l3 a1).bind fun t213 => (slotmeshref21_Learn.j0 k l0 a1 a2 l3 a4 (!t213))))))) else (slotmeshref21_Learn.j0 k l0 a1 a2 l3 a4 true))) = some (r1, r2) := by rw [if_pos rfl] at H; exact H
      clear H
      have H := H1
      clear H1
      replace H := Option.bind_eq_some_iff.mp H
      obtain ⟨t212, A90, H⟩ := H
      replace H : (if t212 = true then (if a2 < 0 then (slotmeshref21_Learn.j0 k l0 a1 a2 l3 a4 true) else (if a2 > 1000000000 then (slotmeshref21_Learn.j0 k l0 a1 a2 l3 a4 true) else (if a4 < 0 then (slotmeshref21_Learn.j0 k l0 a1 a2 l3 a4 true) else (if a4 > 999999997 then (slotmeshref21_Learn.j0 k l0 a1 a2 l3 a4 true) else ((slotmeshref21_Told.f l3 a1).bind fun t213 => (slotmeshref21_Learn.j0 k l0 a1 a2 l3 a4 (!t213))))))) else (slotmeshref21_Learn.j0 k l0 a1 a2 l3 a4 true)) = some (r1, r2) := H
      have A9 := Aside0.mk A90
      clear A90
      by_cases c10 : t212 = true
      · subst c10
        have H1 : (if a2 < 0 then (slotmeshref21_Learn.j0 k l0 a1 a2 l3 a4 true) else (if a2 > 1000000000 then (slotmeshref21_Learn.j0 k l0 a1 a2 l3 a4 true) else (if a4 < 0 then (slotmeshref21_Learn.j0 k l0 a1 a2 l3 a4 true) else (if a4 > 999999997 then (slotmeshref21_Learn.j0 k l0 a1 a2 l3 a4 true) else ((slotmeshref21_Told.f l3 a1).bind fun t213 => (slotmeshref21_Learn.j0 k l0 a1 a2 l3 a4 (!t213))))))) = some (r1, r2) := by rw [if_pos rfl] at H; exact H
        clear H
        have H := H1
        clear H1
        by_cases c11 : a2 < 0
        · rw [if_pos c11] at H
          have c11b0 : decide (a2 < 0) = true := decide_eq_true c11
          clear c11
          (first | rw [c11b0] | (simp only [i64_w, i32_w]; rw [c11b0]) | skip)
          have H' := Aside0.mk H
          clear H
          go_wp2_with (first | (go_at_call 21; (with_reducible refine (slotmeshref21_Valid.calls k _ _ l0 true _ ?side1 ?side2 A7.out).mono ?_); (case side1 => repeat (first | exact (Kd.C_below HR0.out HB.out) | (with_reducible refine Kd.C_alloc ?_ _) | (with_reducible refine Kd.C_drewN ?_ _) | (with_reducible refine Kd.C_drew ?_))); (case side2 => exact HC0.out); rintro e w12 ⟨rfl, hb⟩; have n0_ := Aside0.mk (below_step (by repeat (first | (with_reducible first | exact HB.out | apply below_alloc | apply pw_below_drewN | apply below_drew1) | exact HB.out)) hb); clear HB; have HB := n0_; clear n0_; (try clear hb); (try clear hb2); (try clear hk); (try clear hi)) | (go_at_call 30; (with_reducible refine (slotmeshref21_id.calls a1 true _ A9.out).mono ?_); rintro e w' ⟨rfl, ⟨nd, rfl⟩⟩; (try first | exact ⟨rfl, _, World.drewN_drewN _ _ _⟩ | exact ⟨rfl, _, Eq.trans (World.drewN_drewN _ _ _) (congrArg (World.drewN _) (Nat.add_assoc _ _ _))⟩)))
          repeat (go_quiet (first | (go_at_call 21; (with_reducible refine (slotmeshref21_Valid.calls k _ _ l0 true _ ?side1 ?side2 A7.out).mono ?_); (case side1 => repeat (first | exact (Kd.C_below HR0.out HB.out) | (with_reducible refine Kd.C_alloc ?_ _) | (with_reducible refine Kd.C_drewN ?_ _) | (with_reducible refine Kd.C_drew ?_))); (case side2 => exact HC0.out); rintro e w12 ⟨rfl, hb⟩; have n0_ := Aside0.mk (below_step (by repeat (first | (with_reducible first | exact HB.out | apply below_alloc | apply pw_below_drewN | apply below_drew1) | exact HB.out)) hb); clear HB; have HB := n0_; clear n0_; (try clear hb); (try clear hb2); (try clear hk); (try clear hi)) | (go_at_call 30; (with_reducible refine (slotmeshref21_id.calls a1 true _ A9.out).mono ?_); rintro e w' ⟨rfl, ⟨nd, rfl⟩⟩; (try first | exact ⟨rfl, _, World.drewN_drewN _ _ _⟩ | exact ⟨rfl, _, Eq.trans (World.drewN_drewN _ _ _) (congrArg (World.drewN _) (Nat.add_assoc _ _ _))⟩))); try go_wp2_with (first | (go_at_call 21; (with_reducible refine (slotmeshref21_Valid.calls k _ _ l0 true _ ?side1 ?side2 A7.out).mono ?_); (case side1 => repeat (first | exact (Kd.C_below HR0.out HB.out) | (with_reducible refine Kd.C_alloc ?_ _) | (with_reducible refine Kd.C_drewN ?_ _) | (with_reducible refine Kd.C_drew ?_))); (case side2 => exact HC0.out); rintro e w12 ⟨rfl, hb⟩; have n0_ := Aside0.mk (below_step (by repeat (first | (with_reducible first | exact HB.out | apply below_alloc | apply pw_below_drewN | apply below_drew1) | exact HB.out)) hb); clear HB; have HB := n0_; clear n0_; (try clear hb); (try clear hb2); (try clear hk); (try clear hi)) | (go_at_call 30; (with_reducible refine (slotmeshref21_id.calls a1 true _ A9.out).mono ?_); rintro e w' ⟨rfl, ⟨nd, rfl⟩⟩; (try first | exact ⟨rfl, _, World.drewN_drewN _ _ _⟩ | exact ⟨rfl, _, Eq.trans (World.drewN_drewN _ _ _) (congrArg (World.drewN _) (Nat.add_assoc _ _ _))⟩))))
          go_meet
          case rel => exact ⟨_, (true), (by first | rfl | (simp; done) | (simp [*]; done)), H', ⟨by first | omega | exact Nat.le_refl _⟩, ⟨by repeat (first | (with_reducible first | exact HB.out | apply below_alloc | apply pw_below_drewN | apply below_drew1) | exact HB.out)⟩⟩
        · rw [if_neg c11] at H
          have c11b0 : decide (a2 < 0) = false := decide_eq_false c11
          clear c11
          (first | rw [c11b0] | (simp only [i64_w, i32_w]; rw [c11b0]) | skip)
          by_cases c13 : a2 > 1000000000
          · rw [if_pos c13] at H
            have c13b0 : decide (1000000000 < a2) = true := decide_eq_true c13
            clear c13
            have H' := Aside0.mk H
            clear H
            go_wp2_with (first | (go_at_call 21; (with_reducible refine (slotmeshref21_Valid.calls k _ _ l0 true _ ?side1 ?side2 A7.out).mono ?_); (case side1 => repeat (first | exact (Kd.C_below HR0.out HB.out) | (with_reducible refine Kd.C_alloc ?_ _) | (with_reducible refine Kd.C_drewN ?_ _) | (with_reducible refine Kd.C_drew ?_))); (case side2 => exact HC0.out); rintro e w14 ⟨rfl, hb⟩; have n0_ := Aside0.mk (below_step (by repeat (first | (with_reducible first | exact HB.out | apply below_alloc | apply pw_below_drewN | apply below_drew1) | exact HB.out)) hb); clear HB; have HB := n0_; clear n0_; (try clear hb); (try clear hb2); (try clear hk); (try clear hi)) | (go_at_call 30; (with_reducible refine (slotmeshref21_id.calls a1 true _ A9.out).mono ?_); rintro e w' ⟨rfl, ⟨nd, rfl⟩⟩; (try first | exact ⟨rfl, _, World.drewN_drewN _ _ _⟩ | exact ⟨rfl, _, Eq.trans (World.drewN_drewN _ _ _) (congrArg (World.drewN _) (Nat.add_assoc _ _ _))⟩)))
            repeat (go_quiet (first | (go_at_call 21; (with_reducible refine (slotmeshref21_Valid.calls k _ _ l0 true _ ?side1 ?side2 A7.out).mono ?_); (case side1 => repeat (first | exact (Kd.C_below HR0.out HB.out) | (with_reducible refine Kd.C_alloc ?_ _) | (with_reducible refine Kd.C_drewN ?_ _) | (with_reducible refine Kd.C_drew ?_))); (case side2 => exact HC0.out); rintro e w14 ⟨rfl, hb⟩; have n0_ := Aside0.mk (below_step (by repeat (first | (with_reducible first | exact HB.out | apply below_alloc | apply pw_below_drewN | apply below_drew1) | exact HB.out)) hb); clear HB; have HB := n0_; clear n0_; (try clear hb); (try clear hb2); (try clear hk); (try clear hi)) | (go_at_call 30; (with_reducible refine (slotmeshref21_id.calls a1 true _ A9.out).mono ?_); rintro e w' ⟨rfl, ⟨nd, rfl⟩⟩; (try first | exact ⟨rfl, _, World.drewN_drewN _ _ _⟩ | exact ⟨rfl, _, Eq.trans (World.drewN_drewN _ _ _) (congrArg (World.drewN _) (Nat.add_assoc _ _ _))⟩))); try go_wp2_with (first | (go_at_call 21; (with_reducible refine (slotmeshref21_Valid.calls k _ _ l0 true _ ?side1 ?side2 A7.out).mono ?_); (case side1 => repeat (first | exact (Kd.C_below HR0.out HB.out) | (with_reducible refine Kd.C_alloc ?_ _) | (with_reducible refine Kd.C_drewN ?_ _) | (with_reducible refine Kd.C_drew ?_))); (case side2 => exact HC0.out); rintro e w14 ⟨rfl, hb⟩; have n0_ := Aside0.mk (below_step (by repeat (first | (with_reducible first | exact HB.out | apply below_alloc | apply pw_below_drewN | apply below_drew1) | exact HB.out)) hb); clear HB; have HB := n0_; clear n0_; (try clear hb); (try clear hb2); (try clear hk); (try clear hi)) | (go_at_call 30; (with_reducible refine (slotmeshref21_id.calls a1 true _ A9.out).mono ?_); rintro e w' ⟨rfl, ⟨nd, rfl⟩⟩; (try first | exact ⟨rfl, _, World.drewN_drewN _ _ _⟩ | exact ⟨rfl, _, Eq.trans (World.drewN_drewN _ _ _) (congrArg (World.drewN _) (Nat.add_assoc _ _ _))⟩))))
            go_meet
            case rel => exact ⟨_, (true), (by first | rfl | (simp; done) | (simp [*]; done)), H', ⟨by first | omega | exact Nat.le_refl _⟩, ⟨by repeat (first | (with_reducible first | exact HB.out | apply below_alloc | apply pw_below_drewN | apply below_drew1) | exact HB.out)⟩⟩
          · rw [if_neg c13] at H
            have c13b0 : decide (1000000000 < a2) = false := decide_eq_false c13
            clear c13
            by_cases c15 : a4 < 0
            · rw [if_pos c15] at H
              have c15b0 : decide (a4 < 0) = true := decide_eq_true c15
              clear c15
              have H' := Aside0.mk H
              clear H
              go_wp2_with (first | (go_at_call 21; (with_reducible refine (slotmeshref21_Valid.calls k _ _ l0 true _ ?side1 ?side2 A7.out).mono ?_); (case side1 => repeat (first | exact (Kd.C_below HR0.out HB.out) | (with_reducible refine Kd.C_alloc ?_ _) | (with_reducible refine Kd.C_drewN ?_ _) | (with_reducible refine Kd.C_drew ?_))); (case side2 => exact HC0.out); rintro e w16 ⟨rfl, hb⟩; have n0_ := Aside0.mk (below_step (by repeat (first | (with_reducible first | exact HB.out | apply below_alloc | apply pw_below_drewN | apply below_drew1) | exact HB.out)) hb); clear HB; have HB := n0_; clear n0_; (try clear hb); (try clear hb2); (try clear hk); (try clear hi)) | (go_at_call 30; (with_reducible refine (slotmeshref21_id.calls a1 true _ A9.out).mono ?_); rintro e w' ⟨rfl, ⟨nd, rfl⟩⟩; (try first | exact ⟨rfl, _, World.drewN_drewN _ _ _⟩ | exact ⟨rfl, _, Eq.trans (World.drewN_drewN _ _ _) (congrArg (World.drewN _) (Nat.add_assoc _ _ _))⟩)))
              repeat (go_quiet (first | (go_at_call 21; (with_reducible refine (slotmeshref21_Valid.calls k _ _ l0 true _ ?side1 ?side2 A7.out).mono ?_); (case side1 => repeat (first | exact (Kd.C_below HR0.out HB.out) | (with_reducible refine Kd.C_alloc ?_ _) | (with_reducible refine Kd.C_drewN ?_ _) | (with_reducible refine Kd.C_drew ?_))); (case side2 => exact HC0.out); rintro e w16 ⟨rfl, hb⟩; have n0_ := Aside0.mk (below_step (by repeat (first | (with_reducible first | exact HB.out | apply below_alloc | apply pw_below_drewN | apply below_drew1) | exact HB.out)) hb); clear HB; have HB := n0_; clear n0_; (try clear hb); (try clear hb2); (try clear hk); (try clear hi)) | (go_at_call 30; (with_reducible refine (slotmeshref21_id.calls a1 true _ A9.out).mono ?_); rintro e w' ⟨rfl, ⟨nd, rfl⟩⟩; (try first | exact ⟨rfl, _, World.drewN_drewN _ _ _⟩ | exact ⟨rfl, _, Eq.trans (World.drewN_drewN _ _ _) (congrArg (World.drewN _) (Nat.add_assoc _ _ _))⟩))); try go_wp2_with (first | (go_at_call 21; (with_reducible refine (slotmeshref21_Valid.calls k _ _ l0 true _ ?side1 ?side2 A7.out).mono ?_); (case side1 => repeat (first | exact (Kd.C_below HR0.out HB.out) | (with_reducible refine Kd.C_alloc ?_ _) | (with_reducible refine Kd.C_drewN ?_ _) | (with_reducible refine Kd.C_drew ?_))); (case side2 => exact HC0.out); rintro e w16 ⟨rfl, hb⟩; have n0_ := Aside0.mk (below_step (by repeat (first | (with_reducible first | exact HB.out | apply below_alloc | apply pw_below_drewN | apply below_drew1) | exact HB.out)) hb); clear HB; have HB := n0_; clear n0_; (try clear hb); (try clear hb2); (try clear hk); (try clear hi)) | (go_at_call 30; (with_reducible refine (slotmeshref21_id.calls a1 true _ A9.out).mono ?_); rintro e w' ⟨rfl, ⟨nd, rfl⟩⟩; (try first | exact ⟨rfl, _, World.drewN_drewN _ _ _⟩ | exact ⟨rfl, _, Eq.trans (World.drewN_drewN _ _ _) (congrArg (World.drewN _) (Nat.add_assoc _ _ _))⟩))))
              go_meet
              case rel => exact ⟨_, (true), (by first | rfl | (simp; done) | (simp [*]; done)), H', ⟨by first | omega | exact Nat.le_refl _⟩, ⟨by repeat (first | (with_reducible first | exact HB.out | apply below_alloc | apply pw_below_drewN | apply below_drew1) | exact HB.out)⟩⟩
            · rw [if_neg c15] at H
              have c15b0 : decide (a4 < 0) = false := decide_eq_false c15
              clear c15
              by_cases c17 : a4 > 999999997
              · rw [if_pos c17] at H
                have c17b0 : decide (999999997 < a4) = true := decide_eq_true c17
                clear c17
                have H' := Aside0.mk H
                clear H
                go_wp2_with (first | (go_at_call 21; (with_reducible refine (slotmeshref21_Valid.calls k _ _ l0 true _ ?side1 ?side2 A7.out).mono ?_); (case side1 => repeat (first | exact (Kd.C_below HR0.out HB.out) | (with_reducible refine Kd.C_alloc ?_ _) | (with_reducible refine Kd.C_drewN ?_ _) | (with_reducible refine Kd.C_drew ?_))); (case side2 => exact HC0.out); rintro e w18 ⟨rfl, hb⟩; have n0_ := Aside0.mk (below_step (by repeat (first | (with_reducible first | exact HB.out | apply below_alloc | apply pw_below_drewN | apply below_drew1) | exact HB.out)) hb); clear HB; have HB := n0_; clear n0_; (try clear hb); (try clear hb2); (try clear hk); (try clear hi)) | (go_at_call 30; (with_reducible refine (slotmeshref21_id.calls a1 true _ A9.out).mono ?_); rintro e w' ⟨rfl, ⟨nd, rfl⟩⟩; (try first | exact ⟨rfl, _, World.drewN_drewN _ _ _⟩ | exact ⟨rfl, _, Eq.trans (World.drewN_drewN _ _ _) (congrArg (World.drewN _) (Nat.add_assoc _ _ _))⟩)))
                repeat (go_quiet (first | (go_at_call 21; (with_reducible refine (slotmeshref21_Valid.calls k _ _ l0 true _ ?side1 ?side2 A7.out).mono ?_); (case side1 => repeat (first | exact (Kd.C_below HR0.out HB.out) | (with_reducible refine Kd.C_alloc ?_ _) | (with_reducible refine Kd.C_drewN ?_ _) | (with_reducible refine Kd.C_drew ?_))); (case side2 => exact HC0.out); rintro e w18 ⟨rfl, hb⟩; have n0_ := Aside0.mk (below_step (by repeat (first | (with_reducible first | exact HB.out | apply below_alloc | apply pw_below_drewN | apply below_drew1) | exact HB.out)) hb); clear HB; have HB := n0_; clear n0_; (try clear hb); (try clear hb2); (try clear hk); (try clear hi)) | (go_at_call 30; (with_reducible refine (slotmeshref21_id.calls a1 true _ A9.out).mono ?_); rintro e w' ⟨rfl, ⟨nd, rfl⟩⟩; (try first | exact ⟨rfl, _, World.drewN_drewN _ _ _⟩ | exact ⟨rfl, _, Eq.trans (World.drewN_drewN _ _ _) (congrArg (World.drewN _) (Nat.add_assoc _ _ _))⟩))); try go_wp2_with (first | (go_at_call 21; (with_reducible refine (slotmeshref21_Valid.calls k _ _ l0 true _ ?side1 ?side2 A7.out).mono ?_); (case side1 => repeat (first | exact (Kd.C_below HR0.out HB.out) | (with_reducible refine Kd.C_alloc ?_ _) | (with_reducible refine Kd.C_drewN ?_ _) | (with_reducible refine Kd.C_drew ?_))); (case side2 => exact HC0.out); rintro e w18 ⟨rfl, hb⟩; have n0_ := Aside0.mk (below_step (by repeat (first | (with_reducible first | exact HB.out | apply below_alloc | apply pw_below_drewN | apply below_drew1) | exact HB.out)) hb); clear HB; have HB := n0_; clear n0_; (try clear hb); (try clear hb2); (try clear hk); (try clear hi)) | (go_at_call 30; (with_reducible refine (slotmeshref21_id.calls a1 true _ A9.out).mono ?_); rintro e w' ⟨rfl, ⟨nd, rfl⟩⟩; (try first | exact ⟨rfl, _, World.drewN_drewN _ _ _⟩ | exact ⟨rfl, _, Eq.trans (World.drewN_drewN _ _ _) (congrArg (World.drewN _) (Nat.add_assoc _ _ _))⟩))))
                go_meet
                case rel => exact ⟨_, (true), (by first | rfl | (simp; done) | (simp [*]; done)), H', ⟨by first | omega | exact Nat.le_refl _⟩, ⟨by repeat (first | (with_reducible first | exact HB.out | apply below_alloc | apply pw_below_drewN | apply below_drew1) | exact HB.out)⟩⟩
              · rw [if_neg c17] at H
                have c17b0 : decide (999999997 < a4) = false := decide_eq_false c17
                clear c17
                replace H := Option.bind_eq_some_iff.mp H
                obtain ⟨t213, A190, H⟩ := H
                replace H : (slotmeshref21_Learn.j0 k l0 a1 a2 l3 a4 (!t213)) = some (r1, r2) := H
                have A19 := Aside0.mk A190
                clear A190
                have H' := Aside0.mk H
                clear H
                go_wp2_with (first | (go_at_call 21; (with_reducible refine (slotmeshref21_Valid.calls k _ _ l0 true _ ?side1 ?side2 A7.out).mono ?_); (case side1 => repeat (first | exact (Kd.C_below HR0.out HB.out) | (with_reducible refine Kd.C_alloc ?_ _) | (with_reducible refine Kd.C_drewN ?_ _) | (with_reducible refine Kd.C_drew ?_))); (case side2 => exact HC0.out); rintro e w20 ⟨rfl, hb⟩; have n0_ := Aside0.mk (below_step (by repeat (first | (with_reducible first | exact HB.out | apply below_alloc | apply pw_below_drewN | apply below_drew1) | exact HB.out)) hb); clear HB; have HB := n0_; clear n0_; (try clear hb); (try clear hb2); (try clear hk); (try clear hi)) | (go_at_call 30; (with_reducible refine (slotmeshref21_id.calls a1 true _ A9.out).mono ?_); rintro e w' ⟨rfl, ⟨nd, rfl⟩⟩; (try first | exact ⟨rfl, _, World.drewN_drewN _ _ _⟩ | exact ⟨rfl, _, Eq.trans (World.drewN_drewN _ _ _) (congrArg (World.drewN _) (Nat.add_assoc _ _ _))⟩)) | (go_at_call 31; (with_reducible refine (slotmeshref21_Told.calls _ _ l3 a1 t213 _ ?side1 ?side2 A19.out).mono ?_); (case side1 => repeat (first | exact (Kd.C_below HR3.out (by repeat (first | (with_reducible first | exact HB.out | apply below_alloc | apply pw_below_drewN | apply below_drew1) | exact HB.out))) | (with_reducible refine Kd.C_alloc ?_ _) | (with_reducible refine Kd.C_drewN ?_ _) | (with_reducible refine Kd.C_drew ?_))); (case side2 => exact HC3.out); rintro e w21 ⟨rfl, hb⟩; have n0_ := Aside0.mk (below_step (by repeat (first | (with_reducible first | exact HB.out | apply below_alloc | apply pw_below_drewN | apply below_drew1) | exact HB.out)) hb); clear HB; have HB := n0_; clear n0_; (try clear hb); (try clear hb2); (try clear hk); (try clear hi)))
                repeat (go_quiet (first | (go_at_call 21; (with_reducible refine (slotmeshref21_Valid.calls k _ _ l0 true _ ?side1 ?side2 A7.out).mono ?_); (case side1 => repeat (first | exact (Kd.C_below HR0.out HB.out) | (with_reducible refine Kd.C_alloc ?_ _) | (with_reducible refine Kd.C_drewN ?_ _) | (with_reducible refine Kd.C_drew ?_))); (case side2 => exact HC0.out); rintro e w20 ⟨rfl, hb⟩; have n0_ := Aside0.mk (below_step (by repeat (first | (with_reducible first | exact HB.out | apply below_alloc | apply pw_below_drewN | apply below_drew1) | exact HB.out)) hb); clear HB; have HB := n0_; clear n0_; (try clear hb); (try clear hb2); (try clear hk); (try clear hi)) | (go_at_call 30; (with_reducible refine (slotmeshref21_id.calls a1 true _ A9.out).mono ?_); rintro e w' ⟨rfl, ⟨nd, rfl⟩⟩; (try first | exact ⟨rfl, _, World.drewN_drewN _ _ _⟩ | exact ⟨rfl, _, Eq.trans (World.drewN_drewN _ _ _) (congrArg (World.drewN _) (Nat.add_assoc _ _ _))⟩)) | (go_at_call 31; (with_reducible refine (slotmeshref21_Told.calls _ _ l3 a1 t213 _ ?side1 ?side2 A19.out).mono ?_); (case side1 => repeat (first | exact (Kd.C_below HR3.out (by repeat (first | (with_reducible first | exact HB.out | apply below_alloc | apply pw_below_drewN | apply below_drew1) | exact HB.out))) | (with_reducible refine Kd.C_alloc ?_ _) | (with_reducible refine Kd.C_drewN ?_ _) | (with_reducible refine Kd.C_drew ?_))); (case side2 => exact HC3.out); rintro e w21 ⟨rfl, hb⟩; have n0_ := Aside0.mk (below_step (by repeat (first | (with_reducible first | exact HB.out | apply below_alloc | apply pw_below_drewN | apply below_drew1) | exact HB.out)) hb); clear HB; have HB := n0_; clear n0_; (try clear hb); (try clear hb2); (try clear hk); (try clear hi))); try go_wp2_with (first | (go_at_call 21; (with_reducible refine (slotmeshref21_Valid.calls k _ _ l0 true _ ?side1 ?side2 A7.out).mono ?_); (case side1 => repeat (first | exact (Kd.C_below HR0.out HB.out) | (with_reducible refine Kd.C_alloc ?_ _) | (with_reducible refine Kd.C_drewN ?_ _) | (with_reducible refine Kd.C_drew ?_))); (case side2 => exact HC0.out); rintro e w20 ⟨rfl, hb⟩; have n0_ := Aside0.mk (below_step (by repeat (first | (with_reducible first | exact HB.out | apply below_alloc | apply pw_below_drewN | apply below_drew1) | exact HB.out)) hb); clear HB; have HB := n0_; clear n0_; (try clear hb); (try clear hb2); (try clear hk); (try clear hi)) | (go_at_call 30; (with_reducible refine (slotmeshref21_id.calls a1 true _ A9.out).mono ?_); rintro e w' ⟨rfl, ⟨nd, rfl⟩⟩; (try first | exact ⟨rfl, _, World.drewN_drewN _ _ _⟩ | exact ⟨rfl, _, Eq.trans (World.drewN_drewN _ _ _) (congrArg (World.drewN _) (Nat.add_assoc _ _ _))⟩)) | (go_at_call 31; (with_reducible refine (slotmeshref21_Told.calls _ _ l3 a1 t213 _ ?side1 ?side2 A19.out).mono ?_); (case side1 => repeat (first | exact (Kd.C_below HR3.out (by repeat (first | (with_reducible first | exact HB.out | apply below_alloc | apply pw_below_drewN | apply below_drew1) | exact HB.out))) | (with_reducible refine Kd.C_alloc ?_ _) | (with_reducible refine Kd.C_drewN ?_ _) | (with_reducible refine Kd.C_drew ?_))); (case side2 => exact HC3.out); rintro e w21 ⟨rfl, hb⟩; have n0_ := Aside0.mk (below_step (by repeat (first | (with_reducible first | exact HB.out | apply below_alloc | apply pw_below_drewN | apply below_drew1) | exact HB.out)) hb); clear HB; have HB := n0_; clear n0_; (try clear hb); (try clear hb2); (try clear hk); (try clear hi))))
                go_meet
                case rel => exact ⟨_, (!t213), (by first | rfl | (simp; done) | (simp [*]; done)), H', ⟨by first | omega | exact Nat.le_refl _⟩, ⟨by repeat (first | (with_reducible first | exact HB.out | apply below_alloc | apply pw_below_drewN | apply below_drew1) | exact HB.out)⟩⟩
      · replace c10 := Bool.eq_false_iff.mpr c10
        subst c10
        have H1 : (slotmeshref21_Learn.j0 k l0 a1 a2 l3 a4 true) = some (r1, r2) := by rw [if_neg (show ¬ (false = true) by decide)] at H; exact H
        clear H
        have H := H1
        clear H1
        have H' := Aside0.mk H
        clear H
        go_wp2_with (first | (go_at_call 21; (with_reducible refine (slotmeshref21_Valid.calls k _ _ l0 true _ ?side1 ?side2 A7.out).mono ?_); (case side1 => repeat (first | exact (Kd.C_below HR0.out HB.out) | (with_reducible refine Kd.C_alloc ?_ _) | (with_reducible refine Kd.C_drewN ?_ _) | (with_reducible refine Kd.C_drew ?_))); (case side2 => exact HC0.out); rintro e w22 ⟨rfl, hb⟩; have n0_ := Aside0.mk (below_step (by repeat (first | (with_reducible first | exact HB.out | apply below_alloc | apply pw_below_drewN | apply below_drew1) | exact HB.out)) hb); clear HB; have HB := n0_; clear n0_; (try clear hb); (try clear hb2); (try clear hk); (try clear hi)) | (go_at_call 30; (with_reducible refine (slotmeshref21_id.calls a1 false _ A9.out).mono ?_); rintro e w' ⟨rfl, ⟨nd, rfl⟩⟩; (try first | exact ⟨rfl, _, World.drewN_drewN _ _ _⟩ | exact ⟨rfl, _, Eq.trans (World.drewN_drewN _ _ _) (congrArg (World.drewN _) (Nat.add_assoc _ _ _))⟩)))
        repeat (go_quiet (first | (go_at_call 21; (with_reducible refine (slotmeshref21_Valid.calls k _ _ l0 true _ ?side1 ?side2 A7.out).mono ?_); (case side1 => repeat (first | exact (Kd.C_below HR0.out HB.out) | (with_reducible refine Kd.C_alloc ?_ _) | (with_reducible refine Kd.C_drewN ?_ _) | (with_reducible refine Kd.C_drew ?_))); (case side2 => exact HC0.out); rintro e w22 ⟨rfl, hb⟩; have n0_ := Aside0.mk (below_step (by repeat (first | (with_reducible first | exact HB.out | apply below_alloc | apply pw_below_drewN | apply below_drew1) | exact HB.out)) hb); clear HB; have HB := n0_; clear n0_; (try clear hb); (try clear hb2); (try clear hk); (try clear hi)) | (go_at_call 30; (with_reducible refine (slotmeshref21_id.calls a1 false _ A9.out).mono ?_); rintro e w' ⟨rfl, ⟨nd, rfl⟩⟩; (try first | exact ⟨rfl, _, World.drewN_drewN _ _ _⟩ | exact ⟨rfl, _, Eq.trans (World.drewN_drewN _ _ _) (congrArg (World.drewN _) (Nat.add_assoc _ _ _))⟩))); try go_wp2_with (first | (go_at_call 21; (with_reducible refine (slotmeshref21_Valid.calls k _ _ l0 true _ ?side1 ?side2 A7.out).mono ?_); (case side1 => repeat (first | exact (Kd.C_below HR0.out HB.out) | (with_reducible refine Kd.C_alloc ?_ _) | (with_reducible refine Kd.C_drewN ?_ _) | (with_reducible refine Kd.C_drew ?_))); (case side2 => exact HC0.out); rintro e w22 ⟨rfl, hb⟩; have n0_ := Aside0.mk (below_step (by repeat (first | (with_reducible first | exact HB.out | apply below_alloc | apply pw_below_drewN | apply below_drew1) | exact HB.out)) hb); clear HB; have HB := n0_; clear n0_; (try clear hb); (try clear hb2); (try clear hk); (try clear hi)) | (go_at_call 30; (with_reducible refine (slotmeshref21_id.calls a1 false _ A9.out).mono ?_); rintro e w' ⟨rfl, ⟨nd, rfl⟩⟩; (try first | exact ⟨rfl, _, World.drewN_drewN _ _ _⟩ | exact ⟨rfl, _, Eq.trans (World.drewN_drewN _ _ _) (congrArg (World.drewN _) (Nat.add_assoc _ _ _))⟩))))
        go_meet
        case rel => exact ⟨_, (true), (by first | rfl | (simp; done) | (simp [*]; done)), H', ⟨by first | omega | exact Nat.le_refl _⟩, ⟨by repeat (first | (with_reducible first | exact HB.out | apply below_alloc | apply pw_below_drewN | apply below_drew1) | exact HB.out)⟩⟩
    · replace c8 := Bool.eq_false_iff.mpr c8
      subst c8
      have H1 : (slotmeshref21_Learn.j0 k l0 a1 a2 l3 a4 true) = some (r1, r2) := by rw [if_neg (show ¬ (false = true) by decide)] at H; exact H
      clear H
      have H := H1
      clear H1
      have H' := Aside0.mk H
      clear H
      go_wp2_with (first | (go_at_call 21; (with_reducible refine (slotmeshref21_Valid.calls k _ _ l0 false _ ?side1 ?side2 A7.out).mono ?_); (case side1 => repeat (first | exact (Kd.C_below HR0.out HB.out) | (with_reducible refine Kd.C_alloc ?_ _) | (with_reducible refine Kd.C_drewN ?_ _) | (with_reducible refine Kd.C_drew ?_))); (case side2 => exact HC0.out); rintro e w23 ⟨rfl, hb⟩; have n0_ := Aside0.mk (below_step (by repeat (first | (with_reducible first | exact HB.out | apply below_alloc | apply pw_below_drewN | apply below_drew1) | exact HB.out)) hb); clear HB; have HB := n0_; clear n0_; (try clear hb); (try clear hb2); (try clear hk); (try clear hi)))
      repeat (go_quiet (first | (go_at_call 21; (with_reducible refine (slotmeshref21_Valid.calls k _ _ l0 false _ ?side1 ?side2 A7.out).mono ?_); (case side1 => repeat (first | exact (Kd.C_below HR0.out HB.out) | (with_reducible refine Kd.C_alloc ?_ _) | (with_reducible refine Kd.C_drewN ?_ _) | (with_reducible refine Kd.C_drew ?_))); (case side2 => exact HC0.out); rintro e w23 ⟨rfl, hb⟩; have n0_ := Aside0.mk (below_step (by repeat (first | (with_reducible first | exact HB.out | apply below_alloc | apply pw_below_drewN | apply below_drew1) | exact HB.out)) hb); clear HB; have HB := n0_; clear n0_; (try clear hb); (try clear hb2); (try clear hk); (try clear hi))); try go_wp2_with (first | (go_at_call 21; (with_reducible refine (slotmeshref21_Valid.calls k _ _ l0 false _ ?side1 ?side2 A7.out).mono ?_); (case side1 => repeat (first | exact (Kd.C_below HR0.out HB.out) | (with_reducible refine Kd.C_alloc ?_ _) | (with_reducible refine Kd.C_drewN ?_ _) | (with_reducible refine Kd.C_drew ?_))); (case side2 => exact HC0.out); rintro e w23 ⟨rfl, hb⟩; have n0_ := Aside0.mk (below_step (by repeat (first | (with_reducible first | exact HB.out | apply below_alloc | apply pw_below_drewN | apply below_drew1) | exact HB.out)) hb); clear HB; have HB := n0_; clear n0_; (try clear hb); (try clear hb2); (try clear hk); (try clear hi))))
      go_meet
      case rel => exact ⟨_, (true), (by first | rfl | (simp; done) | (simp [*]; done)), H', ⟨by first | omega | exact Nat.le_refl _⟩, ⟨by repeat (first | (with_reducible first | exact HB.out | apply below_alloc | apply pw_below_drewN | apply below_drew1) | exact HB.out)⟩⟩
  case rest =>
    clear HC6
    try clear c1
    try clear p2
    try clear c3
    try clear c8
    try clear c10
    try clear c11
    try clear c11b0
    try clear c13
    try clear c13b0
    try clear c15
    try clear c15b0
    try clear c17
    try clear c17b0
    obtain ⟨kq, x46_5, rfl, HA, HJ5, HB⟩ := hcut
    cases kq with
    | zero => exact absurd HA.out (by simp [slotmeshref21_Learn.j0])
    | succ kj5 =>
      have H := HA.out
      clear HA
      simp only [slotmeshref21_Learn.j0] at H
      by_cases c24 : x46_5 = true
      · subst c24
        have H1 : (some (([] : List (S35)), 1)) = some (r1, r2) := by rw [if_pos rfl] at H; exact H
        clear H
        have H := H1
        clear H1
        simp only [Option.some.injEq, Prod.mk.injEq] at H
        obtain ⟨rfl, rfl⟩ := H
        go_wp2
        repeat (go_quiet (fail); try go_wp2)
        go_ret2
        exact ⟨_, by first | rfl | (simp [errW_none, errW_some] <;> rfl) | (simp [*, errW_none, errW_some] <;> rfl), by first | exact Kd.R_nil _ _ _ _ _ | exact Kd.N_nil _ _ _ _ _ | exact Kd.V_nil _ _ _ _ _ | exact Kd.Q_nil _ _ _ _ _ | exact Kd.S_nil _ _ _ _ _, by repeat (first | (with_reducible first | exact HB.out | apply below_alloc | apply pw_below_drewN | apply below_drew1) | exact HB.out)⟩
      · replace c24 := Bool.eq_false_iff.mpr c24
        subst c24
        have H1 : (slotmeshref21_Learn.l0 kj5 l0 a1 a2 l3 a4 ([] : List (S35)) 0) = some (r1, r2) := by rw [if_neg (show ¬ (false = true) by decide)] at H; exact H
        clear H
        have H := H1
        clear H1
        have H' := Aside0.mk H
        clear H
        go_wp2
        repeat (go_quiet (fail); try go_wp2)
        go_loopg [12, 13] kj5 (fun kq v12 v13 w' => ∃ (x12_2 : List (S35)) (x13_2 : Int), v13 = .int .i64 x13_2 ∧ Aside0 (slotmeshref21_Learn.l0 kq l0 a1 a2 l3 a4 x12_2 x13_2 = some (r1, r2)) ∧ Aside0 (kq ≤ kj5) ∧ Aside0 (Kd.R k35 35 w' w.heap.size (fun _ => True) v12 x12_2) ∧ Aside0 (Below w.heap.size w w'))
        case atStart => exact ⟨(([] : List (S35))), (0), (by first | rfl | (simp; done) | (simp [*]; done)), H', ⟨Nat.le_refl _⟩, ⟨by first | exact Kd.R_nil _ _ _ _ _ | exact Kd.N_nil _ _ _ _ _ | exact Kd.V_nil _ _ _ _ _ | exact Kd.Q_nil _ _ _ _ _ | exact Kd.S_nil _ _ _ _ _⟩, ⟨by repeat (first | (with_reducible first | exact HB.out | apply below_alloc | apply pw_below_drewN | apply below_drew1) | exact HB.out)⟩⟩
        case round =>
          clear H'
          try clear c1
          try clear c2
          try clear p2
          try clear c3
          try clear c8
          try clear c10
          try clear c11
          try clear c11b0
          try clear c13
          try clear c13b0
          try clear c15
          try clear c15b0
          try clear c17
          try clear c17b0
          try clear c24
          try clear p2
          obtain ⟨x12_2, x13_2, rfl, HA, HK2, HO_12, HB⟩ := hrel
          cases gk with
          | zero => exact absurd HA.out (by simp [slotmeshref21_Learn.l0])
          | succ k2 =>
            have H := HA.out
            clear HA
            simp only [slotmeshref21_Learn.l0] at H
            by_cases c25 : x13_2 < 60
            · rw [if_pos c25] at H
              have c25b0 : decide (x13_2 < 60) = true := decide_eq_true c25
              clear c25
              replace H := Option.bind_eq_some_iff.mp H
              obtain ⟨t214, A260, H⟩ := H
              replace H : ((slotmeshref21_Find.f k2 l3 x13_2).bind fun t215 => (if t215 ≥ 0 then (if 0 ≤ t215 then (if t215 < (l3.length : Int) then (slotmeshref21_Learn.j2 k2 l0 a1 a2 l3 a4 x12_2 x13_2 t214 t215 x13_2 a1 ((rd_T35 l3 t215).f2) (wrap64 (a4 + 3))) else (none)) else (none)) else (slotmeshref21_Learn.j2 k2 l0 a1 a2 l3 a4 x12_2 x13_2 t214 t215 x13_2 a1 a2 (wrap64 (a4 + 3))))) = some (r1, r2) := H
              have A26 := Aside0.mk A260
              clear A260
              replace H := Option.bind_eq_some_iff.mp H
              obtain ⟨t215, A270, H⟩ := H
              replace H : (if t215 ≥ 0 then (if 0 ≤ t215 then (if t215 < (l3.length : Int) then (slotmeshref21_Learn.j2 k2 l0 a1 a2 l3 a4 x12_2 x13_2 t214 t215 x13_2 a1 ((rd_T35 l3 t215).f2) (wrap64 (a4 + 3))) else (none)) else (none)) else (slotmeshref21_Learn.j2 k2 l0 a1 a2 l3 a4 x12_2 x13_2 t214 t215 x13_2 a1 a2 (wrap64 (a4 + 3)))) = some (r1, r2) := H
              have A27 := Aside0.mk A270
              clear A270
              have HC28 := Aside0.mk H
              clear H
              go_upto_if 64 with (first | (go_at_call 22; (with_reducible refine (slotmeshref21_Find.calls k2 _ _ l0 x13_2 t214 _ ?side1 ?side2 A26.out).mono ?_); (case side1 => repeat (first | exact (Kd.C_below HR0.out HB.out) | (with_reducible refine Kd.C_alloc ?_ _) | (with_reducible refine Kd.C_drewN ?_ _) | (with_reducible refine Kd.C_drew ?_))); (case side2 => exact HC0.out); rintro e w' ⟨rfl, ⟨nd, rfl⟩⟩; (try first | exact ⟨rfl, _, World.drewN_drewN _ _ _⟩ | exact ⟨rfl, _, Eq.trans (World.drewN_drewN _ _ _) (congrArg (World.drewN _) (Nat.add_assoc _ _ _))⟩)) | (go_at_call 22; (with_reducible refine (slotmeshref21_Find.calls k2 _ _ l3 x13_2 t215 _ ?side1 ?side2 A27.out).mono ?_); (case side1 => repeat (first | exact (Kd.C_below HR3.out (by repeat (first | (with_reducible first | exact HB.out | apply below_alloc | apply pw_below_drewN | apply below_drew1) | exact HB.out))) | (with_reducible refine Kd.C_alloc ?_ _) | (with_reducible refine Kd.C_drewN ?_ _) | (with_reducible refine Kd.C_drew ?_))); (case side2 => exact HC3.out); rintro e w' ⟨rfl, ⟨nd, rfl⟩⟩; (try first | exact ⟨rfl, _, World.drewN_drewN _ _ _⟩ | exact ⟨rfl, _, Eq.trans (World.drewN_drewN _ _ _) (congrArg (World.drewN _) (Nat.add_assoc _ _ _))⟩)) | ((with_reducible refine gate_dst (N := 16) rfl ?_); refine box_event ?hg (N := 16) ?hd (cs := #[.int .i64 0, .int .i64 0, .int .i64 0, .int .i64 0]) (t := 35) ?hr ?_; (case hd => rfl); (case hg => rfl); (case hr => first | (go_simp; done) | (go_simp; rfl)); intro gb216 hg w29 hbox hb; have n0_ := Aside0.mk (Kd.R_below (Kd.R_elderB (by (with_reducible repeat (first | apply Kd.R_alloc | apply Kd.R_drewN | apply Kd.R_drew)); exact HO_12.out) gb216 (Nat.le_of_eq hg.symm)) hb); have n1_ := Aside0.mk (below_step (by repeat (first | (with_reducible first | exact HB.out | apply below_alloc | apply pw_below_drewN | apply below_drew1) | exact HB.out)) hb); have n2_ := Aside0.mk (hbox); have n3_ := Aside0.mk ((by rw [hg]; exact (below_size (by repeat (first | (with_reducible first | exact HB.out | apply below_alloc | apply pw_below_drewN | apply below_drew1) | exact HB.out))) : w.heap.size ≤ gb216)); have n4_ := Aside0.mk ((by rw [hg]; exact (below_size (by repeat (first | (with_reducible first | exact HB.out | apply below_alloc | apply pw_below_drewN | apply below_drew1) | exact HB.out))) : w.heap.size ≤ gb216)); clear HO_12; clear HB; have HO_12 := n0_; have HB := n1_; have BK216 := n2_; have GW216 := n3_; have GE216 := n4_; clear n0_ n1_ n2_ n3_ n4_; clear hb hbox hg; have hcz30_0 : w29.cell? ⟨gb216, 0, none⟩ = some (.int .i64 0) := (blk_cell BK216.out 0).trans rfl; have hcz30_1 : w29.cell? ⟨gb216, 1, none⟩ = some (.int .i64 0) := (blk_cell BK216.out 1).trans rfl; have hcz30_2 : w29.cell? ⟨gb216, 2, none⟩ = some (.int .i64 0) := (blk_cell BK216.out 2).trans rfl; have hcz30_3 : w29.cell? ⟨gb216, 3, none⟩ = some (.int .i64 0) := (blk_cell BK216.out 3).trans rfl; have hfz30_0 := blk_frozen BK216.out 0; have hfz30_1 := blk_frozen BK216.out 1; have hfz30_2 := blk_frozen BK216.out 2; have hfz30_3 := blk_frozen BK216.out 3))
              repeat (go_quiet (first | (go_at_call 22; (with_reducible refine (slotmeshref21_Find.calls k2 _ _ l0 x13_2 t214 _ ?side1 ?side2 A26.out).mono ?_); (case side1 => repeat (first | exact (Kd.C_below HR0.out HB.out) | (with_reducible refine Kd.C_alloc ?_ _) | (with_reducible refine Kd.C_drewN ?_ _) | (with_reducible refine Kd.C_drew ?_))); (case side2 => exact HC0.out); rintro e w' ⟨rfl, ⟨nd, rfl⟩⟩; (try first | exact ⟨rfl, _, World.drewN_drewN _ _ _⟩ | exact ⟨rfl, _, Eq.trans (World.drewN_drewN _ _ _) (congrArg (World.drewN _) (Nat.add_assoc _ _ _))⟩)) | (go_at_call 22; (with_reducible refine (slotmeshref21_Find.calls k2 _ _ l3 x13_2 t215 _ ?side1 ?side2 A27.out).mono ?_); (case side1 => repeat (first | exact (Kd.C_below HR3.out (by repeat (first | (with_reducible first | exact HB.out | apply below_alloc | apply pw_below_drewN | apply below_drew1) | exact HB.out))) | (with_reducible refine Kd.C_alloc ?_ _) | (with_reducible refine Kd.C_drewN ?_ _) | (with_reducible refine Kd.C_drew ?_))); (case side2 => exact HC3.out); rintro e w' ⟨rfl, ⟨nd, rfl⟩⟩; (try first | exact ⟨rfl, _, World.drewN_drewN _ _ _⟩ | exact ⟨rfl, _, Eq.trans (World.drewN_drewN _ _ _) (congrArg (World.drewN _) (Nat.add_assoc _ _ _))⟩)) | ((with_reducible refine gate_dst (N := 16) rfl ?_); refine box_event ?hg (N := 16) ?hd (cs := #[.int .i64 0, .int .i64 0, .int .i64 0, .int .i64 0]) (t := 35) ?hr ?_; (case hd => rfl); (case hg => rfl); (case hr => first | (go_simp; done) | (go_simp; rfl)); intro gb216 hg w29 hbox hb; have n0_ := Aside0.mk (Kd.R_below (Kd.R_elderB (by (with_reducible repeat (first | apply Kd.R_alloc | apply Kd.R_drewN | apply Kd.R_drew)); exact HO_12.out) gb216 (Nat.le_of_eq hg.symm)) hb); have n1_ := Aside0.mk (below_step (by repeat (first | (with_reducible first | exact HB.out | apply below_alloc | apply pw_below_drewN | apply below_drew1) | exact HB.out)) hb); have n2_ := Aside0.mk (hbox); have n3_ := Aside0.mk ((by rw [hg]; exact (below_size (by repeat (first | (with_reducible first | exact HB.out | apply below_alloc | apply pw_below_drewN | apply below_drew1) | exact HB.out))) : w.heap.size ≤ gb216)); have n4_ := Aside0.mk ((by rw [hg]; exact (below_size (by repeat (first | (with_reducible first | exact HB.out | apply below_alloc | apply pw_below_drewN | apply below_drew1) | exact HB.out))) : w.heap.size ≤ gb216)); clear HO_12; clear HB; have HO_12 := n0_; have HB := n1_; have BK216 := n2_; have GW216 := n3_; have GE216 := n4_; clear n0_ n1_ n2_ n3_ n4_; clear hb hbox hg; have hcz30_0 : w29.cell? ⟨gb216, 0, none⟩ = some (.int .i64 0) := (blk_cell BK216.out 0).trans rfl; have hcz30_1 : w29.cell? ⟨gb216, 1, none⟩ = some (.int .i64 0) := (blk_cell BK216.out 1).trans rfl; have hcz30_2 : w29.cell? ⟨gb216, 2, none⟩ = some (.int .i64 0) := (blk_cell BK216.out 2).trans rfl; have hcz30_3 : w29.cell? ⟨gb216, 3, none⟩ = some (.int .i64 0) := (blk_cell BK216.out 3).trans rfl; have hfz30_0 := blk_frozen BK216.out 0; have hfz30_1 := blk_frozen BK216.out 1; have hfz30_2 := blk_frozen BK216.out 2; have hfz30_3 := blk_frozen BK216.out 3)); go_upto_if 64 with (first | (go_at_call 22; (with_reducible refine (slotmeshref21_Find.calls k2 _ _ l0 x13_2 t214 _ ?side1 ?side2 A26.out).mono ?_); (case side1 => repeat (first | exact (Kd.C_below HR0.out HB.out) | (with_reducible refine Kd.C_alloc ?_ _) | (with_reducible refine Kd.C_drewN ?_ _) | (with_reducible refine Kd.C_drew ?_))); (case side2 => exact HC0.out); rintro e w' ⟨rfl, ⟨nd, rfl⟩⟩; (try first | exact ⟨rfl, _, World.drewN_drewN _ _ _⟩ | exact ⟨rfl, _, Eq.trans (World.drewN_drewN _ _ _) (congrArg (World.drewN _) (Nat.add_assoc _ _ _))⟩)) | (go_at_call 22; (with_reducible refine (slotmeshref21_Find.calls k2 _ _ l3 x13_2 t215 _ ?side1 ?side2 A27.out).mono ?_); (case side1 => repeat (first | exact (Kd.C_below HR3.out (by repeat (first | (with_reducible first | exact HB.out | apply below_alloc | apply pw_below_drewN | apply below_drew1) | exact HB.out))) | (with_reducible refine Kd.C_alloc ?_ _) | (with_reducible refine Kd.C_drewN ?_ _) | (with_reducible refine Kd.C_drew ?_))); (case side2 => exact HC3.out); rintro e w' ⟨rfl, ⟨nd, rfl⟩⟩; (try first | exact ⟨rfl, _, World.drewN_drewN _ _ _⟩ | exact ⟨rfl, _, Eq.trans (World.drewN_drewN _ _ _) (congrArg (World.drewN _) (Nat.add_assoc _ _ _))⟩)) | ((with_reducible refine gate_dst (N := 16) rfl ?_); refine box_event ?hg (N := 16) ?hd (cs := #[.int .i64 0, .int .i64 0, .int .i64 0, .int .i64 0]) (t := 35) ?hr ?_; (case hd => rfl); (case hg => rfl); (case hr => first | (go_simp; done) | (go_simp; rfl)); intro gb216 hg w29 hbox hb; have n0_ := Aside0.mk (Kd.R_below (Kd.R_elderB (by (with_reducible repeat (first | apply Kd.R_alloc | apply Kd.R_drewN | apply Kd.R_drew)); exact HO_12.out) gb216 (Nat.le_of_eq hg.symm)) hb); have n1_ := Aside0.mk (below_step (by repeat (first | (with_reducible first | exact HB.out | apply below_alloc | apply pw_below_drewN | apply below_drew1) | exact HB.out)) hb); have n2_ := Aside0.mk (hbox); have n3_ := Aside0.mk ((by rw [hg]; exact (below_size (by repeat (first | (with_reducible first | exact HB.out | apply below_alloc | apply pw_below_drewN | apply below_drew1) | exact HB.out))) : w.heap.size ≤ gb216)); have n4_ := Aside0.mk ((by rw [hg]; exact (below_size (by repeat (first | (with_reducible first | exact HB.out | apply below_alloc | apply pw_below_drewN | apply below_drew1) | exact HB.out))) : w.heap.size ≤ gb216)); clear HO_12; clear HB; have HO_12 := n0_; have HB := n1_; have BK216 := n2_; have GW216 := n3_; have GE216 := n4_; clear n0_ n1_ n2_ n3_ n4_; clear hb hbox hg; have hcz30_0 : w29.cell? ⟨gb216, 0, none⟩ = some (.int .i64 0) := (blk_cell BK216.out 0).trans rfl; have hcz30_1 : w29.cell? ⟨gb216, 1, none⟩ = some (.int .i64 0) := (blk_cell BK216.out 1).trans rfl; have hcz30_2 : w29.cell? ⟨gb216, 2, none⟩ = some (.int .i64 0) := (blk_cell BK216.out 2).trans rfl; have hcz30_3 : w29.cell? ⟨gb216, 3, none⟩ = some (.int .i64 0) := (blk_cell BK216.out 3).trans rfl; have hfz30_0 := blk_frozen BK216.out 0; have hfz30_1 := blk_frozen BK216.out 1; have hfz30_2 := blk_frozen BK216.out 2; have hfz30_3 := blk_frozen BK216.out 3)))
              (try simp only [Act.put, List.setIfInBounds_toArray, List.set_cons_zero, List.set_cons_succ])
              go_cut [] (fun wc => ∃ (kq : Nat) (x217002_27 : Int), Aside0 (slotmeshref21_Learn.j2 kq l0 a1 a2 l3 a4 x12_2 x13_2 t214 t215 x13_2 a1 x217002_27 (wrap64 (a4 + 3)) = some (r1, r2)) ∧ Aside0 (kq ≤ k2) ∧ Aside0 (Kd.R k35 35 wc w.heap.size (fun k_ => k_ ≠ gb216) u12 x12_2) ∧ Aside0 (wc.heap[gb216]? = some (.cells #[.int .i64 x13_2, .int .i64 a1, .int .i64 x217002_27, .int .i64 (wrap64 (a4 + 3))] 35 (0, 0))) ∧ Aside0 (Below w.heap.size w wc))
              case first =>
                have H := HC28.out
                clear HC28
                by_cases c31 : t215 ≥ 0
                · rw [if_pos c31] at H
                  have c31b0 : decide (0 ≤ t215) = true := decide_eq_true c31
                  clear c31
                  (first | rw [c31b0] | (simp only [i64_w, i32_w]; rw [c31b0]) | skip)
                  by_cases c32 : 0 ≤ t215
                  · rw [if_pos c32] at H
                    have c32b0 : decide (0 ≤ t215) = true := decide_eq_true c32
                    clear c32
                    by_cases c33 : t215 < (l3.length : Int)
                    · rw [if_pos c33] at H
                      have c33b0 : decide (t215 < (l3.length : Int)) = true := decide_eq_true c33
                      clear c33
                      have H' := Aside0.mk H
                      clear H
                      have p217 : 0 ≤ (t215 : Int) := of_decide_eq_true (by first | (with_reducible assumption) | assumption)
                      have q217 : t215 < (l3.length : Int) := of_decide_eq_true (by first | (with_reducible assumption) | assumption)
                      obtain ⟨ad217, e217, hx217_0, hx217_1, hx217_2, hx217_3⟩ := at_T35 HR3.out t215 p217 q217
                      cases e217
                      have hn217_0 : ad217.block ≠ gb216 := Nat.ne_of_lt (Nat.lt_of_lt_of_le (by have := World.block_lt_of_cell? _ _ hx217_0; first | rwa [add_block] at this | exact this) GW216.out)
                      have hn217_1 : ad217.block ≠ gb216 := Nat.ne_of_lt (Nat.lt_of_lt_of_le (by have := World.block_lt_of_cell? _ _ hx217_0; first | rwa [add_block] at this | exact this) GW216.out)
                      have hn217_2 : ad217.block ≠ gb216 := Nat.ne_of_lt (Nat.lt_of_lt_of_le (by have := World.block_lt_of_cell? _ _ hx217_0; first | rwa [add_block] at this | exact this) GW216.out)
                      have hn217_3 : ad217.block ≠ gb216 := Nat.ne_of_lt (Nat.lt_of_lt_of_le (by have := World.block_lt_of_cell? _ _ hx217_0; first | rwa [add_block] at this | exact this) GW216.out)
                      replace hx217_0 := (HB.out.cell (World.block_lt_of_cell? w _ hx217_0)).trans hx217_0
                      replace hx217_1 := (HB.out.cell (World.block_lt_of_cell? w _ hx217_1)).trans hx217_1
                      replace hx217_2 := (HB.out.cell (World.block_lt_of_cell? w _ hx217_2)).trans hx217_2
                      replace hx217_3 := (HB.out.cell (World.block_lt_of_cell? w _ hx217_3)).trans hx217_3
                      replace hx217_0 := (cell_far (p := ⟨gb216, 0, none⟩) (by first | (rw [add_block]; exact hn217_0) | (show (Addr.add _ _).block ≠ _; rw [add_block]; exact hn217_0) | exact hn217_0) (.int .i64 x13_2)).trans hx217_0
                      replace hx217_1 := (cell_far (p := ⟨gb216, 0, none⟩) (by first | (rw [add_block]; exact hn217_0) | (show (Addr.add _ _).block ≠ _; rw [add_block]; exact hn217_0) | exact hn217_0) (.int .i64 x13_2)).trans hx217_1
                      replace hx217_2 := (cell_far (p := ⟨gb216, 0, none⟩) (by first | (rw [add_block]; exact hn217_0) | (show (Addr.add _ _).block ≠ _; rw [add_block]; exact hn217_0) | exact hn217_0) (.int .i64 x13_2)).trans hx217_2
                      replace hx217_3 := (cell_far (p := ⟨gb216, 0, none⟩) (by first | (rw [add_block]; exact hn217_0) | (show (Addr.add _ _).block ≠ _; rw [add_block]; exact hn217_0) | exact hn217_0) (.int .i64 x13_2)).trans hx217_3
                      replace hx217_0 := (cell_far (p := ⟨gb216, 1, none⟩) (by first | (rw [add_block]; exact hn217_1) | (show (Addr.add _ _).block ≠ _; rw [add_block]; exact hn217_1) | exact hn217_1) (.int .i64 a1)).trans hx217_0
                      replace hx217_1 := (cell_far (p := ⟨gb216, 1, none⟩) (by first | (rw [add_block]; exact hn217_1) | (show (Addr.add _ _).block ≠ _; rw [add_block]; exact hn217_1) | exact hn217_1) (.int .i64 a1)).trans hx217_1
                      replace hx217_2 := (cell_far (p := ⟨gb216, 1, none⟩) (by first | (rw [add_block]; exact hn217_1) | (show (Addr.add _ _).block ≠ _; rw [add_block]; exact hn217_1) | exact hn217_1) (.int .i64 a1)).trans hx217_2
                      replace hx217_3 := (cell_far (p := ⟨gb216, 1, none⟩) (by first | (rw [add_block]; exact hn217_1) | (show (Addr.add _ _).block ≠ _; rw [add_block]; exact hn217_1) | exact hn217_1) (.int .i64 a1)).trans hx217_3
                      replace hx217_0 := (cell_far (p := ⟨gb216, 2, none⟩) (by first | (rw [add_block]; exact hn217_2) | (show (Addr.add _ _).block ≠ _; rw [add_block]; exact hn217_2) | exact hn217_2) (.int .i64 a2)).trans hx217_0
                      replace hx217_1 := (cell_far (p := ⟨gb216, 2, none⟩) (by first | (rw [add_block]; exact hn217_2) | (show (Addr.add _ _).block ≠ _; rw [add_block]; exact hn217_2) | exact hn217_2) (.int .i64 a2)).trans hx217_1
                      replace hx217_2 := (cell_far (p := ⟨gb216, 2, none⟩) (by first | (rw [add_block]; exact hn217_2) | (show (Addr.add _ _).block ≠ _; rw [add_block]; exact hn217_2) | exact hn217_2) (.int .i64 a2)).trans hx217_2
                      replace hx217_3 := (cell_far (p := ⟨gb216, 2, none⟩) (by first | (rw [add_block]; exact hn217_2) | (show (Addr.add _ _).block ≠ _; rw [add_block]; exact hn217_2) | exact hn217_2) (.int .i64 a2)).trans hx217_3
                      replace hx217_0 := (cell_far (p := ⟨gb216, 3, none⟩) (by first | (rw [add_block]; exact hn217_3) | (show (Addr.add _ _).block ≠ _; rw [add_block]; exact hn217_3) | exact hn217_3) (.int .i64 (wrap64 (a4 + 3)))).trans hx217_0
                      replace hx217_1 := (cell_far (p := ⟨gb216, 3, none⟩) (by first | (rw [add_block]; exact hn217_3) | (show (Addr.add _ _).block ≠ _; rw [add_block]; exact hn217_3) | exact hn217_3) (.int .i64 (wrap64 (a4 + 3)))).trans hx217_1
                      replace hx217_2 := (cell_far (p := ⟨gb216, 3, none⟩) (by first | (rw [add_block]; exact hn217_3) | (show (Addr.add _ _).block ≠ _; rw [add_block]; exact hn217_3) | exact hn217_3) (.int .i64 (wrap64 (a4 + 3)))).trans hx217_2
                      replace hx217_3 := (cell_far (p := ⟨gb216, 3, none⟩) (by first | (rw [add_block]; exact hn217_3) | (show (Addr.add _ _).block ≠ _; rw [add_block]; exact hn217_3) | exact hn217_3) (.int .i64 (wrap64 (a4 + 3)))).trans hx217_3
                      (try have hy217_0 := fun (n_ : Nat) => (show ((((((w29.drewN n_).setCell ⟨gb216, 0, none⟩ (.int .i64 x13_2)).setCell ⟨gb216, 1, none⟩ (.int .i64 a1)).setCell ⟨gb216, 2, none⟩ (.int .i64 a2)).setCell ⟨gb216, 3, none⟩ (.int .i64 (wrap64 (a4 + 3))))).cell? _ = some _ from hx217_0))
                      (try have hy217_1 := fun (n_ : Nat) => (show ((((((w29.drewN n_).setCell ⟨gb216, 0, none⟩ (.int .i64 x13_2)).setCell ⟨gb216, 1, none⟩ (.int .i64 a1)).setCell ⟨gb216, 2, none⟩ (.int .i64 a2)).setCell ⟨gb216, 3, none⟩ (.int .i64 (wrap64 (a4 + 3))))).cell? _ = some _ from hx217_1))
                      (try have hy217_2 := fun (n_ : Nat) => (show ((((((w29.drewN n_).setCell ⟨gb216, 0, none⟩ (.int .i64 x13_2)).setCell ⟨gb216, 1, none⟩ (.int .i64 a1)).setCell ⟨gb216, 2, none⟩ (.int .i64 a2)).setCell ⟨gb216, 3, none⟩ (.int .i64 (wrap64 (a4 + 3))))).cell? _ = some _ from hx217_2))
                      (try have hy217_3 := fun (n_ : Nat) => (show ((((((w29.drewN n_).setCell ⟨gb216, 0, none⟩ (.int .i64 x13_2)).setCell ⟨gb216, 1, none⟩ (.int .i64 a1)).setCell ⟨gb216, 2, none⟩ (.int .i64 a2)).setCell ⟨gb216, 3, none⟩ (.int .i64 (wrap64 (a4 + 3))))).cell? _ = some _ from hx217_3))
                      clear hn217_0
                      clear hn217_1
                      clear hn217_2
                      clear hn217_3
                      replace p217 := eq_true p217
                      replace q217 := eq_true q217
                      have hcz34_0 : w29.cell? ⟨gb216, 0, none⟩ = some (.int .i64 0) := (blk_cell BK216.out 0).trans rfl
                      have hcz34_1 : w29.cell? ⟨gb216, 1, none⟩ = some (.int .i64 0) := (blk_cell BK216.out 1).trans rfl
                      have hcz34_2 : w29.cell? ⟨gb216, 2, none⟩ = some (.int .i64 0) := (blk_cell BK216.out 2).trans rfl
                      have hcz34_3 : w29.cell? ⟨gb216, 3, none⟩ = some (.int .i64 0) := (blk_cell BK216.out 3).trans rfl
                      have hfz34_0 := blk_frozen BK216.out 0
                      have hfz34_1 := blk_frozen BK216.out 1
                      have hfz34_2 := blk_frozen BK216.out 2
                      have hfz34_3 := blk_frozen BK216.out 3
                      go_wp2
                      repeat (go_quiet (fail); try go_wp2)
                      go_meet
                      case rel => exact ⟨_, ((rd_T35 l3 t215).f2), H', ⟨by have := HJ5.out; have := HK2.out; first | omega | exact Nat.le_refl _⟩, ⟨by (with_reducible repeat (first | apply Kd.R_alloc | apply Kd.R_drewN | apply Kd.R_drew)); exact Kd.R_mono (Kd.R_far (p := ⟨gb216, 2, none⟩) (Kd.R_far (p := ⟨gb216, 3, none⟩) (Kd.R_far (p := ⟨gb216, 2, none⟩) (Kd.R_far (p := ⟨gb216, 1, none⟩) (Kd.R_far (p := ⟨gb216, 0, none⟩) (Kd.R_mono HO_12.out (fun k_ hk => (⟨hk, hk.2⟩ : _ ∧ k_ ≠ gb216))) (fun _ hk => hk.2) (.int .i64 x13_2)) (fun _ hk => hk.2) (.int .i64 a1)) (fun _ hk => hk.2) (.int .i64 a2)) (fun _ hk => hk.2) (.int .i64 (wrap64 (a4 + 3)))) (fun _ hk => hk.2) (.int .i64 ((rd_T35 l3 t215).f2))) (fun _ hk => hk.1.2)⟩, ⟨by (with_reducible repeat (first | refine blk_drewN ?_ _ | refine blk_drew ?_ | refine blk_alloc ?_ _)); refine blk_put (cs := #[.int .i64 x13_2, .int .i64 a1, .int .i64 a2, .int .i64 (wrap64 (a4 + 3))]) ?_ 2 _ rfl; (with_reducible repeat (first | refine blk_drewN ?_ _ | refine blk_drew ?_ | refine blk_alloc ?_ _)); refine blk_put (cs := #[.int .i64 x13_2, .int .i64 a1, .int .i64 a2, .int .i64 0]) ?_ 3 _ rfl; (with_reducible repeat (first | refine blk_drewN ?_ _ | refine blk_drew ?_ | refine blk_alloc ?_ _)); refine blk_put (cs := #[.int .i64 x13_2, .int .i64 a1, .int .i64 0, .int .i64 0]) ?_ 2 _ rfl; (with_reducible repeat (first | refine blk_drewN ?_ _ | refine blk_drew ?_ | refine blk_alloc ?_ _)); refine blk_put (cs := #[.int .i64 x13_2, .int .i64 0, .int .i64 0, .int .i64 0]) ?_ 1 _ rfl; (with_reducible repeat (first | refine blk_drewN ?_ _ | refine blk_drew ?_ | refine blk_alloc ?_ _)); refine blk_put (cs := #[.int .i64 0, .int .i64 0, .int .i64 0, .int .i64 0]) ?_ 0 _ rfl; (with_reducible repeat (first | refine blk_drewN ?_ _ | refine blk_drew ?_ | refine blk_alloc ?_ _)); exact BK216.out⟩, ⟨by repeat (first | (with_reducible first | exact HB.out | apply below_alloc | apply pw_below_drewN | apply below_drew1 | refine below_set ?_ GE216.out) | exact HB.out)⟩⟩
                    · rw [if_neg c33] at H
                      exact absurd H (by simp)
                  · rw [if_neg c32] at H
                    exact absurd H (by simp)
                · rw [if_neg c31] at H
                  have c31b0 : decide (0 ≤ t215) = false := decide_eq_false c31
                  clear c31
                  (first | rw [c31b0] | (simp only [i64_w, i32_w]; rw [c31b0]) | skip)
                  have H' := Aside0.mk H
                  clear H
                  go_wp2
                  repeat (go_quiet (fail); try go_wp2)
                  go_meet
                  case rel => exact ⟨_, (a2), H', ⟨by have := HJ5.out; have := HK2.out; first | omega | exact Nat.le_refl _⟩, ⟨by (with_reducible repeat (first | apply Kd.R_alloc | apply Kd.R_drewN | apply Kd.R_drew)); exact Kd.R_mono (Kd.R_far (p := ⟨gb216, 3, none⟩) (Kd.R_far (p := ⟨gb216, 2, none⟩) (Kd.R_far (p := ⟨gb216, 1, none⟩) (Kd.R_far (p := ⟨gb216, 0, none⟩) (Kd.R_mono HO_12.out (fun k_ hk => (⟨hk, hk.2⟩ : _ ∧ k_ ≠ gb216))) (fun _ hk => hk.2) (.int .i64 x13_2)) (fun _ hk => hk.2) (.int .i64 a1)) (fun _ hk => hk.2) (.int .i64 a2)) (fun _ hk => hk.2) (.int .i64 (wrap64 (a4 + 3)))) (fun _ hk => hk.1.2)⟩, ⟨by (with_reducible repeat (first | refine blk_drewN ?_ _ | refine blk_drew ?_ | refine blk_alloc ?_ _)); refine blk_put (cs := #[.int .i64 x13_2, .int .i64 a1, .int .i64 a2, .int .i64 0]) ?_ 3 _ rfl; (with_reducible repeat (first | refine blk_drewN ?_ _ | refine blk_drew ?_ | refine blk_alloc ?_ _)); refine blk_put (cs := #[.int .i64 x13_2, .int .i64 a1, .int .i64 0, .int .i64 0]) ?_ 2 _ rfl; (with_reducible repeat (first | refine blk_drewN ?_ _ | refine blk_drew ?_ | refine blk_alloc ?_ _)); refine blk_put (cs := #[.int .i64 x13_2, .int .i64 0, .int .i64 0, .int .i64 0]) ?_ 1 _ rfl; (with_reducible repeat (first | refine blk_drewN ?_ _ | refine blk_drew ?_ | refine blk_alloc ?_ _)); refine blk_put (cs := #[.int .i64 0, .int .i64 0, .int .i64 0, .int .i64 0]) ?_ 0 _ rfl; (with_reducible repeat (first | refine blk_drewN ?_ _ | refine blk_drew ?_ | refine blk_alloc ?_ _)); exact BK216.out⟩, ⟨by repeat (first | (with_reducible first | exact HB.out | apply below_alloc | apply pw_below_drewN | apply below_drew1 | refine below_set ?_ GE216.out) | exact HB.out)⟩⟩
              case rest =>
                clear HC28
                try clear c1
                try clear c2
                try clear p2
                try clear q2
                try clear hx2
                try clear c3
                try clear p6
                try clear c8
                try clear c10
                try clear c11
                try clear c11b0
                try clear c13
                try clear c13b0
                try clear c15
                try clear c15b0
                try clear c17
                try clear c17b0
                try clear p21
                try clear q21
                try clear hx21
                try clear c24
                try clear c25
                try clear c25b0
                try clear c31
                try clear c31b0
                try clear c32
                try clear c32b0
                try clear c33
                try clear c33b0
                try clear hcz30_0
                try clear hcz30_1
                try clear hcz30_2
                try clear hcz30_3
                try clear hcz34_0
                try clear hcz34_1
                try clear hcz34_2
                try clear hcz34_3
                try clear hfz30_0
                try clear hfz30_1
                try clear hfz30_2
                try clear hfz30_3
                try clear hfz34_0
                try clear hfz34_1
                try clear hfz34_2
                try clear hfz34_3
                try clear hx217_0
                try clear hx217_1
                try clear hx217_2
                try clear hx217_3
                try clear p2
                try clear p217
                try clear q217
                obtain ⟨kq, x217002_27, HA, HJ27, HO_12, BK216, HB⟩ := hcut
                cases kq with
                | zero => exact absurd HA.out (by simp [slotmeshref21_Learn.j2])
                | succ kj27 =>
                  have H := HA.out
                  clear HA
                  simp only [slotmeshref21_Learn.j2] at H
                  have HC35 := Aside0.mk H
                  clear H
                  go_upto_region 12 with (fail)
                  repeat (go_quiet (fail); go_upto_region 12 with (fail))
                  go_cut [77] (fun v77 wc => ∃ (kq : Nat) (x77_34 : Bool), v77 = .bool x77_34 ∧ Aside0 (slotmeshref21_Learn.j3 kq l0 a1 a2 l3 a4 x12_2 x13_2 t214 x77_34 x13_2 a1 x217002_27 (wrap64 (a4 + 3)) = some (r1, r2)) ∧ Aside0 (kq ≤ kj27) ∧ Aside0 (Kd.R k35 35 wc w.heap.size (fun k_ => k_ ≠ gb216) u12 x12_2) ∧ Aside0 (wc.heap[gb216]? = some (.cells #[.int .i64 x13_2, .int .i64 a1, .int .i64 x217002_27, .int .i64 (wrap64 (a4 + 3))] 35 (0, 0))) ∧ Aside0 (Below w.heap.size w wc))
                  case first =>
                    have H := HC35.out
                    clear HC35
                    by_cases c36 : t215 < 0
                    · rw [if_pos c36] at H
                      have c36b0 : decide (t215 < 0) = true := decide_eq_true c36
                      clear c36
                      (first | rw [c36b0] | (simp only [i64_w, i32_w]; rw [c36b0]) | skip)
                      have H' := Aside0.mk H
                      clear H
                      go_wp2
                      repeat (go_quiet (fail); try go_wp2)
                      go_meet
                      case rel => exact ⟨_, ((x13_2 != a1)), (by first | rfl | (simp; done) | (simp [*]; done)), H', ⟨by have := HJ5.out; have := HK2.out; have := HJ27.out; first | omega | exact Nat.le_refl _⟩, ⟨by (with_reducible repeat (first | apply Kd.R_alloc | apply Kd.R_drewN | apply Kd.R_drew)); exact HO_12.out⟩, ⟨by (with_reducible repeat (first | refine blk_drewN ?_ _ | refine blk_drew ?_ | refine blk_alloc ?_ _)); exact BK216.out⟩, ⟨by repeat (first | (with_reducible first | exact HB.out | apply below_alloc | apply pw_below_drewN | apply below_drew1 | refine below_set ?_ GE216.out) | exact HB.out)⟩⟩
                    · rw [if_neg c36] at H
                      have c36b0 : decide (t215 < 0) = false := decide_eq_false c36
                      clear c36
                      (first | rw [c36b0] | (simp only [i64_w, i32_w]; rw [c36b0]) | skip)
                      have H' := Aside0.mk H
                      clear H
                      go_wp2
                      repeat (go_quiet (fail); try go_wp2)
                      go_meet
                      case rel => exact ⟨_, (false), (by first | rfl | (simp; done) | (simp [*]; done)), H', ⟨by have := HJ5.out; have := HK2.out; have := HJ27.out; first | omega | exact Nat.le_refl _⟩, ⟨by (with_reducible repeat (first | apply Kd.R_alloc | apply Kd.R_drewN | apply Kd.R_drew)); exact HO_12.out⟩, ⟨by (with_reducible repeat (first | refine blk_drewN ?_ _ | refine blk_drew ?_ | refine blk_alloc ?_ _)); exact BK216.out⟩, ⟨by repeat (first | (with_reducible first | exact HB.out | apply below_alloc | apply pw_below_drewN | apply below_drew1 | refine below_set ?_ GE216.out) | exact HB.out)⟩⟩
                  case rest =>
                    clear HC35
                    try clear c1
                    try clear c2
                    try clear p2
                    try clear q2
                    try clear hx2
                    try clear c3
                    try clear p6
                    try clear c8
                    try clear c10
                    try clear c11
                    try clear c11b0
                    try clear c13
                    try clear c13b0
                    try clear c15
                    try clear c15b0
                    try clear c17
                    try clear c17b0
                    try clear p21
                    try clear q21
                    try clear hx21
                    try clear c24
                    try clear c25
                    try clear c25b0
                    try clear c31
                    try clear c31b0
                    try clear c32
                    try clear c32b0
                    try clear c33
                    try clear c33b0
                    try clear c36
                    try clear c36b0
                    try clear hcz30_0
                    try clear hcz30_1
                    try clear hcz30_2
                    try clear hcz30_3
                    try clear hcz34_0
                    try clear hcz34_1
                    try clear hcz34_2
                    try clear hcz34_3
                    try clear hfz30_0
                    try clear hfz30_1
                    try clear hfz30_2
                    try clear hfz30_3
                    try clear hfz34_0
                    try clear hfz34_1
                    try clear hfz34_2
                    try clear hfz34_3
                    try clear hx217_0
                    try clear hx217_1
                    try clear hx217_2
                    try clear hx217_3
                    try clear p2
                    try clear p21
                    try clear p217
                    try clear p6
                    try clear q2
                    try clear q21
                    try clear q217
                    obtain ⟨kq, x77_34, rfl, HA, HJ34, HO_12, BK216, HB⟩ := hcut
                    cases kq with
                    | zero => exact absurd HA.out (by simp [slotmeshref21_Learn.j3])
                    | succ kj34 =>
                      have H := HA.out
                      clear HA
                      simp only [slotmeshref21_Learn.j3] at H
                      by_cases c37 : x77_34 = true
                      · subst c37
                        have H1 : (if t214 ≥ 0 then (if 0 ≤ t214 then (if t214 < (l0.length : Int) then (if x12_2.length < 4398046511104 then (slotmeshref21_Learn.l0 kj34 l0 a1 a2 l3 a4 (x12_2 ++ [(⟨(rd_T35 l0 t214).f0, (rd_T35 l0 t214).f1, (rd_T35 l0 t214).f2, (rd_T35 l0 t214).f3⟩ : S35)]) (wrap64 (x13_2 + 1))) else (none)) else (none)) else (none)) else (slotmeshref21_Learn.l0 kj34 l0 a1 a2 l3 a4 x12_2 (wrap64 (x13_2 + 1)))) = some (r1, r2) := by rw [if_pos rfl] at H; exact H
                        clear H
                        have H := H1
                        clear H1
                        by_cases c38 : t214 ≥ 0
                        · rw [if_pos c38] at H
                          have c38b0 : decide (0 ≤ t214) = true := decide_eq_true c38
                          clear c38
                          by_cases c39 : 0 ≤ t214
                          · rw [if_pos c39] at H
                            have c39b0 : decide (0 ≤ t214) = true := decide_eq_true c39
                            clear c39
                            by_cases c40 : t214 < (l0.length : Int)
                            · rw [if_pos c40] at H
                              have c40b0 : decide (t214 < (l0.length : Int)) = true := decide_eq_true c40
                              clear c40
                              by_cases c41 : x12_2.length < 4398046511104
                              · rw [if_pos c41] at H
                                have LMc41 := Aside0.mk c41
                                clear c41
                                obtain ⟨y219, hy219⟩ : ∃ y_ : List (S35), y_ = (x12_2 ++ [(⟨(rd_T35 l0 t214).f0, (rd_T35 l0 t214).f1, (rd_T35 l0 t214).f2, (rd_T35 l0 t214).f3⟩ : S35)]) := ⟨_, rfl⟩
                                replace H : (slotmeshref21_Learn.l0 kj34 l0 a1 a2 l3 a4 y219 (wrap64 (x13_2 + 1))) = some (r1, r2) := by first | (rw [hy219]; with_reducible exact H) | (have H2_ := (Option.bind_some _ _).symm.trans H; rw [hy219]; with_reducible exact H2_) | (have H2_ := (Option.bind_some _ _).symm.trans H; with_reducible exact H2_) | with_reducible exact H | (rw [hy219]; exact H) | exact H
                                have Ny219 := Aside0.mk hy219
                                clear hy219
                                have H' := Aside0.mk H
                                clear H
                                have p218 : 0 ≤ (t214 : Int) := of_decide_eq_true (by first | (with_reducible assumption) | assumption)
                                have q218 : t214 < (l0.length : Int) := of_decide_eq_true (by first | (with_reducible assumption) | assumption)
                                obtain ⟨ad218, e218, hx218_0, hx218_1, hx218_2, hx218_3⟩ := at_T35 HR0.out t214 p218 q218
                                cases e218
                                replace hx218_0 := (HB.out.cell (World.block_lt_of_cell? w _ hx218_0)).trans hx218_0
                                replace hx218_1 := (HB.out.cell (World.block_lt_of_cell? w _ hx218_1)).trans hx218_1
                                replace hx218_2 := (HB.out.cell (World.block_lt_of_cell? w _ hx218_2)).trans hx218_2
                                replace hx218_3 := (HB.out.cell (World.block_lt_of_cell? w _ hx218_3)).trans hx218_3
                                replace p218 := eq_true p218
                                replace q218 := eq_true q218
                                go_wp2_with (first | ((with_reducible refine gate_builtin (b := .append) (xs := #[.tmp 80, .tmp 85]) rfl ?_); at_builtin; refine Kd.R_append k35 (w0 := w) w.heap.size rfl (.tmp 80) (.tmp 85) 22 35 (.agg #[(.int .i64 0), (.int .i64 0), (.int .i64 0), (.int .i64 0)]) 32 rfl Try.underlying22 info35 rfl (by decide) (by omega) u12 x12_2 (⟨(rd_T35 l0 t214).f0, (rd_T35 l0 t214).f1, (rd_T35 l0 t214).f2, (rd_T35 l0 t214).f3⟩ : S35) [.int .i64 ((rd_T35 l0 t214).f0), .int .i64 ((rd_T35 l0 t214).f1), .int .i64 ((rd_T35 l0 t214).f2), .int .i64 ((rd_T35 l0 t214).f3)] (fun k_ => k_ ≠ gb216) (fun _ => False) rfl rfl ?aP (fun _ hk => hk.elim) ?aF ?aO ?aB ?aS ?aL ?_; (case aP => exact k35_mkM _ _ _ (⟨(rd_T35 l0 t214).f0, (rd_T35 l0 t214).f1, (rd_T35 l0 t214).f2, (rd_T35 l0 t214).f3⟩ : S35)); (case aB => exact (by repeat (first | (with_reducible first | exact HB.out | apply below_alloc | apply pw_below_drewN | apply below_drew1 | refine below_set ?_ GE216.out) | exact HB.out))); (case aF => exact (fun k_ hk => Kd.freshB (g := gb216) (o := .cells #[.int .i64 x13_2, .int .i64 a1, .int .i64 x217002_27, .int .i64 (wrap64 (a4 + 3))] 35 (0, 0)) (by (with_reducible repeat (first | refine blk_drewN ?_ _ | refine blk_drew ?_ | refine blk_alloc ?_ _)); exact BK216.out) k_ hk)); (case aO => exact (by (with_reducible repeat (first | apply Kd.R_alloc | apply Kd.R_drewN | apply Kd.R_drew)); exact HO_12.out)); (case aS => exact (below_size (by repeat (first | (with_reducible first | exact HB.out | apply below_alloc | apply pw_below_drewN | apply below_drew1 | refine below_set ?_ GE216.out) | exact HB.out)))); (case aL => have := LMc41.out; omega); intro v220 w42 ho hb hg hat; rw [← Ny219.out] at ho; have n0_ := Aside0.mk (blk_grown (g := gb216) (o := .cells #[.int .i64 x13_2, .int .i64 a1, .int .i64 x217002_27, .int .i64 (wrap64 (a4 + 3))] 35 (0, 0)) (by (with_reducible repeat (first | refine blk_drewN ?_ _ | refine blk_drew ?_ | refine blk_alloc ?_ _)); exact BK216.out) hg (Kd.R_away HO_12.out (fun _ hk => hk))); have n1_ := Aside0.mk (hb); have n2_ := Aside0.mk (ho); clear BK216; clear HB; clear HO_12; have BK216 := n0_; have HB := n1_; have HO221 := n2_; clear n0_ n1_ n2_; clear ho hb hg hat))
                                repeat (go_quiet (first | ((with_reducible refine gate_builtin (b := .append) (xs := #[.tmp 80, .tmp 85]) rfl ?_); at_builtin; refine Kd.R_append k35 (w0 := w) w.heap.size rfl (.tmp 80) (.tmp 85) 22 35 (.agg #[(.int .i64 0), (.int .i64 0), (.int .i64 0), (.int .i64 0)]) 32 rfl Try.underlying22 info35 rfl (by decide) (by omega) u12 x12_2 (⟨(rd_T35 l0 t214).f0, (rd_T35 l0 t214).f1, (rd_T35 l0 t214).f2, (rd_T35 l0 t214).f3⟩ : S35) [.int .i64 ((rd_T35 l0 t214).f0), .int .i64 ((rd_T35 l0 t214).f1), .int .i64 ((rd_T35 l0 t214).f2), .int .i64 ((rd_T35 l0 t214).f3)] (fun k_ => k_ ≠ gb216) (fun _ => False) rfl rfl ?aP (fun _ hk => hk.elim) ?aF ?aO ?aB ?aS ?aL ?_; (case aP => exact k35_mkM _ _ _ (⟨(rd_T35 l0 t214).f0, (rd_T35 l0 t214).f1, (rd_T35 l0 t214).f2, (rd_T35 l0 t214).f3⟩ : S35)); (case aB => exact (by repeat (first | (with_reducible first | exact HB.out | apply below_alloc | apply pw_below_drewN | apply below_drew1 | refine below_set ?_ GE216.out) | exact HB.out))); (case aF => exact (fun k_ hk => Kd.freshB (g := gb216) (o := .cells #[.int .i64 x13_2, .int .i64 a1, .int .i64 x217002_27, .int .i64 (wrap64 (a4 + 3))] 35 (0, 0)) (by (with_reducible repeat (first | refine blk_drewN ?_ _ | refine blk_drew ?_ | refine blk_alloc ?_ _)); exact BK216.out) k_ hk)); (case aO => exact (by (with_reducible repeat (first | apply Kd.R_alloc | apply Kd.R_drewN | apply Kd.R_drew)); exact HO_12.out)); (case aS => exact (below_size (by repeat (first | (with_reducible first | exact HB.out | apply below_alloc | apply pw_below_drewN | apply below_drew1 | refine below_set ?_ GE216.out) | exact HB.out)))); (case aL => have := LMc41.out; omega); intro v220 w42 ho hb hg hat; rw [← Ny219.out] at ho; have n0_ := Aside0.mk (blk_grown (g := gb216) (o := .cells #[.int .i64 x13_2, .int .i64 a1, .int .i64 x217002_27, .int .i64 (wrap64 (a4 + 3))] 35 (0, 0)) (by (with_reducible repeat (first | refine blk_drewN ?_ _ | refine blk_drew ?_ | refine blk_alloc ?_ _)); exact BK216.out) hg (Kd.R_away HO_12.out (fun _ hk => hk))); have n1_ := Aside0.mk (hb); have n2_ := Aside0.mk (ho); clear BK216; clear HB; clear HO_12; have BK216 := n0_; have HB := n1_; have HO221 := n2_; clear n0_ n1_ n2_; clear ho hb hg hat)); try go_wp2_with (first | ((with_reducible refine gate_builtin (b := .append) (xs := #[.tmp 80, .tmp 85]) rfl ?_); at_builtin; refine Kd.R_append k35 (w0 := w) w.heap.size rfl (.tmp 80) (.tmp 85) 22 35 (.agg #[(.int .i64 0), (.int .i64 0), (.int .i64 0), (.int .i64 0)]) 32 rfl Try.underlying22 info35 rfl (by decide) (by omega) u12 x12_2 (⟨(rd_T35 l0 t214).f0, (rd_T35 l0 t214).f1, (rd_T35 l0 t214).f2, (rd_T35 l0 t214).f3⟩ : S35) [.int .i64 ((rd_T35 l0 t214).f0), .int .i64 ((rd_T35 l0 t214).f1), .int .i64 ((rd_T35 l0 t214).f2), .int .i64 ((rd_T35 l0 t214).f3)] (fun k_ => k_ ≠ gb216) (fun _ => False) rfl rfl ?aP (fun _ hk => hk.elim) ?aF ?aO ?aB ?aS ?aL ?_; (case aP => exact k35_mkM _ _ _ (⟨(rd_T35 l0 t214).f0, (rd_T35 l0 t214).f1, (rd_T35 l0 t214).f2, (rd_T35 l0 t214).f3⟩ : S35)); (case aB => exact (by repeat (first | (with_reducible first | exact HB.out | apply below_alloc | apply pw_below_drewN | apply below_drew1 | refine below_set ?_ GE216.out) | exact HB.out))); (case aF => exact (fun k_ hk => Kd.freshB (g := gb216) (o := .cells #[.int .i64 x13_2, .int .i64 a1, .int .i64 x217002_27, .int .i64 (wrap64 (a4 + 3))] 35 (0, 0)) (by (with_reducible repeat (first | refine blk_drewN ?_ _ | refine blk_drew ?_ | refine blk_alloc ?_ _)); exact BK216.out) k_ hk)); (case aO => exact (by (with_reducible repeat (first | apply Kd.R_alloc | apply Kd.R_drewN | apply Kd.R_drew)); exact HO_12.out)); (case aS => exact (below_size (by repeat (first | (with_reducible first | exact HB.out | apply below_alloc | apply pw_below_drewN | apply below_drew1 | refine below_set ?_ GE216.out) | exact HB.out)))); (case aL => have := LMc41.out; omega); intro v220 w42 ho hb hg hat; rw [← Ny219.out] at ho; have n0_ := Aside0.mk (blk_grown (g := gb216) (o := .cells #[.int .i64 x13_2, .int .i64 a1, .int .i64 x217002_27, .int .i64 (wrap64 (a4 + 3))] 35 (0, 0)) (by (with_reducible repeat (first | refine blk_drewN ?_ _ | refine blk_drew ?_ | refine blk_alloc ?_ _)); exact BK216.out) hg (Kd.R_away HO_12.out (fun _ hk => hk))); have n1_ := Aside0.mk (hb); have n2_ := Aside0.mk (ho); clear BK216; clear HB; clear HO_12; have BK216 := n0_; have HB := n1_; have HO221 := n2_; clear n0_ n1_ n2_; clear ho hb hg hat)))
                                go_roundg kj34
                                case measure => have := HJ5.out; have := HK2.out; have := HJ27.out; have := HJ34.out; omega
                                case rel => exact ⟨(y219), (wrap64 (x13_2 + 1)), (by first | rfl | (simp; done) | (simp [*]; done)), H', ⟨by have := HJ5.out; have := HK2.out; have := HJ27.out; have := HJ34.out; omega⟩, ⟨by (with_reducible repeat (first | apply Kd.R_alloc | apply Kd.R_drewN | apply Kd.R_drew)); exact Kd.R_mono HO221.out (fun _ hk => trivial)⟩, ⟨by repeat (first | (with_reducible first | exact HB.out | apply below_alloc | apply pw_below_drewN | apply below_drew1 | refine below_set ?_ GE216.out) | exact HB.out)⟩⟩
                              · rw [if_neg c41] at H
                                exact absurd H (by simp)
                            · rw [if_neg c40] at H
                              exact absurd H (by simp)
                          · rw [if_neg c39] at H
                            exact absurd H (by simp)
                        · rw [if_neg c38] at H
                          have c38b0 : decide (0 ≤ t214) = false := decide_eq_false c38
                          clear c38
                          have H' := Aside0.mk H
                          clear H
                          go_wp2
                          repeat (go_quiet (fail); try go_wp2)
                          go_roundg kj34
                          case measure => have := HJ5.out; have := HK2.out; have := HJ27.out; have := HJ34.out; omega
                          case rel => exact ⟨(x12_2), (wrap64 (x13_2 + 1)), (by first | rfl | (simp; done) | (simp [*]; done)), H', ⟨by have := HJ5.out; have := HK2.out; have := HJ27.out; have := HJ34.out; omega⟩, ⟨by (with_reducible repeat (first | apply Kd.R_alloc | apply Kd.R_drewN | apply Kd.R_drew)); exact Kd.R_mono HO_12.out (fun _ hk => trivial)⟩, ⟨by repeat (first | (with_reducible first | exact HB.out | apply below_alloc | apply pw_below_drewN | apply below_drew1 | refine below_set ?_ GE216.out) | exact HB.out)⟩⟩
                      · replace c37 := Bool.eq_false_iff.mpr c37
                        subst c37
                        have H1 : (if t214 ≥ 0 then (if 0 ≤ t214 then (if t214 < (l0.length : Int) then (if ((rd_T35 l0 t214).f1) = a1 then (if x12_2.length < 4398046511104 then (slotmeshref21_Learn.l0 kj34 l0 a1 a2 l3 a4 (x12_2 ++ [(⟨x13_2, a1, x217002_27, (wrap64 (a4 + 3))⟩ : S35)]) (wrap64 (x13_2 + 1))) else (none)) else (if ((rd_T35 l0 t214).f2) ≥ x217002_27 then (if x12_2.length < 4398046511104 then (slotmeshref21_Learn.l0 kj34 l0 a1 a2 l3 a4 (x12_2 ++ [(⟨(rd_T35 l0 t214).f0, (rd_T35 l0 t214).f1, (rd_T35 l0 t214).f2, (rd_T35 l0 t214).f3⟩ : S35)]) (wrap64 (x13_2 + 1))) else (none)) else (if x12_2.length < 4398046511104 then (slotmeshref21_Learn.l0 kj34 l0 a1 a2 l3 a4 (x12_2 ++ [(⟨x13_2, a1, x217002_27, (wrap64 (a4 + 3))⟩ : S35)]) (wrap64 (x13_2 + 1))) else (none)))) else (none)) else (none)) else (if x12_2.length < 4398046511104 then (slotmeshref21_Learn.l0 kj34 l0 a1 a2 l3 a4 (x12_2 ++ [(⟨x13_2, a1, x217002_27, (wrap64 (a4 + 3))⟩ : S35)]) (wrap64 (x13_2 + 1))) else (none))) = some (r1, r2) := by rw [if_neg (show ¬ (false = true) by decide)] at H; exact H
                        clear H
                        have H := H1
                        clear H1
                        by_cases c43 : t214 ≥ 0
                        · rw [if_pos c43] at H
                          have c43b0 : decide (0 ≤ t214) = true := decide_eq_true c43
                          clear c43
                          by_cases c44 : 0 ≤ t214
                          · rw [if_pos c44] at H
                            have c44b0 : decide (0 ≤ t214) = true := decide_eq_true c44
                            clear c44
                            by_cases c45 : t214 < (l0.length : Int)
                            · rw [if_pos c45] at H
                              have c45b0 : decide (t214 < (l0.length : Int)) = true := decide_eq_true c45
                              clear c45
                              by_cases c46 : ((rd_T35 l0 t214).f1) = a1
                              · rw [if_pos c46] at H
                                have c46b0 : (((rd_T35 l0 t214).f1) == a1) = true := beq_iff_eq.mpr c46
                                have c46b1 : (((rd_T35 l0 t214).f1) != a1) = false := bne_eq_false_iff_eq.mpr c46
                                clear c46
                                by_cases c47 : x12_2.length < 4398046511104
                                · rw [if_pos c47] at H
                                  have LMc47 := Aside0.mk c47
                                  clear c47
                                  obtain ⟨y223, hy223⟩ : ∃ y_ : List (S35), y_ = (x12_2 ++ [(⟨x13_2, a1, x217002_27, (wrap64 (a4 + 3))⟩ : S35)]) := ⟨_, rfl⟩
                                  replace H : (slotmeshref21_Learn.l0 kj34 l0 a1 a2 l3 a4 y223 (wrap64 (x13_2 + 1))) = some (r1, r2) := by first | (rw [hy223]; with_reducible exact H) | (have H2_ := (Option.bind_some _ _).symm.trans H; rw [hy223]; with_reducible exact H2_) | (have H2_ := (Option.bind_some _ _).symm.trans H; with_reducible exact H2_) | with_reducible exact H | (rw [hy223]; exact H) | exact H
                                  have Ny223 := Aside0.mk hy223
                                  clear hy223
                                  have H' := Aside0.mk H
                                  clear H
                                  have p222 : 0 ≤ (t214 : Int) := of_decide_eq_true (by first | (with_reducible assumption) | assumption)
                                  have q222 : t214 < (l0.length : Int) := of_decide_eq_true (by first | (with_reducible assumption) | assumption)
                                  obtain ⟨ad222, e222, hx222_0, hx222_1, hx222_2, hx222_3⟩ := at_T35 HR0.out t214 p222 q222
                                  cases e222
                                  replace hx222_0 := (HB.out.cell (World.block_lt_of_cell? w _ hx222_0)).trans hx222_0
                                  replace hx222_1 := (HB.out.cell (World.block_lt_of_cell? w _ hx222_1)).trans hx222_1
                                  replace hx222_2 := (HB.out.cell (World.block_lt_of_cell? w _ hx222_2)).trans hx222_2
                                  replace hx222_3 := (HB.out.cell (World.block_lt_of_cell? w _ hx222_3)).trans hx222_3
                                  replace p222 := eq_true p222
                                  replace q222 := eq_true q222
                                  have hcz48_0 : wc.cell? ⟨gb216, 0, none⟩ = some (.int .i64 x13_2) := (blk_cell BK216.out 0).trans rfl
                                  have hcz48_1 : wc.cell? ⟨gb216, 1, none⟩ = some (.int .i64 a1) := (blk_cell BK216.out 1).trans rfl
                                  have hcz48_2 : wc.cell? ⟨gb216, 2, none⟩ = some (.int .i64 x217002_27) := (blk_cell BK216.out 2).trans rfl
                                  have hcz48_3 : wc.cell? ⟨gb216, 3, none⟩ = some (.int .i64 (wrap64 (a4 + 3))) := (blk_cell BK216.out 3).trans rfl
                                  have hfz48_0 := blk_frozen BK216.out 0
                                  have hfz48_1 := blk_frozen BK216.out 1
                                  have hfz48_2 := blk_frozen BK216.out 2
                                  have hfz48_3 := blk_frozen BK216.out 3
                                  go_wp2_with (first | ((with_reducible refine gate_builtin (b := .append) (xs := #[.tmp 112, .tmp 114]) rfl ?_); at_builtin; refine Kd.R_append k35 (w0 := w) w.heap.size rfl (.tmp 112) (.tmp 114) 22 35 (.agg #[(.int .i64 0), (.int .i64 0), (.int .i64 0), (.int .i64 0)]) 32 rfl Try.underlying22 info35 rfl (by decide) (by omega) u12 x12_2 (⟨x13_2, a1, x217002_27, (wrap64 (a4 + 3))⟩ : S35) [.int .i64 x13_2, .int .i64 a1, .int .i64 x217002_27, .int .i64 (wrap64 (a4 + 3))] (fun k_ => k_ ≠ gb216) (fun _ => False) rfl rfl ?aP (fun _ hk => hk.elim) ?aF ?aO ?aB ?aS ?aL ?_; (case aP => exact k35_mkM _ _ _ (⟨x13_2, a1, x217002_27, (wrap64 (a4 + 3))⟩ : S35)); (case aB => exact (by repeat (first | (with_reducible first | exact HB.out | apply below_alloc | apply pw_below_drewN | apply below_drew1 | refine below_set ?_ GE216.out) | exact HB.out))); (case aF => exact (fun k_ hk => Kd.freshB (g := gb216) (o := .cells #[.int .i64 x13_2, .int .i64 a1, .int .i64 x217002_27, .int .i64 (wrap64 (a4 + 3))] 35 (0, 0)) (by (with_reducible repeat (first | refine blk_drewN ?_ _ | refine blk_drew ?_ | refine blk_alloc ?_ _)); exact BK216.out) k_ hk)); (case aO => exact (by (with_reducible repeat (first | apply Kd.R_alloc | apply Kd.R_drewN | apply Kd.R_drew)); exact HO_12.out)); (case aS => exact (below_size (by repeat (first | (with_reducible first | exact HB.out | apply below_alloc | apply pw_below_drewN | apply below_drew1 | refine below_set ?_ GE216.out) | exact HB.out)))); (case aL => have := LMc47.out; omega); intro v224 w49 ho hb hg hat; rw [← Ny223.out] at ho; have n0_ := Aside0.mk (blk_grown (g := gb216) (o := .cells #[.int .i64 x13_2, .int .i64 a1, .int .i64 x217002_27, .int .i64 (wrap64 (a4 + 3))] 35 (0, 0)) (by (with_reducible repeat (first | refine blk_drewN ?_ _ | refine blk_drew ?_ | refine blk_alloc ?_ _)); exact BK216.out) hg (Kd.R_away HO_12.out (fun _ hk => hk))); have n1_ := Aside0.mk (hb); have n2_ := Aside0.mk (ho); clear BK216; clear HB; clear HO_12; have BK216 := n0_; have HB := n1_; have HO225 := n2_; clear n0_ n1_ n2_; clear ho hb hg hat))
                                  repeat (go_quiet (first | ((with_reducible refine gate_builtin (b := .append) (xs := #[.tmp 112, .tmp 114]) rfl ?_); at_builtin; refine Kd.R_append k35 (w0 := w) w.heap.size rfl (.tmp 112) (.tmp 114) 22 35 (.agg #[(.int .i64 0), (.int .i64 0), (.int .i64 0), (.int .i64 0)]) 32 rfl Try.underlying22 info35 rfl (by decide) (by omega) u12 x12_2 (⟨x13_2, a1, x217002_27, (wrap64 (a4 + 3))⟩ : S35) [.int .i64 x13_2, .int .i64 a1, .int .i64 x217002_27, .int .i64 (wrap64 (a4 + 3))] (fun k_ => k_ ≠ gb216) (fun _ => False) rfl rfl ?aP (fun _ hk => hk.elim) ?aF ?aO ?aB ?aS ?aL ?_; (case aP => exact k35_mkM _ _ _ (⟨x13_2, a1, x217002_27, (wrap64 (a4 + 3))⟩ : S35)); (case aB => exact (by repeat (first | (with_reducible first | exact HB.out | apply below_alloc | apply pw_below_drewN | apply below_drew1 | refine below_set ?_ GE216.out) | exact HB.out))); (case aF => exact (fun k_ hk => Kd.freshB (g := gb216) (o := .cells #[.int .i64 x13_2, .int .i64 a1, .int .i64 x217002_27, .int .i64 (wrap64 (a4 + 3))] 35 (0, 0)) (by (with_reducible repeat (first | refine blk_drewN ?_ _ | refine blk_drew ?_ | refine blk_alloc ?_ _)); exact BK216.out) k_ hk)); (case aO => exact (by (with_reducible repeat (first | apply Kd.R_alloc | apply Kd.R_drewN | apply Kd.R_drew)); exact HO_12.out)); (case aS => exact (below_size (by repeat (first | (with_reducible first | exact HB.out | apply below_alloc | apply pw_below_drewN | apply below_drew1 | refine below_set ?_ GE216.out) | exact HB.out)))); (case aL => have := LMc47.out; omega); intro v224 w49 ho hb hg hat; rw [← Ny223.out] at ho; have n0_ := Aside0.mk (blk_grown (g := gb216) (o := .cells #[.int .i64 x13_2, .int .i64 a1, .int .i64 x217002_27, .int .i64 (wrap64 (a4 + 3))] 35 (0, 0)) (by (with_reducible repeat (first | refine blk_drewN ?_ _ | refine blk_drew ?_ | refine blk_alloc ?_ _)); exact BK216.out) hg (Kd.R_away HO_12.out (fun _ hk => hk))); have n1_ := Aside0.mk (hb); have n2_ := Aside0.mk (ho); clear BK216; clear HB; clear HO_12; have BK216 := n0_; have HB := n1_; have HO225 := n2_; clear n0_ n1_ n2_; clear ho hb hg hat)); try go_wp2_with (first | ((with_reducible refine gate_builtin (b := .append) (xs := #[.tmp 112, .tmp 114]) rfl ?_); at_builtin; refine Kd.R_append k35 (w0 := w) w.heap.size rfl (.tmp 112) (.tmp 114) 22 35 (.agg #[(.int .i64 0), (.int .i64 0), (.int .i64 0), (.int .i64 0)]) 32 rfl Try.underlying22 info35 rfl (by decide) (by omega) u12 x12_2 (⟨x13_2, a1, x217002_27, (wrap64 (a4 + 3))⟩ : S35) [.int .i64 x13_2, .int .i64 a1, .int .i64 x217002_27, .int .i64 (wrap64 (a4 + 3))] (fun k_ => k_ ≠ gb216) (fun _ => False) rfl rfl ?aP (fun _ hk => hk.elim) ?aF ?aO ?aB ?aS ?aL ?_; (case aP => exact k35_mkM _ _ _ (⟨x13_2, a1, x217002_27, (wrap64 (a4 + 3))⟩ : S35)); (case aB => exact (by repeat (first | (with_reducible first | exact HB.out | apply below_alloc | apply pw_below_drewN | apply below_drew1 | refine below_set ?_ GE216.out) | exact HB.out))); (case aF => exact (fun k_ hk => Kd.freshB (g := gb216) (o := .cells #[.int .i64 x13_2, .int .i64 a1, .int .i64 x217002_27, .int .i64 (wrap64 (a4 + 3))] 35 (0, 0)) (by (with_reducible repeat (first | refine blk_drewN ?_ _ | refine blk_drew ?_ | refine blk_alloc ?_ _)); exact BK216.out) k_ hk)); (case aO => exact (by (with_reducible repeat (first | apply Kd.R_alloc | apply Kd.R_drewN | apply Kd.R_drew)); exact HO_12.out)); (case aS => exact (below_size (by repeat (first | (with_reducible first | exact HB.out | apply below_alloc | apply pw_below_drewN | apply below_drew1 | refine below_set ?_ GE216.out) | exact HB.out)))); (case aL => have := LMc47.out; omega); intro v224 w49 ho hb hg hat; rw [← Ny223.out] at ho; have n0_ := Aside0.mk (blk_grown (g := gb216) (o := .cells #[.int .i64 x13_2, .int .i64 a1, .int .i64 x217002_27, .int .i64 (wrap64 (a4 + 3))] 35 (0, 0)) (by (with_reducible repeat (first | refine blk_drewN ?_ _ | refine blk_drew ?_ | refine blk_alloc ?_ _)); exact BK216.out) hg (Kd.R_away HO_12.out (fun _ hk => hk))); have n1_ := Aside0.mk (hb); have n2_ := Aside0.mk (ho); clear BK216; clear HB; clear HO_12; have BK216 := n0_; have HB := n1_; have HO225 := n2_; clear n0_ n1_ n2_; clear ho hb hg hat)))
                                  go_roundg kj34
                                  case measure => have := HJ5.out; have := HK2.out; have := HJ27.out; have := HJ34.out; omega
                                  case rel => exact ⟨(y223), (wrap64 (x13_2 + 1)), (by first | rfl | (simp; done) | (simp [*]; done)), H', ⟨by have := HJ5.out; have := HK2.out; have := HJ27.out; have := HJ34.out; omega⟩, ⟨by (with_reducible repeat (first | apply Kd.R_alloc | apply Kd.R_drewN | apply Kd.R_drew)); exact Kd.R_mono HO225.out (fun _ hk => trivial)⟩, ⟨by repeat (first | (with_reducible first | exact HB.out | apply below_alloc | apply pw_below_drewN | apply below_drew1 | refine below_set ?_ GE216.out) | exact HB.out)⟩⟩
                                · rw [if_neg c47] at H
                                  exact absurd H (by simp)
                              · rw [if_neg c46] at H
                                have c46b0 : (((rd_T35 l0 t214).f1) == a1) = false := beq_eq_false_iff_ne.mpr c46
                                have c46b1 : (((rd_T35 l0 t214).f1) != a1) = true := bne_iff_ne.mpr c46
                                by_cases c50 : ((rd_T35 l0 t214).f2) ≥ x217002_27
                                · rw [if_pos c50] at H
                                  have c50b0 : decide (x217002_27 ≤ ((rd_T35 l0 t214).f2)) = true := decide_eq_true c50
                                  clear c50
                                  by_cases c51 : x12_2.length < 4398046511104
                                  · rw [if_pos c51] at H
                                    have LMc51 := Aside0.mk c51
                                    clear c51
                                    obtain ⟨y228, hy228⟩ : ∃ y_ : List (S35), y_ = (x12_2 ++ [(⟨(rd_T35 l0 t214).f0, (rd_T35 l0 t214).f1, (rd_T35 l0 t214).f2, (rd_T35 l0 t214).f3⟩ : S35)]) := ⟨_, rfl⟩
                                    replace H : (slotmeshref21_Learn.l0 kj34 l0 a1 a2 l3 a4 y228 (wrap64 (x13_2 + 1))) = some (r1, r2) := by first | (rw [hy228]; with_reducible exact H) | (have H2_ := (Option.bind_some _ _).symm.trans H; rw [hy228]; with_reducible exact H2_) | (have H2_ := (Option.bind_some _ _).symm.trans H; with_reducible exact H2_) | with_reducible exact H | (rw [hy228]; exact H) | exact H
                                    have Ny228 := Aside0.mk hy228
                                    clear hy228
                                    have H' := Aside0.mk H
                                    clear H
                                    have p222 : 0 ≤ (t214 : Int) := of_decide_eq_true (by first | (with_reducible assumption) | assumption)
                                    have q222 : t214 < (l0.length : Int) := of_decide_eq_true (by first | (with_reducible assumption) | assumption)
                                    obtain ⟨ad222, e222, hx222_0, hx222_1, hx222_2, hx222_3⟩ := at_T35 HR0.out t214 p222 q222
                                    cases e222
                                    replace hx222_0 := (HB.out.cell (World.block_lt_of_cell? w _ hx222_0)).trans hx222_0
                                    replace hx222_1 := (HB.out.cell (World.block_lt_of_cell? w _ hx222_1)).trans hx222_1
                                    replace hx222_2 := (HB.out.cell (World.block_lt_of_cell? w _ hx222_2)).trans hx222_2
                                    replace hx222_3 := (HB.out.cell (World.block_lt_of_cell? w _ hx222_3)).trans hx222_3
                                    replace p222 := eq_true p222
                                    replace q222 := eq_true q222
                                    have p226 : 0 ≤ (t214 : Int) := of_decide_eq_true (by first | (with_reducible assumption) | assumption)
                                    have q226 : t214 < (l0.length : Int) := of_decide_eq_true (by first | (with_reducible assumption) | assumption)
                                    obtain ⟨ad226, e226, hx226_0, hx226_1, hx226_2, hx226_3⟩ := at_T35 HR0.out t214 p226 q226
                                    obtain rfl : ad222 = ad226 := (by injection e226)
                                    replace hx226_0 := (HB.out.cell (World.block_lt_of_cell? w _ hx226_0)).trans hx226_0
                                    replace hx226_1 := (HB.out.cell (World.block_lt_of_cell? w _ hx226_1)).trans hx226_1
                                    replace hx226_2 := (HB.out.cell (World.block_lt_of_cell? w _ hx226_2)).trans hx226_2
                                    replace hx226_3 := (HB.out.cell (World.block_lt_of_cell? w _ hx226_3)).trans hx226_3
                                    replace p226 := eq_true p226
                                    replace q226 := eq_true q226
                                    have hcz52_0 : wc.cell? ⟨gb216, 0, none⟩ = some (.int .i64 x13_2) := (blk_cell BK216.out 0).trans rfl
                                    have hcz52_1 : wc.cell? ⟨gb216, 1, none⟩ = some (.int .i64 a1) := (blk_cell BK216.out 1).trans rfl
                                    have hcz52_2 : wc.cell? ⟨gb216, 2, none⟩ = some (.int .i64 x217002_27) := (blk_cell BK216.out 2).trans rfl
                                    have hcz52_3 : wc.cell? ⟨gb216, 3, none⟩ = some (.int .i64 (wrap64 (a4 + 3))) := (blk_cell BK216.out 3).trans rfl
                                    have hfz52_0 := blk_frozen BK216.out 0
                                    have hfz52_1 := blk_frozen BK216.out 1
                                    have hfz52_2 := blk_frozen BK216.out 2
                                    have hfz52_3 := blk_frozen BK216.out 3
                                    have p227 : 0 ≤ (t214 : Int) := of_decide_eq_true (by first | (with_reducible assumption) | assumption)
                                    have q227 : t214 < (l0.length : Int) := of_decide_eq_true (by first | (with_reducible assumption) | assumption)
                                    obtain ⟨ad227, e227, hx227_0, hx227_1, hx227_2, hx227_3⟩ := at_T35 HR0.out t214 p227 q227
                                    obtain rfl : ad222 = ad227 := (by injection e227)
                                    replace hx227_0 := (HB.out.cell (World.block_lt_of_cell? w _ hx227_0)).trans hx227_0
                                    replace hx227_1 := (HB.out.cell (World.block_lt_of_cell? w _ hx227_1)).trans hx227_1
                                    replace hx227_2 := (HB.out.cell (World.block_lt_of_cell? w _ hx227_2)).trans hx227_2
                                    replace hx227_3 := (HB.out.cell (World.block_lt_of_cell? w _ hx227_3)).trans hx227_3
                                    replace p227 := eq_true p227
                                    replace q227 := eq_true q227
                                    go_wp2_with (first | ((with_reducible refine gate_builtin (b := .append) (xs := #[.tmp 112, .tmp 114]) rfl ?_); at_builtin; refine Kd.R_append k35 (w0 := w) w.heap.size rfl (.tmp 112) (.tmp 114) 22 35 (.agg #[(.int .i64 0), (.int .i64 0), (.int .i64 0), (.int .i64 0)]) 32 rfl Try.underlying22 info35 rfl (by decide) (by omega) u12 x12_2 (⟨(rd_T35 l0 t214).f0, (rd_T35 l0 t214).f1, (rd_T35 l0 t214).f2, (rd_T35 l0 t214).f3⟩ : S35) [.int .i64 ((rd_T35 l0 t214).f0), .int .i64 ((rd_T35 l0 t214).f1), .int .i64 ((rd_T35 l0 t214).f2), .int .i64 ((rd_T35 l0 t214).f3)] (fun k_ => k_ ≠ gb216) (fun _ => False) rfl (by first | (go_simp; done) | (go_simp; rfl)) ?aP (fun _ hk => hk.elim) ?aF ?aO ?aB ?aS ?aL ?_; (case aP => exact k35_mkM _ _ _ (⟨(rd_T35 l0 t214).f0, (rd_T35 l0 t214).f1, (rd_T35 l0 t214).f2, (rd_T35 l0 t214).f3⟩ : S35)); (case aB => exact (by repeat (first | (with_reducible first | exact HB.out | apply below_alloc | apply pw_below_drewN | apply below_drew1 | refine below_set ?_ GE216.out) | exact HB.out))); (case aF => exact (fun k_ hk => Kd.freshB (g := gb216) (o := .cells #[.int .i64 ((rd_T35 l0 t214).f0), .int .i64 ((rd_T35 l0 t214).f1), .int .i64 ((rd_T35 l0 t214).f2), .int .i64 ((rd_T35 l0 t214).f3)] 35 (0, 0)) (by (with_reducible repeat (first | refine blk_drewN ?_ _ | refine blk_drew ?_ | refine blk_alloc ?_ _)); refine blk_put (cs := #[.int .i64 ((rd_T35 l0 t214).f0), .int .i64 ((rd_T35 l0 t214).f1), .int .i64 ((rd_T35 l0 t214).f2), .int .i64 (wrap64 (a4 + 3))]) ?_ 3 _ rfl; (with_reducible repeat (first | refine blk_drewN ?_ _ | refine blk_drew ?_ | refine blk_alloc ?_ _)); refine blk_put (cs := #[.int .i64 ((rd_T35 l0 t214).f0), .int .i64 ((rd_T35 l0 t214).f1), .int .i64 x217002_27, .int .i64 (wrap64 (a4 + 3))]) ?_ 2 _ rfl; (with_reducible repeat (first | refine blk_drewN ?_ _ | refine blk_drew ?_ | refine blk_alloc ?_ _)); refine blk_put (cs := #[.int .i64 ((rd_T35 l0 t214).f0), .int .i64 a1, .int .i64 x217002_27, .int .i64 (wrap64 (a4 + 3))]) ?_ 1 _ rfl; (with_reducible repeat (first | refine blk_drewN ?_ _ | refine blk_drew ?_ | refine blk_alloc ?_ _)); refine blk_put (cs := #[.int .i64 x13_2, .int .i64 a1, .int .i64 x217002_27, .int .i64 (wrap64 (a4 + 3))]) ?_ 0 _ rfl; (with_reducible repeat (first | refine blk_drewN ?_ _ | refine blk_drew ?_ | refine blk_alloc ?_ _)); exact BK216.out) k_ hk)); (case aO => exact (by (with_reducible repeat (first | apply Kd.R_alloc | apply Kd.R_drewN | apply Kd.R_drew)); exact Kd.R_mono (Kd.R_far (p := ⟨gb216, 3, none⟩) (Kd.R_far (p := ⟨gb216, 2, none⟩) (Kd.R_far (p := ⟨gb216, 1, none⟩) (Kd.R_far (p := ⟨gb216, 0, none⟩) (Kd.R_mono HO_12.out (fun k_ hk => (⟨hk, hk⟩ : _ ∧ k_ ≠ gb216))) (fun _ hk => hk.2) (.int .i64 ((rd_T35 l0 t214).f0))) (fun _ hk => hk.2) (.int .i64 ((rd_T35 l0 t214).f1))) (fun _ hk => hk.2) (.int .i64 ((rd_T35 l0 t214).f2))) (fun _ hk => hk.2) (.int .i64 ((rd_T35 l0 t214).f3))) (fun _ hk => hk.1))); (case aS => exact (below_size (by repeat (first | (with_reducible first | exact HB.out | apply below_alloc | apply pw_below_drewN | apply below_drew1 | refine below_set ?_ GE216.out) | exact HB.out)))); (case aL => have := LMc51.out; omega); intro v229 w53 ho hb hg hat; rw [← Ny228.out] at ho; have n0_ := Aside0.mk (blk_grown (g := gb216) (o := .cells #[.int .i64 ((rd_T35 l0 t214).f0), .int .i64 ((rd_T35 l0 t214).f1), .int .i64 ((rd_T35 l0 t214).f2), .int .i64 ((rd_T35 l0 t214).f3)] 35 (0, 0)) (by (with_reducible repeat (first | refine blk_drewN ?_ _ | refine blk_drew ?_ | refine blk_alloc ?_ _)); refine blk_put (cs := #[.int .i64 ((rd_T35 l0 t214).f0), .int .i64 ((rd_T35 l0 t214).f1), .int .i64 ((rd_T35 l0 t214).f2), .int .i64 (wrap64 (a4 + 3))]) ?_ 3 _ rfl; (with_reducible repeat (first | refine blk_drewN ?_ _ | refine blk_drew ?_ | refine blk_alloc ?_ _)); refine blk_put (cs := #[.int .i64 ((rd_T35 l0 t214).f0), .int .i64 ((rd_T35 l0 t214).f1), .int .i64 x217002_27, .int .i64 (wrap64 (a4 + 3))]) ?_ 2 _ rfl; (with_reducible repeat (first | refine blk_drewN ?_ _ | refine blk_drew ?_ | refine blk_alloc ?_ _)); refine blk_put (cs := #[.int .i64 ((rd_T35 l0 t214).f0), .int .i64 a1, .int .i64 x217002_27, .int .i64 (wrap64 (a4 + 3))]) ?_ 1 _ rfl; (with_reducible repeat (first | refine blk_drewN ?_ _ | refine blk_drew ?_ | refine blk_alloc ?_ _)); refine blk_put (cs := #[.int .i64 x13_2, .int .i64 a1, .int .i64 x217002_27, .int .i64 (wrap64 (a4 + 3))]) ?_ 0 _ rfl; (with_reducible repeat (first | refine blk_drewN ?_ _ | refine blk_drew ?_ | refine blk_alloc ?_ _)); exact BK216.out) hg (Kd.R_away HO_12.out (fun _ hk => hk))); have n1_ := Aside0.mk (hb); have n2_ := Aside0.mk (ho); clear BK216; clear HB; clear HO_12; have BK216 := n0_; have HB := n1_; have HO230 := n2_; clear n0_ n1_ n2_; clear ho hb hg hat))
                                    repeat (go_quiet (first | ((with_reducible refine gate_builtin (b := .append) (xs := #[.tmp 112, .tmp 114]) rfl ?_); at_builtin; refine Kd.R_append k35 (w0 := w) w.heap.size rfl (.tmp 112) (.tmp 114) 22 35 (.agg #[(.int .i64 0), (.int .i64 0), (.int .i64 0), (.int .i64 0)]) 32 rfl Try.underlying22 info35 rfl (by decide) (by omega) u12 x12_2 (⟨(rd_T35 l0 t214).f0, (rd_T35 l0 t214).f1, (rd_T35 l0 t214).f2, (rd_T35 l0 t214).f3⟩ : S35) [.int .i64 ((rd_T35 l0 t214).f0), .int .i64 ((rd_T35 l0 t214).f1), .int .i64 ((rd_T35 l0 t214).f2), .int .i64 ((rd_T35 l0 t214).f3)] (fun k_ => k_ ≠ gb216) (fun _ => False) rfl (by first | (go_simp; done) | (go_simp; rfl)) ?aP (fun _ hk => hk.elim) ?aF ?aO ?aB ?aS ?aL ?_; (case aP => exact k35_mkM _ _ _ (⟨(rd_T35 l0 t214).f0, (rd_T35 l0 t214).f1, (rd_T35 l0 t214).f2, (rd_T35 l0 t214).f3⟩ : S35)); (case aB => exact (by repeat (first | (with_reducible first | exact HB.out | apply below_alloc | apply pw_below_drewN | apply below_drew1 | refine below_set ?_ GE216.out) | exact HB.out))); (case aF => exact (fun k_ hk => Kd.freshB (g := gb216) (o := .cells #[.int .i64 ((rd_T35 l0 t214).f0), .int .i64 ((rd_T35 l0 t214).f1), .int .i64 ((rd_T35 l0 t214).f2), .int .i64 ((rd_T35 l0 t214).f3)] 35 (0, 0)) (by (with_reducible repeat (first | refine blk_drewN ?_ _ | refine blk_drew ?_ | refine blk_alloc ?_ _)); refine blk_put (cs := #[.int .i64 ((rd_T35 l0 t214).f0), .int .i64 ((rd_T35 l0 t214).f1), .int .i64 ((rd_T35 l0 t214).f2), .int .i64 (wrap64 (a4 + 3))]) ?_ 3 _ rfl; (with_reducible repeat (first | refine blk_drewN ?_ _ | refine blk_drew ?_ | refine blk_alloc ?_ _)); refine blk_put (cs := #[.int .i64 ((rd_T35 l0 t214).f0), .int .i64 ((rd_T35 l0 t214).f1), .int .i64 x217002_27, .int .i64 (wrap64 (a4 + 3))]) ?_ 2 _ rfl; (with_reducible repeat (first | refine blk_drewN ?_ _ | refine blk_drew ?_ | refine blk_alloc ?_ _)); refine blk_put (cs := #[.int .i64 ((rd_T35 l0 t214).f0), .int .i64 a1, .int .i64 x217002_27, .int .i64 (wrap64 (a4 + 3))]) ?_ 1 _ rfl; (with_reducible repeat (first | refine blk_drewN ?_ _ | refine blk_drew ?_ | refine blk_alloc ?_ _)); refine blk_put (cs := #[.int .i64 x13_2, .int .i64 a1, .int .i64 x217002_27, .int .i64 (wrap64 (a4 + 3))]) ?_ 0 _ rfl; (with_reducible repeat (first | refine blk_drewN ?_ _ | refine blk_drew ?_ | refine blk_alloc ?_ _)); exact BK216.out) k_ hk)); (case aO => exact (by (with_reducible repeat (first | apply Kd.R_alloc | apply Kd.R_drewN | apply Kd.R_drew)); exact Kd.R_mono (Kd.R_far (p := ⟨gb216, 3, none⟩) (Kd.R_far (p := ⟨gb216, 2, none⟩) (Kd.R_far (p := ⟨gb216, 1, none⟩) (Kd.R_far (p := ⟨gb216, 0, none⟩) (Kd.R_mono HO_12.out (fun k_ hk => (⟨hk, hk⟩ : _ ∧ k_ ≠ gb216))) (fun _ hk => hk.2) (.int .i64 ((rd_T35 l0 t214).f0))) (fun _ hk => hk.2) (.int .i64 ((rd_T35 l0 t214).f1))) (fun _ hk => hk.2) (.int .i64 ((rd_T35 l0 t214).f2))) (fun _ hk => hk.2) (.int .i64 ((rd_T35 l0 t214).f3))) (fun _ hk => hk.1))); (case aS => exact (below_size (by repeat (first | (with_reducible first | exact HB.out | apply below_alloc | apply pw_below_drewN | apply below_drew1 | refine below_set ?_ GE216.out) | exact HB.out)))); (case aL => have := LMc51.out; omega); intro v229 w53 ho hb hg hat; rw [← Ny228.out] at ho; have n0_ := Aside0.mk (blk_grown (g := gb216) (o := .cells #[.int .i64 ((rd_T35 l0 t214).f0), .int .i64 ((rd_T35 l0 t214).f1), .int .i64 ((rd_T35 l0 t214).f2), .int .i64 ((rd_T35 l0 t214).f3)] 35 (0, 0)) (by (with_reducible repeat (first | refine blk_drewN ?_ _ | refine blk_drew ?_ | refine blk_alloc ?_ _)); refine blk_put (cs := #[.int .i64 ((rd_T35 l0 t214).f0), .int .i64 ((rd_T35 l0 t214).f1), .int .i64 ((rd_T35 l0 t214).f2), .int .i64 (wrap64 (a4 + 3))]) ?_ 3 _ rfl; (with_reducible repeat (first | refine blk_drewN ?_ _ | refine blk_drew ?_ | refine blk_alloc ?_ _)); refine blk_put (cs := #[.int .i64 ((rd_T35 l0 t214).f0), .int .i64 ((rd_T35 l0 t214).f1), .int .i64 x217002_27, .int .i64 (wrap64 (a4 + 3))]) ?_ 2 _ rfl; (with_reducible repeat (first | refine blk_drewN ?_ _ | refine blk_drew ?_ | refine blk_alloc ?_ _)); refine blk_put (cs := #[.int .i64 ((rd_T35 l0 t214).f0), .int .i64 a1, .int .i64 x217002_27, .int .i64 (wrap64 (a4 + 3))]) ?_ 1 _ rfl; (with_reducible repeat (first | refine blk_drewN ?_ _ | refine blk_drew ?_ | refine blk_alloc ?_ _)); refine blk_put (cs := #[.int .i64 x13_2, .int .i64 a1, .int .i64 x217002_27, .int .i64 (wrap64 (a4 + 3))]) ?_ 0 _ rfl; (with_reducible repeat (first | refine blk_drewN ?_ _ | refine blk_drew ?_ | refine blk_alloc ?_ _)); exact BK216.out) hg (Kd.R_away HO_12.out (fun _ hk => hk))); have n1_ := Aside0.mk (hb); have n2_ := Aside0.mk (ho); clear BK216; clear HB; clear HO_12; have BK216 := n0_; have HB := n1_; have HO230 := n2_; clear n0_ n1_ n2_; clear ho hb hg hat)); try go_wp2_with (first | ((with_reducible refine gate_builtin (b := .append) (xs := #[.tmp 112, .tmp 114]) rfl ?_); at_builtin; refine Kd.R_append k35 (w0 := w) w.heap.size rfl (.tmp 112) (.tmp 114) 22 35 (.agg #[(.int .i64 0), (.int .i64 0), (.int .i64 0), (.int .i64 0)]) 32 rfl Try.underlying22 info35 rfl (by decide) (by omega) u12 x12_2 (⟨(rd_T35 l0 t214).f0, (rd_T35 l0 t214).f1, (rd_T35 l0 t214).f2, (rd_T35 l0 t214).f3⟩ : S35) [.int .i64 ((rd_T35 l0 t214).f0), .int .i64 ((rd_T35 l0 t214).f1), .int .i64 ((rd_T35 l0 t214).f2), .int .i64 ((rd_T35 l0 t214).f3)] (fun k_ => k_ ≠ gb216) (fun _ => False) rfl (by first | (go_simp; done) | (go_simp; rfl)) ?aP (fun _ hk => hk.elim) ?aF ?aO ?aB ?aS ?aL ?_; (case aP => exact k35_mkM _ _ _ (⟨(rd_T35 l0 t214).f0, (rd_T35 l0 t214).f1, (rd_T35 l0 t214).f2, (rd_T35 l0 t214).f3⟩ : S35)); (case aB => exact (by repeat (first | (with_reducible first | exact HB.out | apply below_alloc | apply pw_below_drewN | apply below_drew1 | refine below_set ?_ GE216.out) | exact HB.out))); (case aF => exact (fun k_ hk => Kd.freshB (g := gb216) (o := .cells #[.int .i64 ((rd_T35 l0 t214).f0), .int .i64 ((rd_T35 l0 t214).f1), .int .i64 ((rd_T35 l0 t214).f2), .int .i64 ((rd_T35 l0 t214).f3)] 35 (0, 0)) (by (with_reducible repeat (first | refine blk_drewN ?_ _ | refine blk_drew ?_ | refine blk_alloc ?_ _)); refine blk_put (cs := #[.int .i64 ((rd_T35 l0 t214).f0), .int .i64 ((rd_T35 l0 t214).f1), .int .i64 ((rd_T35 l0 t214).f2), .int .i64 (wrap64 (a4 + 3))]) ?_ 3 _ rfl; (with_reducible repeat (first | refine blk_drewN ?_ _ | refine blk_drew ?_ | refine blk_alloc ?_ _)); refine blk_put (cs := #[.int .i64 ((rd_T35 l0 t214).f0), .int .i64 ((rd_T35 l0 t214).f1), .int .i64 x217002_27, .int .i64 (wrap64 (a4 + 3))]) ?_ 2 _ rfl; (with_reducible repeat (first | refine blk_drewN ?_ _ | refine blk_drew ?_ | refine blk_alloc ?_ _)); refine blk_put (cs := #[.int .i64 ((rd_T35 l0 t214).f0), .int .i64 a1, .int .i64 x217002_27, .int .i64 (wrap64 (a4 + 3))]) ?_ 1 _ rfl; (with_reducible repeat (first | refine blk_drewN ?_ _ | refine blk_drew ?_ | refine blk_alloc ?_ _)); refine blk_put (cs := #[.int .i64 x13_2, .int .i64 a1, .int .i64 x217002_27, .int .i64 (wrap64 (a4 + 3))]) ?_ 0 _ rfl; (with_reducible repeat (first | refine blk_drewN ?_ _ | refine blk_drew ?_ | refine blk_alloc ?_ _)); exact BK216.out) k_ hk)); (case aO => exact (by (with_reducible repeat (first | apply Kd.R_alloc | apply Kd.R_drewN | apply Kd.R_drew)); exact Kd.R_mono (Kd.R_far (p := ⟨gb216, 3, none⟩) (Kd.R_far (p := ⟨gb216, 2, none⟩) (Kd.R_far (p := ⟨gb216, 1, none⟩) (Kd.R_far (p := ⟨gb216, 0, none⟩) (Kd.R_mono HO_12.out (fun k_ hk => (⟨hk, hk⟩ : _ ∧ k_ ≠ gb216))) (fun _ hk => hk.2) (.int .i64 ((rd_T35 l0 t214).f0))) (fun _ hk => hk.2) (.int .i64 ((rd_T35 l0 t214).f1))) (fun _ hk => hk.2) (.int .i64 ((rd_T35 l0 t214).f2))) (fun _ hk => hk.2) (.int .i64 ((rd_T35 l0 t214).f3))) (fun _ hk => hk.1))); (case aS => exact (below_size (by repeat (first | (with_reducible first | exact HB.out | apply below_alloc | apply pw_below_drewN | apply below_drew1 | refine below_set ?_ GE216.out) | exact HB.out)))); (case aL => have := LMc51.out; omega); intro v229 w53 ho hb hg hat; rw [← Ny228.out] at ho; have n0_ := Aside0.mk (blk_grown (g := gb216) (o := .cells #[.int .i64 ((rd_T35 l0 t214).f0), .int .i64 ((rd_T35 l0 t214).f1), .int .i64 ((rd_T35 l0 t214).f2), .int .i64 ((rd_T35 l0 t214).f3)] 35 (0, 0)) (by (with_reducible repeat (first | refine blk_drewN ?_ _ | refine blk_drew ?_ | refine blk_alloc ?_ _)); refine blk_put (cs := #[.int .i64 ((rd_T35 l0 t214).f0), .int .i64 ((rd_T35 l0 t214).f1), .int .i64 ((rd_T35 l0 t214).f2), .int .i64 (wrap64 (a4 + 3))]) ?_ 3 _ rfl; (with_reducible repeat (first | refine blk_drewN ?_ _ | refine blk_drew ?_ | refine blk_alloc ?_ _)); refine blk_put (cs := #[.int .i64 ((rd_T35 l0 t214).f0), .int .i64 ((rd_T35 l0 t214).f1), .int .i64 x217002_27, .int .i64 (wrap64 (a4 + 3))]) ?_ 2 _ rfl; (with_reducible repeat (first | refine blk_drewN ?_ _ | refine blk_drew ?_ | refine blk_alloc ?_ _)); refine blk_put (cs := #[.int .i64 ((rd_T35 l0 t214).f0), .int .i64 a1, .int .i64 x217002_27, .int .i64 (wrap64 (a4 + 3))]) ?_ 1 _ rfl; (with_reducible repeat (first | refine blk_drewN ?_ _ | refine blk_drew ?_ | refine blk_alloc ?_ _)); refine blk_put (cs := #[.int .i64 x13_2, .int .i64 a1, .int .i64 x217002_27, .int .i64 (wrap64 (a4 + 3))]) ?_ 0 _ rfl; (with_reducible repeat (first | refine blk_drewN ?_ _ | refine blk_drew ?_ | refine blk_alloc ?_ _)); exact BK216.out) hg (Kd.R_away HO_12.out (fun _ hk => hk))); have n1_ := Aside0.mk (hb); have n2_ := Aside0.mk (ho); clear BK216; clear HB; clear HO_12; have BK216 := n0_; have HB := n1_; have HO230 := n2_; clear n0_ n1_ n2_; clear ho hb hg hat)))
                                    go_roundg kj34
                                    case measure => have := HJ5.out; have := HK2.out; have := HJ27.out; have := HJ34.out; omega
                                    case rel => exact ⟨(y228), (wrap64 (x13_2 + 1)), (by first | rfl | (simp; done) | (simp [*]; done)), H', ⟨by have := HJ5.out; have := HK2.out; have := HJ27.out; have := HJ34.out; omega⟩, ⟨by (with_reducible repeat (first | apply Kd.R_alloc | apply Kd.R_drewN | apply Kd.R_drew)); exact Kd.R_mono HO230.out (fun _ hk => trivial)⟩, ⟨by repeat (first | (with_reducible first | exact HB.out | apply below_alloc | apply pw_below_drewN | apply below_drew1 | refine below_set ?_ GE216.out) | exact HB.out)⟩⟩
                                  · rw [if_neg c51] at H
                                    exact absurd H (by simp)
                                · rw [if_neg c50] at H
                                  have c50b0 : decide (x217002_27 ≤ ((rd_T35 l0 t214).f2)) = false := decide_eq_false c50
                                  clear c50
                                  by_cases c54 : x12_2.length < 4398046511104
                                  · rw [if_pos c54] at H
                                    have LMc54 := Aside0.mk c54
                                    clear c54
                                    obtain ⟨y231, hy231⟩ : ∃ y_ : List (S35), y_ = (x12_2 ++ [(⟨x13_2, a1, x217002_27, (wrap64 (a4 + 3))⟩ : S35)]) := ⟨_, rfl⟩
                                    replace H : (slotmeshref21_Learn.l0 kj34 l0 a1 a2 l3 a4 y231 (wrap64 (x13_2 + 1))) = some (r1, r2) := by first | (rw [hy231]; with_reducible exact H) | (have H2_ := (Option.bind_some _ _).symm.trans H; rw [hy231]; with_reducible exact H2_) | (have H2_ := (Option.bind_some _ _).symm.trans H; with_reducible exact H2_) | with_reducible exact H | (rw [hy231]; exact H) | exact H
                                    have Ny231 := Aside0.mk hy231
                                    clear hy231
                                    have H' := Aside0.mk H
                                    clear H
                                    have p222 : 0 ≤ (t214 : Int) := of_decide_eq_true (by first | (with_reducible assumption) | assumption)
                                    have q222 : t214 < (l0.length : Int) := of_decide_eq_true (by first | (with_reducible assumption) | assumption)
                                    obtain ⟨ad222, e222, hx222_0, hx222_1, hx222_2, hx222_3⟩ := at_T35 HR0.out t214 p222 q222
                                    cases e222
                                    replace hx222_0 := (HB.out.cell (World.block_lt_of_cell? w _ hx222_0)).trans hx222_0
                                    replace hx222_1 := (HB.out.cell (World.block_lt_of_cell? w _ hx222_1)).trans hx222_1
                                    replace hx222_2 := (HB.out.cell (World.block_lt_of_cell? w _ hx222_2)).trans hx222_2
                                    replace hx222_3 := (HB.out.cell (World.block_lt_of_cell? w _ hx222_3)).trans hx222_3
                                    replace p222 := eq_true p222
                                    replace q222 := eq_true q222
                                    have p226 : 0 ≤ (t214 : Int) := of_decide_eq_true (by first | (with_reducible assumption) | assumption)
                                    have q226 : t214 < (l0.length : Int) := of_decide_eq_true (by first | (with_reducible assumption) | assumption)
                                    obtain ⟨ad226, e226, hx226_0, hx226_1, hx226_2, hx226_3⟩ := at_T35 HR0.out t214 p226 q226
                                    obtain rfl : ad222 = ad226 := (by injection e226)
                                    replace hx226_0 := (HB.out.cell (World.block_lt_of_cell? w _ hx226_0)).trans hx226_0
                                    replace hx226_1 := (HB.out.cell (World.block_lt_of_cell? w _ hx226_1)).trans hx226_1
                                    replace hx226_2 := (HB.out.cell (World.block_lt_of_cell? w _ hx226_2)).trans hx226_2
                                    replace hx226_3 := (HB.out.cell (World.block_lt_of_cell? w _ hx226_3)).trans hx226_3
                                    replace p226 := eq_true p226
                                    replace q226 := eq_true q226
                                    have hcz55_0 : wc.cell? ⟨gb216, 0, none⟩ = some (.int .i64 x13_2) := (blk_cell BK216.out 0).trans rfl
                                    have hcz55_1 : wc.cell? ⟨gb216, 1, none⟩ = some (.int .i64 a1) := (blk_cell BK216.out 1).trans rfl
                                    have hcz55_2 : wc.cell? ⟨gb216, 2, none⟩ = some (.int .i64 x217002_27) := (blk_cell BK216.out 2).trans rfl
                                    have hcz55_3 : wc.cell? ⟨gb216, 3, none⟩ = some (.int .i64 (wrap64 (a4 + 3))) := (blk_cell BK216.out 3).trans rfl
                                    have hfz55_0 := blk_frozen BK216.out 0
                                    have hfz55_1 := blk_frozen BK216.out 1
                                    have hfz55_2 := blk_frozen BK216.out 2
                                    have hfz55_3 := blk_frozen BK216.out 3
                                    go_wp2_with (first | ((with_reducible refine gate_builtin (b := .append) (xs := #[.tmp 112, .tmp 114]) rfl ?_); at_builtin; refine Kd.R_append k35 (w0 := w) w.heap.size rfl (.tmp 112) (.tmp 114) 22 35 (.agg #[(.int .i64 0), (.int .i64 0), (.int .i64 0), (.int .i64 0)]) 32 rfl Try.underlying22 info35 rfl (by decide) (by omega) u12 x12_2 (⟨x13_2, a1, x217002_27, (wrap64 (a4 + 3))⟩ : S35) [.int .i64 x13_2, .int .i64 a1, .int .i64 x217002_27, .int .i64 (wrap64 (a4 + 3))] (fun k_ => k_ ≠ gb216) (fun _ => False) rfl rfl ?aP (fun _ hk => hk.elim) ?aF ?aO ?aB ?aS ?aL ?_; (case aP => exact k35_mkM _ _ _ (⟨x13_2, a1, x217002_27, (wrap64 (a4 + 3))⟩ : S35)); (case aB => exact (by repeat (first | (with_reducible first | exact HB.out | apply below_alloc | apply pw_below_drewN | apply below_drew1 | refine below_set ?_ GE216.out) | exact HB.out))); (case aF => exact (fun k_ hk => Kd.freshB (g := gb216) (o := .cells #[.int .i64 x13_2, .int .i64 a1, .int .i64 x217002_27, .int .i64 (wrap64 (a4 + 3))] 35 (0, 0)) (by (with_reducible repeat (first | refine blk_drewN ?_ _ | refine blk_drew ?_ | refine blk_alloc ?_ _)); exact BK216.out) k_ hk)); (case aO => exact (by (with_reducible repeat (first | apply Kd.R_alloc | apply Kd.R_drewN | apply Kd.R_drew)); exact HO_12.out)); (case aS => exact (below_size (by repeat (first | (with_reducible first | exact HB.out | apply below_alloc | apply pw_below_drewN | apply below_drew1 | refine below_set ?_ GE216.out) | exact HB.out)))); (case aL => have := LMc54.out; omega); intro v232 w56 ho hb hg hat; rw [← Ny231.out] at ho; have n0_ := Aside0.mk (blk_grown (g := gb216) (o := .cells #[.int .i64 x13_2, .int .i64 a1, .int .i64 x217002_27, .int .i64 (wrap64 (a4 + 3))] 35 (0, 0)) (by (with_reducible repeat (first | refine blk_drewN ?_ _ | refine blk_drew ?_ | refine blk_alloc ?_ _)); exact BK216.out) hg (Kd.R_away HO_12.out (fun _ hk => hk))); have n1_ := Aside0.mk (hb); have n2_ := Aside0.mk (ho); clear BK216; clear HB; clear HO_12; have BK216 := n0_; have HB := n1_; have HO233 := n2_; clear n0_ n1_ n2_; clear ho hb hg hat))
                                    repeat (go_quiet (first | ((with_reducible refine gate_builtin (b := .append) (xs := #[.tmp 112, .tmp 114]) rfl ?_); at_builtin; refine Kd.R_append k35 (w0 := w) w.heap.size rfl (.tmp 112) (.tmp 114) 22 35 (.agg #[(.int .i64 0), (.int .i64 0), (.int .i64 0), (.int .i64 0)]) 32 rfl Try.underlying22 info35 rfl (by decide) (by omega) u12 x12_2 (⟨x13_2, a1, x217002_27, (wrap64 (a4 + 3))⟩ : S35) [.int .i64 x13_2, .int .i64 a1, .int .i64 x217002_27, .int .i64 (wrap64 (a4 + 3))] (fun k_ => k_ ≠ gb216) (fun _ => False) rfl rfl ?aP (fun _ hk => hk.elim) ?aF ?aO ?aB ?aS ?aL ?_; (case aP => exact k35_mkM _ _ _ (⟨x13_2, a1, x217002_27, (wrap64 (a4 + 3))⟩ : S35)); (case aB => exact (by repeat (first | (with_reducible first | exact HB.out | apply below_alloc | apply pw_below_drewN | apply below_drew1 | refine below_set ?_ GE216.out) | exact HB.out))); (case aF => exact (fun k_ hk => Kd.freshB (g := gb216) (o := .cells #[.int .i64 x13_2, .int .i64 a1, .int .i64 x217002_27, .int .i64 (wrap64 (a4 + 3))] 35 (0, 0)) (by (with_reducible repeat (first | refine blk_drewN ?_ _ | refine blk_drew ?_ | refine blk_alloc ?_ _)); exact BK216.out) k_ hk)); (case aO => exact (by (with_reducible repeat (first | apply Kd.R_alloc | apply Kd.R_drewN | apply Kd.R_drew)); exact HO_12.out)); (case aS => exact (below_size (by repeat (first | (with_reducible first | exact HB.out | apply below_alloc | apply pw_below_drewN | apply below_drew1 | refine below_set ?_ GE216.out) | exact HB.out)))); (case aL => have := LMc54.out; omega); intro v232 w56 ho hb hg hat; rw [← Ny231.out] at ho; have n0_ := Aside0.mk (blk_grown (g := gb216) (o := .cells #[.int .i64 x13_2, .int .i64 a1, .int .i64 x217002_27, .int .i64 (wrap64 (a4 + 3))] 35 (0, 0)) (by (with_reducible repeat (first | refine blk_drewN ?_ _ | refine blk_drew ?_ | refine blk_alloc ?_ _)); exact BK216.out) hg (Kd.R_away HO_12.out (fun _ hk => hk))); have n1_ := Aside0.mk (hb); have n2_ := Aside0.mk (ho); clear BK216; clear HB; clear HO_12; have BK216 := n0_; have HB := n1_; have HO233 := n2_; clear n0_ n1_ n2_; clear ho hb hg hat)); try go_wp2_with (first | ((with_reducible refine gate_builtin (b := .append) (xs := #[.tmp 112, .tmp 114]) rfl ?_); at_builtin; refine Kd.R_append k35 (w0 := w) w.heap.size rfl (.tmp 112) (.tmp 114) 22 35 (.agg #[(.int .i64 0), (.int .i64 0), (.int .i64 0), (.int .i64 0)]) 32 rfl Try.underlying22 info35 rfl (by decide) (by omega) u12 x12_2 (⟨x13_2, a1, x217002_27, (wrap64 (a4 + 3))⟩ : S35) [.int .i64 x13_2, .int .i64 a1, .int .i64 x217002_27, .int .i64 (wrap64 (a4 + 3))] (fun k_ => k_ ≠ gb216) (fun _ => False) rfl rfl ?aP (fun _ hk => hk.elim) ?aF ?aO ?aB ?aS ?aL ?_; (case aP => exact k35_mkM _ _ _ (⟨x13_2, a1, x217002_27, (wrap64 (a4 + 3))⟩ : S35)); (case aB => exact (by repeat (first | (with_reducible first | exact HB.out | apply below_alloc | apply pw_below_drewN | apply below_drew1 | refine below_set ?_ GE216.out) | exact HB.out))); (case aF => exact (fun k_ hk => Kd.freshB (g := gb216) (o := .cells #[.int .i64 x13_2, .int .i64 a1, .int .i64 x217002_27, .int .i64 (wrap64 (a4 + 3))] 35 (0, 0)) (by (with_reducible repeat (first | refine blk_drewN ?_ _ | refine blk_drew ?_ | refine blk_alloc ?_ _)); exact BK216.out) k_ hk)); (case aO => exact (by (with_reducible repeat (first | apply Kd.R_alloc | apply Kd.R_drewN | apply Kd.R_drew)); exact HO_12.out)); (case aS => exact (below_size (by repeat (first | (with_reducible first | exact HB.out | apply below_alloc | apply pw_below_drewN | apply below_drew1 | refine below_set ?_ GE216.out) | exact HB.out)))); (case aL => have := LMc54.out; omega); intro v232 w56 ho hb hg hat; rw [← Ny231.out] at ho; have n0_ := Aside0.mk (blk_grown (g := gb216) (o := .cells #[.int .i64 x13_2, .int .i64 a1, .int .i64 x217002_27, .int .i64 (wrap64 (a4 + 3))] 35 (0, 0)) (by (with_reducible repeat (first | refine blk_drewN ?_ _ | refine blk_drew ?_ | refine blk_alloc ?_ _)); exact BK216.out) hg (Kd.R_away HO_12.out (fun _ hk => hk))); have n1_ := Aside0.mk (hb); have n2_ := Aside0.mk (ho); clear BK216; clear HB; clear HO_12; have BK216 := n0_; have HB := n1_; have HO233 := n2_; clear n0_ n1_ n2_; clear ho hb hg hat)))
                                    go_roundg kj34
                                    case measure => have := HJ5.out; have := HK2.out; have := HJ27.out; have := HJ34.out; omega
                                    case rel => exact ⟨(y231), (wrap64 (x13_2 + 1)), (by first | rfl | (simp; done) | (simp [*]; done)), H', ⟨by have := HJ5.out; have := HK2.out; have := HJ27.out; have := HJ34.out; omega⟩, ⟨by (with_reducible repeat (first | apply Kd.R_alloc | apply Kd.R_drewN | apply Kd.R_drew)); exact Kd.R_mono HO233.out (fun _ hk => trivial)⟩, ⟨by repeat (first | (with_reducible first | exact HB.out | apply below_alloc | apply pw_below_drewN | apply below_drew1 | refine below_set ?_ GE216.out) | exact HB.out)⟩⟩
                                  · rw [if_neg c54] at H
                                    exact absurd H (by simp)
                            · rw [if_neg c45] at H
                              exact absurd H (by simp)
                          · rw [if_neg c44] at H
                            exact absurd H (by simp)
                        · rw [if_neg c43] at H
                          have c43b0 : decide (0 ≤ t214) = false := decide_eq_false c43
                          clear c43
                          by_cases c57 : x12_2.length < 4398046511104
                          · rw [if_pos c57] at H
                            have LMc57 := Aside0.mk c57
                            clear c57
                            obtain ⟨y234, hy234⟩ : ∃ y_ : List (S35), y_ = (x12_2 ++ [(⟨x13_2, a1, x217002_27, (wrap64 (a4 + 3))⟩ : S35)]) := ⟨_, rfl⟩
                            replace H : (slotmeshref21_Learn.l0 kj34 l0 a1 a2 l3 a4 y234 (wrap64 (x13_2 + 1))) = some (r1, r2) := by first | (rw [hy234]; with_reducible exact H) | (have H2_ := (Option.bind_some _ _).symm.trans H; rw [hy234]; with_reducible exact H2_) | (have H2_ := (Option.bind_some _ _).symm.trans H; with_reducible exact H2_) | with_reducible exact H | (rw [hy234]; exact H) | exact H
                            have Ny234 := Aside0.mk hy234
                            clear hy234
                            have H' := Aside0.mk H
                            clear H
                            have hcz58_0 : wc.cell? ⟨gb216, 0, none⟩ = some (.int .i64 x13_2) := (blk_cell BK216.out 0).trans rfl
                            have hcz58_1 : wc.cell? ⟨gb216, 1, none⟩ = some (.int .i64 a1) := (blk_cell BK216.out 1).trans rfl
                            have hcz58_2 : wc.cell? ⟨gb216, 2, none⟩ = some (.int .i64 x217002_27) := (blk_cell BK216.out 2).trans rfl
                            have hcz58_3 : wc.cell? ⟨gb216, 3, none⟩ = some (.int .i64 (wrap64 (a4 + 3))) := (blk_cell BK216.out 3).trans rfl
                            have hfz58_0 := blk_frozen BK216.out 0
                            have hfz58_1 := blk_frozen BK216.out 1
                            have hfz58_2 := blk_frozen BK216.out 2
                            have hfz58_3 := blk_frozen BK216.out 3
                            go_wp2_with (first | ((with_reducible refine gate_builtin (b := .append) (xs := #[.tmp 112, .tmp 114]) rfl ?_); at_builtin; refine Kd.R_append k35 (w0 := w) w.heap.size rfl (.tmp 112) (.tmp 114) 22 35 (.agg #[(.int .i64 0), (.int .i64 0), (.int .i64 0), (.int .i64 0)]) 32 rfl Try.underlying22 info35 rfl (by decide) (by omega) u12 x12_2 (⟨x13_2, a1, x217002_27, (wrap64 (a4 + 3))⟩ : S35) [.int .i64 x13_2, .int .i64 a1, .int .i64 x217002_27, .int .i64 (wrap64 (a4 + 3))] (fun k_ => k_ ≠ gb216) (fun _ => False) rfl rfl ?aP (fun _ hk => hk.elim) ?aF ?aO ?aB ?aS ?aL ?_; (case aP => exact k35_mkM _ _ _ (⟨x13_2, a1, x217002_27, (wrap64 (a4 + 3))⟩ : S35)); (case aB => exact (by repeat (first | (with_reducible first | exact HB.out | apply below_alloc | apply pw_below_drewN | apply below_drew1 | refine below_set ?_ GE216.out) | exact HB.out))); (case aF => exact (fun k_ hk => Kd.freshB (g := gb216) (o := .cells #[.int .i64 x13_2, .int .i64 a1, .int .i64 x217002_27, .int .i64 (wrap64 (a4 + 3))] 35 (0, 0)) (by (with_reducible repeat (first | refine blk_drewN ?_ _ | refine blk_drew ?_ | refine blk_alloc ?_ _)); exact BK216.out) k_ hk)); (case aO => exact (by (with_reducible repeat (first | apply Kd.R_alloc | apply Kd.R_drewN | apply Kd.R_drew)); exact HO_12.out)); (case aS => exact (below_size (by repeat (first | (with_reducible first | exact HB.out | apply below_alloc | apply pw_below_drewN | apply below_drew1 | refine below_set ?_ GE216.out) | exact HB.out)))); (case aL => have := LMc57.out; omega); intro v235 w59 ho hb hg hat; rw [← Ny234.out] at ho; have n0_ := Aside0.mk (blk_grown (g := gb216) (o := .cells #[.int .i64 x13_2, .int .i64 a1, .int .i64 x217002_27, .int .i64 (wrap64 (a4 + 3))] 35 (0, 0)) (by (with_reducible repeat (first | refine blk_drewN ?_ _ | refine blk_drew ?_ | refine blk_alloc ?_ _)); exact BK216.out) hg (Kd.R_away HO_12.out (fun _ hk => hk))); have n1_ := Aside0.mk (hb); have n2_ := Aside0.mk (ho); clear BK216; clear HB; clear HO_12; have BK216 := n0_; have HB := n1_; have HO236 := n2_; clear n0_ n1_ n2_; clear ho hb hg hat))
                            repeat (go_quiet (first | ((with_reducible refine gate_builtin (b := .append) (xs := #[.tmp 112, .tmp 114]) rfl ?_); at_builtin; refine Kd.R_append k35 (w0 := w) w.heap.size rfl (.tmp 112) (.tmp 114) 22 35 (.agg #[(.int .i64 0), (.int .i64 0), (.int .i64 0), (.int .i64 0)]) 32 rfl Try.underlying22 info35 rfl (by decide) (by omega) u12 x12_2 (⟨x13_2, a1, x217002_27, (wrap64 (a4 + 3))⟩ : S35) [.int .i64 x13_2, .int .i64 a1, .int .i64 x217002_27, .int .i64 (wrap64 (a4 + 3))] (fun k_ => k_ ≠ gb216) (fun _ => False) rfl rfl ?aP (fun _ hk => hk.elim) ?aF ?aO ?aB ?aS ?aL ?_; (case aP => exact k35_mkM _ _ _ (⟨x13_2, a1, x217002_27, (wrap64 (a4 + 3))⟩ : S35)); (case aB => exact (by repeat (first | (with_reducible first | exact HB.out | apply below_alloc | apply pw_below_drewN | apply below_drew1 | refine below_set ?_ GE216.out) | exact HB.out))); (case aF => exact (fun k_ hk => Kd.freshB (g := gb216) (o := .cells #[.int .i64 x13_2, .int .i64 a1, .int .i64 x217002_27, .int .i64 (wrap64 (a4 + 3))] 35 (0, 0)) (by (with_reducible repeat (first | refine blk_drewN ?_ _ | refine blk_drew ?_ | refine blk_alloc ?_ _)); exact BK216.out) k_ hk)); (case aO => exact (by (with_reducible repeat (first | apply Kd.R_alloc | apply Kd.R_drewN | apply Kd.R_drew)); exact HO_12.out)); (case aS => exact (below_size (by repeat (first | (with_reducible first | exact HB.out | apply below_alloc | apply pw_below_drewN | apply below_drew1 | refine below_set ?_ GE216.out) | exact HB.out)))); (case aL => have := LMc57.out; omega); intro v235 w59 ho hb hg hat; rw [← Ny234.out] at ho; have n0_ := Aside0.mk (blk_grown (g := gb216) (o := .cells #[.int .i64 x13_2, .int .i64 a1, .int .i64 x217002_27, .int .i64 (wrap64 (a4 + 3))] 35 (0, 0)) (by (with_reducible repeat (first | refine blk_drewN ?_ _ | refine blk_drew ?_ | refine blk_alloc ?_ _)); exact BK216.out) hg (Kd.R_away HO_12.out (fun _ hk => hk))); have n1_ := Aside0.mk (hb); have n2_ := Aside0.mk (ho); clear BK216; clear HB; clear HO_12; have BK216 := n0_; have HB := n1_; have HO236 := n2_; clear n0_ n1_ n2_; clear ho hb hg hat)); try go_wp2_with (first | ((with_reducible refine gate_builtin (b := .append) (xs := #[.tmp 112, .tmp 114]) rfl ?_); at_builtin; refine Kd.R_append k35 (w0 := w) w.heap.size rfl (.tmp 112) (.tmp 114) 22 35 (.agg #[(.int .i64 0), (.int .i64 0), (.int .i64 0), (.int .i64 0)]) 32 rfl Try.underlying22 info35 rfl (by decide) (by omega) u12 x12_2 (⟨x13_2, a1, x217002_27, (wrap64 (a4 + 3))⟩ : S35) [.int .i64 x13_2, .int .i64 a1, .int .i64 x217002_27, .int .i64 (wrap64 (a4 + 3))] (fun k_ => k_ ≠ gb216) (fun _ => False) rfl rfl ?aP (fun _ hk => hk.elim) ?aF ?aO ?aB ?aS ?aL ?_; (case aP => exact k35_mkM _ _ _ (⟨x13_2, a1, x217002_27, (wrap64 (a4 + 3))⟩ : S35)); (case aB => exact (by repeat (first | (with_reducible first | exact HB.out | apply below_alloc | apply pw_below_drewN | apply below_drew1 | refine below_set ?_ GE216.out) | exact HB.out))); (case aF => exact (fun k_ hk => Kd.freshB (g := gb216) (o := .cells #[.int .i64 x13_2, .int .i64 a1, .int .i64 x217002_27, .int .i64 (wrap64 (a4 + 3))] 35 (0, 0)) (by (with_reducible repeat (first | refine blk_drewN ?_ _ | refine blk_drew ?_ | refine blk_alloc ?_ _)); exact BK216.out) k_ hk)); (case aO => exact (by (with_reducible repeat (first | apply Kd.R_alloc | apply Kd.R_drewN | apply Kd.R_drew)); exact HO_12.out)); (case aS => exact (below_size (by repeat (first | (with_reducible first | exact HB.out | apply below_alloc | apply pw_below_drewN | apply below_drew1 | refine below_set ?_ GE216.out) | exact HB.out)))); (case aL => have := LMc57.out; omega); intro v235 w59 ho hb hg hat; rw [← Ny234.out] at ho; have n0_ := Aside0.mk (blk_grown (g := gb216) (o := .cells #[.int .i64 x13_2, .int .i64 a1, .int .i64 x217002_27, .int .i64 (wrap64 (a4 + 3))] 35 (0, 0)) (by (with_reducible repeat (first | refine blk_drewN ?_ _ | refine blk_drew ?_ | refine blk_alloc ?_ _)); exact BK216.out) hg (Kd.R_away HO_12.out (fun _ hk => hk))); have n1_ := Aside0.mk (hb); have n2_ := Aside0.mk (ho); clear BK216; clear HB; clear HO_12; have BK216 := n0_; have HB := n1_; have HO236 := n2_; clear n0_ n1_ n2_; clear ho hb hg hat)))
                            go_roundg kj34
                            case measure => have := HJ5.out; have := HK2.out; have := HJ27.out; have := HJ34.out; omega
                            case rel => exact ⟨(y234), (wrap64 (x13_2 + 1)), (by first | rfl | (simp; done) | (simp [*]; done)), H', ⟨by have := HJ5.out; have := HK2.out; have := HJ27.out; have := HJ34.out; omega⟩, ⟨by (with_reducible repeat (first | apply Kd.R_alloc | apply Kd.R_drewN | apply Kd.R_drew)); exact Kd.R_mono HO236.out (fun _ hk => trivial)⟩, ⟨by repeat (first | (with_reducible first | exact HB.out | apply below_alloc | apply pw_below_drewN | apply below_drew1 | refine below_set ?_ GE216.out) | exact HB.out)⟩⟩
                          · rw [if_neg c57] at H
                            exact absurd H (by simp)
            · rw [if_neg c25] at H
              have c25b0 : decide (x13_2 < 60) = false := decide_eq_false c25
              clear c25
              simp only [Option.some.injEq, Prod.mk.injEq] at H
              obtain ⟨rfl, rfl⟩ := H
              go_wp2
              repeat (go_quiet (fail); try go_wp2)
              go_ret2
              exact ⟨_, by first | rfl | (simp [errW_none, errW_some] <;> rfl) | (simp [*, errW_none, errW_some] <;> rfl), by (with_reducible repeat (first | apply Kd.R_alloc | apply Kd.R_drewN | apply Kd.R_drew)); exact HO_12.out, by repeat (first | (with_reducible first | exact HB.out | apply below_alloc | apply pw_below_drewN | apply below_drew1) | exact HB.out)⟩

end Go.Proofs.Ythobfempjekhdaa.Px
