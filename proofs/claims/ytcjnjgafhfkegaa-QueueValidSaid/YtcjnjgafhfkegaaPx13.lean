/- Walks of functions of this seat, written by a program of this workplace out of the translation. -/
import Derived.Test.YtcjnjgafhfkegaaPx0
import Derived.Test.YtcjnjgafhfkegaaPx1
import Derived.Test.YtcjnjgafhfkegaaPx4
import Derived.Test.YtcjnjgafhfkegaaPx5
import Derived.Test.YtcjnjgafhfkegaaPx6
import Derived.Test.YtcjnjgafhfkegaaPx7
import Derived.Test.YtcjnjgafhfkegaaPx8
import Derived.Test.YtcjnjgafhfkegaaPx9s
namespace Go.Proofs.Ytcjnjgafhfkegaa.Px
open Go.RowKit Go.Proofs.YtcjnjgafhfkegaaW.PrintWords Go.Proofs.YtcjnjgafhfkegaaW.PrintLast Go.Proofs.YtcjnjgafhfkegaaW.PrintMore
attribute [local go_sem] max2_int min2_int max_two min_two max_three min_three max_four min_four   -- for this text's walks alone
set_option linter.unusedVariables false
set_option linter.unusedSimpArgs false

attribute [local go_sem high] eqA26
/-! ### slotmeshlaw27_QueueValid: function 5 -/
mutual
def slotmeshlaw27_QueueValid.j0 : Nat → Int → Int → Int → Bool → Bool → List (S26) → Int → Int → Int → Int → Int → Option (Bool)
 | 0, _, _, _, _, _, _, _, _, _, _, _ => none
 | k + 1, x2, x3, x4, x11, x26, x363000, x364000, x364001, x364002, x364003, x364004 => if x26 = true then (some x11) else ((queue_Drop.f k x363000 x3 x4).bind fun t367 => (slotmeshlaw27_QueueValid.l0 k x2 x3 x4 x11 0 x363000 (x363000.length : Int) 0 x363000 x364000 x364001 x364002 x364003 x364004 t367))
def slotmeshlaw27_QueueValid.l0 : Nat → Int → Int → Int → Bool → Int → List (S26) → Int → Int → List (S26) → Int → Int → Int → Int → Int → List (S26) → Option (Bool)
 | 0, _, _, _, _, _, _, _, _, _, _, _, _, _, _, _ => none
 | k + 1, x2, x3, x4, x11, x13, x33, x34, x35, x363000, x364000, x364001, x364002, x364003, x364004, x371000 => if x35 < x34 then (if 0 ≤ x35 then (if x35 < (x33.length : Int) then (if ((rd_T26 x33 x35).f0) = x3 then (slotmeshlaw27_QueueValid.j2 k x2 x3 x4 x11 x13 x33 x34 x35 (((rd_T26 x33 x35).f1) == x4) x363000 x364000 x364001 x364002 x364003 x364004 x371000 ((rd_T26 x33 x35).f0) ((rd_T26 x33 x35).f1) ((rd_T26 x33 x35).f2) ((rd_T26 x33 x35).f3) ((rd_T26 x33 x35).f4)) else (slotmeshlaw27_QueueValid.j2 k x2 x3 x4 x11 x13 x33 x34 x35 false x363000 x364000 x364001 x364002 x364003 x364004 x371000 ((rd_T26 x33 x35).f0) ((rd_T26 x33 x35).f1) ((rd_T26 x33 x35).f2) ((rd_T26 x33 x35).f3) ((rd_T26 x33 x35).f4))) else (none)) else (none)) else (if x13 = (x371000.length : Int) then ((slotmeshref27_Valid.f k x371000).bind fun t374 => (slotmeshlaw27_QueueValid.j3 k x2 x11 (!t374) x363000 x364000 x364001 x364002 x364003 x364004)) else (slotmeshlaw27_QueueValid.j3 k x2 x11 true x363000 x364000 x364001 x364002 x364003 x364004))
def slotmeshlaw27_QueueValid.j2 : Nat → Int → Int → Int → Bool → Int → List (S26) → Int → Int → Bool → List (S26) → Int → Int → Int → Int → Int → List (S26) → Int → Int → Int → Int → Int → Option (Bool)
 | 0, _, _, _, _, _, _, _, _, _, _, _, _, _, _, _, _, _, _, _, _, _ => none
 | k + 1, x2, x3, x4, x11, x13, x33, x34, x35, x48, x363000, x364000, x364001, x364002, x364003, x364004, x371000, x373000, x373001, x373002, x373003, x373004 => if x48 = true then (slotmeshlaw27_QueueValid.l0 k x2 x3 x4 x11 x13 x33 x34 (wrap64 (x35 + 1)) x363000 x364000 x364001 x364002 x364003 x364004 x371000) else (if x13 ≥ (x371000.length : Int) then (some false) else (if 0 ≤ x13 then (if x13 < (x371000.length : Int) then (if (!(((rd_T26 x371000 x13).f0) == x373000) || (!(((rd_T26 x371000 x13).f1) == x373001) || (!(((rd_T26 x371000 x13).f2) == x373002) || (!(((rd_T26 x371000 x13).f3) == x373003) || (!(((rd_T26 x371000 x13).f4) == x373004)))))) = true then (some false) else (slotmeshlaw27_QueueValid.l0 k x2 x3 x4 x11 (wrap64 (x13 + 1)) x33 x34 (wrap64 (x35 + 1)) x363000 x364000 x364001 x364002 x364003 x364004 x371000)) else (none)) else (none)))
def slotmeshlaw27_QueueValid.j3 : Nat → Int → Bool → Bool → List (S26) → Int → Int → Int → Int → Int → Option (Bool)
 | 0, _, _, _, _, _, _, _, _, _ => none
 | k + 1, x2, x11, x75, x363000, x364000, x364001, x364002, x364003, x364004 => if x75 = true then (some false) else ((queue_Put.f k x363000 x364000 x364001 x364002 x364003 x364004 x2).bind fun bt375 => (if x11 = true then (if bt375.2 = 0 then ((slotmeshref27_Valid.f k bt375.1).bind fun t380 => (if t380 = true then (if (bt375.1.length : Int) = (wrap64 ((x363000.length : Int) + 1)) then ((queue_Drop.f k bt375.1 x364000 x364001).bind fun t381 => ((slotmeshref27_Same.f k t381 x363000).bind fun t384 => (some t384))) else (some false)) else (some false))) else (some true)) else (some false)))
end
def slotmeshlaw27_QueueValid.f (k : Nat) (l0_0 : List (S26)) (a1_0 : Int) (a1_1 : Int) (a1_2 : Int) (a1_3 : Int) (a1_4 : Int) (a2 : Int) (a3 : Int) (a4 : Int) : Option (Bool) := (slotmeshlaw27_head.f).bind fun t364 => ((slotmeshlaw27_short.f l0_0).bind fun t365 => (if t365 = true then ((slotmeshref27_Valid.f k l0_0).bind fun t366 => (slotmeshlaw27_QueueValid.j0 k a2 a3 a4 t364 (!t366) l0_0 a1_0 a1_1 a1_2 a1_3 a1_4)) else (slotmeshlaw27_QueueValid.j0 k a2 a3 a4 t364 true l0_0 a1_0 a1_1 a1_2 a1_3 a1_4)))
theorem slotmeshlaw27_QueueValid.mono_l : ∀ k, (∀ y0 y1 y2 y3 y4 y5 y6 y7 y8 y9 y10, LeO (slotmeshlaw27_QueueValid.j0 k y0 y1 y2 y3 y4 y5 y6 y7 y8 y9 y10) (slotmeshlaw27_QueueValid.j0 (k + 1) y0 y1 y2 y3 y4 y5 y6 y7 y8 y9 y10)) ∧ (∀ y0 y1 y2 y3 y4 y5 y6 y7 y8 y9 y10 y11 y12 y13 y14, LeO (slotmeshlaw27_QueueValid.l0 k y0 y1 y2 y3 y4 y5 y6 y7 y8 y9 y10 y11 y12 y13 y14) (slotmeshlaw27_QueueValid.l0 (k + 1) y0 y1 y2 y3 y4 y5 y6 y7 y8 y9 y10 y11 y12 y13 y14)) ∧ (∀ y0 y1 y2 y3 y4 y5 y6 y7 y8 y9 y10 y11 y12 y13 y14 y15 y16 y17 y18 y19 y20, LeO (slotmeshlaw27_QueueValid.j2 k y0 y1 y2 y3 y4 y5 y6 y7 y8 y9 y10 y11 y12 y13 y14 y15 y16 y17 y18 y19 y20) (slotmeshlaw27_QueueValid.j2 (k + 1) y0 y1 y2 y3 y4 y5 y6 y7 y8 y9 y10 y11 y12 y13 y14 y15 y16 y17 y18 y19 y20)) ∧ (∀ y0 y1 y2 y3 y4 y5 y6 y7 y8, LeO (slotmeshlaw27_QueueValid.j3 k y0 y1 y2 y3 y4 y5 y6 y7 y8) (slotmeshlaw27_QueueValid.j3 (k + 1) y0 y1 y2 y3 y4 y5 y6 y7 y8))
 | 0 => ⟨fun _ _ _ _ _ _ _ _ _ _ _ r h => by simp [slotmeshlaw27_QueueValid.j0] at h, fun _ _ _ _ _ _ _ _ _ _ _ _ _ _ _ r h => by simp [slotmeshlaw27_QueueValid.l0] at h, fun _ _ _ _ _ _ _ _ _ _ _ _ _ _ _ _ _ _ _ _ _ r h => by simp [slotmeshlaw27_QueueValid.j2] at h, fun _ _ _ _ _ _ _ _ _ r h => by simp [slotmeshlaw27_QueueValid.j3] at h⟩
 | k + 1 => by
  obtain ⟨ih0, ih1, ih2, ih3⟩ := slotmeshlaw27_QueueValid.mono_l k
  refine ⟨?_, ?_, ?_, ?_⟩
  ·intro y0 y1 y2 y3 y4 y5 y6 y7 y8 y9 y10
   unfold slotmeshlaw27_QueueValid.j0
   repeat' first
   | (with_reducible exact ih0 _ _ _ _ _ _ _ _ _ _ _)
   | (with_reducible exact ih1 _ _ _ _ _ _ _ _ _ _ _ _ _ _ _)
   | (with_reducible exact ih2 _ _ _ _ _ _ _ _ _ _ _ _ _ _ _ _ _ _ _ _ _)
   | (with_reducible exact ih3 _ _ _ _ _ _ _ _ _)
   | (with_reducible exact queue_Drop.mono _ _ _ _)
   | (with_reducible exact queue_Put.mono _ _ _ _ _ _ _ _)
   | (with_reducible exact slotmeshref27_Same.mono _ _ _)
   | (with_reducible exact slotmeshref27_Valid.mono _ _)
   | (with_reducible exact LeO.refl _)
   | (with_reducible exact LeO.none _)
   | (with_reducible refine LeO.ite ?_ ?_)
   | (with_reducible refine LeO.bind ?_ (fun _ => ?_))
   | exact ih0 _ _ _ _ _ _ _ _ _ _ _
   | exact ih1 _ _ _ _ _ _ _ _ _ _ _ _ _ _ _
   | exact ih2 _ _ _ _ _ _ _ _ _ _ _ _ _ _ _ _ _ _ _ _ _
   | exact ih3 _ _ _ _ _ _ _ _ _
   | exact queue_Drop.mono _ _ _ _
   | exact queue_Put.mono _ _ _ _ _ _ _ _
   | exact slotmeshref27_Same.mono _ _ _
   | exact slotmeshref27_Valid.mono _ _
   | exact LeO.none _
   | refine LeO.ite ?_ ?_
   | refine LeO.bind ?_ (fun _ => ?_)
  ·intro y0 y1 y2 y3 y4 y5 y6 y7 y8 y9 y10 y11 y12 y13 y14
   unfold slotmeshlaw27_QueueValid.l0
   repeat' first
   | (with_reducible exact ih0 _ _ _ _ _ _ _ _ _ _ _)
   | (with_reducible exact ih1 _ _ _ _ _ _ _ _ _ _ _ _ _ _ _)
   | (with_reducible exact ih2 _ _ _ _ _ _ _ _ _ _ _ _ _ _ _ _ _ _ _ _ _)
   | (with_reducible exact ih3 _ _ _ _ _ _ _ _ _)
   | (with_reducible exact queue_Drop.mono _ _ _ _)
   | (with_reducible exact queue_Put.mono _ _ _ _ _ _ _ _)
   | (with_reducible exact slotmeshref27_Same.mono _ _ _)
   | (with_reducible exact slotmeshref27_Valid.mono _ _)
   | (with_reducible exact LeO.refl _)
   | (with_reducible exact LeO.none _)
   | (with_reducible refine LeO.ite ?_ ?_)
   | (with_reducible refine LeO.bind ?_ (fun _ => ?_))
   | exact ih0 _ _ _ _ _ _ _ _ _ _ _
   | exact ih1 _ _ _ _ _ _ _ _ _ _ _ _ _ _ _
   | exact ih2 _ _ _ _ _ _ _ _ _ _ _ _ _ _ _ _ _ _ _ _ _
   | exact ih3 _ _ _ _ _ _ _ _ _
   | exact queue_Drop.mono _ _ _ _
   | exact queue_Put.mono _ _ _ _ _ _ _ _
   | exact slotmeshref27_Same.mono _ _ _
   | exact slotmeshref27_Valid.mono _ _
   | exact LeO.none _
   | refine LeO.ite ?_ ?_
   | refine LeO.bind ?_ (fun _ => ?_)
  ·intro y0 y1 y2 y3 y4 y5 y6 y7 y8 y9 y10 y11 y12 y13 y14 y15 y16 y17 y18 y19 y20
   unfold slotmeshlaw27_QueueValid.j2
   repeat' first
   | (with_reducible exact ih0 _ _ _ _ _ _ _ _ _ _ _)
   | (with_reducible exact ih1 _ _ _ _ _ _ _ _ _ _ _ _ _ _ _)
   | (with_reducible exact ih2 _ _ _ _ _ _ _ _ _ _ _ _ _ _ _ _ _ _ _ _ _)
   | (with_reducible exact ih3 _ _ _ _ _ _ _ _ _)
   | (with_reducible exact queue_Drop.mono _ _ _ _)
   | (with_reducible exact queue_Put.mono _ _ _ _ _ _ _ _)
   | (with_reducible exact slotmeshref27_Same.mono _ _ _)
   | (with_reducible exact slotmeshref27_Valid.mono _ _)
   | (with_reducible exact LeO.refl _)
   | (with_reducible exact LeO.none _)
   | (with_reducible refine LeO.ite ?_ ?_)
   | (with_reducible refine LeO.bind ?_ (fun _ => ?_))
   | exact ih0 _ _ _ _ _ _ _ _ _ _ _
   | exact ih1 _ _ _ _ _ _ _ _ _ _ _ _ _ _ _
   | exact ih2 _ _ _ _ _ _ _ _ _ _ _ _ _ _ _ _ _ _ _ _ _
   | exact ih3 _ _ _ _ _ _ _ _ _
   | exact queue_Drop.mono _ _ _ _
   | exact queue_Put.mono _ _ _ _ _ _ _ _
   | exact slotmeshref27_Same.mono _ _ _
   | exact slotmeshref27_Valid.mono _ _
   | exact LeO.none _
   | refine LeO.ite ?_ ?_
   | refine LeO.bind ?_ (fun _ => ?_)
  ·intro y0 y1 y2 y3 y4 y5 y6 y7 y8
   unfold slotmeshlaw27_QueueValid.j3
   repeat' first
   | (with_reducible exact ih0 _ _ _ _ _ _ _ _ _ _ _)
   | (with_reducible exact ih1 _ _ _ _ _ _ _ _ _ _ _ _ _ _ _)
   | (with_reducible exact ih2 _ _ _ _ _ _ _ _ _ _ _ _ _ _ _ _ _ _ _ _ _)
   | (with_reducible exact ih3 _ _ _ _ _ _ _ _ _)
   | (with_reducible exact queue_Drop.mono _ _ _ _)
   | (with_reducible exact queue_Put.mono _ _ _ _ _ _ _ _)
   | (with_reducible exact slotmeshref27_Same.mono _ _ _)
   | (with_reducible exact slotmeshref27_Valid.mono _ _)
   | (with_reducible exact LeO.refl _)
   | (with_reducible exact LeO.none _)
   | (with_reducible refine LeO.ite ?_ ?_)
   | (with_reducible refine LeO.bind ?_ (fun _ => ?_))
   | exact ih0 _ _ _ _ _ _ _ _ _ _ _
   | exact ih1 _ _ _ _ _ _ _ _ _ _ _ _ _ _ _
   | exact ih2 _ _ _ _ _ _ _ _ _ _ _ _ _ _ _ _ _ _ _ _ _
   | exact ih3 _ _ _ _ _ _ _ _ _
   | exact queue_Drop.mono _ _ _ _
   | exact queue_Put.mono _ _ _ _ _ _ _ _
   | exact slotmeshref27_Same.mono _ _ _
   | exact slotmeshref27_Valid.mono _ _
   | exact LeO.none _
   | refine LeO.ite ?_ ?_
   | refine LeO.bind ?_ (fun _ => ?_)
theorem slotmeshlaw27_QueueValid.mono : ∀ a0 a1 a2 a3 a4 a5 a6 a7 a8 k, LeO (slotmeshlaw27_QueueValid.f k a0 a1 a2 a3 a4 a5 a6 a7 a8) (slotmeshlaw27_QueueValid.f (k + 1) a0 a1 a2 a3 a4 a5 a6 a7 a8) := by
 intro a0 a1 a2 a3 a4 a5 a6 a7 a8 k
 obtain ⟨ih0, ih1, ih2, ih3⟩ := slotmeshlaw27_QueueValid.mono_l k
 unfold slotmeshlaw27_QueueValid.f
 repeat' first
   | (with_reducible exact ih0 _ _ _ _ _ _ _ _ _ _ _)
   | (with_reducible exact ih1 _ _ _ _ _ _ _ _ _ _ _ _ _ _ _)
   | (with_reducible exact ih2 _ _ _ _ _ _ _ _ _ _ _ _ _ _ _ _ _ _ _ _ _)
   | (with_reducible exact ih3 _ _ _ _ _ _ _ _ _)
   | (with_reducible exact queue_Drop.mono _ _ _ _)
   | (with_reducible exact queue_Put.mono _ _ _ _ _ _ _ _)
   | (with_reducible exact slotmeshref27_Same.mono _ _ _)
   | (with_reducible exact slotmeshref27_Valid.mono _ _)
   | (with_reducible exact LeO.refl _)
   | (with_reducible exact LeO.none _)
   | (with_reducible refine LeO.ite ?_ ?_)
   | (with_reducible refine LeO.bind ?_ (fun _ => ?_))
   | exact ih0 _ _ _ _ _ _ _ _ _ _ _
   | exact ih1 _ _ _ _ _ _ _ _ _ _ _ _ _ _ _
   | exact ih2 _ _ _ _ _ _ _ _ _ _ _ _ _ _ _ _ _ _ _ _ _
   | exact ih3 _ _ _ _ _ _ _ _ _
   | exact queue_Drop.mono _ _ _ _
   | exact queue_Put.mono _ _ _ _ _ _ _ _
   | exact slotmeshref27_Same.mono _ _ _
   | exact slotmeshref27_Valid.mono _ _
   | exact LeO.none _
   | refine LeO.ite ?_ ?_
   | refine LeO.bind ?_ (fun _ => ?_)
def slotmeshlaw27_QueueValid.T10 : Bool × List (List Nat × List Nat) := (true, [([], []), ([], []), ([1], [1]), ([2], [2]), ([0, 3], [0, 3]), ([4], [4]), ([5], [5]), ([6, 5], [5, 6]), ([5], [5]), ([7, 8, 5], [5, 7, 8]), ([9, 5], [5, 9]), ([5], [5]), ([10, 11, 5], [5, 10, 11]), ([5, 12], [5, 12])])
def slotmeshlaw27_QueueValid.B10 : List Nat := [0, 0, 2, 6, 15, 31, 63, 127, 63, 511, 1023, 63, 4095, 8191]
theorem slotmeshlaw27_QueueValid.tab10 : rtab .any (opsOf Try.f5 10) = slotmeshlaw27_QueueValid.T10 := by kernel_rfl
theorem slotmeshlaw27_QueueValid.bits10 : waitsOk slotmeshlaw27_QueueValid.T10.2 slotmeshlaw27_QueueValid.B10 = true := by kernel_rfl
def slotmeshlaw27_QueueValid.T17 : Bool × List (List Nat × List Nat) := (true, [([], []), ([0], [0]), ([1], [1]), ([2, 1], [1, 2]), ([3, 1, 1], [1, 3]), ([4], [4]), ([5, 4, 4], [4, 5]), ([6, 6, 4], [4, 6]), ([7], [7]), ([8, 7], [7, 8]), ([9, 7], [7, 9]), ([7], [7]), ([11, 7], [7, 11]), ([12, 7], [7, 12]), ([13, 7], [7, 13]), ([10, 14, 7], [7, 10, 14]), ([7, 15, 4], [4, 7, 15]), ([16, 7, 4], [4, 16]), ([17], [17]), ([17], [17]), ([19, 17], [17, 19]), ([17], [17]), ([21, 17], [17, 21]), ([18, 20, 22, 17, 17], [17, 18, 20, 22]), ([17], [17]), ([23, 24, 23, 17], [17, 23, 24]), ([17, 25, 4], [4, 17, 25]), ([4, 26, 1], [1, 4, 26]), ([1, 27], [1, 27]), ([28, 25, 0, 1, 2, 3, 4, 5, 6, 7, 8, 9, 10, 11, 12, 13, 14, 15, 16, 17, 18, 19, 20, 21, 22, 23, 24, 25, 26, 27, 28], [28])])
def slotmeshlaw27_QueueValid.B17 : List Nat := [0, 1, 3, 7, 15, 31, 63, 127, 255, 511, 1023, 255, 2303, 6399, 14591, 32767, 65535, 131071, 262143, 262143, 786431, 262143, 2359295, 8388607, 262143, 33554431, 67108863, 134217727, 268435455, 536870911]
theorem slotmeshlaw27_QueueValid.tab17 : rtab .any (opsOf Try.f5 17) = slotmeshlaw27_QueueValid.T17 := by kernel_rfl
theorem slotmeshlaw27_QueueValid.bits17 : waitsOk slotmeshlaw27_QueueValid.T17.2 slotmeshlaw27_QueueValid.B17 = true := by kernel_rfl
set_option maxHeartbeats 8000000 in
set_option maxRecDepth 100000 in
theorem slotmeshlaw27_QueueValid.calls (k : Nat) (A0_0 : Option Addr) (c0_0 : Nat) (l0_0 : List (S26)) (a1_0 : Int) (a1_1 : Int) (a1_2 : Int) (a1_3 : Int) (a1_4 : Int) (a2 : Int) (a3 : Int) (a4 : Int) (r : Bool) (w : World) (hrt : r = true) (hr0_0 : Kd.C k26 w A0_0 l0_0.length l0_0) (hc0_0 : l0_0.length ≤ c0_0) (h : slotmeshlaw27_QueueValid.f k l0_0 a1_0 a1_1 a1_2 a1_3 a1_4 a2 a3 a4 = some r) :
  Calls Try.prog 5 #[.agg #[.slice A0_0 l0_0.length c0_0], .agg #[.int .i64 a1_0, .int .i64 a1_1, .int .i64 a1_2, .int .i64 a1_3, .int .i64 a1_4], .int .i64 a2, .int .i64 a3, .int .i64 a4] w fun e w' => e = .returned (.bool r) ∧ Below w.heap.size w w' := by
 have hu24 := Try.underlying24
 have hu26 := Try.underlying26
 have HR0_0 := Aside0.mk hr0_0
 have HC0_0 := Aside0.mk hc0_0
 clear hr0_0 hc0_0
 have HB := Aside0.mk (Below.refl w.heap.size w)
 have HRT := Aside0.mk hrt
 clear hrt
 have H : ((slotmeshlaw27_head.f).bind fun t364 => ((slotmeshlaw27_short.f l0_0).bind fun t365 => (if t365 = true then ((slotmeshref27_Valid.f k l0_0).bind fun t366 => (slotmeshlaw27_QueueValid.j0 k a2 a3 a4 t364 (!t366) l0_0 a1_0 a1_1 a1_2 a1_3 a1_4)) else (slotmeshlaw27_QueueValid.j0 k a2 a3 a4 t364 true l0_0 a1_0 a1_1 a1_2 a1_3 a1_4)))) = some r := h
 clear h
 replace H := Option.bind_eq_some_iff.mp H
 obtain ⟨t364, A60, H⟩ := H
 replace H : ((slotmeshlaw27_short.f l0_0).bind fun t365 => (if t365 = true then ((slotmeshref27_Valid.f k l0_0).bind fun t366 => (slotmeshlaw27_QueueValid.j0 k a2 a3 a4 t364 (!t366) l0_0 a1_0 a1_1 a1_2 a1_3 a1_4)) else (slotmeshlaw27_QueueValid.j0 k a2 a3 a4 t364 true l0_0 a1_0 a1_1 a1_2 a1_3 a1_4))) = some r := H
 have A6 := Aside0.mk A60
 clear A60
 have HC7 := Aside0.mk H
 clear H
 go_enter Try.func5, Try.ntmps5
 go_upto_region 2 with (first | ((with_reducible refine gate_dst (N := 5) rfl ?_); (try (refine gate_guard (by rfl) ?_; dsimp only)); refine box_event ?hg (N := 5) ?hd (cs := #[.slice A0_0 l0_0.length c0_0]) (t := 24) ?hr ?_; (case hd => rfl); (case hg => rfl); (case hr => first | (go_simp; done) | (go_simp; rfl)); intro gb362 hg w8 hbox hb; have n0_ := Aside0.mk (below_step (by with_reducible exact HB.out) hb); have n1_ := Aside0.mk (hbox); have n2_ := Aside0.mk ((by rw [hg]; exact (below_size (by with_reducible exact HB.out)) : w.heap.size ≤ gb362)); have n3_ := Aside0.mk ((by rw [hg]; exact (below_size (by with_reducible exact HB.out)) : w.heap.size ≤ gb362)); clear HB; have HB := n0_; have BK362 := n1_; have GW362 := n2_; have GE362 := n3_; clear n0_ n1_ n2_ n3_; clear hb hbox hg) | ((with_reducible refine gate_dst (N := 6) rfl ?_); (try (refine gate_guard (by rfl) ?_; dsimp only)); refine box_event ?hg (N := 6) ?hd (cs := #[.int .i64 a1_0, .int .i64 a1_1, .int .i64 a1_2, .int .i64 a1_3, .int .i64 a1_4]) (t := 26) ?hr ?_; (case hd => rfl); (case hg => rfl); (case hr => first | (go_simp; done) | (go_simp; rfl)); intro gb363 hg w9 hbox hb; have n0_ := Aside0.mk (blk_below (g := gb362) (o := .cells #[.slice A0_0 l0_0.length c0_0] 24 (0, 0)) (by with_reducible exact BK362.out) hb); have n1_ := Aside0.mk (below_step (by with_reducible exact HB.out) hb); have n2_ := Aside0.mk (hbox); have n3_ := Aside0.mk ((by rw [hg]; exact (below_size (by with_reducible exact HB.out)) : w.heap.size ≤ gb363)); have n4_ := Aside0.mk ((by rw [hg]; exact (below_size (by with_reducible exact HB.out)) : w.heap.size ≤ gb363)); have n5_ := Aside0.mk ((by rw [hg]; exact Nat.ne_of_lt (blk_lt (g := gb362) (o := .cells #[.slice A0_0 l0_0.length c0_0] 24 (0, 0)) (by with_reducible exact BK362.out)) : gb362 ≠ gb363)); have n6_ := Aside0.mk ((by rw [hg]; exact Nat.ne_of_gt (blk_lt (g := gb362) (o := .cells #[.slice A0_0 l0_0.length c0_0] 24 (0, 0)) (by with_reducible exact BK362.out)) : gb363 ≠ gb362)); clear BK362; clear HB; have BK362 := n0_; have HB := n1_; have BK363 := n2_; have GW363 := n3_; have GE363 := n4_; have NB362_363 := n5_; have NB363_362 := n6_; clear n0_ n1_ n2_ n3_ n4_ n5_ n6_; clear hb hbox hg) | ((with_reducible refine gate_callee (f := 9) rfl ?_); refine goesL_ (some 18) rfl rfl Try.func9 (by kernel_rfl) rfl #[] rfl (by (try simp only [List.map_toArray, List.map_cons, List.map_nil]); first | done | rfl | (simp only [List.length_drop, List.length_take]; rfl)) ?_; (with_reducible refine (slotmeshlaw27_head.calls  t364 _ A6.out).mono ?_); rintro e w10 ⟨rfl, hb⟩; refine ⟨_, rfl, ?_⟩; have n0_ := Aside0.mk (blk_below (g := gb362) (o := .cells #[.slice A0_0 l0_0.length c0_0] 24 (0, 0)) (by with_reducible exact BK362.out) hb); have n1_ := Aside0.mk (blk_below (g := gb363) (o := .cells #[.int .i64 a1_0, .int .i64 a1_1, .int .i64 a1_2, .int .i64 a1_3, .int .i64 a1_4] 26 (0, 0)) (by with_reducible exact BK363.out) hb); have n2_ := Aside0.mk (below_step (by with_reducible exact HB.out) hb); clear BK362; clear BK363; clear HB; have BK362 := n0_; have BK363 := n1_; have HB := n2_; clear n0_ n1_ n2_; (try clear hb); (try clear hb2); (try clear hk); (try clear hi)))
 (try simp only [Act.put, List.setIfInBounds_toArray, List.set_cons_zero, List.set_cons_succ])
 go_cut [26] (fun v26 wc => ∃ (kq : Nat) (x26_6 : Bool), v26 = .bool x26_6 ∧ Aside0 (slotmeshlaw27_QueueValid.j0 kq a2 a3 a4 t364 x26_6 l0_0 a1_0 a1_1 a1_2 a1_3 a1_4 = some r) ∧ Aside0 (kq ≤ k) ∧ Aside0 (wc.heap[gb362]? = some (.cells #[(.slice A0_0 l0_0.length c0_0)] 24 (0, 0))) ∧ Aside0 (wc.heap[gb363]? = some (.cells #[.int .i64 a1_0, .int .i64 a1_1, .int .i64 a1_2, .int .i64 a1_3, .int .i64 a1_4] 26 (0, 0))) ∧ Aside0 (Below w.heap.size w wc))
 case first =>
  have H := HC7.out
  clear HC7
  replace H := Option.bind_eq_some_iff.mp H
  obtain ⟨t365, A110, H⟩ := H
  replace H : (if t365 = true then ((slotmeshref27_Valid.f k l0_0).bind fun t366 => (slotmeshlaw27_QueueValid.j0 k a2 a3 a4 t364 (!t366) l0_0 a1_0 a1_1 a1_2 a1_3 a1_4)) else (slotmeshlaw27_QueueValid.j0 k a2 a3 a4 t364 true l0_0 a1_0 a1_1 a1_2 a1_3 a1_4)) = some r := H
  have A11 := Aside0.mk A110
  clear A110
  by_cases c12 : t365 = true
  ·subst c12
   have H1 : ((slotmeshref27_Valid.f k l0_0).bind fun t366 => (slotmeshlaw27_QueueValid.j0 k a2 a3 a4 t364 (!t366) l0_0 a1_0 a1_1 a1_2 a1_3 a1_4)) = some r := by rw [if_pos rfl] at H; exact H
   clear H
   have H := H1
   clear H1
   replace H := Option.bind_eq_some_iff.mp H
   obtain ⟨t366, A130, H⟩ := H
   replace H : (slotmeshlaw27_QueueValid.j0 k a2 a3 a4 t364 (!t366) l0_0 a1_0 a1_1 a1_2 a1_3 a1_4) = some r := H
   have A13 := Aside0.mk A130
   clear A130
   have H' := Aside0.mk H
   clear H
   have hnb14 := NB362_363.out
   have hnc14 := NB363_362.out
   have hcz15_0 : w10.cell? ⟨gb362, 0, none⟩ = some (.slice A0_0 l0_0.length c0_0) := (blk_cell BK362.out 0).trans rfl
   have hfz15_0 := blk_frozen BK362.out 0
   go_wp2_with (first | ((with_reducible refine gate_callee (f := 10) rfl ?_); refine goesL_ (some 20) rfl rfl Try.func10 (by kernel_rfl) rfl #[.agg #[.slice A0_0 l0_0.length c0_0]] rfl (by (try simp only [List.map_toArray, List.map_cons, List.map_nil]); first | done | rfl | (simp only [List.length_drop, List.length_take]; rfl)) ?_; (with_reducible refine (slotmeshlaw27_short.calls _ _ l0_0 true _ ?side1 ?side2 A11.out).mono ?_); (case side1 => repeat (first | exact (Kd.C_below HR0_0.out HB.out) | (with_reducible refine Kd.C_alloc ?_ _) | (with_reducible refine Kd.C_drewN ?_ _) | (with_reducible refine Kd.C_drew ?_))); (case side2 => exact HC0_0.out); rintro e w16 ⟨rfl, hb⟩; refine ⟨_, rfl, ?_⟩; have n0_ := Aside0.mk (blk_below (g := gb362) (o := .cells #[.slice A0_0 l0_0.length c0_0] 24 (0, 0)) (by with_reducible exact BK362.out) hb); have n1_ := Aside0.mk (blk_below (g := gb363) (o := .cells #[.int .i64 a1_0, .int .i64 a1_1, .int .i64 a1_2, .int .i64 a1_3, .int .i64 a1_4] 26 (0, 0)) (by with_reducible exact BK363.out) hb); have n2_ := Aside0.mk (below_step (by with_reducible exact HB.out) hb); clear BK362; clear BK363; clear HB; have BK362 := n0_; have BK363 := n1_; have HB := n2_; clear n0_ n1_ n2_; (try clear hb); (try clear hb2); (try clear hk); (try clear hi); have hcz17_0 : w16.cell? ⟨gb362, 0, none⟩ = some (.slice A0_0 l0_0.length c0_0) := (blk_cell BK362.out 0).trans rfl; have hfz17_0 := blk_frozen BK362.out 0) | (go_at_call 20; (with_reducible refine (slotmeshref27_Valid.calls k _ _ l0_0 t366 _ ?side1 ?side2 A13.out).mono ?_); (case side1 => repeat (first | exact (Kd.C_below HR0_0.out HB.out) | (with_reducible refine Kd.C_alloc ?_ _) | (with_reducible refine Kd.C_drewN ?_ _) | (with_reducible refine Kd.C_drew ?_))); (case side2 => exact HC0_0.out); rintro e w18 ⟨rfl, hb⟩; have n0_ := Aside0.mk (blk_below (g := gb362) (o := .cells #[.slice A0_0 l0_0.length c0_0] 24 (0, 0)) (by with_reducible exact BK362.out) hb); have n1_ := Aside0.mk (blk_below (g := gb363) (o := .cells #[.int .i64 a1_0, .int .i64 a1_1, .int .i64 a1_2, .int .i64 a1_3, .int .i64 a1_4] 26 (0, 0)) (by with_reducible exact BK363.out) hb); have n2_ := Aside0.mk (below_step (by with_reducible exact HB.out) hb); clear BK362; clear BK363; clear HB; have BK362 := n0_; have BK363 := n1_; have HB := n2_; clear n0_ n1_ n2_; (try clear hb); (try clear hb2); (try clear hk); (try clear hi)))
   go_meet
   case rel => exact ⟨_, (!t366), (by first | rfl | (simp; done) | (simp [*]; done)), H', ⟨by first | omega | exact Nat.le_refl _⟩, ⟨by with_reducible exact BK362.out⟩, ⟨by with_reducible exact BK363.out⟩, ⟨by with_reducible exact HB.out⟩⟩
  ·replace c12 := Bool.eq_false_iff.mpr c12
   subst c12
   have H1 : (slotmeshlaw27_QueueValid.j0 k a2 a3 a4 t364 true l0_0 a1_0 a1_1 a1_2 a1_3 a1_4) = some r := by rw [if_neg (show ¬ (false = true) by decide)] at H; exact H
   clear H
   have H := H1
   clear H1
   have H' := Aside0.mk H
   clear H
   have hnb19 := NB362_363.out
   have hnc19 := NB363_362.out
   have hcz20_0 : w10.cell? ⟨gb362, 0, none⟩ = some (.slice A0_0 l0_0.length c0_0) := (blk_cell BK362.out 0).trans rfl
   have hfz20_0 := blk_frozen BK362.out 0
   go_wp2_with (first | ((with_reducible refine gate_callee (f := 10) rfl ?_); refine goesL_ (some 20) rfl rfl Try.func10 (by kernel_rfl) rfl #[.agg #[.slice A0_0 l0_0.length c0_0]] rfl (by (try simp only [List.map_toArray, List.map_cons, List.map_nil]); first | done | rfl | (simp only [List.length_drop, List.length_take]; rfl)) ?_; (with_reducible refine (slotmeshlaw27_short.calls _ _ l0_0 false _ ?side1 ?side2 A11.out).mono ?_); (case side1 => repeat (first | exact (Kd.C_below HR0_0.out HB.out) | (with_reducible refine Kd.C_alloc ?_ _) | (with_reducible refine Kd.C_drewN ?_ _) | (with_reducible refine Kd.C_drew ?_))); (case side2 => exact HC0_0.out); rintro e w21 ⟨rfl, hb⟩; refine ⟨_, rfl, ?_⟩; have n0_ := Aside0.mk (blk_below (g := gb362) (o := .cells #[.slice A0_0 l0_0.length c0_0] 24 (0, 0)) (by with_reducible exact BK362.out) hb); have n1_ := Aside0.mk (blk_below (g := gb363) (o := .cells #[.int .i64 a1_0, .int .i64 a1_1, .int .i64 a1_2, .int .i64 a1_3, .int .i64 a1_4] 26 (0, 0)) (by with_reducible exact BK363.out) hb); have n2_ := Aside0.mk (below_step (by with_reducible exact HB.out) hb); clear BK362; clear BK363; clear HB; have BK362 := n0_; have BK363 := n1_; have HB := n2_; clear n0_ n1_ n2_; (try clear hb); (try clear hb2); (try clear hk); (try clear hi)))
   go_meet
   case rel => exact ⟨_, (true), (by first | rfl | (simp; done) | (simp [*]; done)), H', ⟨by first | omega | exact Nat.le_refl _⟩, ⟨by with_reducible exact BK362.out⟩, ⟨by with_reducible exact BK363.out⟩, ⟨by with_reducible exact HB.out⟩⟩
 case rest =>
  clear HC7
  try clear c1
  try clear p2
  try clear c5
  try clear c9
  try clear c10
  try clear c12
  try clear c14
  try clear c19
  try clear hcz15_0
  try clear hcz17_0
  try clear hcz20_0
  try clear hfz15_0
  try clear hfz17_0
  try clear hfz20_0
  obtain ⟨kq, x26_6, rfl, HA, HJ6, BK362, BK363, HB⟩ := hcut
  cases kq with
  | zero => exact absurd HA.out (by simp [slotmeshlaw27_QueueValid.j0])
  | succ kj6 =>
   have H := HA.out
   clear HA
   simp only [slotmeshlaw27_QueueValid.j0] at H
   by_cases c22 : x26_6 = true
   ·subst c22
    have H1 : (some t364) = some r := by rw [if_pos rfl] at H; exact H
    clear H
    have H := H1
    clear H1
    obtain rfl := Option.some.inj H
    go_wp2
    go_ret
    exact ⟨by first | rfl | (simp [errW_none, errW_some] <;> rfl) | (simp [*, errW_none, errW_some] <;> rfl), by with_reducible exact HB.out⟩
   ·replace c22 := Bool.eq_false_iff.mpr c22
    subst c22
    have H1 : ((queue_Drop.f kj6 l0_0 a3 a4).bind fun t367 => (slotmeshlaw27_QueueValid.l0 kj6 a2 a3 a4 t364 0 l0_0 (l0_0.length : Int) 0 l0_0 a1_0 a1_1 a1_2 a1_3 a1_4 t367)) = some r := by rw [if_neg (show ¬ (false = true) by decide)] at H; exact H
    clear H
    have H := H1
    clear H1
    replace H := Option.bind_eq_some_iff.mp H
    obtain ⟨t367, A230, H⟩ := H
    replace H : (slotmeshlaw27_QueueValid.l0 kj6 a2 a3 a4 t364 0 l0_0 (l0_0.length : Int) 0 l0_0 a1_0 a1_1 a1_2 a1_3 a1_4 t367) = some r := H
    have A23 := Aside0.mk A230
    clear A230
    have H' := Aside0.mk H
    clear H
    have hnb24 := NB362_363.out
    have hnc24 := NB363_362.out
    have hcz25_0 : wc.cell? ⟨gb362, 0, none⟩ = some (.slice A0_0 l0_0.length c0_0) := (blk_cell BK362.out 0).trans rfl
    have hfz25_0 := blk_frozen BK362.out 0
    go_wp2_with (first | ((with_reducible refine gate_callee (f := 16) rfl ?_); refine goesL_ (some 31) rfl rfl Try.func16 (by kernel_rfl) rfl #[.agg #[.slice A0_0 l0_0.length c0_0], .int .i64 a3, .int .i64 a4] rfl (by (try simp only [List.map_toArray, List.map_cons, List.map_nil]); first | done | rfl | (simp only [List.length_drop, List.length_take]; rfl)) ?_; (with_reducible refine (queue_Drop.calls kj6 (fun k_ => k_ < w.heap.size) _ _ l0_0 a3 a4 t367 _ ?side1 A23.out).mono ?_); (case side1 => exact Kd.V_mk HC0_0.out (Kd.F_below (Kd.C_F k26_heap HR0_0.out) (by with_reducible exact HB.out))); rintro e w26 ⟨v368, rfl, ho0, hb⟩; refine ⟨_, rfl, ?_⟩; have n0_ := Aside0.mk (Kd.R_lower (Kd.R_newB (Kd.R_mono (ok' := fun k_ => True) ho0 (fun _ hk_ => trivial)) (g := gb363) (o := .cells #[.int .i64 a1_0, .int .i64 a1_1, .int .i64 a1_2, .int .i64 a1_3, .int .i64 a1_4] 26 (0, 0)) (by with_reducible exact BK363.out)) (below_size (by with_reducible exact HB.out))); have n1_ := Aside0.mk (blk_below (g := gb362) (o := .cells #[.slice A0_0 l0_0.length c0_0] 24 (0, 0)) (by with_reducible exact BK362.out) hb); have n2_ := Aside0.mk (blk_below (g := gb363) (o := .cells #[.int .i64 a1_0, .int .i64 a1_1, .int .i64 a1_2, .int .i64 a1_3, .int .i64 a1_4] 26 (0, 0)) (by with_reducible exact BK363.out) hb); have n3_ := Aside0.mk (below_step (by with_reducible exact HB.out) hb); clear BK362; clear BK363; clear HB; have HO369 := n0_; have BK362 := n1_; have BK363 := n2_; have HB := n3_; clear n0_ n1_ n2_ n3_; (try clear hb); (try clear hb2); (try clear hk); (try clear hi); (try clear ho0)) | ((with_reducible refine gate_dst (N := 12) rfl ?_); (try (refine gate_guard (by rfl) ?_; dsimp only)); refine box_event ?hg (N := 12) ?hd (cs := #[.slice none 0 0]) (t := 24) ?hr ?_; (case hd => rfl); (case hg => rfl); (case hr => first | (go_simp; done) | (go_simp; rfl)); intro gb370 hg w27 hbox hb; have n0_ := Aside0.mk (Kd.R_below (by with_reducible exact HO369.out) hb); have n1_ := Aside0.mk (blk_below (g := gb362) (o := .cells #[.slice A0_0 l0_0.length c0_0] 24 (0, 0)) (by with_reducible exact BK362.out) hb); have n2_ := Aside0.mk (blk_below (g := gb363) (o := .cells #[.int .i64 a1_0, .int .i64 a1_1, .int .i64 a1_2, .int .i64 a1_3, .int .i64 a1_4] 26 (0, 0)) (by with_reducible exact BK363.out) hb); have n3_ := Aside0.mk (below_step (by with_reducible exact HB.out) hb); have n4_ := Aside0.mk (hbox); have n5_ := Aside0.mk ((by rw [hg]; exact (below_size (by with_reducible exact HB.out)) : w.heap.size ≤ gb370)); have n6_ := Aside0.mk ((by rw [hg]; exact (below_size (by with_reducible exact HB.out)) : w.heap.size ≤ gb370)); have n7_ := Aside0.mk ((by rw [hg]; exact Nat.ne_of_lt (blk_lt (g := gb362) (o := .cells #[.slice A0_0 l0_0.length c0_0] 24 (0, 0)) (by with_reducible exact BK362.out)) : gb362 ≠ gb370)); have n8_ := Aside0.mk ((by rw [hg]; exact Nat.ne_of_gt (blk_lt (g := gb362) (o := .cells #[.slice A0_0 l0_0.length c0_0] 24 (0, 0)) (by with_reducible exact BK362.out)) : gb370 ≠ gb362)); have n9_ := Aside0.mk ((by rw [hg]; exact Nat.ne_of_lt (blk_lt (g := gb363) (o := .cells #[.int .i64 a1_0, .int .i64 a1_1, .int .i64 a1_2, .int .i64 a1_3, .int .i64 a1_4] 26 (0, 0)) (by with_reducible exact BK363.out)) : gb363 ≠ gb370)); have n10_ := Aside0.mk ((by rw [hg]; exact Nat.ne_of_gt (blk_lt (g := gb363) (o := .cells #[.int .i64 a1_0, .int .i64 a1_1, .int .i64 a1_2, .int .i64 a1_3, .int .i64 a1_4] 26 (0, 0)) (by with_reducible exact BK363.out)) : gb370 ≠ gb363)); clear HO369; clear BK362; clear BK363; clear HB; have HO369 := n0_; have BK362 := n1_; have BK363 := n2_; have HB := n3_; have BK370 := n4_; have GW370 := n5_; have GE370 := n6_; have NB362_370 := n7_; have NB370_362 := n8_; have NB363_370 := n9_; have NB370_363 := n10_; clear n0_ n1_ n2_ n3_ n4_ n5_ n6_ n7_ n8_ n9_ n10_; clear hb hbox hg; obtain ⟨Ao28, co28, eo28⟩ := Kd.R_slice HO369.out; subst eo28; have hnb29 := NB370_362.out; have hnc29 := NB362_370.out; have hnb30 := NB370_363.out; have hnc30 := NB363_370.out; have hcz31_0 : w27.cell? ⟨gb370, 0, none⟩ = some (.slice none 0 0) := (blk_cell BK370.out 0).trans rfl; have hfz31_0 := blk_frozen BK370.out 0; have hcz32_0 : w27.cell? ⟨gb362, 0, none⟩ = some (.slice A0_0 l0_0.length c0_0) := (blk_cell BK362.out 0).trans rfl; have hfz32_0 := blk_frozen BK362.out 0))
    go_loopg [13, 35] kj6 (fun kq v13 v35 w' => ∃ (x13_2 : Int) (x35_2 : Int), v13 = .int .i64 x13_2 ∧ v35 = .int .i64 x35_2 ∧ Aside0 (slotmeshlaw27_QueueValid.l0 kq a2 a3 a4 t364 x13_2 l0_0 (l0_0.length : Int) x35_2 l0_0 a1_0 a1_1 a1_2 a1_3 a1_4 t367 = some r) ∧ Aside0 (kq ≤ kj6) ∧ Aside0 (Kd.R k26 26 w' w.heap.size (fun k_ => k_ ≠ gb363) (.slice Ao28 t367.length co28) t367) ∧ Aside0 (w'.heap[gb362]? = some (.cells #[(.slice A0_0 l0_0.length c0_0)] 24 (0, 0))) ∧ Aside0 (w'.heap[gb363]? = some (.cells #[.int .i64 a1_0, .int .i64 a1_1, .int .i64 a1_2, .int .i64 a1_3, .int .i64 a1_4] 26 (0, 0))) ∧ Aside0 (w'.heap[gb370]? = some (.cells #[(.slice Ao28 t367.length co28)] 24 (0, 0))) ∧ Aside0 (Below w.heap.size w w'))
    case atStart => exact ⟨(0), (0), (by first | rfl | (simp; done) | (simp [*]; done)), (by first | rfl | (simp; done) | (simp [*]; done)), H', ⟨Nat.le_refl _⟩, ⟨by (with_reducible repeat (first | apply Kd.R_alloc | apply Kd.R_drewN | apply Kd.R_drew)); exact Kd.R_mono (Kd.R_far (p := ⟨gb370, 0, none⟩) (Kd.R_types HO369.out BK370.out (by decide)) (fun _ hk => hk.2) (.slice Ao28 t367.length co28)) (fun _ hk => hk.1.2)⟩, ⟨by (with_reducible repeat (first | refine blk_drewN ?_ _ | refine blk_drew ?_ | refine blk_alloc ?_ _)); refine blk_far ?_ NB362_370.out _; (with_reducible repeat (first | refine blk_drewN ?_ _ | refine blk_drew ?_ | refine blk_alloc ?_ _)); exact BK362.out⟩, ⟨by (with_reducible repeat (first | refine blk_drewN ?_ _ | refine blk_drew ?_ | refine blk_alloc ?_ _)); refine blk_far ?_ NB363_370.out _; (with_reducible repeat (first | refine blk_drewN ?_ _ | refine blk_drew ?_ | refine blk_alloc ?_ _)); exact BK363.out⟩, ⟨by (with_reducible repeat (first | refine blk_drewN ?_ _ | refine blk_drew ?_ | refine blk_alloc ?_ _)); refine blk_put (cs := #[.slice none 0 0]) ?_ 0 _ rfl; (with_reducible repeat (first | refine blk_drewN ?_ _ | refine blk_drew ?_ | refine blk_alloc ?_ _)); exact BK370.out⟩, ⟨by repeat (first | (with_reducible first | exact HB.out | apply below_alloc | apply pw_below_drewN | apply below_drew1 | refine below_set ?_ GE362.out | refine below_set ?_ GE363.out | refine below_set ?_ GE370.out) | exact HB.out)⟩⟩
    case round =>
     clear H'
     try clear c1
     try clear c2
     try clear p2
     try clear c3
     try clear c5
     try clear c9
     try clear c10
     try clear c12
     try clear c14
     try clear c16
     try clear c19
     try clear c22
     try clear c24
     try clear c29
     try clear c30
     try clear hcz15_0
     try clear hcz17_0
     try clear hcz20_0
     try clear hcz25_0
     try clear hcz31_0
     try clear hcz32_0
     try clear hfz15_0
     try clear hfz17_0
     try clear hfz20_0
     try clear hfz25_0
     try clear hfz31_0
     try clear hfz32_0
     try clear p2
     obtain ⟨x13_2, x35_2, rfl, rfl, HA, HK2, HO_371000, BK362, BK363, BK370, HB⟩ := hrel
     cases gk with
     | zero => exact absurd HA.out (by simp [slotmeshlaw27_QueueValid.l0])
     | succ k2 =>
      have H := HA.out
      clear HA
      simp only [slotmeshlaw27_QueueValid.l0] at H
      by_cases c33 : x35_2 < (l0_0.length : Int)
      ·rw [if_pos c33] at H
       have c33b0 : decide (x35_2 < (l0_0.length : Int)) = true := decide_eq_true c33
       clear c33
       by_cases c34 : 0 ≤ x35_2
       ·rw [if_pos c34] at H
        have c34b0 : decide (0 ≤ x35_2) = true := decide_eq_true c34
        clear c34
        by_cases c35 : x35_2 < (l0_0.length : Int)
        ·rw [if_pos c35] at H
         have c35b0 : decide (x35_2 < (l0_0.length : Int)) = true := decide_eq_true c35
         clear c35
         have HC36 := Aside0.mk H
         clear H
         have p371 : 0 ≤ (x35_2 : Int) := of_decide_eq_true (by with_reducible assumption)
         have q371 : x35_2 < (l0_0.length : Int) := of_decide_eq_true (by with_reducible assumption)
         obtain ⟨ad371, e371, hx371_0, hx371_1, hx371_2, hx371_3, hx371_4⟩ := at_T26 HR0_0.out x35_2 p371 q371
         cases e371
         replace hx371_0 := (HB.out.cell (World.block_lt_of_cell? w _ hx371_0)).trans hx371_0
         replace hx371_1 := (HB.out.cell (World.block_lt_of_cell? w _ hx371_1)).trans hx371_1
         replace hx371_2 := (HB.out.cell (World.block_lt_of_cell? w _ hx371_2)).trans hx371_2
         replace hx371_3 := (HB.out.cell (World.block_lt_of_cell? w _ hx371_3)).trans hx371_3
         replace hx371_4 := (HB.out.cell (World.block_lt_of_cell? w _ hx371_4)).trans hx371_4
         replace p371 := eq_true p371
         replace q371 := eq_true q371
         go_upto_region 9 with (first | ((with_reducible refine gate_dst (N := 15) rfl ?_); (try (refine gate_guard (by rfl) ?_; dsimp only)); refine box_event ?hg (N := 15) ?hd (cs := #[.int .i64 0, .int .i64 0, .int .i64 0, .int .i64 0, .int .i64 0]) (t := 26) ?hr ?_; (case hd => rfl); (case hg => rfl); (case hr => first | (go_simp; done) | (go_simp; rfl)); intro gb372 hg w37 hbox hb; have n0_ := Aside0.mk (Kd.R_below (Kd.R_elderB (by with_reducible exact HO_371000.out) gb372 (Nat.le_of_eq hg.symm)) hb); have n1_ := Aside0.mk (blk_below (g := gb362) (o := .cells #[.slice (some ad371) l0_0.length c0_0] 24 (0, 0)) (by with_reducible exact BK362.out) hb); have n2_ := Aside0.mk (blk_below (g := gb363) (o := .cells #[.int .i64 a1_0, .int .i64 a1_1, .int .i64 a1_2, .int .i64 a1_3, .int .i64 a1_4] 26 (0, 0)) (by with_reducible exact BK363.out) hb); have n3_ := Aside0.mk (blk_below (g := gb370) (o := .cells #[.slice Ao28 t367.length co28] 24 (0, 0)) (by with_reducible exact BK370.out) hb); have n4_ := Aside0.mk (below_step (by with_reducible exact HB.out) hb); have n5_ := Aside0.mk (hbox); have n6_ := Aside0.mk ((by rw [hg]; exact (below_size (by with_reducible exact HB.out)) : w.heap.size ≤ gb372)); have n7_ := Aside0.mk ((by rw [hg]; exact (below_size (by with_reducible exact HB.out)) : w.heap.size ≤ gb372)); have n8_ := Aside0.mk ((by rw [hg]; exact Nat.ne_of_lt (blk_lt (g := gb362) (o := .cells #[.slice (some ad371) l0_0.length c0_0] 24 (0, 0)) (by with_reducible exact BK362.out)) : gb362 ≠ gb372)); have n9_ := Aside0.mk ((by rw [hg]; exact Nat.ne_of_gt (blk_lt (g := gb362) (o := .cells #[.slice (some ad371) l0_0.length c0_0] 24 (0, 0)) (by with_reducible exact BK362.out)) : gb372 ≠ gb362)); have n10_ := Aside0.mk ((by rw [hg]; exact Nat.ne_of_lt (blk_lt (g := gb363) (o := .cells #[.int .i64 a1_0, .int .i64 a1_1, .int .i64 a1_2, .int .i64 a1_3, .int .i64 a1_4] 26 (0, 0)) (by with_reducible exact BK363.out)) : gb363 ≠ gb372)); have n11_ := Aside0.mk ((by rw [hg]; exact Nat.ne_of_gt (blk_lt (g := gb363) (o := .cells #[.int .i64 a1_0, .int .i64 a1_1, .int .i64 a1_2, .int .i64 a1_3, .int .i64 a1_4] 26 (0, 0)) (by with_reducible exact BK363.out)) : gb372 ≠ gb363)); have n12_ := Aside0.mk ((by rw [hg]; exact Nat.ne_of_lt (blk_lt (g := gb370) (o := .cells #[.slice Ao28 t367.length co28] 24 (0, 0)) (by with_reducible exact BK370.out)) : gb370 ≠ gb372)); have n13_ := Aside0.mk ((by rw [hg]; exact Nat.ne_of_gt (blk_lt (g := gb370) (o := .cells #[.slice Ao28 t367.length co28] 24 (0, 0)) (by with_reducible exact BK370.out)) : gb372 ≠ gb370)); clear HO_371000; clear BK362; clear BK363; clear BK370; clear HB; have HO_371000 := n0_; have BK362 := n1_; have BK363 := n2_; have BK370 := n3_; have HB := n4_; have BK372 := n5_; have GW372 := n6_; have GE372 := n7_; have NB362_372 := n8_; have NB372_362 := n9_; have NB363_372 := n10_; have NB372_363 := n11_; have NB370_372 := n12_; have NB372_370 := n13_; clear n0_ n1_ n2_ n3_ n4_ n5_ n6_ n7_ n8_ n9_ n10_ n11_ n12_ n13_; clear hb hbox hg; have hnb38 := NB372_362.out; have hnc38 := NB362_372.out; have hnb39 := NB372_363.out; have hnc39 := NB363_372.out; have hnb40 := NB372_370.out; have hnc40 := NB370_372.out; have hcz41_0 : w37.cell? ⟨gb372, 0, none⟩ = some (.int .i64 0) := (blk_cell BK372.out 0).trans rfl; have hcz41_1 : w37.cell? ⟨gb372, 1, none⟩ = some (.int .i64 0) := (blk_cell BK372.out 1).trans rfl; have hcz41_2 : w37.cell? ⟨gb372, 2, none⟩ = some (.int .i64 0) := (blk_cell BK372.out 2).trans rfl; have hcz41_3 : w37.cell? ⟨gb372, 3, none⟩ = some (.int .i64 0) := (blk_cell BK372.out 3).trans rfl; have hcz41_4 : w37.cell? ⟨gb372, 4, none⟩ = some (.int .i64 0) := (blk_cell BK372.out 4).trans rfl; have hfz41_0 := blk_frozen BK372.out 0; have hfz41_1 := blk_frozen BK372.out 1; have hfz41_2 := blk_frozen BK372.out 2; have hfz41_3 := blk_frozen BK372.out 3; have hfz41_4 := blk_frozen BK372.out 4))
         (try simp only [Act.put, List.setIfInBounds_toArray, List.set_cons_zero, List.set_cons_succ])
         go_cut [48] (fun v48 wc => ∃ (kq : Nat) (x48_35 : Bool), v48 = .bool x48_35 ∧ Aside0 (slotmeshlaw27_QueueValid.j2 kq a2 a3 a4 t364 x13_2 l0_0 (l0_0.length : Int) x35_2 x48_35 l0_0 a1_0 a1_1 a1_2 a1_3 a1_4 t367 ((rd_T26 l0_0 x35_2).f0) ((rd_T26 l0_0 x35_2).f1) ((rd_T26 l0_0 x35_2).f2) ((rd_T26 l0_0 x35_2).f3) ((rd_T26 l0_0 x35_2).f4) = some r) ∧ Aside0 (kq ≤ k2) ∧ Aside0 (Kd.R k26 26 wc w.heap.size (fun k_ => k_ ≠ gb363 ∧ k_ ≠ gb372) (.slice Ao28 t367.length co28) t367) ∧ Aside0 (wc.heap[gb362]? = some (.cells #[(.slice (some ad371) l0_0.length c0_0)] 24 (0, 0))) ∧ Aside0 (wc.heap[gb363]? = some (.cells #[.int .i64 a1_0, .int .i64 a1_1, .int .i64 a1_2, .int .i64 a1_3, .int .i64 a1_4] 26 (0, 0))) ∧ Aside0 (wc.heap[gb370]? = some (.cells #[(.slice Ao28 t367.length co28)] 24 (0, 0))) ∧ Aside0 (wc.heap[gb372]? = some (.cells #[.int .i64 ((rd_T26 l0_0 x35_2).f0), .int .i64 ((rd_T26 l0_0 x35_2).f1), .int .i64 ((rd_T26 l0_0 x35_2).f2), .int .i64 ((rd_T26 l0_0 x35_2).f3), .int .i64 ((rd_T26 l0_0 x35_2).f4)] 26 (0, 0))) ∧ Aside0 (Below w.heap.size w wc))
         case first =>
          have H := HC36.out
          clear HC36
          by_cases c42 : ((rd_T26 l0_0 x35_2).f0) = a3
          ·rw [if_pos c42] at H
           have c42b0 : (((rd_T26 l0_0 x35_2).f0) == a3) = true := beq_iff_eq.mpr c42
           have c42b1 : (((rd_T26 l0_0 x35_2).f0) != a3) = false := bne_eq_false_iff_eq.mpr c42
           clear c42
           (first | rw [c42b0] | (simp only [i64_w, i32_w]; rw [c42b0]) | skip)
           have H' := Aside0.mk H
           clear H
           have hnb43 := NB372_362.out
           have hnc43 := NB362_372.out
           have hnb44 := NB372_363.out
           have hnc44 := NB363_372.out
           have hnb45 := NB372_370.out
           have hnc45 := NB370_372.out
           have hcz46_0 : w37.cell? ⟨gb372, 0, none⟩ = some (.int .i64 0) := (blk_cell BK372.out 0).trans rfl
           have hcz46_1 : w37.cell? ⟨gb372, 1, none⟩ = some (.int .i64 0) := (blk_cell BK372.out 1).trans rfl
           have hcz46_2 : w37.cell? ⟨gb372, 2, none⟩ = some (.int .i64 0) := (blk_cell BK372.out 2).trans rfl
           have hcz46_3 : w37.cell? ⟨gb372, 3, none⟩ = some (.int .i64 0) := (blk_cell BK372.out 3).trans rfl
           have hcz46_4 : w37.cell? ⟨gb372, 4, none⟩ = some (.int .i64 0) := (blk_cell BK372.out 4).trans rfl
           have hfz46_0 := blk_frozen BK372.out 0
           have hfz46_1 := blk_frozen BK372.out 1
           have hfz46_2 := blk_frozen BK372.out 2
           have hfz46_3 := blk_frozen BK372.out 3
           have hfz46_4 := blk_frozen BK372.out 4
           go_wp2
           go_meet
           case rel => exact ⟨_, ((((rd_T26 l0_0 x35_2).f1) == a4)), (by first | rfl | (simp; done) | (simp [*]; done)), H', ⟨by have := HJ6.out; have := HK2.out; first | omega | exact Nat.le_refl _⟩, ⟨by (with_reducible repeat (first | apply Kd.R_alloc | apply Kd.R_drewN | apply Kd.R_drew)); exact Kd.R_mono (Kd.R_far (p := ⟨gb372, 4, none⟩) (Kd.R_far (p := ⟨gb372, 3, none⟩) (Kd.R_far (p := ⟨gb372, 2, none⟩) (Kd.R_far (p := ⟨gb372, 1, none⟩) (Kd.R_far (p := ⟨gb372, 0, none⟩) (Kd.R_mono HO_371000.out (fun k_ hk => (⟨hk, hk.2⟩ : _ ∧ k_ ≠ gb372))) (fun _ hk => hk.2) (.int .i64 ((rd_T26 l0_0 x35_2).f0))) (fun _ hk => hk.2) (.int .i64 ((rd_T26 l0_0 x35_2).f1))) (fun _ hk => hk.2) (.int .i64 ((rd_T26 l0_0 x35_2).f2))) (fun _ hk => hk.2) (.int .i64 ((rd_T26 l0_0 x35_2).f3))) (fun _ hk => hk.2) (.int .i64 ((rd_T26 l0_0 x35_2).f4))) (fun _ hk => ⟨hk.1.1, hk.1.2⟩)⟩, ⟨by (with_reducible repeat (first | refine blk_drewN ?_ _ | refine blk_drew ?_ | refine blk_alloc ?_ _)); refine blk_far ?_ NB362_372.out _; (with_reducible repeat (first | refine blk_drewN ?_ _ | refine blk_drew ?_ | refine blk_alloc ?_ _)); refine blk_far ?_ NB362_372.out _; (with_reducible repeat (first | refine blk_drewN ?_ _ | refine blk_drew ?_ | refine blk_alloc ?_ _)); refine blk_far ?_ NB362_372.out _; (with_reducible repeat (first | refine blk_drewN ?_ _ | refine blk_drew ?_ | refine blk_alloc ?_ _)); refine blk_far ?_ NB362_372.out _; (with_reducible repeat (first | refine blk_drewN ?_ _ | refine blk_drew ?_ | refine blk_alloc ?_ _)); refine blk_far ?_ NB362_372.out _; (with_reducible repeat (first | refine blk_drewN ?_ _ | refine blk_drew ?_ | refine blk_alloc ?_ _)); exact BK362.out⟩, ⟨by (with_reducible repeat (first | refine blk_drewN ?_ _ | refine blk_drew ?_ | refine blk_alloc ?_ _)); refine blk_far ?_ NB363_372.out _; (with_reducible repeat (first | refine blk_drewN ?_ _ | refine blk_drew ?_ | refine blk_alloc ?_ _)); refine blk_far ?_ NB363_372.out _; (with_reducible repeat (first | refine blk_drewN ?_ _ | refine blk_drew ?_ | refine blk_alloc ?_ _)); refine blk_far ?_ NB363_372.out _; (with_reducible repeat (first | refine blk_drewN ?_ _ | refine blk_drew ?_ | refine blk_alloc ?_ _)); refine blk_far ?_ NB363_372.out _; (with_reducible repeat (first | refine blk_drewN ?_ _ | refine blk_drew ?_ | refine blk_alloc ?_ _)); refine blk_far ?_ NB363_372.out _; (with_reducible repeat (first | refine blk_drewN ?_ _ | refine blk_drew ?_ | refine blk_alloc ?_ _)); exact BK363.out⟩, ⟨by (with_reducible repeat (first | refine blk_drewN ?_ _ | refine blk_drew ?_ | refine blk_alloc ?_ _)); refine blk_far ?_ NB370_372.out _; (with_reducible repeat (first | refine blk_drewN ?_ _ | refine blk_drew ?_ | refine blk_alloc ?_ _)); refine blk_far ?_ NB370_372.out _; (with_reducible repeat (first | refine blk_drewN ?_ _ | refine blk_drew ?_ | refine blk_alloc ?_ _)); refine blk_far ?_ NB370_372.out _; (with_reducible repeat (first | refine blk_drewN ?_ _ | refine blk_drew ?_ | refine blk_alloc ?_ _)); refine blk_far ?_ NB370_372.out _; (with_reducible repeat (first | refine blk_drewN ?_ _ | refine blk_drew ?_ | refine blk_alloc ?_ _)); refine blk_far ?_ NB370_372.out _; (with_reducible repeat (first | refine blk_drewN ?_ _ | refine blk_drew ?_ | refine blk_alloc ?_ _)); exact BK370.out⟩, ⟨by (with_reducible repeat (first | refine blk_drewN ?_ _ | refine blk_drew ?_ | refine blk_alloc ?_ _)); refine blk_put (cs := #[.int .i64 ((rd_T26 l0_0 x35_2).f0), .int .i64 ((rd_T26 l0_0 x35_2).f1), .int .i64 ((rd_T26 l0_0 x35_2).f2), .int .i64 ((rd_T26 l0_0 x35_2).f3), .int .i64 0]) ?_ 4 _ rfl; (with_reducible repeat (first | refine blk_drewN ?_ _ | refine blk_drew ?_ | refine blk_alloc ?_ _)); refine blk_put (cs := #[.int .i64 ((rd_T26 l0_0 x35_2).f0), .int .i64 ((rd_T26 l0_0 x35_2).f1), .int .i64 ((rd_T26 l0_0 x35_2).f2), .int .i64 0, .int .i64 0]) ?_ 3 _ rfl; (with_reducible repeat (first | refine blk_drewN ?_ _ | refine blk_drew ?_ | refine blk_alloc ?_ _)); refine blk_put (cs := #[.int .i64 ((rd_T26 l0_0 x35_2).f0), .int .i64 ((rd_T26 l0_0 x35_2).f1), .int .i64 0, .int .i64 0, .int .i64 0]) ?_ 2 _ rfl; (with_reducible repeat (first | refine blk_drewN ?_ _ | refine blk_drew ?_ | refine blk_alloc ?_ _)); refine blk_put (cs := #[.int .i64 ((rd_T26 l0_0 x35_2).f0), .int .i64 0, .int .i64 0, .int .i64 0, .int .i64 0]) ?_ 1 _ rfl; (with_reducible repeat (first | refine blk_drewN ?_ _ | refine blk_drew ?_ | refine blk_alloc ?_ _)); refine blk_put (cs := #[.int .i64 0, .int .i64 0, .int .i64 0, .int .i64 0, .int .i64 0]) ?_ 0 _ rfl; (with_reducible repeat (first | refine blk_drewN ?_ _ | refine blk_drew ?_ | refine blk_alloc ?_ _)); exact BK372.out⟩, ⟨by repeat (first | (with_reducible first | exact HB.out | apply below_alloc | apply pw_below_drewN | apply below_drew1 | refine below_set ?_ GE362.out | refine below_set ?_ GE363.out | refine below_set ?_ GE370.out | refine below_set ?_ GE372.out) | exact HB.out)⟩⟩
          ·rw [if_neg c42] at H
           have c42b0 : (((rd_T26 l0_0 x35_2).f0) == a3) = false := beq_eq_false_iff_ne.mpr c42
           have c42b1 : (((rd_T26 l0_0 x35_2).f0) != a3) = true := bne_iff_ne.mpr c42
           (first | rw [c42b0] | (simp only [i64_w, i32_w]; rw [c42b0]) | skip)
           have H' := Aside0.mk H
           clear H
           have hnb47 := NB372_362.out
           have hnc47 := NB362_372.out
           have hnb48 := NB372_363.out
           have hnc48 := NB363_372.out
           have hnb49 := NB372_370.out
           have hnc49 := NB370_372.out
           have hcz50_0 : w37.cell? ⟨gb372, 0, none⟩ = some (.int .i64 0) := (blk_cell BK372.out 0).trans rfl
           have hcz50_1 : w37.cell? ⟨gb372, 1, none⟩ = some (.int .i64 0) := (blk_cell BK372.out 1).trans rfl
           have hcz50_2 : w37.cell? ⟨gb372, 2, none⟩ = some (.int .i64 0) := (blk_cell BK372.out 2).trans rfl
           have hcz50_3 : w37.cell? ⟨gb372, 3, none⟩ = some (.int .i64 0) := (blk_cell BK372.out 3).trans rfl
           have hcz50_4 : w37.cell? ⟨gb372, 4, none⟩ = some (.int .i64 0) := (blk_cell BK372.out 4).trans rfl
           have hfz50_0 := blk_frozen BK372.out 0
           have hfz50_1 := blk_frozen BK372.out 1
           have hfz50_2 := blk_frozen BK372.out 2
           have hfz50_3 := blk_frozen BK372.out 3
           have hfz50_4 := blk_frozen BK372.out 4
           go_wp2
           go_meet
           case rel => exact ⟨_, (false), (by first | rfl | (simp; done) | (simp [*]; done)), H', ⟨by have := HJ6.out; have := HK2.out; first | omega | exact Nat.le_refl _⟩, ⟨by (with_reducible repeat (first | apply Kd.R_alloc | apply Kd.R_drewN | apply Kd.R_drew)); exact Kd.R_mono (Kd.R_far (p := ⟨gb372, 4, none⟩) (Kd.R_far (p := ⟨gb372, 3, none⟩) (Kd.R_far (p := ⟨gb372, 2, none⟩) (Kd.R_far (p := ⟨gb372, 1, none⟩) (Kd.R_far (p := ⟨gb372, 0, none⟩) (Kd.R_mono HO_371000.out (fun k_ hk => (⟨hk, hk.2⟩ : _ ∧ k_ ≠ gb372))) (fun _ hk => hk.2) (.int .i64 ((rd_T26 l0_0 x35_2).f0))) (fun _ hk => hk.2) (.int .i64 ((rd_T26 l0_0 x35_2).f1))) (fun _ hk => hk.2) (.int .i64 ((rd_T26 l0_0 x35_2).f2))) (fun _ hk => hk.2) (.int .i64 ((rd_T26 l0_0 x35_2).f3))) (fun _ hk => hk.2) (.int .i64 ((rd_T26 l0_0 x35_2).f4))) (fun _ hk => ⟨hk.1.1, hk.1.2⟩)⟩, ⟨by (with_reducible repeat (first | refine blk_drewN ?_ _ | refine blk_drew ?_ | refine blk_alloc ?_ _)); refine blk_far ?_ NB362_372.out _; (with_reducible repeat (first | refine blk_drewN ?_ _ | refine blk_drew ?_ | refine blk_alloc ?_ _)); refine blk_far ?_ NB362_372.out _; (with_reducible repeat (first | refine blk_drewN ?_ _ | refine blk_drew ?_ | refine blk_alloc ?_ _)); refine blk_far ?_ NB362_372.out _; (with_reducible repeat (first | refine blk_drewN ?_ _ | refine blk_drew ?_ | refine blk_alloc ?_ _)); refine blk_far ?_ NB362_372.out _; (with_reducible repeat (first | refine blk_drewN ?_ _ | refine blk_drew ?_ | refine blk_alloc ?_ _)); refine blk_far ?_ NB362_372.out _; (with_reducible repeat (first | refine blk_drewN ?_ _ | refine blk_drew ?_ | refine blk_alloc ?_ _)); exact BK362.out⟩, ⟨by (with_reducible repeat (first | refine blk_drewN ?_ _ | refine blk_drew ?_ | refine blk_alloc ?_ _)); refine blk_far ?_ NB363_372.out _; (with_reducible repeat (first | refine blk_drewN ?_ _ | refine blk_drew ?_ | refine blk_alloc ?_ _)); refine blk_far ?_ NB363_372.out _; (with_reducible repeat (first | refine blk_drewN ?_ _ | refine blk_drew ?_ | refine blk_alloc ?_ _)); refine blk_far ?_ NB363_372.out _; (with_reducible repeat (first | refine blk_drewN ?_ _ | refine blk_drew ?_ | refine blk_alloc ?_ _)); refine blk_far ?_ NB363_372.out _; (with_reducible repeat (first | refine blk_drewN ?_ _ | refine blk_drew ?_ | refine blk_alloc ?_ _)); refine blk_far ?_ NB363_372.out _; (with_reducible repeat (first | refine blk_drewN ?_ _ | refine blk_drew ?_ | refine blk_alloc ?_ _)); exact BK363.out⟩, ⟨by (with_reducible repeat (first | refine blk_drewN ?_ _ | refine blk_drew ?_ | refine blk_alloc ?_ _)); refine blk_far ?_ NB370_372.out _; (with_reducible repeat (first | refine blk_drewN ?_ _ | refine blk_drew ?_ | refine blk_alloc ?_ _)); refine blk_far ?_ NB370_372.out _; (with_reducible repeat (first | refine blk_drewN ?_ _ | refine blk_drew ?_ | refine blk_alloc ?_ _)); refine blk_far ?_ NB370_372.out _; (with_reducible repeat (first | refine blk_drewN ?_ _ | refine blk_drew ?_ | refine blk_alloc ?_ _)); refine blk_far ?_ NB370_372.out _; (with_reducible repeat (first | refine blk_drewN ?_ _ | refine blk_drew ?_ | refine blk_alloc ?_ _)); refine blk_far ?_ NB370_372.out _; (with_reducible repeat (first | refine blk_drewN ?_ _ | refine blk_drew ?_ | refine blk_alloc ?_ _)); exact BK370.out⟩, ⟨by (with_reducible repeat (first | refine blk_drewN ?_ _ | refine blk_drew ?_ | refine blk_alloc ?_ _)); refine blk_put (cs := #[.int .i64 ((rd_T26 l0_0 x35_2).f0), .int .i64 ((rd_T26 l0_0 x35_2).f1), .int .i64 ((rd_T26 l0_0 x35_2).f2), .int .i64 ((rd_T26 l0_0 x35_2).f3), .int .i64 0]) ?_ 4 _ rfl; (with_reducible repeat (first | refine blk_drewN ?_ _ | refine blk_drew ?_ | refine blk_alloc ?_ _)); refine blk_put (cs := #[.int .i64 ((rd_T26 l0_0 x35_2).f0), .int .i64 ((rd_T26 l0_0 x35_2).f1), .int .i64 ((rd_T26 l0_0 x35_2).f2), .int .i64 0, .int .i64 0]) ?_ 3 _ rfl; (with_reducible repeat (first | refine blk_drewN ?_ _ | refine blk_drew ?_ | refine blk_alloc ?_ _)); refine blk_put (cs := #[.int .i64 ((rd_T26 l0_0 x35_2).f0), .int .i64 ((rd_T26 l0_0 x35_2).f1), .int .i64 0, .int .i64 0, .int .i64 0]) ?_ 2 _ rfl; (with_reducible repeat (first | refine blk_drewN ?_ _ | refine blk_drew ?_ | refine blk_alloc ?_ _)); refine blk_put (cs := #[.int .i64 ((rd_T26 l0_0 x35_2).f0), .int .i64 0, .int .i64 0, .int .i64 0, .int .i64 0]) ?_ 1 _ rfl; (with_reducible repeat (first | refine blk_drewN ?_ _ | refine blk_drew ?_ | refine blk_alloc ?_ _)); refine blk_put (cs := #[.int .i64 0, .int .i64 0, .int .i64 0, .int .i64 0, .int .i64 0]) ?_ 0 _ rfl; (with_reducible repeat (first | refine blk_drewN ?_ _ | refine blk_drew ?_ | refine blk_alloc ?_ _)); exact BK372.out⟩, ⟨by repeat (first | (with_reducible first | exact HB.out | apply below_alloc | apply pw_below_drewN | apply below_drew1 | refine below_set ?_ GE362.out | refine below_set ?_ GE363.out | refine below_set ?_ GE370.out | refine below_set ?_ GE372.out) | exact HB.out)⟩⟩
         case rest =>
          clear HC36
          try clear c1
          try clear c2
          try clear p2
          try clear c3
          try clear p3
          try clear q3
          try clear hx3
          try clear c4
          try clear c5
          try clear c9
          try clear c10
          try clear c12
          try clear c14
          try clear c16
          try clear c19
          try clear c22
          try clear c24
          try clear c29
          try clear c30
          try clear c33
          try clear c33b0
          try clear c34
          try clear c34b0
          try clear c35
          try clear c35b0
          try clear p37
          try clear q37
          try clear hx37
          try clear c38
          try clear c39
          try clear c40
          try clear c42
          try clear c42b0
          try clear c42b1
          try clear c43
          try clear c44
          try clear c45
          try clear c47
          try clear c48
          try clear c49
          try clear hcz15_0
          try clear hcz17_0
          try clear hcz20_0
          try clear hcz25_0
          try clear hcz31_0
          try clear hcz32_0
          try clear hcz41_0
          try clear hcz41_1
          try clear hcz41_2
          try clear hcz41_3
          try clear hcz41_4
          try clear hcz46_0
          try clear hcz46_1
          try clear hcz46_2
          try clear hcz46_3
          try clear hcz46_4
          try clear hcz50_0
          try clear hcz50_1
          try clear hcz50_2
          try clear hcz50_3
          try clear hcz50_4
          try clear hfz15_0
          try clear hfz17_0
          try clear hfz20_0
          try clear hfz25_0
          try clear hfz31_0
          try clear hfz32_0
          try clear hfz41_0
          try clear hfz41_1
          try clear hfz41_2
          try clear hfz41_3
          try clear hfz41_4
          try clear hfz46_0
          try clear hfz46_1
          try clear hfz46_2
          try clear hfz46_3
          try clear hfz46_4
          try clear hfz50_0
          try clear hfz50_1
          try clear hfz50_2
          try clear hfz50_3
          try clear hfz50_4
          try clear hx371_0
          try clear hx371_1
          try clear hx371_2
          try clear hx371_3
          try clear hx371_4
          try clear p2
          try clear p371
          try clear q371
          obtain ⟨kq, x48_35, rfl, HA, HJ35, HO_371000, BK362, BK363, BK370, BK372, HB⟩ := hcut
          cases kq with
          | zero => exact absurd HA.out (by simp [slotmeshlaw27_QueueValid.j2])
          | succ kj35 =>
           have H := HA.out
           clear HA
           simp only [slotmeshlaw27_QueueValid.j2] at H
           by_cases c51 : x48_35 = true
           ·subst c51
            have H1 : (slotmeshlaw27_QueueValid.l0 kj35 a2 a3 a4 t364 x13_2 l0_0 (l0_0.length : Int) (wrap64 (x35_2 + 1)) l0_0 a1_0 a1_1 a1_2 a1_3 a1_4 t367) = some r := by rw [if_pos rfl] at H; exact H
            clear H
            have H := H1
            clear H1
            have H' := Aside0.mk H
            clear H
            go_wp2
            go_roundg kj35
            case measure => have := HJ6.out; have := HK2.out; have := HJ35.out; omega
            case rel => exact ⟨(x13_2), (wrap64 (x35_2 + 1)), (by first | rfl | (simp; done) | (simp [*]; done)), (by first | rfl | (simp; done) | (simp [*]; done)), H', ⟨by have := HJ6.out; have := HK2.out; have := HJ35.out; omega⟩, ⟨by (with_reducible repeat (first | apply Kd.R_alloc | apply Kd.R_drewN | apply Kd.R_drew)); exact Kd.R_mono HO_371000.out (fun _ hk => hk.1)⟩, ⟨by with_reducible exact BK362.out⟩, ⟨by with_reducible exact BK363.out⟩, ⟨by with_reducible exact BK370.out⟩, ⟨by with_reducible exact HB.out⟩⟩
           ·replace c51 := Bool.eq_false_iff.mpr c51
            subst c51
            have H1 : (if x13_2 ≥ (t367.length : Int) then (some false) else (if 0 ≤ x13_2 then (if x13_2 < (t367.length : Int) then (if (!(((rd_T26 t367 x13_2).f0) == ((rd_T26 l0_0 x35_2).f0)) || (!(((rd_T26 t367 x13_2).f1) == ((rd_T26 l0_0 x35_2).f1)) || (!(((rd_T26 t367 x13_2).f2) == ((rd_T26 l0_0 x35_2).f2)) || (!(((rd_T26 t367 x13_2).f3) == ((rd_T26 l0_0 x35_2).f3)) || (!(((rd_T26 t367 x13_2).f4) == ((rd_T26 l0_0 x35_2).f4))))))) = true then (some false) else (slotmeshlaw27_QueueValid.l0 kj35 a2 a3 a4 t364 (wrap64 (x13_2 + 1)) l0_0 (l0_0.length : Int) (wrap64 (x35_2 + 1)) l0_0 a1_0 a1_1 a1_2 a1_3 a1_4 t367)) else (none)) else (none))) = some r := by rw [if_neg (show ¬ (false = true) by decide)] at H; exact H
            clear H
            have H := H1
            clear H1
            by_cases c52 : x13_2 ≥ (t367.length : Int)
            ·rw [if_pos c52] at H
             have c52b0 : decide ((t367.length : Int) ≤ x13_2) = true := decide_eq_true c52
             clear c52
             exact absurd (Option.some.inj H) (by rw [HRT.out]; decide)
            ·rw [if_neg c52] at H
             have c52b0 : decide ((t367.length : Int) ≤ x13_2) = false := decide_eq_false c52
             clear c52
             by_cases c53 : 0 ≤ x13_2
             ·rw [if_pos c53] at H
              have c53b0 : decide (0 ≤ x13_2) = true := decide_eq_true c53
              clear c53
              by_cases c54 : x13_2 < (t367.length : Int)
              ·rw [if_pos c54] at H
               have c54b0 : decide (x13_2 < (t367.length : Int)) = true := decide_eq_true c54
               clear c54
               by_cases c55 : (!(((rd_T26 t367 x13_2).f0) == ((rd_T26 l0_0 x35_2).f0)) || (!(((rd_T26 t367 x13_2).f1) == ((rd_T26 l0_0 x35_2).f1)) || (!(((rd_T26 t367 x13_2).f2) == ((rd_T26 l0_0 x35_2).f2)) || (!(((rd_T26 t367 x13_2).f3) == ((rd_T26 l0_0 x35_2).f3)) || (!(((rd_T26 t367 x13_2).f4) == ((rd_T26 l0_0 x35_2).f4))))))) = true
               ·rw [if_pos c55] at H
                have c55b0 : (!(((rd_T26 t367 x13_2).f0) == ((rd_T26 l0_0 x35_2).f0)) || (!(((rd_T26 t367 x13_2).f1) == ((rd_T26 l0_0 x35_2).f1)) || (!(((rd_T26 t367 x13_2).f2) == ((rd_T26 l0_0 x35_2).f2)) || (!(((rd_T26 t367 x13_2).f3) == ((rd_T26 l0_0 x35_2).f3)) || (!(((rd_T26 t367 x13_2).f4) == ((rd_T26 l0_0 x35_2).f4))))))) = true := c55
                clear c55
                exact absurd (Option.some.inj H) (by rw [HRT.out]; decide)
               ·rw [if_neg c55] at H
                have c55b0 : (!(((rd_T26 t367 x13_2).f0) == ((rd_T26 l0_0 x35_2).f0)) || (!(((rd_T26 t367 x13_2).f1) == ((rd_T26 l0_0 x35_2).f1)) || (!(((rd_T26 t367 x13_2).f2) == ((rd_T26 l0_0 x35_2).f2)) || (!(((rd_T26 t367 x13_2).f3) == ((rd_T26 l0_0 x35_2).f3)) || (!(((rd_T26 t367 x13_2).f4) == ((rd_T26 l0_0 x35_2).f4))))))) = false := by simpa using c55
                clear c55
                have H' := Aside0.mk H
                clear H
                try go_wp2
                have n0_ := Aside0.mk (Kd.R_drew HO_371000.out)
                have n1_ := Aside0.mk (blk_drew BK362.out)
                have n2_ := Aside0.mk (blk_drew BK363.out)
                have n3_ := Aside0.mk (blk_drew BK370.out)
                have n4_ := Aside0.mk (blk_drew BK372.out)
                have n5_ := Aside0.mk (below_drew1 HB.out)
                clear HO_371000
                clear BK362
                clear BK363
                clear BK370
                clear BK372
                clear HB
                have HO_371000 := n0_
                have BK362 := n1_
                have BK363 := n2_
                have BK370 := n3_
                have BK372 := n4_
                have HB := n5_
                clear n0_ n1_ n2_ n3_ n4_ n5_
                have p373 : 0 ≤ (x13_2 : Int) := of_decide_eq_true (by with_reducible assumption)
                have q373 : x13_2 < (t367.length : Int) := of_decide_eq_true (by with_reducible assumption)
                obtain ⟨ad373, e373, hx373_0, hx373_1, hx373_2, hx373_3, hx373_4⟩ := at_T26 (Kd.R_reads' HO_371000.out).2.2 x13_2 p373 q373
                cases e373
                replace p373 := eq_true p373
                replace q373 := eq_true q373
                refine start_ (n := 14) (S := fun w' => w'.cell? ⟨gb370, 0, none⟩ = some (.slice (some ad373) t367.length co28) ∧ w'.cell? ⟨gb372, 0, none⟩ = some (.int .i64 ((rd_T26 l0_0 x35_2).f0)) ∧ w'.cell? ⟨gb372, 1, none⟩ = some (.int .i64 ((rd_T26 l0_0 x35_2).f1)) ∧ w'.cell? ⟨gb372, 2, none⟩ = some (.int .i64 ((rd_T26 l0_0 x35_2).f2)) ∧ w'.cell? ⟨gb372, 3, none⟩ = some (.int .i64 ((rd_T26 l0_0 x35_2).f3)) ∧ w'.cell? ⟨gb372, 4, none⟩ = some (.int .i64 ((rd_T26 l0_0 x35_2).f4)) ∧ w'.cell? (ad373.add ((x13_2).toNat * 5)) = some (.int .i64 ((rd_T26 t367 x13_2).f0)) ∧ w'.cell? ⟨(ad373.add ((x13_2).toNat * 5)).block, (ad373.add ((x13_2).toNat * 5)).off + 1, none⟩ = some (.int .i64 ((rd_T26 t367 x13_2).f1)) ∧ w'.cell? ⟨(ad373.add ((x13_2).toNat * 5)).block, (ad373.add ((x13_2).toNat * 5)).off + 2, none⟩ = some (.int .i64 ((rd_T26 t367 x13_2).f2)) ∧ w'.cell? ⟨(ad373.add ((x13_2).toNat * 5)).block, (ad373.add ((x13_2).toNat * 5)).off + 3, none⟩ = some (.int .i64 ((rd_T26 t367 x13_2).f3)) ∧ w'.cell? ⟨(ad373.add ((x13_2).toNat * 5)).block, (ad373.add ((x13_2).toNat * 5)).off + 4, none⟩ = some (.int .i64 ((rd_T26 t367 x13_2).f4))) (ds := []) #[false, false, false, false, false, false, false, false, false, false, false, false, false, false] (by kernel_rfl) rfl rfl ⟨(blk_cell BK370.out 0).trans rfl, (blk_cell BK372.out 0).trans rfl, (blk_cell BK372.out 1).trans rfl, (blk_cell BK372.out 2).trans rfl, (blk_cell BK372.out 3).trans rfl, (blk_cell BK372.out 4).trans rfl, hx373_0, hx373_1, hx373_2, hx373_3, hx373_4⟩ (fun hHeld => ?_); refine with_tabW slotmeshlaw27_QueueValid.tab10 slotmeshlaw27_QueueValid.bits10 (fun HT_ HW_ => ?_)
                generalize wc.drew = w56 at HO_371000 BK362 BK363 BK370 BK372 HB hx373_0 hx373_1 hx373_2 hx373_3 hx373_4 hHeld ⊢
                refine pure_ (i := 0) (N := some 49) (v := ?_) (a' := ?_) #[true, false, false, false, false, false, false, false, false, false, false, false, false, false] rfl rfl (any_of HT_.out (by kernel_rfl)) (fun _ _ _ h => h) (Or.inl ⟨by rfl, ?_⟩) ?_ ?_
                rotate_left
                ·intro w'
                 go_simp
                 with_reducible rfl
                rotate_left
                ·simp only [Act.put, List.setIfInBounds_toArray, List.set_cons_zero, List.set_cons_succ, i64_w, i32_w]
                 rfl
                refine pure_ (i := 1) (N := some 50) (v := ?_) (a' := ?_) #[true, true, false, false, false, false, false, false, false, false, false, false, false, false] rfl rfl (any_of HT_.out (by kernel_rfl)) (fun _ _ _ h => h) (Or.inl ⟨by rfl, ?_⟩) ?_ ?_
                rotate_left
                ·intro w'
                 go_simp
                 with_reducible rfl
                rotate_left
                ·simp only [Act.put, List.setIfInBounds_toArray, List.set_cons_zero, List.set_cons_succ, i64_w, i32_w]
                 rfl
                refine take_ (i := 2) (N := some 51) (v := ?_) (a' := ?_) #[true, true, true, false, false, false, false, false, false, false, false, false, false, false] rfl rfl (take_ofW HT_.out HW_.out (by kernel_rfl)) (fun _ _ _ h => h) (Or.inl ⟨by rfl, ?_⟩) hHeld ?_ ?_
                rotate_left
                ·rintro w' ⟨s0, s1, s2, s3, s4, s5, s6, s7, s8, s9, s10⟩
                 go_simp
                 with_reducible rfl
                rotate_left
                ·simp only [Act.put, List.setIfInBounds_toArray, List.set_cons_zero, List.set_cons_succ, i64_w, i32_w]
                 rfl
                refine pure_ (i := 3) (N := some 52) (v := ?_) (a' := ?_) #[true, true, true, true, false, false, false, false, false, false, false, false, false, false] rfl rfl (any_of HT_.out (by kernel_rfl)) (fun _ _ _ h => h) (Or.inl ⟨by rfl, ?_⟩) ?_ ?_
                rotate_left
                ·intro w'
                 go_simp
                 with_reducible rfl
                rotate_left
                ·simp only [Act.put, List.setIfInBounds_toArray, List.set_cons_zero, List.set_cons_succ, i64_w, i32_w]
                 rfl
                refine pure_ (i := 4) (N := some 53) (v := ?_) (a' := ?_) #[true, true, true, true, true, false, false, false, false, false, false, false, false, false] rfl rfl (any_of HT_.out (by kernel_rfl)) (fun _ _ _ h => h) (Or.inl ⟨by rfl, ?_⟩) ?_ ?_
                rotate_left
                ·intro w'
                 go_simp
                 with_reducible rfl
                rotate_left
                ·simp only [Act.put, List.setIfInBounds_toArray, List.set_cons_zero, List.set_cons_succ, i64_w, i32_w]
                 rfl
                refine pure_ (i := 5) (N := some 54) (v := ?_) (a' := ?_) #[true, true, true, true, true, true, false, false, false, false, false, false, false, false] rfl rfl (any_of HT_.out (by kernel_rfl)) (fun _ _ _ h => h) (Or.inl ⟨by rfl, ?_⟩) ?_ ?_
                rotate_left
                ·intro w'
                 go_simp
                 with_reducible rfl
                rotate_left
                ·simp only [Act.put, List.setIfInBounds_toArray, List.set_cons_zero, List.set_cons_succ, i64_w, i32_w]
                 rfl
                refine pure_ (i := 6) (N := some 55) (v := ?_) (a' := ?_) #[true, true, true, true, true, true, true, false, false, false, false, false, false, false] rfl rfl (any_of HT_.out (by kernel_rfl)) (fun _ _ _ h => h) (Or.inl ⟨by rfl, ?_⟩) ?_ ?_
                rotate_left
                ·intro w'
                 go_simp
                 with_reducible rfl
                rotate_left
                ·simp only [Act.put, List.setIfInBounds_toArray, List.set_cons_zero, List.set_cons_succ, i64_w, i32_w]
                 rfl
                refine pure_ (i := 8) (N := some 57) (v := ?_) (a' := ?_) #[true, true, true, true, true, true, true, false, true, false, false, false, false, false] rfl rfl (any_of HT_.out (by kernel_rfl)) (fun _ _ _ h => h) (Or.inl ⟨by rfl, ?_⟩) ?_ ?_
                rotate_left
                ·intro w'
                 go_simp
                 with_reducible rfl
                rotate_left
                ·simp only [Act.put, List.setIfInBounds_toArray, List.set_cons_zero, List.set_cons_succ, i64_w, i32_w]
                 rfl
                refine take_ (i := 7) (N := some 56) (v := ?_) (a' := ?_) #[true, true, true, true, true, true, true, true, true, false, false, false, false, false] rfl rfl (take_ofW HT_.out HW_.out (by kernel_rfl)) (fun _ _ _ h => h) (Or.inl ⟨by rfl, ?_⟩) hHeld ?_ ?_
                rotate_left
                ·rintro w' ⟨s0, s1, s2, s3, s4, s5, s6, s7, s8, s9, s10⟩
                 go_simp
                 with_reducible rfl
                rotate_left
                ·simp only [Act.put, List.setIfInBounds_toArray, List.set_cons_zero, List.set_cons_succ, i64_w, i32_w]
                 rfl
                refine pure_ (i := 9) (N := some 58) (v := ?_) (a' := ?_) #[true, true, true, true, true, true, true, true, true, true, false, false, false, false] rfl rfl (any_of HT_.out (by kernel_rfl)) (fun _ _ _ h => h) (Or.inl ⟨by rfl, ?_⟩) ?_ ?_
                rotate_left
                ·intro w'
                 go_simp
                 with_reducible rfl
                rotate_left
                ·simp only [Act.put, List.setIfInBounds_toArray, List.set_cons_zero, List.set_cons_succ, i64_w, i32_w]
                 rfl
                refine take_ (i := 10) (N := some 59) (v := ?_) (a' := ?_) #[true, true, true, true, true, true, true, true, true, true, true, false, false, false] rfl rfl (take_ofW HT_.out HW_.out (by kernel_rfl)) (fun _ _ _ h => h) (Or.inl ⟨by rfl, ?_⟩) hHeld ?_ ?_
                rotate_left
                ·rintro w' ⟨s0, s1, s2, s3, s4, s5, s6, s7, s8, s9, s10⟩
                 go_simp
                 with_reducible rfl
                rotate_left
                ·simp only [Act.put, List.setIfInBounds_toArray, List.set_cons_zero, List.set_cons_succ, i64_w, i32_w]
                 rfl
                refine take_ (i := 11) (N := some 60) (v := ?_) (a' := ?_) #[true, true, true, true, true, true, true, true, true, true, true, true, false, false] rfl rfl (take_ofW HT_.out HW_.out (by kernel_rfl)) (fun _ _ _ h => h) (Or.inl ⟨by rfl, ?_⟩) hHeld ?_ ?_
                rotate_left
                ·rintro w' ⟨s0, s1, s2, s3, s4, s5, s6, s7, s8, s9, s10⟩
                 go_simp
                 with_reducible rfl
                rotate_left
                ·simp only [Act.put, List.setIfInBounds_toArray, List.set_cons_zero, List.set_cons_succ, i64_w, i32_w]
                 rfl
                refine pure_ (i := 12) (N := some 61) (v := ?_) (a' := ?_) #[true, true, true, true, true, true, true, true, true, true, true, true, true, false] rfl rfl (any_of HT_.out (by kernel_rfl)) (fun _ _ _ h => h) (Or.inl ⟨by rfl, ?_⟩) ?_ ?_
                rotate_left
                ·intro w'
                 go_simp
                 with_reducible rfl
                rotate_left
                ·simp only [Act.put, List.setIfInBounds_toArray, List.set_cons_zero, List.set_cons_succ, i64_w, i32_w]
                 rfl
                refine pure_ (i := 13) (N := some 62) (v := ?_) (a' := ?_) #[true, true, true, true, true, true, true, true, true, true, true, true, true, true] rfl rfl (any_of HT_.out (by kernel_rfl)) (fun _ _ _ h => h) (Or.inl ⟨by rfl, ?_⟩) ?_ ?_
                rotate_left
                ·intro w'
                 go_simp
                 with_reducible rfl
                rotate_left
                ·simp only [Act.put, List.setIfInBounds_toArray, List.set_cons_zero, List.set_cons_succ, i64_w, i32_w]
                 rfl
                refine done_ (done_of HT_.out (by kernel_rfl)) ?_
                try go_wp2
                go_roundg kj35
                case measure => have := HJ6.out; have := HK2.out; have := HJ35.out; omega
                case rel => exact ⟨(wrap64 (x13_2 + 1)), (wrap64 (x35_2 + 1)), (by first | rfl | (simp; done) | (simp [*]; done)), (by first | rfl | (simp; done) | (simp [*]; done)), H', ⟨by have := HJ6.out; have := HK2.out; have := HJ35.out; omega⟩, ⟨by (with_reducible repeat (first | apply Kd.R_alloc | apply Kd.R_drewN | apply Kd.R_drew)); exact Kd.R_mono HO_371000.out (fun _ hk => hk.1)⟩, ⟨by with_reducible exact BK362.out⟩, ⟨by with_reducible exact BK363.out⟩, ⟨by with_reducible exact BK370.out⟩, ⟨by with_reducible exact HB.out⟩⟩
              ·rw [if_neg c54] at H
               exact absurd H (by simp)
             ·rw [if_neg c53] at H
              exact absurd H (by simp)
        ·rw [if_neg c35] at H
         exact absurd H (by simp)
       ·rw [if_neg c34] at H
        exact absurd H (by simp)
      ·rw [if_neg c33] at H
       have c33b0 : decide (x35_2 < (l0_0.length : Int)) = false := decide_eq_false c33
       clear c33
       have HC57 := Aside0.mk H
       clear H
       go_upto_region 14 with (fail)
       go_cut [75] (fun v75 wc => ∃ (kq : Nat) (x75_56 : Bool), v75 = .bool x75_56 ∧ Aside0 (slotmeshlaw27_QueueValid.j3 kq a2 t364 x75_56 l0_0 a1_0 a1_1 a1_2 a1_3 a1_4 = some r) ∧ Aside0 (kq ≤ k2) ∧ Aside0 (Kd.R k26 26 wc w.heap.size (fun k_ => k_ ≠ gb363) (.slice Ao28 t367.length co28) t367) ∧ Aside0 (wc.heap[gb362]? = some (.cells #[(.slice A0_0 l0_0.length c0_0)] 24 (0, 0))) ∧ Aside0 (wc.heap[gb363]? = some (.cells #[.int .i64 a1_0, .int .i64 a1_1, .int .i64 a1_2, .int .i64 a1_3, .int .i64 a1_4] 26 (0, 0))) ∧ Aside0 (wc.heap[gb370]? = some (.cells #[(.slice Ao28 t367.length co28)] 24 (0, 0))) ∧ Aside0 (Below w.heap.size w wc))
       case first =>
        have H := HC57.out
        clear HC57
        by_cases c58 : x13_2 = (t367.length : Int)
        ·rw [if_pos c58] at H
         have c58b0 : (x13_2 == (t367.length : Int)) = true := beq_iff_eq.mpr c58
         have c58b1 : (x13_2 != (t367.length : Int)) = false := bne_eq_false_iff_eq.mpr c58
         clear c58
         (first | rw [c58b0] | (simp only [i64_w, i32_w]; rw [c58b0]) | skip)
         replace H := Option.bind_eq_some_iff.mp H
         obtain ⟨t374, A590, H⟩ := H
         replace H : (slotmeshlaw27_QueueValid.j3 k2 a2 t364 (!t374) l0_0 a1_0 a1_1 a1_2 a1_3 a1_4) = some r := H
         have A59 := Aside0.mk A590
         clear A590
         have H' := Aside0.mk H
         clear H
         have hnb60 := NB370_362.out
         have hnc60 := NB362_370.out
         have hnb61 := NB370_363.out
         have hnc61 := NB363_370.out
         have hcz62_0 : wr.cell? ⟨gb370, 0, none⟩ = some (.slice Ao28 t367.length co28) := (blk_cell BK370.out 0).trans rfl
         have hfz62_0 := blk_frozen BK370.out 0
         go_wp2_with (first | (go_at_call 20; (with_reducible refine (slotmeshref27_Valid.calls k2 _ _ t367 t374 _ ?side1 ?side2 A59.out).mono ?_); (case side1 => repeat (first | exact (Kd.R_reads' HO_371000.out).2.2 | (with_reducible refine Kd.C_alloc ?_ _) | (with_reducible refine Kd.C_drewN ?_ _) | (with_reducible refine Kd.C_drew ?_))); (case side2 => exact (Kd.R_reads' HO_371000.out).2.1); rintro e w63 ⟨rfl, hb⟩; have n0_ := Aside0.mk (Kd.R_below (by with_reducible exact HO_371000.out) hb); have n1_ := Aside0.mk (blk_below (g := gb362) (o := .cells #[.slice A0_0 l0_0.length c0_0] 24 (0, 0)) (by with_reducible exact BK362.out) hb); have n2_ := Aside0.mk (blk_below (g := gb363) (o := .cells #[.int .i64 a1_0, .int .i64 a1_1, .int .i64 a1_2, .int .i64 a1_3, .int .i64 a1_4] 26 (0, 0)) (by with_reducible exact BK363.out) hb); have n3_ := Aside0.mk (blk_below (g := gb370) (o := .cells #[.slice Ao28 t367.length co28] 24 (0, 0)) (by with_reducible exact BK370.out) hb); have n4_ := Aside0.mk (below_step (by with_reducible exact HB.out) hb); clear HO_371000; clear BK362; clear BK363; clear BK370; clear HB; have HO_371000 := n0_; have BK362 := n1_; have BK363 := n2_; have BK370 := n3_; have HB := n4_; clear n0_ n1_ n2_ n3_ n4_; (try clear hb); (try clear hb2); (try clear hk); (try clear hi)))
         go_meet
         case rel => exact ⟨_, (!t374), (by first | rfl | (simp; done) | (simp [*]; done)), H', ⟨by have := HJ6.out; have := HK2.out; first | omega | exact Nat.le_refl _⟩, ⟨by with_reducible exact HO_371000.out⟩, ⟨by with_reducible exact BK362.out⟩, ⟨by with_reducible exact BK363.out⟩, ⟨by with_reducible exact BK370.out⟩, ⟨by with_reducible exact HB.out⟩⟩
        ·rw [if_neg c58] at H
         have c58b0 : (x13_2 == (t367.length : Int)) = false := beq_eq_false_iff_ne.mpr c58
         have c58b1 : (x13_2 != (t367.length : Int)) = true := bne_iff_ne.mpr c58
         (first | rw [c58b0] | (simp only [i64_w, i32_w]; rw [c58b0]) | skip)
         have H' := Aside0.mk H
         clear H
         have hnb64 := NB370_362.out
         have hnc64 := NB362_370.out
         have hnb65 := NB370_363.out
         have hnc65 := NB363_370.out
         have hcz66_0 : wr.cell? ⟨gb370, 0, none⟩ = some (.slice Ao28 t367.length co28) := (blk_cell BK370.out 0).trans rfl
         have hfz66_0 := blk_frozen BK370.out 0
         go_wp2
         go_meet
         case rel => exact ⟨_, (true), (by first | rfl | (simp; done) | (simp [*]; done)), H', ⟨by have := HJ6.out; have := HK2.out; first | omega | exact Nat.le_refl _⟩, ⟨by with_reducible exact HO_371000.out⟩, ⟨by with_reducible exact BK362.out⟩, ⟨by with_reducible exact BK363.out⟩, ⟨by with_reducible exact BK370.out⟩, ⟨by with_reducible exact HB.out⟩⟩
       case rest =>
        clear HC57
        try clear c1
        try clear c2
        try clear p2
        try clear c3
        try clear p3
        try clear q3
        try clear hx3
        try clear c4
        try clear c5
        try clear c6
        try clear p6
        try clear c9
        try clear c10
        try clear c12
        try clear c14
        try clear c16
        try clear c19
        try clear c22
        try clear c24
        try clear c29
        try clear c30
        try clear c33
        try clear c33b0
        try clear c34
        try clear c34b0
        try clear c35
        try clear c35b0
        try clear p37
        try clear q37
        try clear hx37
        try clear c38
        try clear c39
        try clear c40
        try clear c42
        try clear c42b0
        try clear c42b1
        try clear c43
        try clear c44
        try clear c45
        try clear c47
        try clear c48
        try clear c49
        try clear c51
        try clear c52
        try clear c52b0
        try clear c53
        try clear c53b0
        try clear c54
        try clear c54b0
        try clear c55
        try clear c55b0
        try clear c58
        try clear c58b0
        try clear c58b1
        try clear c60
        try clear c61
        try clear c64
        try clear p64
        try clear c65
        try clear hcz15_0
        try clear hcz17_0
        try clear hcz20_0
        try clear hcz25_0
        try clear hcz31_0
        try clear hcz32_0
        try clear hcz41_0
        try clear hcz41_1
        try clear hcz41_2
        try clear hcz41_3
        try clear hcz41_4
        try clear hcz46_0
        try clear hcz46_1
        try clear hcz46_2
        try clear hcz46_3
        try clear hcz46_4
        try clear hcz50_0
        try clear hcz50_1
        try clear hcz50_2
        try clear hcz50_3
        try clear hcz50_4
        try clear hcz62_0
        try clear hcz66_0
        try clear hfz15_0
        try clear hfz17_0
        try clear hfz20_0
        try clear hfz25_0
        try clear hfz31_0
        try clear hfz32_0
        try clear hfz41_0
        try clear hfz41_1
        try clear hfz41_2
        try clear hfz41_3
        try clear hfz41_4
        try clear hfz46_0
        try clear hfz46_1
        try clear hfz46_2
        try clear hfz46_3
        try clear hfz46_4
        try clear hfz50_0
        try clear hfz50_1
        try clear hfz50_2
        try clear hfz50_3
        try clear hfz50_4
        try clear hfz62_0
        try clear hfz66_0
        try clear hx371_0
        try clear hx371_1
        try clear hx371_2
        try clear hx371_3
        try clear hx371_4
        try clear hx373_0
        try clear hx373_1
        try clear hx373_2
        try clear hx373_3
        try clear hx373_4
        try clear p2
        try clear p3
        try clear p37
        try clear p371
        try clear p373
        try clear q3
        try clear q37
        try clear q371
        try clear q373
        obtain ⟨kq, x75_56, rfl, HA, HJ56, HO_371000, BK362, BK363, BK370, HB⟩ := hcut
        cases kq with
        | zero => exact absurd HA.out (by simp [slotmeshlaw27_QueueValid.j3])
        | succ kj56 =>
         have H := HA.out
         clear HA
         simp only [slotmeshlaw27_QueueValid.j3] at H
         by_cases c67 : x75_56 = true
         ·subst c67
          have H1 : (some false) = some r := by rw [if_pos rfl] at H; exact H
          clear H
          have H := H1
          clear H1
          exact absurd (Option.some.inj H) (by rw [HRT.out]; decide)
         ·replace c67 := Bool.eq_false_iff.mpr c67
          subst c67
          have H1 : ((queue_Put.f kj56 l0_0 a1_0 a1_1 a1_2 a1_3 a1_4 a2).bind fun bt375 => (if t364 = true then (if bt375.2 = 0 then ((slotmeshref27_Valid.f kj56 bt375.1).bind fun t380 => (if t380 = true then (if (bt375.1.length : Int) = (wrap64 ((l0_0.length : Int) + 1)) then ((queue_Drop.f kj56 bt375.1 a1_0 a1_1).bind fun t381 => ((slotmeshref27_Same.f kj56 t381 l0_0).bind fun t384 => (some t384))) else (some false)) else (some false))) else (some true)) else (some false))) = some r := by rw [if_neg (show ¬ (false = true) by decide)] at H; exact H
          clear H
          have H := H1
          clear H1
          replace H := Option.bind_eq_some_iff.mp H
          obtain ⟨⟨t375, t378⟩, A680, H⟩ := H
          replace H : (if t364 = true then (if t378 = 0 then ((slotmeshref27_Valid.f kj56 t375).bind fun t380 => (if t380 = true then (if (t375.length : Int) = (wrap64 ((l0_0.length : Int) + 1)) then ((queue_Drop.f kj56 t375 a1_0 a1_1).bind fun t381 => ((slotmeshref27_Same.f kj56 t381 l0_0).bind fun t384 => (some t384))) else (some false)) else (some false))) else (some true)) else (some false)) = some r := H
          have A68 := Aside0.mk A680
          clear A680
          by_cases c69 : t364 = true
          ·subst c69
           have H1 : (if t378 = 0 then ((slotmeshref27_Valid.f kj56 t375).bind fun t380 => (if t380 = true then (if (t375.length : Int) = (wrap64 ((l0_0.length : Int) + 1)) then ((queue_Drop.f kj56 t375 a1_0 a1_1).bind fun t381 => ((slotmeshref27_Same.f kj56 t381 l0_0).bind fun t384 => (some t384))) else (some false)) else (some false))) else (some true)) = some r := by rw [if_pos rfl] at H; exact H
           clear H
           have H := H1
           clear H1
           by_cases c70 : t378 = 0
           ·rw [if_pos c70] at H
            have c70b0 : (t378 == 0) = true := beq_iff_eq.mpr c70
            have c70b1 : (t378 != 0) = false := bne_eq_false_iff_eq.mpr c70
            clear c70
            replace H := Option.bind_eq_some_iff.mp H
            obtain ⟨t380, A710, H⟩ := H
            replace H : (if t380 = true then (if (t375.length : Int) = (wrap64 ((l0_0.length : Int) + 1)) then ((queue_Drop.f kj56 t375 a1_0 a1_1).bind fun t381 => ((slotmeshref27_Same.f kj56 t381 l0_0).bind fun t384 => (some t384))) else (some false)) else (some false)) = some r := H
            have A71 := Aside0.mk A710
            clear A710
            by_cases c72 : t380 = true
            ·subst c72
             have H1 : (if (t375.length : Int) = (wrap64 ((l0_0.length : Int) + 1)) then ((queue_Drop.f kj56 t375 a1_0 a1_1).bind fun t381 => ((slotmeshref27_Same.f kj56 t381 l0_0).bind fun t384 => (some t384))) else (some false)) = some r := by rw [if_pos rfl] at H; exact H
             clear H
             have H := H1
             clear H1
             by_cases c73 : (t375.length : Int) = (wrap64 ((l0_0.length : Int) + 1))
             ·rw [if_pos c73] at H
              have c73b0 : ((t375.length : Int) == (wrap64 ((l0_0.length : Int) + 1))) = true := beq_iff_eq.mpr c73
              have c73b1 : ((t375.length : Int) != (wrap64 ((l0_0.length : Int) + 1))) = false := bne_eq_false_iff_eq.mpr c73
              clear c73
              replace H := Option.bind_eq_some_iff.mp H
              obtain ⟨t381, A740, H⟩ := H
              replace H : ((slotmeshref27_Same.f kj56 t381 l0_0).bind fun t384 => (some t384)) = some r := H
              have A74 := Aside0.mk A740
              clear A740
              replace H := Option.bind_eq_some_iff.mp H
              obtain ⟨t384, A750, H⟩ := H
              replace H : (some t384) = some r := H
              have A75 := Aside0.mk A750
              clear A750
              obtain rfl := Option.some.inj H
              have hnb76 := NB362_363.out
              have hnc76 := NB363_362.out
              have hnb77 := NB362_370.out
              have hnc77 := NB370_362.out
              have hcz78_0 : wc.cell? ⟨gb362, 0, none⟩ = some (.slice A0_0 l0_0.length c0_0) := (blk_cell BK362.out 0).trans rfl
              have hfz78_0 := blk_frozen BK362.out 0
              have hnb79 := NB363_370.out
              have hnc79 := NB370_363.out
              have hcz80_0 : wc.cell? ⟨gb363, 0, none⟩ = some (.int .i64 a1_0) := (blk_cell BK363.out 0).trans rfl
              have hcz80_1 : wc.cell? ⟨gb363, 1, none⟩ = some (.int .i64 a1_1) := (blk_cell BK363.out 1).trans rfl
              have hcz80_2 : wc.cell? ⟨gb363, 2, none⟩ = some (.int .i64 a1_2) := (blk_cell BK363.out 2).trans rfl
              have hcz80_3 : wc.cell? ⟨gb363, 3, none⟩ = some (.int .i64 a1_3) := (blk_cell BK363.out 3).trans rfl
              have hcz80_4 : wc.cell? ⟨gb363, 4, none⟩ = some (.int .i64 a1_4) := (blk_cell BK363.out 4).trans rfl
              have hfz80_0 := blk_frozen BK363.out 0
              have hfz80_1 := blk_frozen BK363.out 1
              have hfz80_2 := blk_frozen BK363.out 2
              have hfz80_3 := blk_frozen BK363.out 3
              have hfz80_4 := blk_frozen BK363.out 4
              try go_wp2_with (first | ((with_reducible refine gate_callee (f := 11) rfl ?_); refine goesL_ (some 80) rfl rfl Try.func11 (by kernel_rfl) rfl #[.agg #[.slice A0_0 l0_0.length c0_0], .agg #[.int .i64 a1_0, .int .i64 a1_1, .int .i64 a1_2, .int .i64 a1_3, .int .i64 a1_4], .int .i64 a2] rfl (by (try simp only [List.map_toArray, List.map_cons, List.map_nil]); first | done | rfl | (simp only [List.length_drop, List.length_take]; rfl)) ?_; (with_reducible refine (queue_Put.calls kj56 _ _ l0_0 a1_0 a1_1 a1_2 a1_3 a1_4 a2 t375 t378 _ ?side1 ?side2 A68.out).mono ?_); (case side1 => repeat (first | exact (Kd.C_below HR0_0.out HB.out) | (with_reducible refine Kd.C_alloc ?_ _) | (with_reducible refine Kd.C_drewN ?_ _) | (with_reducible refine Kd.C_drew ?_))); (case side2 => exact HC0_0.out); rintro e w81 ⟨v376, rfl, ho0, hb⟩; refine ⟨_, rfl, ?_⟩; have n0_ := Aside0.mk (Kd.R_elder' (by with_reducible exact HO_371000.out) (Kd.R_base ho0) hb); have n1_ := Aside0.mk (Kd.R_lower (Kd.R_newB (Kd.R_new' ho0 (Kd.R_lt (by with_reducible exact HO_371000.out))) (g := gb363) (o := .cells #[.int .i64 a1_0, .int .i64 a1_1, .int .i64 a1_2, .int .i64 a1_3, .int .i64 a1_4] 26 (0, 0)) (by with_reducible exact BK363.out)) (below_size (by with_reducible exact HB.out))); have n2_ := Aside0.mk (blk_below (g := gb362) (o := .cells #[.slice A0_0 l0_0.length c0_0] 24 (0, 0)) (by with_reducible exact BK362.out) hb); have n3_ := Aside0.mk (blk_below (g := gb363) (o := .cells #[.int .i64 a1_0, .int .i64 a1_1, .int .i64 a1_2, .int .i64 a1_3, .int .i64 a1_4] 26 (0, 0)) (by with_reducible exact BK363.out) hb); have n4_ := Aside0.mk (blk_below (g := gb370) (o := .cells #[.slice Ao28 t367.length co28] 24 (0, 0)) (by with_reducible exact BK370.out) hb); have n5_ := Aside0.mk (below_step (by with_reducible exact HB.out) hb); clear HO_371000; clear BK362; clear BK363; clear BK370; clear HB; have HO_371000 := n0_; have HO377 := n1_; have BK362 := n2_; have BK363 := n3_; have BK370 := n4_; have HB := n5_; clear n0_ n1_ n2_ n3_ n4_ n5_; (try clear hb); (try clear hb2); (try clear hk); (try clear hi); (try clear ho0)) | ((with_reducible refine gate_dst (N := 16) rfl ?_); (try (refine gate_guard (by rfl) ?_; dsimp only)); refine box_event ?hg (N := 16) ?hd (cs := #[.slice none 0 0]) (t := 24) ?hr ?_; (case hd => rfl); (case hg => rfl); (case hr => first | (go_simp; done) | (go_simp; rfl)); intro gb379 hg w82 hbox hb; have n0_ := Aside0.mk (Kd.R_below (by with_reducible exact HO_371000.out) hb); have n1_ := Aside0.mk (Kd.R_below (by with_reducible exact HO377.out) hb); have n2_ := Aside0.mk (blk_below (g := gb362) (o := .cells #[.slice A0_0 l0_0.length c0_0] 24 (0, 0)) (by with_reducible exact BK362.out) hb); have n3_ := Aside0.mk (blk_below (g := gb363) (o := .cells #[.int .i64 a1_0, .int .i64 a1_1, .int .i64 a1_2, .int .i64 a1_3, .int .i64 a1_4] 26 (0, 0)) (by with_reducible exact BK363.out) hb); have n4_ := Aside0.mk (blk_below (g := gb370) (o := .cells #[.slice Ao28 t367.length co28] 24 (0, 0)) (by with_reducible exact BK370.out) hb); have n5_ := Aside0.mk (below_step (by with_reducible exact HB.out) hb); have n6_ := Aside0.mk (hbox); have n7_ := Aside0.mk ((by rw [hg]; exact (below_size (by with_reducible exact HB.out)) : w.heap.size ≤ gb379)); have n8_ := Aside0.mk ((by rw [hg]; exact (below_size (by with_reducible exact HB.out)) : w.heap.size ≤ gb379)); have n9_ := Aside0.mk ((by rw [hg]; exact Nat.ne_of_lt (blk_lt (g := gb362) (o := .cells #[.slice A0_0 l0_0.length c0_0] 24 (0, 0)) (by with_reducible exact BK362.out)) : gb362 ≠ gb379)); have n10_ := Aside0.mk ((by rw [hg]; exact Nat.ne_of_gt (blk_lt (g := gb362) (o := .cells #[.slice A0_0 l0_0.length c0_0] 24 (0, 0)) (by with_reducible exact BK362.out)) : gb379 ≠ gb362)); have n11_ := Aside0.mk ((by rw [hg]; exact Nat.ne_of_lt (blk_lt (g := gb363) (o := .cells #[.int .i64 a1_0, .int .i64 a1_1, .int .i64 a1_2, .int .i64 a1_3, .int .i64 a1_4] 26 (0, 0)) (by with_reducible exact BK363.out)) : gb363 ≠ gb379)); have n12_ := Aside0.mk ((by rw [hg]; exact Nat.ne_of_gt (blk_lt (g := gb363) (o := .cells #[.int .i64 a1_0, .int .i64 a1_1, .int .i64 a1_2, .int .i64 a1_3, .int .i64 a1_4] 26 (0, 0)) (by with_reducible exact BK363.out)) : gb379 ≠ gb363)); have n13_ := Aside0.mk ((by rw [hg]; exact Nat.ne_of_lt (blk_lt (g := gb370) (o := .cells #[.slice Ao28 t367.length co28] 24 (0, 0)) (by with_reducible exact BK370.out)) : gb370 ≠ gb379)); have n14_ := Aside0.mk ((by rw [hg]; exact Nat.ne_of_gt (blk_lt (g := gb370) (o := .cells #[.slice Ao28 t367.length co28] 24 (0, 0)) (by with_reducible exact BK370.out)) : gb379 ≠ gb370)); clear HO_371000; clear HO377; clear BK362; clear BK363; clear BK370; clear HB; have HO_371000 := n0_; have HO377 := n1_; have BK362 := n2_; have BK363 := n3_; have BK370 := n4_; have HB := n5_; have BK379 := n6_; have GW379 := n7_; have GE379 := n8_; have NB362_379 := n9_; have NB379_362 := n10_; have NB363_379 := n11_; have NB379_363 := n12_; have NB370_379 := n13_; have NB379_370 := n14_; clear n0_ n1_ n2_ n3_ n4_ n5_ n6_ n7_ n8_ n9_ n10_ n11_ n12_ n13_ n14_; clear hb hbox hg; obtain ⟨Ao83, co83, eo83⟩ := Kd.R_slice HO377.out; subst eo83; have hnb84 := NB379_362.out; have hnc84 := NB362_379.out; have hnb85 := NB379_363.out; have hnc85 := NB363_379.out; have hnb86 := NB379_370.out; have hnc86 := NB370_379.out; have hcz87_0 : w82.cell? ⟨gb379, 0, none⟩ = some (.slice none 0 0) := (blk_cell BK379.out 0).trans rfl; have hfz87_0 := blk_frozen BK379.out 0))
              have n0_ : Aside0 (Kd.R k26 26 (w82.setCell ⟨gb379, 0, none⟩ (.slice Ao83 t375.length co83)) w.heap.size (fun k_ => some k_ ≠ (.slice Ao83 t375.length co83 : Value).ownBlock ∧ k_ ≠ gb363) (.slice Ao28 t367.length co28) t367) := ⟨by (with_reducible repeat (first | apply Kd.R_alloc | apply Kd.R_drewN | apply Kd.R_drew)); exact Kd.R_mono (Kd.R_far (p := ⟨gb379, 0, none⟩) (Kd.R_types HO_371000.out BK379.out (by decide)) (fun _ hk => hk.2) (.slice Ao83 t375.length co83)) (fun _ hk => ⟨hk.1.2, hk.1.1⟩)⟩
              have n1_ : Aside0 (Kd.R k26 26 (w82.setCell ⟨gb379, 0, none⟩ (.slice Ao83 t375.length co83)) w.heap.size (fun k_ => some k_ ≠ (.slice Ao28 t367.length co28 : Value).ownBlock ∧ k_ ≠ gb363) (.slice Ao83 t375.length co83) t375) := ⟨by (with_reducible repeat (first | apply Kd.R_alloc | apply Kd.R_drewN | apply Kd.R_drew)); exact Kd.R_mono (Kd.R_far (p := ⟨gb379, 0, none⟩) (Kd.R_types HO377.out BK379.out (by decide)) (fun _ hk => hk.2) (.slice Ao83 t375.length co83)) (fun _ hk => ⟨hk.1.1.2, hk.1.2⟩)⟩
              have n2_ : Aside0 ((w82.setCell ⟨gb379, 0, none⟩ (.slice Ao83 t375.length co83)).heap[gb362]? = some (.cells #[.slice A0_0 l0_0.length c0_0] 24 (0, 0))) := ⟨by (with_reducible repeat (first | refine blk_drewN ?_ _ | refine blk_drew ?_ | refine blk_alloc ?_ _)); refine blk_far ?_ NB362_379.out _; (with_reducible repeat (first | refine blk_drewN ?_ _ | refine blk_drew ?_ | refine blk_alloc ?_ _)); exact BK362.out⟩
              have n3_ : Aside0 ((w82.setCell ⟨gb379, 0, none⟩ (.slice Ao83 t375.length co83)).heap[gb363]? = some (.cells #[.int .i64 a1_0, .int .i64 a1_1, .int .i64 a1_2, .int .i64 a1_3, .int .i64 a1_4] 26 (0, 0))) := ⟨by (with_reducible repeat (first | refine blk_drewN ?_ _ | refine blk_drew ?_ | refine blk_alloc ?_ _)); refine blk_far ?_ NB363_379.out _; (with_reducible repeat (first | refine blk_drewN ?_ _ | refine blk_drew ?_ | refine blk_alloc ?_ _)); exact BK363.out⟩
              have n4_ : Aside0 ((w82.setCell ⟨gb379, 0, none⟩ (.slice Ao83 t375.length co83)).heap[gb370]? = some (.cells #[.slice Ao28 t367.length co28] 24 (0, 0))) := ⟨by (with_reducible repeat (first | refine blk_drewN ?_ _ | refine blk_drew ?_ | refine blk_alloc ?_ _)); refine blk_far ?_ NB370_379.out _; (with_reducible repeat (first | refine blk_drewN ?_ _ | refine blk_drew ?_ | refine blk_alloc ?_ _)); exact BK370.out⟩
              have n5_ : Aside0 ((w82.setCell ⟨gb379, 0, none⟩ (.slice Ao83 t375.length co83)).heap[gb379]? = some (.cells #[.slice Ao83 t375.length co83] 24 (0, 0))) := ⟨by (with_reducible repeat (first | refine blk_drewN ?_ _ | refine blk_drew ?_ | refine blk_alloc ?_ _)); refine blk_put (cs := #[.slice none 0 0]) ?_ 0 _ rfl; (with_reducible repeat (first | refine blk_drewN ?_ _ | refine blk_drew ?_ | refine blk_alloc ?_ _)); exact BK379.out⟩
              have n6_ : Aside0 (Below w.heap.size w (w82.setCell ⟨gb379, 0, none⟩ (.slice Ao83 t375.length co83))) := ⟨by repeat (first | (with_reducible first | exact HB.out | apply below_alloc | apply pw_below_drewN | apply below_drew1 | refine below_set ?_ GE362.out | refine below_set ?_ GE363.out | refine below_set ?_ GE370.out | refine below_set ?_ GE379.out) | exact HB.out)⟩
              (try clear HO_371000)
              (try clear HO377)
              (try clear BK362)
              (try clear BK363)
              (try clear BK370)
              (try clear BK379)
              (try clear HB)
              generalize (w82.setCell ⟨gb379, 0, none⟩ (.slice Ao83 t375.length co83)) = w88 at n0_ n1_ n2_ n3_ n4_ n5_ n6_ ⊢
              have HO_371000 := n0_
              have HO377 := n1_
              have BK362 := n2_
              have BK363 := n3_
              have BK370 := n4_
              have BK379 := n5_
              have HB := n6_
              clear n0_ n1_ n2_ n3_ n4_ n5_ n6_
              have n0_ := Aside0.mk (Kd.R_drew HO_371000.out)
              have n1_ := Aside0.mk (Kd.R_drew HO377.out)
              have n2_ := Aside0.mk (blk_drew BK362.out)
              have n3_ := Aside0.mk (blk_drew BK363.out)
              have n4_ := Aside0.mk (blk_drew BK370.out)
              have n5_ := Aside0.mk (blk_drew BK379.out)
              have n6_ := Aside0.mk (below_drew1 HB.out)
              clear HO_371000
              clear HO377
              clear BK362
              clear BK363
              clear BK370
              clear BK379
              clear HB
              have HO_371000 := n0_
              have HO377 := n1_
              have BK362 := n2_
              have BK363 := n3_
              have BK370 := n4_
              have BK379 := n5_
              have HB := n6_
              clear n0_ n1_ n2_ n3_ n4_ n5_ n6_
              refine start_ (n := 30) (S := fun w' => w'.cell? ⟨gb379, 0, none⟩ = some (.slice Ao83 t375.length co83) ∧ w'.cell? ⟨gb362, 0, none⟩ = some (.slice A0_0 l0_0.length c0_0) ∧ w'.cell? ⟨gb363, 0, none⟩ = some (.int .i64 a1_0) ∧ w'.cell? ⟨gb363, 1, none⟩ = some (.int .i64 a1_1) ∧ w'.cell? ⟨gb363, 2, none⟩ = some (.int .i64 a1_2) ∧ w'.cell? ⟨gb363, 3, none⟩ = some (.int .i64 a1_3) ∧ w'.cell? ⟨gb363, 4, none⟩ = some (.int .i64 a1_4)) (ds := []) #[false, false, false, false, false, false, false, false, false, false, false, false, false, false, false, false, false, false, false, false, false, false, false, false, false, false, false, false, false, false] (by kernel_rfl) rfl rfl ⟨(blk_cell BK379.out 0).trans rfl, (blk_cell BK362.out 0).trans rfl, (blk_cell BK363.out 0).trans rfl, (blk_cell BK363.out 1).trans rfl, (blk_cell BK363.out 2).trans rfl, (blk_cell BK363.out 3).trans rfl, (blk_cell BK363.out 4).trans rfl⟩ (fun hHeld => ?_); refine with_tabW slotmeshlaw27_QueueValid.tab17 slotmeshlaw27_QueueValid.bits17 (fun HT_ HW_ => ?_)
              generalize w88.drew = w89 at HO_371000 HO377 BK362 BK363 BK370 BK379 HB hHeld ⊢
              refine pure_ (i := 0) (N := some 83) (v := ?_) (a' := ?_) #[true, false, false, false, false, false, false, false, false, false, false, false, false, false, false, false, false, false, false, false, false, false, false, false, false, false, false, false, false, false] rfl rfl (any_of HT_.out (by kernel_rfl)) (fun _ _ _ h => h) (Or.inl ⟨by rfl, ?_⟩) ?_ ?_
              rotate_left
              ·intro w'
               go_simp
               with_reducible rfl
              rotate_left
              ·simp only [Act.put, List.setIfInBounds_toArray, List.set_cons_zero, List.set_cons_succ, i64_w, i32_w]
               rfl
              refine pure_ (i := 1) (N := some 84) (v := ?_) (a' := ?_) #[true, true, false, false, false, false, false, false, false, false, false, false, false, false, false, false, false, false, false, false, false, false, false, false, false, false, false, false, false, false] rfl rfl (any_of HT_.out (by kernel_rfl)) (fun _ _ _ h => h) (Or.inl ⟨by rfl, ?_⟩) ?_ ?_
              rotate_left
              ·intro w'
               go_simp
               with_reducible rfl
              rotate_left
              ·simp only [Act.put, List.setIfInBounds_toArray, List.set_cons_zero, List.set_cons_succ, i64_w, i32_w]
               rfl
              refine pure_ (i := 2) (N := some 85) (v := ?_) (a' := ?_) #[true, true, true, false, false, false, false, false, false, false, false, false, false, false, false, false, false, false, false, false, false, false, false, false, false, false, false, false, false, false] rfl rfl (any_of HT_.out (by kernel_rfl)) (fun _ _ _ h => h) (Or.inl ⟨by rfl, ?_⟩) ?_ ?_
              rotate_left
              ·intro w'
               go_simp
               with_reducible rfl
              rotate_left
              ·simp only [Act.put, List.setIfInBounds_toArray, List.set_cons_zero, List.set_cons_succ, i64_w, i32_w]
               rfl
              refine pure_ (i := 3) (N := some 86) (v := ?_) (a' := ?_) #[true, true, true, true, false, false, false, false, false, false, false, false, false, false, false, false, false, false, false, false, false, false, false, false, false, false, false, false, false, false] rfl rfl (any_of HT_.out (by kernel_rfl)) (fun _ _ _ h => h) (Or.inl ⟨by rfl, ?_⟩) ?_ ?_
              rotate_left
              ·intro w'
               go_simp
               with_reducible rfl
              rotate_left
              ·simp only [Act.put, List.setIfInBounds_toArray, List.set_cons_zero, List.set_cons_succ, i64_w, i32_w]
               rfl
              refine pure_ (i := 4) (N := some 87) (v := ?_) (a' := ?_) #[true, true, true, true, true, false, false, false, false, false, false, false, false, false, false, false, false, false, false, false, false, false, false, false, false, false, false, false, false, false] rfl rfl (any_of HT_.out (by kernel_rfl)) (fun _ _ _ h => h) (Or.inl ⟨by rfl, ?_⟩) ?_ ?_
              rotate_left
              ·intro w'
               go_simp
               with_reducible rfl
              rotate_left
              ·simp only [Act.put, List.setIfInBounds_toArray, List.set_cons_zero, List.set_cons_succ, i64_w, i32_w]
               rfl
              refine take_ (i := 5) (N := some 88) (v := ?_) (a' := ?_) #[true, true, true, true, true, true, false, false, false, false, false, false, false, false, false, false, false, false, false, false, false, false, false, false, false, false, false, false, false, false] rfl rfl (take_ofW HT_.out HW_.out (by kernel_rfl)) (fun _ _ _ h => h) (Or.inl ⟨by rfl, ?_⟩) hHeld ?_ ?_
              rotate_left
              ·rintro w' ⟨s0, s1, s2, s3, s4, s5, s6⟩
               go_simp
               with_reducible rfl
              rotate_left
              ·simp only [Act.put, List.setIfInBounds_toArray, List.set_cons_zero, List.set_cons_succ, i64_w, i32_w]
               rfl
              refine one_ (i := 6) (N := some 89) #[true, true, true, true, true, true, true, false, false, false, false, false, false, false, false, false, false, false, false, false, false, false, false, false, false, false, false, false, false, false] rfl rfl (one_of HT_.out (by kernel_rfl)) (by decide) (fun K hK => ?_)
              refine goes_ Try.func20 (by kernel_rfl) rfl #[.agg #[.slice Ao83 t375.length co83]] (by rfl) rfl rfl (by (try simp only [List.map_toArray, List.map_cons, List.map_nil]); first | done | rfl | (simp only [List.length_drop, List.length_take]; rfl)) ?_
              with_reducible refine (slotmeshref27_Valid.calls kj56 _ _ t375 true _ ?side1 ?side2 A71.out).mono ?_
              (case side1 => repeat (first | exact (Kd.R_reads' HO377.out).2.2 | (with_reducible refine Kd.C_alloc ?_ _) | (with_reducible refine Kd.C_drewN ?_ _) | (with_reducible refine Kd.C_drew ?_)))
              (case side2 => exact (Kd.R_reads' HO377.out).2.1)
              rintro e w90 ⟨rfl, hb⟩
              refine ⟨_, rfl, ?_⟩
              have n0_ := Aside0.mk (Kd.R_below (by with_reducible exact HO_371000.out) hb)
              have n1_ := Aside0.mk (Kd.R_below (by with_reducible exact HO377.out) hb)
              have n2_ := Aside0.mk (blk_below (g := gb362) (o := .cells #[.slice A0_0 l0_0.length c0_0] 24 (0, 0)) (by with_reducible exact BK362.out) hb)
              have n3_ := Aside0.mk (blk_below (g := gb363) (o := .cells #[.int .i64 a1_0, .int .i64 a1_1, .int .i64 a1_2, .int .i64 a1_3, .int .i64 a1_4] 26 (0, 0)) (by with_reducible exact BK363.out) hb)
              have n4_ := Aside0.mk (blk_below (g := gb370) (o := .cells #[.slice Ao28 t367.length co28] 24 (0, 0)) (by with_reducible exact BK370.out) hb)
              have n5_ := Aside0.mk (blk_below (g := gb379) (o := .cells #[.slice Ao83 t375.length co83] 24 (0, 0)) (by with_reducible exact BK379.out) hb)
              have n6_ := Aside0.mk (below_step (by with_reducible exact HB.out) hb)
              clear HO_371000
              clear HO377
              clear BK362
              clear BK363
              clear BK370
              clear BK379
              clear HB
              have HO_371000 := n0_
              have HO377 := n1_
              have BK362 := n2_
              have BK363 := n3_
              have BK370 := n4_
              have BK379 := n5_
              have HB := n6_
              clear n0_ n1_ n2_ n3_ n4_ n5_ n6_
              (try clear hb)
              (try clear hb2)
              (try clear hk)
              (try clear hi)
              refine hK.out _ _ ⟨(blk_cell BK379.out 0).trans rfl, (blk_cell BK362.out 0).trans rfl, (blk_cell BK363.out 0).trans rfl, (blk_cell BK363.out 1).trans rfl, (blk_cell BK363.out 2).trans rfl, (blk_cell BK363.out 3).trans rfl, (blk_cell BK363.out 4).trans rfl⟩ (fun hHeld => ?_)
              clear hK K
              refine norm_ (a' := ?_) ?_ ?_
              rotate_left
              ·show Act.put _ (some 89) _ = _
               simp only [Act.put, List.setIfInBounds_toArray, List.set_cons_zero, List.set_cons_succ, i64_w, i32_w]
               rfl
              refine pure_ (i := 7) (N := some 90) (v := ?_) (a' := ?_) #[true, true, true, true, true, true, true, true, false, false, false, false, false, false, false, false, false, false, false, false, false, false, false, false, false, false, false, false, false, false] rfl rfl (any_of HT_.out (by kernel_rfl)) (fun _ _ _ h => h) (Or.inl ⟨by rfl, ?_⟩) ?_ ?_
              rotate_left
              ·intro w'
               go_simp
               with_reducible rfl
              rotate_left
              ·simp only [Act.put, List.setIfInBounds_toArray, List.set_cons_zero, List.set_cons_succ, i64_w, i32_w]
               rfl
              refine pure_ (i := 8) (N := some 91) (v := ?_) (a' := ?_) #[true, true, true, true, true, true, true, true, true, false, false, false, false, false, false, false, false, false, false, false, false, false, false, false, false, false, false, false, false, false] rfl rfl (any_of HT_.out (by kernel_rfl)) (fun _ _ _ h => h) (Or.inl ⟨by rfl, ?_⟩) ?_ ?_
              rotate_left
              ·intro w'
               go_simp
               with_reducible rfl
              rotate_left
              ·simp only [Act.put, List.setIfInBounds_toArray, List.set_cons_zero, List.set_cons_succ, i64_w, i32_w]
               rfl
              refine pure_ (i := 11) (N := some 94) (v := ?_) (a' := ?_) #[true, true, true, true, true, true, true, true, true, false, false, true, false, false, false, false, false, false, false, false, false, false, false, false, false, false, false, false, false, false] rfl rfl (any_of HT_.out (by kernel_rfl)) (fun _ _ _ h => h) (Or.inl ⟨by rfl, ?_⟩) ?_ ?_
              rotate_left
              ·intro w'
               go_simp
               with_reducible rfl
              rotate_left
              ·simp only [Act.put, List.setIfInBounds_toArray, List.set_cons_zero, List.set_cons_succ, i64_w, i32_w]
               rfl
              refine take_ (i := 9) (N := some 92) (v := ?_) (a' := ?_) #[true, true, true, true, true, true, true, true, true, true, false, true, false, false, false, false, false, false, false, false, false, false, false, false, false, false, false, false, false, false] rfl rfl (take_ofW HT_.out HW_.out (by kernel_rfl)) (fun _ _ _ h => h) (Or.inl ⟨by rfl, ?_⟩) hHeld ?_ ?_
              rotate_left
              ·rintro w' ⟨s0, s1, s2, s3, s4, s5, s6⟩
               go_simp
               with_reducible rfl
              rotate_left
              ·simp only [Act.put, List.setIfInBounds_toArray, List.set_cons_zero, List.set_cons_succ, i64_w, i32_w]
               rfl
              refine pure_ (i := 10) (N := some 93) (v := ?_) (a' := ?_) #[true, true, true, true, true, true, true, true, true, true, true, true, false, false, false, false, false, false, false, false, false, false, false, false, false, false, false, false, false, false] rfl rfl (any_of HT_.out (by kernel_rfl)) (fun _ _ _ h => h) (Or.inl ⟨by rfl, ?_⟩) ?_ ?_
              rotate_left
              ·intro w'
               go_simp
               with_reducible rfl
              rotate_left
              ·simp only [Act.put, List.setIfInBounds_toArray, List.set_cons_zero, List.set_cons_succ, i64_w, i32_w]
               rfl
              refine take_ (i := 12) (N := some 95) (v := ?_) (a' := ?_) #[true, true, true, true, true, true, true, true, true, true, true, true, true, false, false, false, false, false, false, false, false, false, false, false, false, false, false, false, false, false] rfl rfl (take_ofW HT_.out HW_.out (by kernel_rfl)) (fun _ _ _ h => h) (Or.inl ⟨by rfl, ?_⟩) hHeld ?_ ?_
              rotate_left
              ·rintro w' ⟨s0, s1, s2, s3, s4, s5, s6⟩
               go_simp
               with_reducible rfl
              rotate_left
              ·simp only [Act.put, List.setIfInBounds_toArray, List.set_cons_zero, List.set_cons_succ, i64_w, i32_w]
               rfl
              refine pure_ (i := 13) (N := some 96) (v := ?_) (a' := ?_) #[true, true, true, true, true, true, true, true, true, true, true, true, true, true, false, false, false, false, false, false, false, false, false, false, false, false, false, false, false, false] rfl rfl (any_of HT_.out (by kernel_rfl)) (fun _ _ _ h => h) (Or.inl ⟨by rfl, ?_⟩) ?_ ?_
              rotate_left
              ·intro w'
               go_simp
               with_reducible rfl
              rotate_left
              ·simp only [Act.put, List.setIfInBounds_toArray, List.set_cons_zero, List.set_cons_succ, i64_w, i32_w]
               rfl
              refine pure_ (i := 14) (N := some 97) (v := ?_) (a' := ?_) #[true, true, true, true, true, true, true, true, true, true, true, true, true, true, true, false, false, false, false, false, false, false, false, false, false, false, false, false, false, false] rfl rfl (any_of HT_.out (by kernel_rfl)) (fun _ _ _ h => h) (Or.inl ⟨by rfl, ?_⟩) ?_ ?_
              rotate_left
              ·intro w'
               go_simp
               with_reducible rfl
              rotate_left
              ·simp only [Act.put, List.setIfInBounds_toArray, List.set_cons_zero, List.set_cons_succ, i64_w, i32_w]
               rfl
              refine pure_ (i := 15) (N := some 98) (v := ?_) (a' := ?_) #[true, true, true, true, true, true, true, true, true, true, true, true, true, true, true, true, false, false, false, false, false, false, false, false, false, false, false, false, false, false] rfl rfl (any_of HT_.out (by kernel_rfl)) (fun _ _ _ h => h) (Or.inl ⟨by rfl, ?_⟩) ?_ ?_
              rotate_left
              ·intro w'
               go_simp
               with_reducible rfl
              rotate_left
              ·simp only [Act.put, List.setIfInBounds_toArray, List.set_cons_zero, List.set_cons_succ, i64_w, i32_w]
               rfl
              refine pure_ (i := 16) (N := some 99) (v := ?_) (a' := ?_) #[true, true, true, true, true, true, true, true, true, true, true, true, true, true, true, true, true, false, false, false, false, false, false, false, false, false, false, false, false, false] rfl rfl (any_of HT_.out (by kernel_rfl)) (fun _ _ _ h => h) (Or.inl ⟨by rfl, ?_⟩) ?_ ?_
              rotate_left
              ·intro w'
               go_simp
               with_reducible rfl
              rotate_left
              ·simp only [Act.put, List.setIfInBounds_toArray, List.set_cons_zero, List.set_cons_succ, i64_w, i32_w]
               rfl
              refine pure_ (i := 17) (N := some 100) (v := ?_) (a' := ?_) #[true, true, true, true, true, true, true, true, true, true, true, true, true, true, true, true, true, true, false, false, false, false, false, false, false, false, false, false, false, false] rfl rfl (any_of HT_.out (by kernel_rfl)) (fun _ _ _ h => h) (Or.inl ⟨by rfl, ?_⟩) ?_ ?_
              rotate_left
              ·intro w'
               go_simp
               with_reducible rfl
              rotate_left
              ·simp only [Act.put, List.setIfInBounds_toArray, List.set_cons_zero, List.set_cons_succ, i64_w, i32_w]
               rfl
              refine pure_ (i := 19) (N := some 102) (v := ?_) (a' := ?_) #[true, true, true, true, true, true, true, true, true, true, true, true, true, true, true, true, true, true, false, true, false, false, false, false, false, false, false, false, false, false] rfl rfl (any_of HT_.out (by kernel_rfl)) (fun _ _ _ h => h) (Or.inl ⟨by rfl, ?_⟩) ?_ ?_
              rotate_left
              ·intro w'
               go_simp
               with_reducible rfl
              rotate_left
              ·simp only [Act.put, List.setIfInBounds_toArray, List.set_cons_zero, List.set_cons_succ, i64_w, i32_w]
               rfl
              refine pure_ (i := 21) (N := some 104) (v := ?_) (a' := ?_) #[true, true, true, true, true, true, true, true, true, true, true, true, true, true, true, true, true, true, false, true, false, true, false, false, false, false, false, false, false, false] rfl rfl (any_of HT_.out (by kernel_rfl)) (fun _ _ _ h => h) (Or.inl ⟨by rfl, ?_⟩) ?_ ?_
              rotate_left
              ·intro w'
               go_simp
               with_reducible rfl
              rotate_left
              ·simp only [Act.put, List.setIfInBounds_toArray, List.set_cons_zero, List.set_cons_succ, i64_w, i32_w]
               rfl
              refine take_ (i := 18) (N := some 101) (v := ?_) (a' := ?_) #[true, true, true, true, true, true, true, true, true, true, true, true, true, true, true, true, true, true, true, true, false, true, false, false, false, false, false, false, false, false] rfl rfl (take_ofW HT_.out HW_.out (by kernel_rfl)) (fun _ _ _ h => h) (Or.inl ⟨by rfl, ?_⟩) hHeld ?_ ?_
              rotate_left
              ·rintro w' ⟨s0, s1, s2, s3, s4, s5, s6⟩
               go_simp
               with_reducible rfl
              rotate_left
              ·simp only [Act.put, List.setIfInBounds_toArray, List.set_cons_zero, List.set_cons_succ, i64_w, i32_w]
               rfl
              refine take_ (i := 20) (N := some 103) (v := ?_) (a' := ?_) #[true, true, true, true, true, true, true, true, true, true, true, true, true, true, true, true, true, true, true, true, true, true, false, false, false, false, false, false, false, false] rfl rfl (take_ofW HT_.out HW_.out (by kernel_rfl)) (fun _ _ _ h => h) (Or.inl ⟨by rfl, ?_⟩) hHeld ?_ ?_
              rotate_left
              ·rintro w' ⟨s0, s1, s2, s3, s4, s5, s6⟩
               go_simp
               with_reducible rfl
              rotate_left
              ·simp only [Act.put, List.setIfInBounds_toArray, List.set_cons_zero, List.set_cons_succ, i64_w, i32_w]
               rfl
              refine take_ (i := 22) (N := some 105) (v := ?_) (a' := ?_) #[true, true, true, true, true, true, true, true, true, true, true, true, true, true, true, true, true, true, true, true, true, true, true, false, false, false, false, false, false, false] rfl rfl (take_ofW HT_.out HW_.out (by kernel_rfl)) (fun _ _ _ h => h) (Or.inl ⟨by rfl, ?_⟩) hHeld ?_ ?_
              rotate_left
              ·rintro w' ⟨s0, s1, s2, s3, s4, s5, s6⟩
               go_simp
               with_reducible rfl
              rotate_left
              ·simp only [Act.put, List.setIfInBounds_toArray, List.set_cons_zero, List.set_cons_succ, i64_w, i32_w]
               rfl
              refine take_ (i := 24) (N := some 107) (v := ?_) (a' := ?_) #[true, true, true, true, true, true, true, true, true, true, true, true, true, true, true, true, true, true, true, true, true, true, true, false, true, false, false, false, false, false] rfl rfl (take_ofW HT_.out HW_.out (by kernel_rfl)) (fun _ _ _ h => h) (Or.inl ⟨by rfl, ?_⟩) hHeld ?_ ?_
              rotate_left
              ·rintro w' ⟨s0, s1, s2, s3, s4, s5, s6⟩
               go_simp
               with_reducible rfl
              rotate_left
              ·simp only [Act.put, List.setIfInBounds_toArray, List.set_cons_zero, List.set_cons_succ, i64_w, i32_w]
               rfl
              refine one_ (i := 23) (N := some 106) #[true, true, true, true, true, true, true, true, true, true, true, true, true, true, true, true, true, true, true, true, true, true, true, true, true, false, false, false, false, false] rfl rfl (one_of HT_.out (by kernel_rfl)) (by decide) (fun K hK => ?_)
              refine goes_ Try.func16 (by kernel_rfl) rfl #[.agg #[.slice Ao83 t375.length co83], .int .i64 a1_0, .int .i64 a1_1] (by rfl) rfl rfl (by (try simp only [List.map_toArray, List.map_cons, List.map_nil]); first | done | rfl | (simp only [List.length_drop, List.length_take]; rfl)) ?_
              with_reducible refine (queue_Drop.calls kj56 (fun k_ => some k_ = (.slice Ao83 t375.length co83 : Value).ownBlock) _ _ t375 a1_0 a1_1 t381 _ ?side1 A74.out).mono ?_
              (case side1 => exact Kd.R_V (Kd.R_tight rfl (Kd.R_types (Kd.R_types (Kd.R_types (HO377.out) BK362.out (by decide)) BK370.out (by decide)) BK379.out (by decide))))
              rintro e w91 ⟨v382, rfl, ho0, hb⟩
              refine ⟨_, rfl, ?_⟩
              have n0_ := Aside0.mk (Kd.R_elder' (by with_reducible exact HO_371000.out) (Kd.R_base ho0) hb)
              have n1_ := Aside0.mk (Kd.R_elder' (by with_reducible exact HO377.out) (Kd.R_base ho0) hb)
              have n2_ := Aside0.mk (Kd.R_lower (Kd.R_newB (Kd.R_new' (Kd.R_new' (Kd.R_mono (ok' := fun k_ => True) ho0 (fun _ hk_ => trivial)) (Kd.R_lt (by with_reducible exact HO_371000.out))) (Kd.R_lt (by with_reducible exact HO377.out))) (g := gb363) (o := .cells #[.int .i64 a1_0, .int .i64 a1_1, .int .i64 a1_2, .int .i64 a1_3, .int .i64 a1_4] 26 (0, 0)) (by with_reducible exact BK363.out)) (below_size (by with_reducible exact HB.out)))
              have n3_ := Aside0.mk (blk_below (g := gb362) (o := .cells #[.slice A0_0 l0_0.length c0_0] 24 (0, 0)) (by with_reducible exact BK362.out) hb)
              have n4_ := Aside0.mk (blk_below (g := gb363) (o := .cells #[.int .i64 a1_0, .int .i64 a1_1, .int .i64 a1_2, .int .i64 a1_3, .int .i64 a1_4] 26 (0, 0)) (by with_reducible exact BK363.out) hb)
              have n5_ := Aside0.mk (blk_below (g := gb370) (o := .cells #[.slice Ao28 t367.length co28] 24 (0, 0)) (by with_reducible exact BK370.out) hb)
              have n6_ := Aside0.mk (blk_below (g := gb379) (o := .cells #[.slice Ao83 t375.length co83] 24 (0, 0)) (by with_reducible exact BK379.out) hb)
              have n7_ := Aside0.mk (below_step (by with_reducible exact HB.out) hb)
              clear HO_371000
              clear HO377
              clear BK362
              clear BK363
              clear BK370
              clear BK379
              clear HB
              have HO_371000 := n0_
              have HO377 := n1_
              have HO383 := n2_
              have BK362 := n3_
              have BK363 := n4_
              have BK370 := n5_
              have BK379 := n6_
              have HB := n7_
              clear n0_ n1_ n2_ n3_ n4_ n5_ n6_ n7_
              (try clear hb)
              (try clear hb2)
              (try clear hk)
              (try clear hi)
              (try clear ho0)
              obtain ⟨Ao92, co92, eo92⟩ := Kd.R_slice HO383.out
              (first | subst eo92 | (injection eo92 with f1_ f2_ f3_; have f4_ := f1_.symm; have f5_ := f3_.symm; clear f1_ f2_ f3_; subst f4_; subst f5_))
              refine hK.out _ _ ⟨(blk_cell BK379.out 0).trans rfl, (blk_cell BK362.out 0).trans rfl, (blk_cell BK363.out 0).trans rfl, (blk_cell BK363.out 1).trans rfl, (blk_cell BK363.out 2).trans rfl, (blk_cell BK363.out 3).trans rfl, (blk_cell BK363.out 4).trans rfl⟩ (fun hHeld => ?_)
              clear hK K
              refine norm_ (a' := ?_) ?_ ?_
              rotate_left
              ·show Act.put _ (some 106) _ = _
               simp only [Act.put, List.setIfInBounds_toArray, List.set_cons_zero, List.set_cons_succ, i64_w, i32_w]
               rfl
              refine one_ (i := 25) (N := some 108) #[true, true, true, true, true, true, true, true, true, true, true, true, true, true, true, true, true, true, true, true, true, true, true, true, true, true, false, false, false, false] rfl rfl (one_of HT_.out (by kernel_rfl)) (by decide) (fun K hK => ?_)
              refine goes_ Try.func15 (by kernel_rfl) rfl #[.agg #[.slice Ao92 t381.length co92], .agg #[.slice A0_0 l0_0.length c0_0]] (by rfl) rfl rfl (by (try simp only [List.map_toArray, List.map_cons, List.map_nil]); first | done | rfl | (simp only [List.length_drop, List.length_take]; rfl)) ?_
              with_reducible refine (slotmeshref27_Same.calls kj56 _ _ t381 _ _ l0_0 t384 _ ?side1 ?side2 ?side3 ?side4 A75.out).mono ?_
              (case side1 => repeat (first | exact (Kd.R_reads' HO383.out).2.2 | (with_reducible refine Kd.C_alloc ?_ _) | (with_reducible refine Kd.C_drewN ?_ _) | (with_reducible refine Kd.C_drew ?_)))
              (case side2 => exact (Kd.R_reads' HO383.out).2.1)
              (case side3 => repeat (first | exact (Kd.C_below HR0_0.out HB.out) | (with_reducible refine Kd.C_alloc ?_ _) | (with_reducible refine Kd.C_drewN ?_ _) | (with_reducible refine Kd.C_drew ?_)))
              (case side4 => exact HC0_0.out)
              rintro e w93 ⟨rfl, hb⟩
              refine ⟨_, rfl, ?_⟩
              have n0_ := Aside0.mk (Kd.R_below (by with_reducible exact HO_371000.out) hb)
              have n1_ := Aside0.mk (Kd.R_below (by with_reducible exact HO377.out) hb)
              have n2_ := Aside0.mk (Kd.R_below (by with_reducible exact HO383.out) hb)
              have n3_ := Aside0.mk (blk_below (g := gb362) (o := .cells #[.slice A0_0 l0_0.length c0_0] 24 (0, 0)) (by with_reducible exact BK362.out) hb)
              have n4_ := Aside0.mk (blk_below (g := gb363) (o := .cells #[.int .i64 a1_0, .int .i64 a1_1, .int .i64 a1_2, .int .i64 a1_3, .int .i64 a1_4] 26 (0, 0)) (by with_reducible exact BK363.out) hb)
              have n5_ := Aside0.mk (blk_below (g := gb370) (o := .cells #[.slice Ao28 t367.length co28] 24 (0, 0)) (by with_reducible exact BK370.out) hb)
              have n6_ := Aside0.mk (blk_below (g := gb379) (o := .cells #[.slice Ao83 t375.length co83] 24 (0, 0)) (by with_reducible exact BK379.out) hb)
              have n7_ := Aside0.mk (below_step (by with_reducible exact HB.out) hb)
              clear HO_371000
              clear HO377
              clear HO383
              clear BK362
              clear BK363
              clear BK370
              clear BK379
              clear HB
              have HO_371000 := n0_
              have HO377 := n1_
              have HO383 := n2_
              have BK362 := n3_
              have BK363 := n4_
              have BK370 := n5_
              have BK379 := n6_
              have HB := n7_
              clear n0_ n1_ n2_ n3_ n4_ n5_ n6_ n7_
              (try clear hb)
              (try clear hb2)
              (try clear hk)
              (try clear hi)
              refine hK.out _ _ ⟨(blk_cell BK379.out 0).trans rfl, (blk_cell BK362.out 0).trans rfl, (blk_cell BK363.out 0).trans rfl, (blk_cell BK363.out 1).trans rfl, (blk_cell BK363.out 2).trans rfl, (blk_cell BK363.out 3).trans rfl, (blk_cell BK363.out 4).trans rfl⟩ (fun hHeld => ?_)
              clear hK K
              refine norm_ (a' := ?_) ?_ ?_
              rotate_left
              ·show Act.put _ (some 108) _ = _
               simp only [Act.put, List.setIfInBounds_toArray, List.set_cons_zero, List.set_cons_succ, i64_w, i32_w]
               rfl
              refine pure_ (i := 26) (N := some 109) (v := ?_) (a' := ?_) #[true, true, true, true, true, true, true, true, true, true, true, true, true, true, true, true, true, true, true, true, true, true, true, true, true, true, true, false, false, false] rfl rfl (any_of HT_.out (by kernel_rfl)) (fun _ _ _ h => h) (Or.inl ⟨by rfl, ?_⟩) ?_ ?_
              rotate_left
              ·intro w'
               go_simp
               with_reducible rfl
              rotate_left
              ·simp only [Act.put, List.setIfInBounds_toArray, List.set_cons_zero, List.set_cons_succ, i64_w, i32_w]
               rfl
              refine pure_ (i := 27) (N := some 110) (v := ?_) (a' := ?_) #[true, true, true, true, true, true, true, true, true, true, true, true, true, true, true, true, true, true, true, true, true, true, true, true, true, true, true, true, false, false] rfl rfl (any_of HT_.out (by kernel_rfl)) (fun _ _ _ h => h) (Or.inl ⟨by rfl, ?_⟩) ?_ ?_
              rotate_left
              ·intro w'
               go_simp
               with_reducible rfl
              rotate_left
              ·simp only [Act.put, List.setIfInBounds_toArray, List.set_cons_zero, List.set_cons_succ, i64_w, i32_w]
               rfl
              refine pure_ (i := 28) (N := some 111) (v := ?_) (a' := ?_) #[true, true, true, true, true, true, true, true, true, true, true, true, true, true, true, true, true, true, true, true, true, true, true, true, true, true, true, true, true, false] rfl rfl (any_of HT_.out (by kernel_rfl)) (fun _ _ _ h => h) (Or.inl ⟨by rfl, ?_⟩) ?_ ?_
              rotate_left
              ·intro w'
               go_simp
               with_reducible rfl
              rotate_left
              ·simp only [Act.put, List.setIfInBounds_toArray, List.set_cons_zero, List.set_cons_succ, i64_w, i32_w]
               rfl
              refine pure_ (i := 29) (N := some 10) (v := ?_) (a' := ?_) #[true, true, true, true, true, true, true, true, true, true, true, true, true, true, true, true, true, true, true, true, true, true, true, true, true, true, true, true, true, true] rfl rfl (any_of HT_.out (by kernel_rfl)) (fun _ _ _ h => h) (Or.inl ⟨by rfl, ?_⟩) ?_ ?_
              rotate_left
              ·intro w'
               go_simp
               with_reducible rfl
              rotate_left
              ·simp only [Act.put, List.setIfInBounds_toArray, List.set_cons_zero, List.set_cons_succ, i64_w, i32_w]
               rfl
              refine done_ (done_of HT_.out (by kernel_rfl)) ?_
              try go_wp2
              go_ret
              exact ⟨by first | rfl | (simp [errW_none, errW_some] <;> rfl) | (simp [*, errW_none, errW_some] <;> rfl), by with_reducible exact HB.out⟩
             ·rw [if_neg c73] at H
              have c73b0 : ((t375.length : Int) == (wrap64 ((l0_0.length : Int) + 1))) = false := beq_eq_false_iff_ne.mpr c73
              have c73b1 : ((t375.length : Int) != (wrap64 ((l0_0.length : Int) + 1))) = true := bne_iff_ne.mpr c73
              exact absurd (Option.some.inj H) (by rw [HRT.out]; decide)
            ·replace c72 := Bool.eq_false_iff.mpr c72
             subst c72
             have H1 : (some false) = some r := by rw [if_neg (show ¬ (false = true) by decide)] at H; exact H
             clear H
             have H := H1
             clear H1
             exact absurd (Option.some.inj H) (by rw [HRT.out]; decide)
           ·rw [if_neg c70] at H
            have c70b0 : (t378 == 0) = false := beq_eq_false_iff_ne.mpr c70
            have c70b1 : (t378 != 0) = true := bne_iff_ne.mpr c70
            obtain rfl := Option.some.inj H
            have hnb94 := NB362_363.out
            have hnc94 := NB363_362.out
            have hnb95 := NB362_370.out
            have hnc95 := NB370_362.out
            have hcz96_0 : wc.cell? ⟨gb362, 0, none⟩ = some (.slice A0_0 l0_0.length c0_0) := (blk_cell BK362.out 0).trans rfl
            have hfz96_0 := blk_frozen BK362.out 0
            have hnb97 := NB363_370.out
            have hnc97 := NB370_363.out
            have hcz98_0 : wc.cell? ⟨gb363, 0, none⟩ = some (.int .i64 a1_0) := (blk_cell BK363.out 0).trans rfl
            have hcz98_1 : wc.cell? ⟨gb363, 1, none⟩ = some (.int .i64 a1_1) := (blk_cell BK363.out 1).trans rfl
            have hcz98_2 : wc.cell? ⟨gb363, 2, none⟩ = some (.int .i64 a1_2) := (blk_cell BK363.out 2).trans rfl
            have hcz98_3 : wc.cell? ⟨gb363, 3, none⟩ = some (.int .i64 a1_3) := (blk_cell BK363.out 3).trans rfl
            have hcz98_4 : wc.cell? ⟨gb363, 4, none⟩ = some (.int .i64 a1_4) := (blk_cell BK363.out 4).trans rfl
            have hfz98_0 := blk_frozen BK363.out 0
            have hfz98_1 := blk_frozen BK363.out 1
            have hfz98_2 := blk_frozen BK363.out 2
            have hfz98_3 := blk_frozen BK363.out 3
            have hfz98_4 := blk_frozen BK363.out 4
            try go_wp2_with (first | ((with_reducible refine gate_callee (f := 11) rfl ?_); refine goesL_ (some 80) rfl rfl Try.func11 (by kernel_rfl) rfl #[.agg #[.slice A0_0 l0_0.length c0_0], .agg #[.int .i64 a1_0, .int .i64 a1_1, .int .i64 a1_2, .int .i64 a1_3, .int .i64 a1_4], .int .i64 a2] rfl (by (try simp only [List.map_toArray, List.map_cons, List.map_nil]); first | done | rfl | (simp only [List.length_drop, List.length_take]; rfl)) ?_; (with_reducible refine (queue_Put.calls kj56 _ _ l0_0 a1_0 a1_1 a1_2 a1_3 a1_4 a2 t375 t378 _ ?side1 ?side2 A68.out).mono ?_); (case side1 => repeat (first | exact (Kd.C_below HR0_0.out HB.out) | (with_reducible refine Kd.C_alloc ?_ _) | (with_reducible refine Kd.C_drewN ?_ _) | (with_reducible refine Kd.C_drew ?_))); (case side2 => exact HC0_0.out); rintro e w99 ⟨v376, rfl, ho0, hb⟩; refine ⟨_, rfl, ?_⟩; have n0_ := Aside0.mk (Kd.R_elder' (by with_reducible exact HO_371000.out) (Kd.R_base ho0) hb); have n1_ := Aside0.mk (Kd.R_lower (Kd.R_newB (Kd.R_new' ho0 (Kd.R_lt (by with_reducible exact HO_371000.out))) (g := gb363) (o := .cells #[.int .i64 a1_0, .int .i64 a1_1, .int .i64 a1_2, .int .i64 a1_3, .int .i64 a1_4] 26 (0, 0)) (by with_reducible exact BK363.out)) (below_size (by with_reducible exact HB.out))); have n2_ := Aside0.mk (blk_below (g := gb362) (o := .cells #[.slice A0_0 l0_0.length c0_0] 24 (0, 0)) (by with_reducible exact BK362.out) hb); have n3_ := Aside0.mk (blk_below (g := gb363) (o := .cells #[.int .i64 a1_0, .int .i64 a1_1, .int .i64 a1_2, .int .i64 a1_3, .int .i64 a1_4] 26 (0, 0)) (by with_reducible exact BK363.out) hb); have n4_ := Aside0.mk (blk_below (g := gb370) (o := .cells #[.slice Ao28 t367.length co28] 24 (0, 0)) (by with_reducible exact BK370.out) hb); have n5_ := Aside0.mk (below_step (by with_reducible exact HB.out) hb); clear HO_371000; clear BK362; clear BK363; clear BK370; clear HB; have HO_371000 := n0_; have HO377 := n1_; have BK362 := n2_; have BK363 := n3_; have BK370 := n4_; have HB := n5_; clear n0_ n1_ n2_ n3_ n4_ n5_; (try clear hb); (try clear hb2); (try clear hk); (try clear hi); (try clear ho0)) | ((with_reducible refine gate_dst (N := 16) rfl ?_); (try (refine gate_guard (by rfl) ?_; dsimp only)); refine box_event ?hg (N := 16) ?hd (cs := #[.slice none 0 0]) (t := 24) ?hr ?_; (case hd => rfl); (case hg => rfl); (case hr => first | (go_simp; done) | (go_simp; rfl)); intro gb379 hg w100 hbox hb; have n0_ := Aside0.mk (Kd.R_below (by with_reducible exact HO_371000.out) hb); have n1_ := Aside0.mk (Kd.R_below (by with_reducible exact HO377.out) hb); have n2_ := Aside0.mk (blk_below (g := gb362) (o := .cells #[.slice A0_0 l0_0.length c0_0] 24 (0, 0)) (by with_reducible exact BK362.out) hb); have n3_ := Aside0.mk (blk_below (g := gb363) (o := .cells #[.int .i64 a1_0, .int .i64 a1_1, .int .i64 a1_2, .int .i64 a1_3, .int .i64 a1_4] 26 (0, 0)) (by with_reducible exact BK363.out) hb); have n4_ := Aside0.mk (blk_below (g := gb370) (o := .cells #[.slice Ao28 t367.length co28] 24 (0, 0)) (by with_reducible exact BK370.out) hb); have n5_ := Aside0.mk (below_step (by with_reducible exact HB.out) hb); have n6_ := Aside0.mk (hbox); have n7_ := Aside0.mk ((by rw [hg]; exact (below_size (by with_reducible exact HB.out)) : w.heap.size ≤ gb379)); have n8_ := Aside0.mk ((by rw [hg]; exact (below_size (by with_reducible exact HB.out)) : w.heap.size ≤ gb379)); have n9_ := Aside0.mk ((by rw [hg]; exact Nat.ne_of_lt (blk_lt (g := gb362) (o := .cells #[.slice A0_0 l0_0.length c0_0] 24 (0, 0)) (by with_reducible exact BK362.out)) : gb362 ≠ gb379)); have n10_ := Aside0.mk ((by rw [hg]; exact Nat.ne_of_gt (blk_lt (g := gb362) (o := .cells #[.slice A0_0 l0_0.length c0_0] 24 (0, 0)) (by with_reducible exact BK362.out)) : gb379 ≠ gb362)); have n11_ := Aside0.mk ((by rw [hg]; exact Nat.ne_of_lt (blk_lt (g := gb363) (o := .cells #[.int .i64 a1_0, .int .i64 a1_1, .int .i64 a1_2, .int .i64 a1_3, .int .i64 a1_4] 26 (0, 0)) (by with_reducible exact BK363.out)) : gb363 ≠ gb379)); have n12_ := Aside0.mk ((by rw [hg]; exact Nat.ne_of_gt (blk_lt (g := gb363) (o := .cells #[.int .i64 a1_0, .int .i64 a1_1, .int .i64 a1_2, .int .i64 a1_3, .int .i64 a1_4] 26 (0, 0)) (by with_reducible exact BK363.out)) : gb379 ≠ gb363)); have n13_ := Aside0.mk ((by rw [hg]; exact Nat.ne_of_lt (blk_lt (g := gb370) (o := .cells #[.slice Ao28 t367.length co28] 24 (0, 0)) (by with_reducible exact BK370.out)) : gb370 ≠ gb379)); have n14_ := Aside0.mk ((by rw [hg]; exact Nat.ne_of_gt (blk_lt (g := gb370) (o := .cells #[.slice Ao28 t367.length co28] 24 (0, 0)) (by with_reducible exact BK370.out)) : gb379 ≠ gb370)); clear HO_371000; clear HO377; clear BK362; clear BK363; clear BK370; clear HB; have HO_371000 := n0_; have HO377 := n1_; have BK362 := n2_; have BK363 := n3_; have BK370 := n4_; have HB := n5_; have BK379 := n6_; have GW379 := n7_; have GE379 := n8_; have NB362_379 := n9_; have NB379_362 := n10_; have NB363_379 := n11_; have NB379_363 := n12_; have NB370_379 := n13_; have NB379_370 := n14_; clear n0_ n1_ n2_ n3_ n4_ n5_ n6_ n7_ n8_ n9_ n10_ n11_ n12_ n13_ n14_; clear hb hbox hg; obtain ⟨Ao101, co101, eo101⟩ := Kd.R_slice HO377.out; subst eo101; have hnb102 := NB379_362.out; have hnc102 := NB362_379.out; have hnb103 := NB379_363.out; have hnc103 := NB363_379.out; have hnb104 := NB379_370.out; have hnc104 := NB370_379.out; have hcz105_0 : w100.cell? ⟨gb379, 0, none⟩ = some (.slice none 0 0) := (blk_cell BK379.out 0).trans rfl; have hfz105_0 := blk_frozen BK379.out 0))
            have n0_ : Aside0 (Kd.R k26 26 (w100.setCell ⟨gb379, 0, none⟩ (.slice Ao101 t375.length co101)) w.heap.size (fun k_ => some k_ ≠ (.slice Ao101 t375.length co101 : Value).ownBlock ∧ k_ ≠ gb363) (.slice Ao28 t367.length co28) t367) := ⟨by (with_reducible repeat (first | apply Kd.R_alloc | apply Kd.R_drewN | apply Kd.R_drew)); exact Kd.R_mono (Kd.R_far (p := ⟨gb379, 0, none⟩) (Kd.R_types HO_371000.out BK379.out (by decide)) (fun _ hk => hk.2) (.slice Ao101 t375.length co101)) (fun _ hk => ⟨hk.1.2, hk.1.1⟩)⟩
            have n1_ : Aside0 (Kd.R k26 26 (w100.setCell ⟨gb379, 0, none⟩ (.slice Ao101 t375.length co101)) w.heap.size (fun k_ => some k_ ≠ (.slice Ao28 t367.length co28 : Value).ownBlock ∧ k_ ≠ gb363) (.slice Ao101 t375.length co101) t375) := ⟨by (with_reducible repeat (first | apply Kd.R_alloc | apply Kd.R_drewN | apply Kd.R_drew)); exact Kd.R_mono (Kd.R_far (p := ⟨gb379, 0, none⟩) (Kd.R_types HO377.out BK379.out (by decide)) (fun _ hk => hk.2) (.slice Ao101 t375.length co101)) (fun _ hk => ⟨hk.1.1.2, hk.1.2⟩)⟩
            have n2_ : Aside0 ((w100.setCell ⟨gb379, 0, none⟩ (.slice Ao101 t375.length co101)).heap[gb362]? = some (.cells #[.slice A0_0 l0_0.length c0_0] 24 (0, 0))) := ⟨by (with_reducible repeat (first | refine blk_drewN ?_ _ | refine blk_drew ?_ | refine blk_alloc ?_ _)); refine blk_far ?_ NB362_379.out _; (with_reducible repeat (first | refine blk_drewN ?_ _ | refine blk_drew ?_ | refine blk_alloc ?_ _)); exact BK362.out⟩
            have n3_ : Aside0 ((w100.setCell ⟨gb379, 0, none⟩ (.slice Ao101 t375.length co101)).heap[gb363]? = some (.cells #[.int .i64 a1_0, .int .i64 a1_1, .int .i64 a1_2, .int .i64 a1_3, .int .i64 a1_4] 26 (0, 0))) := ⟨by (with_reducible repeat (first | refine blk_drewN ?_ _ | refine blk_drew ?_ | refine blk_alloc ?_ _)); refine blk_far ?_ NB363_379.out _; (with_reducible repeat (first | refine blk_drewN ?_ _ | refine blk_drew ?_ | refine blk_alloc ?_ _)); exact BK363.out⟩
            have n4_ : Aside0 ((w100.setCell ⟨gb379, 0, none⟩ (.slice Ao101 t375.length co101)).heap[gb370]? = some (.cells #[.slice Ao28 t367.length co28] 24 (0, 0))) := ⟨by (with_reducible repeat (first | refine blk_drewN ?_ _ | refine blk_drew ?_ | refine blk_alloc ?_ _)); refine blk_far ?_ NB370_379.out _; (with_reducible repeat (first | refine blk_drewN ?_ _ | refine blk_drew ?_ | refine blk_alloc ?_ _)); exact BK370.out⟩
            have n5_ : Aside0 ((w100.setCell ⟨gb379, 0, none⟩ (.slice Ao101 t375.length co101)).heap[gb379]? = some (.cells #[.slice Ao101 t375.length co101] 24 (0, 0))) := ⟨by (with_reducible repeat (first | refine blk_drewN ?_ _ | refine blk_drew ?_ | refine blk_alloc ?_ _)); refine blk_put (cs := #[.slice none 0 0]) ?_ 0 _ rfl; (with_reducible repeat (first | refine blk_drewN ?_ _ | refine blk_drew ?_ | refine blk_alloc ?_ _)); exact BK379.out⟩
            have n6_ : Aside0 (Below w.heap.size w (w100.setCell ⟨gb379, 0, none⟩ (.slice Ao101 t375.length co101))) := ⟨by repeat (first | (with_reducible first | exact HB.out | apply below_alloc | apply pw_below_drewN | apply below_drew1 | refine below_set ?_ GE362.out | refine below_set ?_ GE363.out | refine below_set ?_ GE370.out | refine below_set ?_ GE379.out) | exact HB.out)⟩
            (try clear HO_371000)
            (try clear HO377)
            (try clear BK362)
            (try clear BK363)
            (try clear BK370)
            (try clear BK379)
            (try clear HB)
            generalize (w100.setCell ⟨gb379, 0, none⟩ (.slice Ao101 t375.length co101)) = w106 at n0_ n1_ n2_ n3_ n4_ n5_ n6_ ⊢
            have HO_371000 := n0_
            have HO377 := n1_
            have BK362 := n2_
            have BK363 := n3_
            have BK370 := n4_
            have BK379 := n5_
            have HB := n6_
            clear n0_ n1_ n2_ n3_ n4_ n5_ n6_
            have n0_ := Aside0.mk (Kd.R_drew HO_371000.out)
            have n1_ := Aside0.mk (Kd.R_drew HO377.out)
            have n2_ := Aside0.mk (blk_drew BK362.out)
            have n3_ := Aside0.mk (blk_drew BK363.out)
            have n4_ := Aside0.mk (blk_drew BK370.out)
            have n5_ := Aside0.mk (blk_drew BK379.out)
            have n6_ := Aside0.mk (below_drew1 HB.out)
            clear HO_371000
            clear HO377
            clear BK362
            clear BK363
            clear BK370
            clear BK379
            clear HB
            have HO_371000 := n0_
            have HO377 := n1_
            have BK362 := n2_
            have BK363 := n3_
            have BK370 := n4_
            have BK379 := n5_
            have HB := n6_
            clear n0_ n1_ n2_ n3_ n4_ n5_ n6_
            refine start_ (n := 30) (S := fun w' => True) (ds := []) #[false, false, false, false, false, false, false, false, false, false, false, false, false, false, false, false, false, false, false, false, false, false, false, false, false, false, false, false, false, false] (by kernel_rfl) rfl rfl trivial (fun hHeld => ?_); refine with_tabW slotmeshlaw27_QueueValid.tab17 slotmeshlaw27_QueueValid.bits17 (fun HT_ HW_ => ?_)
            generalize w106.drew = w107 at HO_371000 HO377 BK362 BK363 BK370 BK379 HB hHeld ⊢
            refine pure_ (i := 0) (N := some 83) (v := ?_) (a' := ?_) #[true, false, false, false, false, false, false, false, false, false, false, false, false, false, false, false, false, false, false, false, false, false, false, false, false, false, false, false, false, false] rfl rfl (any_of HT_.out (by kernel_rfl)) (fun _ _ _ h => h) (Or.inl ⟨by rfl, ?_⟩) ?_ ?_
            rotate_left
            ·intro w'
             go_simp
             with_reducible rfl
            rotate_left
            ·simp only [Act.put, List.setIfInBounds_toArray, List.set_cons_zero, List.set_cons_succ, i64_w, i32_w]
             rfl
            refine pure_ (i := 1) (N := some 84) (v := ?_) (a' := ?_) #[true, true, false, false, false, false, false, false, false, false, false, false, false, false, false, false, false, false, false, false, false, false, false, false, false, false, false, false, false, false] rfl rfl (any_of HT_.out (by kernel_rfl)) (fun _ _ _ h => h) (Or.inl ⟨by rfl, ?_⟩) ?_ ?_
            rotate_left
            ·intro w'
             go_simp
             with_reducible rfl
            rotate_left
            ·simp only [Act.put, List.setIfInBounds_toArray, List.set_cons_zero, List.set_cons_succ, i64_w, i32_w]
             rfl
            refine pure_ (i := 2) (N := some 85) (v := ?_) (a' := ?_) #[true, true, true, false, false, false, false, false, false, false, false, false, false, false, false, false, false, false, false, false, false, false, false, false, false, false, false, false, false, false] rfl rfl (any_of HT_.out (by kernel_rfl)) (fun _ _ _ h => h) (Or.inl ⟨by rfl, ?_⟩) ?_ ?_
            rotate_left
            ·intro w'
             go_simp
             with_reducible rfl
            rotate_left
            ·simp only [Act.put, List.setIfInBounds_toArray, List.set_cons_zero, List.set_cons_succ, i64_w, i32_w]
             rfl
            refine pure_ (i := 3) (N := some 86) (v := ?_) (a' := ?_) #[true, true, true, true, false, false, false, false, false, false, false, false, false, false, false, false, false, false, false, false, false, false, false, false, false, false, false, false, false, false] rfl rfl (any_of HT_.out (by kernel_rfl)) (fun _ _ _ h => h) (Or.inl ⟨by rfl, ?_⟩) ?_ ?_
            rotate_left
            ·intro w'
             go_simp
             with_reducible rfl
            rotate_left
            ·simp only [Act.put, List.setIfInBounds_toArray, List.set_cons_zero, List.set_cons_succ, i64_w, i32_w]
             rfl
            refine pure_ (i := 4) (N := some 87) (v := ?_) (a' := ?_) #[true, true, true, true, true, false, false, false, false, false, false, false, false, false, false, false, false, false, false, false, false, false, false, false, false, false, false, false, false, false] rfl rfl (any_of HT_.out (by kernel_rfl)) (fun _ _ _ h => h) (Or.inl ⟨by rfl, ?_⟩) ?_ ?_
            rotate_left
            ·intro w'
             go_simp
             with_reducible rfl
            rotate_left
            ·simp only [Act.put, List.setIfInBounds_toArray, List.set_cons_zero, List.set_cons_succ, i64_w, i32_w]
             rfl
            refine pure_ (i := 5) (N := some 88) (v := undef) (a' := ?_) #[true, true, true, true, true, true, false, false, false, false, false, false, false, false, false, false, false, false, false, false, false, false, false, false, false, false, false, false, false, false] rfl rfl (any_of HT_.out (by kernel_rfl)) (fun _ _ _ h => h) (Or.inr ⟨by rfl, rfl⟩) ?_ ?_
            rotate_left
            ·simp only [Act.put, List.setIfInBounds_toArray, List.set_cons_zero, List.set_cons_succ, i64_w, i32_w]
             rfl
            refine pure_ (i := 6) (N := some 89) (v := undef) (a' := ?_) #[true, true, true, true, true, true, true, false, false, false, false, false, false, false, false, false, false, false, false, false, false, false, false, false, false, false, false, false, false, false] rfl rfl (any_of HT_.out (by kernel_rfl)) (fun _ _ _ h => h) (Or.inr ⟨by rfl, rfl⟩) ?_ ?_
            rotate_left
            ·simp only [Act.put, List.setIfInBounds_toArray, List.set_cons_zero, List.set_cons_succ, i64_w, i32_w]
             rfl
            refine pure_ (i := 7) (N := some 90) (v := undef) (a' := ?_) #[true, true, true, true, true, true, true, true, false, false, false, false, false, false, false, false, false, false, false, false, false, false, false, false, false, false, false, false, false, false] rfl rfl (any_of HT_.out (by kernel_rfl)) (fun _ _ _ h => h) (Or.inr ⟨by rfl, rfl⟩) ?_ ?_
            rotate_left
            ·simp only [Act.put, List.setIfInBounds_toArray, List.set_cons_zero, List.set_cons_succ, i64_w, i32_w]
             rfl
            refine pure_ (i := 8) (N := some 91) (v := undef) (a' := ?_) #[true, true, true, true, true, true, true, true, true, false, false, false, false, false, false, false, false, false, false, false, false, false, false, false, false, false, false, false, false, false] rfl rfl (any_of HT_.out (by kernel_rfl)) (fun _ _ _ h => h) (Or.inr ⟨by rfl, rfl⟩) ?_ ?_
            rotate_left
            ·simp only [Act.put, List.setIfInBounds_toArray, List.set_cons_zero, List.set_cons_succ, i64_w, i32_w]
             rfl
            refine pure_ (i := 9) (N := some 92) (v := undef) (a' := ?_) #[true, true, true, true, true, true, true, true, true, true, false, false, false, false, false, false, false, false, false, false, false, false, false, false, false, false, false, false, false, false] rfl rfl (any_of HT_.out (by kernel_rfl)) (fun _ _ _ h => h) (Or.inr ⟨by rfl, rfl⟩) ?_ ?_
            rotate_left
            ·simp only [Act.put, List.setIfInBounds_toArray, List.set_cons_zero, List.set_cons_succ, i64_w, i32_w]
             rfl
            refine pure_ (i := 10) (N := some 93) (v := undef) (a' := ?_) #[true, true, true, true, true, true, true, true, true, true, true, false, false, false, false, false, false, false, false, false, false, false, false, false, false, false, false, false, false, false] rfl rfl (any_of HT_.out (by kernel_rfl)) (fun _ _ _ h => h) (Or.inr ⟨by rfl, rfl⟩) ?_ ?_
            rotate_left
            ·simp only [Act.put, List.setIfInBounds_toArray, List.set_cons_zero, List.set_cons_succ, i64_w, i32_w]
             rfl
            refine pure_ (i := 11) (N := some 94) (v := undef) (a' := ?_) #[true, true, true, true, true, true, true, true, true, true, true, true, false, false, false, false, false, false, false, false, false, false, false, false, false, false, false, false, false, false] rfl rfl (any_of HT_.out (by kernel_rfl)) (fun _ _ _ h => h) (Or.inr ⟨by rfl, rfl⟩) ?_ ?_
            rotate_left
            ·simp only [Act.put, List.setIfInBounds_toArray, List.set_cons_zero, List.set_cons_succ, i64_w, i32_w]
             rfl
            refine pure_ (i := 12) (N := some 95) (v := undef) (a' := ?_) #[true, true, true, true, true, true, true, true, true, true, true, true, true, false, false, false, false, false, false, false, false, false, false, false, false, false, false, false, false, false] rfl rfl (any_of HT_.out (by kernel_rfl)) (fun _ _ _ h => h) (Or.inr ⟨by rfl, rfl⟩) ?_ ?_
            rotate_left
            ·simp only [Act.put, List.setIfInBounds_toArray, List.set_cons_zero, List.set_cons_succ, i64_w, i32_w]
             rfl
            refine pure_ (i := 13) (N := some 96) (v := undef) (a' := ?_) #[true, true, true, true, true, true, true, true, true, true, true, true, true, true, false, false, false, false, false, false, false, false, false, false, false, false, false, false, false, false] rfl rfl (any_of HT_.out (by kernel_rfl)) (fun _ _ _ h => h) (Or.inr ⟨by rfl, rfl⟩) ?_ ?_
            rotate_left
            ·simp only [Act.put, List.setIfInBounds_toArray, List.set_cons_zero, List.set_cons_succ, i64_w, i32_w]
             rfl
            refine pure_ (i := 14) (N := some 97) (v := undef) (a' := ?_) #[true, true, true, true, true, true, true, true, true, true, true, true, true, true, true, false, false, false, false, false, false, false, false, false, false, false, false, false, false, false] rfl rfl (any_of HT_.out (by kernel_rfl)) (fun _ _ _ h => h) (Or.inr ⟨by rfl, rfl⟩) ?_ ?_
            rotate_left
            ·simp only [Act.put, List.setIfInBounds_toArray, List.set_cons_zero, List.set_cons_succ, i64_w, i32_w]
             rfl
            refine pure_ (i := 15) (N := some 98) (v := undef) (a' := ?_) #[true, true, true, true, true, true, true, true, true, true, true, true, true, true, true, true, false, false, false, false, false, false, false, false, false, false, false, false, false, false] rfl rfl (any_of HT_.out (by kernel_rfl)) (fun _ _ _ h => h) (Or.inr ⟨by rfl, rfl⟩) ?_ ?_
            rotate_left
            ·simp only [Act.put, List.setIfInBounds_toArray, List.set_cons_zero, List.set_cons_succ, i64_w, i32_w]
             rfl
            refine pure_ (i := 16) (N := some 99) (v := undef) (a' := ?_) #[true, true, true, true, true, true, true, true, true, true, true, true, true, true, true, true, true, false, false, false, false, false, false, false, false, false, false, false, false, false] rfl rfl (any_of HT_.out (by kernel_rfl)) (fun _ _ _ h => h) (Or.inr ⟨by rfl, rfl⟩) ?_ ?_
            rotate_left
            ·simp only [Act.put, List.setIfInBounds_toArray, List.set_cons_zero, List.set_cons_succ, i64_w, i32_w]
             rfl
            refine pure_ (i := 17) (N := some 100) (v := undef) (a' := ?_) #[true, true, true, true, true, true, true, true, true, true, true, true, true, true, true, true, true, true, false, false, false, false, false, false, false, false, false, false, false, false] rfl rfl (any_of HT_.out (by kernel_rfl)) (fun _ _ _ h => h) (Or.inr ⟨by rfl, rfl⟩) ?_ ?_
            rotate_left
            ·simp only [Act.put, List.setIfInBounds_toArray, List.set_cons_zero, List.set_cons_succ, i64_w, i32_w]
             rfl
            refine pure_ (i := 18) (N := some 101) (v := undef) (a' := ?_) #[true, true, true, true, true, true, true, true, true, true, true, true, true, true, true, true, true, true, true, false, false, false, false, false, false, false, false, false, false, false] rfl rfl (any_of HT_.out (by kernel_rfl)) (fun _ _ _ h => h) (Or.inr ⟨by rfl, rfl⟩) ?_ ?_
            rotate_left
            ·simp only [Act.put, List.setIfInBounds_toArray, List.set_cons_zero, List.set_cons_succ, i64_w, i32_w]
             rfl
            refine pure_ (i := 19) (N := some 102) (v := undef) (a' := ?_) #[true, true, true, true, true, true, true, true, true, true, true, true, true, true, true, true, true, true, true, true, false, false, false, false, false, false, false, false, false, false] rfl rfl (any_of HT_.out (by kernel_rfl)) (fun _ _ _ h => h) (Or.inr ⟨by rfl, rfl⟩) ?_ ?_
            rotate_left
            ·simp only [Act.put, List.setIfInBounds_toArray, List.set_cons_zero, List.set_cons_succ, i64_w, i32_w]
             rfl
            refine pure_ (i := 20) (N := some 103) (v := undef) (a' := ?_) #[true, true, true, true, true, true, true, true, true, true, true, true, true, true, true, true, true, true, true, true, true, false, false, false, false, false, false, false, false, false] rfl rfl (any_of HT_.out (by kernel_rfl)) (fun _ _ _ h => h) (Or.inr ⟨by rfl, rfl⟩) ?_ ?_
            rotate_left
            ·simp only [Act.put, List.setIfInBounds_toArray, List.set_cons_zero, List.set_cons_succ, i64_w, i32_w]
             rfl
            refine pure_ (i := 21) (N := some 104) (v := undef) (a' := ?_) #[true, true, true, true, true, true, true, true, true, true, true, true, true, true, true, true, true, true, true, true, true, true, false, false, false, false, false, false, false, false] rfl rfl (any_of HT_.out (by kernel_rfl)) (fun _ _ _ h => h) (Or.inr ⟨by rfl, rfl⟩) ?_ ?_
            rotate_left
            ·simp only [Act.put, List.setIfInBounds_toArray, List.set_cons_zero, List.set_cons_succ, i64_w, i32_w]
             rfl
            refine pure_ (i := 22) (N := some 105) (v := undef) (a' := ?_) #[true, true, true, true, true, true, true, true, true, true, true, true, true, true, true, true, true, true, true, true, true, true, true, false, false, false, false, false, false, false] rfl rfl (any_of HT_.out (by kernel_rfl)) (fun _ _ _ h => h) (Or.inr ⟨by rfl, rfl⟩) ?_ ?_
            rotate_left
            ·simp only [Act.put, List.setIfInBounds_toArray, List.set_cons_zero, List.set_cons_succ, i64_w, i32_w]
             rfl
            refine pure_ (i := 23) (N := some 106) (v := undef) (a' := ?_) #[true, true, true, true, true, true, true, true, true, true, true, true, true, true, true, true, true, true, true, true, true, true, true, true, false, false, false, false, false, false] rfl rfl (any_of HT_.out (by kernel_rfl)) (fun _ _ _ h => h) (Or.inr ⟨by rfl, rfl⟩) ?_ ?_
            rotate_left
            ·simp only [Act.put, List.setIfInBounds_toArray, List.set_cons_zero, List.set_cons_succ, i64_w, i32_w]
             rfl
            refine pure_ (i := 24) (N := some 107) (v := undef) (a' := ?_) #[true, true, true, true, true, true, true, true, true, true, true, true, true, true, true, true, true, true, true, true, true, true, true, true, true, false, false, false, false, false] rfl rfl (any_of HT_.out (by kernel_rfl)) (fun _ _ _ h => h) (Or.inr ⟨by rfl, rfl⟩) ?_ ?_
            rotate_left
            ·simp only [Act.put, List.setIfInBounds_toArray, List.set_cons_zero, List.set_cons_succ, i64_w, i32_w]
             rfl
            refine pure_ (i := 25) (N := some 108) (v := undef) (a' := ?_) #[true, true, true, true, true, true, true, true, true, true, true, true, true, true, true, true, true, true, true, true, true, true, true, true, true, true, false, false, false, false] rfl rfl (any_of HT_.out (by kernel_rfl)) (fun _ _ _ h => h) (Or.inr ⟨by rfl, rfl⟩) ?_ ?_
            rotate_left
            ·simp only [Act.put, List.setIfInBounds_toArray, List.set_cons_zero, List.set_cons_succ, i64_w, i32_w]
             rfl
            refine pure_ (i := 26) (N := some 109) (v := undef) (a' := ?_) #[true, true, true, true, true, true, true, true, true, true, true, true, true, true, true, true, true, true, true, true, true, true, true, true, true, true, true, false, false, false] rfl rfl (any_of HT_.out (by kernel_rfl)) (fun _ _ _ h => h) (Or.inr ⟨by rfl, rfl⟩) ?_ ?_
            rotate_left
            ·simp only [Act.put, List.setIfInBounds_toArray, List.set_cons_zero, List.set_cons_succ, i64_w, i32_w]
             rfl
            refine pure_ (i := 27) (N := some 110) (v := ?_) (a' := ?_) #[true, true, true, true, true, true, true, true, true, true, true, true, true, true, true, true, true, true, true, true, true, true, true, true, true, true, true, true, false, false] rfl rfl (any_of HT_.out (by kernel_rfl)) (fun _ _ _ h => h) (Or.inl ⟨by rfl, ?_⟩) ?_ ?_
            rotate_left
            ·intro w'
             go_simp
             with_reducible rfl
            rotate_left
            ·simp only [Act.put, List.setIfInBounds_toArray, List.set_cons_zero, List.set_cons_succ, i64_w, i32_w]
             rfl
            refine pure_ (i := 28) (N := some 111) (v := ?_) (a' := ?_) #[true, true, true, true, true, true, true, true, true, true, true, true, true, true, true, true, true, true, true, true, true, true, true, true, true, true, true, true, true, false] rfl rfl (any_of HT_.out (by kernel_rfl)) (fun _ _ _ h => h) (Or.inl ⟨by rfl, ?_⟩) ?_ ?_
            rotate_left
            ·intro w'
             go_simp
             with_reducible rfl
            rotate_left
            ·simp only [Act.put, List.setIfInBounds_toArray, List.set_cons_zero, List.set_cons_succ, i64_w, i32_w]
             rfl
            refine pure_ (i := 29) (N := some 10) (v := ?_) (a' := ?_) #[true, true, true, true, true, true, true, true, true, true, true, true, true, true, true, true, true, true, true, true, true, true, true, true, true, true, true, true, true, true] rfl rfl (any_of HT_.out (by kernel_rfl)) (fun _ _ _ h => h) (Or.inl ⟨by rfl, ?_⟩) ?_ ?_
            rotate_left
            ·intro w'
             go_simp
             with_reducible rfl
            rotate_left
            ·simp only [Act.put, List.setIfInBounds_toArray, List.set_cons_zero, List.set_cons_succ, i64_w, i32_w]
             rfl
            refine done_ (done_of HT_.out (by kernel_rfl)) ?_
            try go_wp2
            go_ret
            exact ⟨by first | rfl | (simp [errW_none, errW_some] <;> rfl) | (simp [*, errW_none, errW_some] <;> rfl), by with_reducible exact HB.out⟩
          ·replace c69 := Bool.eq_false_iff.mpr c69
           subst c69
           have H1 : (some false) = some r := by rw [if_neg (show ¬ (false = true) by decide)] at H; exact H
           clear H
           have H := H1
           clear H1
           exact absurd (Option.some.inj H) (by rw [HRT.out]; decide)

end Go.Proofs.Ytcjnjgafhfkegaa.Px
