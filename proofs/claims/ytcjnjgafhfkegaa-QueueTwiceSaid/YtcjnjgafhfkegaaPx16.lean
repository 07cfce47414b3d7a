/- Walks of functions of this seat, written by a program of this workplace out of the translation. -/
import Derived.Test.YtcjnjgafhfkegaaPx0
import Derived.Test.YtcjnjgafhfkegaaPx4
import Derived.Test.YtcjnjgafhfkegaaPx5
import Derived.Test.YtcjnjgafhfkegaaPx6
import Derived.Test.YtcjnjgafhfkegaaPx7
import Derived.Test.YtcjnjgafhfkegaaPx8
namespace Go.Proofs.Ytcjnjgafhfkegaa.Px
open Go.RowKit Go.Proofs.YtcjnjgafhfkegaaW.PrintWords Go.Proofs.YtcjnjgafhfkegaaW.PrintLast Go.Proofs.YtcjnjgafhfkegaaW.PrintMore
attribute [local go_sem] max2_int min2_int max_two min_two max_three min_three max_four min_four   -- for this text's walks alone
set_option linter.unusedVariables false
set_option linter.unusedSimpArgs false

/-! ### slotmeshlaw27_QueueTwice: function 8 -/
def slotmeshlaw27_QueueTwice.j0 : Nat → Int → Int → Int → Int → Bool → Bool → List (S26) → Option (Bool)
 | 0, _, _, _, _, _, _, _ => none
 | k + 1, x1, x2, x3, x4, x11, x47, x409000 => if x47 = true then (some x11) else (if (x409000.length : Int) = 0 then (none) else (if 0 ≤ (Int.tmod (wrap64 (x1)) (x409000.length : Int)) then (if (Int.tmod (wrap64 (x1)) (x409000.length : Int)) < (x409000.length : Int) then ((queue_Put.f k x409000 ((rd_T26 x409000 (Int.tmod (wrap64 (x1)) (x409000.length : Int))).f0) ((rd_T26 x409000 (Int.tmod (wrap64 (x1)) (x409000.length : Int))).f1) ((rd_T26 x409000 (Int.tmod (wrap64 (x1)) (x409000.length : Int))).f2) x2 x3 x4).bind fun bt414 => ((queue_Drop.f k x409000 ((rd_T26 x409000 (Int.tmod (wrap64 (x1)) (x409000.length : Int))).f0) ((rd_T26 x409000 (Int.tmod (wrap64 (x1)) (x409000.length : Int))).f1)).bind fun t419 => ((queue_Put.f k t419 ((rd_T26 x409000 (Int.tmod (wrap64 (x1)) (x409000.length : Int))).f0) ((rd_T26 x409000 (Int.tmod (wrap64 (x1)) (x409000.length : Int))).f1) ((rd_T26 x409000 (Int.tmod (wrap64 (x1)) (x409000.length : Int))).f2) x2 x3 x4).bind fun bt422 => (if x11 = true then (if bt414.2 = 5 then (if ((rd_T26 x409000 (Int.tmod (wrap64 (x1)) (x409000.length : Int))).f0) = x4 then (some true) else (some (bt422.2 == 0))) else (some false)) else (some false))))) else (none)) else (none)))
def slotmeshlaw27_QueueTwice.f (k : Nat) (l0_0 : List (S26)) (a1 : Int) (a2 : Int) (a3 : Int) (a4 : Int) : Option (Bool) := (slotmeshlaw27_head.f).bind fun t409 => ((slotmeshlaw27_short.f l0_0).bind fun t410 => (if t410 = true then ((slotmeshref27_Valid.f k l0_0).bind fun t411 => (if t411 = true then (if (l0_0.length : Int) = 0 then (slotmeshlaw27_QueueTwice.j0 k a1 a2 a3 a4 t409 true l0_0) else (if a4 < 0 then (slotmeshlaw27_QueueTwice.j0 k a1 a2 a3 a4 t409 true l0_0) else (if a4 ≥ 60 then (slotmeshlaw27_QueueTwice.j0 k a1 a2 a3 a4 t409 true l0_0) else (if a3 < 0 then (slotmeshlaw27_QueueTwice.j0 k a1 a2 a3 a4 t409 true l0_0) else (slotmeshlaw27_QueueTwice.j0 k a1 a2 a3 a4 t409 (decide (a3 > 1000000000)) l0_0))))) else (slotmeshlaw27_QueueTwice.j0 k a1 a2 a3 a4 t409 true l0_0))) else (slotmeshlaw27_QueueTwice.j0 k a1 a2 a3 a4 t409 true l0_0)))
theorem slotmeshlaw27_QueueTwice.mono_l : ∀ k, (∀ y0 y1 y2 y3 y4 y5 y6, LeO (slotmeshlaw27_QueueTwice.j0 k y0 y1 y2 y3 y4 y5 y6) (slotmeshlaw27_QueueTwice.j0 (k + 1) y0 y1 y2 y3 y4 y5 y6))
 | 0 => fun _ _ _ _ _ _ _ r h => by simp [slotmeshlaw27_QueueTwice.j0] at h
 | k + 1 => by
  have ih0 := slotmeshlaw27_QueueTwice.mono_l k
  ·intro y0 y1 y2 y3 y4 y5 y6
   unfold slotmeshlaw27_QueueTwice.j0
   repeat' first
   | (with_reducible exact ih0 _ _ _ _ _ _ _)
   | (with_reducible exact queue_Drop.mono _ _ _ _)
   | (with_reducible exact queue_Put.mono _ _ _ _ _ _ _ _)
   | (with_reducible exact slotmeshref27_Valid.mono _ _)
   | (with_reducible exact LeO.refl _)
   | (with_reducible exact LeO.none _)
   | (with_reducible refine LeO.ite ?_ ?_)
   | (with_reducible refine LeO.bind ?_ (fun _ => ?_))
   | exact ih0 _ _ _ _ _ _ _
   | exact queue_Drop.mono _ _ _ _
   | exact queue_Put.mono _ _ _ _ _ _ _ _
   | exact slotmeshref27_Valid.mono _ _
   | exact LeO.none _
   | refine LeO.ite ?_ ?_
   | refine LeO.bind ?_ (fun _ => ?_)
theorem slotmeshlaw27_QueueTwice.mono : ∀ a0 a1 a2 a3 a4 k, LeO (slotmeshlaw27_QueueTwice.f k a0 a1 a2 a3 a4) (slotmeshlaw27_QueueTwice.f (k + 1) a0 a1 a2 a3 a4) := by
 intro a0 a1 a2 a3 a4 k
 have ih0 := slotmeshlaw27_QueueTwice.mono_l k
 unfold slotmeshlaw27_QueueTwice.f
 repeat' first
   | (with_reducible exact ih0 _ _ _ _ _ _ _)
   | (with_reducible exact queue_Drop.mono _ _ _ _)
   | (with_reducible exact queue_Put.mono _ _ _ _ _ _ _ _)
   | (with_reducible exact slotmeshref27_Valid.mono _ _)
   | (with_reducible exact LeO.refl _)
   | (with_reducible exact LeO.none _)
   | (with_reducible refine LeO.ite ?_ ?_)
   | (with_reducible refine LeO.bind ?_ (fun _ => ?_))
   | exact ih0 _ _ _ _ _ _ _
   | exact queue_Drop.mono _ _ _ _
   | exact queue_Put.mono _ _ _ _ _ _ _ _
   | exact slotmeshref27_Valid.mono _ _
   | exact LeO.none _
   | refine LeO.ite ?_ ?_
   | refine LeO.bind ?_ (fun _ => ?_)
def slotmeshlaw27_QueueTwice.T4 : Bool × List (List Nat × List Nat) := (true, [([], []), ([0], [0]), ([], []), ([2], [2]), ([], []), ([4], [4]), ([5], [5]), ([3, 6], [3, 6]), ([1, 7], [1, 7]), ([8], [8]), ([], []), ([10, 9, 0, 1, 2, 3, 4, 5, 6, 7, 8, 9, 10], [9, 10])])
def slotmeshlaw27_QueueTwice.B4 : List Nat := [0, 1, 0, 4, 0, 16, 48, 124, 255, 511, 0, 2047]
theorem slotmeshlaw27_QueueTwice.tab4 : rtab .any (opsOf Try.f8 4) = slotmeshlaw27_QueueTwice.T4 := by kernel_rfl
theorem slotmeshlaw27_QueueTwice.bits4 : waitsOk slotmeshlaw27_QueueTwice.T4.2 slotmeshlaw27_QueueTwice.B4 = true := by kernel_rfl
def slotmeshlaw27_QueueTwice.T7 : Bool × List (List Nat × List Nat) := (true, [([], []), ([], []), ([1], [1]), ([], []), ([3], [3]), ([0, 2, 4], [0, 2, 4]), ([], []), ([], []), ([5, 6, 7, 5], [5, 6, 7]), ([8], [8]), ([9], [9]), ([9], [9]), ([], []), ([12, 10, 8, 0, 1, 2, 3, 4, 5, 6, 7, 8, 9, 10, 12], [10, 12]), ([11, 13, 0, 1, 2, 3, 4, 5, 6, 7, 8, 9, 10, 11, 12, 13], [11])])
def slotmeshlaw27_QueueTwice.B7 : List Nat := [0, 0, 2, 0, 8, 31, 0, 0, 255, 511, 1023, 1023, 0, 6143, 16383]
theorem slotmeshlaw27_QueueTwice.tab7 : rtab .any (opsOf Try.f8 7) = slotmeshlaw27_QueueTwice.T7 := by kernel_rfl
theorem slotmeshlaw27_QueueTwice.bits7 : waitsOk slotmeshlaw27_QueueTwice.T7.2 slotmeshlaw27_QueueTwice.B7 = true := by kernel_rfl
set_option maxHeartbeats 8000000 in
set_option maxRecDepth 100000 in
theorem slotmeshlaw27_QueueTwice.calls (k : Nat) (A0_0 : Option Addr) (c0_0 : Nat) (l0_0 : List (S26)) (a1 : Int) (a2 : Int) (a3 : Int) (a4 : Int) (r : Bool) (w : World) (hrt : r = true) (hr0_0 : Kd.C k26 w A0_0 l0_0.length l0_0) (hc0_0 : l0_0.length ≤ c0_0) (h : slotmeshlaw27_QueueTwice.f k l0_0 a1 a2 a3 a4 = some r) :
  Calls Try.prog 8 #[.agg #[.slice A0_0 l0_0.length c0_0], .int .u8 a1, .int .i64 a2, .int .i64 a3, .int .i64 a4] w fun e w' => e = .returned (.bool r) ∧ Below w.heap.size w w' := by
 have hu24 := Try.underlying24
 have hu26 := Try.underlying26
 have HR0_0 := Aside0.mk hr0_0
 have HC0_0 := Aside0.mk hc0_0
 clear hr0_0 hc0_0
 have HB := Aside0.mk (Below.refl w.heap.size w)
 have HRT := Aside0.mk hrt
 clear hrt
 have H : ((slotmeshlaw27_head.f).bind fun t409 => ((slotmeshlaw27_short.f l0_0).bind fun t410 => (if t410 = true then ((slotmeshref27_Valid.f k l0_0).bind fun t411 => (if t411 = true then (if (l0_0.length : Int) = 0 then (slotmeshlaw27_QueueTwice.j0 k a1 a2 a3 a4 t409 true l0_0) else (if a4 < 0 then (slotmeshlaw27_QueueTwice.j0 k a1 a2 a3 a4 t409 true l0_0) else (if a4 ≥ 60 then (slotmeshlaw27_QueueTwice.j0 k a1 a2 a3 a4 t409 true l0_0) else (if a3 < 0 then (slotmeshlaw27_QueueTwice.j0 k a1 a2 a3 a4 t409 true l0_0) else (slotmeshlaw27_QueueTwice.j0 k a1 a2 a3 a4 t409 (decide (a3 > 1000000000)) l0_0))))) else (slotmeshlaw27_QueueTwice.j0 k a1 a2 a3 a4 t409 true l0_0))) else (slotmeshlaw27_QueueTwice.j0 k a1 a2 a3 a4 t409 true l0_0)))) = some r := h
 clear h
 replace H := Option.bind_eq_some_iff.mp H
 obtain ⟨t409, A60, H⟩ := H
 replace H : ((slotmeshlaw27_short.f l0_0).bind fun t410 => (if t410 = true then ((slotmeshref27_Valid.f k l0_0).bind fun t411 => (if t411 = true then (if (l0_0.length : Int) = 0 then (slotmeshlaw27_QueueTwice.j0 k a1 a2 a3 a4 t409 true l0_0) else (if a4 < 0 then (slotmeshlaw27_QueueTwice.j0 k a1 a2 a3 a4 t409 true l0_0) else (if a4 ≥ 60 then (slotmeshlaw27_QueueTwice.j0 k a1 a2 a3 a4 t409 true l0_0) else (if a3 < 0 then (slotmeshlaw27_QueueTwice.j0 k a1 a2 a3 a4 t409 true l0_0) else (slotmeshlaw27_QueueTwice.j0 k a1 a2 a3 a4 t409 (decide (a3 > 1000000000)) l0_0))))) else (slotmeshlaw27_QueueTwice.j0 k a1 a2 a3 a4 t409 true l0_0))) else (slotmeshlaw27_QueueTwice.j0 k a1 a2 a3 a4 t409 true l0_0))) = some r := H
 have A6 := Aside0.mk A60
 clear A60
 have HC7 := Aside0.mk H
 clear H
 go_enter Try.func8, Try.ntmps8
 go_upto_region 2 with (first | ((with_reducible refine gate_dst (N := 5) rfl ?_); (try (refine gate_guard (by rfl) ?_; dsimp only)); refine box_event ?hg (N := 5) ?hd (cs := #[.slice A0_0 l0_0.length c0_0]) (t := 24) ?hr ?_; (case hd => rfl); (case hg => rfl); (case hr => first | (go_simp; done) | (go_simp; rfl)); intro gb408 hg w8 hbox hb; have n0_ := Aside0.mk (below_step (by with_reducible exact HB.out) hb); have n1_ := Aside0.mk (hbox); have n2_ := Aside0.mk ((by rw [hg]; exact (below_size (by with_reducible exact HB.out)) : w.heap.size ≤ gb408)); have n3_ := Aside0.mk ((by rw [hg]; exact (below_size (by with_reducible exact HB.out)) : w.heap.size ≤ gb408)); clear HB; have HB := n0_; have BK408 := n1_; have GW408 := n2_; have GE408 := n3_; clear n0_ n1_ n2_ n3_; clear hb hbox hg) | ((with_reducible refine gate_callee (f := 9) rfl ?_); refine goesL_ (some 17) rfl rfl Try.func9 (by kernel_rfl) rfl #[] rfl (by (try simp only [List.map_toArray, List.map_cons, List.map_nil]); first | done | rfl | (simp only [List.length_drop, List.length_take]; rfl)) ?_; (with_reducible refine (slotmeshlaw27_head.calls  t409 _ A6.out).mono ?_); rintro e w9 ⟨rfl, hb⟩; refine ⟨_, rfl, ?_⟩; have n0_ := Aside0.mk (blk_below (g := gb408) (o := .cells #[.slice A0_0 l0_0.length c0_0] 24 (0, 0)) (by with_reducible exact BK408.out) hb); have n1_ := Aside0.mk (below_step (by with_reducible exact HB.out) hb); clear BK408; clear HB; have BK408 := n0_; have HB := n1_; clear n0_ n1_; (try clear hb); (try clear hb2); (try clear hk); (try clear hi)))
 (try simp only [Act.put, List.setIfInBounds_toArray, List.set_cons_zero, List.set_cons_succ])
 go_cut [47] (fun v47 wc => ∃ (kq : Nat) (x47_6 : Bool), v47 = .bool x47_6 ∧ Aside0 (slotmeshlaw27_QueueTwice.j0 kq a1 a2 a3 a4 t409 x47_6 l0_0 = some r) ∧ Aside0 (kq ≤ k) ∧ Aside0 (wc.heap[gb408]? = some (.cells #[(.slice A0_0 l0_0.length c0_0)] 24 (0, 0))) ∧ Aside0 (Below w.heap.size w wc))
 case first =>
  have H := HC7.out
  clear HC7
  replace H := Option.bind_eq_some_iff.mp H
  obtain ⟨t410, A100, H⟩ := H
  replace H : (if t410 = true then ((slotmeshref27_Valid.f k l0_0).bind fun t411 => (if t411 = true then (if (l0_0.length : Int) = 0 then (slotmeshlaw27_QueueTwice.j0 k a1 a2 a3 a4 t409 true l0_0) else (if a4 < 0 then (slotmeshlaw27_QueueTwice.j0 k a1 a2 a3 a4 t409 true l0_0) else (if a4 ≥ 60 then (slotmeshlaw27_QueueTwice.j0 k a1 a2 a3 a4 t409 true l0_0) else (if a3 < 0 then (slotmeshlaw27_QueueTwice.j0 k a1 a2 a3 a4 t409 true l0_0) else (slotmeshlaw27_QueueTwice.j0 k a1 a2 a3 a4 t409 (decide (a3 > 1000000000)) l0_0))))) else (slotmeshlaw27_QueueTwice.j0 k a1 a2 a3 a4 t409 true l0_0))) else (slotmeshlaw27_QueueTwice.j0 k a1 a2 a3 a4 t409 true l0_0)) = some r := H
  have A10 := Aside0.mk A100
  clear A100
  by_cases c11 : t410 = true
  ·subst c11
   have H1 : ((slotmeshref27_Valid.f k l0_0).bind fun t411 => (if t411 = true then (if (l0_0.length : Int) = 0 then (slotmeshlaw27_QueueTwice.j0 k a1 a2 a3 a4 t409 true l0_0) else (if a4 < 0 then (slotmeshlaw27_QueueTwice.j0 k a1 a2 a3 a4 t409 true l0_0) else (if a4 ≥ 60 then (slotmeshlaw27_QueueTwice.j0 k a1 a2 a3 a4 t409 true l0_0) else (if a3 < 0 then (slotmeshlaw27_QueueTwice.j0 k a1 a2 a3 a4 t409 true l0_0) else (slotmeshlaw27_QueueTwice.j0 k a1 a2 a3 a4 t409 (decide (a3 > 1000000000)) l0_0))))) else (slotmeshlaw27_QueueTwice.j0 k a1 a2 a3 a4 t409 true l0_0))) = some r := by rw [if_pos rfl] at H; exact H
   clear H
   have H := H1
   clear H1
   replace H := Option.bind_eq_some_iff.mp H
   obtain ⟨t411, A120, H⟩ := H
   replace H : (if t411 = true then (if (l0_0.length : Int) = 0 then (slotmeshlaw27_QueueTwice.j0 k a1 a2 a3 a4 t409 true l0_0) else (if a4 < 0 then (slotmeshlaw27_QueueTwice.j0 k a1 a2 a3 a4 t409 true l0_0) else (if a4 ≥ 60 then (slotmeshlaw27_QueueTwice.j0 k a1 a2 a3 a4 t409 true l0_0) else (if a3 < 0 then (slotmeshlaw27_QueueTwice.j0 k a1 a2 a3 a4 t409 true l0_0) else (slotmeshlaw27_QueueTwice.j0 k a1 a2 a3 a4 t409 (decide (a3 > 1000000000)) l0_0))))) else (slotmeshlaw27_QueueTwice.j0 k a1 a2 a3 a4 t409 true l0_0)) = some r := H
   have A12 := Aside0.mk A120
   clear A120
   by_cases c13 : t411 = true
   ·subst c13
    have H1 : (if (l0_0.length : Int) = 0 then (slotmeshlaw27_QueueTwice.j0 k a1 a2 a3 a4 t409 true l0_0) else (if a4 < 0 then (slotmeshlaw27_QueueTwice.j0 k a1 a2 a3 a4 t409 true l0_0) else (if a4 ≥ 60 then (slotmeshlaw27_QueueTwice.j0 k a1 a2 a3 a4 t409 true l0_0) else (if a3 < 0 then (slotmeshlaw27_QueueTwice.j0 k a1 a2 a3 a4 t409 true l0_0) else (slotmeshlaw27_QueueTwice.j0 k a1 a2 a3 a4 t409 (decide (a3 > 1000000000)) l0_0))))) = some r := by rw [if_pos rfl] at H; exact H
    clear H
    have H := H1
    clear H1
    by_cases c14 : (l0_0.length : Int) = 0
    ·rw [if_pos c14] at H
     have c14b0 : ((l0_0.length : Int) == 0) = true := beq_iff_eq.mpr c14
     have c14b1 : ((l0_0.length : Int) != 0) = false := bne_eq_false_iff_eq.mpr c14
     clear c14
     (first | rw [c14b0] | (simp only [i64_w, i32_w]; rw [c14b0]) | skip)
     have H' := Aside0.mk H
     clear H
     have hcz15_0 : w9.cell? ⟨gb408, 0, none⟩ = some (.slice A0_0 l0_0.length c0_0) := (blk_cell BK408.out 0).trans rfl
     have hfz15_0 := blk_frozen BK408.out 0
     go_wp2_with (first | ((with_reducible refine gate_callee (f := 10) rfl ?_); refine goesL_ (some 19) rfl rfl Try.func10 (by kernel_rfl) rfl #[.agg #[.slice A0_0 l0_0.length c0_0]] rfl (by (try simp only [List.map_toArray, List.map_cons, List.map_nil]); first | done | rfl | (simp only [List.length_drop, List.length_take]; rfl)) ?_; (with_reducible refine (slotmeshlaw27_short.calls _ _ l0_0 true _ ?side1 ?side2 A10.out).mono ?_); (case side1 => repeat (first | exact (Kd.C_below HR0_0.out HB.out) | (with_reducible refine Kd.C_alloc ?_ _) | (with_reducible refine Kd.C_drewN ?_ _) | (with_reducible refine Kd.C_drew ?_))); (case side2 => exact HC0_0.out); rintro e w16 ⟨rfl, hb⟩; refine ⟨_, rfl, ?_⟩; have n0_ := Aside0.mk (blk_below (g := gb408) (o := .cells #[.slice A0_0 l0_0.length c0_0] 24 (0, 0)) (by with_reducible exact BK408.out) hb); have n1_ := Aside0.mk (below_step (by with_reducible exact HB.out) hb); clear BK408; clear HB; have BK408 := n0_; have HB := n1_; clear n0_ n1_; (try clear hb); (try clear hb2); (try clear hk); (try clear hi); have hcz17_0 : w16.cell? ⟨gb408, 0, none⟩ = some (.slice A0_0 l0_0.length c0_0) := (blk_cell BK408.out 0).trans rfl; have hfz17_0 := blk_frozen BK408.out 0) | (go_at_call 20; (with_reducible refine (slotmeshref27_Valid.calls k _ _ l0_0 true _ ?side1 ?side2 A12.out).mono ?_); (case side1 => repeat (first | exact (Kd.C_below HR0_0.out HB.out) | (with_reducible refine Kd.C_alloc ?_ _) | (with_reducible refine Kd.C_drewN ?_ _) | (with_reducible refine Kd.C_drew ?_))); (case side2 => exact HC0_0.out); rintro e w18 ⟨rfl, hb⟩; have n0_ := Aside0.mk (blk_below (g := gb408) (o := .cells #[.slice A0_0 l0_0.length c0_0] 24 (0, 0)) (by with_reducible exact BK408.out) hb); have n1_ := Aside0.mk (below_step (by with_reducible exact HB.out) hb); clear BK408; clear HB; have BK408 := n0_; have HB := n1_; clear n0_ n1_; (try clear hb); (try clear hb2); (try clear hk); (try clear hi); have hcz19_0 : w18.cell? ⟨gb408, 0, none⟩ = some (.slice A0_0 l0_0.length c0_0) := (blk_cell BK408.out 0).trans rfl; have hfz19_0 := blk_frozen BK408.out 0))
     go_meet
     case rel => exact ⟨_, (true), (by first | rfl | (simp; done) | (simp [*]; done)), H', ⟨by first | omega | exact Nat.le_refl _⟩, ⟨by with_reducible exact BK408.out⟩, ⟨by with_reducible exact HB.out⟩⟩
    ·rw [if_neg c14] at H
     have c14b0 : ((l0_0.length : Int) == 0) = false := beq_eq_false_iff_ne.mpr c14
     have c14b1 : ((l0_0.length : Int) != 0) = true := bne_iff_ne.mpr c14
     have c14b2 : ¬ (l0_0 = []) := fun h_ => c14 (by rw [h_]; rfl)
     (first | rw [c14b0] | (simp only [i64_w, i32_w]; rw [c14b0]) | skip)
     by_cases c20 : a4 < 0
     ·rw [if_pos c20] at H
      have c20b0 : decide (a4 < 0) = true := decide_eq_true c20
      clear c20
      have H' := Aside0.mk H
      clear H
      have hcz21_0 : w9.cell? ⟨gb408, 0, none⟩ = some (.slice A0_0 l0_0.length c0_0) := (blk_cell BK408.out 0).trans rfl
      have hfz21_0 := blk_frozen BK408.out 0
      go_wp2_with (first | ((with_reducible refine gate_callee (f := 10) rfl ?_); refine goesL_ (some 19) rfl rfl Try.func10 (by kernel_rfl) rfl #[.agg #[.slice A0_0 l0_0.length c0_0]] rfl (by (try simp only [List.map_toArray, List.map_cons, List.map_nil]); first | done | rfl | (simp only [List.length_drop, List.length_take]; rfl)) ?_; (with_reducible refine (slotmeshlaw27_short.calls _ _ l0_0 true _ ?side1 ?side2 A10.out).mono ?_); (case side1 => repeat (first | exact (Kd.C_below HR0_0.out HB.out) | (with_reducible refine Kd.C_alloc ?_ _) | (with_reducible refine Kd.C_drewN ?_ _) | (with_reducible refine Kd.C_drew ?_))); (case side2 => exact HC0_0.out); rintro e w22 ⟨rfl, hb⟩; refine ⟨_, rfl, ?_⟩; have n0_ := Aside0.mk (blk_below (g := gb408) (o := .cells #[.slice A0_0 l0_0.length c0_0] 24 (0, 0)) (by with_reducible exact BK408.out) hb); have n1_ := Aside0.mk (below_step (by with_reducible exact HB.out) hb); clear BK408; clear HB; have BK408 := n0_; have HB := n1_; clear n0_ n1_; (try clear hb); (try clear hb2); (try clear hk); (try clear hi); have hcz23_0 : w22.cell? ⟨gb408, 0, none⟩ = some (.slice A0_0 l0_0.length c0_0) := (blk_cell BK408.out 0).trans rfl; have hfz23_0 := blk_frozen BK408.out 0) | (go_at_call 20; (with_reducible refine (slotmeshref27_Valid.calls k _ _ l0_0 true _ ?side1 ?side2 A12.out).mono ?_); (case side1 => repeat (first | exact (Kd.C_below HR0_0.out HB.out) | (with_reducible refine Kd.C_alloc ?_ _) | (with_reducible refine Kd.C_drewN ?_ _) | (with_reducible refine Kd.C_drew ?_))); (case side2 => exact HC0_0.out); rintro e w24 ⟨rfl, hb⟩; have n0_ := Aside0.mk (blk_below (g := gb408) (o := .cells #[.slice A0_0 l0_0.length c0_0] 24 (0, 0)) (by with_reducible exact BK408.out) hb); have n1_ := Aside0.mk (below_step (by with_reducible exact HB.out) hb); clear BK408; clear HB; have BK408 := n0_; have HB := n1_; clear n0_ n1_; (try clear hb); (try clear hb2); (try clear hk); (try clear hi); have hcz25_0 : w24.cell? ⟨gb408, 0, none⟩ = some (.slice A0_0 l0_0.length c0_0) := (blk_cell BK408.out 0).trans rfl; have hfz25_0 := blk_frozen BK408.out 0))
      go_meet
      case rel => exact ⟨_, (true), (by first | rfl | (simp; done) | (simp [*]; done)), H', ⟨by first | omega | exact Nat.le_refl _⟩, ⟨by with_reducible exact BK408.out⟩, ⟨by with_reducible exact HB.out⟩⟩
     ·rw [if_neg c20] at H
      have c20b0 : decide (a4 < 0) = false := decide_eq_false c20
      clear c20
      by_cases c26 : a4 ≥ 60
      ·rw [if_pos c26] at H
       have c26b0 : decide (60 ≤ a4) = true := decide_eq_true c26
       clear c26
       have H' := Aside0.mk H
       clear H
       have hcz27_0 : w9.cell? ⟨gb408, 0, none⟩ = some (.slice A0_0 l0_0.length c0_0) := (blk_cell BK408.out 0).trans rfl
       have hfz27_0 := blk_frozen BK408.out 0
       go_wp2_with (first | ((with_reducible refine gate_callee (f := 10) rfl ?_); refine goesL_ (some 19) rfl rfl Try.func10 (by kernel_rfl) rfl #[.agg #[.slice A0_0 l0_0.length c0_0]] rfl (by (try simp only [List.map_toArray, List.map_cons, List.map_nil]); first | done | rfl | (simp only [List.length_drop, List.length_take]; rfl)) ?_; (with_reducible refine (slotmeshlaw27_short.calls _ _ l0_0 true _ ?side1 ?side2 A10.out).mono ?_); (case side1 => repeat (first | exact (Kd.C_below HR0_0.out HB.out) | (with_reducible refine Kd.C_alloc ?_ _) | (with_reducible refine Kd.C_drewN ?_ _) | (with_reducible refine Kd.C_drew ?_))); (case side2 => exact HC0_0.out); rintro e w28 ⟨rfl, hb⟩; refine ⟨_, rfl, ?_⟩; have n0_ := Aside0.mk (blk_below (g := gb408) (o := .cells #[.slice A0_0 l0_0.length c0_0] 24 (0, 0)) (by with_reducible exact BK408.out) hb); have n1_ := Aside0.mk (below_step (by with_reducible exact HB.out) hb); clear BK408; clear HB; have BK408 := n0_; have HB := n1_; clear n0_ n1_; (try clear hb); (try clear hb2); (try clear hk); (try clear hi); have hcz29_0 : w28.cell? ⟨gb408, 0, none⟩ = some (.slice A0_0 l0_0.length c0_0) := (blk_cell BK408.out 0).trans rfl; have hfz29_0 := blk_frozen BK408.out 0) | (go_at_call 20; (with_reducible refine (slotmeshref27_Valid.calls k _ _ l0_0 true _ ?side1 ?side2 A12.out).mono ?_); (case side1 => repeat (first | exact (Kd.C_below HR0_0.out HB.out) | (with_reducible refine Kd.C_alloc ?_ _) | (with_reducible refine Kd.C_drewN ?_ _) | (with_reducible refine Kd.C_drew ?_))); (case side2 => exact HC0_0.out); rintro e w30 ⟨rfl, hb⟩; have n0_ := Aside0.mk (blk_below (g := gb408) (o := .cells #[.slice A0_0 l0_0.length c0_0] 24 (0, 0)) (by with_reducible exact BK408.out) hb); have n1_ := Aside0.mk (below_step (by with_reducible exact HB.out) hb); clear BK408; clear HB; have BK408 := n0_; have HB := n1_; clear n0_ n1_; (try clear hb); (try clear hb2); (try clear hk); (try clear hi); have hcz31_0 : w30.cell? ⟨gb408, 0, none⟩ = some (.slice A0_0 l0_0.length c0_0) := (blk_cell BK408.out 0).trans rfl; have hfz31_0 := blk_frozen BK408.out 0))
       go_meet
       case rel => exact ⟨_, (true), (by first | rfl | (simp; done) | (simp [*]; done)), H', ⟨by first | omega | exact Nat.le_refl _⟩, ⟨by with_reducible exact BK408.out⟩, ⟨by with_reducible exact HB.out⟩⟩
      ·rw [if_neg c26] at H
       have c26b0 : decide (60 ≤ a4) = false := decide_eq_false c26
       clear c26
       by_cases c32 : a3 < 0
       ·rw [if_pos c32] at H
        have c32b0 : decide (a3 < 0) = true := decide_eq_true c32
        clear c32
        have H' := Aside0.mk H
        clear H
        have hcz33_0 : w9.cell? ⟨gb408, 0, none⟩ = some (.slice A0_0 l0_0.length c0_0) := (blk_cell BK408.out 0).trans rfl
        have hfz33_0 := blk_frozen BK408.out 0
        go_wp2_with (first | ((with_reducible refine gate_callee (f := 10) rfl ?_); refine goesL_ (some 19) rfl rfl Try.func10 (by kernel_rfl) rfl #[.agg #[.slice A0_0 l0_0.length c0_0]] rfl (by (try simp only [List.map_toArray, List.map_cons, List.map_nil]); first | done | rfl | (simp only [List.length_drop, List.length_take]; rfl)) ?_; (with_reducible refine (slotmeshlaw27_short.calls _ _ l0_0 true _ ?side1 ?side2 A10.out).mono ?_); (case side1 => repeat (first | exact (Kd.C_below HR0_0.out HB.out) | (with_reducible refine Kd.C_alloc ?_ _) | (with_reducible refine Kd.C_drewN ?_ _) | (with_reducible refine Kd.C_drew ?_))); (case side2 => exact HC0_0.out); rintro e w34 ⟨rfl, hb⟩; refine ⟨_, rfl, ?_⟩; have n0_ := Aside0.mk (blk_below (g := gb408) (o := .cells #[.slice A0_0 l0_0.length c0_0] 24 (0, 0)) (by with_reducible exact BK408.out) hb); have n1_ := Aside0.mk (below_step (by with_reducible exact HB.out) hb); clear BK408; clear HB; have BK408 := n0_; have HB := n1_; clear n0_ n1_; (try clear hb); (try clear hb2); (try clear hk); (try clear hi); have hcz35_0 : w34.cell? ⟨gb408, 0, none⟩ = some (.slice A0_0 l0_0.length c0_0) := (blk_cell BK408.out 0).trans rfl; have hfz35_0 := blk_frozen BK408.out 0) | (go_at_call 20; (with_reducible refine (slotmeshref27_Valid.calls k _ _ l0_0 true _ ?side1 ?side2 A12.out).mono ?_); (case side1 => repeat (first | exact (Kd.C_below HR0_0.out HB.out) | (with_reducible refine Kd.C_alloc ?_ _) | (with_reducible refine Kd.C_drewN ?_ _) | (with_reducible refine Kd.C_drew ?_))); (case side2 => exact HC0_0.out); rintro e w36 ⟨rfl, hb⟩; have n0_ := Aside0.mk (blk_below (g := gb408) (o := .cells #[.slice A0_0 l0_0.length c0_0] 24 (0, 0)) (by with_reducible exact BK408.out) hb); have n1_ := Aside0.mk (below_step (by with_reducible exact HB.out) hb); clear BK408; clear HB; have BK408 := n0_; have HB := n1_; clear n0_ n1_; (try clear hb); (try clear hb2); (try clear hk); (try clear hi); have hcz37_0 : w36.cell? ⟨gb408, 0, none⟩ = some (.slice A0_0 l0_0.length c0_0) := (blk_cell BK408.out 0).trans rfl; have hfz37_0 := blk_frozen BK408.out 0))
        go_meet
        case rel => exact ⟨_, (true), (by first | rfl | (simp; done) | (simp [*]; done)), H', ⟨by first | omega | exact Nat.le_refl _⟩, ⟨by with_reducible exact BK408.out⟩, ⟨by with_reducible exact HB.out⟩⟩
       ·rw [if_neg c32] at H
        have c32b0 : decide (a3 < 0) = false := decide_eq_false c32
        clear c32
        have H' := Aside0.mk H
        clear H
        have hcz38_0 : w9.cell? ⟨gb408, 0, none⟩ = some (.slice A0_0 l0_0.length c0_0) := (blk_cell BK408.out 0).trans rfl
        have hfz38_0 := blk_frozen BK408.out 0
        go_wp2_with (first | ((with_reducible refine gate_callee (f := 10) rfl ?_); refine goesL_ (some 19) rfl rfl Try.func10 (by kernel_rfl) rfl #[.agg #[.slice A0_0 l0_0.length c0_0]] rfl (by (try simp only [List.map_toArray, List.map_cons, List.map_nil]); first | done | rfl | (simp only [List.length_drop, List.length_take]; rfl)) ?_; (with_reducible refine (slotmeshlaw27_short.calls _ _ l0_0 true _ ?side1 ?side2 A10.out).mono ?_); (case side1 => repeat (first | exact (Kd.C_below HR0_0.out HB.out) | (with_reducible refine Kd.C_alloc ?_ _) | (with_reducible refine Kd.C_drewN ?_ _) | (with_reducible refine Kd.C_drew ?_))); (case side2 => exact HC0_0.out); rintro e w39 ⟨rfl, hb⟩; refine ⟨_, rfl, ?_⟩; have n0_ := Aside0.mk (blk_below (g := gb408) (o := .cells #[.slice A0_0 l0_0.length c0_0] 24 (0, 0)) (by with_reducible exact BK408.out) hb); have n1_ := Aside0.mk (below_step (by with_reducible exact HB.out) hb); clear BK408; clear HB; have BK408 := n0_; have HB := n1_; clear n0_ n1_; (try clear hb); (try clear hb2); (try clear hk); (try clear hi); have hcz40_0 : w39.cell? ⟨gb408, 0, none⟩ = some (.slice A0_0 l0_0.length c0_0) := (blk_cell BK408.out 0).trans rfl; have hfz40_0 := blk_frozen BK408.out 0) | (go_at_call 20; (with_reducible refine (slotmeshref27_Valid.calls k _ _ l0_0 true _ ?side1 ?side2 A12.out).mono ?_); (case side1 => repeat (first | exact (Kd.C_below HR0_0.out HB.out) | (with_reducible refine Kd.C_alloc ?_ _) | (with_reducible refine Kd.C_drewN ?_ _) | (with_reducible refine Kd.C_drew ?_))); (case side2 => exact HC0_0.out); rintro e w41 ⟨rfl, hb⟩; have n0_ := Aside0.mk (blk_below (g := gb408) (o := .cells #[.slice A0_0 l0_0.length c0_0] 24 (0, 0)) (by with_reducible exact BK408.out) hb); have n1_ := Aside0.mk (below_step (by with_reducible exact HB.out) hb); clear BK408; clear HB; have BK408 := n0_; have HB := n1_; clear n0_ n1_; (try clear hb); (try clear hb2); (try clear hk); (try clear hi); have hcz42_0 : w41.cell? ⟨gb408, 0, none⟩ = some (.slice A0_0 l0_0.length c0_0) := (blk_cell BK408.out 0).trans rfl; have hfz42_0 := blk_frozen BK408.out 0))
        go_meet
        case rel => exact ⟨_, (decide (a3 > 1000000000)), (by first | rfl | (simp; done) | (simp [*]; done)), H', ⟨by first | omega | exact Nat.le_refl _⟩, ⟨by with_reducible exact BK408.out⟩, ⟨by with_reducible exact HB.out⟩⟩
   ·replace c13 := Bool.eq_false_iff.mpr c13
    subst c13
    have H1 : (slotmeshlaw27_QueueTwice.j0 k a1 a2 a3 a4 t409 true l0_0) = some r := by rw [if_neg (show ¬ (false = true) by decide)] at H; exact H
    clear H
    have H := H1
    clear H1
    have H' := Aside0.mk H
    clear H
    have hcz43_0 : w9.cell? ⟨gb408, 0, none⟩ = some (.slice A0_0 l0_0.length c0_0) := (blk_cell BK408.out 0).trans rfl
    have hfz43_0 := blk_frozen BK408.out 0
    go_wp2_with (first | ((with_reducible refine gate_callee (f := 10) rfl ?_); refine goesL_ (some 19) rfl rfl Try.func10 (by kernel_rfl) rfl #[.agg #[.slice A0_0 l0_0.length c0_0]] rfl (by (try simp only [List.map_toArray, List.map_cons, List.map_nil]); first | done | rfl | (simp only [List.length_drop, List.length_take]; rfl)) ?_; (with_reducible refine (slotmeshlaw27_short.calls _ _ l0_0 true _ ?side1 ?side2 A10.out).mono ?_); (case side1 => repeat (first | exact (Kd.C_below HR0_0.out HB.out) | (with_reducible refine Kd.C_alloc ?_ _) | (with_reducible refine Kd.C_drewN ?_ _) | (with_reducible refine Kd.C_drew ?_))); (case side2 => exact HC0_0.out); rintro e w44 ⟨rfl, hb⟩; refine ⟨_, rfl, ?_⟩; have n0_ := Aside0.mk (blk_below (g := gb408) (o := .cells #[.slice A0_0 l0_0.length c0_0] 24 (0, 0)) (by with_reducible exact BK408.out) hb); have n1_ := Aside0.mk (below_step (by with_reducible exact HB.out) hb); clear BK408; clear HB; have BK408 := n0_; have HB := n1_; clear n0_ n1_; (try clear hb); (try clear hb2); (try clear hk); (try clear hi); have hcz45_0 : w44.cell? ⟨gb408, 0, none⟩ = some (.slice A0_0 l0_0.length c0_0) := (blk_cell BK408.out 0).trans rfl; have hfz45_0 := blk_frozen BK408.out 0) | (go_at_call 20; (with_reducible refine (slotmeshref27_Valid.calls k _ _ l0_0 false _ ?side1 ?side2 A12.out).mono ?_); (case side1 => repeat (first | exact (Kd.C_below HR0_0.out HB.out) | (with_reducible refine Kd.C_alloc ?_ _) | (with_reducible refine Kd.C_drewN ?_ _) | (with_reducible refine Kd.C_drew ?_))); (case side2 => exact HC0_0.out); rintro e w46 ⟨rfl, hb⟩; have n0_ := Aside0.mk (blk_below (g := gb408) (o := .cells #[.slice A0_0 l0_0.length c0_0] 24 (0, 0)) (by with_reducible exact BK408.out) hb); have n1_ := Aside0.mk (below_step (by with_reducible exact HB.out) hb); clear BK408; clear HB; have BK408 := n0_; have HB := n1_; clear n0_ n1_; (try clear hb); (try clear hb2); (try clear hk); (try clear hi)))
    go_meet
    case rel => exact ⟨_, (true), (by first | rfl | (simp; done) | (simp [*]; done)), H', ⟨by first | omega | exact Nat.le_refl _⟩, ⟨by with_reducible exact BK408.out⟩, ⟨by with_reducible exact HB.out⟩⟩
  ·replace c11 := Bool.eq_false_iff.mpr c11
   subst c11
   have H1 : (slotmeshlaw27_QueueTwice.j0 k a1 a2 a3 a4 t409 true l0_0) = some r := by rw [if_neg (show ¬ (false = true) by decide)] at H; exact H
   clear H
   have H := H1
   clear H1
   have H' := Aside0.mk H
   clear H
   have hcz47_0 : w9.cell? ⟨gb408, 0, none⟩ = some (.slice A0_0 l0_0.length c0_0) := (blk_cell BK408.out 0).trans rfl
   have hfz47_0 := blk_frozen BK408.out 0
   go_wp2_with (first | ((with_reducible refine gate_callee (f := 10) rfl ?_); refine goesL_ (some 19) rfl rfl Try.func10 (by kernel_rfl) rfl #[.agg #[.slice A0_0 l0_0.length c0_0]] rfl (by (try simp only [List.map_toArray, List.map_cons, List.map_nil]); first | done | rfl | (simp only [List.length_drop, List.length_take]; rfl)) ?_; (with_reducible refine (slotmeshlaw27_short.calls _ _ l0_0 false _ ?side1 ?side2 A10.out).mono ?_); (case side1 => repeat (first | exact (Kd.C_below HR0_0.out HB.out) | (with_reducible refine Kd.C_alloc ?_ _) | (with_reducible refine Kd.C_drewN ?_ _) | (with_reducible refine Kd.C_drew ?_))); (case side2 => exact HC0_0.out); rintro e w48 ⟨rfl, hb⟩; refine ⟨_, rfl, ?_⟩; have n0_ := Aside0.mk (blk_below (g := gb408) (o := .cells #[.slice A0_0 l0_0.length c0_0] 24 (0, 0)) (by (with_reducible repeat (first | refine blk_drewN ?_ _ | refine blk_drew ?_ | refine blk_alloc ?_ _)); exact BK408.out) hb); have n1_ := Aside0.mk (below_step (by repeat (first | (with_reducible first | exact HB.out | apply below_alloc | apply pw_below_drewN | apply below_drew1 | refine below_set ?_ GE408.out) | exact HB.out)) hb); clear BK408; clear HB; have BK408 := n0_; have HB := n1_; clear n0_ n1_; (try clear hb); (try clear hb2); (try clear hk); (try clear hi)))
   go_meet
   case rel => exact ⟨_, (true), (by first | rfl | (simp; done) | (simp [*]; done)), H', ⟨by first | omega | exact Nat.le_refl _⟩, ⟨by (with_reducible repeat (first | refine blk_drewN ?_ _ | refine blk_drew ?_ | refine blk_alloc ?_ _)); exact BK408.out⟩, ⟨by repeat (first | (with_reducible first | exact HB.out | apply below_alloc | apply pw_below_drewN | apply below_drew1 | refine below_set ?_ GE408.out) | exact HB.out)⟩⟩
 case rest =>
  clear HC7
  try clear c1
  try clear c2
  try clear p2
  try clear c3
  try clear c8
  try clear c9
  try clear c10
  try clear c11
  try clear c13
  try clear c14
  try clear c14b0
  try clear c14b1
  try clear c14b2
  try clear c20
  try clear c20b0
  try clear c26
  try clear c26b0
  try clear c32
  try clear c32b0
  try clear hcz15_0
  try clear hcz17_0
  try clear hcz19_0
  try clear hcz21_0
  try clear hcz23_0
  try clear hcz25_0
  try clear hcz27_0
  try clear hcz29_0
  try clear hcz31_0
  try clear hcz33_0
  try clear hcz35_0
  try clear hcz37_0
  try clear hcz38_0
  try clear hcz40_0
  try clear hcz42_0
  try clear hcz43_0
  try clear hcz45_0
  try clear hcz47_0
  try clear hfz15_0
  try clear hfz17_0
  try clear hfz19_0
  try clear hfz21_0
  try clear hfz23_0
  try clear hfz25_0
  try clear hfz27_0
  try clear hfz29_0
  try clear hfz31_0
  try clear hfz33_0
  try clear hfz35_0
  try clear hfz37_0
  try clear hfz38_0
  try clear hfz40_0
  try clear hfz42_0
  try clear hfz43_0
  try clear hfz45_0
  try clear hfz47_0
  obtain ⟨kq, x47_6, rfl, HA, HJ6, BK408, HB⟩ := hcut
  cases kq with
  | zero => exact absurd HA.out (by simp [slotmeshlaw27_QueueTwice.j0])
  | succ kj6 =>
   have H := HA.out
   clear HA
   simp only [slotmeshlaw27_QueueTwice.j0] at H
   by_cases c49 : x47_6 = true
   ·subst c49
    have H1 : (some t409) = some r := by rw [if_pos rfl] at H; exact H
    clear H
    have H := H1
    clear H1
    obtain rfl := Option.some.inj H
    go_wp2
    go_ret
    exact ⟨by first | rfl | (simp [errW_none, errW_some] <;> rfl) | (simp [*, errW_none, errW_some] <;> rfl), by repeat (first | (with_reducible first | exact HB.out | apply below_alloc | apply pw_below_drewN | apply below_drew1 | refine below_set ?_ GE408.out) | exact HB.out)⟩
   ·replace c49 := Bool.eq_false_iff.mpr c49
    subst c49
    have H1 : (if (l0_0.length : Int) = 0 then (none) else (if 0 ≤ (Int.tmod (wrap64 (a1)) (l0_0.length : Int)) then (if (Int.tmod (wrap64 (a1)) (l0_0.length : Int)) < (l0_0.length : Int) then ((queue_Put.f kj6 l0_0 ((rd_T26 l0_0 (Int.tmod (wrap64 (a1)) (l0_0.length : Int))).f0) ((rd_T26 l0_0 (Int.tmod (wrap64 (a1)) (l0_0.length : Int))).f1) ((rd_T26 l0_0 (Int.tmod (wrap64 (a1)) (l0_0.length : Int))).f2) a2 a3 a4).bind fun bt414 => ((queue_Drop.f kj6 l0_0 ((rd_T26 l0_0 (Int.tmod (wrap64 (a1)) (l0_0.length : Int))).f0) ((rd_T26 l0_0 (Int.tmod (wrap64 (a1)) (l0_0.length : Int))).f1)).bind fun t419 => ((queue_Put.f kj6 t419 ((rd_T26 l0_0 (Int.tmod (wrap64 (a1)) (l0_0.length : Int))).f0) ((rd_T26 l0_0 (Int.tmod (wrap64 (a1)) (l0_0.length : Int))).f1) ((rd_T26 l0_0 (Int.tmod (wrap64 (a1)) (l0_0.length : Int))).f2) a2 a3 a4).bind fun bt422 => (if t409 = true then (if bt414.2 = 5 then (if ((rd_T26 l0_0 (Int.tmod (wrap64 (a1)) (l0_0.length : Int))).f0) = a4 then (some true) else (some (bt422.2 == 0))) else (some false)) else (some false))))) else (none)) else (none))) = some r := by rw [if_neg (show ¬ (false = true) by decide)] at H; exact H
    clear H
    have H := H1
    clear H1
    by_cases c50 : (l0_0.length : Int) = 0
    ·rw [if_pos c50] at H
     exact absurd H (by simp)
    ·rw [if_neg c50] at H
     have c50b0 : ((l0_0.length : Int) == 0) = false := beq_eq_false_iff_ne.mpr c50
     have c50b1 : ((l0_0.length : Int) != 0) = true := bne_iff_ne.mpr c50
     have c50b2 : ¬ (l0_0 = []) := fun h_ => c50 (by rw [h_]; rfl)
     obtain ⟨ji51, hji51⟩ : ∃ j_ : Int, (Int.tmod (wrap64 (a1)) (l0_0.length : Int)) = j_ := ⟨_, rfl⟩
     replace H : (if 0 ≤ (ji51) then (if (ji51) < (l0_0.length : Int) then ((queue_Put.f kj6 l0_0 ((rd_T26 l0_0 (ji51)).f0) ((rd_T26 l0_0 (ji51)).f1) ((rd_T26 l0_0 (ji51)).f2) a2 a3 a4).bind fun bt414 => ((queue_Drop.f kj6 l0_0 ((rd_T26 l0_0 (ji51)).f0) ((rd_T26 l0_0 (ji51)).f1)).bind fun t419 => ((queue_Put.f kj6 t419 ((rd_T26 l0_0 (ji51)).f0) ((rd_T26 l0_0 (ji51)).f1) ((rd_T26 l0_0 (ji51)).f2) a2 a3 a4).bind fun bt422 => (if t409 = true then (if bt414.2 = 5 then (if ((rd_T26 l0_0 (ji51)).f0) = a4 then (some true) else (some (bt422.2 == 0))) else (some false)) else (some false))))) else (none)) else (none)) = some r := by first | (rw [hji51] at H; exact H) | (simp only [hji51] at H ⊢; exact H)
     by_cases c52 : 0 ≤ (ji51)
     ·rw [if_pos c52] at H
      have c52b0 : decide (0 ≤ (ji51)) = true := decide_eq_true c52
      clear c52
      by_cases c53 : (ji51) < (l0_0.length : Int)
      ·rw [if_pos c53] at H
       have c53b0 : decide ((ji51) < (l0_0.length : Int)) = true := decide_eq_true c53
       clear c53
       replace H := Option.bind_eq_some_iff.mp H
       obtain ⟨⟨t414, t417⟩, A540, H⟩ := H
       replace H : ((queue_Drop.f kj6 l0_0 ((rd_T26 l0_0 (ji51)).f0) ((rd_T26 l0_0 (ji51)).f1)).bind fun t419 => ((queue_Put.f kj6 t419 ((rd_T26 l0_0 (ji51)).f0) ((rd_T26 l0_0 (ji51)).f1) ((rd_T26 l0_0 (ji51)).f2) a2 a3 a4).bind fun bt422 => (if t409 = true then (if t417 = 5 then (if ((rd_T26 l0_0 (ji51)).f0) = a4 then (some true) else (some (bt422.2 == 0))) else (some false)) else (some false)))) = some r := H
       have A54 := Aside0.mk A540
       clear A540
       replace H := Option.bind_eq_some_iff.mp H
       obtain ⟨t419, A550, H⟩ := H
       replace H : ((queue_Put.f kj6 t419 ((rd_T26 l0_0 (ji51)).f0) ((rd_T26 l0_0 (ji51)).f1) ((rd_T26 l0_0 (ji51)).f2) a2 a3 a4).bind fun bt422 => (if t409 = true then (if t417 = 5 then (if ((rd_T26 l0_0 (ji51)).f0) = a4 then (some true) else (some (bt422.2 == 0))) else (some false)) else (some false))) = some r := H
       have A55 := Aside0.mk A550
       clear A550
       replace H := Option.bind_eq_some_iff.mp H
       obtain ⟨⟨t422, t425⟩, A560, H⟩ := H
       replace H : (if t409 = true then (if t417 = 5 then (if ((rd_T26 l0_0 (ji51)).f0) = a4 then (some true) else (some (t425 == 0))) else (some false)) else (some false)) = some r := H
       have A56 := Aside0.mk A560
       clear A560
       by_cases c57 : t409 = true
       ·subst c57
        have H1 : (if t417 = 5 then (if ((rd_T26 l0_0 (ji51)).f0) = a4 then (some true) else (some (t425 == 0))) else (some false)) = some r := by rw [if_pos rfl] at H; exact H
        clear H
        have H := H1
        clear H1
        by_cases c58 : t417 = 5
        ·rw [if_pos c58] at H
         have c58b0 : (t417 == 5) = true := beq_iff_eq.mpr c58
         have c58b1 : (t417 != 5) = false := bne_eq_false_iff_eq.mpr c58
         clear c58
         by_cases c59 : ((rd_T26 l0_0 (ji51)).f0) = a4
         ·rw [if_pos c59] at H
          have c59b0 : (((rd_T26 l0_0 (ji51)).f0) == a4) = true := beq_iff_eq.mpr c59
          have c59b1 : (((rd_T26 l0_0 (ji51)).f0) != a4) = false := bne_eq_false_iff_eq.mpr c59
          clear c59
          obtain rfl := Option.some.inj H
          try go_wp2
          have n0_ := Aside0.mk (blk_drew BK408.out)
          have n1_ := Aside0.mk (below_drew1 HB.out)
          clear BK408
          clear HB
          have BK408 := n0_
          have HB := n1_
          clear n0_ n1_
          have p412 : 0 ≤ ((ji51) : Int) := of_decide_eq_true (by first | (with_reducible assumption) | assumption)
          have q412 : (ji51) < (l0_0.length : Int) := of_decide_eq_true (by first | (with_reducible assumption) | assumption)
          obtain ⟨ad412, e412, hx412_0, hx412_1, hx412_2, hx412_3, hx412_4⟩ := at_T26 HR0_0.out (ji51) p412 q412
          have hw412_4 := hx412_4
          have hw412_3 := hx412_3
          have hw412_2 := hx412_2
          have hw412_1 := hx412_1
          have hw412_0 := hx412_0
          cases e412
          replace hx412_0 := (HB.out.cell (World.block_lt_of_cell? w _ hx412_0)).trans hx412_0
          replace hx412_1 := (HB.out.cell (World.block_lt_of_cell? w _ hx412_1)).trans hx412_1
          replace hx412_2 := (HB.out.cell (World.block_lt_of_cell? w _ hx412_2)).trans hx412_2
          replace hx412_3 := (HB.out.cell (World.block_lt_of_cell? w _ hx412_3)).trans hx412_3
          replace hx412_4 := (HB.out.cell (World.block_lt_of_cell? w _ hx412_4)).trans hx412_4
          replace p412 := eq_true p412
          replace q412 := eq_true q412
          refine start_ (n := 12) (S := fun w' => w'.cell? ⟨gb408, 0, none⟩ = some (.slice (some ad412) l0_0.length c0_0) ∧ w'.cell? (ad412.add (((ji51)).toNat * 5)) = some (.int .i64 ((rd_T26 l0_0 (ji51)).f0)) ∧ w'.cell? ⟨(ad412.add (((ji51)).toNat * 5)).block, (ad412.add (((ji51)).toNat * 5)).off + 1, none⟩ = some (.int .i64 ((rd_T26 l0_0 (ji51)).f1)) ∧ w'.cell? ⟨(ad412.add (((ji51)).toNat * 5)).block, (ad412.add (((ji51)).toNat * 5)).off + 2, none⟩ = some (.int .i64 ((rd_T26 l0_0 (ji51)).f2)) ∧ w'.cell? ⟨(ad412.add (((ji51)).toNat * 5)).block, (ad412.add (((ji51)).toNat * 5)).off + 3, none⟩ = some (.int .i64 ((rd_T26 l0_0 (ji51)).f3)) ∧ w'.cell? ⟨(ad412.add (((ji51)).toNat * 5)).block, (ad412.add (((ji51)).toNat * 5)).off + 4, none⟩ = some (.int .i64 ((rd_T26 l0_0 (ji51)).f4))) (ds := []) #[false, false, false, false, false, false, false, false, false, false, false, false] (by kernel_rfl) rfl rfl ⟨(blk_cell BK408.out 0).trans rfl, ((HB.out.cell (World.block_lt_of_cell? w _ hw412_0)).trans hw412_0), ((HB.out.cell (World.block_lt_of_cell? w _ hw412_1)).trans hw412_1), ((HB.out.cell (World.block_lt_of_cell? w _ hw412_2)).trans hw412_2), ((HB.out.cell (World.block_lt_of_cell? w _ hw412_3)).trans hw412_3), ((HB.out.cell (World.block_lt_of_cell? w _ hw412_4)).trans hw412_4)⟩ (fun hHeld => ?_); refine with_tabW slotmeshlaw27_QueueTwice.tab4 slotmeshlaw27_QueueTwice.bits4 (fun HT_ HW_ => ?_)
          generalize wc.drew = w60 at BK408 HB hx412_0 hx412_1 hx412_2 hx412_3 hx412_4 hHeld ⊢
          refine pure_ (i := 0) (N := some 49) (v := ?_) (a' := ?_) #[true, false, false, false, false, false, false, false, false, false, false, false] rfl rfl (any_of HT_.out (by kernel_rfl)) (fun _ _ _ h => h) (Or.inl ⟨by rfl, ?_⟩) ?_ ?_
          rotate_left
          ·intro w'
           go_simp
           with_reducible rfl
          rotate_left
          ·simp only [Act.put, List.setIfInBounds_toArray, List.set_cons_zero, List.set_cons_succ, i64_w, i32_w]
           rfl
          refine pure_ (i := 2) (N := some 51) (v := ?_) (a' := ?_) #[true, false, true, false, false, false, false, false, false, false, false, false] rfl rfl (any_of HT_.out (by kernel_rfl)) (fun _ _ _ h => h) (Or.inl ⟨by rfl, ?_⟩) ?_ ?_
          rotate_left
          ·intro w'
           go_simp
           with_reducible rfl
          rotate_left
          ·simp only [Act.put, List.setIfInBounds_toArray, List.set_cons_zero, List.set_cons_succ, i64_w, i32_w]
           rfl
          refine pure_ (i := 3) (N := some 52) (v := ?_) (a' := ?_) #[true, false, true, true, false, false, false, false, false, false, false, false] rfl rfl (any_of HT_.out (by kernel_rfl)) (fun _ _ _ h => h) (Or.inl ⟨by rfl, ?_⟩) ?_ ?_
          rotate_left
          ·intro w'
           go_simp
           with_reducible rfl
          rotate_left
          ·simp only [Act.put, List.setIfInBounds_toArray, List.set_cons_zero, List.set_cons_succ, i64_w, i32_w]
           rfl
          refine pure_ (i := 4) (N := some 53) (v := ?_) (a' := ?_) #[true, false, true, true, true, false, false, false, false, false, false, false] rfl rfl (any_of HT_.out (by kernel_rfl)) (fun _ _ _ h => h) (Or.inl ⟨by rfl, ?_⟩) ?_ ?_
          rotate_left
          ·intro w'
           go_simp
           with_reducible rfl
          rotate_left
          ·simp only [Act.put, List.setIfInBounds_toArray, List.set_cons_zero, List.set_cons_succ, i64_w, i32_w]
           rfl
          refine take_ (i := 1) (N := some 50) (v := ?_) (a' := ?_) #[true, true, true, true, true, false, false, false, false, false, false, false] rfl rfl (take_ofW HT_.out HW_.out (by kernel_rfl)) (fun _ _ _ h => h) (Or.inl ⟨by rfl, ?_⟩) hHeld ?_ ?_
          rotate_left
          ·rintro w' ⟨s0, s1, s2, s3, s4, s5⟩
           go_simp
           with_reducible rfl
          rotate_left
          ·simp only [Act.put, List.setIfInBounds_toArray, List.set_cons_zero, List.set_cons_succ, i64_w, i32_w]
           rfl
          refine take_ (i := 5) (N := some 54) (v := ?_) (a' := ?_) #[true, true, true, true, true, true, false, false, false, false, false, false] rfl rfl (take_ofW HT_.out HW_.out (by kernel_rfl)) (fun _ _ _ h => h) (Or.inl ⟨by rfl, ?_⟩) hHeld ?_ ?_
          rotate_left
          ·rintro w' ⟨s0, s1, s2, s3, s4, s5⟩
           go_simp
           with_reducible rfl
          rotate_left
          ·simp only [Act.put, List.setIfInBounds_toArray, List.set_cons_zero, List.set_cons_succ, i64_w, i32_w]
           rfl
          refine pure_ (i := 6) (N := some 55) (v := ?_) (a' := ?_) #[true, true, true, true, true, true, true, false, false, false, false, false] rfl rfl (any_of HT_.out (by kernel_rfl)) (fun _ _ _ h => h) (Or.inl ⟨by rfl, ?_⟩) ?_ ?_
          rotate_left
          ·intro w'
           go_simp
           with_reducible rfl
          rotate_left
          ·simp only [Act.put, List.setIfInBounds_toArray, List.set_cons_zero, List.set_cons_succ, i64_w, i32_w]
           rfl
          refine pure_ (i := 7) (N := some 56) (v := ?_) (a' := ?_) #[true, true, true, true, true, true, true, true, false, false, false, false] rfl rfl (any_of HT_.out (by kernel_rfl)) (fun _ _ _ h => h) (Or.inl ⟨by rfl, ?_⟩) ?_ ?_
          rotate_left
          ·intro w'
           go_simp
           with_reducible rfl
          rotate_left
          ·simp only [Act.put, List.setIfInBounds_toArray, List.set_cons_zero, List.set_cons_succ, i64_w, i32_w]
           rfl
          refine pure_ (i := 8) (N := some 57) (v := ?_) (a' := ?_) #[true, true, true, true, true, true, true, true, true, false, false, false] rfl rfl (any_of HT_.out (by kernel_rfl)) (fun _ _ _ h => h) (Or.inl ⟨by rfl, ?_⟩) ?_ ?_
          rotate_left
          ·intro w'
           go_simp
           with_reducible rfl
          rotate_left
          ·simp only [Act.put, List.setIfInBounds_toArray, List.set_cons_zero, List.set_cons_succ, i64_w, i32_w]
           rfl
          refine take_ (i := 9) (N := some 58) (v := ?_) (a' := ?_) #[true, true, true, true, true, true, true, true, true, true, false, false] rfl rfl (take_ofW HT_.out HW_.out (by kernel_rfl)) (fun _ _ _ h => h) (Or.inl ⟨by rfl, ?_⟩) hHeld ?_ ?_
          rotate_left
          ·rintro w' ⟨s0, s1, s2, s3, s4, s5⟩
           go_simp
           with_reducible rfl
          rotate_left
          ·simp only [Act.put, List.setIfInBounds_toArray, List.set_cons_zero, List.set_cons_succ, i64_w, i32_w]
           rfl
          refine one_ (i := 10) (N := some 12) #[true, true, true, true, true, true, true, true, true, true, true, false] rfl rfl (one_of HT_.out (by kernel_rfl)) (by decide) (fun K hK => ?_)
          refine box_step ?hg (N := 12) ?hd (cs := #[.int .i64 0, .int .i64 0, .int .i64 0, .int .i64 0, .int .i64 0]) (t := 26) ?hr ?_; (case hd => rfl); (case hg => rfl); (case hr => first | (go_simp; done) | (go_simp; rfl))
          intro gb413 hg w61 hbox hb
          have n0_ := Aside0.mk (blk_below (g := gb408) (o := .cells #[.slice (some ad412) l0_0.length c0_0] 24 (0, 0)) (by (with_reducible repeat (first | refine blk_drewN ?_ _ | refine blk_drew ?_ | refine blk_alloc ?_ _)); exact BK408.out) hb)
          have n1_ := Aside0.mk (below_step (by repeat (first | (with_reducible first | exact HB.out | apply below_alloc | apply pw_below_drewN | apply below_drew1 | refine below_set ?_ GE408.out) | exact HB.out)) hb)
          have n2_ := Aside0.mk (hbox)
          have n3_ := Aside0.mk ((by rw [hg]; exact (below_size (by repeat (first | (with_reducible first | exact HB.out | apply below_alloc | apply pw_below_drewN | apply below_drew1 | refine below_set ?_ GE408.out) | exact HB.out))) : w.heap.size ≤ gb413))
          have n4_ := Aside0.mk ((by rw [hg]; exact (below_size (by repeat (first | (with_reducible first | exact HB.out | apply below_alloc | apply pw_below_drewN | apply below_drew1 | refine below_set ?_ GE408.out) | exact HB.out))) : w.heap.size ≤ gb413))
          have n5_ := Aside0.mk ((by rw [hg]; exact Nat.ne_of_lt (blk_lt (g := gb408) (o := .cells #[.slice (some ad412) l0_0.length c0_0] 24 (0, 0)) (by (with_reducible repeat (first | refine blk_drewN ?_ _ | refine blk_drew ?_ | refine blk_alloc ?_ _)); exact BK408.out)) : gb408 ≠ gb413))
          have n6_ := Aside0.mk ((by rw [hg]; exact Nat.ne_of_gt (blk_lt (g := gb408) (o := .cells #[.slice (some ad412) l0_0.length c0_0] 24 (0, 0)) (by (with_reducible repeat (first | refine blk_drewN ?_ _ | refine blk_drew ?_ | refine blk_alloc ?_ _)); exact BK408.out)) : gb413 ≠ gb408))
          clear BK408
          clear HB
          have BK408 := n0_
          have HB := n1_
          have BK413 := n2_
          have GW413 := n3_
          have GE413 := n4_
          have NB408_413 := n5_
          have NB413_408 := n6_
          clear n0_ n1_ n2_ n3_ n4_ n5_ n6_
          clear hb hbox hg
          refine hK.out _ _ ⟨(blk_cell BK408.out 0).trans rfl, ((HB.out.cell (World.block_lt_of_cell? w _ hw412_0)).trans hw412_0), ((HB.out.cell (World.block_lt_of_cell? w _ hw412_1)).trans hw412_1), ((HB.out.cell (World.block_lt_of_cell? w _ hw412_2)).trans hw412_2), ((HB.out.cell (World.block_lt_of_cell? w _ hw412_3)).trans hw412_3), ((HB.out.cell (World.block_lt_of_cell? w _ hw412_4)).trans hw412_4)⟩ (fun hHeld => ?_)
          clear hK K
          refine norm_ (a' := ?_) ?_ ?_
          rotate_left
          ·show Act.put _ (some 12) _ = _
           simp only [Act.put, List.setIfInBounds_toArray, List.set_cons_zero, List.set_cons_succ, i64_w, i32_w]
           rfl
          refine one_ (i := 11) (N := none) #[true, true, true, true, true, true, true, true, true, true, true, true] rfl rfl (one_of HT_.out (by kernel_rfl)) (by decide) (fun K hK => ?_)
          have hs62 : w61.cell? ⟨gb413, 0, none⟩ = some (.int .i64 0) := (blk_cell BK413.out 0).trans rfl
          have hfs62 := blk_frozen BK413.out 0
          have hns62_0 := NB408_413.out
          have hms62_0 := NB413_408.out
          have hs63 : w61.cell? ⟨gb413, 1, none⟩ = some (.int .i64 0) := (blk_cell BK413.out 1).trans rfl
          have hfs63 := blk_frozen BK413.out 1
          have hns63_0 := NB408_413.out
          have hms63_0 := NB413_408.out
          have hs64 : w61.cell? ⟨gb413, 2, none⟩ = some (.int .i64 0) := (blk_cell BK413.out 2).trans rfl
          have hfs64 := blk_frozen BK413.out 2
          have hns64_0 := NB408_413.out
          have hms64_0 := NB413_408.out
          have hs65 : w61.cell? ⟨gb413, 3, none⟩ = some (.int .i64 0) := (blk_cell BK413.out 3).trans rfl
          have hfs65 := blk_frozen BK413.out 3
          have hns65_0 := NB408_413.out
          have hms65_0 := NB413_408.out
          have hs66 : w61.cell? ⟨gb413, 4, none⟩ = some (.int .i64 0) := (blk_cell BK413.out 4).trans rfl
          have hfs66 := blk_frozen BK413.out 4
          have hns66_0 := NB408_413.out
          have hms66_0 := NB413_408.out
          refine skip_ (w1 := ?_) (by rfl) rfl ?_ ?_
          rotate_left
          ·go_simp
           rfl
          refine hK.out _ _ ⟨((cell_far (p := ⟨gb413, _, none⟩) NB408_413.out _).trans (((cell_far (p := ⟨gb413, _, none⟩) NB408_413.out _).trans (((cell_far (p := ⟨gb413, _, none⟩) NB408_413.out _).trans (((cell_far (p := ⟨gb413, _, none⟩) NB408_413.out _).trans (((cell_far (p := ⟨gb413, _, none⟩) NB408_413.out _).trans (hHeld.1)))))))))), ((cell_far (p := ⟨gb413, _, none⟩) (by first | exact Nat.ne_of_lt (Nat.lt_of_lt_of_le (by have := World.block_lt_of_cell? _ _ hw412_0; first | rwa [add_block] at this | exact this) GW413.out) | (rw [add_block]; exact Nat.ne_of_lt (Nat.lt_of_lt_of_le (by have := World.block_lt_of_cell? _ _ hw412_0; first | rwa [add_block] at this | exact this) GW413.out)) | (show (Addr.add _ _).block ≠ _; rw [add_block]; exact Nat.ne_of_lt (Nat.lt_of_lt_of_le (by have := World.block_lt_of_cell? _ _ hw412_0; first | rwa [add_block] at this | exact this) GW413.out)) | (dsimp only; exact Nat.ne_of_lt (Nat.lt_of_lt_of_le (by have := World.block_lt_of_cell? _ _ hw412_0; first | rwa [add_block] at this | exact this) GW413.out))) _).trans (((cell_far (p := ⟨gb413, _, none⟩) (by first | exact Nat.ne_of_lt (Nat.lt_of_lt_of_le (by have := World.block_lt_of_cell? _ _ hw412_0; first | rwa [add_block] at this | exact this) GW413.out) | (rw [add_block]; exact Nat.ne_of_lt (Nat.lt_of_lt_of_le (by have := World.block_lt_of_cell? _ _ hw412_0; first | rwa [add_block] at this | exact this) GW413.out)) | (show (Addr.add _ _).block ≠ _; rw [add_block]; exact Nat.ne_of_lt (Nat.lt_of_lt_of_le (by have := World.block_lt_of_cell? _ _ hw412_0; first | rwa [add_block] at this | exact this) GW413.out)) | (dsimp only; exact Nat.ne_of_lt (Nat.lt_of_lt_of_le (by have := World.block_lt_of_cell? _ _ hw412_0; first | rwa [add_block] at this | exact this) GW413.out))) _).trans (((cell_far (p := ⟨gb413, _, none⟩) (by first | exact Nat.ne_of_lt (Nat.lt_of_lt_of_le (by have := World.block_lt_of_cell? _ _ hw412_0; first | rwa [add_block] at this | exact this) GW413.out) | (rw [add_block]; exact Nat.ne_of_lt (Nat.lt_of_lt_of_le (by have := World.block_lt_of_cell? _ _ hw412_0; first | rwa [add_block] at this | exact this) GW413.out)) | (show (Addr.add _ _).block ≠ _; rw [add_block]; exact Nat.ne_of_lt (Nat.lt_of_lt_of_le (by have := World.block_lt_of_cell? _ _ hw412_0; first | rwa [add_block] at this | exact this) GW413.out)) | (dsimp only; exact Nat.ne_of_lt (Nat.lt_of_lt_of_le (by have := World.block_lt_of_cell? _ _ hw412_0; first | rwa [add_block] at this | exact this) GW413.out))) _).trans (((cell_far (p := ⟨gb413, _, none⟩) (by first | exact Nat.ne_of_lt (Nat.lt_of_lt_of_le (by have := World.block_lt_of_cell? _ _ hw412_0; first | rwa [add_block] at this | exact this) GW413.out) | (rw [add_block]; exact Nat.ne_of_lt (Nat.lt_of_lt_of_le (by have := World.block_lt_of_cell? _ _ hw412_0; first | rwa [add_block] at this | exact this) GW413.out)) | (show (Addr.add _ _).block ≠ _; rw [add_block]; exact Nat.ne_of_lt (Nat.lt_of_lt_of_le (by have := World.block_lt_of_cell? _ _ hw412_0; first | rwa [add_block] at this | exact this) GW413.out)) | (dsimp only; exact Nat.ne_of_lt (Nat.lt_of_lt_of_le (by have := World.block_lt_of_cell? _ _ hw412_0; first | rwa [add_block] at this | exact this) GW413.out))) _).trans (((cell_far (p := ⟨gb413, _, none⟩) (by first | exact Nat.ne_of_lt (Nat.lt_of_lt_of_le (by have := World.block_lt_of_cell? _ _ hw412_0; first | rwa [add_block] at this | exact this) GW413.out) | (rw [add_block]; exact Nat.ne_of_lt (Nat.lt_of_lt_of_le (by have := World.block_lt_of_cell? _ _ hw412_0; first | rwa [add_block] at this | exact this) GW413.out)) | (show (Addr.add _ _).block ≠ _; rw [add_block]; exact Nat.ne_of_lt (Nat.lt_of_lt_of_le (by have := World.block_lt_of_cell? _ _ hw412_0; first | rwa [add_block] at this | exact this) GW413.out)) | (dsimp only; exact Nat.ne_of_lt (Nat.lt_of_lt_of_le (by have := World.block_lt_of_cell? _ _ hw412_0; first | rwa [add_block] at this | exact this) GW413.out))) _).trans (hHeld.2.1)))))))))), ((cell_far (p := ⟨gb413, _, none⟩) (by first | exact Nat.ne_of_lt (Nat.lt_of_lt_of_le (by have := World.block_lt_of_cell? _ _ hw412_1; first | rwa [add_block] at this | exact this) GW413.out) | (rw [add_block]; exact Nat.ne_of_lt (Nat.lt_of_lt_of_le (by have := World.block_lt_of_cell? _ _ hw412_1; first | rwa [add_block] at this | exact this) GW413.out)) | (show (Addr.add _ _).block ≠ _; rw [add_block]; exact Nat.ne_of_lt (Nat.lt_of_lt_of_le (by have := World.block_lt_of_cell? _ _ hw412_1; first | rwa [add_block] at this | exact this) GW413.out)) | (dsimp only; exact Nat.ne_of_lt (Nat.lt_of_lt_of_le (by have := World.block_lt_of_cell? _ _ hw412_1; first | rwa [add_block] at this | exact this) GW413.out))) _).trans (((cell_far (p := ⟨gb413, _, none⟩) (by first | exact Nat.ne_of_lt (Nat.lt_of_lt_of_le (by have := World.block_lt_of_cell? _ _ hw412_1; first | rwa [add_block] at this | exact this) GW413.out) | (rw [add_block]; exact Nat.ne_of_lt (Nat.lt_of_lt_of_le (by have := World.block_lt_of_cell? _ _ hw412_1; first | rwa [add_block] at this | exact this) GW413.out)) | (show (Addr.add _ _).block ≠ _; rw [add_block]; exact Nat.ne_of_lt (Nat.lt_of_lt_of_le (by have := World.block_lt_of_cell? _ _ hw412_1; first | rwa [add_block] at this | exact this) GW413.out)) | (dsimp only; exact Nat.ne_of_lt (Nat.lt_of_lt_of_le (by have := World.block_lt_of_cell? _ _ hw412_1; first | rwa [add_block] at this | exact this) GW413.out))) _).trans (((cell_far (p := ⟨gb413, _, none⟩) (by first | exact Nat.ne_of_lt (Nat.lt_of_lt_of_le (by have := World.block_lt_of_cell? _ _ hw412_1; first | rwa [add_block] at this | exact this) GW413.out) | (rw [add_block]; exact Nat.ne_of_lt (Nat.lt_of_lt_of_le (by have := World.block_lt_of_cell? _ _ hw412_1; first | rwa [add_block] at this | exact this) GW413.out)) | (show (Addr.add _ _).block ≠ _; rw [add_block]; exact Nat.ne_of_lt (Nat.lt_of_lt_of_le (by have := World.block_lt_of_cell? _ _ hw412_1; first | rwa [add_block] at this | exact this) GW413.out)) | (dsimp only; exact Nat.ne_of_lt (Nat.lt_of_lt_of_le (by have := World.block_lt_of_cell? _ _ hw412_1; first | rwa [add_block] at this | exact this) GW413.out))) _).trans (((cell_far (p := ⟨gb413, _, none⟩) (by first | exact Nat.ne_of_lt (Nat.lt_of_lt_of_le (by have := World.block_lt_of_cell? _ _ hw412_1; first | rwa [add_block] at this | exact this) GW413.out) | (rw [add_block]; exact Nat.ne_of_lt (Nat.lt_of_lt_of_le (by have := World.block_lt_of_cell? _ _ hw412_1; first | rwa [add_block] at this | exact this) GW413.out)) | (show (Addr.add _ _).block ≠ _; rw [add_block]; exact Nat.ne_of_lt (Nat.lt_of_lt_of_le (by have := World.block_lt_of_cell? _ _ hw412_1; first | rwa [add_block] at this | exact this) GW413.out)) | (dsimp only; exact Nat.ne_of_lt (Nat.lt_of_lt_of_le (by have := World.block_lt_of_cell? _ _ hw412_1; first | rwa [add_block] at this | exact this) GW413.out))) _).trans (((cell_far (p := ⟨gb413, _, none⟩) (by first | exact Nat.ne_of_lt (Nat.lt_of_lt_of_le (by have := World.block_lt_of_cell? _ _ hw412_1; first | rwa [add_block] at this | exact this) GW413.out) | (rw [add_block]; exact Nat.ne_of_lt (Nat.lt_of_lt_of_le (by have := World.block_lt_of_cell? _ _ hw412_1; first | rwa [add_block] at this | exact this) GW413.out)) | (show (Addr.add _ _).block ≠ _; rw [add_block]; exact Nat.ne_of_lt (Nat.lt_of_lt_of_le (by have := World.block_lt_of_cell? _ _ hw412_1; first | rwa [add_block] at this | exact this) GW413.out)) | (dsimp only; exact Nat.ne_of_lt (Nat.lt_of_lt_of_le (by have := World.block_lt_of_cell? _ _ hw412_1; first | rwa [add_block] at this | exact this) GW413.out))) _).trans (hHeld.2.2.1)))))))))), ((cell_far (p := ⟨gb413, _, none⟩) (by first | exact Nat.ne_of_lt (Nat.lt_of_lt_of_le (by have := World.block_lt_of_cell? _ _ hw412_2; first | rwa [add_block] at this | exact this) GW413.out) | (rw [add_block]; exact Nat.ne_of_lt (Nat.lt_of_lt_of_le (by have := World.block_lt_of_cell? _ _ hw412_2; first | rwa [add_block] at this | exact this) GW413.out)) | (show (Addr.add _ _).block ≠ _; rw [add_block]; exact Nat.ne_of_lt (Nat.lt_of_lt_of_le (by have := World.block_lt_of_cell? _ _ hw412_2; first | rwa [add_block] at this | exact this) GW413.out)) | (dsimp only; exact Nat.ne_of_lt (Nat.lt_of_lt_of_le (by have := World.block_lt_of_cell? _ _ hw412_2; first | rwa [add_block] at this | exact this) GW413.out))) _).trans (((cell_far (p := ⟨gb413, _, none⟩) (by first | exact Nat.ne_of_lt (Nat.lt_of_lt_of_le (by have := World.block_lt_of_cell? _ _ hw412_2; first | rwa [add_block] at this | exact this) GW413.out) | (rw [add_block]; exact Nat.ne_of_lt (Nat.lt_of_lt_of_le (by have := World.block_lt_of_cell? _ _ hw412_2; first | rwa [add_block] at this | exact this) GW413.out)) | (show (Addr.add _ _).block ≠ _; rw [add_block]; exact Nat.ne_of_lt (Nat.lt_of_lt_of_le (by have := World.block_lt_of_cell? _ _ hw412_2; first | rwa [add_block] at this | exact this) GW413.out)) | (dsimp only; exact Nat.ne_of_lt (Nat.lt_of_lt_of_le (by have := World.block_lt_of_cell? _ _ hw412_2; first | rwa [add_block] at this | exact this) GW413.out))) _).trans (((cell_far (p := ⟨gb413, _, none⟩) (by first | exact Nat.ne_of_lt (Nat.lt_of_lt_of_le (by have := World.block_lt_of_cell? _ _ hw412_2; first | rwa [add_block] at this | exact this) GW413.out) | (rw [add_block]; exact Nat.ne_of_lt (Nat.lt_of_lt_of_le (by have := World.block_lt_of_cell? _ _ hw412_2; first | rwa [add_block] at this | exact this) GW413.out)) | (show (Addr.add _ _).block ≠ _; rw [add_block]; exact Nat.ne_of_lt (Nat.lt_of_lt_of_le (by have := World.block_lt_of_cell? _ _ hw412_2; first | rwa [add_block] at this | exact this) GW413.out)) | (dsimp only; exact Nat.ne_of_lt (Nat.lt_of_lt_of_le (by have := World.block_lt_of_cell? _ _ hw412_2; first | rwa [add_block] at this | exact this) GW413.out))) _).trans (((cell_far (p := ⟨gb413, _, none⟩) (by first | exact Nat.ne_of_lt (Nat.lt_of_lt_of_le (by have := World.block_lt_of_cell? _ _ hw412_2; first | rwa [add_block] at this | exact this) GW413.out) | (rw [add_block]; exact Nat.ne_of_lt (Nat.lt_of_lt_of_le (by have := World.block_lt_of_cell? _ _ hw412_2; first | rwa [add_block] at this | exact this) GW413.out)) | (show (Addr.add _ _).block ≠ _; rw [add_block]; exact Nat.ne_of_lt (Nat.lt_of_lt_of_le (by have := World.block_lt_of_cell? _ _ hw412_2; first | rwa [add_block] at this | exact this) GW413.out)) | (dsimp only; exact Nat.ne_of_lt (Nat.lt_of_lt_of_le (by have := World.block_lt_of_cell? _ _ hw412_2; first | rwa [add_block] at this | exact this) GW413.out))) _).trans (((cell_far (p := ⟨gb413, _, none⟩) (by first | exact Nat.ne_of_lt (Nat.lt_of_lt_of_le (by have := World.block_lt_of_cell? _ _ hw412_2; first | rwa [add_block] at this | exact this) GW413.out) | (rw [add_block]; exact Nat.ne_of_lt (Nat.lt_of_lt_of_le (by have := World.block_lt_of_cell? _ _ hw412_2; first | rwa [add_block] at this | exact this) GW413.out)) | (show (Addr.add _ _).block ≠ _; rw [add_block]; exact Nat.ne_of_lt (Nat.lt_of_lt_of_le (by have := World.block_lt_of_cell? _ _ hw412_2; first | rwa [add_block] at this | exact this) GW413.out)) | (dsimp only; exact Nat.ne_of_lt (Nat.lt_of_lt_of_le (by have := World.block_lt_of_cell? _ _ hw412_2; first | rwa [add_block] at this | exact this) GW413.out))) _).trans (hHeld.2.2.2.1)))))))))), ((cell_far (p := ⟨gb413, _, none⟩) (by first | exact Nat.ne_of_lt (Nat.lt_of_lt_of_le (by have := World.block_lt_of_cell? _ _ hw412_3; first | rwa [add_block] at this | exact this) GW413.out) | (rw [add_block]; exact Nat.ne_of_lt (Nat.lt_of_lt_of_le (by have := World.block_lt_of_cell? _ _ hw412_3; first | rwa [add_block] at this | exact this) GW413.out)) | (show (Addr.add _ _).block ≠ _; rw [add_block]; exact Nat.ne_of_lt (Nat.lt_of_lt_of_le (by have := World.block_lt_of_cell? _ _ hw412_3; first | rwa [add_block] at this | exact this) GW413.out)) | (dsimp only; exact Nat.ne_of_lt (Nat.lt_of_lt_of_le (by have := World.block_lt_of_cell? _ _ hw412_3; first | rwa [add_block] at this | exact this) GW413.out))) _).trans (((cell_far (p := ⟨gb413, _, none⟩) (by first | exact Nat.ne_of_lt (Nat.lt_of_lt_of_le (by have := World.block_lt_of_cell? _ _ hw412_3; first | rwa [add_block] at this | exact this) GW413.out) | (rw [add_block]; exact Nat.ne_of_lt (Nat.lt_of_lt_of_le (by have := World.block_lt_of_cell? _ _ hw412_3; first | rwa [add_block] at this | exact this) GW413.out)) | (show (Addr.add _ _).block ≠ _; rw [add_block]; exact Nat.ne_of_lt (Nat.lt_of_lt_of_le (by have := World.block_lt_of_cell? _ _ hw412_3; first | rwa [add_block] at this | exact this) GW413.out)) | (dsimp only; exact Nat.ne_of_lt (Nat.lt_of_lt_of_le (by have := World.block_lt_of_cell? _ _ hw412_3; first | rwa [add_block] at this | exact this) GW413.out))) _).trans (((cell_far (p := ⟨gb413, _, none⟩) (by first | exact Nat.ne_of_lt (Nat.lt_of_lt_of_le (by have := World.block_lt_of_cell? _ _ hw412_3; first | rwa [add_block] at this | exact this) GW413.out) | (rw [add_block]; exact Nat.ne_of_lt (Nat.lt_of_lt_of_le (by have := World.block_lt_of_cell? _ _ hw412_3; first | rwa [add_block] at this | exact this) GW413.out)) | (show (Addr.add _ _).block ≠ _; rw [add_block]; exact Nat.ne_of_lt (Nat.lt_of_lt_of_le (by have := World.block_lt_of_cell? _ _ hw412_3; first | rwa [add_block] at this | exact this) GW413.out)) | (dsimp only; exact Nat.ne_of_lt (Nat.lt_of_lt_of_le (by have := World.block_lt_of_cell? _ _ hw412_3; first | rwa [add_block] at this | exact this) GW413.out))) _).trans (((cell_far (p := ⟨gb413, _, none⟩) (by first | exact Nat.ne_of_lt (Nat.lt_of_lt_of_le (by have := World.block_lt_of_cell? _ _ hw412_3; first | rwa [add_block] at this | exact this) GW413.out) | (rw [add_block]; exact Nat.ne_of_lt (Nat.lt_of_lt_of_le (by have := World.block_lt_of_cell? _ _ hw412_3; first | rwa [add_block] at this | exact this) GW413.out)) | (show (Addr.add _ _).block ≠ _; rw [add_block]; exact Nat.ne_of_lt (Nat.lt_of_lt_of_le (by have := World.block_lt_of_cell? _ _ hw412_3; first | rwa [add_block] at this | exact this) GW413.out)) | (dsimp only; exact Nat.ne_of_lt (Nat.lt_of_lt_of_le (by have := World.block_lt_of_cell? _ _ hw412_3; first | rwa [add_block] at this | exact this) GW413.out))) _).trans (((cell_far (p := ⟨gb413, _, none⟩) (by first | exact Nat.ne_of_lt (Nat.lt_of_lt_of_le (by have := World.block_lt_of_cell? _ _ hw412_3; first | rwa [add_block] at this | exact this) GW413.out) | (rw [add_block]; exact Nat.ne_of_lt (Nat.lt_of_lt_of_le (by have := World.block_lt_of_cell? _ _ hw412_3; first | rwa [add_block] at this | exact this) GW413.out)) | (show (Addr.add _ _).block ≠ _; rw [add_block]; exact Nat.ne_of_lt (Nat.lt_of_lt_of_le (by have := World.block_lt_of_cell? _ _ hw412_3; first | rwa [add_block] at this | exact this) GW413.out)) | (dsimp only; exact Nat.ne_of_lt (Nat.lt_of_lt_of_le (by have := World.block_lt_of_cell? _ _ hw412_3; first | rwa [add_block] at this | exact this) GW413.out))) _).trans (hHeld.2.2.2.2.1)))))))))), ((cell_far (p := ⟨gb413, _, none⟩) (by first | exact Nat.ne_of_lt (Nat.lt_of_lt_of_le (by have := World.block_lt_of_cell? _ _ hw412_4; first | rwa [add_block] at this | exact this) GW413.out) | (rw [add_block]; exact Nat.ne_of_lt (Nat.lt_of_lt_of_le (by have := World.block_lt_of_cell? _ _ hw412_4; first | rwa [add_block] at this | exact this) GW413.out)) | (show (Addr.add _ _).block ≠ _; rw [add_block]; exact Nat.ne_of_lt (Nat.lt_of_lt_of_le (by have := World.block_lt_of_cell? _ _ hw412_4; first | rwa [add_block] at this | exact this) GW413.out)) | (dsimp only; exact Nat.ne_of_lt (Nat.lt_of_lt_of_le (by have := World.block_lt_of_cell? _ _ hw412_4; first | rwa [add_block] at this | exact this) GW413.out))) _).trans (((cell_far (p := ⟨gb413, _, none⟩) (by first | exact Nat.ne_of_lt (Nat.lt_of_lt_of_le (by have := World.block_lt_of_cell? _ _ hw412_4; first | rwa [add_block] at this | exact this) GW413.out) | (rw [add_block]; exact Nat.ne_of_lt (Nat.lt_of_lt_of_le (by have := World.block_lt_of_cell? _ _ hw412_4; first | rwa [add_block] at this | exact this) GW413.out)) | (show (Addr.add _ _).block ≠ _; rw [add_block]; exact Nat.ne_of_lt (Nat.lt_of_lt_of_le (by have := World.block_lt_of_cell? _ _ hw412_4; first | rwa [add_block] at this | exact this) GW413.out)) | (dsimp only; exact Nat.ne_of_lt (Nat.lt_of_lt_of_le (by have := World.block_lt_of_cell? _ _ hw412_4; first | rwa [add_block] at this | exact this) GW413.out))) _).trans (((cell_far (p := ⟨gb413, _, none⟩) (by first | exact Nat.ne_of_lt (Nat.lt_of_lt_of_le (by have := World.block_lt_of_cell? _ _ hw412_4; first | rwa [add_block] at this | exact this) GW413.out) | (rw [add_block]; exact Nat.ne_of_lt (Nat.lt_of_lt_of_le (by have := World.block_lt_of_cell? _ _ hw412_4; first | rwa [add_block] at this | exact this) GW413.out)) | (show (Addr.add _ _).block ≠ _; rw [add_block]; exact Nat.ne_of_lt (Nat.lt_of_lt_of_le (by have := World.block_lt_of_cell? _ _ hw412_4; first | rwa [add_block] at this | exact this) GW413.out)) | (dsimp only; exact Nat.ne_of_lt (Nat.lt_of_lt_of_le (by have := World.block_lt_of_cell? _ _ hw412_4; first | rwa [add_block] at this | exact this) GW413.out))) _).trans (((cell_far (p := ⟨gb413, _, none⟩) (by first | exact Nat.ne_of_lt (Nat.lt_of_lt_of_le (by have := World.block_lt_of_cell? _ _ hw412_4; first | rwa [add_block] at this | exact this) GW413.out) | (rw [add_block]; exact Nat.ne_of_lt (Nat.lt_of_lt_of_le (by have := World.block_lt_of_cell? _ _ hw412_4; first | rwa [add_block] at this | exact this) GW413.out)) | (show (Addr.add _ _).block ≠ _; rw [add_block]; exact Nat.ne_of_lt (Nat.lt_of_lt_of_le (by have := World.block_lt_of_cell? _ _ hw412_4; first | rwa [add_block] at this | exact this) GW413.out)) | (dsimp only; exact Nat.ne_of_lt (Nat.lt_of_lt_of_le (by have := World.block_lt_of_cell? _ _ hw412_4; first | rwa [add_block] at this | exact this) GW413.out))) _).trans (((cell_far (p := ⟨gb413, _, none⟩) (by first | exact Nat.ne_of_lt (Nat.lt_of_lt_of_le (by have := World.block_lt_of_cell? _ _ hw412_4; first | rwa [add_block] at this | exact this) GW413.out) | (rw [add_block]; exact Nat.ne_of_lt (Nat.lt_of_lt_of_le (by have := World.block_lt_of_cell? _ _ hw412_4; first | rwa [add_block] at this | exact this) GW413.out)) | (show (Addr.add _ _).block ≠ _; rw [add_block]; exact Nat.ne_of_lt (Nat.lt_of_lt_of_le (by have := World.block_lt_of_cell? _ _ hw412_4; first | rwa [add_block] at this | exact this) GW413.out)) | (dsimp only; exact Nat.ne_of_lt (Nat.lt_of_lt_of_le (by have := World.block_lt_of_cell? _ _ hw412_4; first | rwa [add_block] at this | exact this) GW413.out))) _).trans (hHeld.2.2.2.2.2))))))))))⟩ (fun hHeld => ?_)
          clear hK K
          refine done_ (done_of HT_.out (by kernel_rfl)) ?_
          have n0_ : Aside0 ((((((w61.setCell ⟨gb413, 0, none⟩ (.int .i64 ((rd_T26 l0_0 (ji51)).f0))).setCell ⟨gb413, 1, none⟩ (.int .i64 ((rd_T26 l0_0 (ji51)).f1))).setCell ⟨gb413, 2, none⟩ (.int .i64 ((rd_T26 l0_0 (ji51)).f2))).setCell ⟨gb413, 3, none⟩ (.int .i64 ((rd_T26 l0_0 (ji51)).f3))).setCell ⟨gb413, 4, none⟩ (.int .i64 ((rd_T26 l0_0 (ji51)).f4))).heap[gb408]? = some (.cells #[.slice (some ad412) l0_0.length c0_0] 24 (0, 0))) := ⟨by (with_reducible repeat (first | refine blk_drewN ?_ _ | refine blk_drew ?_ | refine blk_alloc ?_ _)); refine blk_far ?_ NB408_413.out _; (with_reducible repeat (first | refine blk_drewN ?_ _ | refine blk_drew ?_ | refine blk_alloc ?_ _)); refine blk_far ?_ NB408_413.out _; (with_reducible repeat (first | refine blk_drewN ?_ _ | refine blk_drew ?_ | refine blk_alloc ?_ _)); refine blk_far ?_ NB408_413.out _; (with_reducible repeat (first | refine blk_drewN ?_ _ | refine blk_drew ?_ | refine blk_alloc ?_ _)); refine blk_far ?_ NB408_413.out _; (with_reducible repeat (first | refine blk_drewN ?_ _ | refine blk_drew ?_ | refine blk_alloc ?_ _)); refine blk_far ?_ NB408_413.out _; (with_reducible repeat (first | refine blk_drewN ?_ _ | refine blk_drew ?_ | refine blk_alloc ?_ _)); exact BK408.out⟩
          have n1_ : Aside0 ((((((w61.setCell ⟨gb413, 0, none⟩ (.int .i64 ((rd_T26 l0_0 (ji51)).f0))).setCell ⟨gb413, 1, none⟩ (.int .i64 ((rd_T26 l0_0 (ji51)).f1))).setCell ⟨gb413, 2, none⟩ (.int .i64 ((rd_T26 l0_0 (ji51)).f2))).setCell ⟨gb413, 3, none⟩ (.int .i64 ((rd_T26 l0_0 (ji51)).f3))).setCell ⟨gb413, 4, none⟩ (.int .i64 ((rd_T26 l0_0 (ji51)).f4))).heap[gb413]? = some (.cells #[.int .i64 ((rd_T26 l0_0 (ji51)).f0), .int .i64 ((rd_T26 l0_0 (ji51)).f1), .int .i64 ((rd_T26 l0_0 (ji51)).f2), .int .i64 ((rd_T26 l0_0 (ji51)).f3), .int .i64 ((rd_T26 l0_0 (ji51)).f4)] 26 (0, 0))) := ⟨by (with_reducible repeat (first | refine blk_drewN ?_ _ | refine blk_drew ?_ | refine blk_alloc ?_ _)); refine blk_put (cs := #[.int .i64 ((rd_T26 l0_0 (ji51)).f0), .int .i64 ((rd_T26 l0_0 (ji51)).f1), .int .i64 ((rd_T26 l0_0 (ji51)).f2), .int .i64 ((rd_T26 l0_0 (ji51)).f3), .int .i64 0]) ?_ 4 _ rfl; (with_reducible repeat (first | refine blk_drewN ?_ _ | refine blk_drew ?_ | refine blk_alloc ?_ _)); refine blk_put (cs := #[.int .i64 ((rd_T26 l0_0 (ji51)).f0), .int .i64 ((rd_T26 l0_0 (ji51)).f1), .int .i64 ((rd_T26 l0_0 (ji51)).f2), .int .i64 0, .int .i64 0]) ?_ 3 _ rfl; (with_reducible repeat (first | refine blk_drewN ?_ _ | refine blk_drew ?_ | refine blk_alloc ?_ _)); refine blk_put (cs := #[.int .i64 ((rd_T26 l0_0 (ji51)).f0), .int .i64 ((rd_T26 l0_0 (ji51)).f1), .int .i64 0, .int .i64 0, .int .i64 0]) ?_ 2 _ rfl; (with_reducible repeat (first | refine blk_drewN ?_ _ | refine blk_drew ?_ | refine blk_alloc ?_ _)); refine blk_put (cs := #[.int .i64 ((rd_T26 l0_0 (ji51)).f0), .int .i64 0, .int .i64 0, .int .i64 0, .int .i64 0]) ?_ 1 _ rfl; (with_reducible repeat (first | refine blk_drewN ?_ _ | refine blk_drew ?_ | refine blk_alloc ?_ _)); refine blk_put (cs := #[.int .i64 0, .int .i64 0, .int .i64 0, .int .i64 0, .int .i64 0]) ?_ 0 _ rfl; (with_reducible repeat (first | refine blk_drewN ?_ _ | refine blk_drew ?_ | refine blk_alloc ?_ _)); exact BK413.out⟩
          have n2_ : Aside0 (Below w.heap.size w (((((w61.setCell ⟨gb413, 0, none⟩ (.int .i64 ((rd_T26 l0_0 (ji51)).f0))).setCell ⟨gb413, 1, none⟩ (.int .i64 ((rd_T26 l0_0 (ji51)).f1))).setCell ⟨gb413, 2, none⟩ (.int .i64 ((rd_T26 l0_0 (ji51)).f2))).setCell ⟨gb413, 3, none⟩ (.int .i64 ((rd_T26 l0_0 (ji51)).f3))).setCell ⟨gb413, 4, none⟩ (.int .i64 ((rd_T26 l0_0 (ji51)).f4)))) := ⟨by repeat (first | (with_reducible first | exact HB.out | apply below_alloc | apply pw_below_drewN | apply below_drew1 | refine below_set ?_ GE408.out | refine below_set ?_ GE413.out) | exact HB.out)⟩
          (try clear BK408)
          (try clear BK413)
          (try clear HB)
          generalize (((((w61.setCell ⟨gb413, 0, none⟩ (.int .i64 ((rd_T26 l0_0 (ji51)).f0))).setCell ⟨gb413, 1, none⟩ (.int .i64 ((rd_T26 l0_0 (ji51)).f1))).setCell ⟨gb413, 2, none⟩ (.int .i64 ((rd_T26 l0_0 (ji51)).f2))).setCell ⟨gb413, 3, none⟩ (.int .i64 ((rd_T26 l0_0 (ji51)).f3))).setCell ⟨gb413, 4, none⟩ (.int .i64 ((rd_T26 l0_0 (ji51)).f4))) = w67 at n0_ n1_ n2_ ⊢
          have BK408 := n0_
          have BK413 := n1_
          have HB := n2_
          clear n0_ n1_ n2_
          have hnb68 := NB413_408.out
          have hnc68 := NB408_413.out
          have hcz69_0 : w67.cell? ⟨gb413, 0, none⟩ = some (.int .i64 ((rd_T26 l0_0 (ji51)).f0)) := (blk_cell BK413.out 0).trans rfl
          have hcz69_1 : w67.cell? ⟨gb413, 1, none⟩ = some (.int .i64 ((rd_T26 l0_0 (ji51)).f1)) := (blk_cell BK413.out 1).trans rfl
          have hcz69_2 : w67.cell? ⟨gb413, 2, none⟩ = some (.int .i64 ((rd_T26 l0_0 (ji51)).f2)) := (blk_cell BK413.out 2).trans rfl
          have hcz69_3 : w67.cell? ⟨gb413, 3, none⟩ = some (.int .i64 ((rd_T26 l0_0 (ji51)).f3)) := (blk_cell BK413.out 3).trans rfl
          have hcz69_4 : w67.cell? ⟨gb413, 4, none⟩ = some (.int .i64 ((rd_T26 l0_0 (ji51)).f4)) := (blk_cell BK413.out 4).trans rfl
          have hfz69_0 := blk_frozen BK413.out 0
          have hfz69_1 := blk_frozen BK413.out 1
          have hfz69_2 := blk_frozen BK413.out 2
          have hfz69_3 := blk_frozen BK413.out 3
          have hfz69_4 := blk_frozen BK413.out 4
          have hcz70_0 : w67.cell? ⟨gb408, 0, none⟩ = some (.slice (some ad412) l0_0.length c0_0) := (blk_cell BK408.out 0).trans rfl
          have hfz70_0 := blk_frozen BK408.out 0
          try go_wp2_with (first | ((with_reducible refine gate_callee (f := 11) rfl ?_); refine goesL_ (some 67) rfl rfl Try.func11 (by kernel_rfl) rfl #[.agg #[.slice (some ad412) l0_0.length c0_0], .agg #[.int .i64 ((rd_T26 l0_0 (ji51)).f0), .int .i64 ((rd_T26 l0_0 (ji51)).f1), .int .i64 ((rd_T26 l0_0 (ji51)).f2), .int .i64 a2, .int .i64 a3], .int .i64 a4] rfl (by (try simp only [List.map_toArray, List.map_cons, List.map_nil]); first | done | (simp only [hji51]; rfl) | rfl | (simp only [List.length_drop, List.length_take]; rfl)) ?_; (with_reducible refine (queue_Put.calls kj6 _ _ l0_0 ((rd_T26 l0_0 (ji51)).f0) ((rd_T26 l0_0 (ji51)).f1) ((rd_T26 l0_0 (ji51)).f2) a2 a3 a4 t414 t417 _ ?side1 ?side2 A54.out).mono ?_); (case side1 => exact Kd.C_below HR0_0.out (by repeat (first | (with_reducible first | exact HB.out | apply below_alloc | apply pw_below_drewN | apply below_drew1 | refine below_set ?_ GE408.out | refine below_set ?_ GE413.out) | exact HB.out))); (case side2 => exact HC0_0.out); rintro e w71 ⟨v415, rfl, ho0, hb⟩; refine ⟨_, rfl, ?_⟩; have n0_ := Aside0.mk (Kd.R_lower (Kd.R_newB ho0 (g := gb413) (o := .cells #[.int .i64 ((rd_T26 l0_0 (ji51)).f0), .int .i64 ((rd_T26 l0_0 (ji51)).f1), .int .i64 ((rd_T26 l0_0 (ji51)).f2), .int .i64 a2, .int .i64 a3] 26 (0, 0)) (by (with_reducible repeat (first | refine blk_drewN ?_ _ | refine blk_drew ?_ | refine blk_alloc ?_ _)); refine blk_put (cs := #[.int .i64 ((rd_T26 l0_0 (ji51)).f0), .int .i64 ((rd_T26 l0_0 (ji51)).f1), .int .i64 ((rd_T26 l0_0 (ji51)).f2), .int .i64 a2, .int .i64 ((rd_T26 l0_0 (ji51)).f4)]) ?_ 4 _ rfl; (with_reducible repeat (first | refine blk_drewN ?_ _ | refine blk_drew ?_ | refine blk_alloc ?_ _)); refine blk_put (cs := #[.int .i64 ((rd_T26 l0_0 (ji51)).f0), .int .i64 ((rd_T26 l0_0 (ji51)).f1), .int .i64 ((rd_T26 l0_0 (ji51)).f2), .int .i64 ((rd_T26 l0_0 (ji51)).f3), .int .i64 ((rd_T26 l0_0 (ji51)).f4)]) ?_ 3 _ rfl; (with_reducible repeat (first | refine blk_drewN ?_ _ | refine blk_drew ?_ | refine blk_alloc ?_ _)); exact BK413.out)) (below_size (by repeat (first | (with_reducible first | exact HB.out | apply below_alloc | apply pw_below_drewN | apply below_drew1 | refine below_set ?_ GE408.out | refine below_set ?_ GE413.out) | exact HB.out)))); have n1_ := Aside0.mk (blk_below (g := gb408) (o := .cells #[.slice (some ad412) l0_0.length c0_0] 24 (0, 0)) (by (with_reducible repeat (first | refine blk_drewN ?_ _ | refine blk_drew ?_ | refine blk_alloc ?_ _)); refine blk_far ?_ NB408_413.out _; (with_reducible repeat (first | refine blk_drewN ?_ _ | refine blk_drew ?_ | refine blk_alloc ?_ _)); refine blk_far ?_ NB408_413.out _; (with_reducible repeat (first | refine blk_drewN ?_ _ | refine blk_drew ?_ | refine blk_alloc ?_ _)); exact BK408.out) hb); have n2_ := Aside0.mk (blk_below (g := gb413) (o := .cells #[.int .i64 ((rd_T26 l0_0 (ji51)).f0), .int .i64 ((rd_T26 l0_0 (ji51)).f1), .int .i64 ((rd_T26 l0_0 (ji51)).f2), .int .i64 a2, .int .i64 a3] 26 (0, 0)) (by (with_reducible repeat (first | refine blk_drewN ?_ _ | refine blk_drew ?_ | refine blk_alloc ?_ _)); refine blk_put (cs := #[.int .i64 ((rd_T26 l0_0 (ji51)).f0), .int .i64 ((rd_T26 l0_0 (ji51)).f1), .int .i64 ((rd_T26 l0_0 (ji51)).f2), .int .i64 a2, .int .i64 ((rd_T26 l0_0 (ji51)).f4)]) ?_ 4 _ rfl; (with_reducible repeat (first | refine blk_drewN ?_ _ | refine blk_drew ?_ | refine blk_alloc ?_ _)); refine blk_put (cs := #[.int .i64 ((rd_T26 l0_0 (ji51)).f0), .int .i64 ((rd_T26 l0_0 (ji51)).f1), .int .i64 ((rd_T26 l0_0 (ji51)).f2), .int .i64 ((rd_T26 l0_0 (ji51)).f3), .int .i64 ((rd_T26 l0_0 (ji51)).f4)]) ?_ 3 _ rfl; (with_reducible repeat (first | refine blk_drewN ?_ _ | refine blk_drew ?_ | refine blk_alloc ?_ _)); exact BK413.out) hb); have n3_ := Aside0.mk (below_step (by repeat (first | (with_reducible first | exact HB.out | apply below_alloc | apply pw_below_drewN | apply below_drew1 | refine below_set ?_ GE408.out | refine below_set ?_ GE413.out) | exact HB.out)) hb); clear BK408; clear BK413; clear HB; have HO416 := n0_; have BK408 := n1_; have BK413 := n2_; have HB := n3_; clear n0_ n1_ n2_ n3_; (try clear hb); (try clear hb2); (try clear hk); (try clear hi); (try clear ho0)) | ((with_reducible refine gate_dst (N := 13) rfl ?_); (try (refine gate_guard (by rfl) ?_; dsimp only)); refine box_event ?hg (N := 13) ?hd (cs := #[.slice none 0 0]) (t := 24) ?hr ?_; (case hd => rfl); (case hg => rfl); (case hr => first | (go_simp; done) | (go_simp; rfl)); intro gb418 hg w72 hbox hb; have n0_ := Aside0.mk (Kd.R_below (by (with_reducible repeat (first | apply Kd.R_alloc | apply Kd.R_drewN | apply Kd.R_drew)); exact HO416.out) hb); have n1_ := Aside0.mk (blk_below (g := gb408) (o := .cells #[.slice (some ad412) l0_0.length c0_0] 24 (0, 0)) (by (with_reducible repeat (first | refine blk_drewN ?_ _ | refine blk_drew ?_ | refine blk_alloc ?_ _)); exact BK408.out) hb); have n2_ := Aside0.mk (blk_below (g := gb413) (o := .cells #[.int .i64 ((rd_T26 l0_0 (ji51)).f0), .int .i64 ((rd_T26 l0_0 (ji51)).f1), .int .i64 ((rd_T26 l0_0 (ji51)).f2), .int .i64 a2, .int .i64 a3] 26 (0, 0)) (by (with_reducible repeat (first | refine blk_drewN ?_ _ | refine blk_drew ?_ | refine blk_alloc ?_ _)); exact BK413.out) hb); have n3_ := Aside0.mk (below_step (by repeat (first | (with_reducible first | exact HB.out | apply below_alloc | apply pw_below_drewN | apply below_drew1 | refine below_set ?_ GE408.out | refine below_set ?_ GE413.out) | exact HB.out)) hb); have n4_ := Aside0.mk (hbox); have n5_ := Aside0.mk ((by rw [hg]; exact (below_size (by repeat (first | (with_reducible first | exact HB.out | apply below_alloc | apply pw_below_drewN | apply below_drew1 | refine below_set ?_ GE408.out | refine below_set ?_ GE413.out) | exact HB.out))) : w.heap.size ≤ gb418)); have n6_ := Aside0.mk ((by rw [hg]; exact (below_size (by repeat (first | (with_reducible first | exact HB.out | apply below_alloc | apply pw_below_drewN | apply below_drew1 | refine below_set ?_ GE408.out | refine below_set ?_ GE413.out) | exact HB.out))) : w.heap.size ≤ gb418)); have n7_ := Aside0.mk ((by rw [hg]; exact Nat.ne_of_lt (blk_lt (g := gb408) (o := .cells #[.slice (some ad412) l0_0.length c0_0] 24 (0, 0)) (by (with_reducible repeat (first | refine blk_drewN ?_ _ | refine blk_drew ?_ | refine blk_alloc ?_ _)); exact BK408.out)) : gb408 ≠ gb418)); have n8_ := Aside0.mk ((by rw [hg]; exact Nat.ne_of_gt (blk_lt (g := gb408) (o := .cells #[.slice (some ad412) l0_0.length c0_0] 24 (0, 0)) (by (with_reducible repeat (first | refine blk_drewN ?_ _ | refine blk_drew ?_ | refine blk_alloc ?_ _)); exact BK408.out)) : gb418 ≠ gb408)); have n9_ := Aside0.mk ((by rw [hg]; exact Nat.ne_of_lt (blk_lt (g := gb413) (o := .cells #[.int .i64 ((rd_T26 l0_0 (ji51)).f0), .int .i64 ((rd_T26 l0_0 (ji51)).f1), .int .i64 ((rd_T26 l0_0 (ji51)).f2), .int .i64 a2, .int .i64 a3] 26 (0, 0)) (by (with_reducible repeat (first | refine blk_drewN ?_ _ | refine blk_drew ?_ | refine blk_alloc ?_ _)); exact BK413.out)) : gb413 ≠ gb418)); have n10_ := Aside0.mk ((by rw [hg]; exact Nat.ne_of_gt (blk_lt (g := gb413) (o := .cells #[.int .i64 ((rd_T26 l0_0 (ji51)).f0), .int .i64 ((rd_T26 l0_0 (ji51)).f1), .int .i64 ((rd_T26 l0_0 (ji51)).f2), .int .i64 a2, .int .i64 a3] 26 (0, 0)) (by (with_reducible repeat (first | refine blk_drewN ?_ _ | refine blk_drew ?_ | refine blk_alloc ?_ _)); exact BK413.out)) : gb418 ≠ gb413)); clear HO416; clear BK408; clear BK413; clear HB; have HO416 := n0_; have BK408 := n1_; have BK413 := n2_; have HB := n3_; have BK418 := n4_; have GW418 := n5_; have GE418 := n6_; have NB408_418 := n7_; have NB418_408 := n8_; have NB413_418 := n9_; have NB418_413 := n10_; clear n0_ n1_ n2_ n3_ n4_ n5_ n6_ n7_ n8_ n9_ n10_; clear hb hbox hg; obtain ⟨Ao73, co73, eo73⟩ := Kd.R_slice HO416.out; subst eo73; have hnb74 := NB418_408.out; have hnc74 := NB408_418.out; have hnb75 := NB418_413.out; have hnc75 := NB413_418.out; have hcz76_0 : w72.cell? ⟨gb418, 0, none⟩ = some (.slice none 0 0) := (blk_cell BK418.out 0).trans rfl; have hfz76_0 := blk_frozen BK418.out 0))
          have n0_ : Aside0 (Kd.R k26 26 (w72.setCell ⟨gb418, 0, none⟩ (.slice Ao73 t414.length co73)) w.heap.size (fun k_ => k_ ≠ gb413) (.slice Ao73 t414.length co73) t414) := ⟨by (with_reducible repeat (first | apply Kd.R_alloc | apply Kd.R_drewN | apply Kd.R_drew)); exact Kd.R_mono (Kd.R_far (p := ⟨gb418, 0, none⟩) (Kd.R_types HO416.out BK418.out (by decide)) (fun _ hk => hk.2) (.slice Ao73 t414.length co73)) (fun _ hk => hk.1.2)⟩
          have n1_ : Aside0 ((w72.setCell ⟨gb418, 0, none⟩ (.slice Ao73 t414.length co73)).heap[gb408]? = some (.cells #[.slice (some ad412) l0_0.length c0_0] 24 (0, 0))) := ⟨by (with_reducible repeat (first | refine blk_drewN ?_ _ | refine blk_drew ?_ | refine blk_alloc ?_ _)); refine blk_far ?_ NB408_418.out _; (with_reducible repeat (first | refine blk_drewN ?_ _ | refine blk_drew ?_ | refine blk_alloc ?_ _)); exact BK408.out⟩
          have n2_ : Aside0 ((w72.setCell ⟨gb418, 0, none⟩ (.slice Ao73 t414.length co73)).heap[gb413]? = some (.cells #[.int .i64 ((rd_T26 l0_0 (ji51)).f0), .int .i64 ((rd_T26 l0_0 (ji51)).f1), .int .i64 ((rd_T26 l0_0 (ji51)).f2), .int .i64 a2, .int .i64 a3] 26 (0, 0))) := ⟨by (with_reducible repeat (first | refine blk_drewN ?_ _ | refine blk_drew ?_ | refine blk_alloc ?_ _)); refine blk_far ?_ NB413_418.out _; (with_reducible repeat (first | refine blk_drewN ?_ _ | refine blk_drew ?_ | refine blk_alloc ?_ _)); exact BK413.out⟩
          have n3_ : Aside0 ((w72.setCell ⟨gb418, 0, none⟩ (.slice Ao73 t414.length co73)).heap[gb418]? = some (.cells #[.slice Ao73 t414.length co73] 24 (0, 0))) := ⟨by (with_reducible repeat (first | refine blk_drewN ?_ _ | refine blk_drew ?_ | refine blk_alloc ?_ _)); refine blk_put (cs := #[.slice none 0 0]) ?_ 0 _ rfl; (with_reducible repeat (first | refine blk_drewN ?_ _ | refine blk_drew ?_ | refine blk_alloc ?_ _)); exact BK418.out⟩
          have n4_ : Aside0 (Below w.heap.size w (w72.setCell ⟨gb418, 0, none⟩ (.slice Ao73 t414.length co73))) := ⟨by repeat (first | (with_reducible first | exact HB.out | apply below_alloc | apply pw_below_drewN | apply below_drew1 | refine below_set ?_ GE408.out | refine below_set ?_ GE413.out | refine below_set ?_ GE418.out) | exact HB.out)⟩
          (try clear HO416)
          (try clear BK408)
          (try clear BK413)
          (try clear BK418)
          (try clear HB)
          generalize (w72.setCell ⟨gb418, 0, none⟩ (.slice Ao73 t414.length co73)) = w77 at n0_ n1_ n2_ n3_ n4_ ⊢
          have HO416 := n0_
          have BK408 := n1_
          have BK413 := n2_
          have BK418 := n3_
          have HB := n4_
          clear n0_ n1_ n2_ n3_ n4_
          have n0_ := Aside0.mk (Kd.R_drew HO416.out)
          have n1_ := Aside0.mk (blk_drew BK408.out)
          have n2_ := Aside0.mk (blk_drew BK413.out)
          have n3_ := Aside0.mk (blk_drew BK418.out)
          have n4_ := Aside0.mk (below_drew1 HB.out)
          clear HO416
          clear BK408
          clear BK413
          clear BK418
          clear HB
          have HO416 := n0_
          have BK408 := n1_
          have BK413 := n2_
          have BK418 := n3_
          have HB := n4_
          clear n0_ n1_ n2_ n3_ n4_
          refine start_ (n := 15) (S := fun w' => w'.cell? ⟨gb408, 0, none⟩ = some (.slice (some ad412) l0_0.length c0_0) ∧ w'.cell? ⟨gb413, 0, none⟩ = some (.int .i64 ((rd_T26 l0_0 (ji51)).f0)) ∧ w'.cell? ⟨gb413, 1, none⟩ = some (.int .i64 ((rd_T26 l0_0 (ji51)).f1)) ∧ w'.cell? ⟨gb413, 2, none⟩ = some (.int .i64 ((rd_T26 l0_0 (ji51)).f2)) ∧ w'.cell? ⟨gb413, 3, none⟩ = some (.int .i64 a2) ∧ w'.cell? ⟨gb413, 4, none⟩ = some (.int .i64 a3)) (ds := []) #[false, false, false, false, false, false, false, false, false, false, false, false, false, false, false] (by kernel_rfl) rfl rfl ⟨(blk_cell BK408.out 0).trans rfl, (blk_cell BK413.out 0).trans rfl, (blk_cell BK413.out 1).trans rfl, (blk_cell BK413.out 2).trans rfl, (blk_cell BK413.out 3).trans rfl, (blk_cell BK413.out 4).trans rfl⟩ (fun hHeld => ?_); refine with_tabW slotmeshlaw27_QueueTwice.tab7 slotmeshlaw27_QueueTwice.bits7 (fun HT_ HW_ => ?_)
          generalize w77.drew = w78 at HO416 BK408 BK413 BK418 HB hHeld ⊢
          refine pure_ (i := 1) (N := some 72) (v := ?_) (a' := ?_) #[false, true, false, false, false, false, false, false, false, false, false, false, false, false, false] rfl rfl (any_of HT_.out (by kernel_rfl)) (fun _ _ _ h => h) (Or.inl ⟨by rfl, ?_⟩) ?_ ?_
          rotate_left
          ·intro w'
           go_simp
           with_reducible rfl
          rotate_left
          ·simp only [Act.put, List.setIfInBounds_toArray, List.set_cons_zero, List.set_cons_succ, i64_w, i32_w]
           rfl
          refine pure_ (i := 3) (N := some 74) (v := ?_) (a' := ?_) #[false, true, false, true, false, false, false, false, false, false, false, false, false, false, false] rfl rfl (any_of HT_.out (by kernel_rfl)) (fun _ _ _ h => h) (Or.inl ⟨by rfl, ?_⟩) ?_ ?_
          rotate_left
          ·intro w'
           go_simp
           with_reducible rfl
          rotate_left
          ·simp only [Act.put, List.setIfInBounds_toArray, List.set_cons_zero, List.set_cons_succ, i64_w, i32_w]
           rfl
          refine pure_ (i := 7) (N := some 78) (v := ?_) (a' := ?_) #[false, true, false, true, false, false, false, true, false, false, false, false, false, false, false] rfl rfl (any_of HT_.out (by kernel_rfl)) (fun _ _ _ h => h) (Or.inl ⟨by rfl, ?_⟩) ?_ ?_
          rotate_left
          ·intro w'
           go_simp
           with_reducible rfl
          rotate_left
          ·simp only [Act.put, List.setIfInBounds_toArray, List.set_cons_zero, List.set_cons_succ, i64_w, i32_w]
           rfl
          refine take_ (i := 0) (N := some 71) (v := ?_) (a' := ?_) #[true, true, false, true, false, false, false, true, false, false, false, false, false, false, false] rfl rfl (take_ofW HT_.out HW_.out (by kernel_rfl)) (fun _ _ _ h => h) (Or.inl ⟨by rfl, ?_⟩) hHeld ?_ ?_
          rotate_left
          ·rintro w' ⟨s0, s1, s2, s3, s4, s5⟩
           go_simp
           with_reducible rfl
          rotate_left
          ·simp only [Act.put, List.setIfInBounds_toArray, List.set_cons_zero, List.set_cons_succ, i64_w, i32_w]
           rfl
          refine take_ (i := 2) (N := some 73) (v := ?_) (a' := ?_) #[true, true, true, true, false, false, false, true, false, false, false, false, false, false, false] rfl rfl (take_ofW HT_.out HW_.out (by kernel_rfl)) (fun _ _ _ h => h) (Or.inl ⟨by rfl, ?_⟩) hHeld ?_ ?_
          rotate_left
          ·rintro w' ⟨s0, s1, s2, s3, s4, s5⟩
           go_simp
           with_reducible rfl
          rotate_left
          ·simp only [Act.put, List.setIfInBounds_toArray, List.set_cons_zero, List.set_cons_succ, i64_w, i32_w]
           rfl
          refine take_ (i := 4) (N := some 75) (v := ?_) (a' := ?_) #[true, true, true, true, true, false, false, true, false, false, false, false, false, false, false] rfl rfl (take_ofW HT_.out HW_.out (by kernel_rfl)) (fun _ _ _ h => h) (Or.inl ⟨by rfl, ?_⟩) hHeld ?_ ?_
          rotate_left
          ·rintro w' ⟨s0, s1, s2, s3, s4, s5⟩
           go_simp
           with_reducible rfl
          rotate_left
          ·simp only [Act.put, List.setIfInBounds_toArray, List.set_cons_zero, List.set_cons_succ, i64_w, i32_w]
           rfl
          refine take_ (i := 6) (N := some 77) (v := ?_) (a' := ?_) #[true, true, true, true, true, false, true, true, false, false, false, false, false, false, false] rfl rfl (take_ofW HT_.out HW_.out (by kernel_rfl)) (fun _ _ _ h => h) (Or.inl ⟨by rfl, ?_⟩) hHeld ?_ ?_
          rotate_left
          ·rintro w' ⟨s0, s1, s2, s3, s4, s5⟩
           go_simp
           with_reducible rfl
          rotate_left
          ·simp only [Act.put, List.setIfInBounds_toArray, List.set_cons_zero, List.set_cons_succ, i64_w, i32_w]
           rfl
          refine join_ (σ := Value × Value × Nat) 2 #[true, true, true, true, true, true, true, true, true, true, true, true, true, false, false] (fun s_ => [(76, .agg #[s_.1]), (79, .tuple #[.agg #[s_.2.1], .int .i64 t425]), (15, .pointer (some ⟨s_.2.2, 0, none⟩)), (70, .tuple #[.agg #[s_.2.1], .int .i64 t425]), (80, .agg #[s_.2.1]), (81, .int .i64 t425)]) (fun s_ w' => (w'.cell? ⟨gb408, 0, none⟩ = some (.slice (some ad412) l0_0.length c0_0) ∧ w'.cell? ⟨gb413, 0, none⟩ = some (.int .i64 ((rd_T26 l0_0 (ji51)).f0)) ∧ w'.cell? ⟨gb413, 1, none⟩ = some (.int .i64 ((rd_T26 l0_0 (ji51)).f1)) ∧ w'.cell? ⟨gb413, 2, none⟩ = some (.int .i64 ((rd_T26 l0_0 (ji51)).f2)) ∧ w'.cell? ⟨gb413, 3, none⟩ = some (.int .i64 a2) ∧ w'.cell? ⟨gb413, 4, none⟩ = some (.int .i64 a3)) ∧ (Kd.R k26 26 w' w.heap.size (fun k_ => some k_ ≠ (s_.1 : Value).ownBlock ∧ some k_ ≠ (s_.2.1 : Value).ownBlock ∧ k_ ≠ gb413) (.slice Ao73 t414.length co73) t414) ∧ (Kd.R k26 26 w' w.heap.size (fun k_ => some k_ ≠ (.slice Ao73 t414.length co73 : Value).ownBlock ∧ some k_ ≠ (s_.2.1 : Value).ownBlock ∧ k_ ≠ gb413) s_.1 t419) ∧ (Kd.R k26 26 w' w.heap.size (fun k_ => some k_ ≠ (.slice Ao73 t414.length co73 : Value).ownBlock ∧ some k_ ≠ (s_.1 : Value).ownBlock ∧ k_ ≠ gb413) s_.2.1 t422) ∧ (w'.heap[gb408]? = some (.cells #[.slice (some ad412) l0_0.length c0_0] 24 (0, 0))) ∧ (w'.heap[gb413]? = some (.cells #[.int .i64 ((rd_T26 l0_0 (ji51)).f0), .int .i64 ((rd_T26 l0_0 (ji51)).f1), .int .i64 ((rd_T26 l0_0 (ji51)).f2), .int .i64 a2, .int .i64 a3] 26 (0, 0))) ∧ (w'.heap[gb418]? = some (.cells #[.slice Ao73 t414.length co73] 24 (0, 0))) ∧ (w'.heap[s_.2.2]? = some (.cells #[.slice none 0 0] 24 (0, 0))) ∧ (w.heap.size ≤ s_.2.2) ∧ (w.heap.size ≤ s_.2.2) ∧ (gb408 ≠ s_.2.2) ∧ (s_.2.2 ≠ gb408) ∧ (gb413 ≠ s_.2.2) ∧ (s_.2.2 ≠ gb413) ∧ (gb418 ≠ s_.2.2) ∧ (s_.2.2 ≠ gb418) ∧ (Below w.heap.size w w')) ?_ ?_
          rotate_left
          ·intro hCont
           refine two_ (i := 5) (j := 12) (Ni := some 76) (Nj := some 15) #[true, true, true, true, true, true, true, true, false, false, false, false, false, false, false] #[true, true, true, true, true, false, true, true, false, false, false, false, true, false, false] rfl rfl rfl rfl (two_of HT_.out (by kernel_rfl)) (by decide) (by decide) (fun K hK => ?_) (fun K hK => ?_)
           ·skip
            refine goes_ Try.func16 (by kernel_rfl) rfl #[.agg #[.slice (some ad412) l0_0.length c0_0], .int .i64 ((rd_T26 l0_0 (ji51)).f0), .int .i64 ((rd_T26 l0_0 (ji51)).f1)] (by rfl) rfl rfl (by (try simp only [List.map_toArray, List.map_cons, List.map_nil]); first | done | (simp only [hji51]; rfl) | rfl | (simp only [List.length_drop, List.length_take]; rfl)) ?_
            with_reducible refine (queue_Drop.calls kj6 (fun k_ => k_ < w.heap.size) _ _ l0_0 ((rd_T26 l0_0 (ji51)).f0) ((rd_T26 l0_0 (ji51)).f1) t419 _ ?side1 A55.out).mono ?_
            (case side1 => exact Kd.V_mk HC0_0.out (Kd.F_below (Kd.C_F k26_heap HR0_0.out) HB.out))
            rintro e w79 ⟨v420, rfl, ho0, hb⟩
            refine ⟨_, rfl, ?_⟩
            have n0_ := Aside0.mk (Kd.R_elder' HO416.out (Kd.R_base ho0) hb)
            have n1_ := Aside0.mk (Kd.R_lower (Kd.R_newB (Kd.R_new' (Kd.R_mono (ok' := fun k_ => True) ho0 (fun _ hk_ => trivial)) (Kd.R_lt HO416.out)) (g := gb413) (o := .cells #[.int .i64 ((rd_T26 l0_0 (ji51)).f0), .int .i64 ((rd_T26 l0_0 (ji51)).f1), .int .i64 ((rd_T26 l0_0 (ji51)).f2), .int .i64 a2, .int .i64 a3] 26 (0, 0)) BK413.out) (below_size HB.out))
            have n2_ := Aside0.mk (blk_below (g := gb408) (o := .cells #[.slice (some ad412) l0_0.length c0_0] 24 (0, 0)) BK408.out hb)
            have n3_ := Aside0.mk (blk_below (g := gb413) (o := .cells #[.int .i64 ((rd_T26 l0_0 (ji51)).f0), .int .i64 ((rd_T26 l0_0 (ji51)).f1), .int .i64 ((rd_T26 l0_0 (ji51)).f2), .int .i64 a2, .int .i64 a3] 26 (0, 0)) BK413.out hb)
            have n4_ := Aside0.mk (blk_below (g := gb418) (o := .cells #[.slice Ao73 t414.length co73] 24 (0, 0)) BK418.out hb)
            have n5_ := Aside0.mk (below_step HB.out hb)
            clear HO416
            clear BK408
            clear BK413
            clear BK418
            clear HB
            have HO416 := n0_
            have HO421 := n1_
            have BK408 := n2_
            have BK413 := n3_
            have BK418 := n4_
            have HB := n5_
            clear n0_ n1_ n2_ n3_ n4_ n5_
            (try clear hb)
            (try clear hb2)
            (try clear hk)
            (try clear hi)
            (try clear ho0)
            obtain ⟨Ao80, co80, eo80⟩ := Kd.R_slice HO421.out
            (first | subst eo80 | (injection eo80 with f1_ f2_ f3_; have f4_ := f1_.symm; have f5_ := f3_.symm; clear f1_ f2_ f3_; subst f4_; subst f5_))
            refine hK.out _ _ ⟨(blk_cell BK408.out 0).trans rfl, (blk_cell BK413.out 0).trans rfl, (blk_cell BK413.out 1).trans rfl, (blk_cell BK413.out 2).trans rfl, (blk_cell BK413.out 3).trans rfl, (blk_cell BK413.out 4).trans rfl⟩ (fun hHeld => ?_)
            clear hK K
            refine norm_ (a' := ?_) ?_ ?_
            rotate_left
            ·show Act.put _ (some 76) _ = _
             simp only [Act.put, List.setIfInBounds_toArray, List.set_cons_zero, List.set_cons_succ, i64_w, i32_w]
             rfl
            refine two_ (i := 8) (j := 12) (Ni := some 79) (Nj := some 15) #[true, true, true, true, true, true, true, true, true, false, false, false, false, false, false] #[true, true, true, true, true, true, true, true, false, false, false, false, true, false, false] rfl rfl rfl rfl (two_of HT_.out (by kernel_rfl)) (by decide) (by decide) (fun K hK => ?_) (fun K hK => ?_)
            ·skip
             refine goes_ Try.func11 (by kernel_rfl) rfl #[.agg #[.slice Ao80 t419.length co80], .agg #[.int .i64 ((rd_T26 l0_0 (ji51)).f0), .int .i64 ((rd_T26 l0_0 (ji51)).f1), .int .i64 ((rd_T26 l0_0 (ji51)).f2), .int .i64 a2, .int .i64 a3], .int .i64 a4] (by rfl) rfl rfl (by (try simp only [List.map_toArray, List.map_cons, List.map_nil]); first | done | (simp only [hji51]; rfl) | rfl | (simp only [List.length_drop, List.length_take]; rfl)) ?_
             with_reducible refine (queue_Put.calls kj6 _ _ t419 ((rd_T26 l0_0 (ji51)).f0) ((rd_T26 l0_0 (ji51)).f1) ((rd_T26 l0_0 (ji51)).f2) a2 a3 a4 t422 t425 _ ?side1 ?side2 A56.out).mono ?_
             (case side1 => repeat (first | exact (Kd.R_reads' HO421.out).2.2 | (with_reducible refine Kd.C_alloc ?_ _) | (with_reducible refine Kd.C_drewN ?_ _) | (with_reducible refine Kd.C_drew ?_)))
             (case side2 => exact (Kd.R_reads' HO421.out).2.1)
             rintro e w81 ⟨v423, rfl, ho0, hb⟩
             refine ⟨_, rfl, ?_⟩
             have n0_ := Aside0.mk (Kd.R_elder' HO416.out (Kd.R_base ho0) hb)
             have n1_ := Aside0.mk (Kd.R_elder' HO421.out (Kd.R_base ho0) hb)
             have n2_ := Aside0.mk (Kd.R_lower (Kd.R_newB (Kd.R_new' (Kd.R_new' ho0 (Kd.R_lt HO416.out)) (Kd.R_lt HO421.out)) (g := gb413) (o := .cells #[.int .i64 ((rd_T26 l0_0 (ji51)).f0), .int .i64 ((rd_T26 l0_0 (ji51)).f1), .int .i64 ((rd_T26 l0_0 (ji51)).f2), .int .i64 a2, .int .i64 a3] 26 (0, 0)) BK413.out) (below_size HB.out))
             have n3_ := Aside0.mk (blk_below (g := gb408) (o := .cells #[.slice (some ad412) l0_0.length c0_0] 24 (0, 0)) BK408.out hb)
             have n4_ := Aside0.mk (blk_below (g := gb413) (o := .cells #[.int .i64 ((rd_T26 l0_0 (ji51)).f0), .int .i64 ((rd_T26 l0_0 (ji51)).f1), .int .i64 ((rd_T26 l0_0 (ji51)).f2), .int .i64 a2, .int .i64 a3] 26 (0, 0)) BK413.out hb)
             have n5_ := Aside0.mk (blk_below (g := gb418) (o := .cells #[.slice Ao73 t414.length co73] 24 (0, 0)) BK418.out hb)
             have n6_ := Aside0.mk (below_step HB.out hb)
             clear HO416
             clear HO421
             clear BK408
             clear BK413
             clear BK418
             clear HB
             have HO416 := n0_
             have HO421 := n1_
             have HO424 := n2_
             have BK408 := n3_
             have BK413 := n4_
             have BK418 := n5_
             have HB := n6_
             clear n0_ n1_ n2_ n3_ n4_ n5_ n6_
             (try clear hb)
             (try clear hb2)
             (try clear hk)
             (try clear hi)
             (try clear ho0)
             refine hK.out _ _ ⟨(blk_cell BK408.out 0).trans rfl, (blk_cell BK413.out 0).trans rfl, (blk_cell BK413.out 1).trans rfl, (blk_cell BK413.out 2).trans rfl, (blk_cell BK413.out 3).trans rfl, (blk_cell BK413.out 4).trans rfl⟩ (fun hHeld => ?_)
             clear hK K
             refine norm_ (a' := ?_) ?_ ?_
             rotate_left
             ·show Act.put _ (some 79) _ = _
              simp only [Act.put, List.setIfInBounds_toArray, List.set_cons_zero, List.set_cons_succ, i64_w, i32_w]
              rfl
             refine pure_ (i := 9) (N := some 70) (v := ?_) (a' := ?_) #[true, true, true, true, true, true, true, true, true, true, false, false, false, false, false] rfl rfl (any_of HT_.out (by kernel_rfl)) (fun _ _ _ h => h) (Or.inl ⟨by rfl, ?_⟩) ?_ ?_
             rotate_left
             ·intro w'
              go_simp
              with_reducible rfl
             rotate_left
             ·simp only [Act.put, List.setIfInBounds_toArray, List.set_cons_zero, List.set_cons_succ, i64_w, i32_w]
              rfl
             refine pure_ (i := 10) (N := some 80) (v := ?_) (a' := ?_) #[true, true, true, true, true, true, true, true, true, true, true, false, false, false, false] rfl rfl (any_of HT_.out (by kernel_rfl)) (fun _ _ _ h => h) (Or.inl ⟨by rfl, ?_⟩) ?_ ?_
             rotate_left
             ·intro w'
              go_simp
              with_reducible rfl
             rotate_left
             ·simp only [Act.put, List.setIfInBounds_toArray, List.set_cons_zero, List.set_cons_succ, i64_w, i32_w]
              rfl
             refine pure_ (i := 11) (N := some 81) (v := ?_) (a' := ?_) #[true, true, true, true, true, true, true, true, true, true, true, true, false, false, false] rfl rfl (any_of HT_.out (by kernel_rfl)) (fun _ _ _ h => h) (Or.inl ⟨by rfl, ?_⟩) ?_ ?_
             rotate_left
             ·intro w'
              go_simp
              with_reducible rfl
             rotate_left
             ·simp only [Act.put, List.setIfInBounds_toArray, List.set_cons_zero, List.set_cons_succ, i64_w, i32_w]
              rfl
             refine one_ (i := 12) (N := some 15) #[true, true, true, true, true, true, true, true, true, true, true, true, true, false, false] rfl rfl (one_of HT_.out (by kernel_rfl)) (by decide) (fun K hK => ?_)
             refine box_step ?hg (N := 15) ?hd (cs := #[.slice none 0 0]) (t := 24) ?hr ?_; (case hd => rfl); (case hg => rfl); (case hr => first | (go_simp; done) | (go_simp; rfl))
             intro gb426 hg w82 hbox hb
             have n0_ := Aside0.mk (Kd.R_below HO416.out hb)
             have n1_ := Aside0.mk (Kd.R_below HO421.out hb)
             have n2_ := Aside0.mk (Kd.R_below HO424.out hb)
             have n3_ := Aside0.mk (blk_below (g := gb408) (o := .cells #[.slice (some ad412) l0_0.length c0_0] 24 (0, 0)) BK408.out hb)
             have n4_ := Aside0.mk (blk_below (g := gb413) (o := .cells #[.int .i64 ((rd_T26 l0_0 (ji51)).f0), .int .i64 ((rd_T26 l0_0 (ji51)).f1), .int .i64 ((rd_T26 l0_0 (ji51)).f2), .int .i64 a2, .int .i64 a3] 26 (0, 0)) BK413.out hb)
             have n5_ := Aside0.mk (blk_below (g := gb418) (o := .cells #[.slice Ao73 t414.length co73] 24 (0, 0)) BK418.out hb)
             have n6_ := Aside0.mk (below_step HB.out hb)
             have n7_ := Aside0.mk (hbox)
             have n8_ := Aside0.mk ((by rw [hg]; exact (below_size HB.out) : w.heap.size ≤ gb426))
             have n9_ := Aside0.mk ((by rw [hg]; exact (below_size HB.out) : w.heap.size ≤ gb426))
             have n10_ := Aside0.mk ((by rw [hg]; exact Nat.ne_of_lt (blk_lt (g := gb408) (o := .cells #[.slice (some ad412) l0_0.length c0_0] 24 (0, 0)) BK408.out) : gb408 ≠ gb426))
             have n11_ := Aside0.mk ((by rw [hg]; exact Nat.ne_of_gt (blk_lt (g := gb408) (o := .cells #[.slice (some ad412) l0_0.length c0_0] 24 (0, 0)) BK408.out) : gb426 ≠ gb408))
             have n12_ := Aside0.mk ((by rw [hg]; exact Nat.ne_of_lt (blk_lt (g := gb413) (o := .cells #[.int .i64 ((rd_T26 l0_0 (ji51)).f0), .int .i64 ((rd_T26 l0_0 (ji51)).f1), .int .i64 ((rd_T26 l0_0 (ji51)).f2), .int .i64 a2, .int .i64 a3] 26 (0, 0)) BK413.out) : gb413 ≠ gb426))
             have n13_ := Aside0.mk ((by rw [hg]; exact Nat.ne_of_gt (blk_lt (g := gb413) (o := .cells #[.int .i64 ((rd_T26 l0_0 (ji51)).f0), .int .i64 ((rd_T26 l0_0 (ji51)).f1), .int .i64 ((rd_T26 l0_0 (ji51)).f2), .int .i64 a2, .int .i64 a3] 26 (0, 0)) BK413.out) : gb426 ≠ gb413))
             have n14_ := Aside0.mk ((by rw [hg]; exact Nat.ne_of_lt (blk_lt (g := gb418) (o := .cells #[.slice Ao73 t414.length co73] 24 (0, 0)) BK418.out) : gb418 ≠ gb426))
             have n15_ := Aside0.mk ((by rw [hg]; exact Nat.ne_of_gt (blk_lt (g := gb418) (o := .cells #[.slice Ao73 t414.length co73] 24 (0, 0)) BK418.out) : gb426 ≠ gb418))
             clear HO416
             clear HO421
             clear HO424
             clear BK408
             clear BK413
             clear BK418
             clear HB
             have HO416 := n0_
             have HO421 := n1_
             have HO424 := n2_
             have BK408 := n3_
             have BK413 := n4_
             have BK418 := n5_
             have HB := n6_
             have BK426 := n7_
             have GW426 := n8_
             have GE426 := n9_
             have NB408_426 := n10_
             have NB426_408 := n11_
             have NB413_426 := n12_
             have NB426_413 := n13_
             have NB418_426 := n14_
             have NB426_418 := n15_
             clear n0_ n1_ n2_ n3_ n4_ n5_ n6_ n7_ n8_ n9_ n10_ n11_ n12_ n13_ n14_ n15_
             clear hb hbox hg
             refine hK.out _ _ ⟨(blk_cell BK408.out 0).trans rfl, (blk_cell BK413.out 0).trans rfl, (blk_cell BK413.out 1).trans rfl, (blk_cell BK413.out 2).trans rfl, (blk_cell BK413.out 3).trans rfl, (blk_cell BK413.out 4).trans rfl⟩ (fun hHeld => ?_)
             clear hK K
             refine norm_ (a' := ?_) ?_ ?_
             rotate_left
             ·show Act.put _ (some 15) _ = _
              simp only [Act.put, List.setIfInBounds_toArray, List.set_cons_zero, List.set_cons_succ, i64_w, i32_w]
              rfl
             exact norm_ (by simp only [putAll, Act.put, List.setIfInBounds_toArray, List.set_cons_zero, List.set_cons_succ]) (hCont (.slice Ao80 t419.length co80, v423, gb426) _ ⟨hHeld, (by (with_reducible repeat (first | apply Kd.R_alloc | apply Kd.R_drewN | apply Kd.R_drew)); exact Kd.R_mono HO416.out (fun _ hk => ⟨hk.1.2, ⟨hk.2, hk.1.1⟩⟩)), (by (with_reducible repeat (first | apply Kd.R_alloc | apply Kd.R_drewN | apply Kd.R_drew)); exact Kd.R_mono HO421.out (fun _ hk => ⟨hk.1.1.2, ⟨hk.2, hk.1.2⟩⟩)), (by (with_reducible repeat (first | apply Kd.R_alloc | apply Kd.R_drewN | apply Kd.R_drew)); exact Kd.R_mono HO424.out (fun _ hk => ⟨hk.1.1.2, ⟨hk.1.2, hk.2⟩⟩)), BK408.out, BK413.out, BK418.out, BK426.out, GW426.out, GE426.out, NB408_426.out, NB426_408.out, NB413_426.out, NB426_413.out, NB418_426.out, NB426_418.out, HB.out⟩)
            ·skip
             refine box_step ?hg (N := 15) ?hd (cs := #[.slice none 0 0]) (t := 24) ?hr ?_; (case hd => rfl); (case hg => rfl); (case hr => first | (go_simp; done) | (go_simp; rfl))
             intro gb426 hg w80 hbox hb
             have n0_ := Aside0.mk (Kd.R_below HO416.out hb)
             have n1_ := Aside0.mk (Kd.R_below HO421.out hb)
             have n2_ := Aside0.mk (blk_below (g := gb408) (o := .cells #[.slice (some ad412) l0_0.length c0_0] 24 (0, 0)) BK408.out hb)
             have n3_ := Aside0.mk (blk_below (g := gb413) (o := .cells #[.int .i64 ((rd_T26 l0_0 (ji51)).f0), .int .i64 ((rd_T26 l0_0 (ji51)).f1), .int .i64 ((rd_T26 l0_0 (ji51)).f2), .int .i64 a2, .int .i64 a3] 26 (0, 0)) BK413.out hb)
             have n4_ := Aside0.mk (blk_below (g := gb418) (o := .cells #[.slice Ao73 t414.length co73] 24 (0, 0)) BK418.out hb)
             have n5_ := Aside0.mk (below_step HB.out hb)
             have n6_ := Aside0.mk (hbox)
             have n7_ := Aside0.mk ((by rw [hg]; exact (below_size HB.out) : w.heap.size ≤ gb426))
             have n8_ := Aside0.mk ((by rw [hg]; exact (below_size HB.out) : w.heap.size ≤ gb426))
             have n9_ := Aside0.mk ((by rw [hg]; exact Nat.ne_of_lt (blk_lt (g := gb408) (o := .cells #[.slice (some ad412) l0_0.length c0_0] 24 (0, 0)) BK408.out) : gb408 ≠ gb426))
             have n10_ := Aside0.mk ((by rw [hg]; exact Nat.ne_of_gt (blk_lt (g := gb408) (o := .cells #[.slice (some ad412) l0_0.length c0_0] 24 (0, 0)) BK408.out) : gb426 ≠ gb408))
             have n11_ := Aside0.mk ((by rw [hg]; exact Nat.ne_of_lt (blk_lt (g := gb413) (o := .cells #[.int .i64 ((rd_T26 l0_0 (ji51)).f0), .int .i64 ((rd_T26 l0_0 (ji51)).f1), .int .i64 ((rd_T26 l0_0 (ji51)).f2), .int .i64 a2, .int .i64 a3] 26 (0, 0)) BK413.out) : gb413 ≠ gb426))
             have n12_ := Aside0.mk ((by rw [hg]; exact Nat.ne_of_gt (blk_lt (g := gb413) (o := .cells #[.int .i64 ((rd_T26 l0_0 (ji51)).f0), .int .i64 ((rd_T26 l0_0 (ji51)).f1), .int .i64 ((rd_T26 l0_0 (ji51)).f2), .int .i64 a2, .int .i64 a3] 26 (0, 0)) BK413.out) : gb426 ≠ gb413))
             have n13_ := Aside0.mk ((by rw [hg]; exact Nat.ne_of_lt (blk_lt (g := gb418) (o := .cells #[.slice Ao73 t414.length co73] 24 (0, 0)) BK418.out) : gb418 ≠ gb426))
             have n14_ := Aside0.mk ((by rw [hg]; exact Nat.ne_of_gt (blk_lt (g := gb418) (o := .cells #[.slice Ao73 t414.length co73] 24 (0, 0)) BK418.out) : gb426 ≠ gb418))
             clear HO416
             clear HO421
             clear BK408
             clear BK413
             clear BK418
             clear HB
             have HO416 := n0_
             have HO421 := n1_
             have BK408 := n2_
             have BK413 := n3_
             have BK418 := n4_
             have HB := n5_
             have BK426 := n6_
             have GW426 := n7_
             have GE426 := n8_
             have NB408_426 := n9_
             have NB426_408 := n10_
             have NB413_426 := n11_
             have NB426_413 := n12_
             have NB418_426 := n13_
             have NB426_418 := n14_
             clear n0_ n1_ n2_ n3_ n4_ n5_ n6_ n7_ n8_ n9_ n10_ n11_ n12_ n13_ n14_
             clear hb hbox hg
             obtain ⟨Ao81, co81, eo81⟩ := Kd.R_slice HO421.out
             (first | subst eo81 | (injection eo81 with f1_ f2_ f3_; have f4_ := f1_.symm; have f5_ := f3_.symm; clear f1_ f2_ f3_; subst f4_; subst f5_))
             refine hK.out _ _ ⟨(blk_cell BK408.out 0).trans rfl, (blk_cell BK413.out 0).trans rfl, (blk_cell BK413.out 1).trans rfl, (blk_cell BK413.out 2).trans rfl, (blk_cell BK413.out 3).trans rfl, (blk_cell BK413.out 4).trans rfl⟩ (fun hHeld => ?_)
             clear hK K
             refine norm_ (a' := ?_) ?_ ?_
             rotate_left
             ·show Act.put _ (some 15) _ = _
              simp only [Act.put, List.setIfInBounds_toArray, List.set_cons_zero, List.set_cons_succ, i64_w, i32_w]
              rfl
             refine one_ (i := 8) (N := some 79) #[true, true, true, true, true, true, true, true, true, false, false, false, true, false, false] rfl rfl (one_of HT_.out (by kernel_rfl)) (by decide) (fun K hK => ?_)
             refine goes_ Try.func11 (by kernel_rfl) rfl #[.agg #[.slice Ao81 t419.length co81], .agg #[.int .i64 ((rd_T26 l0_0 (ji51)).f0), .int .i64 ((rd_T26 l0_0 (ji51)).f1), .int .i64 ((rd_T26 l0_0 (ji51)).f2), .int .i64 a2, .int .i64 a3], .int .i64 a4] (by rfl) rfl rfl (by (try simp only [List.map_toArray, List.map_cons, List.map_nil]); first | done | (simp only [hji51]; rfl) | rfl | (simp only [List.length_drop, List.length_take]; rfl)) ?_
             with_reducible refine (queue_Put.calls kj6 _ _ t419 ((rd_T26 l0_0 (ji51)).f0) ((rd_T26 l0_0 (ji51)).f1) ((rd_T26 l0_0 (ji51)).f2) a2 a3 a4 t422 t425 _ ?side1 ?side2 A56.out).mono ?_
             (case side1 => repeat (first | exact (Kd.R_reads' HO421.out).2.2 | (with_reducible refine Kd.C_alloc ?_ _) | (with_reducible refine Kd.C_drewN ?_ _) | (with_reducible refine Kd.C_drew ?_)))
             (case side2 => exact (Kd.R_reads' HO421.out).2.1)
             rintro e w82 ⟨v423, rfl, ho0, hb⟩
             refine ⟨_, rfl, ?_⟩
             have n0_ := Aside0.mk (Kd.R_elder' HO416.out (Kd.R_base ho0) hb)
             have n1_ := Aside0.mk (Kd.R_elder' HO421.out (Kd.R_base ho0) hb)
             have n2_ := Aside0.mk (Kd.R_lower (Kd.R_newB (Kd.R_new' (Kd.R_new' ho0 (Kd.R_lt HO416.out)) (Kd.R_lt HO421.out)) (g := gb413) (o := .cells #[.int .i64 ((rd_T26 l0_0 (ji51)).f0), .int .i64 ((rd_T26 l0_0 (ji51)).f1), .int .i64 ((rd_T26 l0_0 (ji51)).f2), .int .i64 a2, .int .i64 a3] 26 (0, 0)) BK413.out) (below_size HB.out))
             have n3_ := Aside0.mk (blk_below (g := gb408) (o := .cells #[.slice (some ad412) l0_0.length c0_0] 24 (0, 0)) BK408.out hb)
             have n4_ := Aside0.mk (blk_below (g := gb413) (o := .cells #[.int .i64 ((rd_T26 l0_0 (ji51)).f0), .int .i64 ((rd_T26 l0_0 (ji51)).f1), .int .i64 ((rd_T26 l0_0 (ji51)).f2), .int .i64 a2, .int .i64 a3] 26 (0, 0)) BK413.out hb)
             have n5_ := Aside0.mk (blk_below (g := gb418) (o := .cells #[.slice Ao73 t414.length co73] 24 (0, 0)) BK418.out hb)
             have n6_ := Aside0.mk (blk_below (g := gb426) (o := .cells #[.slice none 0 0] 24 (0, 0)) BK426.out hb)
             have n7_ := Aside0.mk (below_step HB.out hb)
             clear HO416
             clear HO421
             clear BK408
             clear BK413
             clear BK418
             clear BK426
             clear HB
             have HO416 := n0_
             have HO421 := n1_
             have HO424 := n2_
             have BK408 := n3_
             have BK413 := n4_
             have BK418 := n5_
             have BK426 := n6_
             have HB := n7_
             clear n0_ n1_ n2_ n3_ n4_ n5_ n6_ n7_
             (try clear hb)
             (try clear hb2)
             (try clear hk)
             (try clear hi)
             (try clear ho0)
             refine hK.out _ _ ⟨(blk_cell BK408.out 0).trans rfl, (blk_cell BK413.out 0).trans rfl, (blk_cell BK413.out 1).trans rfl, (blk_cell BK413.out 2).trans rfl, (blk_cell BK413.out 3).trans rfl, (blk_cell BK413.out 4).trans rfl⟩ (fun hHeld => ?_)
             clear hK K
             refine norm_ (a' := ?_) ?_ ?_
             rotate_left
             ·show Act.put _ (some 79) _ = _
              simp only [Act.put, List.setIfInBounds_toArray, List.set_cons_zero, List.set_cons_succ, i64_w, i32_w]
              rfl
             refine pure_ (i := 9) (N := some 70) (v := ?_) (a' := ?_) #[true, true, true, true, true, true, true, true, true, true, false, false, true, false, false] rfl rfl (any_of HT_.out (by kernel_rfl)) (fun _ _ _ h => h) (Or.inl ⟨by rfl, ?_⟩) ?_ ?_
             rotate_left
             ·intro w'
              go_simp
              with_reducible rfl
             rotate_left
             ·simp only [Act.put, List.setIfInBounds_toArray, List.set_cons_zero, List.set_cons_succ, i64_w, i32_w]
              rfl
             refine pure_ (i := 10) (N := some 80) (v := ?_) (a' := ?_) #[true, true, true, true, true, true, true, true, true, true, true, false, true, false, false] rfl rfl (any_of HT_.out (by kernel_rfl)) (fun _ _ _ h => h) (Or.inl ⟨by rfl, ?_⟩) ?_ ?_
             rotate_left
             ·intro w'
              go_simp
              with_reducible rfl
             rotate_left
             ·simp only [Act.put, List.setIfInBounds_toArray, List.set_cons_zero, List.set_cons_succ, i64_w, i32_w]
              rfl
             refine pure_ (i := 11) (N := some 81) (v := ?_) (a' := ?_) #[true, true, true, true, true, true, true, true, true, true, true, true, true, false, false] rfl rfl (any_of HT_.out (by kernel_rfl)) (fun _ _ _ h => h) (Or.inl ⟨by rfl, ?_⟩) ?_ ?_
             rotate_left
             ·intro w'
              go_simp
              with_reducible rfl
             rotate_left
             ·simp only [Act.put, List.setIfInBounds_toArray, List.set_cons_zero, List.set_cons_succ, i64_w, i32_w]
              rfl
             exact norm_ (by simp only [putAll, Act.put, List.setIfInBounds_toArray, List.set_cons_zero, List.set_cons_succ]) (hCont (.slice Ao81 t419.length co81, v423, gb426) _ ⟨hHeld, (by (with_reducible repeat (first | apply Kd.R_alloc | apply Kd.R_drewN | apply Kd.R_drew)); exact Kd.R_mono HO416.out (fun _ hk => ⟨hk.1.2, ⟨hk.2, hk.1.1⟩⟩)), (by (with_reducible repeat (first | apply Kd.R_alloc | apply Kd.R_drewN | apply Kd.R_drew)); exact Kd.R_mono HO421.out (fun _ hk => ⟨hk.1.1.2, ⟨hk.2, hk.1.2⟩⟩)), (by (with_reducible repeat (first | apply Kd.R_alloc | apply Kd.R_drewN | apply Kd.R_drew)); exact Kd.R_mono HO424.out (fun _ hk => ⟨hk.1.1.2, ⟨hk.1.2, hk.2⟩⟩)), BK408.out, BK413.out, BK418.out, BK426.out, GW426.out, GE426.out, NB408_426.out, NB426_408.out, NB413_426.out, NB426_413.out, NB418_426.out, NB426_418.out, HB.out⟩)
           ·skip
            refine box_step ?hg (N := 15) ?hd (cs := #[.slice none 0 0]) (t := 24) ?hr ?_; (case hd => rfl); (case hg => rfl); (case hr => first | (go_simp; done) | (go_simp; rfl))
            intro gb426 hg w79 hbox hb
            have n0_ := Aside0.mk (Kd.R_below HO416.out hb)
            have n1_ := Aside0.mk (blk_below (g := gb408) (o := .cells #[.slice (some ad412) l0_0.length c0_0] 24 (0, 0)) BK408.out hb)
            have n2_ := Aside0.mk (blk_below (g := gb413) (o := .cells #[.int .i64 ((rd_T26 l0_0 (ji51)).f0), .int .i64 ((rd_T26 l0_0 (ji51)).f1), .int .i64 ((rd_T26 l0_0 (ji51)).f2), .int .i64 a2, .int .i64 a3] 26 (0, 0)) BK413.out hb)
            have n3_ := Aside0.mk (blk_below (g := gb418) (o := .cells #[.slice Ao73 t414.length co73] 24 (0, 0)) BK418.out hb)
            have n4_ := Aside0.mk (below_step HB.out hb)
            have n5_ := Aside0.mk (hbox)
            have n6_ := Aside0.mk ((by rw [hg]; exact (below_size HB.out) : w.heap.size ≤ gb426))
            have n7_ := Aside0.mk ((by rw [hg]; exact (below_size HB.out) : w.heap.size ≤ gb426))
            have n8_ := Aside0.mk ((by rw [hg]; exact Nat.ne_of_lt (blk_lt (g := gb408) (o := .cells #[.slice (some ad412) l0_0.length c0_0] 24 (0, 0)) BK408.out) : gb408 ≠ gb426))
            have n9_ := Aside0.mk ((by rw [hg]; exact Nat.ne_of_gt (blk_lt (g := gb408) (o := .cells #[.slice (some ad412) l0_0.length c0_0] 24 (0, 0)) BK408.out) : gb426 ≠ gb408))
            have n10_ := Aside0.mk ((by rw [hg]; exact Nat.ne_of_lt (blk_lt (g := gb413) (o := .cells #[.int .i64 ((rd_T26 l0_0 (ji51)).f0), .int .i64 ((rd_T26 l0_0 (ji51)).f1), .int .i64 ((rd_T26 l0_0 (ji51)).f2), .int .i64 a2, .int .i64 a3] 26 (0, 0)) BK413.out) : gb413 ≠ gb426))
            have n11_ := Aside0.mk ((by rw [hg]; exact Nat.ne_of_gt (blk_lt (g := gb413) (o := .cells #[.int .i64 ((rd_T26 l0_0 (ji51)).f0), .int .i64 ((rd_T26 l0_0 (ji51)).f1), .int .i64 ((rd_T26 l0_0 (ji51)).f2), .int .i64 a2, .int .i64 a3] 26 (0, 0)) BK413.out) : gb426 ≠ gb413))
            have n12_ := Aside0.mk ((by rw [hg]; exact Nat.ne_of_lt (blk_lt (g := gb418) (o := .cells #[.slice Ao73 t414.length co73] 24 (0, 0)) BK418.out) : gb418 ≠ gb426))
            have n13_ := Aside0.mk ((by rw [hg]; exact Nat.ne_of_gt (blk_lt (g := gb418) (o := .cells #[.slice Ao73 t414.length co73] 24 (0, 0)) BK418.out) : gb426 ≠ gb418))
            clear HO416
            clear BK408
            clear BK413
            clear BK418
            clear HB
            have HO416 := n0_
            have BK408 := n1_
            have BK413 := n2_
            have BK418 := n3_
            have HB := n4_
            have BK426 := n5_
            have GW426 := n6_
            have GE426 := n7_
            have NB408_426 := n8_
            have NB426_408 := n9_
            have NB413_426 := n10_
            have NB426_413 := n11_
            have NB418_426 := n12_
            have NB426_418 := n13_
            clear n0_ n1_ n2_ n3_ n4_ n5_ n6_ n7_ n8_ n9_ n10_ n11_ n12_ n13_
            clear hb hbox hg
            refine hK.out _ _ ⟨(blk_cell BK408.out 0).trans rfl, (blk_cell BK413.out 0).trans rfl, (blk_cell BK413.out 1).trans rfl, (blk_cell BK413.out 2).trans rfl, (blk_cell BK413.out 3).trans rfl, (blk_cell BK413.out 4).trans rfl⟩ (fun hHeld => ?_)
            clear hK K
            refine norm_ (a' := ?_) ?_ ?_
            rotate_left
            ·show Act.put _ (some 15) _ = _
             simp only [Act.put, List.setIfInBounds_toArray, List.set_cons_zero, List.set_cons_succ, i64_w, i32_w]
             rfl
            refine one_ (i := 5) (N := some 76) #[true, true, true, true, true, true, true, true, false, false, false, false, true, false, false] rfl rfl (one_of HT_.out (by kernel_rfl)) (by decide) (fun K hK => ?_)
            refine goes_ Try.func16 (by kernel_rfl) rfl #[.agg #[.slice (some ad412) l0_0.length c0_0], .int .i64 ((rd_T26 l0_0 (ji51)).f0), .int .i64 ((rd_T26 l0_0 (ji51)).f1)] (by rfl) rfl rfl (by (try simp only [List.map_toArray, List.map_cons, List.map_nil]); first | done | (simp only [hji51]; rfl) | rfl | (simp only [List.length_drop, List.length_take]; rfl)) ?_
            with_reducible refine (queue_Drop.calls kj6 (fun k_ => k_ < w.heap.size) _ _ l0_0 ((rd_T26 l0_0 (ji51)).f0) ((rd_T26 l0_0 (ji51)).f1) t419 _ ?side1 A55.out).mono ?_
            (case side1 => exact Kd.V_mk HC0_0.out (Kd.F_below (Kd.C_F k26_heap HR0_0.out) HB.out))
            rintro e w80 ⟨v420, rfl, ho0, hb⟩
            refine ⟨_, rfl, ?_⟩
            have n0_ := Aside0.mk (Kd.R_elder' HO416.out (Kd.R_base ho0) hb)
            have n1_ := Aside0.mk (Kd.R_lower (Kd.R_newB (Kd.R_new' (Kd.R_mono (ok' := fun k_ => True) ho0 (fun _ hk_ => trivial)) (Kd.R_lt HO416.out)) (g := gb413) (o := .cells #[.int .i64 ((rd_T26 l0_0 (ji51)).f0), .int .i64 ((rd_T26 l0_0 (ji51)).f1), .int .i64 ((rd_T26 l0_0 (ji51)).f2), .int .i64 a2, .int .i64 a3] 26 (0, 0)) BK413.out) (below_size HB.out))
            have n2_ := Aside0.mk (blk_below (g := gb408) (o := .cells #[.slice (some ad412) l0_0.length c0_0] 24 (0, 0)) BK408.out hb)
            have n3_ := Aside0.mk (blk_below (g := gb413) (o := .cells #[.int .i64 ((rd_T26 l0_0 (ji51)).f0), .int .i64 ((rd_T26 l0_0 (ji51)).f1), .int .i64 ((rd_T26 l0_0 (ji51)).f2), .int .i64 a2, .int .i64 a3] 26 (0, 0)) BK413.out hb)
            have n4_ := Aside0.mk (blk_below (g := gb418) (o := .cells #[.slice Ao73 t414.length co73] 24 (0, 0)) BK418.out hb)
            have n5_ := Aside0.mk (blk_below (g := gb426) (o := .cells #[.slice none 0 0] 24 (0, 0)) BK426.out hb)
            have n6_ := Aside0.mk (below_step HB.out hb)
            clear HO416
            clear BK408
            clear BK413
            clear BK418
            clear BK426
            clear HB
            have HO416 := n0_
            have HO421 := n1_
            have BK408 := n2_
            have BK413 := n3_
            have BK418 := n4_
            have BK426 := n5_
            have HB := n6_
            clear n0_ n1_ n2_ n3_ n4_ n5_ n6_
            (try clear hb)
            (try clear hb2)
            (try clear hk)
            (try clear hi)
            (try clear ho0)
            obtain ⟨Ao81, co81, eo81⟩ := Kd.R_slice HO421.out
            (first | subst eo81 | (injection eo81 with f1_ f2_ f3_; have f4_ := f1_.symm; have f5_ := f3_.symm; clear f1_ f2_ f3_; subst f4_; subst f5_))
            refine hK.out _ _ ⟨(blk_cell BK408.out 0).trans rfl, (blk_cell BK413.out 0).trans rfl, (blk_cell BK413.out 1).trans rfl, (blk_cell BK413.out 2).trans rfl, (blk_cell BK413.out 3).trans rfl, (blk_cell BK413.out 4).trans rfl⟩ (fun hHeld => ?_)
            clear hK K
            refine norm_ (a' := ?_) ?_ ?_
            rotate_left
            ·show Act.put _ (some 76) _ = _
             simp only [Act.put, List.setIfInBounds_toArray, List.set_cons_zero, List.set_cons_succ, i64_w, i32_w]
             rfl
            refine one_ (i := 8) (N := some 79) #[true, true, true, true, true, true, true, true, true, false, false, false, true, false, false] rfl rfl (one_of HT_.out (by kernel_rfl)) (by decide) (fun K hK => ?_)
            refine goes_ Try.func11 (by kernel_rfl) rfl #[.agg #[.slice Ao81 t419.length co81], .agg #[.int .i64 ((rd_T26 l0_0 (ji51)).f0), .int .i64 ((rd_T26 l0_0 (ji51)).f1), .int .i64 ((rd_T26 l0_0 (ji51)).f2), .int .i64 a2, .int .i64 a3], .int .i64 a4] (by rfl) rfl rfl (by (try simp only [List.map_toArray, List.map_cons, List.map_nil]); first | done | (simp only [hji51]; rfl) | rfl | (simp only [List.length_drop, List.length_take]; rfl)) ?_
            with_reducible refine (queue_Put.calls kj6 _ _ t419 ((rd_T26 l0_0 (ji51)).f0) ((rd_T26 l0_0 (ji51)).f1) ((rd_T26 l0_0 (ji51)).f2) a2 a3 a4 t422 t425 _ ?side1 ?side2 A56.out).mono ?_
            (case side1 => repeat (first | exact (Kd.R_reads' HO421.out).2.2 | (with_reducible refine Kd.C_alloc ?_ _) | (with_reducible refine Kd.C_drewN ?_ _) | (with_reducible refine Kd.C_drew ?_)))
            (case side2 => exact (Kd.R_reads' HO421.out).2.1)
            rintro e w82 ⟨v423, rfl, ho0, hb⟩
            refine ⟨_, rfl, ?_⟩
            have n0_ := Aside0.mk (Kd.R_elder' HO416.out (Kd.R_base ho0) hb)
            have n1_ := Aside0.mk (Kd.R_elder' HO421.out (Kd.R_base ho0) hb)
            have n2_ := Aside0.mk (Kd.R_lower (Kd.R_newB (Kd.R_new' (Kd.R_new' ho0 (Kd.R_lt HO416.out)) (Kd.R_lt HO421.out)) (g := gb413) (o := .cells #[.int .i64 ((rd_T26 l0_0 (ji51)).f0), .int .i64 ((rd_T26 l0_0 (ji51)).f1), .int .i64 ((rd_T26 l0_0 (ji51)).f2), .int .i64 a2, .int .i64 a3] 26 (0, 0)) BK413.out) (below_size HB.out))
            have n3_ := Aside0.mk (blk_below (g := gb408) (o := .cells #[.slice (some ad412) l0_0.length c0_0] 24 (0, 0)) BK408.out hb)
            have n4_ := Aside0.mk (blk_below (g := gb413) (o := .cells #[.int .i64 ((rd_T26 l0_0 (ji51)).f0), .int .i64 ((rd_T26 l0_0 (ji51)).f1), .int .i64 ((rd_T26 l0_0 (ji51)).f2), .int .i64 a2, .int .i64 a3] 26 (0, 0)) BK413.out hb)
            have n5_ := Aside0.mk (blk_below (g := gb418) (o := .cells #[.slice Ao73 t414.length co73] 24 (0, 0)) BK418.out hb)
            have n6_ := Aside0.mk (blk_below (g := gb426) (o := .cells #[.slice none 0 0] 24 (0, 0)) BK426.out hb)
            have n7_ := Aside0.mk (below_step (by repeat (first | (with_reducible first | exact HB.out | apply below_alloc | apply pw_below_drewN | apply below_drew1 | refine below_set ?_ GE408.out | refine below_set ?_ GE413.out | refine below_set ?_ GE418.out | refine below_set ?_ GE426.out) | exact HB.out)) hb)
            clear HO416
            clear HO421
            clear BK408
            clear BK413
            clear BK418
            clear BK426
            clear HB
            have HO416 := n0_
            have HO421 := n1_
            have HO424 := n2_
            have BK408 := n3_
            have BK413 := n4_
            have BK418 := n5_
            have BK426 := n6_
            have HB := n7_
            clear n0_ n1_ n2_ n3_ n4_ n5_ n6_ n7_
            (try clear hb)
            (try clear hb2)
            (try clear hk)
            (try clear hi)
            (try clear ho0)
            refine hK.out _ _ ⟨(blk_cell BK408.out 0).trans rfl, (blk_cell BK413.out 0).trans rfl, (blk_cell BK413.out 1).trans rfl, (blk_cell BK413.out 2).trans rfl, (blk_cell BK413.out 3).trans rfl, (blk_cell BK413.out 4).trans rfl⟩ (fun hHeld => ?_)
            clear hK K
            refine norm_ (a' := ?_) ?_ ?_
            rotate_left
            ·show Act.put _ (some 79) _ = _
             simp only [Act.put, List.setIfInBounds_toArray, List.set_cons_zero, List.set_cons_succ, i64_w, i32_w]
             rfl
            refine pure_ (i := 9) (N := some 70) (v := ?_) (a' := ?_) #[true, true, true, true, true, true, true, true, true, true, false, false, true, false, false] rfl rfl (any_of HT_.out (by kernel_rfl)) (fun _ _ _ h => h) (Or.inl ⟨by rfl, ?_⟩) ?_ ?_
            rotate_left
            ·intro w'
             go_simp
             with_reducible rfl
            rotate_left
            ·simp only [Act.put, List.setIfInBounds_toArray, List.set_cons_zero, List.set_cons_succ, i64_w, i32_w]
             rfl
            refine pure_ (i := 10) (N := some 80) (v := ?_) (a' := ?_) #[true, true, true, true, true, true, true, true, true, true, true, false, true, false, false] rfl rfl (any_of HT_.out (by kernel_rfl)) (fun _ _ _ h => h) (Or.inl ⟨by rfl, ?_⟩) ?_ ?_
            rotate_left
            ·intro w'
             go_simp
             with_reducible rfl
            rotate_left
            ·simp only [Act.put, List.setIfInBounds_toArray, List.set_cons_zero, List.set_cons_succ, i64_w, i32_w]
             rfl
            refine pure_ (i := 11) (N := some 81) (v := ?_) (a' := ?_) #[true, true, true, true, true, true, true, true, true, true, true, true, true, false, false] rfl rfl (any_of HT_.out (by kernel_rfl)) (fun _ _ _ h => h) (Or.inl ⟨by rfl, ?_⟩) ?_ ?_
            rotate_left
            ·intro w'
             go_simp
             with_reducible rfl
            rotate_left
            ·simp only [Act.put, List.setIfInBounds_toArray, List.set_cons_zero, List.set_cons_succ, i64_w, i32_w]
             rfl
            exact norm_ (by simp only [putAll, Act.put, List.setIfInBounds_toArray, List.set_cons_zero, List.set_cons_succ]) (hCont (.slice Ao81 t419.length co81, v423, gb426) _ ⟨hHeld, (by (with_reducible repeat (first | apply Kd.R_alloc | apply Kd.R_drewN | apply Kd.R_drew)); exact Kd.R_mono HO416.out (fun _ hk => ⟨hk.1.2, ⟨hk.2, hk.1.1⟩⟩)), (by (with_reducible repeat (first | apply Kd.R_alloc | apply Kd.R_drewN | apply Kd.R_drew)); exact Kd.R_mono HO421.out (fun _ hk => ⟨hk.1.1.2, ⟨hk.2, hk.1.2⟩⟩)), (by (with_reducible repeat (first | apply Kd.R_alloc | apply Kd.R_drewN | apply Kd.R_drew)); exact Kd.R_mono HO424.out (fun _ hk => ⟨hk.1.1.2, ⟨hk.1.2, hk.2⟩⟩)), (by (with_reducible repeat (first | refine blk_drewN ?_ _ | refine blk_drew ?_ | refine blk_alloc ?_ _)); exact BK408.out), (by (with_reducible repeat (first | refine blk_drewN ?_ _ | refine blk_drew ?_ | refine blk_alloc ?_ _)); exact BK413.out), (by (with_reducible repeat (first | refine blk_drewN ?_ _ | refine blk_drew ?_ | refine blk_alloc ?_ _)); exact BK418.out), (by (with_reducible repeat (first | refine blk_drewN ?_ _ | refine blk_drew ?_ | refine blk_alloc ?_ _)); exact BK426.out), GW426.out, GE426.out, NB408_426.out, NB426_408.out, NB413_426.out, NB426_413.out, NB418_426.out, NB426_418.out, (by repeat (first | (with_reducible first | exact HB.out | apply below_alloc | apply pw_below_drewN | apply below_drew1 | refine below_set ?_ GE408.out | refine below_set ?_ GE413.out | refine below_set ?_ GE418.out | refine below_set ?_ GE426.out) | exact HB.out))⟩)
          rintro ⟨v420, v423, gb426⟩ w83 ⟨hS_, h0_, h1_, h2_, h3_, h4_, h5_, h6_, h7_, h8_, h9_, h10_, h11_, h12_, h13_, h14_, h15_⟩
          have n0_ : Aside0 (Kd.R k26 26 w83 w.heap.size (fun k_ => some k_ ≠ (v420 : Value).ownBlock ∧ some k_ ≠ (v423 : Value).ownBlock ∧ k_ ≠ gb413) (.slice Ao73 t414.length co73) t414) := ⟨h0_⟩
          have n1_ : Aside0 (Kd.R k26 26 w83 w.heap.size (fun k_ => some k_ ≠ (.slice Ao73 t414.length co73 : Value).ownBlock ∧ some k_ ≠ (v423 : Value).ownBlock ∧ k_ ≠ gb413) v420 t419) := ⟨h1_⟩
          have n2_ : Aside0 (Kd.R k26 26 w83 w.heap.size (fun k_ => some k_ ≠ (.slice Ao73 t414.length co73 : Value).ownBlock ∧ some k_ ≠ (v420 : Value).ownBlock ∧ k_ ≠ gb413) v423 t422) := ⟨h2_⟩
          have n3_ : Aside0 (w83.heap[gb408]? = some (.cells #[.slice (some ad412) l0_0.length c0_0] 24 (0, 0))) := ⟨h3_⟩
          have n4_ : Aside0 (w83.heap[gb413]? = some (.cells #[.int .i64 ((rd_T26 l0_0 (ji51)).f0), .int .i64 ((rd_T26 l0_0 (ji51)).f1), .int .i64 ((rd_T26 l0_0 (ji51)).f2), .int .i64 a2, .int .i64 a3] 26 (0, 0))) := ⟨h4_⟩
          have n5_ : Aside0 (w83.heap[gb418]? = some (.cells #[.slice Ao73 t414.length co73] 24 (0, 0))) := ⟨h5_⟩
          have n6_ : Aside0 (w83.heap[gb426]? = some (.cells #[.slice none 0 0] 24 (0, 0))) := ⟨h6_⟩
          have n7_ : Aside0 (w.heap.size ≤ gb426) := ⟨h7_⟩
          have n8_ : Aside0 (w.heap.size ≤ gb426) := ⟨h8_⟩
          have n9_ : Aside0 (gb408 ≠ gb426) := ⟨h9_⟩
          have n10_ : Aside0 (gb426 ≠ gb408) := ⟨h10_⟩
          have n11_ : Aside0 (gb413 ≠ gb426) := ⟨h11_⟩
          have n12_ : Aside0 (gb426 ≠ gb413) := ⟨h12_⟩
          have n13_ : Aside0 (gb418 ≠ gb426) := ⟨h13_⟩
          have n14_ : Aside0 (gb426 ≠ gb418) := ⟨h14_⟩
          have n15_ : Aside0 (Below w.heap.size w w83) := ⟨h15_⟩
          clear HO416
          clear BK408
          clear BK413
          clear BK418
          clear HB
          clear h0_ h1_ h2_ h3_ h4_ h5_ h6_ h7_ h8_ h9_ h10_ h11_ h12_ h13_ h14_ h15_
          have HO416 := n0_
          have HO421 := n1_
          have HO424 := n2_
          have BK408 := n3_
          have BK413 := n4_
          have BK418 := n5_
          have BK426 := n6_
          have GW426 := n7_
          have GE426 := n8_
          have NB408_426 := n9_
          have NB426_408 := n10_
          have NB413_426 := n11_
          have NB426_413 := n12_
          have NB418_426 := n13_
          have NB426_418 := n14_
          have HB := n15_
          clear n0_ n1_ n2_ n3_ n4_ n5_ n6_ n7_ n8_ n9_ n10_ n11_ n12_ n13_ n14_ n15_
          have hHeld : w83.cell? ⟨gb408, 0, none⟩ = some (.slice (some ad412) l0_0.length c0_0) ∧ w83.cell? ⟨gb413, 0, none⟩ = some (.int .i64 ((rd_T26 l0_0 (ji51)).f0)) ∧ w83.cell? ⟨gb413, 1, none⟩ = some (.int .i64 ((rd_T26 l0_0 (ji51)).f1)) ∧ w83.cell? ⟨gb413, 2, none⟩ = some (.int .i64 ((rd_T26 l0_0 (ji51)).f2)) ∧ w83.cell? ⟨gb413, 3, none⟩ = some (.int .i64 a2) ∧ w83.cell? ⟨gb413, 4, none⟩ = some (.int .i64 a3) := hS_
          obtain ⟨Ao84, co84, eo84⟩ := Kd.R_slice HO424.out
          (first | subst eo84 | (injection eo84 with f1_ f2_ f3_; have f4_ := f1_.symm; have f5_ := f3_.symm; clear f1_ f2_ f3_; subst f4_; subst f5_))
          refine norm_ (a' := ?_) ?_ ?_
          rotate_left
          ·simp only [putAll, Act.put, List.setIfInBounds_toArray, List.set_cons_zero, List.set_cons_succ]
           rfl
          refine one_ (i := 13) (N := none) #[true, true, true, true, true, true, true, true, true, true, true, true, true, true, false] rfl rfl (one_of HT_.out (by kernel_rfl)) (by decide) (fun K hK => ?_)
          have hs85 : w83.cell? ⟨gb426, 0, none⟩ = some (.slice none 0 0) := (blk_cell BK426.out 0).trans rfl
          have hfs85 := blk_frozen BK426.out 0
          have hns85_0 := NB408_426.out
          have hns85_1 := NB413_426.out
          have hns85_2 := NB418_426.out
          have hms85_0 := NB426_408.out
          have hms85_1 := NB426_413.out
          have hms85_2 := NB426_418.out
          refine skip_ (w1 := ?_) (by rfl) rfl ?_ ?_
          rotate_left
          ·go_simp
           rfl
          refine hK.out _ _ ⟨((cell_far (p := ⟨gb426, _, none⟩) NB408_426.out _).trans (hHeld.1)), ((cell_far (p := ⟨gb426, _, none⟩) NB413_426.out _).trans (hHeld.2.1)), ((cell_far (p := ⟨gb426, _, none⟩) NB413_426.out _).trans (hHeld.2.2.1)), ((cell_far (p := ⟨gb426, _, none⟩) NB413_426.out _).trans (hHeld.2.2.2.1)), ((cell_far (p := ⟨gb426, _, none⟩) NB413_426.out _).trans (hHeld.2.2.2.2.1)), ((cell_far (p := ⟨gb426, _, none⟩) NB413_426.out _).trans (hHeld.2.2.2.2.2))⟩ (fun hHeld => ?_)
          clear hK K
          refine pure_ (i := 14) (N := some 16) (v := ?_) (a' := ?_) #[true, true, true, true, true, true, true, true, true, true, true, true, true, true, true] rfl rfl (any_of HT_.out (by kernel_rfl)) (fun _ _ _ h => h) (Or.inl ⟨by rfl, ?_⟩) ?_ ?_
          rotate_left
          ·intro w'
           go_simp
           with_reducible rfl
          rotate_left
          ·simp only [Act.put, List.setIfInBounds_toArray, List.set_cons_zero, List.set_cons_succ, i64_w, i32_w]
           rfl
          refine done_ (done_of HT_.out (by kernel_rfl)) ?_
          have hnb86 := NB413_426.out
          have hnc86 := NB426_413.out
          have hcz87_0 : w83.cell? ⟨gb413, 0, none⟩ = some (.int .i64 ((rd_T26 l0_0 (ji51)).f0)) := (blk_cell BK413.out 0).trans rfl
          have hcz87_1 : w83.cell? ⟨gb413, 1, none⟩ = some (.int .i64 ((rd_T26 l0_0 (ji51)).f1)) := (blk_cell BK413.out 1).trans rfl
          have hcz87_2 : w83.cell? ⟨gb413, 2, none⟩ = some (.int .i64 ((rd_T26 l0_0 (ji51)).f2)) := (blk_cell BK413.out 2).trans rfl
          have hcz87_3 : w83.cell? ⟨gb413, 3, none⟩ = some (.int .i64 a2) := (blk_cell BK413.out 3).trans rfl
          have hcz87_4 : w83.cell? ⟨gb413, 4, none⟩ = some (.int .i64 a3) := (blk_cell BK413.out 4).trans rfl
          have hfz87_0 := blk_frozen BK413.out 0
          have hfz87_1 := blk_frozen BK413.out 1
          have hfz87_2 := blk_frozen BK413.out 2
          have hfz87_3 := blk_frozen BK413.out 3
          have hfz87_4 := blk_frozen BK413.out 4
          try go_wp2
          go_ret
          exact ⟨by first | rfl | (simp [errW_none, errW_some] <;> rfl) | (simp only [← hji51]; first | rfl | (simp [errW_none, errW_some] <;> rfl)) | (simp [*, errW_none, errW_some] <;> rfl), by repeat (first | (with_reducible first | exact HB.out | apply below_alloc | apply pw_below_drewN | apply below_drew1 | refine below_set ?_ GE408.out | refine below_set ?_ GE413.out | refine below_set ?_ GE418.out | refine below_set ?_ GE426.out) | exact HB.out)⟩
         ·rw [if_neg c59] at H
          have c59b0 : (((rd_T26 l0_0 (ji51)).f0) == a4) = false := beq_eq_false_iff_ne.mpr c59
          have c59b1 : (((rd_T26 l0_0 (ji51)).f0) != a4) = true := bne_iff_ne.mpr c59
          obtain rfl := Option.some.inj H
          try go_wp2
          have n0_ := Aside0.mk (blk_drew BK408.out)
          have n1_ := Aside0.mk (below_drew1 HB.out)
          clear BK408
          clear HB
          have BK408 := n0_
          have HB := n1_
          clear n0_ n1_
          have p412 : 0 ≤ ((ji51) : Int) := of_decide_eq_true (by first | (with_reducible assumption) | assumption)
          have q412 : (ji51) < (l0_0.length : Int) := of_decide_eq_true (by first | (with_reducible assumption) | assumption)
          obtain ⟨ad412, e412, hx412_0, hx412_1, hx412_2, hx412_3, hx412_4⟩ := at_T26 HR0_0.out (ji51) p412 q412
          have hw412_4 := hx412_4
          have hw412_3 := hx412_3
          have hw412_2 := hx412_2
          have hw412_1 := hx412_1
          have hw412_0 := hx412_0
          cases e412
          replace hx412_0 := (HB.out.cell (World.block_lt_of_cell? w _ hx412_0)).trans hx412_0
          replace hx412_1 := (HB.out.cell (World.block_lt_of_cell? w _ hx412_1)).trans hx412_1
          replace hx412_2 := (HB.out.cell (World.block_lt_of_cell? w _ hx412_2)).trans hx412_2
          replace hx412_3 := (HB.out.cell (World.block_lt_of_cell? w _ hx412_3)).trans hx412_3
          replace hx412_4 := (HB.out.cell (World.block_lt_of_cell? w _ hx412_4)).trans hx412_4
          replace p412 := eq_true p412
          replace q412 := eq_true q412
          refine start_ (n := 12) (S := fun w' => w'.cell? ⟨gb408, 0, none⟩ = some (.slice (some ad412) l0_0.length c0_0) ∧ w'.cell? (ad412.add (((ji51)).toNat * 5)) = some (.int .i64 ((rd_T26 l0_0 (ji51)).f0)) ∧ w'.cell? ⟨(ad412.add (((ji51)).toNat * 5)).block, (ad412.add (((ji51)).toNat * 5)).off + 1, none⟩ = some (.int .i64 ((rd_T26 l0_0 (ji51)).f1)) ∧ w'.cell? ⟨(ad412.add (((ji51)).toNat * 5)).block, (ad412.add (((ji51)).toNat * 5)).off + 2, none⟩ = some (.int .i64 ((rd_T26 l0_0 (ji51)).f2)) ∧ w'.cell? ⟨(ad412.add (((ji51)).toNat * 5)).block, (ad412.add (((ji51)).toNat * 5)).off + 3, none⟩ = some (.int .i64 ((rd_T26 l0_0 (ji51)).f3)) ∧ w'.cell? ⟨(ad412.add (((ji51)).toNat * 5)).block, (ad412.add (((ji51)).toNat * 5)).off + 4, none⟩ = some (.int .i64 ((rd_T26 l0_0 (ji51)).f4))) (ds := []) #[false, false, false, false, false, false, false, false, false, false, false, false] (by kernel_rfl) rfl rfl ⟨(blk_cell BK408.out 0).trans rfl, ((HB.out.cell (World.block_lt_of_cell? w _ hw412_0)).trans hw412_0), ((HB.out.cell (World.block_lt_of_cell? w _ hw412_1)).trans hw412_1), ((HB.out.cell (World.block_lt_of_cell? w _ hw412_2)).trans hw412_2), ((HB.out.cell (World.block_lt_of_cell? w _ hw412_3)).trans hw412_3), ((HB.out.cell (World.block_lt_of_cell? w _ hw412_4)).trans hw412_4)⟩ (fun hHeld => ?_); refine with_tabW slotmeshlaw27_QueueTwice.tab4 slotmeshlaw27_QueueTwice.bits4 (fun HT_ HW_ => ?_)
          generalize wc.drew = w88 at BK408 HB hx412_0 hx412_1 hx412_2 hx412_3 hx412_4 hHeld ⊢
          refine pure_ (i := 0) (N := some 49) (v := ?_) (a' := ?_) #[true, false, false, false, false, false, false, false, false, false, false, false] rfl rfl (any_of HT_.out (by kernel_rfl)) (fun _ _ _ h => h) (Or.inl ⟨by rfl, ?_⟩) ?_ ?_
          rotate_left
          ·intro w'
           go_simp
           with_reducible rfl
          rotate_left
          ·simp only [Act.put, List.setIfInBounds_toArray, List.set_cons_zero, List.set_cons_succ, i64_w, i32_w]
           rfl
          refine pure_ (i := 2) (N := some 51) (v := ?_) (a' := ?_) #[true, false, true, false, false, false, false, false, false, false, false, false] rfl rfl (any_of HT_.out (by kernel_rfl)) (fun _ _ _ h => h) (Or.inl ⟨by rfl, ?_⟩) ?_ ?_
          rotate_left
          ·intro w'
           go_simp
           with_reducible rfl
          rotate_left
          ·simp only [Act.put, List.setIfInBounds_toArray, List.set_cons_zero, List.set_cons_succ, i64_w, i32_w]
           rfl
          refine pure_ (i := 3) (N := some 52) (v := ?_) (a' := ?_) #[true, false, true, true, false, false, false, false, false, false, false, false] rfl rfl (any_of HT_.out (by kernel_rfl)) (fun _ _ _ h => h) (Or.inl ⟨by rfl, ?_⟩) ?_ ?_
          rotate_left
          ·intro w'
           go_simp
           with_reducible rfl
          rotate_left
          ·simp only [Act.put, List.setIfInBounds_toArray, List.set_cons_zero, List.set_cons_succ, i64_w, i32_w]
           rfl
          refine pure_ (i := 4) (N := some 53) (v := ?_) (a' := ?_) #[true, false, true, true, true, false, false, false, false, false, false, false] rfl rfl (any_of HT_.out (by kernel_rfl)) (fun _ _ _ h => h) (Or.inl ⟨by rfl, ?_⟩) ?_ ?_
          rotate_left
          ·intro w'
           go_simp
           with_reducible rfl
          rotate_left
          ·simp only [Act.put, List.setIfInBounds_toArray, List.set_cons_zero, List.set_cons_succ, i64_w, i32_w]
           rfl
          refine take_ (i := 1) (N := some 50) (v := ?_) (a' := ?_) #[true, true, true, true, true, false, false, false, false, false, false, false] rfl rfl (take_ofW HT_.out HW_.out (by kernel_rfl)) (fun _ _ _ h => h) (Or.inl ⟨by rfl, ?_⟩) hHeld ?_ ?_
          rotate_left
          ·rintro w' ⟨s0, s1, s2, s3, s4, s5⟩
           go_simp
           with_reducible rfl
          rotate_left
          ·simp only [Act.put, List.setIfInBounds_toArray, List.set_cons_zero, List.set_cons_succ, i64_w, i32_w]
           rfl
          refine take_ (i := 5) (N := some 54) (v := ?_) (a' := ?_) #[true, true, true, true, true, true, false, false, false, false, false, false] rfl rfl (take_ofW HT_.out HW_.out (by kernel_rfl)) (fun _ _ _ h => h) (Or.inl ⟨by rfl, ?_⟩) hHeld ?_ ?_
          rotate_left
          ·rintro w' ⟨s0, s1, s2, s3, s4, s5⟩
           go_simp
           with_reducible rfl
          rotate_left
          ·simp only [Act.put, List.setIfInBounds_toArray, List.set_cons_zero, List.set_cons_succ, i64_w, i32_w]
           rfl
          refine pure_ (i := 6) (N := some 55) (v := ?_) (a' := ?_) #[true, true, true, true, true, true, true, false, false, false, false, false] rfl rfl (any_of HT_.out (by kernel_rfl)) (fun _ _ _ h => h) (Or.inl ⟨by rfl, ?_⟩) ?_ ?_
          rotate_left
          ·intro w'
           go_simp
           with_reducible rfl
          rotate_left
          ·simp only [Act.put, List.setIfInBounds_toArray, List.set_cons_zero, List.set_cons_succ, i64_w, i32_w]
           rfl
          refine pure_ (i := 7) (N := some 56) (v := ?_) (a' := ?_) #[true, true, true, true, true, true, true, true, false, false, false, false] rfl rfl (any_of HT_.out (by kernel_rfl)) (fun _ _ _ h => h) (Or.inl ⟨by rfl, ?_⟩) ?_ ?_
          rotate_left
          ·intro w'
           go_simp
           with_reducible rfl
          rotate_left
          ·simp only [Act.put, List.setIfInBounds_toArray, List.set_cons_zero, List.set_cons_succ, i64_w, i32_w]
           rfl
          refine pure_ (i := 8) (N := some 57) (v := ?_) (a' := ?_) #[true, true, true, true, true, true, true, true, true, false, false, false] rfl rfl (any_of HT_.out (by kernel_rfl)) (fun _ _ _ h => h) (Or.inl ⟨by rfl, ?_⟩) ?_ ?_
          rotate_left
          ·intro w'
           go_simp
           with_reducible rfl
          rotate_left
          ·simp only [Act.put, List.setIfInBounds_toArray, List.set_cons_zero, List.set_cons_succ, i64_w, i32_w]
           rfl
          refine take_ (i := 9) (N := some 58) (v := ?_) (a' := ?_) #[true, true, true, true, true, true, true, true, true, true, false, false] rfl rfl (take_ofW HT_.out HW_.out (by kernel_rfl)) (fun _ _ _ h => h) (Or.inl ⟨by rfl, ?_⟩) hHeld ?_ ?_
          rotate_left
          ·rintro w' ⟨s0, s1, s2, s3, s4, s5⟩
           go_simp
           with_reducible rfl
          rotate_left
          ·simp only [Act.put, List.setIfInBounds_toArray, List.set_cons_zero, List.set_cons_succ, i64_w, i32_w]
           rfl
          refine one_ (i := 10) (N := some 12) #[true, true, true, true, true, true, true, true, true, true, true, false] rfl rfl (one_of HT_.out (by kernel_rfl)) (by decide) (fun K hK => ?_)
          refine box_step ?hg (N := 12) ?hd (cs := #[.int .i64 0, .int .i64 0, .int .i64 0, .int .i64 0, .int .i64 0]) (t := 26) ?hr ?_; (case hd => rfl); (case hg => rfl); (case hr => first | (go_simp; done) | (go_simp; rfl))
          intro gb413 hg w89 hbox hb
          have n0_ := Aside0.mk (blk_below (g := gb408) (o := .cells #[.slice (some ad412) l0_0.length c0_0] 24 (0, 0)) (by (with_reducible repeat (first | refine blk_drewN ?_ _ | refine blk_drew ?_ | refine blk_alloc ?_ _)); exact BK408.out) hb)
          have n1_ := Aside0.mk (below_step (by repeat (first | (with_reducible first | exact HB.out | apply below_alloc | apply pw_below_drewN | apply below_drew1 | refine below_set ?_ GE408.out) | exact HB.out)) hb)
          have n2_ := Aside0.mk (hbox)
          have n3_ := Aside0.mk ((by rw [hg]; exact (below_size (by repeat (first | (with_reducible first | exact HB.out | apply below_alloc | apply pw_below_drewN | apply below_drew1 | refine below_set ?_ GE408.out) | exact HB.out))) : w.heap.size ≤ gb413))
          have n4_ := Aside0.mk ((by rw [hg]; exact (below_size (by repeat (first | (with_reducible first | exact HB.out | apply below_alloc | apply pw_below_drewN | apply below_drew1 | refine below_set ?_ GE408.out) | exact HB.out))) : w.heap.size ≤ gb413))
          have n5_ := Aside0.mk ((by rw [hg]; exact Nat.ne_of_lt (blk_lt (g := gb408) (o := .cells #[.slice (some ad412) l0_0.length c0_0] 24 (0, 0)) (by (with_reducible repeat (first | refine blk_drewN ?_ _ | refine blk_drew ?_ | refine blk_alloc ?_ _)); exact BK408.out)) : gb408 ≠ gb413))
          have n6_ := Aside0.mk ((by rw [hg]; exact Nat.ne_of_gt (blk_lt (g := gb408) (o := .cells #[.slice (some ad412) l0_0.length c0_0] 24 (0, 0)) (by (with_reducible repeat (first | refine blk_drewN ?_ _ | refine blk_drew ?_ | refine blk_alloc ?_ _)); exact BK408.out)) : gb413 ≠ gb408))
          clear BK408
          clear HB
          have BK408 := n0_
          have HB := n1_
          have BK413 := n2_
          have GW413 := n3_
          have GE413 := n4_
          have NB408_413 := n5_
          have NB413_408 := n6_
          clear n0_ n1_ n2_ n3_ n4_ n5_ n6_
          clear hb hbox hg
          refine hK.out _ _ ⟨(blk_cell BK408.out 0).trans rfl, ((HB.out.cell (World.block_lt_of_cell? w _ hw412_0)).trans hw412_0), ((HB.out.cell (World.block_lt_of_cell? w _ hw412_1)).trans hw412_1), ((HB.out.cell (World.block_lt_of_cell? w _ hw412_2)).trans hw412_2), ((HB.out.cell (World.block_lt_of_cell? w _ hw412_3)).trans hw412_3), ((HB.out.cell (World.block_lt_of_cell? w _ hw412_4)).trans hw412_4)⟩ (fun hHeld => ?_)
          clear hK K
          refine norm_ (a' := ?_) ?_ ?_
          rotate_left
          ·show Act.put _ (some 12) _ = _
           simp only [Act.put, List.setIfInBounds_toArray, List.set_cons_zero, List.set_cons_succ, i64_w, i32_w]
           rfl
          refine one_ (i := 11) (N := none) #[true, true, true, true, true, true, true, true, true, true, true, true] rfl rfl (one_of HT_.out (by kernel_rfl)) (by decide) (fun K hK => ?_)
          have hs90 : w89.cell? ⟨gb413, 0, none⟩ = some (.int .i64 0) := (blk_cell BK413.out 0).trans rfl
          have hfs90 := blk_frozen BK413.out 0
          have hns90_0 := NB408_413.out
          have hms90_0 := NB413_408.out
          have hs91 : w89.cell? ⟨gb413, 1, none⟩ = some (.int .i64 0) := (blk_cell BK413.out 1).trans rfl
          have hfs91 := blk_frozen BK413.out 1
          have hns91_0 := NB408_413.out
          have hms91_0 := NB413_408.out
          have hs92 : w89.cell? ⟨gb413, 2, none⟩ = some (.int .i64 0) := (blk_cell BK413.out 2).trans rfl
          have hfs92 := blk_frozen BK413.out 2
          have hns92_0 := NB408_413.out
          have hms92_0 := NB413_408.out
          have hs93 : w89.cell? ⟨gb413, 3, none⟩ = some (.int .i64 0) := (blk_cell BK413.out 3).trans rfl
          have hfs93 := blk_frozen BK413.out 3
          have hns93_0 := NB408_413.out
          have hms93_0 := NB413_408.out
          have hs94 : w89.cell? ⟨gb413, 4, none⟩ = some (.int .i64 0) := (blk_cell BK413.out 4).trans rfl
          have hfs94 := blk_frozen BK413.out 4
          have hns94_0 := NB408_413.out
          have hms94_0 := NB413_408.out
          refine skip_ (w1 := ?_) (by rfl) rfl ?_ ?_
          rotate_left
          ·go_simp
           rfl
          refine hK.out _ _ ⟨((cell_far (p := ⟨gb413, _, none⟩) NB408_413.out _).trans (((cell_far (p := ⟨gb413, _, none⟩) NB408_413.out _).trans (((cell_far (p := ⟨gb413, _, none⟩) NB408_413.out _).trans (((cell_far (p := ⟨gb413, _, none⟩) NB408_413.out _).trans (((cell_far (p := ⟨gb413, _, none⟩) NB408_413.out _).trans (hHeld.1)))))))))), ((cell_far (p := ⟨gb413, _, none⟩) (by first | exact Nat.ne_of_lt (Nat.lt_of_lt_of_le (by have := World.block_lt_of_cell? _ _ hw412_0; first | rwa [add_block] at this | exact this) GW413.out) | (rw [add_block]; exact Nat.ne_of_lt (Nat.lt_of_lt_of_le (by have := World.block_lt_of_cell? _ _ hw412_0; first | rwa [add_block] at this | exact this) GW413.out)) | (show (Addr.add _ _).block ≠ _; rw [add_block]; exact Nat.ne_of_lt (Nat.lt_of_lt_of_le (by have := World.block_lt_of_cell? _ _ hw412_0; first | rwa [add_block] at this | exact this) GW413.out)) | (dsimp only; exact Nat.ne_of_lt (Nat.lt_of_lt_of_le (by have := World.block_lt_of_cell? _ _ hw412_0; first | rwa [add_block] at this | exact this) GW413.out))) _).trans (((cell_far (p := ⟨gb413, _, none⟩) (by first | exact Nat.ne_of_lt (Nat.lt_of_lt_of_le (by have := World.block_lt_of_cell? _ _ hw412_0; first | rwa [add_block] at this | exact this) GW413.out) | (rw [add_block]; exact Nat.ne_of_lt (Nat.lt_of_lt_of_le (by have := World.block_lt_of_cell? _ _ hw412_0; first | rwa [add_block] at this | exact this) GW413.out)) | (show (Addr.add _ _).block ≠ _; rw [add_block]; exact Nat.ne_of_lt (Nat.lt_of_lt_of_le (by have := World.block_lt_of_cell? _ _ hw412_0; first | rwa [add_block] at this | exact this) GW413.out)) | (dsimp only; exact Nat.ne_of_lt (Nat.lt_of_lt_of_le (by have := World.block_lt_of_cell? _ _ hw412_0; first | rwa [add_block] at this | exact this) GW413.out))) _).trans (((cell_far (p := ⟨gb413, _, none⟩) (by first | exact Nat.ne_of_lt (Nat.lt_of_lt_of_le (by have := World.block_lt_of_cell? _ _ hw412_0; first | rwa [add_block] at this | exact this) GW413.out) | (rw [add_block]; exact Nat.ne_of_lt (Nat.lt_of_lt_of_le (by have := World.block_lt_of_cell? _ _ hw412_0; first | rwa [add_block] at this | exact this) GW413.out)) | (show (Addr.add _ _).block ≠ _; rw [add_block]; exact Nat.ne_of_lt (Nat.lt_of_lt_of_le (by have := World.block_lt_of_cell? _ _ hw412_0; first | rwa [add_block] at this | exact this) GW413.out)) | (dsimp only; exact Nat.ne_of_lt (Nat.lt_of_lt_of_le (by have := World.block_lt_of_cell? _ _ hw412_0; first | rwa [add_block] at this | exact this) GW413.out))) _).trans (((cell_far (p := ⟨gb413, _, none⟩) (by first | exact Nat.ne_of_lt (Nat.lt_of_lt_of_le (by have := World.block_lt_of_cell? _ _ hw412_0; first | rwa [add_block] at this | exact this) GW413.out) | (rw [add_block]; exact Nat.ne_of_lt (Nat.lt_of_lt_of_le (by have := World.block_lt_of_cell? _ _ hw412_0; first | rwa [add_block] at this | exact this) GW413.out)) | (show (Addr.add _ _).block ≠ _; rw [add_block]; exact Nat.ne_of_lt (Nat.lt_of_lt_of_le (by have := World.block_lt_of_cell? _ _ hw412_0; first | rwa [add_block] at this | exact this) GW413.out)) | (dsimp only; exact Nat.ne_of_lt (Nat.lt_of_lt_of_le (by have := World.block_lt_of_cell? _ _ hw412_0; first | rwa [add_block] at this | exact this) GW413.out))) _).trans (((cell_far (p := ⟨gb413, _, none⟩) (by first | exact Nat.ne_of_lt (Nat.lt_of_lt_of_le (by have := World.block_lt_of_cell? _ _ hw412_0; first | rwa [add_block] at this | exact this) GW413.out) | (rw [add_block]; exact Nat.ne_of_lt (Nat.lt_of_lt_of_le (by have := World.block_lt_of_cell? _ _ hw412_0; first | rwa [add_block] at this | exact this) GW413.out)) | (show (Addr.add _ _).block ≠ _; rw [add_block]; exact Nat.ne_of_lt (Nat.lt_of_lt_of_le (by have := World.block_lt_of_cell? _ _ hw412_0; first | rwa [add_block] at this | exact this) GW413.out)) | (dsimp only; exact Nat.ne_of_lt (Nat.lt_of_lt_of_le (by have := World.block_lt_of_cell? _ _ hw412_0; first | rwa [add_block] at this | exact this) GW413.out))) _).trans (hHeld.2.1)))))))))), ((cell_far (p := ⟨gb413, _, none⟩) (by first | exact Nat.ne_of_lt (Nat.lt_of_lt_of_le (by have := World.block_lt_of_cell? _ _ hw412_1; first | rwa [add_block] at this | exact this) GW413.out) | (rw [add_block]; exact Nat.ne_of_lt (Nat.lt_of_lt_of_le (by have := World.block_lt_of_cell? _ _ hw412_1; first | rwa [add_block] at this | exact this) GW413.out)) | (show (Addr.add _ _).block ≠ _; rw [add_block]; exact Nat.ne_of_lt (Nat.lt_of_lt_of_le (by have := World.block_lt_of_cell? _ _ hw412_1; first | rwa [add_block] at this | exact this) GW413.out)) | (dsimp only; exact Nat.ne_of_lt (Nat.lt_of_lt_of_le (by have := World.block_lt_of_cell? _ _ hw412_1; first | rwa [add_block] at this | exact this) GW413.out))) _).trans (((cell_far (p := ⟨gb413, _, none⟩) (by first | exact Nat.ne_of_lt (Nat.lt_of_lt_of_le (by have := World.block_lt_of_cell? _ _ hw412_1; first | rwa [add_block] at this | exact this) GW413.out) | (rw [add_block]; exact Nat.ne_of_lt (Nat.lt_of_lt_of_le (by have := World.block_lt_of_cell? _ _ hw412_1; first | rwa [add_block] at this | exact this) GW413.out)) | (show (Addr.add _ _).block ≠ _; rw [add_block]; exact Nat.ne_of_lt (Nat.lt_of_lt_of_le (by have := World.block_lt_of_cell? _ _ hw412_1; first | rwa [add_block] at this | exact this) GW413.out)) | (dsimp only; exact Nat.ne_of_lt (Nat.lt_of_lt_of_le (by have := World.block_lt_of_cell? _ _ hw412_1; first | rwa [add_block] at this | exact this) GW413.out))) _).trans (((cell_far (p := ⟨gb413, _, none⟩) (by first | exact Nat.ne_of_lt (Nat.lt_of_lt_of_le (by have := World.block_lt_of_cell? _ _ hw412_1; first | rwa [add_block] at this | exact this) GW413.out) | (rw [add_block]; exact Nat.ne_of_lt (Nat.lt_of_lt_of_le (by have := World.block_lt_of_cell? _ _ hw412_1; first | rwa [add_block] at this | exact this) GW413.out)) | (show (Addr.add _ _).block ≠ _; rw [add_block]; exact Nat.ne_of_lt (Nat.lt_of_lt_of_le (by have := World.block_lt_of_cell? _ _ hw412_1; first | rwa [add_block] at this | exact this) GW413.out)) | (dsimp only; exact Nat.ne_of_lt (Nat.lt_of_lt_of_le (by have := World.block_lt_of_cell? _ _ hw412_1; first | rwa [add_block] at this | exact this) GW413.out))) _).trans (((cell_far (p := ⟨gb413, _, none⟩) (by first | exact Nat.ne_of_lt (Nat.lt_of_lt_of_le (by have := World.block_lt_of_cell? _ _ hw412_1; first | rwa [add_block] at this | exact this) GW413.out) | (rw [add_block]; exact Nat.ne_of_lt (Nat.lt_of_lt_of_le (by have := World.block_lt_of_cell? _ _ hw412_1; first | rwa [add_block] at this | exact this) GW413.out)) | (show (Addr.add _ _).block ≠ _; rw [add_block]; exact Nat.ne_of_lt (Nat.lt_of_lt_of_le (by have := World.block_lt_of_cell? _ _ hw412_1; first | rwa [add_block] at this | exact this) GW413.out)) | (dsimp only; exact Nat.ne_of_lt (Nat.lt_of_lt_of_le (by have := World.block_lt_of_cell? _ _ hw412_1; first | rwa [add_block] at this | exact this) GW413.out))) _).trans (((cell_far (p := ⟨gb413, _, none⟩) (by first | exact Nat.ne_of_lt (Nat.lt_of_lt_of_le (by have := World.block_lt_of_cell? _ _ hw412_1; first | rwa [add_block] at this | exact this) GW413.out) | (rw [add_block]; exact Nat.ne_of_lt (Nat.lt_of_lt_of_le (by have := World.block_lt_of_cell? _ _ hw412_1; first | rwa [add_block] at this | exact this) GW413.out)) | (show (Addr.add _ _).block ≠ _; rw [add_block]; exact Nat.ne_of_lt (Nat.lt_of_lt_of_le (by have := World.block_lt_of_cell? _ _ hw412_1; first | rwa [add_block] at this | exact this) GW413.out)) | (dsimp only; exact Nat.ne_of_lt (Nat.lt_of_lt_of_le (by have := World.block_lt_of_cell? _ _ hw412_1; first | rwa [add_block] at this | exact this) GW413.out))) _).trans (hHeld.2.2.1)))))))))), ((cell_far (p := ⟨gb413, _, none⟩) (by first | exact Nat.ne_of_lt (Nat.lt_of_lt_of_le (by have := World.block_lt_of_cell? _ _ hw412_2; first | rwa [add_block] at this | exact this) GW413.out) | (rw [add_block]; exact Nat.ne_of_lt (Nat.lt_of_lt_of_le (by have := World.block_lt_of_cell? _ _ hw412_2; first | rwa [add_block] at this | exact this) GW413.out)) | (show (Addr.add _ _).block ≠ _; rw [add_block]; exact Nat.ne_of_lt (Nat.lt_of_lt_of_le (by have := World.block_lt_of_cell? _ _ hw412_2; first | rwa [add_block] at this | exact this) GW413.out)) | (dsimp only; exact Nat.ne_of_lt (Nat.lt_of_lt_of_le (by have := World.block_lt_of_cell? _ _ hw412_2; first | rwa [add_block] at this | exact this) GW413.out))) _).trans (((cell_far (p := ⟨gb413, _, none⟩) (by first | exact Nat.ne_of_lt (Nat.lt_of_lt_of_le (by have := World.block_lt_of_cell? _ _ hw412_2; first | rwa [add_block] at this | exact this) GW413.out) | (rw [add_block]; exact Nat.ne_of_lt (Nat.lt_of_lt_of_le (by have := World.block_lt_of_cell? _ _ hw412_2; first | rwa [add_block] at this | exact this) GW413.out)) | (show (Addr.add _ _).block ≠ _; rw [add_block]; exact Nat.ne_of_lt (Nat.lt_of_lt_of_le (by have := World.block_lt_of_cell? _ _ hw412_2; first | rwa [add_block] at this | exact this) GW413.out)) | (dsimp only; exact Nat.ne_of_lt (Nat.lt_of_lt_of_le (by have := World.block_lt_of_cell? _ _ hw412_2; first | rwa [add_block] at this | exact this) GW413.out))) _).trans (((cell_far (p := ⟨gb413, _, none⟩) (by first | exact Nat.ne_of_lt (Nat.lt_of_lt_of_le (by have := World.block_lt_of_cell? _ _ hw412_2; first | rwa [add_block] at this | exact this) GW413.out) | (rw [add_block]; exact Nat.ne_of_lt (Nat.lt_of_lt_of_le (by have := World.block_lt_of_cell? _ _ hw412_2; first | rwa [add_block] at this | exact this) GW413.out)) | (show (Addr.add _ _).block ≠ _; rw [add_block]; exact Nat.ne_of_lt (Nat.lt_of_lt_of_le (by have := World.block_lt_of_cell? _ _ hw412_2; first | rwa [add_block] at this | exact this) GW413.out)) | (dsimp only; exact Nat.ne_of_lt (Nat.lt_of_lt_of_le (by have := World.block_lt_of_cell? _ _ hw412_2; first | rwa [add_block] at this | exact this) GW413.out))) _).trans (((cell_far (p := ⟨gb413, _, none⟩) (by first | exact Nat.ne_of_lt (Nat.lt_of_lt_of_le (by have := World.block_lt_of_cell? _ _ hw412_2; first | rwa [add_block] at this | exact this) GW413.out) | (rw [add_block]; exact Nat.ne_of_lt (Nat.lt_of_lt_of_le (by have := World.block_lt_of_cell? _ _ hw412_2; first | rwa [add_block] at this | exact this) GW413.out)) | (show (Addr.add _ _).block ≠ _; rw [add_block]; exact Nat.ne_of_lt (Nat.lt_of_lt_of_le (by have := World.block_lt_of_cell? _ _ hw412_2; first | rwa [add_block] at this | exact this) GW413.out)) | (dsimp only; exact Nat.ne_of_lt (Nat.lt_of_lt_of_le (by have := World.block_lt_of_cell? _ _ hw412_2; first | rwa [add_block] at this | exact this) GW413.out))) _).trans (((cell_far (p := ⟨gb413, _, none⟩) (by first | exact Nat.ne_of_lt (Nat.lt_of_lt_of_le (by have := World.block_lt_of_cell? _ _ hw412_2; first | rwa [add_block] at this | exact this) GW413.out) | (rw [add_block]; exact Nat.ne_of_lt (Nat.lt_of_lt_of_le (by have := World.block_lt_of_cell? _ _ hw412_2; first | rwa [add_block] at this | exact this) GW413.out)) | (show (Addr.add _ _).block ≠ _; rw [add_block]; exact Nat.ne_of_lt (Nat.lt_of_lt_of_le (by have := World.block_lt_of_cell? _ _ hw412_2; first | rwa [add_block] at this | exact this) GW413.out)) | (dsimp only; exact Nat.ne_of_lt (Nat.lt_of_lt_of_le (by have := World.block_lt_of_cell? _ _ hw412_2; first | rwa [add_block] at this | exact this) GW413.out))) _).trans (hHeld.2.2.2.1)))))))))), ((cell_far (p := ⟨gb413, _, none⟩) (by first | exact Nat.ne_of_lt (Nat.lt_of_lt_of_le (by have := World.block_lt_of_cell? _ _ hw412_3; first | rwa [add_block] at this | exact this) GW413.out) | (rw [add_block]; exact Nat.ne_of_lt (Nat.lt_of_lt_of_le (by have := World.block_lt_of_cell? _ _ hw412_3; first | rwa [add_block] at this | exact this) GW413.out)) | (show (Addr.add _ _).block ≠ _; rw [add_block]; exact Nat.ne_of_lt (Nat.lt_of_lt_of_le (by have := World.block_lt_of_cell? _ _ hw412_3; first | rwa [add_block] at this | exact this) GW413.out)) | (dsimp only; exact Nat.ne_of_lt (Nat.lt_of_lt_of_le (by have := World.block_lt_of_cell? _ _ hw412_3; first | rwa [add_block] at this | exact this) GW413.out))) _).trans (((cell_far (p := ⟨gb413, _, none⟩) (by first | exact Nat.ne_of_lt (Nat.lt_of_lt_of_le (by have := World.block_lt_of_cell? _ _ hw412_3; first | rwa [add_block] at this | exact this) GW413.out) | (rw [add_block]; exact Nat.ne_of_lt (Nat.lt_of_lt_of_le (by have := World.block_lt_of_cell? _ _ hw412_3; first | rwa [add_block] at this | exact this) GW413.out)) | (show (Addr.add _ _).block ≠ _; rw [add_block]; exact Nat.ne_of_lt (Nat.lt_of_lt_of_le (by have := World.block_lt_of_cell? _ _ hw412_3; first | rwa [add_block] at this | exact this) GW413.out)) | (dsimp only; exact Nat.ne_of_lt (Nat.lt_of_lt_of_le (by have := World.block_lt_of_cell? _ _ hw412_3; first | rwa [add_block] at this | exact this) GW413.out))) _).trans (((cell_far (p := ⟨gb413, _, none⟩) (by first | exact Nat.ne_of_lt (Nat.lt_of_lt_of_le (by have := World.block_lt_of_cell? _ _ hw412_3; first | rwa [add_block] at this | exact this) GW413.out) | (rw [add_block]; exact Nat.ne_of_lt (Nat.lt_of_lt_of_le (by have := World.block_lt_of_cell? _ _ hw412_3; first | rwa [add_block] at this | exact this) GW413.out)) | (show (Addr.add _ _).block ≠ _; rw [add_block]; exact Nat.ne_of_lt (Nat.lt_of_lt_of_le (by have := World.block_lt_of_cell? _ _ hw412_3; first | rwa [add_block] at this | exact this) GW413.out)) | (dsimp only; exact Nat.ne_of_lt (Nat.lt_of_lt_of_le (by have := World.block_lt_of_cell? _ _ hw412_3; first | rwa [add_block] at this | exact this) GW413.out))) _).trans (((cell_far (p := ⟨gb413, _, none⟩) (by first | exact Nat.ne_of_lt (Nat.lt_of_lt_of_le (by have := World.block_lt_of_cell? _ _ hw412_3; first | rwa [add_block] at this | exact this) GW413.out) | (rw [add_block]; exact Nat.ne_of_lt (Nat.lt_of_lt_of_le (by have := World.block_lt_of_cell? _ _ hw412_3; first | rwa [add_block] at this | exact this) GW413.out)) | (show (Addr.add _ _).block ≠ _; rw [add_block]; exact Nat.ne_of_lt (Nat.lt_of_lt_of_le (by have := World.block_lt_of_cell? _ _ hw412_3; first | rwa [add_block] at this | exact this) GW413.out)) | (dsimp only; exact Nat.ne_of_lt (Nat.lt_of_lt_of_le (by have := World.block_lt_of_cell? _ _ hw412_3; first | rwa [add_block] at this | exact this) GW413.out))) _).trans (((cell_far (p := ⟨gb413, _, none⟩) (by first | exact Nat.ne_of_lt (Nat.lt_of_lt_of_le (by have := World.block_lt_of_cell? _ _ hw412_3; first | rwa [add_block] at this | exact this) GW413.out) | (rw [add_block]; exact Nat.ne_of_lt (Nat.lt_of_lt_of_le (by have := World.block_lt_of_cell? _ _ hw412_3; first | rwa [add_block] at this | exact this) GW413.out)) | (show (Addr.add _ _).block ≠ _; rw [add_block]; exact Nat.ne_of_lt (Nat.lt_of_lt_of_le (by have := World.block_lt_of_cell? _ _ hw412_3; first | rwa [add_block] at this | exact this) GW413.out)) | (dsimp only; exact Nat.ne_of_lt (Nat.lt_of_lt_of_le (by have := World.block_lt_of_cell? _ _ hw412_3; first | rwa [add_block] at this | exact this) GW413.out))) _).trans (hHeld.2.2.2.2.1)))))))))), ((cell_far (p := ⟨gb413, _, none⟩) (by first | exact Nat.ne_of_lt (Nat.lt_of_lt_of_le (by have := World.block_lt_of_cell? _ _ hw412_4; first | rwa [add_block] at this | exact this) GW413.out) | (rw [add_block]; exact Nat.ne_of_lt (Nat.lt_of_lt_of_le (by have := World.block_lt_of_cell? _ _ hw412_4; first | rwa [add_block] at this | exact this) GW413.out)) | (show (Addr.add _ _).block ≠ _; rw [add_block]; exact Nat.ne_of_lt (Nat.lt_of_lt_of_le (by have := World.block_lt_of_cell? _ _ hw412_4; first | rwa [add_block] at this | exact this) GW413.out)) | (dsimp only; exact Nat.ne_of_lt (Nat.lt_of_lt_of_le (by have := World.block_lt_of_cell? _ _ hw412_4; first | rwa [add_block] at this | exact this) GW413.out))) _).trans (((cell_far (p := ⟨gb413, _, none⟩) (by first | exact Nat.ne_of_lt (Nat.lt_of_lt_of_le (by have := World.block_lt_of_cell? _ _ hw412_4; first | rwa [add_block] at this | exact this) GW413.out) | (rw [add_block]; exact Nat.ne_of_lt (Nat.lt_of_lt_of_le (by have := World.block_lt_of_cell? _ _ hw412_4; first | rwa [add_block] at this | exact this) GW413.out)) | (show (Addr.add _ _).block ≠ _; rw [add_block]; exact Nat.ne_of_lt (Nat.lt_of_lt_of_le (by have := World.block_lt_of_cell? _ _ hw412_4; first | rwa [add_block] at this | exact this) GW413.out)) | (dsimp only; exact Nat.ne_of_lt (Nat.lt_of_lt_of_le (by have := World.block_lt_of_cell? _ _ hw412_4; first | rwa [add_block] at this | exact this) GW413.out))) _).trans (((cell_far (p := ⟨gb413, _, none⟩) (by first | exact Nat.ne_of_lt (Nat.lt_of_lt_of_le (by have := World.block_lt_of_cell? _ _ hw412_4; first | rwa [add_block] at this | exact this) GW413.out) | (rw [add_block]; exact Nat.ne_of_lt (Nat.lt_of_lt_of_le (by have := World.block_lt_of_cell? _ _ hw412_4; first | rwa [add_block] at this | exact this) GW413.out)) | (show (Addr.add _ _).block ≠ _; rw [add_block]; exact Nat.ne_of_lt (Nat.lt_of_lt_of_le (by have := World.block_lt_of_cell? _ _ hw412_4; first | rwa [add_block] at this | exact this) GW413.out)) | (dsimp only; exact Nat.ne_of_lt (Nat.lt_of_lt_of_le (by have := World.block_lt_of_cell? _ _ hw412_4; first | rwa [add_block] at this | exact this) GW413.out))) _).trans (((cell_far (p := ⟨gb413, _, none⟩) (by first | exact Nat.ne_of_lt (Nat.lt_of_lt_of_le (by have := World.block_lt_of_cell? _ _ hw412_4; first | rwa [add_block] at this | exact this) GW413.out) | (rw [add_block]; exact Nat.ne_of_lt (Nat.lt_of_lt_of_le (by have := World.block_lt_of_cell? _ _ hw412_4; first | rwa [add_block] at this | exact this) GW413.out)) | (show (Addr.add _ _).block ≠ _; rw [add_block]; exact Nat.ne_of_lt (Nat.lt_of_lt_of_le (by have := World.block_lt_of_cell? _ _ hw412_4; first | rwa [add_block] at this | exact this) GW413.out)) | (dsimp only; exact Nat.ne_of_lt (Nat.lt_of_lt_of_le (by have := World.block_lt_of_cell? _ _ hw412_4; first | rwa [add_block] at this | exact this) GW413.out))) _).trans (((cell_far (p := ⟨gb413, _, none⟩) (by first | exact Nat.ne_of_lt (Nat.lt_of_lt_of_le (by have := World.block_lt_of_cell? _ _ hw412_4; first | rwa [add_block] at this | exact this) GW413.out) | (rw [add_block]; exact Nat.ne_of_lt (Nat.lt_of_lt_of_le (by have := World.block_lt_of_cell? _ _ hw412_4; first | rwa [add_block] at this | exact this) GW413.out)) | (show (Addr.add _ _).block ≠ _; rw [add_block]; exact Nat.ne_of_lt (Nat.lt_of_lt_of_le (by have := World.block_lt_of_cell? _ _ hw412_4; first | rwa [add_block] at this | exact this) GW413.out)) | (dsimp only; exact Nat.ne_of_lt (Nat.lt_of_lt_of_le (by have := World.block_lt_of_cell? _ _ hw412_4; first | rwa [add_block] at this | exact this) GW413.out))) _).trans (hHeld.2.2.2.2.2))))))))))⟩ (fun hHeld => ?_)
          clear hK K
          refine done_ (done_of HT_.out (by kernel_rfl)) ?_
          have n0_ : Aside0 ((((((w89.setCell ⟨gb413, 0, none⟩ (.int .i64 ((rd_T26 l0_0 (ji51)).f0))).setCell ⟨gb413, 1, none⟩ (.int .i64 ((rd_T26 l0_0 (ji51)).f1))).setCell ⟨gb413, 2, none⟩ (.int .i64 ((rd_T26 l0_0 (ji51)).f2))).setCell ⟨gb413, 3, none⟩ (.int .i64 ((rd_T26 l0_0 (ji51)).f3))).setCell ⟨gb413, 4, none⟩ (.int .i64 ((rd_T26 l0_0 (ji51)).f4))).heap[gb408]? = some (.cells #[.slice (some ad412) l0_0.length c0_0] 24 (0, 0))) := ⟨by (with_reducible repeat (first | refine blk_drewN ?_ _ | refine blk_drew ?_ | refine blk_alloc ?_ _)); refine blk_far ?_ NB408_413.out _; (with_reducible repeat (first | refine blk_drewN ?_ _ | refine blk_drew ?_ | refine blk_alloc ?_ _)); refine blk_far ?_ NB408_413.out _; (with_reducible repeat (first | refine blk_drewN ?_ _ | refine blk_drew ?_ | refine blk_alloc ?_ _)); refine blk_far ?_ NB408_413.out _; (with_reducible repeat (first | refine blk_drewN ?_ _ | refine blk_drew ?_ | refine blk_alloc ?_ _)); refine blk_far ?_ NB408_413.out _; (with_reducible repeat (first | refine blk_drewN ?_ _ | refine blk_drew ?_ | refine blk_alloc ?_ _)); refine blk_far ?_ NB408_413.out _; (with_reducible repeat (first | refine blk_drewN ?_ _ | refine blk_drew ?_ | refine blk_alloc ?_ _)); exact BK408.out⟩
          have n1_ : Aside0 ((((((w89.setCell ⟨gb413, 0, none⟩ (.int .i64 ((rd_T26 l0_0 (ji51)).f0))).setCell ⟨gb413, 1, none⟩ (.int .i64 ((rd_T26 l0_0 (ji51)).f1))).setCell ⟨gb413, 2, none⟩ (.int .i64 ((rd_T26 l0_0 (ji51)).f2))).setCell ⟨gb413, 3, none⟩ (.int .i64 ((rd_T26 l0_0 (ji51)).f3))).setCell ⟨gb413, 4, none⟩ (.int .i64 ((rd_T26 l0_0 (ji51)).f4))).heap[gb413]? = some (.cells #[.int .i64 ((rd_T26 l0_0 (ji51)).f0), .int .i64 ((rd_T26 l0_0 (ji51)).f1), .int .i64 ((rd_T26 l0_0 (ji51)).f2), .int .i64 ((rd_T26 l0_0 (ji51)).f3), .int .i64 ((rd_T26 l0_0 (ji51)).f4)] 26 (0, 0))) := ⟨by (with_reducible repeat (first | refine blk_drewN ?_ _ | refine blk_drew ?_ | refine blk_alloc ?_ _)); refine blk_put (cs := #[.int .i64 ((rd_T26 l0_0 (ji51)).f0), .int .i64 ((rd_T26 l0_0 (ji51)).f1), .int .i64 ((rd_T26 l0_0 (ji51)).f2), .int .i64 ((rd_T26 l0_0 (ji51)).f3), .int .i64 0]) ?_ 4 _ rfl; (with_reducible repeat (first | refine blk_drewN ?_ _ | refine blk_drew ?_ | refine blk_alloc ?_ _)); refine blk_put (cs := #[.int .i64 ((rd_T26 l0_0 (ji51)).f0), .int .i64 ((rd_T26 l0_0 (ji51)).f1), .int .i64 ((rd_T26 l0_0 (ji51)).f2), .int .i64 0, .int .i64 0]) ?_ 3 _ rfl; (with_reducible repeat (first | refine blk_drewN ?_ _ | refine blk_drew ?_ | refine blk_alloc ?_ _)); refine blk_put (cs := #[.int .i64 ((rd_T26 l0_0 (ji51)).f0), .int .i64 ((rd_T26 l0_0 (ji51)).f1), .int .i64 0, .int .i64 0, .int .i64 0]) ?_ 2 _ rfl; (with_reducible repeat (first | refine blk_drewN ?_ _ | refine blk_drew ?_ | refine blk_alloc ?_ _)); refine blk_put (cs := #[.int .i64 ((rd_T26 l0_0 (ji51)).f0), .int .i64 0, .int .i64 0, .int .i64 0, .int .i64 0]) ?_ 1 _ rfl; (with_reducible repeat (first | refine blk_drewN ?_ _ | refine blk_drew ?_ | refine blk_alloc ?_ _)); refine blk_put (cs := #[.int .i64 0, .int .i64 0, .int .i64 0, .int .i64 0, .int .i64 0]) ?_ 0 _ rfl; (with_reducible repeat (first | refine blk_drewN ?_ _ | refine blk_drew ?_ | refine blk_alloc ?_ _)); exact BK413.out⟩
          have n2_ : Aside0 (Below w.heap.size w (((((w89.setCell ⟨gb413, 0, none⟩ (.int .i64 ((rd_T26 l0_0 (ji51)).f0))).setCell ⟨gb413, 1, none⟩ (.int .i64 ((rd_T26 l0_0 (ji51)).f1))).setCell ⟨gb413, 2, none⟩ (.int .i64 ((rd_T26 l0_0 (ji51)).f2))).setCell ⟨gb413, 3, none⟩ (.int .i64 ((rd_T26 l0_0 (ji51)).f3))).setCell ⟨gb413, 4, none⟩ (.int .i64 ((rd_T26 l0_0 (ji51)).f4)))) := ⟨by repeat (first | (with_reducible first | exact HB.out | apply below_alloc | apply pw_below_drewN | apply below_drew1 | refine below_set ?_ GE408.out | refine below_set ?_ GE413.out) | exact HB.out)⟩
          (try clear BK408)
          (try clear BK413)
          (try clear HB)
          generalize (((((w89.setCell ⟨gb413, 0, none⟩ (.int .i64 ((rd_T26 l0_0 (ji51)).f0))).setCell ⟨gb413, 1, none⟩ (.int .i64 ((rd_T26 l0_0 (ji51)).f1))).setCell ⟨gb413, 2, none⟩ (.int .i64 ((rd_T26 l0_0 (ji51)).f2))).setCell ⟨gb413, 3, none⟩ (.int .i64 ((rd_T26 l0_0 (ji51)).f3))).setCell ⟨gb413, 4, none⟩ (.int .i64 ((rd_T26 l0_0 (ji51)).f4))) = w95 at n0_ n1_ n2_ ⊢
          have BK408 := n0_
          have BK413 := n1_
          have HB := n2_
          clear n0_ n1_ n2_
          have hnb96 := NB413_408.out
          have hnc96 := NB408_413.out
          have hcz97_0 : w95.cell? ⟨gb413, 0, none⟩ = some (.int .i64 ((rd_T26 l0_0 (ji51)).f0)) := (blk_cell BK413.out 0).trans rfl
          have hcz97_1 : w95.cell? ⟨gb413, 1, none⟩ = some (.int .i64 ((rd_T26 l0_0 (ji51)).f1)) := (blk_cell BK413.out 1).trans rfl
          have hcz97_2 : w95.cell? ⟨gb413, 2, none⟩ = some (.int .i64 ((rd_T26 l0_0 (ji51)).f2)) := (blk_cell BK413.out 2).trans rfl
          have hcz97_3 : w95.cell? ⟨gb413, 3, none⟩ = some (.int .i64 ((rd_T26 l0_0 (ji51)).f3)) := (blk_cell BK413.out 3).trans rfl
          have hcz97_4 : w95.cell? ⟨gb413, 4, none⟩ = some (.int .i64 ((rd_T26 l0_0 (ji51)).f4)) := (blk_cell BK413.out 4).trans rfl
          have hfz97_0 := blk_frozen BK413.out 0
          have hfz97_1 := blk_frozen BK413.out 1
          have hfz97_2 := blk_frozen BK413.out 2
          have hfz97_3 := blk_frozen BK413.out 3
          have hfz97_4 := blk_frozen BK413.out 4
          have hcz98_0 : w95.cell? ⟨gb408, 0, none⟩ = some (.slice (some ad412) l0_0.length c0_0) := (blk_cell BK408.out 0).trans rfl
          have hfz98_0 := blk_frozen BK408.out 0
          try go_wp2_with (first | ((with_reducible refine gate_callee (f := 11) rfl ?_); refine goesL_ (some 67) rfl rfl Try.func11 (by kernel_rfl) rfl #[.agg #[.slice (some ad412) l0_0.length c0_0], .agg #[.int .i64 ((rd_T26 l0_0 (ji51)).f0), .int .i64 ((rd_T26 l0_0 (ji51)).f1), .int .i64 ((rd_T26 l0_0 (ji51)).f2), .int .i64 a2, .int .i64 a3], .int .i64 a4] rfl (by (try simp only [List.map_toArray, List.map_cons, List.map_nil]); first | done | (simp only [hji51]; rfl) | rfl | (simp only [List.length_drop, List.length_take]; rfl)) ?_; (with_reducible refine (queue_Put.calls kj6 _ _ l0_0 ((rd_T26 l0_0 (ji51)).f0) ((rd_T26 l0_0 (ji51)).f1) ((rd_T26 l0_0 (ji51)).f2) a2 a3 a4 t414 t417 _ ?side1 ?side2 A54.out).mono ?_); (case side1 => exact Kd.C_below HR0_0.out (by repeat (first | (with_reducible first | exact HB.out | apply below_alloc | apply pw_below_drewN | apply below_drew1 | refine below_set ?_ GE408.out | refine below_set ?_ GE413.out) | exact HB.out))); (case side2 => exact HC0_0.out); rintro e w99 ⟨v415, rfl, ho0, hb⟩; refine ⟨_, rfl, ?_⟩; have n0_ := Aside0.mk (Kd.R_lower (Kd.R_newB ho0 (g := gb413) (o := .cells #[.int .i64 ((rd_T26 l0_0 (ji51)).f0), .int .i64 ((rd_T26 l0_0 (ji51)).f1), .int .i64 ((rd_T26 l0_0 (ji51)).f2), .int .i64 a2, .int .i64 a3] 26 (0, 0)) (by (with_reducible repeat (first | refine blk_drewN ?_ _ | refine blk_drew ?_ | refine blk_alloc ?_ _)); refine blk_put (cs := #[.int .i64 ((rd_T26 l0_0 (ji51)).f0), .int .i64 ((rd_T26 l0_0 (ji51)).f1), .int .i64 ((rd_T26 l0_0 (ji51)).f2), .int .i64 a2, .int .i64 ((rd_T26 l0_0 (ji51)).f4)]) ?_ 4 _ rfl; (with_reducible repeat (first | refine blk_drewN ?_ _ | refine blk_drew ?_ | refine blk_alloc ?_ _)); refine blk_put (cs := #[.int .i64 ((rd_T26 l0_0 (ji51)).f0), .int .i64 ((rd_T26 l0_0 (ji51)).f1), .int .i64 ((rd_T26 l0_0 (ji51)).f2), .int .i64 ((rd_T26 l0_0 (ji51)).f3), .int .i64 ((rd_T26 l0_0 (ji51)).f4)]) ?_ 3 _ rfl; (with_reducible repeat (first | refine blk_drewN ?_ _ | refine blk_drew ?_ | refine blk_alloc ?_ _)); exact BK413.out)) (below_size (by repeat (first | (with_reducible first | exact HB.out | apply below_alloc | apply pw_below_drewN | apply below_drew1 | refine below_set ?_ GE408.out | refine below_set ?_ GE413.out) | exact HB.out)))); have n1_ := Aside0.mk (blk_below (g := gb408) (o := .cells #[.slice (some ad412) l0_0.length c0_0] 24 (0, 0)) (by (with_reducible repeat (first | refine blk_drewN ?_ _ | refine blk_drew ?_ | refine blk_alloc ?_ _)); refine blk_far ?_ NB408_413.out _; (with_reducible repeat (first | refine blk_drewN ?_ _ | refine blk_drew ?_ | refine blk_alloc ?_ _)); refine blk_far ?_ NB408_413.out _; (with_reducible repeat (first | refine blk_drewN ?_ _ | refine blk_drew ?_ | refine blk_alloc ?_ _)); exact BK408.out) hb); have n2_ := Aside0.mk (blk_below (g := gb413) (o := .cells #[.int .i64 ((rd_T26 l0_0 (ji51)).f0), .int .i64 ((rd_T26 l0_0 (ji51)).f1), .int .i64 ((rd_T26 l0_0 (ji51)).f2), .int .i64 a2, .int .i64 a3] 26 (0, 0)) (by (with_reducible repeat (first | refine blk_drewN ?_ _ | refine blk_drew ?_ | refine blk_alloc ?_ _)); refine blk_put (cs := #[.int .i64 ((rd_T26 l0_0 (ji51)).f0), .int .i64 ((rd_T26 l0_0 (ji51)).f1), .int .i64 ((rd_T26 l0_0 (ji51)).f2), .int .i64 a2, .int .i64 ((rd_T26 l0_0 (ji51)).f4)]) ?_ 4 _ rfl; (with_reducible repeat (first | refine blk_drewN ?_ _ | refine blk_drew ?_ | refine blk_alloc ?_ _)); refine blk_put (cs := #[.int .i64 ((rd_T26 l0_0 (ji51)).f0), .int .i64 ((rd_T26 l0_0 (ji51)).f1), .int .i64 ((rd_T26 l0_0 (ji51)).f2), .int .i64 ((rd_T26 l0_0 (ji51)).f3), .int .i64 ((rd_T26 l0_0 (ji51)).f4)]) ?_ 3 _ rfl; (with_reducible repeat (first | refine blk_drewN ?_ _ | refine blk_drew ?_ | refine blk_alloc ?_ _)); exact BK413.out) hb); have n3_ := Aside0.mk (below_step (by repeat (first | (with_reducible first | exact HB.out | apply below_alloc | apply pw_below_drewN | apply below_drew1 | refine below_set ?_ GE408.out | refine below_set ?_ GE413.out) | exact HB.out)) hb); clear BK408; clear BK413; clear HB; have HO416 := n0_; have BK408 := n1_; have BK413 := n2_; have HB := n3_; clear n0_ n1_ n2_ n3_; (try clear hb); (try clear hb2); (try clear hk); (try clear hi); (try clear ho0)) | ((with_reducible refine gate_dst (N := 13) rfl ?_); (try (refine gate_guard (by rfl) ?_; dsimp only)); refine box_event ?hg (N := 13) ?hd (cs := #[.slice none 0 0]) (t := 24) ?hr ?_; (case hd => rfl); (case hg => rfl); (case hr => first | (go_simp; done) | (go_simp; rfl)); intro gb418 hg w100 hbox hb; have n0_ := Aside0.mk (Kd.R_below (by (with_reducible repeat (first | apply Kd.R_alloc | apply Kd.R_drewN | apply Kd.R_drew)); exact HO416.out) hb); have n1_ := Aside0.mk (blk_below (g := gb408) (o := .cells #[.slice (some ad412) l0_0.length c0_0] 24 (0, 0)) (by (with_reducible repeat (first | refine blk_drewN ?_ _ | refine blk_drew ?_ | refine blk_alloc ?_ _)); exact BK408.out) hb); have n2_ := Aside0.mk (blk_below (g := gb413) (o := .cells #[.int .i64 ((rd_T26 l0_0 (ji51)).f0), .int .i64 ((rd_T26 l0_0 (ji51)).f1), .int .i64 ((rd_T26 l0_0 (ji51)).f2), .int .i64 a2, .int .i64 a3] 26 (0, 0)) (by (with_reducible repeat (first | refine blk_drewN ?_ _ | refine blk_drew ?_ | refine blk_alloc ?_ _)); exact BK413.out) hb); have n3_ := Aside0.mk (below_step (by repeat (first | (with_reducible first | exact HB.out | apply below_alloc | apply pw_below_drewN | apply below_drew1 | refine below_set ?_ GE408.out | refine below_set ?_ GE413.out) | exact HB.out)) hb); have n4_ := Aside0.mk (hbox); have n5_ := Aside0.mk ((by rw [hg]; exact (below_size (by repeat (first | (with_reducible first | exact HB.out | apply below_alloc | apply pw_below_drewN | apply below_drew1 | refine below_set ?_ GE408.out | refine below_set ?_ GE413.out) | exact HB.out))) : w.heap.size ≤ gb418)); have n6_ := Aside0.mk ((by rw [hg]; exact (below_size (by repeat (first | (with_reducible first | exact HB.out | apply below_alloc | apply pw_below_drewN | apply below_drew1 | refine below_set ?_ GE408.out | refine below_set ?_ GE413.out) | exact HB.out))) : w.heap.size ≤ gb418)); have n7_ := Aside0.mk ((by rw [hg]; exact Nat.ne_of_lt (blk_lt (g := gb408) (o := .cells #[.slice (some ad412) l0_0.length c0_0] 24 (0, 0)) (by (with_reducible repeat (first | refine blk_drewN ?_ _ | refine blk_drew ?_ | refine blk_alloc ?_ _)); exact BK408.out)) : gb408 ≠ gb418)); have n8_ := Aside0.mk ((by rw [hg]; exact Nat.ne_of_gt (blk_lt (g := gb408) (o := .cells #[.slice (some ad412) l0_0.length c0_0] 24 (0, 0)) (by (with_reducible repeat (first | refine blk_drewN ?_ _ | refine blk_drew ?_ | refine blk_alloc ?_ _)); exact BK408.out)) : gb418 ≠ gb408)); have n9_ := Aside0.mk ((by rw [hg]; exact Nat.ne_of_lt (blk_lt (g := gb413) (o := .cells #[.int .i64 ((rd_T26 l0_0 (ji51)).f0), .int .i64 ((rd_T26 l0_0 (ji51)).f1), .int .i64 ((rd_T26 l0_0 (ji51)).f2), .int .i64 a2, .int .i64 a3] 26 (0, 0)) (by (with_reducible repeat (first | refine blk_drewN ?_ _ | refine blk_drew ?_ | refine blk_alloc ?_ _)); exact BK413.out)) : gb413 ≠ gb418)); have n10_ := Aside0.mk ((by rw [hg]; exact Nat.ne_of_gt (blk_lt (g := gb413) (o := .cells #[.int .i64 ((rd_T26 l0_0 (ji51)).f0), .int .i64 ((rd_T26 l0_0 (ji51)).f1), .int .i64 ((rd_T26 l0_0 (ji51)).f2), .int .i64 a2, .int .i64 a3] 26 (0, 0)) (by (with_reducible repeat (first | refine blk_drewN ?_ _ | refine blk_drew ?_ | refine blk_alloc ?_ _)); exact BK413.out)) : gb418 ≠ gb413)); clear HO416; clear BK408; clear BK413; clear HB; have HO416 := n0_; have BK408 := n1_; have BK413 := n2_; have HB := n3_; have BK418 := n4_; have GW418 := n5_; have GE418 := n6_; have NB408_418 := n7_; have NB418_408 := n8_; have NB413_418 := n9_; have NB418_413 := n10_; clear n0_ n1_ n2_ n3_ n4_ n5_ n6_ n7_ n8_ n9_ n10_; clear hb hbox hg; obtain ⟨Ao101, co101, eo101⟩ := Kd.R_slice HO416.out; subst eo101; have hnb102 := NB418_408.out; have hnc102 := NB408_418.out; have hnb103 := NB418_413.out; have hnc103 := NB413_418.out; have hcz104_0 : w100.cell? ⟨gb418, 0, none⟩ = some (.slice none 0 0) := (blk_cell BK418.out 0).trans rfl; have hfz104_0 := blk_frozen BK418.out 0))
          have n0_ : Aside0 (Kd.R k26 26 (w100.setCell ⟨gb418, 0, none⟩ (.slice Ao101 t414.length co101)) w.heap.size (fun k_ => k_ ≠ gb413) (.slice Ao101 t414.length co101) t414) := ⟨by (with_reducible repeat (first | apply Kd.R_alloc | apply Kd.R_drewN | apply Kd.R_drew)); exact Kd.R_mono (Kd.R_far (p := ⟨gb418, 0, none⟩) (Kd.R_types HO416.out BK418.out (by decide)) (fun _ hk => hk.2) (.slice Ao101 t414.length co101)) (fun _ hk => hk.1.2)⟩
          have n1_ : Aside0 ((w100.setCell ⟨gb418, 0, none⟩ (.slice Ao101 t414.length co101)).heap[gb408]? = some (.cells #[.slice (some ad412) l0_0.length c0_0] 24 (0, 0))) := ⟨by (with_reducible repeat (first | refine blk_drewN ?_ _ | refine blk_drew ?_ | refine blk_alloc ?_ _)); refine blk_far ?_ NB408_418.out _; (with_reducible repeat (first | refine blk_drewN ?_ _ | refine blk_drew ?_ | refine blk_alloc ?_ _)); exact BK408.out⟩
          have n2_ : Aside0 ((w100.setCell ⟨gb418, 0, none⟩ (.slice Ao101 t414.length co101)).heap[gb413]? = some (.cells #[.int .i64 ((rd_T26 l0_0 (ji51)).f0), .int .i64 ((rd_T26 l0_0 (ji51)).f1), .int .i64 ((rd_T26 l0_0 (ji51)).f2), .int .i64 a2, .int .i64 a3] 26 (0, 0))) := ⟨by (with_reducible repeat (first | refine blk_drewN ?_ _ | refine blk_drew ?_ | refine blk_alloc ?_ _)); refine blk_far ?_ NB413_418.out _; (with_reducible repeat (first | refine blk_drewN ?_ _ | refine blk_drew ?_ | refine blk_alloc ?_ _)); exact BK413.out⟩
          have n3_ : Aside0 ((w100.setCell ⟨gb418, 0, none⟩ (.slice Ao101 t414.length co101)).heap[gb418]? = some (.cells #[.slice Ao101 t414.length co101] 24 (0, 0))) := ⟨by (with_reducible repeat (first | refine blk_drewN ?_ _ | refine blk_drew ?_ | refine blk_alloc ?_ _)); refine blk_put (cs := #[.slice none 0 0]) ?_ 0 _ rfl; (with_reducible repeat (first | refine blk_drewN ?_ _ | refine blk_drew ?_ | refine blk_alloc ?_ _)); exact BK418.out⟩
          have n4_ : Aside0 (Below w.heap.size w (w100.setCell ⟨gb418, 0, none⟩ (.slice Ao101 t414.length co101))) := ⟨by repeat (first | (with_reducible first | exact HB.out | apply below_alloc | apply pw_below_drewN | apply below_drew1 | refine below_set ?_ GE408.out | refine below_set ?_ GE413.out | refine below_set ?_ GE418.out) | exact HB.out)⟩
          (try clear HO416)
          (try clear BK408)
          (try clear BK413)
          (try clear BK418)
          (try clear HB)
          generalize (w100.setCell ⟨gb418, 0, none⟩ (.slice Ao101 t414.length co101)) = w105 at n0_ n1_ n2_ n3_ n4_ ⊢
          have HO416 := n0_
          have BK408 := n1_
          have BK413 := n2_
          have BK418 := n3_
          have HB := n4_
          clear n0_ n1_ n2_ n3_ n4_
          have n0_ := Aside0.mk (Kd.R_drew HO416.out)
          have n1_ := Aside0.mk (blk_drew BK408.out)
          have n2_ := Aside0.mk (blk_drew BK413.out)
          have n3_ := Aside0.mk (blk_drew BK418.out)
          have n4_ := Aside0.mk (below_drew1 HB.out)
          clear HO416
          clear BK408
          clear BK413
          clear BK418
          clear HB
          have HO416 := n0_
          have BK408 := n1_
          have BK413 := n2_
          have BK418 := n3_
          have HB := n4_
          clear n0_ n1_ n2_ n3_ n4_
          refine start_ (n := 15) (S := fun w' => w'.cell? ⟨gb408, 0, none⟩ = some (.slice (some ad412) l0_0.length c0_0) ∧ w'.cell? ⟨gb413, 0, none⟩ = some (.int .i64 ((rd_T26 l0_0 (ji51)).f0)) ∧ w'.cell? ⟨gb413, 1, none⟩ = some (.int .i64 ((rd_T26 l0_0 (ji51)).f1)) ∧ w'.cell? ⟨gb413, 2, none⟩ = some (.int .i64 ((rd_T26 l0_0 (ji51)).f2)) ∧ w'.cell? ⟨gb413, 3, none⟩ = some (.int .i64 a2) ∧ w'.cell? ⟨gb413, 4, none⟩ = some (.int .i64 a3)) (ds := []) #[false, false, false, false, false, false, false, false, false, false, false, false, false, false, false] (by kernel_rfl) rfl rfl ⟨(blk_cell BK408.out 0).trans rfl, (blk_cell BK413.out 0).trans rfl, (blk_cell BK413.out 1).trans rfl, (blk_cell BK413.out 2).trans rfl, (blk_cell BK413.out 3).trans rfl, (blk_cell BK413.out 4).trans rfl⟩ (fun hHeld => ?_); refine with_tabW slotmeshlaw27_QueueTwice.tab7 slotmeshlaw27_QueueTwice.bits7 (fun HT_ HW_ => ?_)
          generalize w105.drew = w106 at HO416 BK408 BK413 BK418 HB hHeld ⊢
          refine pure_ (i := 1) (N := some 72) (v := ?_) (a' := ?_) #[false, true, false, false, false, false, false, false, false, false, false, false, false, false, false] rfl rfl (any_of HT_.out (by kernel_rfl)) (fun _ _ _ h => h) (Or.inl ⟨by rfl, ?_⟩) ?_ ?_
          rotate_left
          ·intro w'
           go_simp
           with_reducible rfl
          rotate_left
          ·simp only [Act.put, List.setIfInBounds_toArray, List.set_cons_zero, List.set_cons_succ, i64_w, i32_w]
           rfl
          refine pure_ (i := 3) (N := some 74) (v := ?_) (a' := ?_) #[false, true, false, true, false, false, false, false, false, false, false, false, false, false, false] rfl rfl (any_of HT_.out (by kernel_rfl)) (fun _ _ _ h => h) (Or.inl ⟨by rfl, ?_⟩) ?_ ?_
          rotate_left
          ·intro w'
           go_simp
           with_reducible rfl
          rotate_left
          ·simp only [Act.put, List.setIfInBounds_toArray, List.set_cons_zero, List.set_cons_succ, i64_w, i32_w]
           rfl
          refine pure_ (i := 7) (N := some 78) (v := ?_) (a' := ?_) #[false, true, false, true, false, false, false, true, false, false, false, false, false, false, false] rfl rfl (any_of HT_.out (by kernel_rfl)) (fun _ _ _ h => h) (Or.inl ⟨by rfl, ?_⟩) ?_ ?_
          rotate_left
          ·intro w'
           go_simp
           with_reducible rfl
          rotate_left
          ·simp only [Act.put, List.setIfInBounds_toArray, List.set_cons_zero, List.set_cons_succ, i64_w, i32_w]
           rfl
          refine take_ (i := 0) (N := some 71) (v := ?_) (a' := ?_) #[true, true, false, true, false, false, false, true, false, false, false, false, false, false, false] rfl rfl (take_ofW HT_.out HW_.out (by kernel_rfl)) (fun _ _ _ h => h) (Or.inl ⟨by rfl, ?_⟩) hHeld ?_ ?_
          rotate_left
          ·rintro w' ⟨s0, s1, s2, s3, s4, s5⟩
           go_simp
           with_reducible rfl
          rotate_left
          ·simp only [Act.put, List.setIfInBounds_toArray, List.set_cons_zero, List.set_cons_succ, i64_w, i32_w]
           rfl
          refine take_ (i := 2) (N := some 73) (v := ?_) (a' := ?_) #[true, true, true, true, false, false, false, true, false, false, false, false, false, false, false] rfl rfl (take_ofW HT_.out HW_.out (by kernel_rfl)) (fun _ _ _ h => h) (Or.inl ⟨by rfl, ?_⟩) hHeld ?_ ?_
          rotate_left
          ·rintro w' ⟨s0, s1, s2, s3, s4, s5⟩
           go_simp
           with_reducible rfl
          rotate_left
          ·simp only [Act.put, List.setIfInBounds_toArray, List.set_cons_zero, List.set_cons_succ, i64_w, i32_w]
           rfl
          refine take_ (i := 4) (N := some 75) (v := ?_) (a' := ?_) #[true, true, true, true, true, false, false, true, false, false, false, false, false, false, false] rfl rfl (take_ofW HT_.out HW_.out (by kernel_rfl)) (fun _ _ _ h => h) (Or.inl ⟨by rfl, ?_⟩) hHeld ?_ ?_
          rotate_left
          ·rintro w' ⟨s0, s1, s2, s3, s4, s5⟩
           go_simp
           with_reducible rfl
          rotate_left
          ·simp only [Act.put, List.setIfInBounds_toArray, List.set_cons_zero, List.set_cons_succ, i64_w, i32_w]
           rfl
          refine take_ (i := 6) (N := some 77) (v := ?_) (a' := ?_) #[true, true, true, true, true, false, true, true, false, false, false, false, false, false, false] rfl rfl (take_ofW HT_.out HW_.out (by kernel_rfl)) (fun _ _ _ h => h) (Or.inl ⟨by rfl, ?_⟩) hHeld ?_ ?_
          rotate_left
          ·rintro w' ⟨s0, s1, s2, s3, s4, s5⟩
           go_simp
           with_reducible rfl
          rotate_left
          ·simp only [Act.put, List.setIfInBounds_toArray, List.set_cons_zero, List.set_cons_succ, i64_w, i32_w]
           rfl
          refine join_ (σ := Value × Value × Nat) 2 #[true, true, true, true, true, true, true, true, true, true, true, true, true, false, false] (fun s_ => [(76, .agg #[s_.1]), (79, .tuple #[.agg #[s_.2.1], .int .i64 t425]), (15, .pointer (some ⟨s_.2.2, 0, none⟩)), (70, .tuple #[.agg #[s_.2.1], .int .i64 t425]), (80, .agg #[s_.2.1]), (81, .int .i64 t425)]) (fun s_ w' => (w'.cell? ⟨gb408, 0, none⟩ = some (.slice (some ad412) l0_0.length c0_0) ∧ w'.cell? ⟨gb413, 0, none⟩ = some (.int .i64 ((rd_T26 l0_0 (ji51)).f0)) ∧ w'.cell? ⟨gb413, 1, none⟩ = some (.int .i64 ((rd_T26 l0_0 (ji51)).f1)) ∧ w'.cell? ⟨gb413, 2, none⟩ = some (.int .i64 ((rd_T26 l0_0 (ji51)).f2)) ∧ w'.cell? ⟨gb413, 3, none⟩ = some (.int .i64 a2) ∧ w'.cell? ⟨gb413, 4, none⟩ = some (.int .i64 a3)) ∧ (Kd.R k26 26 w' w.heap.size (fun k_ => some k_ ≠ (s_.1 : Value).ownBlock ∧ some k_ ≠ (s_.2.1 : Value).ownBlock ∧ k_ ≠ gb413) (.slice Ao101 t414.length co101) t414) ∧ (Kd.R k26 26 w' w.heap.size (fun k_ => some k_ ≠ (.slice Ao101 t414.length co101 : Value).ownBlock ∧ some k_ ≠ (s_.2.1 : Value).ownBlock ∧ k_ ≠ gb413) s_.1 t419) ∧ (Kd.R k26 26 w' w.heap.size (fun k_ => some k_ ≠ (.slice Ao101 t414.length co101 : Value).ownBlock ∧ some k_ ≠ (s_.1 : Value).ownBlock ∧ k_ ≠ gb413) s_.2.1 t422) ∧ (w'.heap[gb408]? = some (.cells #[.slice (some ad412) l0_0.length c0_0] 24 (0, 0))) ∧ (w'.heap[gb413]? = some (.cells #[.int .i64 ((rd_T26 l0_0 (ji51)).f0), .int .i64 ((rd_T26 l0_0 (ji51)).f1), .int .i64 ((rd_T26 l0_0 (ji51)).f2), .int .i64 a2, .int .i64 a3] 26 (0, 0))) ∧ (w'.heap[gb418]? = some (.cells #[.slice Ao101 t414.length co101] 24 (0, 0))) ∧ (w'.heap[s_.2.2]? = some (.cells #[.slice none 0 0] 24 (0, 0))) ∧ (w.heap.size ≤ s_.2.2) ∧ (w.heap.size ≤ s_.2.2) ∧ (gb408 ≠ s_.2.2) ∧ (s_.2.2 ≠ gb408) ∧ (gb413 ≠ s_.2.2) ∧ (s_.2.2 ≠ gb413) ∧ (gb418 ≠ s_.2.2) ∧ (s_.2.2 ≠ gb418) ∧ (Below w.heap.size w w')) ?_ ?_
          rotate_left
          ·intro hCont
           refine two_ (i := 5) (j := 12) (Ni := some 76) (Nj := some 15) #[true, true, true, true, true, true, true, true, false, false, false, false, false, false, false] #[true, true, true, true, true, false, true, true, false, false, false, false, true, false, false] rfl rfl rfl rfl (two_of HT_.out (by kernel_rfl)) (by decide) (by decide) (fun K hK => ?_) (fun K hK => ?_)
           ·skip
            refine goes_ Try.func16 (by kernel_rfl) rfl #[.agg #[.slice (some ad412) l0_0.length c0_0], .int .i64 ((rd_T26 l0_0 (ji51)).f0), .int .i64 ((rd_T26 l0_0 (ji51)).f1)] (by rfl) rfl rfl (by (try simp only [List.map_toArray, List.map_cons, List.map_nil]); first | done | (simp only [hji51]; rfl) | rfl | (simp only [List.length_drop, List.length_take]; rfl)) ?_
            with_reducible refine (queue_Drop.calls kj6 (fun k_ => k_ < w.heap.size) _ _ l0_0 ((rd_T26 l0_0 (ji51)).f0) ((rd_T26 l0_0 (ji51)).f1) t419 _ ?side1 A55.out).mono ?_
            (case side1 => exact Kd.V_mk HC0_0.out (Kd.F_below (Kd.C_F k26_heap HR0_0.out) HB.out))
            rintro e w107 ⟨v420, rfl, ho0, hb⟩
            refine ⟨_, rfl, ?_⟩
            have n0_ := Aside0.mk (Kd.R_elder' HO416.out (Kd.R_base ho0) hb)
            have n1_ := Aside0.mk (Kd.R_lower (Kd.R_newB (Kd.R_new' (Kd.R_mono (ok' := fun k_ => True) ho0 (fun _ hk_ => trivial)) (Kd.R_lt HO416.out)) (g := gb413) (o := .cells #[.int .i64 ((rd_T26 l0_0 (ji51)).f0), .int .i64 ((rd_T26 l0_0 (ji51)).f1), .int .i64 ((rd_T26 l0_0 (ji51)).f2), .int .i64 a2, .int .i64 a3] 26 (0, 0)) BK413.out) (below_size HB.out))
            have n2_ := Aside0.mk (blk_below (g := gb408) (o := .cells #[.slice (some ad412) l0_0.length c0_0] 24 (0, 0)) BK408.out hb)
            have n3_ := Aside0.mk (blk_below (g := gb413) (o := .cells #[.int .i64 ((rd_T26 l0_0 (ji51)).f0), .int .i64 ((rd_T26 l0_0 (ji51)).f1), .int .i64 ((rd_T26 l0_0 (ji51)).f2), .int .i64 a2, .int .i64 a3] 26 (0, 0)) BK413.out hb)
            have n4_ := Aside0.mk (blk_below (g := gb418) (o := .cells #[.slice Ao101 t414.length co101] 24 (0, 0)) BK418.out hb)
            have n5_ := Aside0.mk (below_step HB.out hb)
            clear HO416
            clear BK408
            clear BK413
            clear BK418
            clear HB
            have HO416 := n0_
            have HO421 := n1_
            have BK408 := n2_
            have BK413 := n3_
            have BK418 := n4_
            have HB := n5_
            clear n0_ n1_ n2_ n3_ n4_ n5_
            (try clear hb)
            (try clear hb2)
            (try clear hk)
            (try clear hi)
            (try clear ho0)
            obtain ⟨Ao108, co108, eo108⟩ := Kd.R_slice HO421.out
            (first | subst eo108 | (injection eo108 with f1_ f2_ f3_; have f4_ := f1_.symm; have f5_ := f3_.symm; clear f1_ f2_ f3_; subst f4_; subst f5_))
            refine hK.out _ _ ⟨(blk_cell BK408.out 0).trans rfl, (blk_cell BK413.out 0).trans rfl, (blk_cell BK413.out 1).trans rfl, (blk_cell BK413.out 2).trans rfl, (blk_cell BK413.out 3).trans rfl, (blk_cell BK413.out 4).trans rfl⟩ (fun hHeld => ?_)
            clear hK K
            refine norm_ (a' := ?_) ?_ ?_
            rotate_left
            ·show Act.put _ (some 76) _ = _
             simp only [Act.put, List.setIfInBounds_toArray, List.set_cons_zero, List.set_cons_succ, i64_w, i32_w]
             rfl
            refine two_ (i := 8) (j := 12) (Ni := some 79) (Nj := some 15) #[true, true, true, true, true, true, true, true, true, false, false, false, false, false, false] #[true, true, true, true, true, true, true, true, false, false, false, false, true, false, false] rfl rfl rfl rfl (two_of HT_.out (by kernel_rfl)) (by decide) (by decide) (fun K hK => ?_) (fun K hK => ?_)
            ·skip
             refine goes_ Try.func11 (by kernel_rfl) rfl #[.agg #[.slice Ao108 t419.length co108], .agg #[.int .i64 ((rd_T26 l0_0 (ji51)).f0), .int .i64 ((rd_T26 l0_0 (ji51)).f1), .int .i64 ((rd_T26 l0_0 (ji51)).f2), .int .i64 a2, .int .i64 a3], .int .i64 a4] (by rfl) rfl rfl (by (try simp only [List.map_toArray, List.map_cons, List.map_nil]); first | done | (simp only [hji51]; rfl) | rfl | (simp only [List.length_drop, List.length_take]; rfl)) ?_
             with_reducible refine (queue_Put.calls kj6 _ _ t419 ((rd_T26 l0_0 (ji51)).f0) ((rd_T26 l0_0 (ji51)).f1) ((rd_T26 l0_0 (ji51)).f2) a2 a3 a4 t422 t425 _ ?side1 ?side2 A56.out).mono ?_
             (case side1 => repeat (first | exact (Kd.R_reads' HO421.out).2.2 | (with_reducible refine Kd.C_alloc ?_ _) | (with_reducible refine Kd.C_drewN ?_ _) | (with_reducible refine Kd.C_drew ?_)))
             (case side2 => exact (Kd.R_reads' HO421.out).2.1)
             rintro e w109 ⟨v423, rfl, ho0, hb⟩
             refine ⟨_, rfl, ?_⟩
             have n0_ := Aside0.mk (Kd.R_elder' HO416.out (Kd.R_base ho0) hb)
             have n1_ := Aside0.mk (Kd.R_elder' HO421.out (Kd.R_base ho0) hb)
             have n2_ := Aside0.mk (Kd.R_lower (Kd.R_newB (Kd.R_new' (Kd.R_new' ho0 (Kd.R_lt HO416.out)) (Kd.R_lt HO421.out)) (g := gb413) (o := .cells #[.int .i64 ((rd_T26 l0_0 (ji51)).f0), .int .i64 ((rd_T26 l0_0 (ji51)).f1), .int .i64 ((rd_T26 l0_0 (ji51)).f2), .int .i64 a2, .int .i64 a3] 26 (0, 0)) BK413.out) (below_size HB.out))
             have n3_ := Aside0.mk (blk_below (g := gb408) (o := .cells #[.slice (some ad412) l0_0.length c0_0] 24 (0, 0)) BK408.out hb)
             have n4_ := Aside0.mk (blk_below (g := gb413) (o := .cells #[.int .i64 ((rd_T26 l0_0 (ji51)).f0), .int .i64 ((rd_T26 l0_0 (ji51)).f1), .int .i64 ((rd_T26 l0_0 (ji51)).f2), .int .i64 a2, .int .i64 a3] 26 (0, 0)) BK413.out hb)
             have n5_ := Aside0.mk (blk_below (g := gb418) (o := .cells #[.slice Ao101 t414.length co101] 24 (0, 0)) BK418.out hb)
             have n6_ := Aside0.mk (below_step HB.out hb)
             clear HO416
             clear HO421
             clear BK408
             clear BK413
             clear BK418
             clear HB
             have HO416 := n0_
             have HO421 := n1_
             have HO424 := n2_
             have BK408 := n3_
             have BK413 := n4_
             have BK418 := n5_
             have HB := n6_
             clear n0_ n1_ n2_ n3_ n4_ n5_ n6_
             (try clear hb)
             (try clear hb2)
             (try clear hk)
             (try clear hi)
             (try clear ho0)
             refine hK.out _ _ ⟨(blk_cell BK408.out 0).trans rfl, (blk_cell BK413.out 0).trans rfl, (blk_cell BK413.out 1).trans rfl, (blk_cell BK413.out 2).trans rfl, (blk_cell BK413.out 3).trans rfl, (blk_cell BK413.out 4).trans rfl⟩ (fun hHeld => ?_)
             clear hK K
             refine norm_ (a' := ?_) ?_ ?_
             rotate_left
             ·show Act.put _ (some 79) _ = _
              simp only [Act.put, List.setIfInBounds_toArray, List.set_cons_zero, List.set_cons_succ, i64_w, i32_w]
              rfl
             refine pure_ (i := 9) (N := some 70) (v := ?_) (a' := ?_) #[true, true, true, true, true, true, true, true, true, true, false, false, false, false, false] rfl rfl (any_of HT_.out (by kernel_rfl)) (fun _ _ _ h => h) (Or.inl ⟨by rfl, ?_⟩) ?_ ?_
             rotate_left
             ·intro w'
              go_simp
              with_reducible rfl
             rotate_left
             ·simp only [Act.put, List.setIfInBounds_toArray, List.set_cons_zero, List.set_cons_succ, i64_w, i32_w]
              rfl
             refine pure_ (i := 10) (N := some 80) (v := ?_) (a' := ?_) #[true, true, true, true, true, true, true, true, true, true, true, false, false, false, false] rfl rfl (any_of HT_.out (by kernel_rfl)) (fun _ _ _ h => h) (Or.inl ⟨by rfl, ?_⟩) ?_ ?_
             rotate_left
             ·intro w'
              go_simp
              with_reducible rfl
             rotate_left
             ·simp only [Act.put, List.setIfInBounds_toArray, List.set_cons_zero, List.set_cons_succ, i64_w, i32_w]
              rfl
             refine pure_ (i := 11) (N := some 81) (v := ?_) (a' := ?_) #[true, true, true, true, true, true, true, true, true, true, true, true, false, false, false] rfl rfl (any_of HT_.out (by kernel_rfl)) (fun _ _ _ h => h) (Or.inl ⟨by rfl, ?_⟩) ?_ ?_
             rotate_left
             ·intro w'
              go_simp
              with_reducible rfl
             rotate_left
             ·simp only [Act.put, List.setIfInBounds_toArray, List.set_cons_zero, List.set_cons_succ, i64_w, i32_w]
              rfl
             refine one_ (i := 12) (N := some 15) #[true, true, true, true, true, true, true, true, true, true, true, true, true, false, false] rfl rfl (one_of HT_.out (by kernel_rfl)) (by decide) (fun K hK => ?_)
             refine box_step ?hg (N := 15) ?hd (cs := #[.slice none 0 0]) (t := 24) ?hr ?_; (case hd => rfl); (case hg => rfl); (case hr => first | (go_simp; done) | (go_simp; rfl))
             intro gb426 hg w110 hbox hb
             have n0_ := Aside0.mk (Kd.R_below HO416.out hb)
             have n1_ := Aside0.mk (Kd.R_below HO421.out hb)
             have n2_ := Aside0.mk (Kd.R_below HO424.out hb)
             have n3_ := Aside0.mk (blk_below (g := gb408) (o := .cells #[.slice (some ad412) l0_0.length c0_0] 24 (0, 0)) BK408.out hb)
             have n4_ := Aside0.mk (blk_below (g := gb413) (o := .cells #[.int .i64 ((rd_T26 l0_0 (ji51)).f0), .int .i64 ((rd_T26 l0_0 (ji51)).f1), .int .i64 ((rd_T26 l0_0 (ji51)).f2), .int .i64 a2, .int .i64 a3] 26 (0, 0)) BK413.out hb)
             have n5_ := Aside0.mk (blk_below (g := gb418) (o := .cells #[.slice Ao101 t414.length co101] 24 (0, 0)) BK418.out hb)
             have n6_ := Aside0.mk (below_step HB.out hb)
             have n7_ := Aside0.mk (hbox)
             have n8_ := Aside0.mk ((by rw [hg]; exact (below_size HB.out) : w.heap.size ≤ gb426))
             have n9_ := Aside0.mk ((by rw [hg]; exact (below_size HB.out) : w.heap.size ≤ gb426))
             have n10_ := Aside0.mk ((by rw [hg]; exact Nat.ne_of_lt (blk_lt (g := gb408) (o := .cells #[.slice (some ad412) l0_0.length c0_0] 24 (0, 0)) BK408.out) : gb408 ≠ gb426))
             have n11_ := Aside0.mk ((by rw [hg]; exact Nat.ne_of_gt (blk_lt (g := gb408) (o := .cells #[.slice (some ad412) l0_0.length c0_0] 24 (0, 0)) BK408.out) : gb426 ≠ gb408))
             have n12_ := Aside0.mk ((by rw [hg]; exact Nat.ne_of_lt (blk_lt (g := gb413) (o := .cells #[.int .i64 ((rd_T26 l0_0 (ji51)).f0), .int .i64 ((rd_T26 l0_0 (ji51)).f1), .int .i64 ((rd_T26 l0_0 (ji51)).f2), .int .i64 a2, .int .i64 a3] 26 (0, 0)) BK413.out) : gb413 ≠ gb426))
             have n13_ := Aside0.mk ((by rw [hg]; exact Nat.ne_of_gt (blk_lt (g := gb413) (o := .cells #[.int .i64 ((rd_T26 l0_0 (ji51)).f0), .int .i64 ((rd_T26 l0_0 (ji51)).f1), .int .i64 ((rd_T26 l0_0 (ji51)).f2), .int .i64 a2, .int .i64 a3] 26 (0, 0)) BK413.out) : gb426 ≠ gb413))
             have n14_ := Aside0.mk ((by rw [hg]; exact Nat.ne_of_lt (blk_lt (g := gb418) (o := .cells #[.slice Ao101 t414.length co101] 24 (0, 0)) BK418.out) : gb418 ≠ gb426))
             have n15_ := Aside0.mk ((by rw [hg]; exact Nat.ne_of_gt (blk_lt (g := gb418) (o := .cells #[.slice Ao101 t414.length co101] 24 (0, 0)) BK418.out) : gb426 ≠ gb418))
             clear HO416
             clear HO421
             clear HO424
             clear BK408
             clear BK413
             clear BK418
             clear HB
             have HO416 := n0_
             have HO421 := n1_
             have HO424 := n2_
             have BK408 := n3_
             have BK413 := n4_
             have BK418 := n5_
             have HB := n6_
             have BK426 := n7_
             have GW426 := n8_
             have GE426 := n9_
             have NB408_426 := n10_
             have NB426_408 := n11_
             have NB413_426 := n12_
             have NB426_413 := n13_
             have NB418_426 := n14_
             have NB426_418 := n15_
             clear n0_ n1_ n2_ n3_ n4_ n5_ n6_ n7_ n8_ n9_ n10_ n11_ n12_ n13_ n14_ n15_
             clear hb hbox hg
             refine hK.out _ _ ⟨(blk_cell BK408.out 0).trans rfl, (blk_cell BK413.out 0).trans rfl, (blk_cell BK413.out 1).trans rfl, (blk_cell BK413.out 2).trans rfl, (blk_cell BK413.out 3).trans rfl, (blk_cell BK413.out 4).trans rfl⟩ (fun hHeld => ?_)
             clear hK K
             refine norm_ (a' := ?_) ?_ ?_
             rotate_left
             ·show Act.put _ (some 15) _ = _
              simp only [Act.put, List.setIfInBounds_toArray, List.set_cons_zero, List.set_cons_succ, i64_w, i32_w]
              rfl
             exact norm_ (by simp only [putAll, Act.put, List.setIfInBounds_toArray, List.set_cons_zero, List.set_cons_succ]) (hCont (.slice Ao108 t419.length co108, v423, gb426) _ ⟨hHeld, (by (with_reducible repeat (first | apply Kd.R_alloc | apply Kd.R_drewN | apply Kd.R_drew)); exact Kd.R_mono HO416.out (fun _ hk => ⟨hk.1.2, ⟨hk.2, hk.1.1⟩⟩)), (by (with_reducible repeat (first | apply Kd.R_alloc | apply Kd.R_drewN | apply Kd.R_drew)); exact Kd.R_mono HO421.out (fun _ hk => ⟨hk.1.1.2, ⟨hk.2, hk.1.2⟩⟩)), (by (with_reducible repeat (first | apply Kd.R_alloc | apply Kd.R_drewN | apply Kd.R_drew)); exact Kd.R_mono HO424.out (fun _ hk => ⟨hk.1.1.2, ⟨hk.1.2, hk.2⟩⟩)), BK408.out, BK413.out, BK418.out, BK426.out, GW426.out, GE426.out, NB408_426.out, NB426_408.out, NB413_426.out, NB426_413.out, NB418_426.out, NB426_418.out, HB.out⟩)
            ·skip
             refine box_step ?hg (N := 15) ?hd (cs := #[.slice none 0 0]) (t := 24) ?hr ?_; (case hd => rfl); (case hg => rfl); (case hr => first | (go_simp; done) | (go_simp; rfl))
             intro gb426 hg w108 hbox hb
             have n0_ := Aside0.mk (Kd.R_below HO416.out hb)
             have n1_ := Aside0.mk (Kd.R_below HO421.out hb)
             have n2_ := Aside0.mk (blk_below (g := gb408) (o := .cells #[.slice (some ad412) l0_0.length c0_0] 24 (0, 0)) BK408.out hb)
             have n3_ := Aside0.mk (blk_below (g := gb413) (o := .cells #[.int .i64 ((rd_T26 l0_0 (ji51)).f0), .int .i64 ((rd_T26 l0_0 (ji51)).f1), .int .i64 ((rd_T26 l0_0 (ji51)).f2), .int .i64 a2, .int .i64 a3] 26 (0, 0)) BK413.out hb)
             have n4_ := Aside0.mk (blk_below (g := gb418) (o := .cells #[.slice Ao101 t414.length co101] 24 (0, 0)) BK418.out hb)
             have n5_ := Aside0.mk (below_step HB.out hb)
             have n6_ := Aside0.mk (hbox)
             have n7_ := Aside0.mk ((by rw [hg]; exact (below_size HB.out) : w.heap.size ≤ gb426))
             have n8_ := Aside0.mk ((by rw [hg]; exact (below_size HB.out) : w.heap.size ≤ gb426))
             have n9_ := Aside0.mk ((by rw [hg]; exact Nat.ne_of_lt (blk_lt (g := gb408) (o := .cells #[.slice (some ad412) l0_0.length c0_0] 24 (0, 0)) BK408.out) : gb408 ≠ gb426))
             have n10_ := Aside0.mk ((by rw [hg]; exact Nat.ne_of_gt (blk_lt (g := gb408) (o := .cells #[.slice (some ad412) l0_0.length c0_0] 24 (0, 0)) BK408.out) : gb426 ≠ gb408))
             have n11_ := Aside0.mk ((by rw [hg]; exact Nat.ne_of_lt (blk_lt (g := gb413) (o := .cells #[.int .i64 ((rd_T26 l0_0 (ji51)).f0), .int .i64 ((rd_T26 l0_0 (ji51)).f1), .int .i64 ((rd_T26 l0_0 (ji51)).f2), .int .i64 a2, .int .i64 a3] 26 (0, 0)) BK413.out) : gb413 ≠ gb426))
             have n12_ := Aside0.mk ((by rw [hg]; exact Nat.ne_of_gt (blk_lt (g := gb413) (o := .cells #[.int .i64 ((rd_T26 l0_0 (ji51)).f0), .int .i64 ((rd_T26 l0_0 (ji51)).f1), .int .i64 ((rd_T26 l0_0 (ji51)).f2), .int .i64 a2, .int .i64 a3] 26 (0, 0)) BK413.out) : gb426 ≠ gb413))
             have n13_ := Aside0.mk ((by rw [hg]; exact Nat.ne_of_lt (blk_lt (g := gb418) (o := .cells #[.slice Ao101 t414.length co101] 24 (0, 0)) BK418.out) : gb418 ≠ gb426))
             have n14_ := Aside0.mk ((by rw [hg]; exact Nat.ne_of_gt (blk_lt (g := gb418) (o := .cells #[.slice Ao101 t414.length co101] 24 (0, 0)) BK418.out) : gb426 ≠ gb418))
             clear HO416
             clear HO421
             clear BK408
             clear BK413
             clear BK418
             clear HB
             have HO416 := n0_
             have HO421 := n1_
             have BK408 := n2_
             have BK413 := n3_
             have BK418 := n4_
             have HB := n5_
             have BK426 := n6_
             have GW426 := n7_
             have GE426 := n8_
             have NB408_426 := n9_
             have NB426_408 := n10_
             have NB413_426 := n11_
             have NB426_413 := n12_
             have NB418_426 := n13_
             have NB426_418 := n14_
             clear n0_ n1_ n2_ n3_ n4_ n5_ n6_ n7_ n8_ n9_ n10_ n11_ n12_ n13_ n14_
             clear hb hbox hg
             obtain ⟨Ao109, co109, eo109⟩ := Kd.R_slice HO421.out
             (first | subst eo109 | (injection eo109 with f1_ f2_ f3_; have f4_ := f1_.symm; have f5_ := f3_.symm; clear f1_ f2_ f3_; subst f4_; subst f5_))
             refine hK.out _ _ ⟨(blk_cell BK408.out 0).trans rfl, (blk_cell BK413.out 0).trans rfl, (blk_cell BK413.out 1).trans rfl, (blk_cell BK413.out 2).trans rfl, (blk_cell BK413.out 3).trans rfl, (blk_cell BK413.out 4).trans rfl⟩ (fun hHeld => ?_)
             clear hK K
             refine norm_ (a' := ?_) ?_ ?_
             rotate_left
             ·show Act.put _ (some 15) _ = _
              simp only [Act.put, List.setIfInBounds_toArray, List.set_cons_zero, List.set_cons_succ, i64_w, i32_w]
              rfl
             refine one_ (i := 8) (N := some 79) #[true, true, true, true, true, true, true, true, true, false, false, false, true, false, false] rfl rfl (one_of HT_.out (by kernel_rfl)) (by decide) (fun K hK => ?_)
             refine goes_ Try.func11 (by kernel_rfl) rfl #[.agg #[.slice Ao109 t419.length co109], .agg #[.int .i64 ((rd_T26 l0_0 (ji51)).f0), .int .i64 ((rd_T26 l0_0 (ji51)).f1), .int .i64 ((rd_T26 l0_0 (ji51)).f2), .int .i64 a2, .int .i64 a3], .int .i64 a4] (by rfl) rfl rfl (by (try simp only [List.map_toArray, List.map_cons, List.map_nil]); first | done | (simp only [hji51]; rfl) | rfl | (simp only [List.length_drop, List.length_take]; rfl)) ?_
             with_reducible refine (queue_Put.calls kj6 _ _ t419 ((rd_T26 l0_0 (ji51)).f0) ((rd_T26 l0_0 (ji51)).f1) ((rd_T26 l0_0 (ji51)).f2) a2 a3 a4 t422 t425 _ ?side1 ?side2 A56.out).mono ?_
             (case side1 => repeat (first | exact (Kd.R_reads' HO421.out).2.2 | (with_reducible refine Kd.C_alloc ?_ _) | (with_reducible refine Kd.C_drewN ?_ _) | (with_reducible refine Kd.C_drew ?_)))
             (case side2 => exact (Kd.R_reads' HO421.out).2.1)
             rintro e w110 ⟨v423, rfl, ho0, hb⟩
             refine ⟨_, rfl, ?_⟩
             have n0_ := Aside0.mk (Kd.R_elder' HO416.out (Kd.R_base ho0) hb)
             have n1_ := Aside0.mk (Kd.R_elder' HO421.out (Kd.R_base ho0) hb)
             have n2_ := Aside0.mk (Kd.R_lower (Kd.R_newB (Kd.R_new' (Kd.R_new' ho0 (Kd.R_lt HO416.out)) (Kd.R_lt HO421.out)) (g := gb413) (o := .cells #[.int .i64 ((rd_T26 l0_0 (ji51)).f0), .int .i64 ((rd_T26 l0_0 (ji51)).f1), .int .i64 ((rd_T26 l0_0 (ji51)).f2), .int .i64 a2, .int .i64 a3] 26 (0, 0)) BK413.out) (below_size HB.out))
             have n3_ := Aside0.mk (blk_below (g := gb408) (o := .cells #[.slice (some ad412) l0_0.length c0_0] 24 (0, 0)) BK408.out hb)
             have n4_ := Aside0.mk (blk_below (g := gb413) (o := .cells #[.int .i64 ((rd_T26 l0_0 (ji51)).f0), .int .i64 ((rd_T26 l0_0 (ji51)).f1), .int .i64 ((rd_T26 l0_0 (ji51)).f2), .int .i64 a2, .int .i64 a3] 26 (0, 0)) BK413.out hb)
             have n5_ := Aside0.mk (blk_below (g := gb418) (o := .cells #[.slice Ao101 t414.length co101] 24 (0, 0)) BK418.out hb)
             have n6_ := Aside0.mk (blk_below (g := gb426) (o := .cells #[.slice none 0 0] 24 (0, 0)) BK426.out hb)
             have n7_ := Aside0.mk (below_step HB.out hb)
             clear HO416
             clear HO421
             clear BK408
             clear BK413
             clear BK418
             clear BK426
             clear HB
             have HO416 := n0_
             have HO421 := n1_
             have HO424 := n2_
             have BK408 := n3_
             have BK413 := n4_
             have BK418 := n5_
             have BK426 := n6_
             have HB := n7_
             clear n0_ n1_ n2_ n3_ n4_ n5_ n6_ n7_
             (try clear hb)
             (try clear hb2)
             (try clear hk)
             (try clear hi)
             (try clear ho0)
             refine hK.out _ _ ⟨(blk_cell BK408.out 0).trans rfl, (blk_cell BK413.out 0).trans rfl, (blk_cell BK413.out 1).trans rfl, (blk_cell BK413.out 2).trans rfl, (blk_cell BK413.out 3).trans rfl, (blk_cell BK413.out 4).trans rfl⟩ (fun hHeld => ?_)
             clear hK K
             refine norm_ (a' := ?_) ?_ ?_
             rotate_left
             ·show Act.put _ (some 79) _ = _
              simp only [Act.put, List.setIfInBounds_toArray, List.set_cons_zero, List.set_cons_succ, i64_w, i32_w]
              rfl
             refine pure_ (i := 9) (N := some 70) (v := ?_) (a' := ?_) #[true, true, true, true, true, true, true, true, true, true, false, false, true, false, false] rfl rfl (any_of HT_.out (by kernel_rfl)) (fun _ _ _ h => h) (Or.inl ⟨by rfl, ?_⟩) ?_ ?_
             rotate_left
             ·intro w'
              go_simp
              with_reducible rfl
             rotate_left
             ·simp only [Act.put, List.setIfInBounds_toArray, List.set_cons_zero, List.set_cons_succ, i64_w, i32_w]
              rfl
             refine pure_ (i := 10) (N := some 80) (v := ?_) (a' := ?_) #[true, true, true, true, true, true, true, true, true, true, true, false, true, false, false] rfl rfl (any_of HT_.out (by kernel_rfl)) (fun _ _ _ h => h) (Or.inl ⟨by rfl, ?_⟩) ?_ ?_
             rotate_left
             ·intro w'
              go_simp
              with_reducible rfl
             rotate_left
             ·simp only [Act.put, List.setIfInBounds_toArray, List.set_cons_zero, List.set_cons_succ, i64_w, i32_w]
              rfl
             refine pure_ (i := 11) (N := some 81) (v := ?_) (a' := ?_) #[true, true, true, true, true, true, true, true, true, true, true, true, true, false, false] rfl rfl (any_of HT_.out (by kernel_rfl)) (fun _ _ _ h => h) (Or.inl ⟨by rfl, ?_⟩) ?_ ?_
             rotate_left
             ·intro w'
              go_simp
              with_reducible rfl
             rotate_left
             ·simp only [Act.put, List.setIfInBounds_toArray, List.set_cons_zero, List.set_cons_succ, i64_w, i32_w]
              rfl
             exact norm_ (by simp only [putAll, Act.put, List.setIfInBounds_toArray, List.set_cons_zero, List.set_cons_succ]) (hCont (.slice Ao109 t419.length co109, v423, gb426) _ ⟨hHeld, (by (with_reducible repeat (first | apply Kd.R_alloc | apply Kd.R_drewN | apply Kd.R_drew)); exact Kd.R_mono HO416.out (fun _ hk => ⟨hk.1.2, ⟨hk.2, hk.1.1⟩⟩)), (by (with_reducible repeat (first | apply Kd.R_alloc | apply Kd.R_drewN | apply Kd.R_drew)); exact Kd.R_mono HO421.out (fun _ hk => ⟨hk.1.1.2, ⟨hk.2, hk.1.2⟩⟩)), (by (with_reducible repeat (first | apply Kd.R_alloc | apply Kd.R_drewN | apply Kd.R_drew)); exact Kd.R_mono HO424.out (fun _ hk => ⟨hk.1.1.2, ⟨hk.1.2, hk.2⟩⟩)), BK408.out, BK413.out, BK418.out, BK426.out, GW426.out, GE426.out, NB408_426.out, NB426_408.out, NB413_426.out, NB426_413.out, NB418_426.out, NB426_418.out, HB.out⟩)
           ·skip
            refine box_step ?hg (N := 15) ?hd (cs := #[.slice none 0 0]) (t := 24) ?hr ?_; (case hd => rfl); (case hg => rfl); (case hr => first | (go_simp; done) | (go_simp; rfl))
            intro gb426 hg w107 hbox hb
            have n0_ := Aside0.mk (Kd.R_below HO416.out hb)
            have n1_ := Aside0.mk (blk_below (g := gb408) (o := .cells #[.slice (some ad412) l0_0.length c0_0] 24 (0, 0)) BK408.out hb)
            have n2_ := Aside0.mk (blk_below (g := gb413) (o := .cells #[.int .i64 ((rd_T26 l0_0 (ji51)).f0), .int .i64 ((rd_T26 l0_0 (ji51)).f1), .int .i64 ((rd_T26 l0_0 (ji51)).f2), .int .i64 a2, .int .i64 a3] 26 (0, 0)) BK413.out hb)
            have n3_ := Aside0.mk (blk_below (g := gb418) (o := .cells #[.slice Ao101 t414.length co101] 24 (0, 0)) BK418.out hb)
            have n4_ := Aside0.mk (below_step HB.out hb)
            have n5_ := Aside0.mk (hbox)
            have n6_ := Aside0.mk ((by rw [hg]; exact (below_size HB.out) : w.heap.size ≤ gb426))
            have n7_ := Aside0.mk ((by rw [hg]; exact (below_size HB.out) : w.heap.size ≤ gb426))
            have n8_ := Aside0.mk ((by rw [hg]; exact Nat.ne_of_lt (blk_lt (g := gb408) (o := .cells #[.slice (some ad412) l0_0.length c0_0] 24 (0, 0)) BK408.out) : gb408 ≠ gb426))
            have n9_ := Aside0.mk ((by rw [hg]; exact Nat.ne_of_gt (blk_lt (g := gb408) (o := .cells #[.slice (some ad412) l0_0.length c0_0] 24 (0, 0)) BK408.out) : gb426 ≠ gb408))
            have n10_ := Aside0.mk ((by rw [hg]; exact Nat.ne_of_lt (blk_lt (g := gb413) (o := .cells #[.int .i64 ((rd_T26 l0_0 (ji51)).f0), .int .i64 ((rd_T26 l0_0 (ji51)).f1), .int .i64 ((rd_T26 l0_0 (ji51)).f2), .int .i64 a2, .int .i64 a3] 26 (0, 0)) BK413.out) : gb413 ≠ gb426))
            have n11_ := Aside0.mk ((by rw [hg]; exact Nat.ne_of_gt (blk_lt (g := gb413) (o := .cells #[.int .i64 ((rd_T26 l0_0 (ji51)).f0), .int .i64 ((rd_T26 l0_0 (ji51)).f1), .int .i64 ((rd_T26 l0_0 (ji51)).f2), .int .i64 a2, .int .i64 a3] 26 (0, 0)) BK413.out) : gb426 ≠ gb413))
            have n12_ := Aside0.mk ((by rw [hg]; exact Nat.ne_of_lt (blk_lt (g := gb418) (o := .cells #[.slice Ao101 t414.length co101] 24 (0, 0)) BK418.out) : gb418 ≠ gb426))
            have n13_ := Aside0.mk ((by rw [hg]; exact Nat.ne_of_gt (blk_lt (g := gb418) (o := .cells #[.slice Ao101 t414.length co101] 24 (0, 0)) BK418.out) : gb426 ≠ gb418))
            clear HO416
            clear BK408
            clear BK413
            clear BK418
            clear HB
            have HO416 := n0_
            have BK408 := n1_
            have BK413 := n2_
            have BK418 := n3_
            have HB := n4_
            have BK426 := n5_
            have GW426 := n6_
            have GE426 := n7_
            have NB408_426 := n8_
            have NB426_408 := n9_
            have NB413_426 := n10_
            have NB426_413 := n11_
            have NB418_426 := n12_
            have NB426_418 := n13_
            clear n0_ n1_ n2_ n3_ n4_ n5_ n6_ n7_ n8_ n9_ n10_ n11_ n12_ n13_
            clear hb hbox hg
            refine hK.out _ _ ⟨(blk_cell BK408.out 0).trans rfl, (blk_cell BK413.out 0).trans rfl, (blk_cell BK413.out 1).trans rfl, (blk_cell BK413.out 2).trans rfl, (blk_cell BK413.out 3).trans rfl, (blk_cell BK413.out 4).trans rfl⟩ (fun hHeld => ?_)
            clear hK K
            refine norm_ (a' := ?_) ?_ ?_
            rotate_left
            ·show Act.put _ (some 15) _ = _
             simp only [Act.put, List.setIfInBounds_toArray, List.set_cons_zero, List.set_cons_succ, i64_w, i32_w]
             rfl
            refine one_ (i := 5) (N := some 76) #[true, true, true, true, true, true, true, true, false, false, false, false, true, false, false] rfl rfl (one_of HT_.out (by kernel_rfl)) (by decide) (fun K hK => ?_)
            refine goes_ Try.func16 (by kernel_rfl) rfl #[.agg #[.slice (some ad412) l0_0.length c0_0], .int .i64 ((rd_T26 l0_0 (ji51)).f0), .int .i64 ((rd_T26 l0_0 (ji51)).f1)] (by rfl) rfl rfl (by (try simp only [List.map_toArray, List.map_cons, List.map_nil]); first | done | (simp only [hji51]; rfl) | rfl | (simp only [List.length_drop, List.length_take]; rfl)) ?_
            with_reducible refine (queue_Drop.calls kj6 (fun k_ => k_ < w.heap.size) _ _ l0_0 ((rd_T26 l0_0 (ji51)).f0) ((rd_T26 l0_0 (ji51)).f1) t419 _ ?side1 A55.out).mono ?_
            (case side1 => exact Kd.V_mk HC0_0.out (Kd.F_below (Kd.C_F k26_heap HR0_0.out) HB.out))
            rintro e w108 ⟨v420, rfl, ho0, hb⟩
            refine ⟨_, rfl, ?_⟩
            have n0_ := Aside0.mk (Kd.R_elder' HO416.out (Kd.R_base ho0) hb)
            have n1_ := Aside0.mk (Kd.R_lower (Kd.R_newB (Kd.R_new' (Kd.R_mono (ok' := fun k_ => True) ho0 (fun _ hk_ => trivial)) (Kd.R_lt HO416.out)) (g := gb413) (o := .cells #[.int .i64 ((rd_T26 l0_0 (ji51)).f0), .int .i64 ((rd_T26 l0_0 (ji51)).f1), .int .i64 ((rd_T26 l0_0 (ji51)).f2), .int .i64 a2, .int .i64 a3] 26 (0, 0)) BK413.out) (below_size HB.out))
            have n2_ := Aside0.mk (blk_below (g := gb408) (o := .cells #[.slice (some ad412) l0_0.length c0_0] 24 (0, 0)) BK408.out hb)
            have n3_ := Aside0.mk (blk_below (g := gb413) (o := .cells #[.int .i64 ((rd_T26 l0_0 (ji51)).f0), .int .i64 ((rd_T26 l0_0 (ji51)).f1), .int .i64 ((rd_T26 l0_0 (ji51)).f2), .int .i64 a2, .int .i64 a3] 26 (0, 0)) BK413.out hb)
            have n4_ := Aside0.mk (blk_below (g := gb418) (o := .cells #[.slice Ao101 t414.length co101] 24 (0, 0)) BK418.out hb)
            have n5_ := Aside0.mk (blk_below (g := gb426) (o := .cells #[.slice none 0 0] 24 (0, 0)) BK426.out hb)
            have n6_ := Aside0.mk (below_step HB.out hb)
            clear HO416
            clear BK408
            clear BK413
            clear BK418
            clear BK426
            clear HB
            have HO416 := n0_
            have HO421 := n1_
            have BK408 := n2_
            have BK413 := n3_
            have BK418 := n4_
            have BK426 := n5_
            have HB := n6_
            clear n0_ n1_ n2_ n3_ n4_ n5_ n6_
            (try clear hb)
            (try clear hb2)
            (try clear hk)
            (try clear hi)
            (try clear ho0)
            obtain ⟨Ao109, co109, eo109⟩ := Kd.R_slice HO421.out
            (first | subst eo109 | (injection eo109 with f1_ f2_ f3_; have f4_ := f1_.symm; have f5_ := f3_.symm; clear f1_ f2_ f3_; subst f4_; subst f5_))
            refine hK.out _ _ ⟨(blk_cell BK408.out 0).trans rfl, (blk_cell BK413.out 0).trans rfl, (blk_cell BK413.out 1).trans rfl, (blk_cell BK413.out 2).trans rfl, (blk_cell BK413.out 3).trans rfl, (blk_cell BK413.out 4).trans rfl⟩ (fun hHeld => ?_)
            clear hK K
            refine norm_ (a' := ?_) ?_ ?_
            rotate_left
            ·show Act.put _ (some 76) _ = _
             simp only [Act.put, List.setIfInBounds_toArray, List.set_cons_zero, List.set_cons_succ, i64_w, i32_w]
             rfl
            refine one_ (i := 8) (N := some 79) #[true, true, true, true, true, true, true, true, true, false, false, false, true, false, false] rfl rfl (one_of HT_.out (by kernel_rfl)) (by decide) (fun K hK => ?_)
            refine goes_ Try.func11 (by kernel_rfl) rfl #[.agg #[.slice Ao109 t419.length co109], .agg #[.int .i64 ((rd_T26 l0_0 (ji51)).f0), .int .i64 ((rd_T26 l0_0 (ji51)).f1), .int .i64 ((rd_T26 l0_0 (ji51)).f2), .int .i64 a2, .int .i64 a3], .int .i64 a4] (by rfl) rfl rfl (by (try simp only [List.map_toArray, List.map_cons, List.map_nil]); first | done | (simp only [hji51]; rfl) | rfl | (simp only [List.length_drop, List.length_take]; rfl)) ?_
            with_reducible refine (queue_Put.calls kj6 _ _ t419 ((rd_T26 l0_0 (ji51)).f0) ((rd_T26 l0_0 (ji51)).f1) ((rd_T26 l0_0 (ji51)).f2) a2 a3 a4 t422 t425 _ ?side1 ?side2 A56.out).mono ?_
            (case side1 => repeat (first | exact (Kd.R_reads' HO421.out).2.2 | (with_reducible refine Kd.C_alloc ?_ _) | (with_reducible refine Kd.C_drewN ?_ _) | (with_reducible refine Kd.C_drew ?_)))
            (case side2 => exact (Kd.R_reads' HO421.out).2.1)
            rintro e w110 ⟨v423, rfl, ho0, hb⟩
            refine ⟨_, rfl, ?_⟩
            have n0_ := Aside0.mk (Kd.R_elder' HO416.out (Kd.R_base ho0) hb)
            have n1_ := Aside0.mk (Kd.R_elder' HO421.out (Kd.R_base ho0) hb)
            have n2_ := Aside0.mk (Kd.R_lower (Kd.R_newB (Kd.R_new' (Kd.R_new' ho0 (Kd.R_lt HO416.out)) (Kd.R_lt HO421.out)) (g := gb413) (o := .cells #[.int .i64 ((rd_T26 l0_0 (ji51)).f0), .int .i64 ((rd_T26 l0_0 (ji51)).f1), .int .i64 ((rd_T26 l0_0 (ji51)).f2), .int .i64 a2, .int .i64 a3] 26 (0, 0)) BK413.out) (below_size HB.out))
            have n3_ := Aside0.mk (blk_below (g := gb408) (o := .cells #[.slice (some ad412) l0_0.length c0_0] 24 (0, 0)) BK408.out hb)
            have n4_ := Aside0.mk (blk_below (g := gb413) (o := .cells #[.int .i64 ((rd_T26 l0_0 (ji51)).f0), .int .i64 ((rd_T26 l0_0 (ji51)).f1), .int .i64 ((rd_T26 l0_0 (ji51)).f2), .int .i64 a2, .int .i64 a3] 26 (0, 0)) BK413.out hb)
            have n5_ := Aside0.mk (blk_below (g := gb418) (o := .cells #[.slice Ao101 t414.length co101] 24 (0, 0)) BK418.out hb)
            have n6_ := Aside0.mk (blk_below (g := gb426) (o := .cells #[.slice none 0 0] 24 (0, 0)) BK426.out hb)
            have n7_ := Aside0.mk (below_step HB.out hb)
            clear HO416
            clear HO421
            clear BK408
            clear BK413
            clear BK418
            clear BK426
            clear HB
            have HO416 := n0_
            have HO421 := n1_
            have HO424 := n2_
            have BK408 := n3_
            have BK413 := n4_
            have BK418 := n5_
            have BK426 := n6_
            have HB := n7_
            clear n0_ n1_ n2_ n3_ n4_ n5_ n6_ n7_
            (try clear hb)
            (try clear hb2)
            (try clear hk)
            (try clear hi)
            (try clear ho0)
            refine hK.out _ _ ⟨(blk_cell BK408.out 0).trans rfl, (blk_cell BK413.out 0).trans rfl, (blk_cell BK413.out 1).trans rfl, (blk_cell BK413.out 2).trans rfl, (blk_cell BK413.out 3).trans rfl, (blk_cell BK413.out 4).trans rfl⟩ (fun hHeld => ?_)
            clear hK K
            refine norm_ (a' := ?_) ?_ ?_
            rotate_left
            ·show Act.put _ (some 79) _ = _
             simp only [Act.put, List.setIfInBounds_toArray, List.set_cons_zero, List.set_cons_succ, i64_w, i32_w]
             rfl
            refine pure_ (i := 9) (N := some 70) (v := ?_) (a' := ?_) #[true, true, true, true, true, true, true, true, true, true, false, false, true, false, false] rfl rfl (any_of HT_.out (by kernel_rfl)) (fun _ _ _ h => h) (Or.inl ⟨by rfl, ?_⟩) ?_ ?_
            rotate_left
            ·intro w'
             go_simp
             with_reducible rfl
            rotate_left
            ·simp only [Act.put, List.setIfInBounds_toArray, List.set_cons_zero, List.set_cons_succ, i64_w, i32_w]
             rfl
            refine pure_ (i := 10) (N := some 80) (v := ?_) (a' := ?_) #[true, true, true, true, true, true, true, true, true, true, true, false, true, false, false] rfl rfl (any_of HT_.out (by kernel_rfl)) (fun _ _ _ h => h) (Or.inl ⟨by rfl, ?_⟩) ?_ ?_
            rotate_left
            ·intro w'
             go_simp
             with_reducible rfl
            rotate_left
            ·simp only [Act.put, List.setIfInBounds_toArray, List.set_cons_zero, List.set_cons_succ, i64_w, i32_w]
             rfl
            refine pure_ (i := 11) (N := some 81) (v := ?_) (a' := ?_) #[true, true, true, true, true, true, true, true, true, true, true, true, true, false, false] rfl rfl (any_of HT_.out (by kernel_rfl)) (fun _ _ _ h => h) (Or.inl ⟨by rfl, ?_⟩) ?_ ?_
            rotate_left
            ·intro w'
             go_simp
             with_reducible rfl
            rotate_left
            ·simp only [Act.put, List.setIfInBounds_toArray, List.set_cons_zero, List.set_cons_succ, i64_w, i32_w]
             rfl
            exact norm_ (by simp only [putAll, Act.put, List.setIfInBounds_toArray, List.set_cons_zero, List.set_cons_succ]) (hCont (.slice Ao109 t419.length co109, v423, gb426) _ ⟨hHeld, (by (with_reducible repeat (first | apply Kd.R_alloc | apply Kd.R_drewN | apply Kd.R_drew)); exact Kd.R_mono HO416.out (fun _ hk => ⟨hk.1.2, ⟨hk.2, hk.1.1⟩⟩)), (by (with_reducible repeat (first | apply Kd.R_alloc | apply Kd.R_drewN | apply Kd.R_drew)); exact Kd.R_mono HO421.out (fun _ hk => ⟨hk.1.1.2, ⟨hk.2, hk.1.2⟩⟩)), (by (with_reducible repeat (first | apply Kd.R_alloc | apply Kd.R_drewN | apply Kd.R_drew)); exact Kd.R_mono HO424.out (fun _ hk => ⟨hk.1.1.2, ⟨hk.1.2, hk.2⟩⟩)), BK408.out, BK413.out, BK418.out, BK426.out, GW426.out, GE426.out, NB408_426.out, NB426_408.out, NB413_426.out, NB426_413.out, NB418_426.out, NB426_418.out, HB.out⟩)
          rintro ⟨v420, v423, gb426⟩ w111 ⟨hS_, h0_, h1_, h2_, h3_, h4_, h5_, h6_, h7_, h8_, h9_, h10_, h11_, h12_, h13_, h14_, h15_⟩
          have n0_ : Aside0 (Kd.R k26 26 w111 w.heap.size (fun k_ => some k_ ≠ (v420 : Value).ownBlock ∧ some k_ ≠ (v423 : Value).ownBlock ∧ k_ ≠ gb413) (.slice Ao101 t414.length co101) t414) := ⟨h0_⟩
          have n1_ : Aside0 (Kd.R k26 26 w111 w.heap.size (fun k_ => some k_ ≠ (.slice Ao101 t414.length co101 : Value).ownBlock ∧ some k_ ≠ (v423 : Value).ownBlock ∧ k_ ≠ gb413) v420 t419) := ⟨h1_⟩
          have n2_ : Aside0 (Kd.R k26 26 w111 w.heap.size (fun k_ => some k_ ≠ (.slice Ao101 t414.length co101 : Value).ownBlock ∧ some k_ ≠ (v420 : Value).ownBlock ∧ k_ ≠ gb413) v423 t422) := ⟨h2_⟩
          have n3_ : Aside0 (w111.heap[gb408]? = some (.cells #[.slice (some ad412) l0_0.length c0_0] 24 (0, 0))) := ⟨h3_⟩
          have n4_ : Aside0 (w111.heap[gb413]? = some (.cells #[.int .i64 ((rd_T26 l0_0 (ji51)).f0), .int .i64 ((rd_T26 l0_0 (ji51)).f1), .int .i64 ((rd_T26 l0_0 (ji51)).f2), .int .i64 a2, .int .i64 a3] 26 (0, 0))) := ⟨h4_⟩
          have n5_ : Aside0 (w111.heap[gb418]? = some (.cells #[.slice Ao101 t414.length co101] 24 (0, 0))) := ⟨h5_⟩
          have n6_ : Aside0 (w111.heap[gb426]? = some (.cells #[.slice none 0 0] 24 (0, 0))) := ⟨h6_⟩
          have n7_ : Aside0 (w.heap.size ≤ gb426) := ⟨h7_⟩
          have n8_ : Aside0 (w.heap.size ≤ gb426) := ⟨h8_⟩
          have n9_ : Aside0 (gb408 ≠ gb426) := ⟨h9_⟩
          have n10_ : Aside0 (gb426 ≠ gb408) := ⟨h10_⟩
          have n11_ : Aside0 (gb413 ≠ gb426) := ⟨h11_⟩
          have n12_ : Aside0 (gb426 ≠ gb413) := ⟨h12_⟩
          have n13_ : Aside0 (gb418 ≠ gb426) := ⟨h13_⟩
          have n14_ : Aside0 (gb426 ≠ gb418) := ⟨h14_⟩
          have n15_ : Aside0 (Below w.heap.size w w111) := ⟨h15_⟩
          clear HO416
          clear BK408
          clear BK413
          clear BK418
          clear HB
          clear h0_ h1_ h2_ h3_ h4_ h5_ h6_ h7_ h8_ h9_ h10_ h11_ h12_ h13_ h14_ h15_
          have HO416 := n0_
          have HO421 := n1_
          have HO424 := n2_
          have BK408 := n3_
          have BK413 := n4_
          have BK418 := n5_
          have BK426 := n6_
          have GW426 := n7_
          have GE426 := n8_
          have NB408_426 := n9_
          have NB426_408 := n10_
          have NB413_426 := n11_
          have NB426_413 := n12_
          have NB418_426 := n13_
          have NB426_418 := n14_
          have HB := n15_
          clear n0_ n1_ n2_ n3_ n4_ n5_ n6_ n7_ n8_ n9_ n10_ n11_ n12_ n13_ n14_ n15_
          have hHeld : w111.cell? ⟨gb408, 0, none⟩ = some (.slice (some ad412) l0_0.length c0_0) ∧ w111.cell? ⟨gb413, 0, none⟩ = some (.int .i64 ((rd_T26 l0_0 (ji51)).f0)) ∧ w111.cell? ⟨gb413, 1, none⟩ = some (.int .i64 ((rd_T26 l0_0 (ji51)).f1)) ∧ w111.cell? ⟨gb413, 2, none⟩ = some (.int .i64 ((rd_T26 l0_0 (ji51)).f2)) ∧ w111.cell? ⟨gb413, 3, none⟩ = some (.int .i64 a2) ∧ w111.cell? ⟨gb413, 4, none⟩ = some (.int .i64 a3) := hS_
          obtain ⟨Ao112, co112, eo112⟩ := Kd.R_slice HO424.out
          (first | subst eo112 | (injection eo112 with f1_ f2_ f3_; have f4_ := f1_.symm; have f5_ := f3_.symm; clear f1_ f2_ f3_; subst f4_; subst f5_))
          refine norm_ (a' := ?_) ?_ ?_
          rotate_left
          ·simp only [putAll, Act.put, List.setIfInBounds_toArray, List.set_cons_zero, List.set_cons_succ]
           rfl
          refine one_ (i := 13) (N := none) #[true, true, true, true, true, true, true, true, true, true, true, true, true, true, false] rfl rfl (one_of HT_.out (by kernel_rfl)) (by decide) (fun K hK => ?_)
          have hs113 : w111.cell? ⟨gb426, 0, none⟩ = some (.slice none 0 0) := (blk_cell BK426.out 0).trans rfl
          have hfs113 := blk_frozen BK426.out 0
          have hns113_0 := NB408_426.out
          have hns113_1 := NB413_426.out
          have hns113_2 := NB418_426.out
          have hms113_0 := NB426_408.out
          have hms113_1 := NB426_413.out
          have hms113_2 := NB426_418.out
          refine skip_ (w1 := ?_) (by rfl) rfl ?_ ?_
          rotate_left
          ·go_simp
           rfl
          refine hK.out _ _ ⟨((cell_far (p := ⟨gb426, _, none⟩) NB408_426.out _).trans (hHeld.1)), ((cell_far (p := ⟨gb426, _, none⟩) NB413_426.out _).trans (hHeld.2.1)), ((cell_far (p := ⟨gb426, _, none⟩) NB413_426.out _).trans (hHeld.2.2.1)), ((cell_far (p := ⟨gb426, _, none⟩) NB413_426.out _).trans (hHeld.2.2.2.1)), ((cell_far (p := ⟨gb426, _, none⟩) NB413_426.out _).trans (hHeld.2.2.2.2.1)), ((cell_far (p := ⟨gb426, _, none⟩) NB413_426.out _).trans (hHeld.2.2.2.2.2))⟩ (fun hHeld => ?_)
          clear hK K
          refine pure_ (i := 14) (N := some 16) (v := ?_) (a' := ?_) #[true, true, true, true, true, true, true, true, true, true, true, true, true, true, true] rfl rfl (any_of HT_.out (by kernel_rfl)) (fun _ _ _ h => h) (Or.inl ⟨by rfl, ?_⟩) ?_ ?_
          rotate_left
          ·intro w'
           go_simp
           with_reducible rfl
          rotate_left
          ·simp only [Act.put, List.setIfInBounds_toArray, List.set_cons_zero, List.set_cons_succ, i64_w, i32_w]
           rfl
          refine done_ (done_of HT_.out (by kernel_rfl)) ?_
          have hnb114 := NB413_426.out
          have hnc114 := NB426_413.out
          have hcz115_0 : w111.cell? ⟨gb413, 0, none⟩ = some (.int .i64 ((rd_T26 l0_0 (ji51)).f0)) := (blk_cell BK413.out 0).trans rfl
          have hcz115_1 : w111.cell? ⟨gb413, 1, none⟩ = some (.int .i64 ((rd_T26 l0_0 (ji51)).f1)) := (blk_cell BK413.out 1).trans rfl
          have hcz115_2 : w111.cell? ⟨gb413, 2, none⟩ = some (.int .i64 ((rd_T26 l0_0 (ji51)).f2)) := (blk_cell BK413.out 2).trans rfl
          have hcz115_3 : w111.cell? ⟨gb413, 3, none⟩ = some (.int .i64 a2) := (blk_cell BK413.out 3).trans rfl
          have hcz115_4 : w111.cell? ⟨gb413, 4, none⟩ = some (.int .i64 a3) := (blk_cell BK413.out 4).trans rfl
          have hfz115_0 := blk_frozen BK413.out 0
          have hfz115_1 := blk_frozen BK413.out 1
          have hfz115_2 := blk_frozen BK413.out 2
          have hfz115_3 := blk_frozen BK413.out 3
          have hfz115_4 := blk_frozen BK413.out 4
          try go_wp2
          go_ret
          exact ⟨by first | rfl | (simp [errW_none, errW_some] <;> rfl) | (simp only [← hji51]; first | rfl | (simp [errW_none, errW_some] <;> rfl)) | (simp [*, errW_none, errW_some] <;> rfl), by repeat (first | (with_reducible first | exact HB.out | apply below_alloc | apply pw_below_drewN | apply below_drew1 | refine below_set ?_ GE408.out | refine below_set ?_ GE413.out | refine below_set ?_ GE418.out | refine below_set ?_ GE426.out) | exact HB.out)⟩
        ·rw [if_neg c58] at H
         have c58b0 : (t417 == 5) = false := beq_eq_false_iff_ne.mpr c58
         have c58b1 : (t417 != 5) = true := bne_iff_ne.mpr c58
         exact absurd (Option.some.inj H) (by rw [HRT.out]; decide)
       ·replace c57 := Bool.eq_false_iff.mpr c57
        subst c57
        have H1 : (some false) = some r := by rw [if_neg (show ¬ (false = true) by decide)] at H; exact H
        clear H
        have H := H1
        clear H1
        exact absurd (Option.some.inj H) (by rw [HRT.out]; decide)
      ·rw [if_neg c53] at H
       exact absurd H (by simp)
     ·rw [if_neg c52] at H
      exact absurd H (by simp)

end Go.Proofs.Ytcjnjgafhfkegaa.Px
