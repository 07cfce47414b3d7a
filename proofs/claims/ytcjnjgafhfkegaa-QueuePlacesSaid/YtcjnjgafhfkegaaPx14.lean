/- Walks of functions of this seat, written by a program of this workplace out of the translation. -/
import Derived.Test.YtcjnjgafhfkegaaPx0
import Derived.Test.YtcjnjgafhfkegaaPx4
import Derived.Test.YtcjnjgafhfkegaaPx6
import Derived.Test.YtcjnjgafhfkegaaPx7
import Derived.Test.YtcjnjgafhfkegaaPx8
namespace Go.Proofs.Ytcjnjgafhfkegaa.Px
open Go.RowKit Go.Proofs.YtcjnjgafhfkegaaW.PrintWords Go.Proofs.YtcjnjgafhfkegaaW.PrintLast Go.Proofs.YtcjnjgafhfkegaaW.PrintMore
attribute [local go_sem] max2_int min2_int max_two min_two max_three min_three max_four min_four   -- for this text's walks alone
set_option linter.unusedVariables false
set_option linter.unusedSimpArgs false

/-! ### slotmeshlaw27_QueuePlaces: function 6 -/
def slotmeshlaw27_QueuePlaces.j0 : Nat → Int → Bool → Bool → List (S26) → Int → Int → Int → Int → Int → Option (Bool)
 | 0, _, _, _, _, _, _, _, _, _ => none
 | k + 1, x2, x7, x42, x386000, x387000, x387001, x387002, x387003, x387004 => if x42 = true then (some x7) else ((queue_Put.f k x386000 x387000 x387001 x387002 x387003 x387004 x2).bind fun bt392 => (if x387000 = x2 then (if x7 = true then (if bt392.2 = 0 then (if (x386000.length : Int) < 12 then (some true) else (some false)) else (if (x386000.length : Int) < 12 then (some false) else (some (bt392.2 == 10)))) else (some false)) else (if x7 = true then (if bt392.2 = 0 then (if (x386000.length : Int) < 16 then (some true) else (some false)) else (if (x386000.length : Int) < 16 then (some false) else (some (bt392.2 == 10)))) else (some false))))
def slotmeshlaw27_QueuePlaces.f (k : Nat) (l0_0 : List (S26)) (a1_0 : Int) (a1_1 : Int) (a1_2 : Int) (a1_3 : Int) (a1_4 : Int) (a2 : Int) : Option (Bool) := (slotmeshlaw27_head.f).bind fun t387 => ((slotmeshlaw27_short.f l0_0).bind fun t388 => (if t388 = true then ((slotmeshref27_Valid.f k l0_0).bind fun t389 => (if t389 = true then ((slotmeshref27_Formed.f a1_0 a1_1 a1_2 a1_3 a1_4).bind fun t390 => (if t390 = true then (if a2 < 0 then (slotmeshlaw27_QueuePlaces.j0 k a2 t387 true l0_0 a1_0 a1_1 a1_2 a1_3 a1_4) else (if a2 ≥ 60 then (slotmeshlaw27_QueuePlaces.j0 k a2 t387 true l0_0 a1_0 a1_1 a1_2 a1_3 a1_4) else ((slotmeshref27_Find.f k l0_0 a1_0 a1_1).bind fun t391 => (slotmeshlaw27_QueuePlaces.j0 k a2 t387 (decide (t391 ≥ 0)) l0_0 a1_0 a1_1 a1_2 a1_3 a1_4)))) else (slotmeshlaw27_QueuePlaces.j0 k a2 t387 true l0_0 a1_0 a1_1 a1_2 a1_3 a1_4))) else (slotmeshlaw27_QueuePlaces.j0 k a2 t387 true l0_0 a1_0 a1_1 a1_2 a1_3 a1_4))) else (slotmeshlaw27_QueuePlaces.j0 k a2 t387 true l0_0 a1_0 a1_1 a1_2 a1_3 a1_4)))
theorem slotmeshlaw27_QueuePlaces.mono_l : ∀ k, (∀ y0 y1 y2 y3 y4 y5 y6 y7 y8, LeO (slotmeshlaw27_QueuePlaces.j0 k y0 y1 y2 y3 y4 y5 y6 y7 y8) (slotmeshlaw27_QueuePlaces.j0 (k + 1) y0 y1 y2 y3 y4 y5 y6 y7 y8))
 | 0 => fun _ _ _ _ _ _ _ _ _ r h => by simp [slotmeshlaw27_QueuePlaces.j0] at h
 | k + 1 => by
  have ih0 := slotmeshlaw27_QueuePlaces.mono_l k
  ·intro y0 y1 y2 y3 y4 y5 y6 y7 y8
   unfold slotmeshlaw27_QueuePlaces.j0
   repeat' first
   | (with_reducible exact ih0 _ _ _ _ _ _ _ _ _)
   | (with_reducible exact queue_Put.mono _ _ _ _ _ _ _ _)
   | (with_reducible exact slotmeshref27_Find.mono _ _ _ _)
   | (with_reducible exact slotmeshref27_Valid.mono _ _)
   | (with_reducible exact LeO.refl _)
   | (with_reducible exact LeO.none _)
   | (with_reducible refine LeO.ite ?_ ?_)
   | (with_reducible refine LeO.bind ?_ (fun _ => ?_))
   | exact ih0 _ _ _ _ _ _ _ _ _
   | exact queue_Put.mono _ _ _ _ _ _ _ _
   | exact slotmeshref27_Find.mono _ _ _ _
   | exact slotmeshref27_Valid.mono _ _
   | exact LeO.none _
   | refine LeO.ite ?_ ?_
   | refine LeO.bind ?_ (fun _ => ?_)
theorem slotmeshlaw27_QueuePlaces.mono : ∀ a0 a1 a2 a3 a4 a5 a6 k, LeO (slotmeshlaw27_QueuePlaces.f k a0 a1 a2 a3 a4 a5 a6) (slotmeshlaw27_QueuePlaces.f (k + 1) a0 a1 a2 a3 a4 a5 a6) := by
 intro a0 a1 a2 a3 a4 a5 a6 k
 have ih0 := slotmeshlaw27_QueuePlaces.mono_l k
 unfold slotmeshlaw27_QueuePlaces.f
 repeat' first
   | (with_reducible exact ih0 _ _ _ _ _ _ _ _ _)
   | (with_reducible exact queue_Put.mono _ _ _ _ _ _ _ _)
   | (with_reducible exact slotmeshref27_Find.mono _ _ _ _)
   | (with_reducible exact slotmeshref27_Valid.mono _ _)
   | (with_reducible exact LeO.refl _)
   | (with_reducible exact LeO.none _)
   | (with_reducible refine LeO.ite ?_ ?_)
   | (with_reducible refine LeO.bind ?_ (fun _ => ?_))
   | exact ih0 _ _ _ _ _ _ _ _ _
   | exact queue_Put.mono _ _ _ _ _ _ _ _
   | exact slotmeshref27_Find.mono _ _ _ _
   | exact slotmeshref27_Valid.mono _ _
   | exact LeO.none _
   | refine LeO.ite ?_ ?_
   | refine LeO.bind ?_ (fun _ => ?_)
set_option maxHeartbeats 8000000 in
set_option maxRecDepth 100000 in
theorem slotmeshlaw27_QueuePlaces.calls (k : Nat) (A0_0 : Option Addr) (c0_0 : Nat) (l0_0 : List (S26)) (a1_0 : Int) (a1_1 : Int) (a1_2 : Int) (a1_3 : Int) (a1_4 : Int) (a2 : Int) (r : Bool) (w : World) (hrt : r = true) (hr0_0 : Kd.C k26 w A0_0 l0_0.length l0_0) (hc0_0 : l0_0.length ≤ c0_0) (h : slotmeshlaw27_QueuePlaces.f k l0_0 a1_0 a1_1 a1_2 a1_3 a1_4 a2 = some r) :
  Calls Try.prog 6 #[.agg #[.slice A0_0 l0_0.length c0_0], .agg #[.int .i64 a1_0, .int .i64 a1_1, .int .i64 a1_2, .int .i64 a1_3, .int .i64 a1_4], .int .i64 a2] w fun e w' => e = .returned (.bool r) ∧ Below w.heap.size w w' := by
 have hu24 := Try.underlying24
 have hu26 := Try.underlying26
 have HR0_0 := Aside0.mk hr0_0
 have HC0_0 := Aside0.mk hc0_0
 clear hr0_0 hc0_0
 have HB := Aside0.mk (Below.refl w.heap.size w)
 have HRT := Aside0.mk hrt
 clear hrt
 have H : ((slotmeshlaw27_head.f).bind fun t387 => ((slotmeshlaw27_short.f l0_0).bind fun t388 => (if t388 = true then ((slotmeshref27_Valid.f k l0_0).bind fun t389 => (if t389 = true then ((slotmeshref27_Formed.f a1_0 a1_1 a1_2 a1_3 a1_4).bind fun t390 => (if t390 = true then (if a2 < 0 then (slotmeshlaw27_QueuePlaces.j0 k a2 t387 true l0_0 a1_0 a1_1 a1_2 a1_3 a1_4) else (if a2 ≥ 60 then (slotmeshlaw27_QueuePlaces.j0 k a2 t387 true l0_0 a1_0 a1_1 a1_2 a1_3 a1_4) else ((slotmeshref27_Find.f k l0_0 a1_0 a1_1).bind fun t391 => (slotmeshlaw27_QueuePlaces.j0 k a2 t387 (decide (t391 ≥ 0)) l0_0 a1_0 a1_1 a1_2 a1_3 a1_4)))) else (slotmeshlaw27_QueuePlaces.j0 k a2 t387 true l0_0 a1_0 a1_1 a1_2 a1_3 a1_4))) else (slotmeshlaw27_QueuePlaces.j0 k a2 t387 true l0_0 a1_0 a1_1 a1_2 a1_3 a1_4))) else (slotmeshlaw27_QueuePlaces.j0 k a2 t387 true l0_0 a1_0 a1_1 a1_2 a1_3 a1_4)))) = some r := h
 clear h
 replace H := Option.bind_eq_some_iff.mp H
 obtain ⟨t387, A40, H⟩ := H
 replace H : ((slotmeshlaw27_short.f l0_0).bind fun t388 => (if t388 = true then ((slotmeshref27_Valid.f k l0_0).bind fun t389 => (if t389 = true then ((slotmeshref27_Formed.f a1_0 a1_1 a1_2 a1_3 a1_4).bind fun t390 => (if t390 = true then (if a2 < 0 then (slotmeshlaw27_QueuePlaces.j0 k a2 t387 true l0_0 a1_0 a1_1 a1_2 a1_3 a1_4) else (if a2 ≥ 60 then (slotmeshlaw27_QueuePlaces.j0 k a2 t387 true l0_0 a1_0 a1_1 a1_2 a1_3 a1_4) else ((slotmeshref27_Find.f k l0_0 a1_0 a1_1).bind fun t391 => (slotmeshlaw27_QueuePlaces.j0 k a2 t387 (decide (t391 ≥ 0)) l0_0 a1_0 a1_1 a1_2 a1_3 a1_4)))) else (slotmeshlaw27_QueuePlaces.j0 k a2 t387 true l0_0 a1_0 a1_1 a1_2 a1_3 a1_4))) else (slotmeshlaw27_QueuePlaces.j0 k a2 t387 true l0_0 a1_0 a1_1 a1_2 a1_3 a1_4))) else (slotmeshlaw27_QueuePlaces.j0 k a2 t387 true l0_0 a1_0 a1_1 a1_2 a1_3 a1_4))) = some r := H
 have A4 := Aside0.mk A40
 clear A40
 have HC5 := Aside0.mk H
 clear H
 go_enter Try.func6, Try.ntmps6
 go_upto_region 2 with (first | ((with_reducible refine gate_dst (N := 3) rfl ?_); (try (refine gate_guard (by rfl) ?_; dsimp only)); refine box_event ?hg (N := 3) ?hd (cs := #[.slice A0_0 l0_0.length c0_0]) (t := 24) ?hr ?_; (case hd => rfl); (case hg => rfl); (case hr => first | (go_simp; done) | (go_simp; rfl)); intro gb385 hg w6 hbox hb; have n0_ := Aside0.mk (below_step (by with_reducible exact HB.out) hb); have n1_ := Aside0.mk (hbox); have n2_ := Aside0.mk ((by rw [hg]; exact (below_size (by with_reducible exact HB.out)) : w.heap.size ≤ gb385)); have n3_ := Aside0.mk ((by rw [hg]; exact (below_size (by with_reducible exact HB.out)) : w.heap.size ≤ gb385)); clear HB; have HB := n0_; have BK385 := n1_; have GW385 := n2_; have GE385 := n3_; clear n0_ n1_ n2_ n3_; clear hb hbox hg) | ((with_reducible refine gate_dst (N := 4) rfl ?_); (try (refine gate_guard (by rfl) ?_; dsimp only)); refine box_event ?hg (N := 4) ?hd (cs := #[.int .i64 a1_0, .int .i64 a1_1, .int .i64 a1_2, .int .i64 a1_3, .int .i64 a1_4]) (t := 26) ?hr ?_; (case hd => rfl); (case hg => rfl); (case hr => first | (go_simp; done) | (go_simp; rfl)); intro gb386 hg w7 hbox hb; have n0_ := Aside0.mk (blk_below (g := gb385) (o := .cells #[.slice A0_0 l0_0.length c0_0] 24 (0, 0)) (by with_reducible exact BK385.out) hb); have n1_ := Aside0.mk (below_step (by with_reducible exact HB.out) hb); have n2_ := Aside0.mk (hbox); have n3_ := Aside0.mk ((by rw [hg]; exact (below_size (by with_reducible exact HB.out)) : w.heap.size ≤ gb386)); have n4_ := Aside0.mk ((by rw [hg]; exact (below_size (by with_reducible exact HB.out)) : w.heap.size ≤ gb386)); have n5_ := Aside0.mk ((by rw [hg]; exact Nat.ne_of_lt (blk_lt (g := gb385) (o := .cells #[.slice A0_0 l0_0.length c0_0] 24 (0, 0)) (by with_reducible exact BK385.out)) : gb385 ≠ gb386)); have n6_ := Aside0.mk ((by rw [hg]; exact Nat.ne_of_gt (blk_lt (g := gb385) (o := .cells #[.slice A0_0 l0_0.length c0_0] 24 (0, 0)) (by with_reducible exact BK385.out)) : gb386 ≠ gb385)); clear BK385; clear HB; have BK385 := n0_; have HB := n1_; have BK386 := n2_; have GW386 := n3_; have GE386 := n4_; have NB385_386 := n5_; have NB386_385 := n6_; clear n0_ n1_ n2_ n3_ n4_ n5_ n6_; clear hb hbox hg) | ((with_reducible refine gate_callee (f := 9) rfl ?_); refine goesL_ (some 11) rfl rfl Try.func9 (by kernel_rfl) rfl #[] rfl (by (try simp only [List.map_toArray, List.map_cons, List.map_nil]); first | done | rfl | (simp only [List.length_drop, List.length_take]; rfl)) ?_; (with_reducible refine (slotmeshlaw27_head.calls  t387 _ A4.out).mono ?_); rintro e w8 ⟨rfl, hb⟩; refine ⟨_, rfl, ?_⟩; have n0_ := Aside0.mk (blk_below (g := gb385) (o := .cells #[.slice A0_0 l0_0.length c0_0] 24 (0, 0)) (by with_reducible exact BK385.out) hb); have n1_ := Aside0.mk (blk_below (g := gb386) (o := .cells #[.int .i64 a1_0, .int .i64 a1_1, .int .i64 a1_2, .int .i64 a1_3, .int .i64 a1_4] 26 (0, 0)) (by with_reducible exact BK386.out) hb); have n2_ := Aside0.mk (below_step (by with_reducible exact HB.out) hb); clear BK385; clear BK386; clear HB; have BK385 := n0_; have BK386 := n1_; have HB := n2_; clear n0_ n1_ n2_; (try clear hb); (try clear hb2); (try clear hk); (try clear hi)))
 (try simp only [Act.put, List.setIfInBounds_toArray, List.set_cons_zero, List.set_cons_succ])
 go_cut [42] (fun v42 wc => ∃ (kq : Nat) (x42_4 : Bool), v42 = .bool x42_4 ∧ Aside0 (slotmeshlaw27_QueuePlaces.j0 kq a2 t387 x42_4 l0_0 a1_0 a1_1 a1_2 a1_3 a1_4 = some r) ∧ Aside0 (kq ≤ k) ∧ Aside0 (wc.heap[gb385]? = some (.cells #[(.slice A0_0 l0_0.length c0_0)] 24 (0, 0))) ∧ Aside0 (wc.heap[gb386]? = some (.cells #[.int .i64 a1_0, .int .i64 a1_1, .int .i64 a1_2, .int .i64 a1_3, .int .i64 a1_4] 26 (0, 0))) ∧ Aside0 (Below w.heap.size w wc))
 case first =>
  have H := HC5.out
  clear HC5
  replace H := Option.bind_eq_some_iff.mp H
  obtain ⟨t388, A90, H⟩ := H
  replace H : (if t388 = true then ((slotmeshref27_Valid.f k l0_0).bind fun t389 => (if t389 = true then ((slotmeshref27_Formed.f a1_0 a1_1 a1_2 a1_3 a1_4).bind fun t390 => (if t390 = true then (if a2 < 0 then (slotmeshlaw27_QueuePlaces.j0 k a2 t387 true l0_0 a1_0 a1_1 a1_2 a1_3 a1_4) else (if a2 ≥ 60 then (slotmeshlaw27_QueuePlaces.j0 k a2 t387 true l0_0 a1_0 a1_1 a1_2 a1_3 a1_4) else ((slotmeshref27_Find.f k l0_0 a1_0 a1_1).bind fun t391 => (slotmeshlaw27_QueuePlaces.j0 k a2 t387 (decide (t391 ≥ 0)) l0_0 a1_0 a1_1 a1_2 a1_3 a1_4)))) else (slotmeshlaw27_QueuePlaces.j0 k a2 t387 true l0_0 a1_0 a1_1 a1_2 a1_3 a1_4))) else (slotmeshlaw27_QueuePlaces.j0 k a2 t387 true l0_0 a1_0 a1_1 a1_2 a1_3 a1_4))) else (slotmeshlaw27_QueuePlaces.j0 k a2 t387 true l0_0 a1_0 a1_1 a1_2 a1_3 a1_4)) = some r := H
  have A9 := Aside0.mk A90
  clear A90
  by_cases c10 : t388 = true
  ·subst c10
   have H1 : ((slotmeshref27_Valid.f k l0_0).bind fun t389 => (if t389 = true then ((slotmeshref27_Formed.f a1_0 a1_1 a1_2 a1_3 a1_4).bind fun t390 => (if t390 = true then (if a2 < 0 then (slotmeshlaw27_QueuePlaces.j0 k a2 t387 true l0_0 a1_0 a1_1 a1_2 a1_3 a1_4) else (if a2 ≥ 60 then (slotmeshlaw27_QueuePlaces.j0 k a2 t387 true l0_0 a1_0 a1_1 a1_2 a1_3 a1_4) else ((slotmeshref27_Find.f k l0_0 a1_0 a1_1).bind fun t391 => (slotmeshlaw27_QueuePlaces.j0 k a2 t387 (decide (t391 ≥ 0)) l0_0 a1_0 a1_1 a1_2 a1_3 a1_4)))) else (slotmeshlaw27_QueuePlaces.j0 k a2 t387 true l0_0 a1_0 a1_1 a1_2 a1_3 a1_4))) else (slotmeshlaw27_QueuePlaces.j0 k a2 t387 true l0_0 a1_0 a1_1 a1_2 a1_3 a1_4))) = some r := by rw [if_pos rfl] at H; exact H
   clear H
   have H := H1
   clear H1
   replace H := Option.bind_eq_some_iff.mp H
   obtain ⟨t389, A110, H⟩ := H
   replace H : (if t389 = true then ((slotmeshref27_Formed.f a1_0 a1_1 a1_2 a1_3 a1_4).bind fun t390 => (if t390 = true then (if a2 < 0 then (slotmeshlaw27_QueuePlaces.j0 k a2 t387 true l0_0 a1_0 a1_1 a1_2 a1_3 a1_4) else (if a2 ≥ 60 then (slotmeshlaw27_QueuePlaces.j0 k a2 t387 true l0_0 a1_0 a1_1 a1_2 a1_3 a1_4) else ((slotmeshref27_Find.f k l0_0 a1_0 a1_1).bind fun t391 => (slotmeshlaw27_QueuePlaces.j0 k a2 t387 (decide (t391 ≥ 0)) l0_0 a1_0 a1_1 a1_2 a1_3 a1_4)))) else (slotmeshlaw27_QueuePlaces.j0 k a2 t387 true l0_0 a1_0 a1_1 a1_2 a1_3 a1_4))) else (slotmeshlaw27_QueuePlaces.j0 k a2 t387 true l0_0 a1_0 a1_1 a1_2 a1_3 a1_4)) = some r := H
   have A11 := Aside0.mk A110
   clear A110
   by_cases c12 : t389 = true
   ·subst c12
    have H1 : ((slotmeshref27_Formed.f a1_0 a1_1 a1_2 a1_3 a1_4).bind fun t390 => (if t390 = true then (if a2 < 0 then (slotmeshlaw27_QueuePlaces.j0 k a2 t387 true l0_0 a1_0 a1_1 a1_2 a1_3 a1_4) else (if a2 ≥ 60 then (slotmeshlaw27_QueuePlaces.j0 k a2 t387 true l0_0 a1_0 a1_1 a1_2 a1_3 a1_4) else ((slotmeshref27_Find.f k l0_0 a1_0 a1_1).bind fun t391 => (slotmeshlaw27_QueuePlaces.j0 k a2 t387 (decide (t391 ≥ 0)) l0_0 a1_0 a1_1 a1_2 a1_3 a1_4)))) else (slotmeshlaw27_QueuePlaces.j0 k a2 t387 true l0_0 a1_0 a1_1 a1_2 a1_3 a1_4))) = some r := by rw [if_pos rfl] at H; exact H
    clear H
    have H := H1
    clear H1
    replace H := Option.bind_eq_some_iff.mp H
    obtain ⟨t390, A130, H⟩ := H
    replace H : (if t390 = true then (if a2 < 0 then (slotmeshlaw27_QueuePlaces.j0 k a2 t387 true l0_0 a1_0 a1_1 a1_2 a1_3 a1_4) else (if a2 ≥ 60 then (slotmeshlaw27_QueuePlaces.j0 k a2 t387 true l0_0 a1_0 a1_1 a1_2 a1_3 a1_4) else ((slotmeshref27_Find.f k l0_0 a1_0 a1_1).bind fun t391 => (slotmeshlaw27_QueuePlaces.j0 k a2 t387 (decide (t391 ≥ 0)) l0_0 a1_0 a1_1 a1_2 a1_3 a1_4)))) else (slotmeshlaw27_QueuePlaces.j0 k a2 t387 true l0_0 a1_0 a1_1 a1_2 a1_3 a1_4)) = some r := H
    have A13 := Aside0.mk A130
    clear A130
    by_cases c14 : t390 = true
    ·subst c14
     have H1 : (if a2 < 0 then (slotmeshlaw27_QueuePlaces.j0 k a2 t387 true l0_0 a1_0 a1_1 a1_2 a1_3 a1_4) else (if a2 ≥ 60 then (slotmeshlaw27_QueuePlaces.j0 k a2 t387 true l0_0 a1_0 a1_1 a1_2 a1_3 a1_4) else ((slotmeshref27_Find.f k l0_0 a1_0 a1_1).bind fun t391 => (slotmeshlaw27_QueuePlaces.j0 k a2 t387 (decide (t391 ≥ 0)) l0_0 a1_0 a1_1 a1_2 a1_3 a1_4)))) = some r := by rw [if_pos rfl] at H; exact H
     clear H
     have H := H1
     clear H1
     by_cases c15 : a2 < 0
     ·rw [if_pos c15] at H
      have c15b0 : decide (a2 < 0) = true := decide_eq_true c15
      clear c15
      (first | rw [c15b0] | (simp only [i64_w, i32_w]; rw [c15b0]) | skip)
      have H' := Aside0.mk H
      clear H
      have hnb16 := NB385_386.out
      have hnc16 := NB386_385.out
      have hcz17_0 : w8.cell? ⟨gb385, 0, none⟩ = some (.slice A0_0 l0_0.length c0_0) := (blk_cell BK385.out 0).trans rfl
      have hfz17_0 := blk_frozen BK385.out 0
      go_wp2_with (first | ((with_reducible refine gate_callee (f := 10) rfl ?_); refine goesL_ (some 13) rfl rfl Try.func10 (by kernel_rfl) rfl #[.agg #[.slice A0_0 l0_0.length c0_0]] rfl (by (try simp only [List.map_toArray, List.map_cons, List.map_nil]); first | done | rfl | (simp only [List.length_drop, List.length_take]; rfl)) ?_; (with_reducible refine (slotmeshlaw27_short.calls _ _ l0_0 true _ ?side1 ?side2 A9.out).mono ?_); (case side1 => repeat (first | exact (Kd.C_below HR0_0.out HB.out) | (with_reducible refine Kd.C_alloc ?_ _) | (with_reducible refine Kd.C_drewN ?_ _) | (with_reducible refine Kd.C_drew ?_))); (case side2 => exact HC0_0.out); rintro e w18 ⟨rfl, hb⟩; refine ⟨_, rfl, ?_⟩; have n0_ := Aside0.mk (blk_below (g := gb385) (o := .cells #[.slice A0_0 l0_0.length c0_0] 24 (0, 0)) (by with_reducible exact BK385.out) hb); have n1_ := Aside0.mk (blk_below (g := gb386) (o := .cells #[.int .i64 a1_0, .int .i64 a1_1, .int .i64 a1_2, .int .i64 a1_3, .int .i64 a1_4] 26 (0, 0)) (by with_reducible exact BK386.out) hb); have n2_ := Aside0.mk (below_step (by with_reducible exact HB.out) hb); clear BK385; clear BK386; clear HB; have BK385 := n0_; have BK386 := n1_; have HB := n2_; clear n0_ n1_ n2_; (try clear hb); (try clear hb2); (try clear hk); (try clear hi); have hcz19_0 : w18.cell? ⟨gb385, 0, none⟩ = some (.slice A0_0 l0_0.length c0_0) := (blk_cell BK385.out 0).trans rfl; have hfz19_0 := blk_frozen BK385.out 0) | (go_at_call 20; (with_reducible refine (slotmeshref27_Valid.calls k _ _ l0_0 true _ ?side1 ?side2 A11.out).mono ?_); (case side1 => repeat (first | exact (Kd.C_below HR0_0.out HB.out) | (with_reducible refine Kd.C_alloc ?_ _) | (with_reducible refine Kd.C_drewN ?_ _) | (with_reducible refine Kd.C_drew ?_))); (case side2 => exact HC0_0.out); rintro e w20 ⟨rfl, hb⟩; have n0_ := Aside0.mk (blk_below (g := gb385) (o := .cells #[.slice A0_0 l0_0.length c0_0] 24 (0, 0)) (by with_reducible exact BK385.out) hb); have n1_ := Aside0.mk (blk_below (g := gb386) (o := .cells #[.int .i64 a1_0, .int .i64 a1_1, .int .i64 a1_2, .int .i64 a1_3, .int .i64 a1_4] 26 (0, 0)) (by with_reducible exact BK386.out) hb); have n2_ := Aside0.mk (below_step (by with_reducible exact HB.out) hb); clear BK385; clear BK386; clear HB; have BK385 := n0_; have BK386 := n1_; have HB := n2_; clear n0_ n1_ n2_; (try clear hb); (try clear hb2); (try clear hk); (try clear hi); have hcz21_0 : w20.cell? ⟨gb386, 0, none⟩ = some (.int .i64 a1_0) := (blk_cell BK386.out 0).trans rfl; have hcz21_1 : w20.cell? ⟨gb386, 1, none⟩ = some (.int .i64 a1_1) := (blk_cell BK386.out 1).trans rfl; have hcz21_2 : w20.cell? ⟨gb386, 2, none⟩ = some (.int .i64 a1_2) := (blk_cell BK386.out 2).trans rfl; have hcz21_3 : w20.cell? ⟨gb386, 3, none⟩ = some (.int .i64 a1_3) := (blk_cell BK386.out 3).trans rfl; have hcz21_4 : w20.cell? ⟨gb386, 4, none⟩ = some (.int .i64 a1_4) := (blk_cell BK386.out 4).trans rfl; have hfz21_0 := blk_frozen BK386.out 0; have hfz21_1 := blk_frozen BK386.out 1; have hfz21_2 := blk_frozen BK386.out 2; have hfz21_3 := blk_frozen BK386.out 3; have hfz21_4 := blk_frozen BK386.out 4) | (go_at_call 21; (with_reducible refine (slotmeshref27_Formed.calls a1_0 a1_1 a1_2 a1_3 a1_4 true _ A13.out).mono ?_); rintro e w22 ⟨rfl, hb⟩; have n0_ := Aside0.mk (blk_below (g := gb385) (o := .cells #[.slice A0_0 l0_0.length c0_0] 24 (0, 0)) (by with_reducible exact BK385.out) hb); have n1_ := Aside0.mk (blk_below (g := gb386) (o := .cells #[.int .i64 a1_0, .int .i64 a1_1, .int .i64 a1_2, .int .i64 a1_3, .int .i64 a1_4] 26 (0, 0)) (by with_reducible exact BK386.out) hb); have n2_ := Aside0.mk (below_step (by with_reducible exact HB.out) hb); clear BK385; clear BK386; clear HB; have BK385 := n0_; have BK386 := n1_; have HB := n2_; clear n0_ n1_ n2_; (try clear hb); (try clear hb2); (try clear hk); (try clear hi)))
      go_meet
      case rel => exact ⟨_, (true), (by first | rfl | (simp; done) | (simp [*]; done)), H', ⟨by first | omega | exact Nat.le_refl _⟩, ⟨by with_reducible exact BK385.out⟩, ⟨by with_reducible exact BK386.out⟩, ⟨by with_reducible exact HB.out⟩⟩
     ·rw [if_neg c15] at H
      have c15b0 : decide (a2 < 0) = false := decide_eq_false c15
      clear c15
      (first | rw [c15b0] | (simp only [i64_w, i32_w]; rw [c15b0]) | skip)
      by_cases c23 : a2 ≥ 60
      ·rw [if_pos c23] at H
       have c23b0 : decide (60 ≤ a2) = true := decide_eq_true c23
       clear c23
       have H' := Aside0.mk H
       clear H
       have hnb24 := NB385_386.out
       have hnc24 := NB386_385.out
       have hcz25_0 : w8.cell? ⟨gb385, 0, none⟩ = some (.slice A0_0 l0_0.length c0_0) := (blk_cell BK385.out 0).trans rfl
       have hfz25_0 := blk_frozen BK385.out 0
       go_wp2_with (first | ((with_reducible refine gate_callee (f := 10) rfl ?_); refine goesL_ (some 13) rfl rfl Try.func10 (by kernel_rfl) rfl #[.agg #[.slice A0_0 l0_0.length c0_0]] rfl (by (try simp only [List.map_toArray, List.map_cons, List.map_nil]); first | done | rfl | (simp only [List.length_drop, List.length_take]; rfl)) ?_; (with_reducible refine (slotmeshlaw27_short.calls _ _ l0_0 true _ ?side1 ?side2 A9.out).mono ?_); (case side1 => repeat (first | exact (Kd.C_below HR0_0.out HB.out) | (with_reducible refine Kd.C_alloc ?_ _) | (with_reducible refine Kd.C_drewN ?_ _) | (with_reducible refine Kd.C_drew ?_))); (case side2 => exact HC0_0.out); rintro e w26 ⟨rfl, hb⟩; refine ⟨_, rfl, ?_⟩; have n0_ := Aside0.mk (blk_below (g := gb385) (o := .cells #[.slice A0_0 l0_0.length c0_0] 24 (0, 0)) (by with_reducible exact BK385.out) hb); have n1_ := Aside0.mk (blk_below (g := gb386) (o := .cells #[.int .i64 a1_0, .int .i64 a1_1, .int .i64 a1_2, .int .i64 a1_3, .int .i64 a1_4] 26 (0, 0)) (by with_reducible exact BK386.out) hb); have n2_ := Aside0.mk (below_step (by with_reducible exact HB.out) hb); clear BK385; clear BK386; clear HB; have BK385 := n0_; have BK386 := n1_; have HB := n2_; clear n0_ n1_ n2_; (try clear hb); (try clear hb2); (try clear hk); (try clear hi); have hcz27_0 : w26.cell? ⟨gb385, 0, none⟩ = some (.slice A0_0 l0_0.length c0_0) := (blk_cell BK385.out 0).trans rfl; have hfz27_0 := blk_frozen BK385.out 0) | (go_at_call 20; (with_reducible refine (slotmeshref27_Valid.calls k _ _ l0_0 true _ ?side1 ?side2 A11.out).mono ?_); (case side1 => repeat (first | exact (Kd.C_below HR0_0.out HB.out) | (with_reducible refine Kd.C_alloc ?_ _) | (with_reducible refine Kd.C_drewN ?_ _) | (with_reducible refine Kd.C_drew ?_))); (case side2 => exact HC0_0.out); rintro e w28 ⟨rfl, hb⟩; have n0_ := Aside0.mk (blk_below (g := gb385) (o := .cells #[.slice A0_0 l0_0.length c0_0] 24 (0, 0)) (by with_reducible exact BK385.out) hb); have n1_ := Aside0.mk (blk_below (g := gb386) (o := .cells #[.int .i64 a1_0, .int .i64 a1_1, .int .i64 a1_2, .int .i64 a1_3, .int .i64 a1_4] 26 (0, 0)) (by with_reducible exact BK386.out) hb); have n2_ := Aside0.mk (below_step (by with_reducible exact HB.out) hb); clear BK385; clear BK386; clear HB; have BK385 := n0_; have BK386 := n1_; have HB := n2_; clear n0_ n1_ n2_; (try clear hb); (try clear hb2); (try clear hk); (try clear hi); have hcz29_0 : w28.cell? ⟨gb386, 0, none⟩ = some (.int .i64 a1_0) := (blk_cell BK386.out 0).trans rfl; have hcz29_1 : w28.cell? ⟨gb386, 1, none⟩ = some (.int .i64 a1_1) := (blk_cell BK386.out 1).trans rfl; have hcz29_2 : w28.cell? ⟨gb386, 2, none⟩ = some (.int .i64 a1_2) := (blk_cell BK386.out 2).trans rfl; have hcz29_3 : w28.cell? ⟨gb386, 3, none⟩ = some (.int .i64 a1_3) := (blk_cell BK386.out 3).trans rfl; have hcz29_4 : w28.cell? ⟨gb386, 4, none⟩ = some (.int .i64 a1_4) := (blk_cell BK386.out 4).trans rfl; have hfz29_0 := blk_frozen BK386.out 0; have hfz29_1 := blk_frozen BK386.out 1; have hfz29_2 := blk_frozen BK386.out 2; have hfz29_3 := blk_frozen BK386.out 3; have hfz29_4 := blk_frozen BK386.out 4) | (go_at_call 21; (with_reducible refine (slotmeshref27_Formed.calls a1_0 a1_1 a1_2 a1_3 a1_4 true _ A13.out).mono ?_); rintro e w30 ⟨rfl, hb⟩; have n0_ := Aside0.mk (blk_below (g := gb385) (o := .cells #[.slice A0_0 l0_0.length c0_0] 24 (0, 0)) (by with_reducible exact BK385.out) hb); have n1_ := Aside0.mk (blk_below (g := gb386) (o := .cells #[.int .i64 a1_0, .int .i64 a1_1, .int .i64 a1_2, .int .i64 a1_3, .int .i64 a1_4] 26 (0, 0)) (by with_reducible exact BK386.out) hb); have n2_ := Aside0.mk (below_step (by with_reducible exact HB.out) hb); clear BK385; clear BK386; clear HB; have BK385 := n0_; have BK386 := n1_; have HB := n2_; clear n0_ n1_ n2_; (try clear hb); (try clear hb2); (try clear hk); (try clear hi)))
       go_meet
       case rel => exact ⟨_, (true), (by first | rfl | (simp; done) | (simp [*]; done)), H', ⟨by first | omega | exact Nat.le_refl _⟩, ⟨by with_reducible exact BK385.out⟩, ⟨by with_reducible exact BK386.out⟩, ⟨by with_reducible exact HB.out⟩⟩
      ·rw [if_neg c23] at H
       have c23b0 : decide (60 ≤ a2) = false := decide_eq_false c23
       clear c23
       replace H := Option.bind_eq_some_iff.mp H
       obtain ⟨t391, A310, H⟩ := H
       replace H : (slotmeshlaw27_QueuePlaces.j0 k a2 t387 (decide (t391 ≥ 0)) l0_0 a1_0 a1_1 a1_2 a1_3 a1_4) = some r := H
       have A31 := Aside0.mk A310
       clear A310
       have H' := Aside0.mk H
       clear H
       have hnb32 := NB385_386.out
       have hnc32 := NB386_385.out
       have hcz33_0 : w8.cell? ⟨gb385, 0, none⟩ = some (.slice A0_0 l0_0.length c0_0) := (blk_cell BK385.out 0).trans rfl
       have hfz33_0 := blk_frozen BK385.out 0
       go_wp2_with (first | ((with_reducible refine gate_callee (f := 10) rfl ?_); refine goesL_ (some 13) rfl rfl Try.func10 (by kernel_rfl) rfl #[.agg #[.slice A0_0 l0_0.length c0_0]] rfl (by (try simp only [List.map_toArray, List.map_cons, List.map_nil]); first | done | rfl | (simp only [List.length_drop, List.length_take]; rfl)) ?_; (with_reducible refine (slotmeshlaw27_short.calls _ _ l0_0 true _ ?side1 ?side2 A9.out).mono ?_); (case side1 => repeat (first | exact (Kd.C_below HR0_0.out HB.out) | (with_reducible refine Kd.C_alloc ?_ _) | (with_reducible refine Kd.C_drewN ?_ _) | (with_reducible refine Kd.C_drew ?_))); (case side2 => exact HC0_0.out); rintro e w34 ⟨rfl, hb⟩; refine ⟨_, rfl, ?_⟩; have n0_ := Aside0.mk (blk_below (g := gb385) (o := .cells #[.slice A0_0 l0_0.length c0_0] 24 (0, 0)) (by with_reducible exact BK385.out) hb); have n1_ := Aside0.mk (blk_below (g := gb386) (o := .cells #[.int .i64 a1_0, .int .i64 a1_1, .int .i64 a1_2, .int .i64 a1_3, .int .i64 a1_4] 26 (0, 0)) (by with_reducible exact BK386.out) hb); have n2_ := Aside0.mk (below_step (by with_reducible exact HB.out) hb); clear BK385; clear BK386; clear HB; have BK385 := n0_; have BK386 := n1_; have HB := n2_; clear n0_ n1_ n2_; (try clear hb); (try clear hb2); (try clear hk); (try clear hi); have hcz35_0 : w34.cell? ⟨gb385, 0, none⟩ = some (.slice A0_0 l0_0.length c0_0) := (blk_cell BK385.out 0).trans rfl; have hfz35_0 := blk_frozen BK385.out 0) | (go_at_call 20; (with_reducible refine (slotmeshref27_Valid.calls k _ _ l0_0 true _ ?side1 ?side2 A11.out).mono ?_); (case side1 => repeat (first | exact (Kd.C_below HR0_0.out HB.out) | (with_reducible refine Kd.C_alloc ?_ _) | (with_reducible refine Kd.C_drewN ?_ _) | (with_reducible refine Kd.C_drew ?_))); (case side2 => exact HC0_0.out); rintro e w36 ⟨rfl, hb⟩; have n0_ := Aside0.mk (blk_below (g := gb385) (o := .cells #[.slice A0_0 l0_0.length c0_0] 24 (0, 0)) (by with_reducible exact BK385.out) hb); have n1_ := Aside0.mk (blk_below (g := gb386) (o := .cells #[.int .i64 a1_0, .int .i64 a1_1, .int .i64 a1_2, .int .i64 a1_3, .int .i64 a1_4] 26 (0, 0)) (by with_reducible exact BK386.out) hb); have n2_ := Aside0.mk (below_step (by with_reducible exact HB.out) hb); clear BK385; clear BK386; clear HB; have BK385 := n0_; have BK386 := n1_; have HB := n2_; clear n0_ n1_ n2_; (try clear hb); (try clear hb2); (try clear hk); (try clear hi); have hcz37_0 : w36.cell? ⟨gb386, 0, none⟩ = some (.int .i64 a1_0) := (blk_cell BK386.out 0).trans rfl; have hcz37_1 : w36.cell? ⟨gb386, 1, none⟩ = some (.int .i64 a1_1) := (blk_cell BK386.out 1).trans rfl; have hcz37_2 : w36.cell? ⟨gb386, 2, none⟩ = some (.int .i64 a1_2) := (blk_cell BK386.out 2).trans rfl; have hcz37_3 : w36.cell? ⟨gb386, 3, none⟩ = some (.int .i64 a1_3) := (blk_cell BK386.out 3).trans rfl; have hcz37_4 : w36.cell? ⟨gb386, 4, none⟩ = some (.int .i64 a1_4) := (blk_cell BK386.out 4).trans rfl; have hfz37_0 := blk_frozen BK386.out 0; have hfz37_1 := blk_frozen BK386.out 1; have hfz37_2 := blk_frozen BK386.out 2; have hfz37_3 := blk_frozen BK386.out 3; have hfz37_4 := blk_frozen BK386.out 4) | (go_at_call 21; (with_reducible refine (slotmeshref27_Formed.calls a1_0 a1_1 a1_2 a1_3 a1_4 true _ A13.out).mono ?_); rintro e w38 ⟨rfl, hb⟩; have n0_ := Aside0.mk (blk_below (g := gb385) (o := .cells #[.slice A0_0 l0_0.length c0_0] 24 (0, 0)) (by with_reducible exact BK385.out) hb); have n1_ := Aside0.mk (blk_below (g := gb386) (o := .cells #[.int .i64 a1_0, .int .i64 a1_1, .int .i64 a1_2, .int .i64 a1_3, .int .i64 a1_4] 26 (0, 0)) (by with_reducible exact BK386.out) hb); have n2_ := Aside0.mk (below_step (by with_reducible exact HB.out) hb); clear BK385; clear BK386; clear HB; have BK385 := n0_; have BK386 := n1_; have HB := n2_; clear n0_ n1_ n2_; (try clear hb); (try clear hb2); (try clear hk); (try clear hi); have hcz39_0 : w38.cell? ⟨gb385, 0, none⟩ = some (.slice A0_0 l0_0.length c0_0) := (blk_cell BK385.out 0).trans rfl; have hfz39_0 := blk_frozen BK385.out 0; have hcz40_0 : w38.cell? ⟨gb386, 0, none⟩ = some (.int .i64 a1_0) := (blk_cell BK386.out 0).trans rfl; have hcz40_1 : w38.cell? ⟨gb386, 1, none⟩ = some (.int .i64 a1_1) := (blk_cell BK386.out 1).trans rfl; have hcz40_2 : w38.cell? ⟨gb386, 2, none⟩ = some (.int .i64 a1_2) := (blk_cell BK386.out 2).trans rfl; have hcz40_3 : w38.cell? ⟨gb386, 3, none⟩ = some (.int .i64 a1_3) := (blk_cell BK386.out 3).trans rfl; have hcz40_4 : w38.cell? ⟨gb386, 4, none⟩ = some (.int .i64 a1_4) := (blk_cell BK386.out 4).trans rfl; have hfz40_0 := blk_frozen BK386.out 0; have hfz40_1 := blk_frozen BK386.out 1; have hfz40_2 := blk_frozen BK386.out 2; have hfz40_3 := blk_frozen BK386.out 3; have hfz40_4 := blk_frozen BK386.out 4) | (go_at_call 22; (with_reducible refine (slotmeshref27_Find.calls k _ _ l0_0 a1_0 a1_1 t391 _ ?side1 ?side2 A31.out).mono ?_); (case side1 => repeat (first | exact (Kd.C_below HR0_0.out HB.out) | (with_reducible refine Kd.C_alloc ?_ _) | (with_reducible refine Kd.C_drewN ?_ _) | (with_reducible refine Kd.C_drew ?_))); (case side2 => exact HC0_0.out); rintro e w' ⟨rfl, ⟨nd, rfl⟩⟩))
       go_meet
       case rel => exact ⟨_, (decide (t391 ≥ 0)), (by first | rfl | (simp; done) | (simp [*]; done)), H', ⟨by first | omega | exact Nat.le_refl _⟩, ⟨by (with_reducible repeat (first | refine blk_drewN ?_ _ | refine blk_drew ?_ | refine blk_alloc ?_ _)); exact BK385.out⟩, ⟨by (with_reducible repeat (first | refine blk_drewN ?_ _ | refine blk_drew ?_ | refine blk_alloc ?_ _)); exact BK386.out⟩, ⟨by repeat (first | (with_reducible first | exact HB.out | apply below_alloc | apply pw_below_drewN | apply below_drew1 | refine below_set ?_ GE385.out | refine below_set ?_ GE386.out) | exact HB.out)⟩⟩
    ·replace c14 := Bool.eq_false_iff.mpr c14
     subst c14
     have H1 : (slotmeshlaw27_QueuePlaces.j0 k a2 t387 true l0_0 a1_0 a1_1 a1_2 a1_3 a1_4) = some r := by rw [if_neg (show ¬ (false = true) by decide)] at H; exact H
     clear H
     have H := H1
     clear H1
     have H' := Aside0.mk H
     clear H
     have hnb41 := NB385_386.out
     have hnc41 := NB386_385.out
     have hcz42_0 : w8.cell? ⟨gb385, 0, none⟩ = some (.slice A0_0 l0_0.length c0_0) := (blk_cell BK385.out 0).trans rfl
     have hfz42_0 := blk_frozen BK385.out 0
     go_wp2_with (first | ((with_reducible refine gate_callee (f := 10) rfl ?_); refine goesL_ (some 13) rfl rfl Try.func10 (by kernel_rfl) rfl #[.agg #[.slice A0_0 l0_0.length c0_0]] rfl (by (try simp only [List.map_toArray, List.map_cons, List.map_nil]); first | done | rfl | (simp only [List.length_drop, List.length_take]; rfl)) ?_; (with_reducible refine (slotmeshlaw27_short.calls _ _ l0_0 true _ ?side1 ?side2 A9.out).mono ?_); (case side1 => repeat (first | exact (Kd.C_below HR0_0.out HB.out) | (with_reducible refine Kd.C_alloc ?_ _) | (with_reducible refine Kd.C_drewN ?_ _) | (with_reducible refine Kd.C_drew ?_))); (case side2 => exact HC0_0.out); rintro e w43 ⟨rfl, hb⟩; refine ⟨_, rfl, ?_⟩; have n0_ := Aside0.mk (blk_below (g := gb385) (o := .cells #[.slice A0_0 l0_0.length c0_0] 24 (0, 0)) (by with_reducible exact BK385.out) hb); have n1_ := Aside0.mk (blk_below (g := gb386) (o := .cells #[.int .i64 a1_0, .int .i64 a1_1, .int .i64 a1_2, .int .i64 a1_3, .int .i64 a1_4] 26 (0, 0)) (by with_reducible exact BK386.out) hb); have n2_ := Aside0.mk (below_step (by with_reducible exact HB.out) hb); clear BK385; clear BK386; clear HB; have BK385 := n0_; have BK386 := n1_; have HB := n2_; clear n0_ n1_ n2_; (try clear hb); (try clear hb2); (try clear hk); (try clear hi); have hcz44_0 : w43.cell? ⟨gb385, 0, none⟩ = some (.slice A0_0 l0_0.length c0_0) := (blk_cell BK385.out 0).trans rfl; have hfz44_0 := blk_frozen BK385.out 0) | (go_at_call 20; (with_reducible refine (slotmeshref27_Valid.calls k _ _ l0_0 true _ ?side1 ?side2 A11.out).mono ?_); (case side1 => repeat (first | exact (Kd.C_below HR0_0.out HB.out) | (with_reducible refine Kd.C_alloc ?_ _) | (with_reducible refine Kd.C_drewN ?_ _) | (with_reducible refine Kd.C_drew ?_))); (case side2 => exact HC0_0.out); rintro e w45 ⟨rfl, hb⟩; have n0_ := Aside0.mk (blk_below (g := gb385) (o := .cells #[.slice A0_0 l0_0.length c0_0] 24 (0, 0)) (by with_reducible exact BK385.out) hb); have n1_ := Aside0.mk (blk_below (g := gb386) (o := .cells #[.int .i64 a1_0, .int .i64 a1_1, .int .i64 a1_2, .int .i64 a1_3, .int .i64 a1_4] 26 (0, 0)) (by with_reducible exact BK386.out) hb); have n2_ := Aside0.mk (below_step (by with_reducible exact HB.out) hb); clear BK385; clear BK386; clear HB; have BK385 := n0_; have BK386 := n1_; have HB := n2_; clear n0_ n1_ n2_; (try clear hb); (try clear hb2); (try clear hk); (try clear hi); have hcz46_0 : w45.cell? ⟨gb386, 0, none⟩ = some (.int .i64 a1_0) := (blk_cell BK386.out 0).trans rfl; have hcz46_1 : w45.cell? ⟨gb386, 1, none⟩ = some (.int .i64 a1_1) := (blk_cell BK386.out 1).trans rfl; have hcz46_2 : w45.cell? ⟨gb386, 2, none⟩ = some (.int .i64 a1_2) := (blk_cell BK386.out 2).trans rfl; have hcz46_3 : w45.cell? ⟨gb386, 3, none⟩ = some (.int .i64 a1_3) := (blk_cell BK386.out 3).trans rfl; have hcz46_4 : w45.cell? ⟨gb386, 4, none⟩ = some (.int .i64 a1_4) := (blk_cell BK386.out 4).trans rfl; have hfz46_0 := blk_frozen BK386.out 0; have hfz46_1 := blk_frozen BK386.out 1; have hfz46_2 := blk_frozen BK386.out 2; have hfz46_3 := blk_frozen BK386.out 3; have hfz46_4 := blk_frozen BK386.out 4) | (go_at_call 21; (with_reducible refine (slotmeshref27_Formed.calls a1_0 a1_1 a1_2 a1_3 a1_4 false _ A13.out).mono ?_); rintro e w47 ⟨rfl, hb⟩; have n0_ := Aside0.mk (blk_below (g := gb385) (o := .cells #[.slice A0_0 l0_0.length c0_0] 24 (0, 0)) (by with_reducible exact BK385.out) hb); have n1_ := Aside0.mk (blk_below (g := gb386) (o := .cells #[.int .i64 a1_0, .int .i64 a1_1, .int .i64 a1_2, .int .i64 a1_3, .int .i64 a1_4] 26 (0, 0)) (by with_reducible exact BK386.out) hb); have n2_ := Aside0.mk (below_step (by with_reducible exact HB.out) hb); clear BK385; clear BK386; clear HB; have BK385 := n0_; have BK386 := n1_; have HB := n2_; clear n0_ n1_ n2_; (try clear hb); (try clear hb2); (try clear hk); (try clear hi)))
     go_meet
     case rel => exact ⟨_, (true), (by first | rfl | (simp; done) | (simp [*]; done)), H', ⟨by first | omega | exact Nat.le_refl _⟩, ⟨by with_reducible exact BK385.out⟩, ⟨by with_reducible exact BK386.out⟩, ⟨by with_reducible exact HB.out⟩⟩
   ·replace c12 := Bool.eq_false_iff.mpr c12
    subst c12
    have H1 : (slotmeshlaw27_QueuePlaces.j0 k a2 t387 true l0_0 a1_0 a1_1 a1_2 a1_3 a1_4) = some r := by rw [if_neg (show ¬ (false = true) by decide)] at H; exact H
    clear H
    have H := H1
    clear H1
    have H' := Aside0.mk H
    clear H
    have hnb48 := NB385_386.out
    have hnc48 := NB386_385.out
    have hcz49_0 : w8.cell? ⟨gb385, 0, none⟩ = some (.slice A0_0 l0_0.length c0_0) := (blk_cell BK385.out 0).trans rfl
    have hfz49_0 := blk_frozen BK385.out 0
    go_wp2_with (first | ((with_reducible refine gate_callee (f := 10) rfl ?_); refine goesL_ (some 13) rfl rfl Try.func10 (by kernel_rfl) rfl #[.agg #[.slice A0_0 l0_0.length c0_0]] rfl (by (try simp only [List.map_toArray, List.map_cons, List.map_nil]); first | done | rfl | (simp only [List.length_drop, List.length_take]; rfl)) ?_; (with_reducible refine (slotmeshlaw27_short.calls _ _ l0_0 true _ ?side1 ?side2 A9.out).mono ?_); (case side1 => repeat (first | exact (Kd.C_below HR0_0.out HB.out) | (with_reducible refine Kd.C_alloc ?_ _) | (with_reducible refine Kd.C_drewN ?_ _) | (with_reducible refine Kd.C_drew ?_))); (case side2 => exact HC0_0.out); rintro e w50 ⟨rfl, hb⟩; refine ⟨_, rfl, ?_⟩; have n0_ := Aside0.mk (blk_below (g := gb385) (o := .cells #[.slice A0_0 l0_0.length c0_0] 24 (0, 0)) (by with_reducible exact BK385.out) hb); have n1_ := Aside0.mk (blk_below (g := gb386) (o := .cells #[.int .i64 a1_0, .int .i64 a1_1, .int .i64 a1_2, .int .i64 a1_3, .int .i64 a1_4] 26 (0, 0)) (by with_reducible exact BK386.out) hb); have n2_ := Aside0.mk (below_step (by with_reducible exact HB.out) hb); clear BK385; clear BK386; clear HB; have BK385 := n0_; have BK386 := n1_; have HB := n2_; clear n0_ n1_ n2_; (try clear hb); (try clear hb2); (try clear hk); (try clear hi); have hcz51_0 : w50.cell? ⟨gb385, 0, none⟩ = some (.slice A0_0 l0_0.length c0_0) := (blk_cell BK385.out 0).trans rfl; have hfz51_0 := blk_frozen BK385.out 0) | (go_at_call 20; (with_reducible refine (slotmeshref27_Valid.calls k _ _ l0_0 false _ ?side1 ?side2 A11.out).mono ?_); (case side1 => repeat (first | exact (Kd.C_below HR0_0.out HB.out) | (with_reducible refine Kd.C_alloc ?_ _) | (with_reducible refine Kd.C_drewN ?_ _) | (with_reducible refine Kd.C_drew ?_))); (case side2 => exact HC0_0.out); rintro e w52 ⟨rfl, hb⟩; have n0_ := Aside0.mk (blk_below (g := gb385) (o := .cells #[.slice A0_0 l0_0.length c0_0] 24 (0, 0)) (by with_reducible exact BK385.out) hb); have n1_ := Aside0.mk (blk_below (g := gb386) (o := .cells #[.int .i64 a1_0, .int .i64 a1_1, .int .i64 a1_2, .int .i64 a1_3, .int .i64 a1_4] 26 (0, 0)) (by with_reducible exact BK386.out) hb); have n2_ := Aside0.mk (below_step (by with_reducible exact HB.out) hb); clear BK385; clear BK386; clear HB; have BK385 := n0_; have BK386 := n1_; have HB := n2_; clear n0_ n1_ n2_; (try clear hb); (try clear hb2); (try clear hk); (try clear hi)))
    go_meet
    case rel => exact ⟨_, (true), (by first | rfl | (simp; done) | (simp [*]; done)), H', ⟨by first | omega | exact Nat.le_refl _⟩, ⟨by with_reducible exact BK385.out⟩, ⟨by with_reducible exact BK386.out⟩, ⟨by with_reducible exact HB.out⟩⟩
  ·replace c10 := Bool.eq_false_iff.mpr c10
   subst c10
   have H1 : (slotmeshlaw27_QueuePlaces.j0 k a2 t387 true l0_0 a1_0 a1_1 a1_2 a1_3 a1_4) = some r := by rw [if_neg (show ¬ (false = true) by decide)] at H; exact H
   clear H
   have H := H1
   clear H1
   have H' := Aside0.mk H
   clear H
   have hnb53 := NB385_386.out
   have hnc53 := NB386_385.out
   have hcz54_0 : w8.cell? ⟨gb385, 0, none⟩ = some (.slice A0_0 l0_0.length c0_0) := (blk_cell BK385.out 0).trans rfl
   have hfz54_0 := blk_frozen BK385.out 0
   go_wp2_with (first | ((with_reducible refine gate_callee (f := 10) rfl ?_); refine goesL_ (some 13) rfl rfl Try.func10 (by kernel_rfl) rfl #[.agg #[.slice A0_0 l0_0.length c0_0]] rfl (by (try simp only [List.map_toArray, List.map_cons, List.map_nil]); first | done | rfl | (simp only [List.length_drop, List.length_take]; rfl)) ?_; (with_reducible refine (slotmeshlaw27_short.calls _ _ l0_0 false _ ?side1 ?side2 A9.out).mono ?_); (case side1 => repeat (first | exact (Kd.C_below HR0_0.out HB.out) | (with_reducible refine Kd.C_alloc ?_ _) | (with_reducible refine Kd.C_drewN ?_ _) | (with_reducible refine Kd.C_drew ?_))); (case side2 => exact HC0_0.out); rintro e w55 ⟨rfl, hb⟩; refine ⟨_, rfl, ?_⟩; have n0_ := Aside0.mk (blk_below (g := gb385) (o := .cells #[.slice A0_0 l0_0.length c0_0] 24 (0, 0)) (by with_reducible exact BK385.out) hb); have n1_ := Aside0.mk (blk_below (g := gb386) (o := .cells #[.int .i64 a1_0, .int .i64 a1_1, .int .i64 a1_2, .int .i64 a1_3, .int .i64 a1_4] 26 (0, 0)) (by with_reducible exact BK386.out) hb); have n2_ := Aside0.mk (below_step (by with_reducible exact HB.out) hb); clear BK385; clear BK386; clear HB; have BK385 := n0_; have BK386 := n1_; have HB := n2_; clear n0_ n1_ n2_; (try clear hb); (try clear hb2); (try clear hk); (try clear hi)))
   go_meet
   case rel => exact ⟨_, (true), (by first | rfl | (simp; done) | (simp [*]; done)), H', ⟨by first | omega | exact Nat.le_refl _⟩, ⟨by with_reducible exact BK385.out⟩, ⟨by with_reducible exact BK386.out⟩, ⟨by with_reducible exact HB.out⟩⟩
 case rest =>
  clear HC5
  try clear c1
  try clear c2
  try clear p2
  try clear c3
  try clear c4
  try clear c5
  try clear c6
  try clear c9
  try clear c10
  try clear c12
  try clear c14
  try clear c15
  try clear c15b0
  try clear c16
  try clear c23
  try clear c23b0
  try clear c24
  try clear c32
  try clear c41
  try clear c48
  try clear c53
  try clear hcz17_0
  try clear hcz19_0
  try clear hcz21_0
  try clear hcz21_1
  try clear hcz21_2
  try clear hcz21_3
  try clear hcz21_4
  try clear hcz25_0
  try clear hcz27_0
  try clear hcz29_0
  try clear hcz29_1
  try clear hcz29_2
  try clear hcz29_3
  try clear hcz29_4
  try clear hcz33_0
  try clear hcz35_0
  try clear hcz37_0
  try clear hcz37_1
  try clear hcz37_2
  try clear hcz37_3
  try clear hcz37_4
  try clear hcz39_0
  try clear hcz40_0
  try clear hcz40_1
  try clear hcz40_2
  try clear hcz40_3
  try clear hcz40_4
  try clear hcz42_0
  try clear hcz44_0
  try clear hcz46_0
  try clear hcz46_1
  try clear hcz46_2
  try clear hcz46_3
  try clear hcz46_4
  try clear hcz49_0
  try clear hcz51_0
  try clear hcz54_0
  try clear hfz17_0
  try clear hfz19_0
  try clear hfz21_0
  try clear hfz21_1
  try clear hfz21_2
  try clear hfz21_3
  try clear hfz21_4
  try clear hfz25_0
  try clear hfz27_0
  try clear hfz29_0
  try clear hfz29_1
  try clear hfz29_2
  try clear hfz29_3
  try clear hfz29_4
  try clear hfz33_0
  try clear hfz35_0
  try clear hfz37_0
  try clear hfz37_1
  try clear hfz37_2
  try clear hfz37_3
  try clear hfz37_4
  try clear hfz39_0
  try clear hfz40_0
  try clear hfz40_1
  try clear hfz40_2
  try clear hfz40_3
  try clear hfz40_4
  try clear hfz42_0
  try clear hfz44_0
  try clear hfz46_0
  try clear hfz46_1
  try clear hfz46_2
  try clear hfz46_3
  try clear hfz46_4
  try clear hfz49_0
  try clear hfz51_0
  try clear hfz54_0
  obtain ⟨kq, x42_4, rfl, HA, HJ4, BK385, BK386, HB⟩ := hcut
  cases kq with
  | zero => exact absurd HA.out (by simp [slotmeshlaw27_QueuePlaces.j0])
  | succ kj4 =>
   have H := HA.out
   clear HA
   simp only [slotmeshlaw27_QueuePlaces.j0] at H
   by_cases c56 : x42_4 = true
   ·subst c56
    have H1 : (some t387) = some r := by rw [if_pos rfl] at H; exact H
    clear H
    have H := H1
    clear H1
    obtain rfl := Option.some.inj H
    go_wp2
    go_ret
    exact ⟨by first | rfl | (simp [errW_none, errW_some] <;> rfl) | (simp [*, errW_none, errW_some] <;> rfl), by with_reducible exact HB.out⟩
   ·replace c56 := Bool.eq_false_iff.mpr c56
    subst c56
    have H1 : ((queue_Put.f kj4 l0_0 a1_0 a1_1 a1_2 a1_3 a1_4 a2).bind fun bt392 => (if a1_0 = a2 then (if t387 = true then (if bt392.2 = 0 then (if (l0_0.length : Int) < 12 then (some true) else (some false)) else (if (l0_0.length : Int) < 12 then (some false) else (some (bt392.2 == 10)))) else (some false)) else (if t387 = true then (if bt392.2 = 0 then (if (l0_0.length : Int) < 16 then (some true) else (some false)) else (if (l0_0.length : Int) < 16 then (some false) else (some (bt392.2 == 10)))) else (some false)))) = some r := by rw [if_neg (show ¬ (false = true) by decide)] at H; exact H
    clear H
    have H := H1
    clear H1
    replace H := Option.bind_eq_some_iff.mp H
    obtain ⟨⟨t392, t395⟩, A570, H⟩ := H
    replace H : (if a1_0 = a2 then (if t387 = true then (if t395 = 0 then (if (l0_0.length : Int) < 12 then (some true) else (some false)) else (if (l0_0.length : Int) < 12 then (some false) else (some (t395 == 10)))) else (some false)) else (if t387 = true then (if t395 = 0 then (if (l0_0.length : Int) < 16 then (some true) else (some false)) else (if (l0_0.length : Int) < 16 then (some false) else (some (t395 == 10)))) else (some false))) = some r := H
    have A57 := Aside0.mk A570
    clear A570
    by_cases c58 : a1_0 = a2
    ·rw [if_pos c58] at H
     have c58b0 : (a1_0 == a2) = true := beq_iff_eq.mpr c58
     have c58b1 : (a1_0 != a2) = false := bne_eq_false_iff_eq.mpr c58
     clear c58
     by_cases c59 : t387 = true
     ·subst c59
      have H1 : (if t395 = 0 then (if (l0_0.length : Int) < 12 then (some true) else (some false)) else (if (l0_0.length : Int) < 12 then (some false) else (some (t395 == 10)))) = some r := by rw [if_pos rfl] at H; exact H
      clear H
      have H := H1
      clear H1
      by_cases c60 : t395 = 0
      ·rw [if_pos c60] at H
       have c60b0 : (t395 == 0) = true := beq_iff_eq.mpr c60
       have c60b1 : (t395 != 0) = false := bne_eq_false_iff_eq.mpr c60
       clear c60
       by_cases c61 : (l0_0.length : Int) < 12
       ·rw [if_pos c61] at H
        have c61b0 : decide ((l0_0.length : Int) < 12) = true := decide_eq_true c61
        have c61b1 : decide (l0_0.length < 12) = true := decide_eq_true (by omega)
        clear c61
        obtain rfl := Option.some.inj H
        have hnb62 := NB385_386.out
        have hnc62 := NB386_385.out
        have hcz63_0 : wc.cell? ⟨gb385, 0, none⟩ = some (.slice A0_0 l0_0.length c0_0) := (blk_cell BK385.out 0).trans rfl
        have hfz63_0 := blk_frozen BK385.out 0
        have hcz64_0 : wc.cell? ⟨gb386, 0, none⟩ = some (.int .i64 a1_0) := (blk_cell BK386.out 0).trans rfl
        have hcz64_1 : wc.cell? ⟨gb386, 1, none⟩ = some (.int .i64 a1_1) := (blk_cell BK386.out 1).trans rfl
        have hcz64_2 : wc.cell? ⟨gb386, 2, none⟩ = some (.int .i64 a1_2) := (blk_cell BK386.out 2).trans rfl
        have hcz64_3 : wc.cell? ⟨gb386, 3, none⟩ = some (.int .i64 a1_3) := (blk_cell BK386.out 3).trans rfl
        have hcz64_4 : wc.cell? ⟨gb386, 4, none⟩ = some (.int .i64 a1_4) := (blk_cell BK386.out 4).trans rfl
        have hfz64_0 := blk_frozen BK386.out 0
        have hfz64_1 := blk_frozen BK386.out 1
        have hfz64_2 := blk_frozen BK386.out 2
        have hfz64_3 := blk_frozen BK386.out 3
        have hfz64_4 := blk_frozen BK386.out 4
        go_wp2_with (first | ((with_reducible refine gate_callee (f := 11) rfl ?_); refine goesL_ (some 48) rfl rfl Try.func11 (by kernel_rfl) rfl #[.agg #[.slice A0_0 l0_0.length c0_0], .agg #[.int .i64 a1_0, .int .i64 a1_1, .int .i64 a1_2, .int .i64 a1_3, .int .i64 a1_4], .int .i64 a2] rfl (by (try simp only [List.map_toArray, List.map_cons, List.map_nil]); first | done | rfl | (simp only [List.length_drop, List.length_take]; rfl)) ?_; (with_reducible refine (queue_Put.calls kj4 _ _ l0_0 a1_0 a1_1 a1_2 a1_3 a1_4 a2 t392 t395 _ ?side1 ?side2 A57.out).mono ?_); (case side1 => repeat (first | exact (Kd.C_below HR0_0.out HB.out) | (with_reducible refine Kd.C_alloc ?_ _) | (with_reducible refine Kd.C_drewN ?_ _) | (with_reducible refine Kd.C_drew ?_))); (case side2 => exact HC0_0.out); rintro e w65 ⟨v393, rfl, ho0, hb⟩; refine ⟨_, rfl, ?_⟩; have n0_ := Aside0.mk (Kd.R_lower (Kd.R_newB ho0 (g := gb386) (o := .cells #[.int .i64 a1_0, .int .i64 a1_1, .int .i64 a1_2, .int .i64 a1_3, .int .i64 a1_4] 26 (0, 0)) (by with_reducible exact BK386.out)) (below_size (by with_reducible exact HB.out))); have n1_ := Aside0.mk (blk_below (g := gb385) (o := .cells #[.slice A0_0 l0_0.length c0_0] 24 (0, 0)) (by with_reducible exact BK385.out) hb); have n2_ := Aside0.mk (blk_below (g := gb386) (o := .cells #[.int .i64 a1_0, .int .i64 a1_1, .int .i64 a1_2, .int .i64 a1_3, .int .i64 a1_4] 26 (0, 0)) (by with_reducible exact BK386.out) hb); have n3_ := Aside0.mk (below_step (by with_reducible exact HB.out) hb); clear BK385; clear BK386; clear HB; have HO394 := n0_; have BK385 := n1_; have BK386 := n2_; have HB := n3_; clear n0_ n1_ n2_ n3_; (try clear hb); (try clear hb2); (try clear hk); (try clear hi); (try clear ho0)) | ((with_reducible refine gate_dst (N := 8) rfl ?_); (try (refine gate_guard (by rfl) ?_; dsimp only)); refine box_event ?hg (N := 8) ?hd (cs := #[.slice none 0 0]) (t := 24) ?hr ?_; (case hd => rfl); (case hg => rfl); (case hr => first | (go_simp; done) | (go_simp; rfl)); intro gb396 hg w66 hbox hb; have n0_ := Aside0.mk (Kd.R_below (by with_reducible exact HO394.out) hb); have n1_ := Aside0.mk (blk_below (g := gb385) (o := .cells #[.slice A0_0 l0_0.length c0_0] 24 (0, 0)) (by with_reducible exact BK385.out) hb); have n2_ := Aside0.mk (blk_below (g := gb386) (o := .cells #[.int .i64 a1_0, .int .i64 a1_1, .int .i64 a1_2, .int .i64 a1_3, .int .i64 a1_4] 26 (0, 0)) (by with_reducible exact BK386.out) hb); have n3_ := Aside0.mk (below_step (by with_reducible exact HB.out) hb); have n4_ := Aside0.mk (hbox); have n5_ := Aside0.mk ((by rw [hg]; exact (below_size (by with_reducible exact HB.out)) : w.heap.size ≤ gb396)); have n6_ := Aside0.mk ((by rw [hg]; exact (below_size (by with_reducible exact HB.out)) : w.heap.size ≤ gb396)); have n7_ := Aside0.mk ((by rw [hg]; exact Nat.ne_of_lt (blk_lt (g := gb385) (o := .cells #[.slice A0_0 l0_0.length c0_0] 24 (0, 0)) (by with_reducible exact BK385.out)) : gb385 ≠ gb396)); have n8_ := Aside0.mk ((by rw [hg]; exact Nat.ne_of_gt (blk_lt (g := gb385) (o := .cells #[.slice A0_0 l0_0.length c0_0] 24 (0, 0)) (by with_reducible exact BK385.out)) : gb396 ≠ gb385)); have n9_ := Aside0.mk ((by rw [hg]; exact Nat.ne_of_lt (blk_lt (g := gb386) (o := .cells #[.int .i64 a1_0, .int .i64 a1_1, .int .i64 a1_2, .int .i64 a1_3, .int .i64 a1_4] 26 (0, 0)) (by with_reducible exact BK386.out)) : gb386 ≠ gb396)); have n10_ := Aside0.mk ((by rw [hg]; exact Nat.ne_of_gt (blk_lt (g := gb386) (o := .cells #[.int .i64 a1_0, .int .i64 a1_1, .int .i64 a1_2, .int .i64 a1_3, .int .i64 a1_4] 26 (0, 0)) (by with_reducible exact BK386.out)) : gb396 ≠ gb386)); clear HO394; clear BK385; clear BK386; clear HB; have HO394 := n0_; have BK385 := n1_; have BK386 := n2_; have HB := n3_; have BK396 := n4_; have GW396 := n5_; have GE396 := n6_; have NB385_396 := n7_; have NB396_385 := n8_; have NB386_396 := n9_; have NB396_386 := n10_; clear n0_ n1_ n2_ n3_ n4_ n5_ n6_ n7_ n8_ n9_ n10_; clear hb hbox hg; obtain ⟨Ao67, co67, eo67⟩ := Kd.R_slice HO394.out; subst eo67; have hnb68 := NB396_385.out; have hnc68 := NB385_396.out; have hnb69 := NB396_386.out; have hnc69 := NB386_396.out; have hcz70_0 : w66.cell? ⟨gb396, 0, none⟩ = some (.slice none 0 0) := (blk_cell BK396.out 0).trans rfl; have hfz70_0 := blk_frozen BK396.out 0; have hcz71_0 : w66.cell? ⟨gb386, 0, none⟩ = some (.int .i64 a1_0) := (blk_cell BK386.out 0).trans rfl; have hcz71_1 : w66.cell? ⟨gb386, 1, none⟩ = some (.int .i64 a1_1) := (blk_cell BK386.out 1).trans rfl; have hcz71_2 : w66.cell? ⟨gb386, 2, none⟩ = some (.int .i64 a1_2) := (blk_cell BK386.out 2).trans rfl; have hcz71_3 : w66.cell? ⟨gb386, 3, none⟩ = some (.int .i64 a1_3) := (blk_cell BK386.out 3).trans rfl; have hcz71_4 : w66.cell? ⟨gb386, 4, none⟩ = some (.int .i64 a1_4) := (blk_cell BK386.out 4).trans rfl; have hfz71_0 := blk_frozen BK386.out 0; have hfz71_1 := blk_frozen BK386.out 1; have hfz71_2 := blk_frozen BK386.out 2; have hfz71_3 := blk_frozen BK386.out 3; have hfz71_4 := blk_frozen BK386.out 4; have hcz72_0 : w66.cell? ⟨gb385, 0, none⟩ = some (.slice A0_0 l0_0.length c0_0) := (blk_cell BK385.out 0).trans rfl; have hfz72_0 := blk_frozen BK385.out 0))
        go_ret
        exact ⟨by first | rfl | (simp [errW_none, errW_some] <;> rfl) | (simp [*, errW_none, errW_some] <;> rfl), by repeat (first | (with_reducible first | exact HB.out | apply below_alloc | apply pw_below_drewN | apply below_drew1 | refine below_set ?_ GE385.out | refine below_set ?_ GE386.out | refine below_set ?_ GE396.out) | exact HB.out)⟩
       ·rw [if_neg c61] at H
        have c61b0 : decide ((l0_0.length : Int) < 12) = false := decide_eq_false c61
        have c61b1 : decide (l0_0.length < 12) = false := decide_eq_false (by omega)
        clear c61
        exact absurd (Option.some.inj H) (by rw [HRT.out]; decide)
      ·rw [if_neg c60] at H
       have c60b0 : (t395 == 0) = false := beq_eq_false_iff_ne.mpr c60
       have c60b1 : (t395 != 0) = true := bne_iff_ne.mpr c60
       by_cases c73 : (l0_0.length : Int) < 12
       ·rw [if_pos c73] at H
        have c73b0 : decide ((l0_0.length : Int) < 12) = true := decide_eq_true c73
        have c73b1 : decide (l0_0.length < 12) = true := decide_eq_true (by omega)
        clear c73
        exact absurd (Option.some.inj H) (by rw [HRT.out]; decide)
       ·rw [if_neg c73] at H
        have c73b0 : decide ((l0_0.length : Int) < 12) = false := decide_eq_false c73
        have c73b1 : decide (l0_0.length < 12) = false := decide_eq_false (by omega)
        clear c73
        obtain rfl := Option.some.inj H
        have hnb74 := NB385_386.out
        have hnc74 := NB386_385.out
        have hcz75_0 : wc.cell? ⟨gb385, 0, none⟩ = some (.slice A0_0 l0_0.length c0_0) := (blk_cell BK385.out 0).trans rfl
        have hfz75_0 := blk_frozen BK385.out 0
        have hcz76_0 : wc.cell? ⟨gb386, 0, none⟩ = some (.int .i64 a1_0) := (blk_cell BK386.out 0).trans rfl
        have hcz76_1 : wc.cell? ⟨gb386, 1, none⟩ = some (.int .i64 a1_1) := (blk_cell BK386.out 1).trans rfl
        have hcz76_2 : wc.cell? ⟨gb386, 2, none⟩ = some (.int .i64 a1_2) := (blk_cell BK386.out 2).trans rfl
        have hcz76_3 : wc.cell? ⟨gb386, 3, none⟩ = some (.int .i64 a1_3) := (blk_cell BK386.out 3).trans rfl
        have hcz76_4 : wc.cell? ⟨gb386, 4, none⟩ = some (.int .i64 a1_4) := (blk_cell BK386.out 4).trans rfl
        have hfz76_0 := blk_frozen BK386.out 0
        have hfz76_1 := blk_frozen BK386.out 1
        have hfz76_2 := blk_frozen BK386.out 2
        have hfz76_3 := blk_frozen BK386.out 3
        have hfz76_4 := blk_frozen BK386.out 4
        go_wp2_with (first | ((with_reducible refine gate_callee (f := 11) rfl ?_); refine goesL_ (some 48) rfl rfl Try.func11 (by kernel_rfl) rfl #[.agg #[.slice A0_0 l0_0.length c0_0], .agg #[.int .i64 a1_0, .int .i64 a1_1, .int .i64 a1_2, .int .i64 a1_3, .int .i64 a1_4], .int .i64 a2] rfl (by (try simp only [List.map_toArray, List.map_cons, List.map_nil]); first | done | rfl | (simp only [List.length_drop, List.length_take]; rfl)) ?_; (with_reducible refine (queue_Put.calls kj4 _ _ l0_0 a1_0 a1_1 a1_2 a1_3 a1_4 a2 t392 t395 _ ?side1 ?side2 A57.out).mono ?_); (case side1 => repeat (first | exact (Kd.C_below HR0_0.out HB.out) | (with_reducible refine Kd.C_alloc ?_ _) | (with_reducible refine Kd.C_drewN ?_ _) | (with_reducible refine Kd.C_drew ?_))); (case side2 => exact HC0_0.out); rintro e w77 ⟨v393, rfl, ho0, hb⟩; refine ⟨_, rfl, ?_⟩; have n0_ := Aside0.mk (Kd.R_lower (Kd.R_newB ho0 (g := gb386) (o := .cells #[.int .i64 a1_0, .int .i64 a1_1, .int .i64 a1_2, .int .i64 a1_3, .int .i64 a1_4] 26 (0, 0)) (by with_reducible exact BK386.out)) (below_size (by with_reducible exact HB.out))); have n1_ := Aside0.mk (blk_below (g := gb385) (o := .cells #[.slice A0_0 l0_0.length c0_0] 24 (0, 0)) (by with_reducible exact BK385.out) hb); have n2_ := Aside0.mk (blk_below (g := gb386) (o := .cells #[.int .i64 a1_0, .int .i64 a1_1, .int .i64 a1_2, .int .i64 a1_3, .int .i64 a1_4] 26 (0, 0)) (by with_reducible exact BK386.out) hb); have n3_ := Aside0.mk (below_step (by with_reducible exact HB.out) hb); clear BK385; clear BK386; clear HB; have HO394 := n0_; have BK385 := n1_; have BK386 := n2_; have HB := n3_; clear n0_ n1_ n2_ n3_; (try clear hb); (try clear hb2); (try clear hk); (try clear hi); (try clear ho0)) | ((with_reducible refine gate_dst (N := 8) rfl ?_); (try (refine gate_guard (by rfl) ?_; dsimp only)); refine box_event ?hg (N := 8) ?hd (cs := #[.slice none 0 0]) (t := 24) ?hr ?_; (case hd => rfl); (case hg => rfl); (case hr => first | (go_simp; done) | (go_simp; rfl)); intro gb396 hg w78 hbox hb; have n0_ := Aside0.mk (Kd.R_below (by with_reducible exact HO394.out) hb); have n1_ := Aside0.mk (blk_below (g := gb385) (o := .cells #[.slice A0_0 l0_0.length c0_0] 24 (0, 0)) (by with_reducible exact BK385.out) hb); have n2_ := Aside0.mk (blk_below (g := gb386) (o := .cells #[.int .i64 a1_0, .int .i64 a1_1, .int .i64 a1_2, .int .i64 a1_3, .int .i64 a1_4] 26 (0, 0)) (by with_reducible exact BK386.out) hb); have n3_ := Aside0.mk (below_step (by with_reducible exact HB.out) hb); have n4_ := Aside0.mk (hbox); have n5_ := Aside0.mk ((by rw [hg]; exact (below_size (by with_reducible exact HB.out)) : w.heap.size ≤ gb396)); have n6_ := Aside0.mk ((by rw [hg]; exact (below_size (by with_reducible exact HB.out)) : w.heap.size ≤ gb396)); have n7_ := Aside0.mk ((by rw [hg]; exact Nat.ne_of_lt (blk_lt (g := gb385) (o := .cells #[.slice A0_0 l0_0.length c0_0] 24 (0, 0)) (by with_reducible exact BK385.out)) : gb385 ≠ gb396)); have n8_ := Aside0.mk ((by rw [hg]; exact Nat.ne_of_gt (blk_lt (g := gb385) (o := .cells #[.slice A0_0 l0_0.length c0_0] 24 (0, 0)) (by with_reducible exact BK385.out)) : gb396 ≠ gb385)); have n9_ := Aside0.mk ((by rw [hg]; exact Nat.ne_of_lt (blk_lt (g := gb386) (o := .cells #[.int .i64 a1_0, .int .i64 a1_1, .int .i64 a1_2, .int .i64 a1_3, .int .i64 a1_4] 26 (0, 0)) (by with_reducible exact BK386.out)) : gb386 ≠ gb396)); have n10_ := Aside0.mk ((by rw [hg]; exact Nat.ne_of_gt (blk_lt (g := gb386) (o := .cells #[.int .i64 a1_0, .int .i64 a1_1, .int .i64 a1_2, .int .i64 a1_3, .int .i64 a1_4] 26 (0, 0)) (by with_reducible exact BK386.out)) : gb396 ≠ gb386)); clear HO394; clear BK385; clear BK386; clear HB; have HO394 := n0_; have BK385 := n1_; have BK386 := n2_; have HB := n3_; have BK396 := n4_; have GW396 := n5_; have GE396 := n6_; have NB385_396 := n7_; have NB396_385 := n8_; have NB386_396 := n9_; have NB396_386 := n10_; clear n0_ n1_ n2_ n3_ n4_ n5_ n6_ n7_ n8_ n9_ n10_; clear hb hbox hg; obtain ⟨Ao79, co79, eo79⟩ := Kd.R_slice HO394.out; subst eo79; have hnb80 := NB396_385.out; have hnc80 := NB385_396.out; have hnb81 := NB396_386.out; have hnc81 := NB386_396.out; have hcz82_0 : w78.cell? ⟨gb396, 0, none⟩ = some (.slice none 0 0) := (blk_cell BK396.out 0).trans rfl; have hfz82_0 := blk_frozen BK396.out 0; have hcz83_0 : w78.cell? ⟨gb386, 0, none⟩ = some (.int .i64 a1_0) := (blk_cell BK386.out 0).trans rfl; have hcz83_1 : w78.cell? ⟨gb386, 1, none⟩ = some (.int .i64 a1_1) := (blk_cell BK386.out 1).trans rfl; have hcz83_2 : w78.cell? ⟨gb386, 2, none⟩ = some (.int .i64 a1_2) := (blk_cell BK386.out 2).trans rfl; have hcz83_3 : w78.cell? ⟨gb386, 3, none⟩ = some (.int .i64 a1_3) := (blk_cell BK386.out 3).trans rfl; have hcz83_4 : w78.cell? ⟨gb386, 4, none⟩ = some (.int .i64 a1_4) := (blk_cell BK386.out 4).trans rfl; have hfz83_0 := blk_frozen BK386.out 0; have hfz83_1 := blk_frozen BK386.out 1; have hfz83_2 := blk_frozen BK386.out 2; have hfz83_3 := blk_frozen BK386.out 3; have hfz83_4 := blk_frozen BK386.out 4; have hcz84_0 : w78.cell? ⟨gb385, 0, none⟩ = some (.slice A0_0 l0_0.length c0_0) := (blk_cell BK385.out 0).trans rfl; have hfz84_0 := blk_frozen BK385.out 0))
        go_ret
        exact ⟨by first | rfl | (simp [errW_none, errW_some] <;> rfl) | (simp [*, errW_none, errW_some] <;> rfl), by repeat (first | (with_reducible first | exact HB.out | apply below_alloc | apply pw_below_drewN | apply below_drew1 | refine below_set ?_ GE385.out | refine below_set ?_ GE386.out | refine below_set ?_ GE396.out) | exact HB.out)⟩
     ·replace c59 := Bool.eq_false_iff.mpr c59
      subst c59
      have H1 : (some false) = some r := by rw [if_neg (show ¬ (false = true) by decide)] at H; exact H
      clear H
      have H := H1
      clear H1
      exact absurd (Option.some.inj H) (by rw [HRT.out]; decide)
    ·rw [if_neg c58] at H
     have c58b0 : (a1_0 == a2) = false := beq_eq_false_iff_ne.mpr c58
     have c58b1 : (a1_0 != a2) = true := bne_iff_ne.mpr c58
     by_cases c85 : t387 = true
     ·subst c85
      have H1 : (if t395 = 0 then (if (l0_0.length : Int) < 16 then (some true) else (some false)) else (if (l0_0.length : Int) < 16 then (some false) else (some (t395 == 10)))) = some r := by rw [if_pos rfl] at H; exact H
      clear H
      have H := H1
      clear H1
      by_cases c86 : t395 = 0
      ·rw [if_pos c86] at H
       have c86b0 : (t395 == 0) = true := beq_iff_eq.mpr c86
       have c86b1 : (t395 != 0) = false := bne_eq_false_iff_eq.mpr c86
       clear c86
       by_cases c87 : (l0_0.length : Int) < 16
       ·rw [if_pos c87] at H
        have c87b0 : decide ((l0_0.length : Int) < 16) = true := decide_eq_true c87
        have c87b1 : decide (l0_0.length < 16) = true := decide_eq_true (by omega)
        clear c87
        obtain rfl := Option.some.inj H
        have hnb88 := NB385_386.out
        have hnc88 := NB386_385.out
        have hcz89_0 : wc.cell? ⟨gb385, 0, none⟩ = some (.slice A0_0 l0_0.length c0_0) := (blk_cell BK385.out 0).trans rfl
        have hfz89_0 := blk_frozen BK385.out 0
        have hcz90_0 : wc.cell? ⟨gb386, 0, none⟩ = some (.int .i64 a1_0) := (blk_cell BK386.out 0).trans rfl
        have hcz90_1 : wc.cell? ⟨gb386, 1, none⟩ = some (.int .i64 a1_1) := (blk_cell BK386.out 1).trans rfl
        have hcz90_2 : wc.cell? ⟨gb386, 2, none⟩ = some (.int .i64 a1_2) := (blk_cell BK386.out 2).trans rfl
        have hcz90_3 : wc.cell? ⟨gb386, 3, none⟩ = some (.int .i64 a1_3) := (blk_cell BK386.out 3).trans rfl
        have hcz90_4 : wc.cell? ⟨gb386, 4, none⟩ = some (.int .i64 a1_4) := (blk_cell BK386.out 4).trans rfl
        have hfz90_0 := blk_frozen BK386.out 0
        have hfz90_1 := blk_frozen BK386.out 1
        have hfz90_2 := blk_frozen BK386.out 2
        have hfz90_3 := blk_frozen BK386.out 3
        have hfz90_4 := blk_frozen BK386.out 4
        go_wp2_with (first | ((with_reducible refine gate_callee (f := 11) rfl ?_); refine goesL_ (some 48) rfl rfl Try.func11 (by kernel_rfl) rfl #[.agg #[.slice A0_0 l0_0.length c0_0], .agg #[.int .i64 a1_0, .int .i64 a1_1, .int .i64 a1_2, .int .i64 a1_3, .int .i64 a1_4], .int .i64 a2] rfl (by (try simp only [List.map_toArray, List.map_cons, List.map_nil]); first | done | rfl | (simp only [List.length_drop, List.length_take]; rfl)) ?_; (with_reducible refine (queue_Put.calls kj4 _ _ l0_0 a1_0 a1_1 a1_2 a1_3 a1_4 a2 t392 t395 _ ?side1 ?side2 A57.out).mono ?_); (case side1 => repeat (first | exact (Kd.C_below HR0_0.out HB.out) | (with_reducible refine Kd.C_alloc ?_ _) | (with_reducible refine Kd.C_drewN ?_ _) | (with_reducible refine Kd.C_drew ?_))); (case side2 => exact HC0_0.out); rintro e w91 ⟨v393, rfl, ho0, hb⟩; refine ⟨_, rfl, ?_⟩; have n0_ := Aside0.mk (Kd.R_lower (Kd.R_newB ho0 (g := gb386) (o := .cells #[.int .i64 a1_0, .int .i64 a1_1, .int .i64 a1_2, .int .i64 a1_3, .int .i64 a1_4] 26 (0, 0)) (by with_reducible exact BK386.out)) (below_size (by with_reducible exact HB.out))); have n1_ := Aside0.mk (blk_below (g := gb385) (o := .cells #[.slice A0_0 l0_0.length c0_0] 24 (0, 0)) (by with_reducible exact BK385.out) hb); have n2_ := Aside0.mk (blk_below (g := gb386) (o := .cells #[.int .i64 a1_0, .int .i64 a1_1, .int .i64 a1_2, .int .i64 a1_3, .int .i64 a1_4] 26 (0, 0)) (by with_reducible exact BK386.out) hb); have n3_ := Aside0.mk (below_step (by with_reducible exact HB.out) hb); clear BK385; clear BK386; clear HB; have HO394 := n0_; have BK385 := n1_; have BK386 := n2_; have HB := n3_; clear n0_ n1_ n2_ n3_; (try clear hb); (try clear hb2); (try clear hk); (try clear hi); (try clear ho0)) | ((with_reducible refine gate_dst (N := 8) rfl ?_); (try (refine gate_guard (by rfl) ?_; dsimp only)); refine box_event ?hg (N := 8) ?hd (cs := #[.slice none 0 0]) (t := 24) ?hr ?_; (case hd => rfl); (case hg => rfl); (case hr => first | (go_simp; done) | (go_simp; rfl)); intro gb396 hg w92 hbox hb; have n0_ := Aside0.mk (Kd.R_below (by with_reducible exact HO394.out) hb); have n1_ := Aside0.mk (blk_below (g := gb385) (o := .cells #[.slice A0_0 l0_0.length c0_0] 24 (0, 0)) (by with_reducible exact BK385.out) hb); have n2_ := Aside0.mk (blk_below (g := gb386) (o := .cells #[.int .i64 a1_0, .int .i64 a1_1, .int .i64 a1_2, .int .i64 a1_3, .int .i64 a1_4] 26 (0, 0)) (by with_reducible exact BK386.out) hb); have n3_ := Aside0.mk (below_step (by with_reducible exact HB.out) hb); have n4_ := Aside0.mk (hbox); have n5_ := Aside0.mk ((by rw [hg]; exact (below_size (by with_reducible exact HB.out)) : w.heap.size ≤ gb396)); have n6_ := Aside0.mk ((by rw [hg]; exact (below_size (by with_reducible exact HB.out)) : w.heap.size ≤ gb396)); have n7_ := Aside0.mk ((by rw [hg]; exact Nat.ne_of_lt (blk_lt (g := gb385) (o := .cells #[.slice A0_0 l0_0.length c0_0] 24 (0, 0)) (by with_reducible exact BK385.out)) : gb385 ≠ gb396)); have n8_ := Aside0.mk ((by rw [hg]; exact Nat.ne_of_gt (blk_lt (g := gb385) (o := .cells #[.slice A0_0 l0_0.length c0_0] 24 (0, 0)) (by with_reducible exact BK385.out)) : gb396 ≠ gb385)); have n9_ := Aside0.mk ((by rw [hg]; exact Nat.ne_of_lt (blk_lt (g := gb386) (o := .cells #[.int .i64 a1_0, .int .i64 a1_1, .int .i64 a1_2, .int .i64 a1_3, .int .i64 a1_4] 26 (0, 0)) (by with_reducible exact BK386.out)) : gb386 ≠ gb396)); have n10_ := Aside0.mk ((by rw [hg]; exact Nat.ne_of_gt (blk_lt (g := gb386) (o := .cells #[.int .i64 a1_0, .int .i64 a1_1, .int .i64 a1_2, .int .i64 a1_3, .int .i64 a1_4] 26 (0, 0)) (by with_reducible exact BK386.out)) : gb396 ≠ gb386)); clear HO394; clear BK385; clear BK386; clear HB; have HO394 := n0_; have BK385 := n1_; have BK386 := n2_; have HB := n3_; have BK396 := n4_; have GW396 := n5_; have GE396 := n6_; have NB385_396 := n7_; have NB396_385 := n8_; have NB386_396 := n9_; have NB396_386 := n10_; clear n0_ n1_ n2_ n3_ n4_ n5_ n6_ n7_ n8_ n9_ n10_; clear hb hbox hg; obtain ⟨Ao93, co93, eo93⟩ := Kd.R_slice HO394.out; subst eo93; have hnb94 := NB396_385.out; have hnc94 := NB385_396.out; have hnb95 := NB396_386.out; have hnc95 := NB386_396.out; have hcz96_0 : w92.cell? ⟨gb396, 0, none⟩ = some (.slice none 0 0) := (blk_cell BK396.out 0).trans rfl; have hfz96_0 := blk_frozen BK396.out 0; have hcz97_0 : w92.cell? ⟨gb386, 0, none⟩ = some (.int .i64 a1_0) := (blk_cell BK386.out 0).trans rfl; have hcz97_1 : w92.cell? ⟨gb386, 1, none⟩ = some (.int .i64 a1_1) := (blk_cell BK386.out 1).trans rfl; have hcz97_2 : w92.cell? ⟨gb386, 2, none⟩ = some (.int .i64 a1_2) := (blk_cell BK386.out 2).trans rfl; have hcz97_3 : w92.cell? ⟨gb386, 3, none⟩ = some (.int .i64 a1_3) := (blk_cell BK386.out 3).trans rfl; have hcz97_4 : w92.cell? ⟨gb386, 4, none⟩ = some (.int .i64 a1_4) := (blk_cell BK386.out 4).trans rfl; have hfz97_0 := blk_frozen BK386.out 0; have hfz97_1 := blk_frozen BK386.out 1; have hfz97_2 := blk_frozen BK386.out 2; have hfz97_3 := blk_frozen BK386.out 3; have hfz97_4 := blk_frozen BK386.out 4; have hcz98_0 : w92.cell? ⟨gb385, 0, none⟩ = some (.slice A0_0 l0_0.length c0_0) := (blk_cell BK385.out 0).trans rfl; have hfz98_0 := blk_frozen BK385.out 0))
        go_ret
        exact ⟨by first | rfl | (simp [errW_none, errW_some] <;> rfl) | (simp [*, errW_none, errW_some] <;> rfl), by repeat (first | (with_reducible first | exact HB.out | apply below_alloc | apply pw_below_drewN | apply below_drew1 | refine below_set ?_ GE385.out | refine below_set ?_ GE386.out | refine below_set ?_ GE396.out) | exact HB.out)⟩
       ·rw [if_neg c87] at H
        have c87b0 : decide ((l0_0.length : Int) < 16) = false := decide_eq_false c87
        have c87b1 : decide (l0_0.length < 16) = false := decide_eq_false (by omega)
        clear c87
        exact absurd (Option.some.inj H) (by rw [HRT.out]; decide)
      ·rw [if_neg c86] at H
       have c86b0 : (t395 == 0) = false := beq_eq_false_iff_ne.mpr c86
       have c86b1 : (t395 != 0) = true := bne_iff_ne.mpr c86
       by_cases c99 : (l0_0.length : Int) < 16
       ·rw [if_pos c99] at H
        have c99b0 : decide ((l0_0.length : Int) < 16) = true := decide_eq_true c99
        have c99b1 : decide (l0_0.length < 16) = true := decide_eq_true (by omega)
        clear c99
        exact absurd (Option.some.inj H) (by rw [HRT.out]; decide)
       ·rw [if_neg c99] at H
        have c99b0 : decide ((l0_0.length : Int) < 16) = false := decide_eq_false c99
        have c99b1 : decide (l0_0.length < 16) = false := decide_eq_false (by omega)
        clear c99
        obtain rfl := Option.some.inj H
        have hnb100 := NB385_386.out
        have hnc100 := NB386_385.out
        have hcz101_0 : wc.cell? ⟨gb385, 0, none⟩ = some (.slice A0_0 l0_0.length c0_0) := (blk_cell BK385.out 0).trans rfl
        have hfz101_0 := blk_frozen BK385.out 0
        have hcz102_0 : wc.cell? ⟨gb386, 0, none⟩ = some (.int .i64 a1_0) := (blk_cell BK386.out 0).trans rfl
        have hcz102_1 : wc.cell? ⟨gb386, 1, none⟩ = some (.int .i64 a1_1) := (blk_cell BK386.out 1).trans rfl
        have hcz102_2 : wc.cell? ⟨gb386, 2, none⟩ = some (.int .i64 a1_2) := (blk_cell BK386.out 2).trans rfl
        have hcz102_3 : wc.cell? ⟨gb386, 3, none⟩ = some (.int .i64 a1_3) := (blk_cell BK386.out 3).trans rfl
        have hcz102_4 : wc.cell? ⟨gb386, 4, none⟩ = some (.int .i64 a1_4) := (blk_cell BK386.out 4).trans rfl
        have hfz102_0 := blk_frozen BK386.out 0
        have hfz102_1 := blk_frozen BK386.out 1
        have hfz102_2 := blk_frozen BK386.out 2
        have hfz102_3 := blk_frozen BK386.out 3
        have hfz102_4 := blk_frozen BK386.out 4
        go_wp2_with (first | ((with_reducible refine gate_callee (f := 11) rfl ?_); refine goesL_ (some 48) rfl rfl Try.func11 (by kernel_rfl) rfl #[.agg #[.slice A0_0 l0_0.length c0_0], .agg #[.int .i64 a1_0, .int .i64 a1_1, .int .i64 a1_2, .int .i64 a1_3, .int .i64 a1_4], .int .i64 a2] rfl (by (try simp only [List.map_toArray, List.map_cons, List.map_nil]); first | done | rfl | (simp only [List.length_drop, List.length_take]; rfl)) ?_; (with_reducible refine (queue_Put.calls kj4 _ _ l0_0 a1_0 a1_1 a1_2 a1_3 a1_4 a2 t392 t395 _ ?side1 ?side2 A57.out).mono ?_); (case side1 => repeat (first | exact (Kd.C_below HR0_0.out HB.out) | (with_reducible refine Kd.C_alloc ?_ _) | (with_reducible refine Kd.C_drewN ?_ _) | (with_reducible refine Kd.C_drew ?_))); (case side2 => exact HC0_0.out); rintro e w103 ⟨v393, rfl, ho0, hb⟩; refine ⟨_, rfl, ?_⟩; have n0_ := Aside0.mk (Kd.R_lower (Kd.R_newB ho0 (g := gb386) (o := .cells #[.int .i64 a1_0, .int .i64 a1_1, .int .i64 a1_2, .int .i64 a1_3, .int .i64 a1_4] 26 (0, 0)) (by with_reducible exact BK386.out)) (below_size (by with_reducible exact HB.out))); have n1_ := Aside0.mk (blk_below (g := gb385) (o := .cells #[.slice A0_0 l0_0.length c0_0] 24 (0, 0)) (by with_reducible exact BK385.out) hb); have n2_ := Aside0.mk (blk_below (g := gb386) (o := .cells #[.int .i64 a1_0, .int .i64 a1_1, .int .i64 a1_2, .int .i64 a1_3, .int .i64 a1_4] 26 (0, 0)) (by with_reducible exact BK386.out) hb); have n3_ := Aside0.mk (below_step (by with_reducible exact HB.out) hb); clear BK385; clear BK386; clear HB; have HO394 := n0_; have BK385 := n1_; have BK386 := n2_; have HB := n3_; clear n0_ n1_ n2_ n3_; (try clear hb); (try clear hb2); (try clear hk); (try clear hi); (try clear ho0)) | ((with_reducible refine gate_dst (N := 8) rfl ?_); (try (refine gate_guard (by rfl) ?_; dsimp only)); refine box_event ?hg (N := 8) ?hd (cs := #[.slice none 0 0]) (t := 24) ?hr ?_; (case hd => rfl); (case hg => rfl); (case hr => first | (go_simp; done) | (go_simp; rfl)); intro gb396 hg w104 hbox hb; have n0_ := Aside0.mk (Kd.R_below (by with_reducible exact HO394.out) hb); have n1_ := Aside0.mk (blk_below (g := gb385) (o := .cells #[.slice A0_0 l0_0.length c0_0] 24 (0, 0)) (by with_reducible exact BK385.out) hb); have n2_ := Aside0.mk (blk_below (g := gb386) (o := .cells #[.int .i64 a1_0, .int .i64 a1_1, .int .i64 a1_2, .int .i64 a1_3, .int .i64 a1_4] 26 (0, 0)) (by with_reducible exact BK386.out) hb); have n3_ := Aside0.mk (below_step (by with_reducible exact HB.out) hb); have n4_ := Aside0.mk (hbox); have n5_ := Aside0.mk ((by rw [hg]; exact (below_size (by with_reducible exact HB.out)) : w.heap.size ≤ gb396)); have n6_ := Aside0.mk ((by rw [hg]; exact (below_size (by with_reducible exact HB.out)) : w.heap.size ≤ gb396)); have n7_ := Aside0.mk ((by rw [hg]; exact Nat.ne_of_lt (blk_lt (g := gb385) (o := .cells #[.slice A0_0 l0_0.length c0_0] 24 (0, 0)) (by with_reducible exact BK385.out)) : gb385 ≠ gb396)); have n8_ := Aside0.mk ((by rw [hg]; exact Nat.ne_of_gt (blk_lt (g := gb385) (o := .cells #[.slice A0_0 l0_0.length c0_0] 24 (0, 0)) (by with_reducible exact BK385.out)) : gb396 ≠ gb385)); have n9_ := Aside0.mk ((by rw [hg]; exact Nat.ne_of_lt (blk_lt (g := gb386) (o := .cells #[.int .i64 a1_0, .int .i64 a1_1, .int .i64 a1_2, .int .i64 a1_3, .int .i64 a1_4] 26 (0, 0)) (by with_reducible exact BK386.out)) : gb386 ≠ gb396)); have n10_ := Aside0.mk ((by rw [hg]; exact Nat.ne_of_gt (blk_lt (g := gb386) (o := .cells #[.int .i64 a1_0, .int .i64 a1_1, .int .i64 a1_2, .int .i64 a1_3, .int .i64 a1_4] 26 (0, 0)) (by with_reducible exact BK386.out)) : gb396 ≠ gb386)); clear HO394; clear BK385; clear BK386; clear HB; have HO394 := n0_; have BK385 := n1_; have BK386 := n2_; have HB := n3_; have BK396 := n4_; have GW396 := n5_; have GE396 := n6_; have NB385_396 := n7_; have NB396_385 := n8_; have NB386_396 := n9_; have NB396_386 := n10_; clear n0_ n1_ n2_ n3_ n4_ n5_ n6_ n7_ n8_ n9_ n10_; clear hb hbox hg; obtain ⟨Ao105, co105, eo105⟩ := Kd.R_slice HO394.out; subst eo105; have hnb106 := NB396_385.out; have hnc106 := NB385_396.out; have hnb107 := NB396_386.out; have hnc107 := NB386_396.out; have hcz108_0 : w104.cell? ⟨gb396, 0, none⟩ = some (.slice none 0 0) := (blk_cell BK396.out 0).trans rfl; have hfz108_0 := blk_frozen BK396.out 0; have hcz109_0 : w104.cell? ⟨gb386, 0, none⟩ = some (.int .i64 a1_0) := (blk_cell BK386.out 0).trans rfl; have hcz109_1 : w104.cell? ⟨gb386, 1, none⟩ = some (.int .i64 a1_1) := (blk_cell BK386.out 1).trans rfl; have hcz109_2 : w104.cell? ⟨gb386, 2, none⟩ = some (.int .i64 a1_2) := (blk_cell BK386.out 2).trans rfl; have hcz109_3 : w104.cell? ⟨gb386, 3, none⟩ = some (.int .i64 a1_3) := (blk_cell BK386.out 3).trans rfl; have hcz109_4 : w104.cell? ⟨gb386, 4, none⟩ = some (.int .i64 a1_4) := (blk_cell BK386.out 4).trans rfl; have hfz109_0 := blk_frozen BK386.out 0; have hfz109_1 := blk_frozen BK386.out 1; have hfz109_2 := blk_frozen BK386.out 2; have hfz109_3 := blk_frozen BK386.out 3; have hfz109_4 := blk_frozen BK386.out 4; have hcz110_0 : w104.cell? ⟨gb385, 0, none⟩ = some (.slice A0_0 l0_0.length c0_0) := (blk_cell BK385.out 0).trans rfl; have hfz110_0 := blk_frozen BK385.out 0))
        go_ret
        exact ⟨by first | rfl | (simp [errW_none, errW_some] <;> rfl) | (simp [*, errW_none, errW_some] <;> rfl), by repeat (first | (with_reducible first | exact HB.out | apply below_alloc | apply pw_below_drewN | apply below_drew1 | refine below_set ?_ GE385.out | refine below_set ?_ GE386.out | refine below_set ?_ GE396.out) | exact HB.out)⟩
     ·replace c85 := Bool.eq_false_iff.mpr c85
      subst c85
      have H1 : (some false) = some r := by rw [if_neg (show ¬ (false = true) by decide)] at H; exact H
      clear H
      have H := H1
      clear H1
      exact absurd (Option.some.inj H) (by rw [HRT.out]; decide)

end Go.Proofs.Ytcjnjgafhfkegaa.Px
