/- Walks of functions of this seat, written by a program of this workplace out of the translation. -/
import Derived.Test.YtcjnjgafhfkegaaPx0
import Derived.Test.YtcjnjgafhfkegaaPx4
import Derived.Test.YtcjnjgafhfkegaaPx5
import Derived.Test.YtcjnjgafhfkegaaPx6
import Derived.Test.YtcjnjgafhfkegaaPx7
import Derived.Test.YtcjnjgafhfkegaaPx8
namespace Go.Proofs.Ytcjnjgafhfkegaa.Px
open Go.RowKit Go.Proofs.YtcjnjgafhfkegaaW.PrintWords Go.Proofs.YtcjnjgafhfkegaaW.PrintLast Go.Proofs.YtcjnjgafhfkegaaW.PrintMore
attribute [local go_sem] max2_int min2_int max_two min_two max_three min_three max_four min_four   -- for this text's walks alone
set_option linter.unusedVariables false
set_option linter.unusedSimpArgs false

/-! ### slotmeshlaw27_QueueBack: function 7 -/
mutual
def slotmeshlaw27_QueueBack.j0 : Nat → Int → Int → Bool → Bool → List (S26) → Option (Bool)
 | 0, _, _, _, _, _ => none
 | k + 1, x1, x2, x7, x30, x398000 => if x30 = true then (some x7) else ((queue_Full.f k x398000).bind fun t401 => (slotmeshlaw27_QueueBack.l0 k x1 x2 x7 t401 (Int.tmod (wrap64 (x1 + 1)) 60) 0 1 x398000))
def slotmeshlaw27_QueueBack.l0 : Nat → Int → Int → Bool → Bool → Int → Int → Int → List (S26) → Option (Bool)
 | 0, _, _, _, _, _, _, _, _ => none
 | k + 1, x1, x2, x7, x8, x9, x10, x11, x398000 => if x11 ≤ 40 then (slotmeshlaw27_QueueBack.j2 k x1 x2 x7 x8 x9 x10 x11 (decide (x10 < 3)) x398000) else (slotmeshlaw27_QueueBack.j2 k x1 x2 x7 x8 x9 x10 x11 false x398000)
def slotmeshlaw27_QueueBack.j2 : Nat → Int → Int → Bool → Bool → Int → Int → Int → Bool → List (S26) → Option (Bool)
 | 0, _, _, _, _, _, _, _, _, _ => none
 | k + 1, x1, x2, x7, x8, x9, x10, x11, x42, x398000 => if x42 = true then ((slotmeshref27_Find.f k x398000 x9 x11).bind fun t402 => (if t402 ≥ 0 then (slotmeshlaw27_QueueBack.l0 k x1 x2 x7 x8 x9 x10 (wrap64 (x11 + 1)) x398000) else ((queue_Put.f k x398000 x9 x11 0 x2 0 x1).bind fun bt403 => (if bt403.2 = 0 then (slotmeshlaw27_QueueBack.l0 k x1 x2 x7 x8 x9 (wrap64 (x10 + 1)) (wrap64 (x11 + 1)) bt403.1) else (if x7 = true then (if x8 = true then (if x10 < 3 then (some true) else (some false)) else (if x10 < 3 then (some false) else (some true))) else (some false)))))) else (if x7 = true then (if x8 = true then (if x10 < 3 then (some true) else (some false)) else (if x10 < 3 then (some false) else (some true))) else (some false))
end
def slotmeshlaw27_QueueBack.f (k : Nat) (l0_0 : List (S26)) (a1 : Int) (a2 : Int) : Option (Bool) := (slotmeshlaw27_head.f).bind fun t398 => ((slotmeshlaw27_short.f l0_0).bind fun t399 => (if t399 = true then ((slotmeshref27_Valid.f k l0_0).bind fun t400 => (if t400 = true then (if a1 < 0 then (slotmeshlaw27_QueueBack.j0 k a1 a2 t398 true l0_0) else (slotmeshlaw27_QueueBack.j0 k a1 a2 t398 (decide (a1 ≥ 60)) l0_0)) else (slotmeshlaw27_QueueBack.j0 k a1 a2 t398 true l0_0))) else (slotmeshlaw27_QueueBack.j0 k a1 a2 t398 true l0_0)))
theorem slotmeshlaw27_QueueBack.mono_l : ∀ k, (∀ y0 y1 y2 y3 y4, LeO (slotmeshlaw27_QueueBack.j0 k y0 y1 y2 y3 y4) (slotmeshlaw27_QueueBack.j0 (k + 1) y0 y1 y2 y3 y4)) ∧ (∀ y0 y1 y2 y3 y4 y5 y6 y7, LeO (slotmeshlaw27_QueueBack.l0 k y0 y1 y2 y3 y4 y5 y6 y7) (slotmeshlaw27_QueueBack.l0 (k + 1) y0 y1 y2 y3 y4 y5 y6 y7)) ∧ (∀ y0 y1 y2 y3 y4 y5 y6 y7 y8, LeO (slotmeshlaw27_QueueBack.j2 k y0 y1 y2 y3 y4 y5 y6 y7 y8) (slotmeshlaw27_QueueBack.j2 (k + 1) y0 y1 y2 y3 y4 y5 y6 y7 y8))
 | 0 => ⟨fun _ _ _ _ _ r h => by simp [slotmeshlaw27_QueueBack.j0] at h, fun _ _ _ _ _ _ _ _ r h => by simp [slotmeshlaw27_QueueBack.l0] at h, fun _ _ _ _ _ _ _ _ _ r h => by simp [slotmeshlaw27_QueueBack.j2] at h⟩
 | k + 1 => by
  obtain ⟨ih0, ih1, ih2⟩ := slotmeshlaw27_QueueBack.mono_l k
  refine ⟨?_, ?_, ?_⟩
  ·intro y0 y1 y2 y3 y4
   unfold slotmeshlaw27_QueueBack.j0
   repeat' first
   | (with_reducible exact ih0 _ _ _ _ _)
   | (with_reducible exact ih1 _ _ _ _ _ _ _ _)
   | (with_reducible exact ih2 _ _ _ _ _ _ _ _ _)
   | (with_reducible exact queue_Full.mono _ _)
   | (with_reducible exact queue_Put.mono _ _ _ _ _ _ _ _)
   | (with_reducible exact slotmeshref27_Find.mono _ _ _ _)
   | (with_reducible exact slotmeshref27_Valid.mono _ _)
   | (with_reducible exact LeO.refl _)
   | (with_reducible exact LeO.none _)
   | (with_reducible refine LeO.ite ?_ ?_)
   | (with_reducible refine LeO.bind ?_ (fun _ => ?_))
   | exact ih0 _ _ _ _ _
   | exact ih1 _ _ _ _ _ _ _ _
   | exact ih2 _ _ _ _ _ _ _ _ _
   | exact queue_Full.mono _ _
   | exact queue_Put.mono _ _ _ _ _ _ _ _
   | exact slotmeshref27_Find.mono _ _ _ _
   | exact slotmeshref27_Valid.mono _ _
   | exact LeO.none _
   | refine LeO.ite ?_ ?_
   | refine LeO.bind ?_ (fun _ => ?_)
  ·intro y0 y1 y2 y3 y4 y5 y6 y7
   unfold slotmeshlaw27_QueueBack.l0
   repeat' first
   | (with_reducible exact ih0 _ _ _ _ _)
   | (with_reducible exact ih1 _ _ _ _ _ _ _ _)
   | (with_reducible exact ih2 _ _ _ _ _ _ _ _ _)
   | (with_reducible exact queue_Full.mono _ _)
   | (with_reducible exact queue_Put.mono _ _ _ _ _ _ _ _)
   | (with_reducible exact slotmeshref27_Find.mono _ _ _ _)
   | (with_reducible exact slotmeshref27_Valid.mono _ _)
   | (with_reducible exact LeO.refl _)
   | (with_reducible exact LeO.none _)
   | (with_reducible refine LeO.ite ?_ ?_)
   | (with_reducible refine LeO.bind ?_ (fun _ => ?_))
   | exact ih0 _ _ _ _ _
   | exact ih1 _ _ _ _ _ _ _ _
   | exact ih2 _ _ _ _ _ _ _ _ _
   | exact queue_Full.mono _ _
   | exact queue_Put.mono _ _ _ _ _ _ _ _
   | exact slotmeshref27_Find.mono _ _ _ _
   | exact slotmeshref27_Valid.mono _ _
   | exact LeO.none _
   | refine LeO.ite ?_ ?_
   | refine LeO.bind ?_ (fun _ => ?_)
  ·intro y0 y1 y2 y3 y4 y5 y6 y7 y8
   unfold slotmeshlaw27_QueueBack.j2
   repeat' first
   | (with_reducible exact ih0 _ _ _ _ _)
   | (with_reducible exact ih1 _ _ _ _ _ _ _ _)
   | (with_reducible exact ih2 _ _ _ _ _ _ _ _ _)
   | (with_reducible exact queue_Full.mono _ _)
   | (with_reducible exact queue_Put.mono _ _ _ _ _ _ _ _)
   | (with_reducible exact slotmeshref27_Find.mono _ _ _ _)
   | (with_reducible exact slotmeshref27_Valid.mono _ _)
   | (with_reducible exact LeO.refl _)
   | (with_reducible exact LeO.none _)
   | (with_reducible refine LeO.ite ?_ ?_)
   | (with_reducible refine LeO.bind ?_ (fun _ => ?_))
   | exact ih0 _ _ _ _ _
   | exact ih1 _ _ _ _ _ _ _ _
   | exact ih2 _ _ _ _ _ _ _ _ _
   | exact queue_Full.mono _ _
   | exact queue_Put.mono _ _ _ _ _ _ _ _
   | exact slotmeshref27_Find.mono _ _ _ _
   | exact slotmeshref27_Valid.mono _ _
   | exact LeO.none _
   | refine LeO.ite ?_ ?_
   | refine LeO.bind ?_ (fun _ => ?_)
theorem slotmeshlaw27_QueueBack.mono : ∀ a0 a1 a2 k, LeO (slotmeshlaw27_QueueBack.f k a0 a1 a2) (slotmeshlaw27_QueueBack.f (k + 1) a0 a1 a2) := by
 intro a0 a1 a2 k
 obtain ⟨ih0, ih1, ih2⟩ := slotmeshlaw27_QueueBack.mono_l k
 unfold slotmeshlaw27_QueueBack.f
 repeat' first
   | (with_reducible exact ih0 _ _ _ _ _)
   | (with_reducible exact ih1 _ _ _ _ _ _ _ _)
   | (with_reducible exact ih2 _ _ _ _ _ _ _ _ _)
   | (with_reducible exact queue_Full.mono _ _)
   | (with_reducible exact queue_Put.mono _ _ _ _ _ _ _ _)
   | (with_reducible exact slotmeshref27_Find.mono _ _ _ _)
   | (with_reducible exact slotmeshref27_Valid.mono _ _)
   | (with_reducible exact LeO.refl _)
   | (with_reducible exact LeO.none _)
   | (with_reducible refine LeO.ite ?_ ?_)
   | (with_reducible refine LeO.bind ?_ (fun _ => ?_))
   | exact ih0 _ _ _ _ _
   | exact ih1 _ _ _ _ _ _ _ _
   | exact ih2 _ _ _ _ _ _ _ _ _
   | exact queue_Full.mono _ _
   | exact queue_Put.mono _ _ _ _ _ _ _ _
   | exact slotmeshref27_Find.mono _ _ _ _
   | exact slotmeshref27_Valid.mono _ _
   | exact LeO.none _
   | refine LeO.ite ?_ ?_
   | refine LeO.bind ?_ (fun _ => ?_)
set_option maxHeartbeats 8000000 in
set_option maxRecDepth 100000 in
theorem slotmeshlaw27_QueueBack.calls (k : Nat) (P0_0_ : Nat → Prop) (A0_0 : Option Addr) (c0_0 : Nat) (l0_0 : List (S26)) (a1 : Int) (a2 : Int) (r : Bool) (w : World) (hrt : r = true) (hs0_0 : Kd.V k26 26 w w.heap.size (fun k_ => P0_0_ k_) (.slice A0_0 l0_0.length c0_0) l0_0) (h : slotmeshlaw27_QueueBack.f k l0_0 a1 a2 = some r) :
  Calls Try.prog 7 #[.agg #[.slice A0_0 l0_0.length c0_0], .int .i64 a1, .int .i64 a2] w fun e w' => e = .returned (.bool r) ∧ Below w.heap.size w w' := by
 have hu24 := Try.underlying24
 have hu26 := Try.underlying26
 have HO0_0 := Aside0.mk (show Kd.V k26 26 w w.heap.size (fun k_ => (P0_0_ k_ ∨ w.heap.size ≤ k_)) (.slice A0_0 l0_0.length c0_0) l0_0 from Kd.V_mono hs0_0 (fun k_ hk => .inl hk))
 have HB := Aside0.mk (Below.refl w.heap.size w)
 have HRT := Aside0.mk hrt
 clear hrt
 have H : ((slotmeshlaw27_head.f).bind fun t398 => ((slotmeshlaw27_short.f l0_0).bind fun t399 => (if t399 = true then ((slotmeshref27_Valid.f k l0_0).bind fun t400 => (if t400 = true then (if a1 < 0 then (slotmeshlaw27_QueueBack.j0 k a1 a2 t398 true l0_0) else (slotmeshlaw27_QueueBack.j0 k a1 a2 t398 (decide (a1 ≥ 60)) l0_0)) else (slotmeshlaw27_QueueBack.j0 k a1 a2 t398 true l0_0))) else (slotmeshlaw27_QueueBack.j0 k a1 a2 t398 true l0_0)))) = some r := h
 clear h
 replace H := Option.bind_eq_some_iff.mp H
 obtain ⟨t398, A40, H⟩ := H
 replace H : ((slotmeshlaw27_short.f l0_0).bind fun t399 => (if t399 = true then ((slotmeshref27_Valid.f k l0_0).bind fun t400 => (if t400 = true then (if a1 < 0 then (slotmeshlaw27_QueueBack.j0 k a1 a2 t398 true l0_0) else (slotmeshlaw27_QueueBack.j0 k a1 a2 t398 (decide (a1 ≥ 60)) l0_0)) else (slotmeshlaw27_QueueBack.j0 k a1 a2 t398 true l0_0))) else (slotmeshlaw27_QueueBack.j0 k a1 a2 t398 true l0_0))) = some r := H
 have A4 := Aside0.mk A40
 clear A40
 have HC5 := Aside0.mk H
 clear H
 go_enter Try.func7, Try.ntmps7
 go_upto_region 2 with (first | ((with_reducible refine gate_dst (N := 3) rfl ?_); refine box_event ?hg (N := 3) ?hd (cs := #[.slice A0_0 l0_0.length c0_0]) (t := 24) ?hr ?_; (case hd => rfl); (case hg => rfl); (case hr => first | (go_simp; done) | (go_simp; rfl)); intro gb397 hg w6 hbox hb; have n0_ := Aside0.mk (Kd.V_below (Kd.V_elderB (by with_reducible exact HO0_0.out) gb397 (Nat.le_of_eq hg.symm)) hb); have n1_ := Aside0.mk (below_step (by with_reducible exact HB.out) hb); have n2_ := Aside0.mk (hbox); have n3_ := Aside0.mk ((by rw [hg]; exact (below_size (by with_reducible exact HB.out)) : w.heap.size ≤ gb397)); have n4_ := Aside0.mk ((by rw [hg]; exact (below_size (by with_reducible exact HB.out)) : w.heap.size ≤ gb397)); clear HO0_0; clear HB; have HO0_0 := n0_; have HB := n1_; have BK397 := n2_; have GW397 := n3_; have GE397 := n4_; clear n0_ n1_ n2_ n3_ n4_; clear hb hbox hg) | ((with_reducible refine gate_callee (f := 9) rfl ?_); refine goesL_ (some 14) rfl rfl Try.func9 (by kernel_rfl) rfl #[] rfl (by (try simp only [List.map_toArray, List.map_cons, List.map_nil]); first | done | rfl | (simp only [List.length_drop, List.length_take]; rfl)) ?_; (with_reducible refine (slotmeshlaw27_head.calls  t398 _ A4.out).mono ?_); rintro e w7 ⟨rfl, hb⟩; refine ⟨_, rfl, ?_⟩; have n0_ := Aside0.mk (Kd.V_below (by with_reducible exact HO0_0.out) hb); have n1_ := Aside0.mk (blk_below (g := gb397) (o := .cells #[.slice A0_0 l0_0.length c0_0] 24 (0, 0)) (by with_reducible exact BK397.out) hb); have n2_ := Aside0.mk (below_step (by with_reducible exact HB.out) hb); clear HO0_0; clear BK397; clear HB; have HO0_0 := n0_; have BK397 := n1_; have HB := n2_; clear n0_ n1_ n2_; (try clear hb); (try clear hb2); (try clear hk); (try clear hi)))
 (try simp only [Act.put, List.setIfInBounds_toArray, List.set_cons_zero, List.set_cons_succ])
 go_cut [30] (fun v30 wc => ∃ (kq : Nat) (x30_4 : Bool), v30 = .bool x30_4 ∧ Aside0 (slotmeshlaw27_QueueBack.j0 kq a1 a2 t398 x30_4 l0_0 = some r) ∧ Aside0 (kq ≤ k) ∧ Aside0 (Kd.V k26 26 wc w.heap.size (fun k_ => (P0_0_ k_ ∨ w.heap.size ≤ k_) ∧ k_ ≠ gb397) (.slice A0_0 l0_0.length c0_0) l0_0) ∧ Aside0 (wc.heap[gb397]? = some (.cells #[(.slice A0_0 l0_0.length c0_0)] 24 (0, 0))) ∧ Aside0 (Below w.heap.size w wc))
 case first =>
  have H := HC5.out
  clear HC5
  replace H := Option.bind_eq_some_iff.mp H
  obtain ⟨t399, A80, H⟩ := H
  replace H : (if t399 = true then ((slotmeshref27_Valid.f k l0_0).bind fun t400 => (if t400 = true then (if a1 < 0 then (slotmeshlaw27_QueueBack.j0 k a1 a2 t398 true l0_0) else (slotmeshlaw27_QueueBack.j0 k a1 a2 t398 (decide (a1 ≥ 60)) l0_0)) else (slotmeshlaw27_QueueBack.j0 k a1 a2 t398 true l0_0))) else (slotmeshlaw27_QueueBack.j0 k a1 a2 t398 true l0_0)) = some r := H
  have A8 := Aside0.mk A80
  clear A80
  by_cases c9 : t399 = true
  ·subst c9
   have H1 : ((slotmeshref27_Valid.f k l0_0).bind fun t400 => (if t400 = true then (if a1 < 0 then (slotmeshlaw27_QueueBack.j0 k a1 a2 t398 true l0_0) else (slotmeshlaw27_QueueBack.j0 k a1 a2 t398 (decide (a1 ≥ 60)) l0_0)) else (slotmeshlaw27_QueueBack.j0 k a1 a2 t398 true l0_0))) = some r := by rw [if_pos rfl] at H; exact H
   clear H
   have H := H1
   clear H1
   replace H := Option.bind_eq_some_iff.mp H
   obtain ⟨t400, A100, H⟩ := H
   replace H : (if t400 = true then (if a1 < 0 then (slotmeshlaw27_QueueBack.j0 k a1 a2 t398 true l0_0) else (slotmeshlaw27_QueueBack.j0 k a1 a2 t398 (decide (a1 ≥ 60)) l0_0)) else (slotmeshlaw27_QueueBack.j0 k a1 a2 t398 true l0_0)) = some r := H
   have A10 := Aside0.mk A100
   clear A100
   by_cases c11 : t400 = true
   ·subst c11
    have H1 : (if a1 < 0 then (slotmeshlaw27_QueueBack.j0 k a1 a2 t398 true l0_0) else (slotmeshlaw27_QueueBack.j0 k a1 a2 t398 (decide (a1 ≥ 60)) l0_0)) = some r := by rw [if_pos rfl] at H; exact H
    clear H
    have H := H1
    clear H1
    by_cases c12 : a1 < 0
    ·rw [if_pos c12] at H
     have c12b0 : decide (a1 < 0) = true := decide_eq_true c12
     clear c12
     (first | rw [c12b0] | (simp only [i64_w, i32_w]; rw [c12b0]) | skip)
     have H' := Aside0.mk H
     clear H
     have hcz13_0 : w7.cell? ⟨gb397, 0, none⟩ = some (.slice A0_0 l0_0.length c0_0) := (blk_cell BK397.out 0).trans rfl
     have hfz13_0 := blk_frozen BK397.out 0
     go_wp2_with (first | ((with_reducible refine gate_callee (f := 10) rfl ?_); refine goesL_ (some 16) rfl rfl Try.func10 (by kernel_rfl) rfl #[.agg #[.slice A0_0 l0_0.length c0_0]] rfl (by (try simp only [List.map_toArray, List.map_cons, List.map_nil]); first | done | rfl | (simp only [List.length_drop, List.length_take]; rfl)) ?_; (with_reducible refine (slotmeshlaw27_short.calls _ _ l0_0 true _ ?side1 ?side2 A8.out).mono ?_); (case side1 => repeat (first | exact (Kd.V_reads' HO0_0.out).2.2 | (with_reducible refine Kd.C_alloc ?_ _) | (with_reducible refine Kd.C_drewN ?_ _) | (with_reducible refine Kd.C_drew ?_))); (case side2 => exact (Kd.V_reads' HO0_0.out).2.1); rintro e w14 ⟨rfl, hb⟩; refine ⟨_, rfl, ?_⟩; have n0_ := Aside0.mk (Kd.V_below (by with_reducible exact HO0_0.out) hb); have n1_ := Aside0.mk (blk_below (g := gb397) (o := .cells #[.slice A0_0 l0_0.length c0_0] 24 (0, 0)) (by with_reducible exact BK397.out) hb); have n2_ := Aside0.mk (below_step (by with_reducible exact HB.out) hb); clear HO0_0; clear BK397; clear HB; have HO0_0 := n0_; have BK397 := n1_; have HB := n2_; clear n0_ n1_ n2_; (try clear hb); (try clear hb2); (try clear hk); (try clear hi); have hcz15_0 : w14.cell? ⟨gb397, 0, none⟩ = some (.slice A0_0 l0_0.length c0_0) := (blk_cell BK397.out 0).trans rfl; have hfz15_0 := blk_frozen BK397.out 0) | (go_at_call 20; (with_reducible refine (slotmeshref27_Valid.calls k _ _ l0_0 true _ ?side1 ?side2 A10.out).mono ?_); (case side1 => repeat (first | exact (Kd.V_reads' HO0_0.out).2.2 | (with_reducible refine Kd.C_alloc ?_ _) | (with_reducible refine Kd.C_drewN ?_ _) | (with_reducible refine Kd.C_drew ?_))); (case side2 => exact (Kd.V_reads' HO0_0.out).2.1); rintro e w16 ⟨rfl, hb⟩; have n0_ := Aside0.mk (Kd.V_below (by with_reducible exact HO0_0.out) hb); have n1_ := Aside0.mk (blk_below (g := gb397) (o := .cells #[.slice A0_0 l0_0.length c0_0] 24 (0, 0)) (by with_reducible exact BK397.out) hb); have n2_ := Aside0.mk (below_step (by with_reducible exact HB.out) hb); clear HO0_0; clear BK397; clear HB; have HO0_0 := n0_; have BK397 := n1_; have HB := n2_; clear n0_ n1_ n2_; (try clear hb); (try clear hb2); (try clear hk); (try clear hi)))
     go_meet
     case rel => exact ⟨_, (true), (by first | rfl | (simp; done) | (simp [*]; done)), H', ⟨by first | omega | exact Nat.le_refl _⟩, ⟨by with_reducible exact HO0_0.out⟩, ⟨by with_reducible exact BK397.out⟩, ⟨by with_reducible exact HB.out⟩⟩
    ·rw [if_neg c12] at H
     have c12b0 : decide (a1 < 0) = false := decide_eq_false c12
     clear c12
     (first | rw [c12b0] | (simp only [i64_w, i32_w]; rw [c12b0]) | skip)
     have H' := Aside0.mk H
     clear H
     have hcz17_0 : w7.cell? ⟨gb397, 0, none⟩ = some (.slice A0_0 l0_0.length c0_0) := (blk_cell BK397.out 0).trans rfl
     have hfz17_0 := blk_frozen BK397.out 0
     go_wp2_with (first | ((with_reducible refine gate_callee (f := 10) rfl ?_); refine goesL_ (some 16) rfl rfl Try.func10 (by kernel_rfl) rfl #[.agg #[.slice A0_0 l0_0.length c0_0]] rfl (by (try simp only [List.map_toArray, List.map_cons, List.map_nil]); first | done | rfl | (simp only [List.length_drop, List.length_take]; rfl)) ?_; (with_reducible refine (slotmeshlaw27_short.calls _ _ l0_0 true _ ?side1 ?side2 A8.out).mono ?_); (case side1 => repeat (first | exact (Kd.V_reads' HO0_0.out).2.2 | (with_reducible refine Kd.C_alloc ?_ _) | (with_reducible refine Kd.C_drewN ?_ _) | (with_reducible refine Kd.C_drew ?_))); (case side2 => exact (Kd.V_reads' HO0_0.out).2.1); rintro e w18 ⟨rfl, hb⟩; refine ⟨_, rfl, ?_⟩; have n0_ := Aside0.mk (Kd.V_below (by (with_reducible repeat (first | apply Kd.V_alloc | apply Kd.V_drewN | apply Kd.V_drew)); exact HO0_0.out) hb); have n1_ := Aside0.mk (blk_below (g := gb397) (o := .cells #[.slice A0_0 l0_0.length c0_0] 24 (0, 0)) (by (with_reducible repeat (first | refine blk_drewN ?_ _ | refine blk_drew ?_ | refine blk_alloc ?_ _)); exact BK397.out) hb); have n2_ := Aside0.mk (below_step (by repeat (first | (with_reducible first | exact HB.out | apply below_alloc | apply pw_below_drewN | apply below_drew1 | refine below_set ?_ GE397.out) | exact HB.out)) hb); clear HO0_0; clear BK397; clear HB; have HO0_0 := n0_; have BK397 := n1_; have HB := n2_; clear n0_ n1_ n2_; (try clear hb); (try clear hb2); (try clear hk); (try clear hi); have hcz19_0 : w18.cell? ⟨gb397, 0, none⟩ = some (.slice A0_0 l0_0.length c0_0) := (blk_cell BK397.out 0).trans rfl; have hfz19_0 := blk_frozen BK397.out 0) | (go_at_call 20; (with_reducible refine (slotmeshref27_Valid.calls k _ _ l0_0 true _ ?side1 ?side2 A10.out).mono ?_); (case side1 => repeat (first | exact (Kd.V_reads' HO0_0.out).2.2 | (with_reducible refine Kd.C_alloc ?_ _) | (with_reducible refine Kd.C_drewN ?_ _) | (with_reducible refine Kd.C_drew ?_))); (case side2 => exact (Kd.V_reads' HO0_0.out).2.1); rintro e w20 ⟨rfl, hb⟩; have n0_ := Aside0.mk (Kd.V_below (by (with_reducible repeat (first | apply Kd.V_alloc | apply Kd.V_drewN | apply Kd.V_drew)); exact HO0_0.out) hb); have n1_ := Aside0.mk (blk_below (g := gb397) (o := .cells #[.slice A0_0 l0_0.length c0_0] 24 (0, 0)) (by (with_reducible repeat (first | refine blk_drewN ?_ _ | refine blk_drew ?_ | refine blk_alloc ?_ _)); exact BK397.out) hb); have n2_ := Aside0.mk (below_step (by repeat (first | (with_reducible first | exact HB.out | apply below_alloc | apply pw_below_drewN | apply below_drew1 | refine below_set ?_ GE397.out) | exact HB.out)) hb); clear HO0_0; clear BK397; clear HB; have HO0_0 := n0_; have BK397 := n1_; have HB := n2_; clear n0_ n1_ n2_; (try clear hb); (try clear hb2); (try clear hk); (try clear hi)))
     go_meet
     case rel => exact ⟨_, (decide (a1 ≥ 60)), (by first | rfl | (simp; done) | (simp [*]; done)), H', ⟨by first | omega | exact Nat.le_refl _⟩, ⟨by (with_reducible repeat (first | apply Kd.V_alloc | apply Kd.V_drewN | apply Kd.V_drew)); exact HO0_0.out⟩, ⟨by (with_reducible repeat (first | refine blk_drewN ?_ _ | refine blk_drew ?_ | refine blk_alloc ?_ _)); exact BK397.out⟩, ⟨by repeat (first | (with_reducible first | exact HB.out | apply below_alloc | apply pw_below_drewN | apply below_drew1 | refine below_set ?_ GE397.out) | exact HB.out)⟩⟩
   ·replace c11 := Bool.eq_false_iff.mpr c11
    subst c11
    have H1 : (slotmeshlaw27_QueueBack.j0 k a1 a2 t398 true l0_0) = some r := by rw [if_neg (show ¬ (false = true) by decide)] at H; exact H
    clear H
    have H := H1
    clear H1
    have H' := Aside0.mk H
    clear H
    have hcz21_0 : w7.cell? ⟨gb397, 0, none⟩ = some (.slice A0_0 l0_0.length c0_0) := (blk_cell BK397.out 0).trans rfl
    have hfz21_0 := blk_frozen BK397.out 0
    go_wp2_with (first | ((with_reducible refine gate_callee (f := 10) rfl ?_); refine goesL_ (some 16) rfl rfl Try.func10 (by kernel_rfl) rfl #[.agg #[.slice A0_0 l0_0.length c0_0]] rfl (by (try simp only [List.map_toArray, List.map_cons, List.map_nil]); first | done | rfl | (simp only [List.length_drop, List.length_take]; rfl)) ?_; (with_reducible refine (slotmeshlaw27_short.calls _ _ l0_0 true _ ?side1 ?side2 A8.out).mono ?_); (case side1 => repeat (first | exact (Kd.V_reads' HO0_0.out).2.2 | (with_reducible refine Kd.C_alloc ?_ _) | (with_reducible refine Kd.C_drewN ?_ _) | (with_reducible refine Kd.C_drew ?_))); (case side2 => exact (Kd.V_reads' HO0_0.out).2.1); rintro e w22 ⟨rfl, hb⟩; refine ⟨_, rfl, ?_⟩; have n0_ := Aside0.mk (Kd.V_below (by (with_reducible repeat (first | apply Kd.V_alloc | apply Kd.V_drewN | apply Kd.V_drew)); exact HO0_0.out) hb); have n1_ := Aside0.mk (blk_below (g := gb397) (o := .cells #[.slice A0_0 l0_0.length c0_0] 24 (0, 0)) (by (with_reducible repeat (first | refine blk_drewN ?_ _ | refine blk_drew ?_ | refine blk_alloc ?_ _)); exact BK397.out) hb); have n2_ := Aside0.mk (below_step (by repeat (first | (with_reducible first | exact HB.out | apply below_alloc | apply pw_below_drewN | apply below_drew1 | refine below_set ?_ GE397.out) | exact HB.out)) hb); clear HO0_0; clear BK397; clear HB; have HO0_0 := n0_; have BK397 := n1_; have HB := n2_; clear n0_ n1_ n2_; (try clear hb); (try clear hb2); (try clear hk); (try clear hi); have hcz23_0 : w22.cell? ⟨gb397, 0, none⟩ = some (.slice A0_0 l0_0.length c0_0) := (blk_cell BK397.out 0).trans rfl; have hfz23_0 := blk_frozen BK397.out 0) | (go_at_call 20; (with_reducible refine (slotmeshref27_Valid.calls k _ _ l0_0 false _ ?side1 ?side2 A10.out).mono ?_); (case side1 => repeat (first | exact (Kd.V_reads' HO0_0.out).2.2 | (with_reducible refine Kd.C_alloc ?_ _) | (with_reducible refine Kd.C_drewN ?_ _) | (with_reducible refine Kd.C_drew ?_))); (case side2 => exact (Kd.V_reads' HO0_0.out).2.1); rintro e w24 ⟨rfl, hb⟩; have n0_ := Aside0.mk (Kd.V_below (by (with_reducible repeat (first | apply Kd.V_alloc | apply Kd.V_drewN | apply Kd.V_drew)); exact HO0_0.out) hb); have n1_ := Aside0.mk (blk_below (g := gb397) (o := .cells #[.slice A0_0 l0_0.length c0_0] 24 (0, 0)) (by (with_reducible repeat (first | refine blk_drewN ?_ _ | refine blk_drew ?_ | refine blk_alloc ?_ _)); exact BK397.out) hb); have n2_ := Aside0.mk (below_step (by repeat (first | (with_reducible first | exact HB.out | apply below_alloc | apply pw_below_drewN | apply below_drew1 | refine below_set ?_ GE397.out) | exact HB.out)) hb); clear HO0_0; clear BK397; clear HB; have HO0_0 := n0_; have BK397 := n1_; have HB := n2_; clear n0_ n1_ n2_; (try clear hb); (try clear hb2); (try clear hk); (try clear hi)))
    go_meet
    case rel => exact ⟨_, (true), (by first | rfl | (simp; done) | (simp [*]; done)), H', ⟨by first | omega | exact Nat.le_refl _⟩, ⟨by (with_reducible repeat (first | apply Kd.V_alloc | apply Kd.V_drewN | apply Kd.V_drew)); exact HO0_0.out⟩, ⟨by (with_reducible repeat (first | refine blk_drewN ?_ _ | refine blk_drew ?_ | refine blk_alloc ?_ _)); exact BK397.out⟩, ⟨by repeat (first | (with_reducible first | exact HB.out | apply below_alloc | apply pw_below_drewN | apply below_drew1 | refine below_set ?_ GE397.out) | exact HB.out)⟩⟩
  ·replace c9 := Bool.eq_false_iff.mpr c9
   subst c9
   have H1 : (slotmeshlaw27_QueueBack.j0 k a1 a2 t398 true l0_0) = some r := by rw [if_neg (show ¬ (false = true) by decide)] at H; exact H
   clear H
   have H := H1
   clear H1
   have H' := Aside0.mk H
   clear H
   have hcz25_0 : w7.cell? ⟨gb397, 0, none⟩ = some (.slice A0_0 l0_0.length c0_0) := (blk_cell BK397.out 0).trans rfl
   have hfz25_0 := blk_frozen BK397.out 0
   go_wp2_with (first | ((with_reducible refine gate_callee (f := 10) rfl ?_); refine goesL_ (some 16) rfl rfl Try.func10 (by kernel_rfl) rfl #[.agg #[.slice A0_0 l0_0.length c0_0]] rfl (by (try simp only [List.map_toArray, List.map_cons, List.map_nil]); first | done | rfl | (simp only [List.length_drop, List.length_take]; rfl)) ?_; (with_reducible refine (slotmeshlaw27_short.calls _ _ l0_0 false _ ?side1 ?side2 A8.out).mono ?_); (case side1 => repeat (first | exact (Kd.V_reads' HO0_0.out).2.2 | (with_reducible refine Kd.C_alloc ?_ _) | (with_reducible refine Kd.C_drewN ?_ _) | (with_reducible refine Kd.C_drew ?_))); (case side2 => exact (Kd.V_reads' HO0_0.out).2.1); rintro e w26 ⟨rfl, hb⟩; refine ⟨_, rfl, ?_⟩; have n0_ := Aside0.mk (Kd.V_below (by (with_reducible repeat (first | apply Kd.V_alloc | apply Kd.V_drewN | apply Kd.V_drew)); exact HO0_0.out) hb); have n1_ := Aside0.mk (blk_below (g := gb397) (o := .cells #[.slice A0_0 l0_0.length c0_0] 24 (0, 0)) (by (with_reducible repeat (first | refine blk_drewN ?_ _ | refine blk_drew ?_ | refine blk_alloc ?_ _)); exact BK397.out) hb); have n2_ := Aside0.mk (below_step (by repeat (first | (with_reducible first | exact HB.out | apply below_alloc | apply pw_below_drewN | apply below_drew1 | refine below_set ?_ GE397.out) | exact HB.out)) hb); clear HO0_0; clear BK397; clear HB; have HO0_0 := n0_; have BK397 := n1_; have HB := n2_; clear n0_ n1_ n2_; (try clear hb); (try clear hb2); (try clear hk); (try clear hi)))
   go_meet
   case rel => exact ⟨_, (true), (by first | rfl | (simp; done) | (simp [*]; done)), H', ⟨by first | omega | exact Nat.le_refl _⟩, ⟨by (with_reducible repeat (first | apply Kd.V_alloc | apply Kd.V_drewN | apply Kd.V_drew)); exact HO0_0.out⟩, ⟨by (with_reducible repeat (first | refine blk_drewN ?_ _ | refine blk_drew ?_ | refine blk_alloc ?_ _)); exact BK397.out⟩, ⟨by repeat (first | (with_reducible first | exact HB.out | apply below_alloc | apply pw_below_drewN | apply below_drew1 | refine below_set ?_ GE397.out) | exact HB.out)⟩⟩
 case rest =>
  clear HC5
  try clear c1
  try clear p2
  try clear c7
  try clear c9
  try clear c10
  try clear c11
  try clear c12
  try clear c12b0
  try clear hcz13_0
  try clear hcz15_0
  try clear hcz17_0
  try clear hcz19_0
  try clear hcz21_0
  try clear hcz23_0
  try clear hcz25_0
  try clear hfz13_0
  try clear hfz15_0
  try clear hfz17_0
  try clear hfz19_0
  try clear hfz21_0
  try clear hfz23_0
  try clear hfz25_0
  obtain ⟨kq, x30_4, rfl, HA, HJ4, HO_398000, BK397, HB⟩ := hcut
  cases kq with
  | zero => exact absurd HA.out (by simp [slotmeshlaw27_QueueBack.j0])
  | succ kj4 =>
   have H := HA.out
   clear HA
   simp only [slotmeshlaw27_QueueBack.j0] at H
   by_cases c27 : x30_4 = true
   ·subst c27
    have H1 : (some t398) = some r := by rw [if_pos rfl] at H; exact H
    clear H
    have H := H1
    clear H1
    obtain rfl := Option.some.inj H
    go_wp2
    go_ret
    exact ⟨by first | rfl | (simp [errW_none, errW_some] <;> rfl) | (simp [*, errW_none, errW_some] <;> rfl), by repeat (first | (with_reducible first | exact HB.out | apply below_alloc | apply pw_below_drewN | apply below_drew1 | refine below_set ?_ GE397.out) | exact HB.out)⟩
   ·replace c27 := Bool.eq_false_iff.mpr c27
    subst c27
    have H1 : ((queue_Full.f kj4 l0_0).bind fun t401 => (slotmeshlaw27_QueueBack.l0 kj4 a1 a2 t398 t401 (Int.tmod (wrap64 (a1 + 1)) 60) 0 1 l0_0)) = some r := by rw [if_neg (show ¬ (false = true) by decide)] at H; exact H
    clear H
    have H := H1
    clear H1
    replace H := Option.bind_eq_some_iff.mp H
    obtain ⟨t401, A280, H⟩ := H
    replace H : (slotmeshlaw27_QueueBack.l0 kj4 a1 a2 t398 t401 (Int.tmod (wrap64 (a1 + 1)) 60) 0 1 l0_0) = some r := H
    have A28 := Aside0.mk A280
    clear A280
    have H' := Aside0.mk H
    clear H
    have hcz29_0 : wc.cell? ⟨gb397, 0, none⟩ = some (.slice A0_0 l0_0.length c0_0) := (blk_cell BK397.out 0).trans rfl
    have hfz29_0 := blk_frozen BK397.out 0
    go_wp2_with (first | ((with_reducible refine gate_callee (f := 18) rfl ?_); refine goesL_ (some 33) rfl rfl Try.func18 (by kernel_rfl) rfl #[.agg #[.slice A0_0 l0_0.length c0_0]] rfl (by (try simp only [List.map_toArray, List.map_cons, List.map_nil]); first | done | rfl | (simp only [List.length_drop, List.length_take]; rfl)) ?_; (with_reducible refine (queue_Full.calls kj4 _ _ l0_0 t401 _ ?side1 ?side2 A28.out).mono ?_); (case side1 => repeat (first | exact (Kd.V_reads' HO_398000.out).2.2 | (with_reducible refine Kd.C_alloc ?_ _) | (with_reducible refine Kd.C_drewN ?_ _) | (with_reducible refine Kd.C_drew ?_))); (case side2 => exact (Kd.V_reads' HO_398000.out).2.1); rintro e w30 ⟨rfl, hb⟩; refine ⟨_, rfl, ?_⟩; have n0_ := Aside0.mk (Kd.V_below (by (with_reducible repeat (first | apply Kd.V_alloc | apply Kd.V_drewN | apply Kd.V_drew)); exact HO_398000.out) hb); have n1_ := Aside0.mk (blk_below (g := gb397) (o := .cells #[.slice A0_0 l0_0.length c0_0] 24 (0, 0)) (by (with_reducible repeat (first | refine blk_drewN ?_ _ | refine blk_drew ?_ | refine blk_alloc ?_ _)); exact BK397.out) hb); have n2_ := Aside0.mk (below_step (by repeat (first | (with_reducible first | exact HB.out | apply below_alloc | apply pw_below_drewN | apply below_drew1 | refine below_set ?_ GE397.out) | exact HB.out)) hb); clear HO_398000; clear BK397; clear HB; have HO_398000 := n0_; have BK397 := n1_; have HB := n2_; clear n0_ n1_ n2_; (try clear hb); (try clear hb2); (try clear hk); (try clear hi)))
    go_loopg [10, 11] kj4 (fun kq v10 v11 w' => ∃ (x10_2 : Int) (x11_2 : Int) (x398000_2 : List (S26)) (u398000 : Value), v10 = .int .i64 x10_2 ∧ v11 = .int .i64 x11_2 ∧ Aside0 (slotmeshlaw27_QueueBack.l0 kq a1 a2 t398 t401 (Int.tmod (wrap64 (a1 + 1)) 60) x10_2 x11_2 x398000_2 = some r) ∧ Aside0 (kq ≤ kj4) ∧ Aside0 (Kd.V k26 26 w' w.heap.size (fun k_ => (P0_0_ k_ ∨ w.heap.size ≤ k_) ∧ k_ ≠ gb397) u398000 x398000_2) ∧ Aside0 (w'.heap[gb397]? = some (.cells #[u398000] 24 (0, 0))) ∧ Aside0 (Below w.heap.size w w'))
    case atStart => exact ⟨(0), (1), (l0_0), (.slice A0_0 l0_0.length c0_0), (by first | rfl | (simp; done) | (simp [*]; done)), (by first | rfl | (simp; done) | (simp [*]; done)), H', ⟨Nat.le_refl _⟩, ⟨by (with_reducible repeat (first | apply Kd.V_alloc | apply Kd.V_drewN | apply Kd.V_drew)); exact HO_398000.out⟩, ⟨by (with_reducible repeat (first | refine blk_drewN ?_ _ | refine blk_drew ?_ | refine blk_alloc ?_ _)); exact BK397.out⟩, ⟨by repeat (first | (with_reducible first | exact HB.out | apply below_alloc | apply pw_below_drewN | apply below_drew1 | refine below_set ?_ GE397.out) | exact HB.out)⟩⟩
    case round =>
     clear H'
     try clear c1
     try clear c2
     try clear p2
     try clear p6
     try clear c7
     try clear c9
     try clear c10
     try clear c11
     try clear c12
     try clear c12b0
     try clear c18
     try clear c27
     try clear hcz13_0
     try clear hcz15_0
     try clear hcz17_0
     try clear hcz19_0
     try clear hcz21_0
     try clear hcz23_0
     try clear hcz25_0
     try clear hcz29_0
     try clear hfz13_0
     try clear hfz15_0
     try clear hfz17_0
     try clear hfz19_0
     try clear hfz21_0
     try clear hfz23_0
     try clear hfz25_0
     try clear hfz29_0
     try clear p2
     obtain ⟨x10_2, x11_2, x398000_2, u398000, rfl, rfl, HA, HK2, HO_398000, BK397, HB⟩ := hrel
     cases gk with
     | zero => exact absurd HA.out (by simp [slotmeshlaw27_QueueBack.l0])
     | succ k2 =>
      have H := HA.out
      clear HA
      simp only [slotmeshlaw27_QueueBack.l0] at H
      have HC31 := Aside0.mk H
      clear H
      go_upto_region 8 with (fail)
      go_cut [42] (fun v42 wc => ∃ (kq : Nat) (x42_30 : Bool), v42 = .bool x42_30 ∧ Aside0 (slotmeshlaw27_QueueBack.j2 kq a1 a2 t398 t401 (Int.tmod (wrap64 (a1 + 1)) 60) x10_2 x11_2 x42_30 x398000_2 = some r) ∧ Aside0 (kq ≤ k2) ∧ Aside0 (Kd.V k26 26 wc w.heap.size (fun k_ => (P0_0_ k_ ∨ w.heap.size ≤ k_) ∧ k_ ≠ gb397) u398000 x398000_2) ∧ Aside0 (wc.heap[gb397]? = some (.cells #[u398000] 24 (0, 0))) ∧ Aside0 (Below w.heap.size w wc))
      case first =>
       have H := HC31.out
       clear HC31
       by_cases c32 : x11_2 ≤ 40
       ·rw [if_pos c32] at H
        have c32b0 : decide (x11_2 ≤ 40) = true := decide_eq_true c32
        clear c32
        (first | rw [c32b0] | (simp only [i64_w, i32_w]; rw [c32b0]) | skip)
        have H' := Aside0.mk H
        clear H
        go_wp2
        go_meet
        case rel => exact ⟨_, (decide (x10_2 < 3)), (by first | rfl | (simp; done) | (simp [*]; done)), H', ⟨by have := HJ4.out; have := HK2.out; first | omega | exact Nat.le_refl _⟩, ⟨by (with_reducible repeat (first | apply Kd.V_alloc | apply Kd.V_drewN | apply Kd.V_drew)); exact HO_398000.out⟩, ⟨by (with_reducible repeat (first | refine blk_drewN ?_ _ | refine blk_drew ?_ | refine blk_alloc ?_ _)); exact BK397.out⟩, ⟨by repeat (first | (with_reducible first | exact HB.out | apply below_alloc | apply pw_below_drewN | apply below_drew1 | refine below_set ?_ GE397.out) | exact HB.out)⟩⟩
       ·rw [if_neg c32] at H
        have c32b0 : decide (x11_2 ≤ 40) = false := decide_eq_false c32
        clear c32
        (first | rw [c32b0] | (simp only [i64_w, i32_w]; rw [c32b0]) | skip)
        have H' := Aside0.mk H
        clear H
        go_wp2
        go_meet
        case rel => exact ⟨_, (false), (by first | rfl | (simp; done) | (simp [*]; done)), H', ⟨by have := HJ4.out; have := HK2.out; first | omega | exact Nat.le_refl _⟩, ⟨by (with_reducible repeat (first | apply Kd.V_alloc | apply Kd.V_drewN | apply Kd.V_drew)); exact HO_398000.out⟩, ⟨by (with_reducible repeat (first | refine blk_drewN ?_ _ | refine blk_drew ?_ | refine blk_alloc ?_ _)); exact BK397.out⟩, ⟨by repeat (first | (with_reducible first | exact HB.out | apply below_alloc | apply pw_below_drewN | apply below_drew1 | refine below_set ?_ GE397.out) | exact HB.out)⟩⟩
      case rest =>
       clear HC31
       try clear c1
       try clear c2
       try clear p2
       try clear c3
       try clear p6
       try clear c7
       try clear c9
       try clear c10
       try clear c11
       try clear c12
       try clear c12b0
       try clear c18
       try clear c27
       try clear c32
       try clear c32b0
       try clear hcz13_0
       try clear hcz15_0
       try clear hcz17_0
       try clear hcz19_0
       try clear hcz21_0
       try clear hcz23_0
       try clear hcz25_0
       try clear hcz29_0
       try clear hfz13_0
       try clear hfz15_0
       try clear hfz17_0
       try clear hfz19_0
       try clear hfz21_0
       try clear hfz23_0
       try clear hfz25_0
       try clear hfz29_0
       try clear p2
       try clear p6
       obtain ⟨kq, x42_30, rfl, HA, HJ30, HO_398000, BK397, HB⟩ := hcut
       cases kq with
       | zero => exact absurd HA.out (by simp [slotmeshlaw27_QueueBack.j2])
       | succ kj30 =>
        have H := HA.out
        clear HA
        simp only [slotmeshlaw27_QueueBack.j2] at H
        by_cases c33 : x42_30 = true
        ·subst c33
         have H1 : ((slotmeshref27_Find.f kj30 x398000_2 (Int.tmod (wrap64 (a1 + 1)) 60) x11_2).bind fun t402 => (if t402 ≥ 0 then (slotmeshlaw27_QueueBack.l0 kj30 a1 a2 t398 t401 (Int.tmod (wrap64 (a1 + 1)) 60) x10_2 (wrap64 (x11_2 + 1)) x398000_2) else ((queue_Put.f kj30 x398000_2 (Int.tmod (wrap64 (a1 + 1)) 60) x11_2 0 a2 0 a1).bind fun bt403 => (if bt403.2 = 0 then (slotmeshlaw27_QueueBack.l0 kj30 a1 a2 t398 t401 (Int.tmod (wrap64 (a1 + 1)) 60) (wrap64 (x10_2 + 1)) (wrap64 (x11_2 + 1)) bt403.1) else (if t398 = true then (if t401 = true then (if x10_2 < 3 then (some true) else (some false)) else (if x10_2 < 3 then (some false) else (some true))) else (some false)))))) = some r := by rw [if_pos rfl] at H; exact H
         clear H
         have H := H1
         clear H1
         replace H := Option.bind_eq_some_iff.mp H
         obtain ⟨t402, A340, H⟩ := H
         replace H : (if t402 ≥ 0 then (slotmeshlaw27_QueueBack.l0 kj30 a1 a2 t398 t401 (Int.tmod (wrap64 (a1 + 1)) 60) x10_2 (wrap64 (x11_2 + 1)) x398000_2) else ((queue_Put.f kj30 x398000_2 (Int.tmod (wrap64 (a1 + 1)) 60) x11_2 0 a2 0 a1).bind fun bt403 => (if bt403.2 = 0 then (slotmeshlaw27_QueueBack.l0 kj30 a1 a2 t398 t401 (Int.tmod (wrap64 (a1 + 1)) 60) (wrap64 (x10_2 + 1)) (wrap64 (x11_2 + 1)) bt403.1) else (if t398 = true then (if t401 = true then (if x10_2 < 3 then (some true) else (some false)) else (if x10_2 < 3 then (some false) else (some true))) else (some false))))) = some r := H
         have A34 := Aside0.mk A340
         clear A340
         by_cases c35 : t402 ≥ 0
         ·rw [if_pos c35] at H
          have c35b0 : decide (0 ≤ t402) = true := decide_eq_true c35
          clear c35
          have H' := Aside0.mk H
          clear H
          have hcz36_0 : wc.cell? ⟨gb397, 0, none⟩ = some (u398000) := (blk_cell BK397.out 0).trans rfl
          have hfz36_0 := blk_frozen BK397.out 0
          obtain ⟨Ao37, co37, eo37⟩ := Kd.V_slice HO_398000.out
          subst eo37
          go_wp2_with (first | ((with_reducible refine gate_callee (f := 22) rfl ?_); refine goesL_ (some 49) rfl rfl Try.func22 (by kernel_rfl) rfl #[.slice Ao37 x398000_2.length co37, .int .i64 (Int.tmod (wrap64 (a1 + 1)) 60), .int .i64 x11_2] rfl (by (try simp only [List.map_toArray, List.map_cons, List.map_nil]); first | done | rfl | (simp only [List.length_drop, List.length_take]; rfl)) ?_; (with_reducible refine (slotmeshref27_Find.calls kj30 _ _ x398000_2 (Int.tmod (wrap64 (a1 + 1)) 60) x11_2 t402 _ ?side1 ?side2 A34.out).mono ?_); (case side1 => repeat (first | exact (Kd.V_reads' HO_398000.out).2.2 | (with_reducible refine Kd.C_alloc ?_ _) | (with_reducible refine Kd.C_drewN ?_ _) | (with_reducible refine Kd.C_drew ?_))); (case side2 => exact (Kd.V_reads' HO_398000.out).2.1); rintro e w' ⟨rfl, ⟨nd, rfl⟩⟩; refine ⟨_, rfl, ?_⟩))
          go_roundg kj30
          case measure => have := HJ4.out; have := HK2.out; have := HJ30.out; omega
          case rel => exact ⟨(x10_2), (wrap64 (x11_2 + 1)), (x398000_2), (.slice Ao37 x398000_2.length co37), (by first | rfl | (simp; done) | (simp [*]; done)), (by first | rfl | (simp; done) | (simp [*]; done)), H', ⟨by have := HJ4.out; have := HK2.out; have := HJ30.out; omega⟩, ⟨by (with_reducible repeat (first | apply Kd.V_alloc | apply Kd.V_drewN | apply Kd.V_drew)); exact HO_398000.out⟩, ⟨by (with_reducible repeat (first | refine blk_drewN ?_ _ | refine blk_drew ?_ | refine blk_alloc ?_ _)); exact BK397.out⟩, ⟨by repeat (first | (with_reducible first | exact HB.out | apply below_alloc | apply pw_below_drewN | apply below_drew1 | refine below_set ?_ GE397.out) | exact HB.out)⟩⟩
         ·rw [if_neg c35] at H
          have c35b0 : decide (0 ≤ t402) = false := decide_eq_false c35
          clear c35
          replace H := Option.bind_eq_some_iff.mp H
          obtain ⟨⟨t403, t406⟩, A380, H⟩ := H
          replace H : (if t406 = 0 then (slotmeshlaw27_QueueBack.l0 kj30 a1 a2 t398 t401 (Int.tmod (wrap64 (a1 + 1)) 60) (wrap64 (x10_2 + 1)) (wrap64 (x11_2 + 1)) t403) else (if t398 = true then (if t401 = true then (if x10_2 < 3 then (some true) else (some false)) else (if x10_2 < 3 then (some false) else (some true))) else (some false))) = some r := H
          have A38 := Aside0.mk A380
          clear A380
          by_cases c39 : t406 = 0
          ·rw [if_pos c39] at H
           have c39b0 : (t406 == 0) = true := beq_iff_eq.mpr c39
           have c39b1 : (t406 != 0) = false := bne_eq_false_iff_eq.mpr c39
           clear c39
           have H' := Aside0.mk H
           clear H
           have hcz40_0 : wc.cell? ⟨gb397, 0, none⟩ = some (u398000) := (blk_cell BK397.out 0).trans rfl
           have hfz40_0 := blk_frozen BK397.out 0
           obtain ⟨Ao41, co41, eo41⟩ := Kd.V_slice HO_398000.out
           subst eo41
           go_wp2_with (first | ((with_reducible refine gate_callee (f := 22) rfl ?_); refine goesL_ (some 49) rfl rfl Try.func22 (by kernel_rfl) rfl #[.slice Ao41 x398000_2.length co41, .int .i64 (Int.tmod (wrap64 (a1 + 1)) 60), .int .i64 x11_2] rfl (by (try simp only [List.map_toArray, List.map_cons, List.map_nil]); first | done | rfl | (simp only [List.length_drop, List.length_take]; rfl)) ?_; (with_reducible refine (slotmeshref27_Find.calls kj30 _ _ x398000_2 (Int.tmod (wrap64 (a1 + 1)) 60) x11_2 t402 _ ?side1 ?side2 A34.out).mono ?_); (case side1 => repeat (first | exact (Kd.V_reads' HO_398000.out).2.2 | (with_reducible refine Kd.C_alloc ?_ _) | (with_reducible refine Kd.C_drewN ?_ _) | (with_reducible refine Kd.C_drew ?_))); (case side2 => exact (Kd.V_reads' HO_398000.out).2.1); rintro e w' ⟨rfl, ⟨nd, rfl⟩⟩; refine ⟨_, rfl, ?_⟩; (try (rw [drewN_self wc]; generalize hq_ : World.drewN wc _ = wc; have n0_ : Aside0 (Kd.V k26 26 wc w.heap.size (fun k_ => (P0_0_ k_ ∨ w.heap.size ≤ k_) ∧ k_ ≠ gb397) (.slice Ao41 x398000_2.length co41) x398000_2) := ⟨by rw [← hq_]; exact (by (with_reducible repeat (first | apply Kd.V_alloc | apply Kd.V_drewN | apply Kd.V_drew)); exact HO_398000.out)⟩; have n1_ : Aside0 (wc.heap[gb397]? = some (.cells #[.slice Ao41 x398000_2.length co41] 24 (0, 0))) := ⟨by rw [← hq_]; exact (by (with_reducible repeat (first | refine blk_drewN ?_ _ | refine blk_drew ?_ | refine blk_alloc ?_ _)); exact BK397.out)⟩; have n2_ : Aside0 (Below w.heap.size w wc) := ⟨by rw [← hq_]; exact (by repeat (first | (with_reducible first | exact HB.out | apply below_alloc | apply pw_below_drewN | apply below_drew1 | refine below_set ?_ GE397.out) | exact HB.out))⟩; clear HO_398000 BK397 HB hq_; have HO_398000 := n0_; have BK397 := n1_; have HB := n2_; clear n0_ n1_ n2_)); have hcz42_0 : wc.cell? ⟨gb397, 0, none⟩ = some (.slice Ao41 x398000_2.length co41) := (blk_cell BK397.out 0).trans rfl; have hfz42_0 := blk_frozen BK397.out 0) | ((with_reducible refine gate_callee (f := 11) rfl ?_); refine goesL_ (some 58) rfl rfl Try.func11 (by kernel_rfl) rfl #[.agg #[.slice Ao41 x398000_2.length co41], .agg #[.int .i64 (Int.tmod (wrap64 (a1 + 1)) 60), .int .i64 x11_2, .int .i64 0, .int .i64 a2, .int .i64 0], .int .i64 a1] rfl (by (try simp only [List.map_toArray, List.map_cons, List.map_nil]); first | done | rfl | (simp only [List.length_drop, List.length_take]; rfl)) ?_; (with_reducible refine (queue_Put.calls kj30 _ _ x398000_2 (Int.tmod (wrap64 (a1 + 1)) 60) x11_2 0 a2 0 a1 t403 t406 _ ?side1 ?side2 A38.out).mono ?_); (case side1 => repeat (first | exact (Kd.V_reads' HO_398000.out).2.2 | (with_reducible refine Kd.C_alloc ?_ _) | (with_reducible refine Kd.C_drewN ?_ _) | (with_reducible refine Kd.C_drew ?_))); (case side2 => exact (Kd.V_reads' HO_398000.out).2.1); rintro e w43 ⟨v404, rfl, ho0, hb⟩; refine ⟨_, rfl, ?_⟩; have n0_ := Aside0.mk (Kd.V_elder' (by (with_reducible repeat (first | apply Kd.V_alloc | apply Kd.V_drewN | apply Kd.V_drew)); exact HO_398000.out) (Kd.R_base ho0) hb); have n1_ := Aside0.mk (Kd.R_lower (Kd.R_newM (M := fun k_ => (w.heap.size ≤ k_)) ho0 (below_size (by repeat (first | (with_reducible first | exact HB.out | apply below_alloc | apply pw_below_drewN | apply below_drew1 | refine below_set ?_ GE397.out) | exact HB.out))) (fun k_ h_ => h_)) (below_size (by repeat (first | (with_reducible first | exact HB.out | apply below_alloc | apply pw_below_drewN | apply below_drew1 | refine below_set ?_ GE397.out) | exact HB.out)))); have n2_ := Aside0.mk (blk_below (g := gb397) (o := .cells #[.slice Ao41 x398000_2.length co41] 24 (0, 0)) (by (with_reducible repeat (first | refine blk_drewN ?_ _ | refine blk_drew ?_ | refine blk_alloc ?_ _)); exact BK397.out) hb); have n3_ := Aside0.mk (below_step (by repeat (first | (with_reducible first | exact HB.out | apply below_alloc | apply pw_below_drewN | apply below_drew1 | refine below_set ?_ GE397.out) | exact HB.out)) hb); clear HO_398000; clear BK397; clear HB; have HO_398000 := n0_; have HO405 := n1_; have BK397 := n2_; have HB := n3_; clear n0_ n1_ n2_ n3_; (try clear hb); (try clear hb2); (try clear hk); (try clear hi); (try clear ho0)) | ((with_reducible refine gate_dst (N := 12) rfl ?_); refine box_event ?hg (N := 12) ?hd (cs := #[.slice none 0 0]) (t := 24) ?hr ?_; (case hd => rfl); (case hg => rfl); (case hr => first | (go_simp; done) | (go_simp; rfl)); intro gb407 hg w44 hbox hb; have n0_ := Aside0.mk (Kd.V_below (Kd.V_elderB (by (with_reducible repeat (first | apply Kd.V_alloc | apply Kd.V_drewN | apply Kd.V_drew)); exact HO_398000.out) gb407 (Nat.le_of_eq hg.symm)) hb); have n1_ := Aside0.mk (Kd.R_below (by (with_reducible repeat (first | apply Kd.R_alloc | apply Kd.R_drewN | apply Kd.R_drew)); exact HO405.out) hb); have n2_ := Aside0.mk (blk_below (g := gb397) (o := .cells #[.slice Ao41 x398000_2.length co41] 24 (0, 0)) (by (with_reducible repeat (first | refine blk_drewN ?_ _ | refine blk_drew ?_ | refine blk_alloc ?_ _)); exact BK397.out) hb); have n3_ := Aside0.mk (below_step (by repeat (first | (with_reducible first | exact HB.out | apply below_alloc | apply pw_below_drewN | apply below_drew1 | refine below_set ?_ GE397.out) | exact HB.out)) hb); have n4_ := Aside0.mk (hbox); have n5_ := Aside0.mk ((by rw [hg]; exact (below_size (by repeat (first | (with_reducible first | exact HB.out | apply below_alloc | apply pw_below_drewN | apply below_drew1 | refine below_set ?_ GE397.out) | exact HB.out))) : w.heap.size ≤ gb407)); have n6_ := Aside0.mk ((by rw [hg]; exact (below_size (by repeat (first | (with_reducible first | exact HB.out | apply below_alloc | apply pw_below_drewN | apply below_drew1 | refine below_set ?_ GE397.out) | exact HB.out))) : w.heap.size ≤ gb407)); have n7_ := Aside0.mk ((by rw [hg]; exact Nat.ne_of_lt (blk_lt (g := gb397) (o := .cells #[.slice Ao41 x398000_2.length co41] 24 (0, 0)) (by (with_reducible repeat (first | refine blk_drewN ?_ _ | refine blk_drew ?_ | refine blk_alloc ?_ _)); exact BK397.out)) : gb397 ≠ gb407)); have n8_ := Aside0.mk ((by rw [hg]; exact Nat.ne_of_gt (blk_lt (g := gb397) (o := .cells #[.slice Ao41 x398000_2.length co41] 24 (0, 0)) (by (with_reducible repeat (first | refine blk_drewN ?_ _ | refine blk_drew ?_ | refine blk_alloc ?_ _)); exact BK397.out)) : gb407 ≠ gb397)); clear HO_398000; clear HO405; clear BK397; clear HB; have HO_398000 := n0_; have HO405 := n1_; have BK397 := n2_; have HB := n3_; have BK407 := n4_; have GW407 := n5_; have GE407 := n6_; have NB397_407 := n7_; have NB407_397 := n8_; clear n0_ n1_ n2_ n3_ n4_ n5_ n6_ n7_ n8_; clear hb hbox hg; obtain ⟨Ao45, co45, eo45⟩ := Kd.R_slice HO405.out; subst eo45; have hnb46 := NB407_397.out; have hnc46 := NB397_407.out; have hcz47_0 : w44.cell? ⟨gb407, 0, none⟩ = some (.slice none 0 0) := (blk_cell BK407.out 0).trans rfl; have hfz47_0 := blk_frozen BK407.out 0; have hcz48_0 : w44.cell? ⟨gb397, 0, none⟩ = some (.slice Ao41 x398000_2.length co41) := (blk_cell BK397.out 0).trans rfl; have hfz48_0 := blk_frozen BK397.out 0))
           go_roundg kj30
           case measure => have := HJ4.out; have := HK2.out; have := HJ30.out; omega
           case rel => exact ⟨(wrap64 (x10_2 + 1)), (wrap64 (x11_2 + 1)), (t403), (.slice Ao45 t403.length co45), (by first | rfl | (simp; done) | (simp [*]; done)), (by first | rfl | (simp; done) | (simp [*]; done)), H', ⟨by have := HJ4.out; have := HK2.out; have := HJ30.out; omega⟩, ⟨Kd.V_mono (Kd.R_V (ok := (fun k_ => (w.heap.size ≤ k_) ∧ k_ ≠ gb397)) (by (with_reducible repeat (first | apply Kd.R_alloc | apply Kd.R_drewN | apply Kd.R_drew)); exact Kd.R_mono (Kd.R_far (p := ⟨gb397, 0, none⟩) (Kd.R_far (p := ⟨gb407, 0, none⟩) (Kd.R_types (Kd.R_types (Kd.R_types HO405.out BK397.out (by decide)) BK407.out (by decide)) BK397.out (by decide)) (fun _ hk => hk.1.2) (.slice Ao45 t403.length co45)) (fun _ hk => hk.2) (.slice Ao45 t403.length co45)) (fun _ hk => ⟨hk.1.1.1.1, hk.1.1.2⟩))) (fun k_ hk => by first | exact ⟨(.inr (hk.1)), hk.2⟩ | exact (.inr (hk)))⟩, ⟨by (with_reducible repeat (first | refine blk_drewN ?_ _ | refine blk_drew ?_ | refine blk_alloc ?_ _)); refine blk_put (cs := #[.slice Ao41 x398000_2.length co41]) ?_ 0 _ rfl; (with_reducible repeat (first | refine blk_drewN ?_ _ | refine blk_drew ?_ | refine blk_alloc ?_ _)); refine blk_far ?_ NB397_407.out _; (with_reducible repeat (first | refine blk_drewN ?_ _ | refine blk_drew ?_ | refine blk_alloc ?_ _)); exact BK397.out⟩, ⟨by repeat (first | (with_reducible first | exact HB.out | apply below_alloc | apply pw_below_drewN | apply below_drew1 | refine below_set ?_ GE397.out | refine below_set ?_ GE407.out) | exact HB.out)⟩⟩
          ·rw [if_neg c39] at H
           have c39b0 : (t406 == 0) = false := beq_eq_false_iff_ne.mpr c39
           have c39b1 : (t406 != 0) = true := bne_iff_ne.mpr c39
           by_cases c49 : t398 = true
           ·subst c49
            have H1 : (if t401 = true then (if x10_2 < 3 then (some true) else (some false)) else (if x10_2 < 3 then (some false) else (some true))) = some r := by rw [if_pos rfl] at H; exact H
            clear H
            have H := H1
            clear H1
            by_cases c50 : t401 = true
            ·subst c50
             have H1 : (if x10_2 < 3 then (some true) else (some false)) = some r := by rw [if_pos rfl] at H; exact H
             clear H
             have H := H1
             clear H1
             by_cases c51 : x10_2 < 3
             ·rw [if_pos c51] at H
              have c51b0 : decide (x10_2 < 3) = true := decide_eq_true c51
              clear c51
              obtain rfl := Option.some.inj H
              have hcz52_0 : wc.cell? ⟨gb397, 0, none⟩ = some (u398000) := (blk_cell BK397.out 0).trans rfl
              have hfz52_0 := blk_frozen BK397.out 0
              obtain ⟨Ao53, co53, eo53⟩ := Kd.V_slice HO_398000.out
              subst eo53
              go_wp2_with (first | ((with_reducible refine gate_callee (f := 22) rfl ?_); refine goesL_ (some 49) rfl rfl Try.func22 (by kernel_rfl) rfl #[.slice Ao53 x398000_2.length co53, .int .i64 (Int.tmod (wrap64 (a1 + 1)) 60), .int .i64 x11_2] rfl (by (try simp only [List.map_toArray, List.map_cons, List.map_nil]); first | done | rfl | (simp only [List.length_drop, List.length_take]; rfl)) ?_; (with_reducible refine (slotmeshref27_Find.calls kj30 _ _ x398000_2 (Int.tmod (wrap64 (a1 + 1)) 60) x11_2 t402 _ ?side1 ?side2 A34.out).mono ?_); (case side1 => repeat (first | exact (Kd.V_reads' HO_398000.out).2.2 | (with_reducible refine Kd.C_alloc ?_ _) | (with_reducible refine Kd.C_drewN ?_ _) | (with_reducible refine Kd.C_drew ?_))); (case side2 => exact (Kd.V_reads' HO_398000.out).2.1); rintro e w' ⟨rfl, ⟨nd, rfl⟩⟩; refine ⟨_, rfl, ?_⟩; (try (rw [drewN_self wc]; generalize hq_ : World.drewN wc _ = wc; have n0_ : Aside0 (Kd.V k26 26 wc w.heap.size (fun k_ => (P0_0_ k_ ∨ w.heap.size ≤ k_) ∧ k_ ≠ gb397) (.slice Ao53 x398000_2.length co53) x398000_2) := ⟨by rw [← hq_]; exact (by (with_reducible repeat (first | apply Kd.V_alloc | apply Kd.V_drewN | apply Kd.V_drew)); exact HO_398000.out)⟩; have n1_ : Aside0 (wc.heap[gb397]? = some (.cells #[.slice Ao53 x398000_2.length co53] 24 (0, 0))) := ⟨by rw [← hq_]; exact (by (with_reducible repeat (first | refine blk_drewN ?_ _ | refine blk_drew ?_ | refine blk_alloc ?_ _)); exact BK397.out)⟩; have n2_ : Aside0 (Below w.heap.size w wc) := ⟨by rw [← hq_]; exact (by repeat (first | (with_reducible first | exact HB.out | apply below_alloc | apply pw_below_drewN | apply below_drew1 | refine below_set ?_ GE397.out) | exact HB.out))⟩; clear HO_398000 BK397 HB hq_; have HO_398000 := n0_; have BK397 := n1_; have HB := n2_; clear n0_ n1_ n2_)); have hcz54_0 : wc.cell? ⟨gb397, 0, none⟩ = some (.slice Ao53 x398000_2.length co53) := (blk_cell BK397.out 0).trans rfl; have hfz54_0 := blk_frozen BK397.out 0) | ((with_reducible refine gate_callee (f := 11) rfl ?_); refine goesL_ (some 58) rfl rfl Try.func11 (by kernel_rfl) rfl #[.agg #[.slice Ao53 x398000_2.length co53], .agg #[.int .i64 (Int.tmod (wrap64 (a1 + 1)) 60), .int .i64 x11_2, .int .i64 0, .int .i64 a2, .int .i64 0], .int .i64 a1] rfl (by (try simp only [List.map_toArray, List.map_cons, List.map_nil]); first | done | rfl | (simp only [List.length_drop, List.length_take]; rfl)) ?_; (with_reducible refine (queue_Put.calls kj30 _ _ x398000_2 (Int.tmod (wrap64 (a1 + 1)) 60) x11_2 0 a2 0 a1 t403 t406 _ ?side1 ?side2 A38.out).mono ?_); (case side1 => repeat (first | exact (Kd.V_reads' HO_398000.out).2.2 | (with_reducible refine Kd.C_alloc ?_ _) | (with_reducible refine Kd.C_drewN ?_ _) | (with_reducible refine Kd.C_drew ?_))); (case side2 => exact (Kd.V_reads' HO_398000.out).2.1); rintro e w55 ⟨v404, rfl, ho0, hb⟩; refine ⟨_, rfl, ?_⟩; have n0_ := Aside0.mk (Kd.V_elder' (by (with_reducible repeat (first | apply Kd.V_alloc | apply Kd.V_drewN | apply Kd.V_drew)); exact HO_398000.out) (Kd.R_base ho0) hb); have n1_ := Aside0.mk (Kd.R_lower (Kd.R_newM (M := fun k_ => (w.heap.size ≤ k_)) ho0 (below_size (by repeat (first | (with_reducible first | exact HB.out | apply below_alloc | apply pw_below_drewN | apply below_drew1 | refine below_set ?_ GE397.out) | exact HB.out))) (fun k_ h_ => h_)) (below_size (by repeat (first | (with_reducible first | exact HB.out | apply below_alloc | apply pw_below_drewN | apply below_drew1 | refine below_set ?_ GE397.out) | exact HB.out)))); have n2_ := Aside0.mk (blk_below (g := gb397) (o := .cells #[.slice Ao53 x398000_2.length co53] 24 (0, 0)) (by (with_reducible repeat (first | refine blk_drewN ?_ _ | refine blk_drew ?_ | refine blk_alloc ?_ _)); exact BK397.out) hb); have n3_ := Aside0.mk (below_step (by repeat (first | (with_reducible first | exact HB.out | apply below_alloc | apply pw_below_drewN | apply below_drew1 | refine below_set ?_ GE397.out) | exact HB.out)) hb); clear HO_398000; clear BK397; clear HB; have HO_398000 := n0_; have HO405 := n1_; have BK397 := n2_; have HB := n3_; clear n0_ n1_ n2_ n3_; (try clear hb); (try clear hb2); (try clear hk); (try clear hi); (try clear ho0)) | ((with_reducible refine gate_dst (N := 12) rfl ?_); refine box_event ?hg (N := 12) ?hd (cs := #[.slice none 0 0]) (t := 24) ?hr ?_; (case hd => rfl); (case hg => rfl); (case hr => first | (go_simp; done) | (go_simp; rfl)); intro gb407 hg w56 hbox hb; have n0_ := Aside0.mk (Kd.V_below (Kd.V_elderB (by (with_reducible repeat (first | apply Kd.V_alloc | apply Kd.V_drewN | apply Kd.V_drew)); exact HO_398000.out) gb407 (Nat.le_of_eq hg.symm)) hb); have n1_ := Aside0.mk (Kd.R_below (by (with_reducible repeat (first | apply Kd.R_alloc | apply Kd.R_drewN | apply Kd.R_drew)); exact HO405.out) hb); have n2_ := Aside0.mk (blk_below (g := gb397) (o := .cells #[.slice Ao53 x398000_2.length co53] 24 (0, 0)) (by (with_reducible repeat (first | refine blk_drewN ?_ _ | refine blk_drew ?_ | refine blk_alloc ?_ _)); exact BK397.out) hb); have n3_ := Aside0.mk (below_step (by repeat (first | (with_reducible first | exact HB.out | apply below_alloc | apply pw_below_drewN | apply below_drew1 | refine below_set ?_ GE397.out) | exact HB.out)) hb); have n4_ := Aside0.mk (hbox); have n5_ := Aside0.mk ((by rw [hg]; exact (below_size (by repeat (first | (with_reducible first | exact HB.out | apply below_alloc | apply pw_below_drewN | apply below_drew1 | refine below_set ?_ GE397.out) | exact HB.out))) : w.heap.size ≤ gb407)); have n6_ := Aside0.mk ((by rw [hg]; exact (below_size (by repeat (first | (with_reducible first | exact HB.out | apply below_alloc | apply pw_below_drewN | apply below_drew1 | refine below_set ?_ GE397.out) | exact HB.out))) : w.heap.size ≤ gb407)); have n7_ := Aside0.mk ((by rw [hg]; exact Nat.ne_of_lt (blk_lt (g := gb397) (o := .cells #[.slice Ao53 x398000_2.length co53] 24 (0, 0)) (by (with_reducible repeat (first | refine blk_drewN ?_ _ | refine blk_drew ?_ | refine blk_alloc ?_ _)); exact BK397.out)) : gb397 ≠ gb407)); have n8_ := Aside0.mk ((by rw [hg]; exact Nat.ne_of_gt (blk_lt (g := gb397) (o := .cells #[.slice Ao53 x398000_2.length co53] 24 (0, 0)) (by (with_reducible repeat (first | refine blk_drewN ?_ _ | refine blk_drew ?_ | refine blk_alloc ?_ _)); exact BK397.out)) : gb407 ≠ gb397)); clear HO_398000; clear HO405; clear BK397; clear HB; have HO_398000 := n0_; have HO405 := n1_; have BK397 := n2_; have HB := n3_; have BK407 := n4_; have GW407 := n5_; have GE407 := n6_; have NB397_407 := n7_; have NB407_397 := n8_; clear n0_ n1_ n2_ n3_ n4_ n5_ n6_ n7_ n8_; clear hb hbox hg; obtain ⟨Ao57, co57, eo57⟩ := Kd.R_slice HO405.out; subst eo57; have hnb58 := NB407_397.out; have hnc58 := NB397_407.out; have hcz59_0 : w56.cell? ⟨gb407, 0, none⟩ = some (.slice none 0 0) := (blk_cell BK407.out 0).trans rfl; have hfz59_0 := blk_frozen BK407.out 0))
              go_ret
              exact ⟨by first | rfl | (simp [errW_none, errW_some] <;> rfl) | (simp [*, errW_none, errW_some] <;> rfl), by repeat (first | (with_reducible first | exact HB.out | apply below_alloc | apply pw_below_drewN | apply below_drew1 | refine below_set ?_ GE397.out | refine below_set ?_ GE407.out) | exact HB.out)⟩
             ·rw [if_neg c51] at H
              have c51b0 : decide (x10_2 < 3) = false := decide_eq_false c51
              clear c51
              exact absurd (Option.some.inj H) (by rw [HRT.out]; decide)
            ·replace c50 := Bool.eq_false_iff.mpr c50
             subst c50
             have H1 : (if x10_2 < 3 then (some false) else (some true)) = some r := by rw [if_neg (show ¬ (false = true) by decide)] at H; exact H
             clear H
             have H := H1
             clear H1
             by_cases c60 : x10_2 < 3
             ·rw [if_pos c60] at H
              have c60b0 : decide (x10_2 < 3) = true := decide_eq_true c60
              clear c60
              exact absurd (Option.some.inj H) (by rw [HRT.out]; decide)
             ·rw [if_neg c60] at H
              have c60b0 : decide (x10_2 < 3) = false := decide_eq_false c60
              clear c60
              obtain rfl := Option.some.inj H
              have hcz61_0 : wc.cell? ⟨gb397, 0, none⟩ = some (u398000) := (blk_cell BK397.out 0).trans rfl
              have hfz61_0 := blk_frozen BK397.out 0
              obtain ⟨Ao62, co62, eo62⟩ := Kd.V_slice HO_398000.out
              subst eo62
              go_wp2_with (first | ((with_reducible refine gate_callee (f := 22) rfl ?_); refine goesL_ (some 49) rfl rfl Try.func22 (by kernel_rfl) rfl #[.slice Ao62 x398000_2.length co62, .int .i64 (Int.tmod (wrap64 (a1 + 1)) 60), .int .i64 x11_2] rfl (by (try simp only [List.map_toArray, List.map_cons, List.map_nil]); first | done | rfl | (simp only [List.length_drop, List.length_take]; rfl)) ?_; (with_reducible refine (slotmeshref27_Find.calls kj30 _ _ x398000_2 (Int.tmod (wrap64 (a1 + 1)) 60) x11_2 t402 _ ?side1 ?side2 A34.out).mono ?_); (case side1 => repeat (first | exact (Kd.V_reads' HO_398000.out).2.2 | (with_reducible refine Kd.C_alloc ?_ _) | (with_reducible refine Kd.C_drewN ?_ _) | (with_reducible refine Kd.C_drew ?_))); (case side2 => exact (Kd.V_reads' HO_398000.out).2.1); rintro e w' ⟨rfl, ⟨nd, rfl⟩⟩; refine ⟨_, rfl, ?_⟩; (try (rw [drewN_self wc]; generalize hq_ : World.drewN wc _ = wc; have n0_ : Aside0 (Kd.V k26 26 wc w.heap.size (fun k_ => (P0_0_ k_ ∨ w.heap.size ≤ k_) ∧ k_ ≠ gb397) (.slice Ao62 x398000_2.length co62) x398000_2) := ⟨by rw [← hq_]; exact (by (with_reducible repeat (first | apply Kd.V_alloc | apply Kd.V_drewN | apply Kd.V_drew)); exact HO_398000.out)⟩; have n1_ : Aside0 (wc.heap[gb397]? = some (.cells #[.slice Ao62 x398000_2.length co62] 24 (0, 0))) := ⟨by rw [← hq_]; exact (by (with_reducible repeat (first | refine blk_drewN ?_ _ | refine blk_drew ?_ | refine blk_alloc ?_ _)); exact BK397.out)⟩; have n2_ : Aside0 (Below w.heap.size w wc) := ⟨by rw [← hq_]; exact (by repeat (first | (with_reducible first | exact HB.out | apply below_alloc | apply pw_below_drewN | apply below_drew1 | refine below_set ?_ GE397.out) | exact HB.out))⟩; clear HO_398000 BK397 HB hq_; have HO_398000 := n0_; have BK397 := n1_; have HB := n2_; clear n0_ n1_ n2_)); have hcz63_0 : wc.cell? ⟨gb397, 0, none⟩ = some (.slice Ao62 x398000_2.length co62) := (blk_cell BK397.out 0).trans rfl; have hfz63_0 := blk_frozen BK397.out 0) | ((with_reducible refine gate_callee (f := 11) rfl ?_); refine goesL_ (some 58) rfl rfl Try.func11 (by kernel_rfl) rfl #[.agg #[.slice Ao62 x398000_2.length co62], .agg #[.int .i64 (Int.tmod (wrap64 (a1 + 1)) 60), .int .i64 x11_2, .int .i64 0, .int .i64 a2, .int .i64 0], .int .i64 a1] rfl (by (try simp only [List.map_toArray, List.map_cons, List.map_nil]); first | done | rfl | (simp only [List.length_drop, List.length_take]; rfl)) ?_; (with_reducible refine (queue_Put.calls kj30 _ _ x398000_2 (Int.tmod (wrap64 (a1 + 1)) 60) x11_2 0 a2 0 a1 t403 t406 _ ?side1 ?side2 A38.out).mono ?_); (case side1 => repeat (first | exact (Kd.V_reads' HO_398000.out).2.2 | (with_reducible refine Kd.C_alloc ?_ _) | (with_reducible refine Kd.C_drewN ?_ _) | (with_reducible refine Kd.C_drew ?_))); (case side2 => exact (Kd.V_reads' HO_398000.out).2.1); rintro e w64 ⟨v404, rfl, ho0, hb⟩; refine ⟨_, rfl, ?_⟩; have n0_ := Aside0.mk (Kd.V_elder' (by (with_reducible repeat (first | apply Kd.V_alloc | apply Kd.V_drewN | apply Kd.V_drew)); exact HO_398000.out) (Kd.R_base ho0) hb); have n1_ := Aside0.mk (Kd.R_lower (Kd.R_newM (M := fun k_ => (w.heap.size ≤ k_)) ho0 (below_size (by repeat (first | (with_reducible first | exact HB.out | apply below_alloc | apply pw_below_drewN | apply below_drew1 | refine below_set ?_ GE397.out) | exact HB.out))) (fun k_ h_ => h_)) (below_size (by repeat (first | (with_reducible first | exact HB.out | apply below_alloc | apply pw_below_drewN | apply below_drew1 | refine below_set ?_ GE397.out) | exact HB.out)))); have n2_ := Aside0.mk (blk_below (g := gb397) (o := .cells #[.slice Ao62 x398000_2.length co62] 24 (0, 0)) (by (with_reducible repeat (first | refine blk_drewN ?_ _ | refine blk_drew ?_ | refine blk_alloc ?_ _)); exact BK397.out) hb); have n3_ := Aside0.mk (below_step (by repeat (first | (with_reducible first | exact HB.out | apply below_alloc | apply pw_below_drewN | apply below_drew1 | refine below_set ?_ GE397.out) | exact HB.out)) hb); clear HO_398000; clear BK397; clear HB; have HO_398000 := n0_; have HO405 := n1_; have BK397 := n2_; have HB := n3_; clear n0_ n1_ n2_ n3_; (try clear hb); (try clear hb2); (try clear hk); (try clear hi); (try clear ho0)) | ((with_reducible refine gate_dst (N := 12) rfl ?_); refine box_event ?hg (N := 12) ?hd (cs := #[.slice none 0 0]) (t := 24) ?hr ?_; (case hd => rfl); (case hg => rfl); (case hr => first | (go_simp; done) | (go_simp; rfl)); intro gb407 hg w65 hbox hb; have n0_ := Aside0.mk (Kd.V_below (Kd.V_elderB (by (with_reducible repeat (first | apply Kd.V_alloc | apply Kd.V_drewN | apply Kd.V_drew)); exact HO_398000.out) gb407 (Nat.le_of_eq hg.symm)) hb); have n1_ := Aside0.mk (Kd.R_below (by (with_reducible repeat (first | apply Kd.R_alloc | apply Kd.R_drewN | apply Kd.R_drew)); exact HO405.out) hb); have n2_ := Aside0.mk (blk_below (g := gb397) (o := .cells #[.slice Ao62 x398000_2.length co62] 24 (0, 0)) (by (with_reducible repeat (first | refine blk_drewN ?_ _ | refine blk_drew ?_ | refine blk_alloc ?_ _)); exact BK397.out) hb); have n3_ := Aside0.mk (below_step (by repeat (first | (with_reducible first | exact HB.out | apply below_alloc | apply pw_below_drewN | apply below_drew1 | refine below_set ?_ GE397.out) | exact HB.out)) hb); have n4_ := Aside0.mk (hbox); have n5_ := Aside0.mk ((by rw [hg]; exact (below_size (by repeat (first | (with_reducible first | exact HB.out | apply below_alloc | apply pw_below_drewN | apply below_drew1 | refine below_set ?_ GE397.out) | exact HB.out))) : w.heap.size ≤ gb407)); have n6_ := Aside0.mk ((by rw [hg]; exact (below_size (by repeat (first | (with_reducible first | exact HB.out | apply below_alloc | apply pw_below_drewN | apply below_drew1 | refine below_set ?_ GE397.out) | exact HB.out))) : w.heap.size ≤ gb407)); have n7_ := Aside0.mk ((by rw [hg]; exact Nat.ne_of_lt (blk_lt (g := gb397) (o := .cells #[.slice Ao62 x398000_2.length co62] 24 (0, 0)) (by (with_reducible repeat (first | refine blk_drewN ?_ _ | refine blk_drew ?_ | refine blk_alloc ?_ _)); exact BK397.out)) : gb397 ≠ gb407)); have n8_ := Aside0.mk ((by rw [hg]; exact Nat.ne_of_gt (blk_lt (g := gb397) (o := .cells #[.slice Ao62 x398000_2.length co62] 24 (0, 0)) (by (with_reducible repeat (first | refine blk_drewN ?_ _ | refine blk_drew ?_ | refine blk_alloc ?_ _)); exact BK397.out)) : gb407 ≠ gb397)); clear HO_398000; clear HO405; clear BK397; clear HB; have HO_398000 := n0_; have HO405 := n1_; have BK397 := n2_; have HB := n3_; have BK407 := n4_; have GW407 := n5_; have GE407 := n6_; have NB397_407 := n7_; have NB407_397 := n8_; clear n0_ n1_ n2_ n3_ n4_ n5_ n6_ n7_ n8_; clear hb hbox hg; obtain ⟨Ao66, co66, eo66⟩ := Kd.R_slice HO405.out; subst eo66; have hnb67 := NB407_397.out; have hnc67 := NB397_407.out; have hcz68_0 : w65.cell? ⟨gb407, 0, none⟩ = some (.slice none 0 0) := (blk_cell BK407.out 0).trans rfl; have hfz68_0 := blk_frozen BK407.out 0))
              go_ret
              exact ⟨by first | rfl | (simp [errW_none, errW_some] <;> rfl) | (simp [*, errW_none, errW_some] <;> rfl), by repeat (first | (with_reducible first | exact HB.out | apply below_alloc | apply pw_below_drewN | apply below_drew1 | refine below_set ?_ GE397.out | refine below_set ?_ GE407.out) | exact HB.out)⟩
           ·replace c49 := Bool.eq_false_iff.mpr c49
            subst c49
            have H1 : (some false) = some r := by rw [if_neg (show ¬ (false = true) by decide)] at H; exact H
            clear H
            have H := H1
            clear H1
            exact absurd (Option.some.inj H) (by rw [HRT.out]; decide)
        ·replace c33 := Bool.eq_false_iff.mpr c33
         subst c33
         have H1 : (if t398 = true then (if t401 = true then (if x10_2 < 3 then (some true) else (some false)) else (if x10_2 < 3 then (some false) else (some true))) else (some false)) = some r := by rw [if_neg (show ¬ (false = true) by decide)] at H; exact H
         clear H
         have H := H1
         clear H1
         by_cases c69 : t398 = true
         ·subst c69
          have H1 : (if t401 = true then (if x10_2 < 3 then (some true) else (some false)) else (if x10_2 < 3 then (some false) else (some true))) = some r := by rw [if_pos rfl] at H; exact H
          clear H
          have H := H1
          clear H1
          by_cases c70 : t401 = true
          ·subst c70
           have H1 : (if x10_2 < 3 then (some true) else (some false)) = some r := by rw [if_pos rfl] at H; exact H
           clear H
           have H := H1
           clear H1
           by_cases c71 : x10_2 < 3
           ·rw [if_pos c71] at H
            have c71b0 : decide (x10_2 < 3) = true := decide_eq_true c71
            clear c71
            obtain rfl := Option.some.inj H
            go_wp2
            go_ret
            exact ⟨by first | rfl | (simp [errW_none, errW_some] <;> rfl) | (simp [*, errW_none, errW_some] <;> rfl), by with_reducible exact HB.out⟩
           ·rw [if_neg c71] at H
            have c71b0 : decide (x10_2 < 3) = false := decide_eq_false c71
            clear c71
            exact absurd (Option.some.inj H) (by rw [HRT.out]; decide)
          ·replace c70 := Bool.eq_false_iff.mpr c70
           subst c70
           have H1 : (if x10_2 < 3 then (some false) else (some true)) = some r := by rw [if_neg (show ¬ (false = true) by decide)] at H; exact H
           clear H
           have H := H1
           clear H1
           by_cases c72 : x10_2 < 3
           ·rw [if_pos c72] at H
            have c72b0 : decide (x10_2 < 3) = true := decide_eq_true c72
            clear c72
            exact absurd (Option.some.inj H) (by rw [HRT.out]; decide)
           ·rw [if_neg c72] at H
            have c72b0 : decide (x10_2 < 3) = false := decide_eq_false c72
            clear c72
            obtain rfl := Option.some.inj H
            go_wp2
            go_ret
            exact ⟨by first | rfl | (simp [errW_none, errW_some] <;> rfl) | (simp [*, errW_none, errW_some] <;> rfl), by with_reducible exact HB.out⟩
         ·replace c69 := Bool.eq_false_iff.mpr c69
          subst c69
          have H1 : (some false) = some r := by rw [if_neg (show ¬ (false = true) by decide)] at H; exact H
          clear H
          have H := H1
          clear H1
          exact absurd (Option.some.inj H) (by rw [HRT.out]; decide)

end Go.Proofs.Ytcjnjgafhfkegaa.Px
