/- Walks of functions of this seat, written by a program of this workplace out of the translation. -/
import Derived.Test.YtcjnjgafhfkegaaPx0
import Derived.Test.YtcjnjgafhfkegaaPx8
namespace Go.Proofs.Ytcjnjgafhfkegaa.Px
open Go.RowKit Go.Proofs.YtcjnjgafhfkegaaW.PrintWords Go.Proofs.YtcjnjgafhfkegaaW.PrintLast Go.Proofs.YtcjnjgafhfkegaaW.PrintMore
attribute [local go_sem] max2_int min2_int max_two min_two max_three min_three max_four min_four   -- for this text's walks alone
set_option linter.unusedVariables false
set_option linter.unusedSimpArgs false

/-! ### slotmeshref27_Drop: function 17 -/
def slotmeshref27_Drop.l0 : Nat → Int → Int → List (S26) → Int → List (S26) → Option ((List (S26)))
 | 0, _, _, _, _, _ => none
 | k + 1, x1, x2, x7, x8, x279000 => if x8 < (x279000.length : Int) then (if 0 ≤ x8 then (if ((rd_T26 x279000 x8).f0) = x1 then (if ((rd_T26 x279000 x8).f1) = x2 then (slotmeshref27_Drop.l0 k x1 x2 x7 (wrap64 (x8 + 1)) x279000) else (if x7.length < 3518437208883 then (slotmeshref27_Drop.l0 k x1 x2 (x7 ++ [(⟨(rd_T26 x279000 x8).f0, (rd_T26 x279000 x8).f1, (rd_T26 x279000 x8).f2, (rd_T26 x279000 x8).f3, (rd_T26 x279000 x8).f4⟩ : S26)]) (wrap64 (x8 + 1)) x279000) else (none))) else (if x7.length < 3518437208883 then (slotmeshref27_Drop.l0 k x1 x2 (x7 ++ [(⟨(rd_T26 x279000 x8).f0, (rd_T26 x279000 x8).f1, (rd_T26 x279000 x8).f2, (rd_T26 x279000 x8).f3, (rd_T26 x279000 x8).f4⟩ : S26)]) (wrap64 (x8 + 1)) x279000) else (none))) else (none)) else (some x7)
def slotmeshref27_Drop.f (k : Nat) (l0_0 : List (S26)) (a1 : Int) (a2 : Int) : Option ((List (S26))) := (slotmeshref27_Valid.f k l0_0).bind fun t280 => (if t280 = true then (slotmeshref27_Drop.l0 k a1 a2 ([] : List (S26)) 0 l0_0) else (some ([] : List (S26))))
theorem slotmeshref27_Drop.mono_l : ∀ k, (∀ y0 y1 y2 y3 y4, LeO (slotmeshref27_Drop.l0 k y0 y1 y2 y3 y4) (slotmeshref27_Drop.l0 (k + 1) y0 y1 y2 y3 y4))
 | 0 => fun _ _ _ _ _ r h => by simp [slotmeshref27_Drop.l0] at h
 | k + 1 => by
  have ih0 := slotmeshref27_Drop.mono_l k
  ·intro y0 y1 y2 y3 y4
   unfold slotmeshref27_Drop.l0
   repeat' first
   | (with_reducible exact ih0 _ _ _ _ _)
   | (with_reducible exact slotmeshref27_Valid.mono _ _)
   | (with_reducible exact LeO.refl _)
   | (with_reducible exact LeO.none _)
   | (with_reducible refine LeO.ite ?_ ?_)
   | (with_reducible refine LeO.bind ?_ (fun _ => ?_))
   | exact ih0 _ _ _ _ _
   | exact slotmeshref27_Valid.mono _ _
   | exact LeO.none _
   | refine LeO.ite ?_ ?_
   | refine LeO.bind ?_ (fun _ => ?_)
theorem slotmeshref27_Drop.mono : ∀ a0 a1 a2 k, LeO (slotmeshref27_Drop.f k a0 a1 a2) (slotmeshref27_Drop.f (k + 1) a0 a1 a2) := by
 intro a0 a1 a2 k
 have ih0 := slotmeshref27_Drop.mono_l k
 unfold slotmeshref27_Drop.f
 repeat' first
   | (with_reducible exact ih0 _ _ _ _ _)
   | (with_reducible exact slotmeshref27_Valid.mono _ _)
   | (with_reducible exact LeO.refl _)
   | (with_reducible exact LeO.none _)
   | (with_reducible refine LeO.ite ?_ ?_)
   | (with_reducible refine LeO.bind ?_ (fun _ => ?_))
   | exact ih0 _ _ _ _ _
   | exact slotmeshref27_Valid.mono _ _
   | exact LeO.none _
   | refine LeO.ite ?_ ?_
   | refine LeO.bind ?_ (fun _ => ?_)
set_option maxHeartbeats 8000000 in
set_option maxRecDepth 100000 in
theorem slotmeshref27_Drop.calls (k : Nat) (A0_0 : Option Addr) (c0_0 : Nat) (l0_0 : List (S26)) (a1 : Int) (a2 : Int) (r : List (S26)) (w : World) (hr0_0 : Kd.C k26 w A0_0 l0_0.length l0_0) (hc0_0 : l0_0.length ≤ c0_0) (h : slotmeshref27_Drop.f k l0_0 a1 a2 = some r) :
  Calls Try.prog 17 #[.agg #[.slice A0_0 l0_0.length c0_0], .int .i64 a1, .int .i64 a2] w fun e w' => ∃ v0_ : Value, e = .returned (.agg #[v0_]) ∧ Kd.R k26 26 w' w.heap.size (fun _ => True) v0_ r ∧ Below w.heap.size w w' := by
 have hu24 := Try.underlying24
 have hu26 := Try.underlying26
 have HR0_0 := Aside0.mk hr0_0
 have HC0_0 := Aside0.mk hc0_0
 clear hr0_0 hc0_0
 have HB := Aside0.mk (Below.refl w.heap.size w)
 have H : ((slotmeshref27_Valid.f k l0_0).bind fun t280 => (if t280 = true then (slotmeshref27_Drop.l0 k a1 a2 ([] : List (S26)) 0 l0_0) else (some ([] : List (S26))))) = some r := h
 clear h
 replace H := Option.bind_eq_some_iff.mp H
 obtain ⟨t280, A40, H⟩ := H
 replace H : (if t280 = true then (slotmeshref27_Drop.l0 k a1 a2 ([] : List (S26)) 0 l0_0) else (some ([] : List (S26)))) = some r := H
 have A4 := Aside0.mk A40
 clear A40
 by_cases c5 : t280 = true
 ·subst c5
  have H1 : (slotmeshref27_Drop.l0 k a1 a2 ([] : List (S26)) 0 l0_0) = some r := by rw [if_pos rfl] at H; exact H
  clear H
  have H := H1
  clear H1
  have H' := Aside0.mk H
  clear H
  go_enter Try.func17, Try.ntmps17
  go_wp2_with (first | ((with_reducible refine gate_dst (N := 3) rfl ?_); refine box_event ?hg (N := 3) ?hd (cs := #[.slice A0_0 l0_0.length c0_0]) (t := 24) ?hr ?_; (case hd => rfl); (case hg => rfl); (case hr => first | (go_simp; done) | (go_simp; rfl)); intro gb278 hg w6 hbox hb; have n0_ := Aside0.mk (below_step HB.out hb); have n1_ := Aside0.mk (hbox); have n2_ := Aside0.mk ((by rw [hg]; exact (below_size HB.out) : w.heap.size ≤ gb278)); have n3_ := Aside0.mk ((by rw [hg]; exact (below_size HB.out) : w.heap.size ≤ gb278)); clear HB; have HB := n0_; have BK278 := n1_; have GW278 := n2_; have GE278 := n3_; clear n0_ n1_ n2_ n3_; clear hb hbox hg) | ((with_reducible refine gate_dst (N := 6) rfl ?_); refine box_event ?hg (N := 6) ?hd (cs := #[.slice none 0 0]) (t := 24) ?hr ?_; (case hd => rfl); (case hg => rfl); (case hr => first | (go_simp; done) | (go_simp; rfl)); intro gb279 hg w7 hbox hb; have n0_ := Aside0.mk (blk_below (g := gb278) (o := .cells #[.slice A0_0 l0_0.length c0_0] 24 (0, 0)) BK278.out hb); have n1_ := Aside0.mk (below_step HB.out hb); have n2_ := Aside0.mk (hbox); have n3_ := Aside0.mk ((by rw [hg]; exact (below_size HB.out) : w.heap.size ≤ gb279)); have n4_ := Aside0.mk ((by rw [hg]; exact (below_size HB.out) : w.heap.size ≤ gb279)); have n5_ := Aside0.mk ((by rw [hg]; exact Nat.ne_of_lt (blk_lt (g := gb278) (o := .cells #[.slice A0_0 l0_0.length c0_0] 24 (0, 0)) BK278.out) : gb278 ≠ gb279)); have n6_ := Aside0.mk ((by rw [hg]; exact Nat.ne_of_gt (blk_lt (g := gb278) (o := .cells #[.slice A0_0 l0_0.length c0_0] 24 (0, 0)) BK278.out) : gb279 ≠ gb278)); clear BK278; clear HB; have BK278 := n0_; have HB := n1_; have BK279 := n2_; have GW279 := n3_; have GE279 := n4_; have NB278_279 := n5_; have NB279_278 := n6_; clear n0_ n1_ n2_ n3_ n4_ n5_ n6_; clear hb hbox hg; have hnb8 := NB278_279.out; have hnc8 := NB279_278.out; have hcz9_0 : w7.cell? ⟨gb278, 0, none⟩ = some (.slice A0_0 l0_0.length c0_0) := (blk_cell BK278.out 0).trans rfl; have hfz9_0 := blk_frozen BK278.out 0) | ((with_reducible refine gate_callee (f := 20) rfl ?_); refine goesL_ (some 10) rfl rfl Try.func20 (by kernel_rfl) rfl #[.agg #[.slice A0_0 l0_0.length c0_0]] rfl (by (try simp only [List.map_toArray, List.map_cons, List.map_nil]); first | done | rfl | (simp only [List.length_drop, List.length_take]; rfl)) ?_; (with_reducible refine (slotmeshref27_Valid.calls k _ _ l0_0 true _ ?side1 ?side2 A4.out).mono ?_); (case side1 => repeat (first | exact (Kd.C_below HR0_0.out HB.out) | (with_reducible refine Kd.C_alloc ?_ _) | (with_reducible refine Kd.C_drewN ?_ _) | (with_reducible refine Kd.C_drew ?_))); (case side2 => exact HC0_0.out); rintro e w10 ⟨rfl, hb⟩; refine ⟨_, rfl, ?_⟩; have n0_ := Aside0.mk (blk_below (g := gb278) (o := .cells #[.slice A0_0 l0_0.length c0_0] 24 (0, 0)) BK278.out hb); have n1_ := Aside0.mk (blk_below (g := gb279) (o := .cells #[.slice none 0 0] 24 (0, 0)) BK279.out hb); have n2_ := Aside0.mk (below_step HB.out hb); clear BK278; clear BK279; clear HB; have BK278 := n0_; have BK279 := n1_; have HB := n2_; clear n0_ n1_ n2_; (try clear hb); (try clear hb2); (try clear hk); (try clear hi)))
  go_loopg [7, 8] k (fun kq v7 v8 w' => ∃ (x7_1 : List (S26)) (x8_1 : Int), v8 = .int .i64 x8_1 ∧ Aside0 (slotmeshref27_Drop.l0 kq a1 a2 x7_1 x8_1 l0_0 = some r) ∧ Aside0 (kq ≤ k) ∧ Aside0 (Kd.R k26 26 w' w.heap.size (fun _ => True) v7 x7_1) ∧ Aside0 (w'.heap[gb278]? = some (.cells #[(.slice A0_0 l0_0.length c0_0)] 24 (0, 0))) ∧ Aside0 (w'.heap[gb279]? = some (.cells #[(.slice none 0 0)] 24 (0, 0))) ∧ Aside0 (Below w.heap.size w w'))
  case atStart => exact ⟨(([] : List (S26))), (0), (by first | rfl | (simp; done) | (simp [*]; done)), H', ⟨Nat.le_refl _⟩, ⟨by first | exact Kd.R_nil _ _ _ _ _ | exact Kd.N_nil _ _ _ _ _ | exact Kd.V_nil _ _ _ _ _ | exact Kd.Q_nil _ _ _ _ _ | exact Kd.S_nil _ _ _ _ _⟩, ⟨BK278.out⟩, ⟨BK279.out⟩, ⟨HB.out⟩⟩
  case round =>
   clear H'
   try clear c1
   try clear c2
   try clear p2
   try clear c5
   try clear c8
   try clear hcz9_0
   try clear hfz9_0
   obtain ⟨x7_1, x8_1, rfl, HA, HK1, HO_7, BK278, BK279, HB⟩ := hrel
   cases gk with
   | zero => exact absurd HA.out (by simp [slotmeshref27_Drop.l0])
   | succ k1 =>
    have H := HA.out
    clear HA
    simp only [slotmeshref27_Drop.l0] at H
    by_cases c11 : x8_1 < (l0_0.length : Int)
    ·rw [if_pos c11] at H
     have c11b0 : decide (x8_1 < (l0_0.length : Int)) = true := decide_eq_true c11
     clear c11
     by_cases c12 : 0 ≤ x8_1
     ·rw [if_pos c12] at H
      have c12b0 : decide (0 ≤ x8_1) = true := decide_eq_true c12
      clear c12
      by_cases c13 : ((rd_T26 l0_0 x8_1).f0) = a1
      ·rw [if_pos c13] at H
       have c13b0 : (((rd_T26 l0_0 x8_1).f0) == a1) = true := beq_iff_eq.mpr c13
       have c13b1 : (((rd_T26 l0_0 x8_1).f0) != a1) = false := bne_eq_false_iff_eq.mpr c13
       clear c13
       by_cases c14 : ((rd_T26 l0_0 x8_1).f1) = a2
       ·rw [if_pos c14] at H
        have c14b0 : (((rd_T26 l0_0 x8_1).f1) == a2) = true := beq_iff_eq.mpr c14
        have c14b1 : (((rd_T26 l0_0 x8_1).f1) != a2) = false := bne_eq_false_iff_eq.mpr c14
        clear c14
        have H' := Aside0.mk H
        clear H
        have hnb15 := NB278_279.out
        have hnc15 := NB279_278.out
        have hcz16_0 : wr.cell? ⟨gb278, 0, none⟩ = some (.slice A0_0 l0_0.length c0_0) := (blk_cell BK278.out 0).trans rfl
        have hfz16_0 := blk_frozen BK278.out 0
        have p281 : 0 ≤ (x8_1 : Int) := of_decide_eq_true (by assumption)
        have q281 : x8_1 < (l0_0.length : Int) := of_decide_eq_true (by assumption)
        obtain ⟨ad281, e281, hx281_0, hx281_1, hx281_2, hx281_3, hx281_4⟩ := at_T26 HR0_0.out x8_1 p281 q281
        cases e281
        replace hx281_0 := (HB.out.cell (World.block_lt_of_cell? w _ hx281_0)).trans hx281_0
        replace hx281_1 := (HB.out.cell (World.block_lt_of_cell? w _ hx281_1)).trans hx281_1
        replace hx281_2 := (HB.out.cell (World.block_lt_of_cell? w _ hx281_2)).trans hx281_2
        replace hx281_3 := (HB.out.cell (World.block_lt_of_cell? w _ hx281_3)).trans hx281_3
        replace hx281_4 := (HB.out.cell (World.block_lt_of_cell? w _ hx281_4)).trans hx281_4
        replace p281 := eq_true p281
        replace q281 := eq_true q281
        have p282 : 0 ≤ (x8_1 : Int) := of_decide_eq_true (by assumption)
        have q282 : x8_1 < (l0_0.length : Int) := of_decide_eq_true (by assumption)
        obtain ⟨ad282, e282, hx282_0, hx282_1, hx282_2, hx282_3, hx282_4⟩ := at_T26 HR0_0.out x8_1 p282 q282
        obtain rfl : ad281 = ad282 := (by injection e282)
        replace hx282_0 := (HB.out.cell (World.block_lt_of_cell? w _ hx282_0)).trans hx282_0
        replace hx282_1 := (HB.out.cell (World.block_lt_of_cell? w _ hx282_1)).trans hx282_1
        replace hx282_2 := (HB.out.cell (World.block_lt_of_cell? w _ hx282_2)).trans hx282_2
        replace hx282_3 := (HB.out.cell (World.block_lt_of_cell? w _ hx282_3)).trans hx282_3
        replace hx282_4 := (HB.out.cell (World.block_lt_of_cell? w _ hx282_4)).trans hx282_4
        replace p282 := eq_true p282
        replace q282 := eq_true q282
        go_wp2
        go_roundg k1
        case measure => have := HK1.out; omega
        case rel => exact ⟨(x7_1), (wrap64 (x8_1 + 1)), (by first | rfl | (simp; done) | (simp [*]; done)), H', ⟨by have := HK1.out; omega⟩, ⟨HO_7.out⟩, ⟨BK278.out⟩, ⟨BK279.out⟩, ⟨HB.out⟩⟩
       ·rw [if_neg c14] at H
        have c14b0 : (((rd_T26 l0_0 x8_1).f1) == a2) = false := beq_eq_false_iff_ne.mpr c14
        have c14b1 : (((rd_T26 l0_0 x8_1).f1) != a2) = true := bne_iff_ne.mpr c14
        by_cases c17 : x7_1.length < 3518437208883
        ·rw [if_pos c17] at H
         have LMc17 := Aside0.mk c17
         clear c17
         obtain ⟨y284, hy284⟩ : ∃ y_ : List (S26), y_ = (x7_1 ++ [(⟨(rd_T26 l0_0 x8_1).f0, (rd_T26 l0_0 x8_1).f1, (rd_T26 l0_0 x8_1).f2, (rd_T26 l0_0 x8_1).f3, (rd_T26 l0_0 x8_1).f4⟩ : S26)]) := ⟨_, rfl⟩
         replace H : (slotmeshref27_Drop.l0 k1 a1 a2 y284 (wrap64 (x8_1 + 1)) l0_0) = some r := by first | (rw [hy284]; with_reducible exact H) | (have H2_ := (Option.bind_some _ _).symm.trans H; rw [hy284]; with_reducible exact H2_) | (have H2_ := (Option.bind_some _ _).symm.trans H; with_reducible exact H2_) | with_reducible exact H | (rw [hy284]; exact H) | exact H
         have Ny284 := Aside0.mk hy284
         clear hy284
         have H' := Aside0.mk H
         clear H
         have hnb18 := NB278_279.out
         have hnc18 := NB279_278.out
         have hcz19_0 : wr.cell? ⟨gb278, 0, none⟩ = some (.slice A0_0 l0_0.length c0_0) := (blk_cell BK278.out 0).trans rfl
         have hfz19_0 := blk_frozen BK278.out 0
         have p281 : 0 ≤ (x8_1 : Int) := of_decide_eq_true (by assumption)
         have q281 : x8_1 < (l0_0.length : Int) := of_decide_eq_true (by assumption)
         obtain ⟨ad281, e281, hx281_0, hx281_1, hx281_2, hx281_3, hx281_4⟩ := at_T26 HR0_0.out x8_1 p281 q281
         cases e281
         replace hx281_0 := (HB.out.cell (World.block_lt_of_cell? w _ hx281_0)).trans hx281_0
         replace hx281_1 := (HB.out.cell (World.block_lt_of_cell? w _ hx281_1)).trans hx281_1
         replace hx281_2 := (HB.out.cell (World.block_lt_of_cell? w _ hx281_2)).trans hx281_2
         replace hx281_3 := (HB.out.cell (World.block_lt_of_cell? w _ hx281_3)).trans hx281_3
         replace hx281_4 := (HB.out.cell (World.block_lt_of_cell? w _ hx281_4)).trans hx281_4
         replace p281 := eq_true p281
         replace q281 := eq_true q281
         have p282 : 0 ≤ (x8_1 : Int) := of_decide_eq_true (by assumption)
         have q282 : x8_1 < (l0_0.length : Int) := of_decide_eq_true (by assumption)
         obtain ⟨ad282, e282, hx282_0, hx282_1, hx282_2, hx282_3, hx282_4⟩ := at_T26 HR0_0.out x8_1 p282 q282
         obtain rfl : ad281 = ad282 := (by injection e282)
         replace hx282_0 := (HB.out.cell (World.block_lt_of_cell? w _ hx282_0)).trans hx282_0
         replace hx282_1 := (HB.out.cell (World.block_lt_of_cell? w _ hx282_1)).trans hx282_1
         replace hx282_2 := (HB.out.cell (World.block_lt_of_cell? w _ hx282_2)).trans hx282_2
         replace hx282_3 := (HB.out.cell (World.block_lt_of_cell? w _ hx282_3)).trans hx282_3
         replace hx282_4 := (HB.out.cell (World.block_lt_of_cell? w _ hx282_4)).trans hx282_4
         replace p282 := eq_true p282
         replace q282 := eq_true q282
         have p283 : 0 ≤ (x8_1 : Int) := of_decide_eq_true (by assumption)
         have q283 : x8_1 < (l0_0.length : Int) := of_decide_eq_true (by assumption)
         obtain ⟨ad283, e283, hx283_0, hx283_1, hx283_2, hx283_3, hx283_4⟩ := at_T26 HR0_0.out x8_1 p283 q283
         obtain rfl : ad281 = ad283 := (by injection e283)
         replace hx283_0 := (HB.out.cell (World.block_lt_of_cell? w _ hx283_0)).trans hx283_0
         replace hx283_1 := (HB.out.cell (World.block_lt_of_cell? w _ hx283_1)).trans hx283_1
         replace hx283_2 := (HB.out.cell (World.block_lt_of_cell? w _ hx283_2)).trans hx283_2
         replace hx283_3 := (HB.out.cell (World.block_lt_of_cell? w _ hx283_3)).trans hx283_3
         replace hx283_4 := (HB.out.cell (World.block_lt_of_cell? w _ hx283_4)).trans hx283_4
         replace p283 := eq_true p283
         replace q283 := eq_true q283
         go_wp2_with (first | ((with_reducible refine gate_builtin (b := .append) (xs := #[.tmp 38, .tmp 44]) rfl ?_); at_builtin; refine Kd.R_append k26 (w0 := w) w.heap.size rfl (.tmp 38) (.tmp 44) 22 26 (.agg #[(.int .i64 0), (.int .i64 0), (.int .i64 0), (.int .i64 0), (.int .i64 0)]) 40 rfl Try.underlying22 info26 rfl (by decide) (by omega) u7 x7_1 (⟨(rd_T26 l0_0 x8_1).f0, (rd_T26 l0_0 x8_1).f1, (rd_T26 l0_0 x8_1).f2, (rd_T26 l0_0 x8_1).f3, (rd_T26 l0_0 x8_1).f4⟩ : S26) [.int .i64 ((rd_T26 l0_0 x8_1).f0), .int .i64 ((rd_T26 l0_0 x8_1).f1), .int .i64 ((rd_T26 l0_0 x8_1).f2), .int .i64 ((rd_T26 l0_0 x8_1).f3), .int .i64 ((rd_T26 l0_0 x8_1).f4)] (fun _ => True) (fun _ => False) rfl rfl ?aP (fun _ hk => hk.elim) ?aF ?aO ?aB ?aS ?aL ?_; (case aP => exact k26_mkM _ _ _ (⟨(rd_T26 l0_0 x8_1).f0, (rd_T26 l0_0 x8_1).f1, (rd_T26 l0_0 x8_1).f2, (rd_T26 l0_0 x8_1).f3, (rd_T26 l0_0 x8_1).f4⟩ : S26)); (case aB => exact HB.out); (case aF => exact (fun _ _ => trivial)); (case aO => exact HO_7.out); (case aS => exact (below_size HB.out)); (case aL => have := LMc17.out; omega); intro v285 w20 ho hb hg hat; rw [← Ny284.out] at ho; have n0_ := Aside0.mk (blk_grown (g := gb278) (o := .cells #[.slice (some ad281) l0_0.length c0_0] 24 (0, 0)) BK278.out hg (Kd.R_ne HO_7.out BK278.out (by decide))); have n1_ := Aside0.mk (blk_grown (g := gb279) (o := .cells #[.slice none 0 0] 24 (0, 0)) BK279.out hg (Kd.R_ne HO_7.out BK279.out (by decide))); have n2_ := Aside0.mk (hb); have n3_ := Aside0.mk (ho); clear BK278; clear BK279; clear HB; clear HO_7; have BK278 := n0_; have BK279 := n1_; have HB := n2_; have HO286 := n3_; clear n0_ n1_ n2_ n3_; clear ho hb hg hat))
         go_roundg k1
         case measure => have := HK1.out; omega
         case rel => exact ⟨(y284), (wrap64 (x8_1 + 1)), (by first | rfl | (simp; done) | (simp [*]; done)), H', ⟨by have := HK1.out; omega⟩, ⟨HO286.out⟩, ⟨BK278.out⟩, ⟨BK279.out⟩, ⟨HB.out⟩⟩
        ·rw [if_neg c17] at H
         exact absurd H (by simp)
      ·rw [if_neg c13] at H
       have c13b0 : (((rd_T26 l0_0 x8_1).f0) == a1) = false := beq_eq_false_iff_ne.mpr c13
       have c13b1 : (((rd_T26 l0_0 x8_1).f0) != a1) = true := bne_iff_ne.mpr c13
       by_cases c21 : x7_1.length < 3518437208883
       ·rw [if_pos c21] at H
        have LMc21 := Aside0.mk c21
        clear c21
        obtain ⟨y288, hy288⟩ : ∃ y_ : List (S26), y_ = (x7_1 ++ [(⟨(rd_T26 l0_0 x8_1).f0, (rd_T26 l0_0 x8_1).f1, (rd_T26 l0_0 x8_1).f2, (rd_T26 l0_0 x8_1).f3, (rd_T26 l0_0 x8_1).f4⟩ : S26)]) := ⟨_, rfl⟩
        replace H : (slotmeshref27_Drop.l0 k1 a1 a2 y288 (wrap64 (x8_1 + 1)) l0_0) = some r := by first | (rw [hy288]; with_reducible exact H) | (have H2_ := (Option.bind_some _ _).symm.trans H; rw [hy288]; with_reducible exact H2_) | (have H2_ := (Option.bind_some _ _).symm.trans H; with_reducible exact H2_) | with_reducible exact H | (rw [hy288]; exact H) | exact H
        have Ny288 := Aside0.mk hy288
        clear hy288
        have H' := Aside0.mk H
        clear H
        have hnb22 := NB278_279.out
        have hnc22 := NB279_278.out
        have hcz23_0 : wr.cell? ⟨gb278, 0, none⟩ = some (.slice A0_0 l0_0.length c0_0) := (blk_cell BK278.out 0).trans rfl
        have hfz23_0 := blk_frozen BK278.out 0
        have p281 : 0 ≤ (x8_1 : Int) := of_decide_eq_true (by assumption)
        have q281 : x8_1 < (l0_0.length : Int) := of_decide_eq_true (by assumption)
        obtain ⟨ad281, e281, hx281_0, hx281_1, hx281_2, hx281_3, hx281_4⟩ := at_T26 HR0_0.out x8_1 p281 q281
        cases e281
        replace hx281_0 := (HB.out.cell (World.block_lt_of_cell? w _ hx281_0)).trans hx281_0
        replace hx281_1 := (HB.out.cell (World.block_lt_of_cell? w _ hx281_1)).trans hx281_1
        replace hx281_2 := (HB.out.cell (World.block_lt_of_cell? w _ hx281_2)).trans hx281_2
        replace hx281_3 := (HB.out.cell (World.block_lt_of_cell? w _ hx281_3)).trans hx281_3
        replace hx281_4 := (HB.out.cell (World.block_lt_of_cell? w _ hx281_4)).trans hx281_4
        replace p281 := eq_true p281
        replace q281 := eq_true q281
        have p287 : 0 ≤ (x8_1 : Int) := of_decide_eq_true (by assumption)
        have q287 : x8_1 < (l0_0.length : Int) := of_decide_eq_true (by assumption)
        obtain ⟨ad287, e287, hx287_0, hx287_1, hx287_2, hx287_3, hx287_4⟩ := at_T26 HR0_0.out x8_1 p287 q287
        obtain rfl : ad281 = ad287 := (by injection e287)
        replace hx287_0 := (HB.out.cell (World.block_lt_of_cell? w _ hx287_0)).trans hx287_0
        replace hx287_1 := (HB.out.cell (World.block_lt_of_cell? w _ hx287_1)).trans hx287_1
        replace hx287_2 := (HB.out.cell (World.block_lt_of_cell? w _ hx287_2)).trans hx287_2
        replace hx287_3 := (HB.out.cell (World.block_lt_of_cell? w _ hx287_3)).trans hx287_3
        replace hx287_4 := (HB.out.cell (World.block_lt_of_cell? w _ hx287_4)).trans hx287_4
        replace p287 := eq_true p287
        replace q287 := eq_true q287
        go_wp2_with (first | ((with_reducible refine gate_builtin (b := .append) (xs := #[.tmp 38, .tmp 44]) rfl ?_); at_builtin; refine Kd.R_append k26 (w0 := w) w.heap.size rfl (.tmp 38) (.tmp 44) 22 26 (.agg #[(.int .i64 0), (.int .i64 0), (.int .i64 0), (.int .i64 0), (.int .i64 0)]) 40 rfl Try.underlying22 info26 rfl (by decide) (by omega) u7 x7_1 (⟨(rd_T26 l0_0 x8_1).f0, (rd_T26 l0_0 x8_1).f1, (rd_T26 l0_0 x8_1).f2, (rd_T26 l0_0 x8_1).f3, (rd_T26 l0_0 x8_1).f4⟩ : S26) [.int .i64 ((rd_T26 l0_0 x8_1).f0), .int .i64 ((rd_T26 l0_0 x8_1).f1), .int .i64 ((rd_T26 l0_0 x8_1).f2), .int .i64 ((rd_T26 l0_0 x8_1).f3), .int .i64 ((rd_T26 l0_0 x8_1).f4)] (fun _ => True) (fun _ => False) rfl rfl ?aP (fun _ hk => hk.elim) ?aF ?aO ?aB ?aS ?aL ?_; (case aP => exact k26_mkM _ _ _ (⟨(rd_T26 l0_0 x8_1).f0, (rd_T26 l0_0 x8_1).f1, (rd_T26 l0_0 x8_1).f2, (rd_T26 l0_0 x8_1).f3, (rd_T26 l0_0 x8_1).f4⟩ : S26)); (case aB => exact HB.out); (case aF => exact (fun _ _ => trivial)); (case aO => exact HO_7.out); (case aS => exact (below_size HB.out)); (case aL => have := LMc21.out; omega); intro v289 w24 ho hb hg hat; rw [← Ny288.out] at ho; have n0_ := Aside0.mk (blk_grown (g := gb278) (o := .cells #[.slice (some ad281) l0_0.length c0_0] 24 (0, 0)) BK278.out hg (Kd.R_ne HO_7.out BK278.out (by decide))); have n1_ := Aside0.mk (blk_grown (g := gb279) (o := .cells #[.slice none 0 0] 24 (0, 0)) BK279.out hg (Kd.R_ne HO_7.out BK279.out (by decide))); have n2_ := Aside0.mk (hb); have n3_ := Aside0.mk (ho); clear BK278; clear BK279; clear HB; clear HO_7; have BK278 := n0_; have BK279 := n1_; have HB := n2_; have HO290 := n3_; clear n0_ n1_ n2_ n3_; clear ho hb hg hat))
        go_roundg k1
        case measure => have := HK1.out; omega
        case rel => exact ⟨(y288), (wrap64 (x8_1 + 1)), (by first | rfl | (simp; done) | (simp [*]; done)), H', ⟨by have := HK1.out; omega⟩, ⟨HO290.out⟩, ⟨BK278.out⟩, ⟨BK279.out⟩, ⟨HB.out⟩⟩
       ·rw [if_neg c21] at H
        exact absurd H (by simp)
     ·rw [if_neg c12] at H
      exact absurd H (by simp)
    ·rw [if_neg c11] at H
     have c11b0 : decide (x8_1 < (l0_0.length : Int)) = false := decide_eq_false c11
     clear c11
     obtain rfl := Option.some.inj H
     have hnb25 := NB278_279.out
     have hnc25 := NB279_278.out
     have hcz26_0 : wr.cell? ⟨gb278, 0, none⟩ = some (.slice A0_0 l0_0.length c0_0) := (blk_cell BK278.out 0).trans rfl
     have hfz26_0 := blk_frozen BK278.out 0
     obtain ⟨Ao27, co27, eo27⟩ := Kd.R_slice HO_7.out
     subst eo27
     have hcz28_0 : wr.cell? ⟨gb279, 0, none⟩ = some (.slice none 0 0) := (blk_cell BK279.out 0).trans rfl
     have hfz28_0 := blk_frozen BK279.out 0
     go_wp2
     refine bodyPost_ret (results_cell_row rfl _ _ gb279 24 #[.slice Ao27 x7_1.length co27] (0, 0) _ rfl (by (with_reducible repeat (first | refine blk_drewN ?_ _ | refine blk_drew ?_ | refine blk_alloc ?_ _)); refine blk_put (cs := #[.slice none 0 0]) ?_ 0 _ rfl; (with_reducible repeat (first | refine blk_drewN ?_ _ | refine blk_drew ?_ | refine blk_alloc ?_ _)); exact BK279.out) Try.underlying24 rfl (by kernel_rfl)) rfl ?_
     exact ⟨_, by first | rfl | (simp [errW_none, errW_some] <;> rfl) | (simp [*, errW_none, errW_some] <;> rfl), by (with_reducible repeat (first | apply Kd.R_alloc | apply Kd.R_drewN | apply Kd.R_drew)); exact Kd.R_mono (Kd.R_far (p := ⟨gb279, 0, none⟩) (Kd.R_types HO_7.out BK279.out (by decide)) (fun _ hk => hk.2) (.slice Ao27 x7_1.length co27)) (fun _ hk => trivial), by repeat (first | (with_reducible first | exact HB.out | apply below_alloc | apply pw_below_drewN | apply below_drew1 | refine below_set ?_ GE278.out | refine below_set ?_ GE279.out) | exact HB.out)⟩
 ·replace c5 := Bool.eq_false_iff.mpr c5
  subst c5
  have H1 : (some ([] : List (S26))) = some r := by rw [if_neg (show ¬ (false = true) by decide)] at H; exact H
  clear H
  have H := H1
  clear H1
  obtain rfl := Option.some.inj H
  go_enter Try.func17, Try.ntmps17
  go_wp2_with (first | ((with_reducible refine gate_dst (N := 3) rfl ?_); refine box_event ?hg (N := 3) ?hd (cs := #[.slice A0_0 l0_0.length c0_0]) (t := 24) ?hr ?_; (case hd => rfl); (case hg => rfl); (case hr => first | (go_simp; done) | (go_simp; rfl)); intro gb278 hg w29 hbox hb; have n0_ := Aside0.mk (below_step HB.out hb); have n1_ := Aside0.mk (hbox); have n2_ := Aside0.mk ((by rw [hg]; exact (below_size HB.out) : w.heap.size ≤ gb278)); have n3_ := Aside0.mk ((by rw [hg]; exact (below_size HB.out) : w.heap.size ≤ gb278)); clear HB; have HB := n0_; have BK278 := n1_; have GW278 := n2_; have GE278 := n3_; clear n0_ n1_ n2_ n3_; clear hb hbox hg) | ((with_reducible refine gate_dst (N := 6) rfl ?_); refine box_event ?hg (N := 6) ?hd (cs := #[.slice none 0 0]) (t := 24) ?hr ?_; (case hd => rfl); (case hg => rfl); (case hr => first | (go_simp; done) | (go_simp; rfl)); intro gb279 hg w30 hbox hb; have n0_ := Aside0.mk (blk_below (g := gb278) (o := .cells #[.slice A0_0 l0_0.length c0_0] 24 (0, 0)) BK278.out hb); have n1_ := Aside0.mk (below_step HB.out hb); have n2_ := Aside0.mk (hbox); have n3_ := Aside0.mk ((by rw [hg]; exact (below_size HB.out) : w.heap.size ≤ gb279)); have n4_ := Aside0.mk ((by rw [hg]; exact (below_size HB.out) : w.heap.size ≤ gb279)); have n5_ := Aside0.mk ((by rw [hg]; exact Nat.ne_of_lt (blk_lt (g := gb278) (o := .cells #[.slice A0_0 l0_0.length c0_0] 24 (0, 0)) BK278.out) : gb278 ≠ gb279)); have n6_ := Aside0.mk ((by rw [hg]; exact Nat.ne_of_gt (blk_lt (g := gb278) (o := .cells #[.slice A0_0 l0_0.length c0_0] 24 (0, 0)) BK278.out) : gb279 ≠ gb278)); clear BK278; clear HB; have BK278 := n0_; have HB := n1_; have BK279 := n2_; have GW279 := n3_; have GE279 := n4_; have NB278_279 := n5_; have NB279_278 := n6_; clear n0_ n1_ n2_ n3_ n4_ n5_ n6_; clear hb hbox hg; have hnb31 := NB278_279.out; have hnc31 := NB279_278.out; have hcz32_0 : w30.cell? ⟨gb278, 0, none⟩ = some (.slice A0_0 l0_0.length c0_0) := (blk_cell BK278.out 0).trans rfl; have hfz32_0 := blk_frozen BK278.out 0) | ((with_reducible refine gate_callee (f := 20) rfl ?_); refine goesL_ (some 10) rfl rfl Try.func20 (by kernel_rfl) rfl #[.agg #[.slice A0_0 l0_0.length c0_0]] rfl (by (try simp only [List.map_toArray, List.map_cons, List.map_nil]); first | done | rfl | (simp only [List.length_drop, List.length_take]; rfl)) ?_; (with_reducible refine (slotmeshref27_Valid.calls k _ _ l0_0 false _ ?side1 ?side2 A4.out).mono ?_); (case side1 => repeat (first | exact (Kd.C_below HR0_0.out HB.out) | (with_reducible refine Kd.C_alloc ?_ _) | (with_reducible refine Kd.C_drewN ?_ _) | (with_reducible refine Kd.C_drew ?_))); (case side2 => exact HC0_0.out); rintro e w33 ⟨rfl, hb⟩; refine ⟨_, rfl, ?_⟩; have n0_ := Aside0.mk (blk_below (g := gb278) (o := .cells #[.slice A0_0 l0_0.length c0_0] 24 (0, 0)) BK278.out hb); have n1_ := Aside0.mk (blk_below (g := gb279) (o := .cells #[.slice none 0 0] 24 (0, 0)) BK279.out hb); have n2_ := Aside0.mk (below_step HB.out hb); clear BK278; clear BK279; clear HB; have BK278 := n0_; have BK279 := n1_; have HB := n2_; clear n0_ n1_ n2_; (try clear hb); (try clear hb2); (try clear hk); (try clear hi); have hcz34_0 : w33.cell? ⟨gb279, 0, none⟩ = some (.slice none 0 0) := (blk_cell BK279.out 0).trans rfl; have hfz34_0 := blk_frozen BK279.out 0))
  refine bodyPost_ret (results_cell_row rfl _ _ gb279 24 #[.slice none 0 0] (0, 0) _ rfl (by (with_reducible repeat (first | refine blk_drewN ?_ _ | refine blk_drew ?_ | refine blk_alloc ?_ _)); refine blk_put (cs := #[.slice none 0 0]) ?_ 0 _ rfl; (with_reducible repeat (first | refine blk_drewN ?_ _ | refine blk_drew ?_ | refine blk_alloc ?_ _)); exact BK279.out) Try.underlying24 rfl (by kernel_rfl)) rfl ?_
  exact ⟨_, by first | rfl | (simp [errW_none, errW_some] <;> rfl) | (simp [*, errW_none, errW_some] <;> rfl), by first | exact Kd.R_nil _ _ _ _ _ | exact Kd.N_nil _ _ _ _ _ | exact Kd.V_nil _ _ _ _ _ | exact Kd.Q_nil _ _ _ _ _ | exact Kd.S_nil _ _ _ _ _, by repeat (first | (with_reducible first | exact HB.out | apply below_alloc | apply pw_below_drewN | apply below_drew1 | refine below_set ?_ GE278.out | refine below_set ?_ GE279.out) | exact HB.out)⟩

/-! ### slotmeshref27_Full: function 19 -/
def slotmeshref27_Full.f (k : Nat) (l0_0 : List (S26)) : Option (Bool) := (slotmeshref27_Valid.f k l0_0).bind fun t292 => (if t292 = true then (some (decide ((l0_0.length : Int) ≥ 14))) else (some false))
theorem slotmeshref27_Full.mono : ∀ a0 k, LeO (slotmeshref27_Full.f k a0) (slotmeshref27_Full.f (k + 1) a0) := by
 intro a0 k
 unfold slotmeshref27_Full.f
 repeat' first
   | (with_reducible exact slotmeshref27_Valid.mono _ _)
   | (with_reducible exact LeO.refl _)
   | (with_reducible exact LeO.none _)
   | (with_reducible refine LeO.ite ?_ ?_)
   | (with_reducible refine LeO.bind ?_ (fun _ => ?_))
   | exact slotmeshref27_Valid.mono _ _
   | exact LeO.none _
   | refine LeO.ite ?_ ?_
   | refine LeO.bind ?_ (fun _ => ?_)
set_option maxHeartbeats 8000000 in
set_option maxRecDepth 100000 in
theorem slotmeshref27_Full.calls (k : Nat) (A0_0 : Option Addr) (c0_0 : Nat) (l0_0 : List (S26)) (r : Bool) (w : World) (hr0_0 : Kd.C k26 w A0_0 l0_0.length l0_0) (hc0_0 : l0_0.length ≤ c0_0) (h : slotmeshref27_Full.f k l0_0 = some r) :
  Calls Try.prog 19 #[.agg #[.slice A0_0 l0_0.length c0_0]] w fun e w' => e = .returned (.bool r) ∧ Below w.heap.size w w' := by
 have hu24 := Try.underlying24
 have HR0_0 := Aside0.mk hr0_0
 have HC0_0 := Aside0.mk hc0_0
 clear hr0_0 hc0_0
 have HB := Aside0.mk (Below.refl w.heap.size w)
 have H : ((slotmeshref27_Valid.f k l0_0).bind fun t292 => (if t292 = true then (some (decide ((l0_0.length : Int) ≥ 14))) else (some false))) = some r := h
 clear h
 replace H := Option.bind_eq_some_iff.mp H
 obtain ⟨t292, A20, H⟩ := H
 replace H : (if t292 = true then (some (decide ((l0_0.length : Int) ≥ 14))) else (some false)) = some r := H
 have A2 := Aside0.mk A20
 clear A20
 by_cases c3 : t292 = true
 ·subst c3
  have H1 : (some (decide ((l0_0.length : Int) ≥ 14))) = some r := by rw [if_pos rfl] at H; exact H
  clear H
  have H := H1
  clear H1
  obtain rfl := Option.some.inj H
  go_enter Try.func19, Try.ntmps19
  go_wp2_with (first | ((with_reducible refine gate_dst (N := 1) rfl ?_); (try (refine gate_guard (by rfl) ?_; dsimp only)); refine box_event ?hg (N := 1) ?hd (cs := #[.slice A0_0 l0_0.length c0_0]) (t := 24) ?hr ?_; (case hd => rfl); (case hg => rfl); (case hr => first | (go_simp; done) | (go_simp; rfl)); intro gb291 hg w4 hbox hb; have n0_ := Aside0.mk (below_step HB.out hb); have n1_ := Aside0.mk (hbox); have n2_ := Aside0.mk ((by rw [hg]; exact (below_size HB.out) : w.heap.size ≤ gb291)); have n3_ := Aside0.mk ((by rw [hg]; exact (below_size HB.out) : w.heap.size ≤ gb291)); clear HB; have HB := n0_; have BK291 := n1_; have GW291 := n2_; have GE291 := n3_; clear n0_ n1_ n2_ n3_; clear hb hbox hg; have hcz5_0 : w4.cell? ⟨gb291, 0, none⟩ = some (.slice A0_0 l0_0.length c0_0) := (blk_cell BK291.out 0).trans rfl; have hfz5_0 := blk_frozen BK291.out 0) | ((with_reducible refine gate_callee (f := 20) rfl ?_); refine goesL_ (some 4) rfl rfl Try.func20 (by kernel_rfl) rfl #[.agg #[.slice A0_0 l0_0.length c0_0]] rfl (by (try simp only [List.map_toArray, List.map_cons, List.map_nil]); first | done | rfl | (simp only [List.length_drop, List.length_take]; rfl)) ?_; (with_reducible refine (slotmeshref27_Valid.calls k _ _ l0_0 true _ ?side1 ?side2 A2.out).mono ?_); (case side1 => repeat (first | exact (Kd.C_below HR0_0.out HB.out) | (with_reducible refine Kd.C_alloc ?_ _) | (with_reducible refine Kd.C_drewN ?_ _) | (with_reducible refine Kd.C_drew ?_))); (case side2 => exact HC0_0.out); rintro e w6 ⟨rfl, hb⟩; refine ⟨_, rfl, ?_⟩; have n0_ := Aside0.mk (blk_below (g := gb291) (o := .cells #[.slice A0_0 l0_0.length c0_0] 24 (0, 0)) BK291.out hb); have n1_ := Aside0.mk (below_step HB.out hb); clear BK291; clear HB; have BK291 := n0_; have HB := n1_; clear n0_ n1_; (try clear hb); (try clear hb2); (try clear hk); (try clear hi); have hcz7_0 : w6.cell? ⟨gb291, 0, none⟩ = some (.slice A0_0 l0_0.length c0_0) := (blk_cell BK291.out 0).trans rfl; have hfz7_0 := blk_frozen BK291.out 0))
  go_ret
  exact ⟨by first | rfl | (simp [errW_none, errW_some] <;> rfl) | (simp [*, errW_none, errW_some] <;> rfl), HB.out⟩
 ·replace c3 := Bool.eq_false_iff.mpr c3
  subst c3
  have H1 : (some false) = some r := by rw [if_neg (show ¬ (false = true) by decide)] at H; exact H
  clear H
  have H := H1
  clear H1
  obtain rfl := Option.some.inj H
  go_enter Try.func19, Try.ntmps19
  go_wp2_with (first | ((with_reducible refine gate_dst (N := 1) rfl ?_); (try (refine gate_guard (by rfl) ?_; dsimp only)); refine box_event ?hg (N := 1) ?hd (cs := #[.slice A0_0 l0_0.length c0_0]) (t := 24) ?hr ?_; (case hd => rfl); (case hg => rfl); (case hr => first | (go_simp; done) | (go_simp; rfl)); intro gb291 hg w8 hbox hb; have n0_ := Aside0.mk (below_step HB.out hb); have n1_ := Aside0.mk (hbox); have n2_ := Aside0.mk ((by rw [hg]; exact (below_size HB.out) : w.heap.size ≤ gb291)); have n3_ := Aside0.mk ((by rw [hg]; exact (below_size HB.out) : w.heap.size ≤ gb291)); clear HB; have HB := n0_; have BK291 := n1_; have GW291 := n2_; have GE291 := n3_; clear n0_ n1_ n2_ n3_; clear hb hbox hg; have hcz9_0 : w8.cell? ⟨gb291, 0, none⟩ = some (.slice A0_0 l0_0.length c0_0) := (blk_cell BK291.out 0).trans rfl; have hfz9_0 := blk_frozen BK291.out 0) | ((with_reducible refine gate_callee (f := 20) rfl ?_); refine goesL_ (some 4) rfl rfl Try.func20 (by kernel_rfl) rfl #[.agg #[.slice A0_0 l0_0.length c0_0]] rfl (by (try simp only [List.map_toArray, List.map_cons, List.map_nil]); first | done | rfl | (simp only [List.length_drop, List.length_take]; rfl)) ?_; (with_reducible refine (slotmeshref27_Valid.calls k _ _ l0_0 false _ ?side1 ?side2 A2.out).mono ?_); (case side1 => repeat (first | exact (Kd.C_below HR0_0.out HB.out) | (with_reducible refine Kd.C_alloc ?_ _) | (with_reducible refine Kd.C_drewN ?_ _) | (with_reducible refine Kd.C_drew ?_))); (case side2 => exact HC0_0.out); rintro e w10 ⟨rfl, hb⟩; refine ⟨_, rfl, ?_⟩; have n0_ := Aside0.mk (blk_below (g := gb291) (o := .cells #[.slice A0_0 l0_0.length c0_0] 24 (0, 0)) BK291.out hb); have n1_ := Aside0.mk (below_step HB.out hb); clear BK291; clear HB; have BK291 := n0_; have HB := n1_; clear n0_ n1_; (try clear hb); (try clear hb2); (try clear hk); (try clear hi)))
  go_ret
  exact ⟨by first | rfl | (simp [errW_none, errW_some] <;> rfl) | (simp [*, errW_none, errW_some] <;> rfl), HB.out⟩

end Go.Proofs.Ytcjnjgafhfkegaa.Px
