/- Walks of functions of this seat, written by a program of this workplace out of the translation. -/
import Derived.Test.YtcjnjgafhfkegaaPx0
import Derived.Test.YtcjnjgafhfkegaaPx2
namespace Go.Proofs.Ytcjnjgafhfkegaa.Px
open Go.RowKit Go.Proofs.YtcjnjgafhfkegaaW.PrintWords Go.Proofs.YtcjnjgafhfkegaaW.PrintLast Go.Proofs.YtcjnjgafhfkegaaW.PrintMore
attribute [local go_sem] max2_int min2_int max_two min_two max_three min_three max_four min_four   -- for this text's walks alone
set_option linter.unusedVariables false
set_option linter.unusedSimpArgs false

/-! ### queue_valid: function 24 -/
def queue_valid.l0 : Nat → List (S26) → Int → Int → List (S26) → Option (Bool)
 | 0, _, _, _, _ => none
 | k + 1, x6, x7, x8, x105000 => if x8 < x7 then (if 0 ≤ x8 then (if x8 < (x6.length : Int) then ((queue_formed.f ((rd_T26 x6 x8).f0) ((rd_T26 x6 x8).f1) ((rd_T26 x6 x8).f2) ((rd_T26 x6 x8).f3) ((rd_T26 x6 x8).f4)).bind fun t107 => (if t107 = true then ((queue_name.f ((rd_T26 x6 x8).f0) ((rd_T26 x6 x8).f1) ((rd_T26 x6 x8).f2) ((rd_T26 x6 x8).f3) ((rd_T26 x6 x8).f4)).bind fun bt108 => ((queue_find.f x105000 bt108.1 bt108.2).bind fun t110 => (if t110 = x8 then (queue_valid.l0 k x6 x7 (wrap64 (x8 + 1)) x105000) else (some false)))) else (some false))) else (none)) else (none)) else (some (decide ((x105000.length : Int) ≤ 16)))
def queue_valid.f (k : Nat) (l0_0 : List (S26)) : Option (Bool) := queue_valid.l0 k l0_0 (l0_0.length : Int) 0 l0_0
theorem queue_valid.mono_l : ∀ k, (∀ y0 y1 y2 y3, LeO (queue_valid.l0 k y0 y1 y2 y3) (queue_valid.l0 (k + 1) y0 y1 y2 y3))
 | 0 => fun _ _ _ _ r h => by simp [queue_valid.l0] at h
 | k + 1 => by
  have ih0 := queue_valid.mono_l k
  ·intro y0 y1 y2 y3
   unfold queue_valid.l0
   repeat' first
   | (with_reducible exact ih0 _ _ _ _)
   | (with_reducible exact LeO.refl _)
   | (with_reducible exact LeO.none _)
   | (with_reducible refine LeO.ite ?_ ?_)
   | (with_reducible refine LeO.bind ?_ (fun _ => ?_))
   | exact ih0 _ _ _ _
   | exact LeO.none _
   | refine LeO.ite ?_ ?_
   | refine LeO.bind ?_ (fun _ => ?_)
theorem queue_valid.mono : ∀ a0 k, LeO (queue_valid.f k a0) (queue_valid.f (k + 1) a0) := by
 intro a0 k
 have ih0 := queue_valid.mono_l k
 unfold queue_valid.f
 repeat' first
   | (with_reducible exact ih0 _ _ _ _)
   | (with_reducible exact LeO.refl _)
   | (with_reducible exact LeO.none _)
   | (with_reducible refine LeO.ite ?_ ?_)
   | (with_reducible refine LeO.bind ?_ (fun _ => ?_))
   | exact ih0 _ _ _ _
   | exact LeO.none _
   | refine LeO.ite ?_ ?_
   | refine LeO.bind ?_ (fun _ => ?_)
def queue_valid.T4 : Bool × List (List Nat × List Nat) := (true, [([], []), ([0], [0]), ([1], [1]), ([2, 1], [2]), ([3], [3]), ([4, 3], [3, 4]), ([3], [3]), ([6, 3, 3], [3, 6]), ([5, 7, 7, 3], [3, 5, 7]), ([3], [3]), ([8, 9, 3], [3, 8, 9]), ([3, 10], [3, 10])])
def queue_valid.B4 : List Nat := [0, 1, 3, 7, 15, 31, 15, 79, 255, 15, 1023, 2047]
theorem queue_valid.tab4 : rtab .any (opsOf Try.f24 4) = queue_valid.T4 := by kernel_rfl
theorem queue_valid.bits4 : waitsOk queue_valid.T4.2 queue_valid.B4 = true := by kernel_rfl
set_option maxHeartbeats 8000000 in
set_option maxRecDepth 100000 in
theorem queue_valid.calls (k : Nat) (A0_0 : Option Addr) (c0_0 : Nat) (l0_0 : List (S26)) (r : Bool) (w : World) (hr0_0 : Kd.C k26 w A0_0 l0_0.length l0_0) (hc0_0 : l0_0.length ≤ c0_0) (h : queue_valid.f k l0_0 = some r) :
  Calls Try.prog 24 #[.agg #[.slice A0_0 l0_0.length c0_0]] w fun e w' => e = .returned (.bool r) ∧ Below w.heap.size w w' := by
 have hu24 := Try.underlying24
 have hu26 := Try.underlying26
 have HR0_0 := Aside0.mk hr0_0
 have HC0_0 := Aside0.mk hc0_0
 clear hr0_0 hc0_0
 have HB := Aside0.mk (Below.refl w.heap.size w)
 have H : (queue_valid.l0 k l0_0 (l0_0.length : Int) 0 l0_0) = some r := h
 clear h
 have H' := Aside0.mk H
 clear H
 go_enter Try.func24, Try.ntmps24
 go_wp2_with (first | ((with_reducible refine gate_dst (N := 1) rfl ?_); refine box_event ?hg (N := 1) ?hd (cs := #[.slice A0_0 l0_0.length c0_0]) (t := 24) ?hr ?_; (case hd => rfl); (case hg => rfl); (case hr => first | (go_simp; done) | (go_simp; rfl)); intro gb104 hg w2 hbox hb; have n0_ := Aside0.mk (below_step HB.out hb); have n1_ := Aside0.mk (hbox); have n2_ := Aside0.mk ((by rw [hg]; exact (below_size HB.out) : w.heap.size ≤ gb104)); have n3_ := Aside0.mk ((by rw [hg]; exact (below_size HB.out) : w.heap.size ≤ gb104)); clear HB; have HB := n0_; have BK104 := n1_; have GW104 := n2_; have GE104 := n3_; clear n0_ n1_ n2_ n3_; clear hb hbox hg; have hcz3_0 : w2.cell? ⟨gb104, 0, none⟩ = some (.slice A0_0 l0_0.length c0_0) := (blk_cell BK104.out 0).trans rfl; have hfz3_0 := blk_frozen BK104.out 0))
 go_loopg [8] k (fun kq v8 w' => ∃ (x8_1 : Int), v8 = .int .i64 x8_1 ∧ Aside0 (queue_valid.l0 kq l0_0 (l0_0.length : Int) x8_1 l0_0 = some r) ∧ Aside0 (kq ≤ k) ∧ Aside0 (w'.heap[gb104]? = some (.cells #[(.slice A0_0 l0_0.length c0_0)] 24 (0, 0))) ∧ Aside0 (Below w.heap.size w w'))
 case atStart => exact ⟨(0), (by first | rfl | (simp; done) | (simp [*]; done)), H', ⟨Nat.le_refl _⟩, ⟨BK104.out⟩, ⟨HB.out⟩⟩
 case round =>
  clear H'
  try clear c2
  try clear p2
  try clear hcz3_0
  try clear hfz3_0
  obtain ⟨x8_1, rfl, HA, HK1, BK104, HB⟩ := hrel
  cases gk with
  | zero => exact absurd HA.out (by simp [queue_valid.l0])
  | succ k1 =>
   have H := HA.out
   clear HA
   simp only [queue_valid.l0] at H
   by_cases c4 : x8_1 < (l0_0.length : Int)
   ·rw [if_pos c4] at H
    have c4b0 : decide (x8_1 < (l0_0.length : Int)) = true := decide_eq_true c4
    clear c4
    by_cases c5 : 0 ≤ x8_1
    ·rw [if_pos c5] at H
     have c5b0 : decide (0 ≤ x8_1) = true := decide_eq_true c5
     clear c5
     by_cases c6 : x8_1 < (l0_0.length : Int)
     ·rw [if_pos c6] at H
      have c6b0 : decide (x8_1 < (l0_0.length : Int)) = true := decide_eq_true c6
      clear c6
      replace H := Option.bind_eq_some_iff.mp H
      obtain ⟨t107, A70, H⟩ := H
      replace H : (if t107 = true then ((queue_name.f ((rd_T26 l0_0 x8_1).f0) ((rd_T26 l0_0 x8_1).f1) ((rd_T26 l0_0 x8_1).f2) ((rd_T26 l0_0 x8_1).f3) ((rd_T26 l0_0 x8_1).f4)).bind fun bt108 => ((queue_find.f l0_0 bt108.1 bt108.2).bind fun t110 => (if t110 = x8_1 then (queue_valid.l0 k1 l0_0 (l0_0.length : Int) (wrap64 (x8_1 + 1)) l0_0) else (some false)))) else (some false)) = some r := H
      have A7 := Aside0.mk A70
      clear A70
      by_cases c8 : t107 = true
      ·subst c8
       have H1 : ((queue_name.f ((rd_T26 l0_0 x8_1).f0) ((rd_T26 l0_0 x8_1).f1) ((rd_T26 l0_0 x8_1).f2) ((rd_T26 l0_0 x8_1).f3) ((rd_T26 l0_0 x8_1).f4)).bind fun bt108 => ((queue_find.f l0_0 bt108.1 bt108.2).bind fun t110 => (if t110 = x8_1 then (queue_valid.l0 k1 l0_0 (l0_0.length : Int) (wrap64 (x8_1 + 1)) l0_0) else (some false)))) = some r := by rw [if_pos rfl] at H; exact H
       clear H
       have H := H1
       clear H1
       replace H := Option.bind_eq_some_iff.mp H
       obtain ⟨⟨t108, t109⟩, A90, H⟩ := H
       replace H : ((queue_find.f l0_0 t108 t109).bind fun t110 => (if t110 = x8_1 then (queue_valid.l0 k1 l0_0 (l0_0.length : Int) (wrap64 (x8_1 + 1)) l0_0) else (some false))) = some r := H
       have A9 := Aside0.mk A90
       clear A90
       replace H := Option.bind_eq_some_iff.mp H
       obtain ⟨t110, A100, H⟩ := H
       replace H : (if t110 = x8_1 then (queue_valid.l0 k1 l0_0 (l0_0.length : Int) (wrap64 (x8_1 + 1)) l0_0) else (some false)) = some r := H
       have A10 := Aside0.mk A100
       clear A100
       by_cases c11 : t110 = x8_1
       ·rw [if_pos c11] at H
        have c11b0 : (t110 == x8_1) = true := beq_iff_eq.mpr c11
        have c11b1 : (t110 != x8_1) = false := bne_eq_false_iff_eq.mpr c11
        clear c11
        have H' := Aside0.mk H
        clear H
        have p105 : 0 ≤ (x8_1 : Int) := of_decide_eq_true (by assumption)
        have q105 : x8_1 < (l0_0.length : Int) := of_decide_eq_true (by assumption)
        obtain ⟨ad105, e105, hx105_0, hx105_1, hx105_2, hx105_3, hx105_4⟩ := at_T26 HR0_0.out x8_1 p105 q105
        cases e105
        replace hx105_0 := (HB.out.cell (World.block_lt_of_cell? w _ hx105_0)).trans hx105_0
        replace hx105_1 := (HB.out.cell (World.block_lt_of_cell? w _ hx105_1)).trans hx105_1
        replace hx105_2 := (HB.out.cell (World.block_lt_of_cell? w _ hx105_2)).trans hx105_2
        replace hx105_3 := (HB.out.cell (World.block_lt_of_cell? w _ hx105_3)).trans hx105_3
        replace hx105_4 := (HB.out.cell (World.block_lt_of_cell? w _ hx105_4)).trans hx105_4
        replace p105 := eq_true p105
        replace q105 := eq_true q105
        try go_wp2_with (first | ((with_reducible refine gate_dst (N := 4) rfl ?_); refine box_event ?hg (N := 4) ?hd (cs := #[.int .i64 0, .int .i64 0, .int .i64 0, .int .i64 0, .int .i64 0]) (t := 26) ?hr ?_; (case hd => rfl); (case hg => rfl); (case hr => first | (go_simp; done) | (go_simp; rfl)); intro gb106 hg w12 hbox hb; have n0_ := Aside0.mk (blk_below (g := gb104) (o := .cells #[.slice (some ad105) l0_0.length c0_0] 24 (0, 0)) BK104.out hb); have n1_ := Aside0.mk (below_step HB.out hb); have n2_ := Aside0.mk (hbox); have n3_ := Aside0.mk ((by rw [hg]; exact (below_size HB.out) : w.heap.size ≤ gb106)); have n4_ := Aside0.mk ((by rw [hg]; exact (below_size HB.out) : w.heap.size ≤ gb106)); have n5_ := Aside0.mk ((by rw [hg]; exact Nat.ne_of_lt (blk_lt (g := gb104) (o := .cells #[.slice (some ad105) l0_0.length c0_0] 24 (0, 0)) BK104.out) : gb104 ≠ gb106)); have n6_ := Aside0.mk ((by rw [hg]; exact Nat.ne_of_gt (blk_lt (g := gb104) (o := .cells #[.slice (some ad105) l0_0.length c0_0] 24 (0, 0)) BK104.out) : gb106 ≠ gb104)); clear BK104; clear HB; have BK104 := n0_; have HB := n1_; have BK106 := n2_; have GW106 := n3_; have GE106 := n4_; have NB104_106 := n5_; have NB106_104 := n6_; clear n0_ n1_ n2_ n3_ n4_ n5_ n6_; clear hb hbox hg; have hnb13 := NB106_104.out; have hnc13 := NB104_106.out; have hcz14_0 : w12.cell? ⟨gb106, 0, none⟩ = some (.int .i64 0) := (blk_cell BK106.out 0).trans rfl; have hcz14_1 : w12.cell? ⟨gb106, 1, none⟩ = some (.int .i64 0) := (blk_cell BK106.out 1).trans rfl; have hcz14_2 : w12.cell? ⟨gb106, 2, none⟩ = some (.int .i64 0) := (blk_cell BK106.out 2).trans rfl; have hcz14_3 : w12.cell? ⟨gb106, 3, none⟩ = some (.int .i64 0) := (blk_cell BK106.out 3).trans rfl; have hcz14_4 : w12.cell? ⟨gb106, 4, none⟩ = some (.int .i64 0) := (blk_cell BK106.out 4).trans rfl; have hfz14_0 := blk_frozen BK106.out 0; have hfz14_1 := blk_frozen BK106.out 1; have hfz14_2 := blk_frozen BK106.out 2; have hfz14_3 := blk_frozen BK106.out 3; have hfz14_4 := blk_frozen BK106.out 4))
        have n0_ : Aside0 ((((((w12.setCell ⟨gb106, 0, none⟩ (.int .i64 ((rd_T26 l0_0 x8_1).f0))).setCell ⟨gb106, 1, none⟩ (.int .i64 ((rd_T26 l0_0 x8_1).f1))).setCell ⟨gb106, 2, none⟩ (.int .i64 ((rd_T26 l0_0 x8_1).f2))).setCell ⟨gb106, 3, none⟩ (.int .i64 ((rd_T26 l0_0 x8_1).f3))).setCell ⟨gb106, 4, none⟩ (.int .i64 ((rd_T26 l0_0 x8_1).f4))).heap[gb104]? = some (.cells #[.slice (some ad105) l0_0.length c0_0] 24 (0, 0))) := ⟨by (with_reducible repeat (first | refine blk_drewN ?_ _ | refine blk_drew ?_ | refine blk_alloc ?_ _)); refine blk_far ?_ NB104_106.out _; (with_reducible repeat (first | refine blk_drewN ?_ _ | refine blk_drew ?_ | refine blk_alloc ?_ _)); refine blk_far ?_ NB104_106.out _; (with_reducible repeat (first | refine blk_drewN ?_ _ | refine blk_drew ?_ | refine blk_alloc ?_ _)); refine blk_far ?_ NB104_106.out _; (with_reducible repeat (first | refine blk_drewN ?_ _ | refine blk_drew ?_ | refine blk_alloc ?_ _)); refine blk_far ?_ NB104_106.out _; (with_reducible repeat (first | refine blk_drewN ?_ _ | refine blk_drew ?_ | refine blk_alloc ?_ _)); refine blk_far ?_ NB104_106.out _; (with_reducible repeat (first | refine blk_drewN ?_ _ | refine blk_drew ?_ | refine blk_alloc ?_ _)); exact BK104.out⟩
        have n1_ : Aside0 ((((((w12.setCell ⟨gb106, 0, none⟩ (.int .i64 ((rd_T26 l0_0 x8_1).f0))).setCell ⟨gb106, 1, none⟩ (.int .i64 ((rd_T26 l0_0 x8_1).f1))).setCell ⟨gb106, 2, none⟩ (.int .i64 ((rd_T26 l0_0 x8_1).f2))).setCell ⟨gb106, 3, none⟩ (.int .i64 ((rd_T26 l0_0 x8_1).f3))).setCell ⟨gb106, 4, none⟩ (.int .i64 ((rd_T26 l0_0 x8_1).f4))).heap[gb106]? = some (.cells #[.int .i64 ((rd_T26 l0_0 x8_1).f0), .int .i64 ((rd_T26 l0_0 x8_1).f1), .int .i64 ((rd_T26 l0_0 x8_1).f2), .int .i64 ((rd_T26 l0_0 x8_1).f3), .int .i64 ((rd_T26 l0_0 x8_1).f4)] 26 (0, 0))) := ⟨by (with_reducible repeat (first | refine blk_drewN ?_ _ | refine blk_drew ?_ | refine blk_alloc ?_ _)); refine blk_put (cs := #[.int .i64 ((rd_T26 l0_0 x8_1).f0), .int .i64 ((rd_T26 l0_0 x8_1).f1), .int .i64 ((rd_T26 l0_0 x8_1).f2), .int .i64 ((rd_T26 l0_0 x8_1).f3), .int .i64 0]) ?_ 4 _ rfl; (with_reducible repeat (first | refine blk_drewN ?_ _ | refine blk_drew ?_ | refine blk_alloc ?_ _)); refine blk_put (cs := #[.int .i64 ((rd_T26 l0_0 x8_1).f0), .int .i64 ((rd_T26 l0_0 x8_1).f1), .int .i64 ((rd_T26 l0_0 x8_1).f2), .int .i64 0, .int .i64 0]) ?_ 3 _ rfl; (with_reducible repeat (first | refine blk_drewN ?_ _ | refine blk_drew ?_ | refine blk_alloc ?_ _)); refine blk_put (cs := #[.int .i64 ((rd_T26 l0_0 x8_1).f0), .int .i64 ((rd_T26 l0_0 x8_1).f1), .int .i64 0, .int .i64 0, .int .i64 0]) ?_ 2 _ rfl; (with_reducible repeat (first | refine blk_drewN ?_ _ | refine blk_drew ?_ | refine blk_alloc ?_ _)); refine blk_put (cs := #[.int .i64 ((rd_T26 l0_0 x8_1).f0), .int .i64 0, .int .i64 0, .int .i64 0, .int .i64 0]) ?_ 1 _ rfl; (with_reducible repeat (first | refine blk_drewN ?_ _ | refine blk_drew ?_ | refine blk_alloc ?_ _)); refine blk_put (cs := #[.int .i64 0, .int .i64 0, .int .i64 0, .int .i64 0, .int .i64 0]) ?_ 0 _ rfl; (with_reducible repeat (first | refine blk_drewN ?_ _ | refine blk_drew ?_ | refine blk_alloc ?_ _)); exact BK106.out⟩
        have n2_ : Aside0 (Below w.heap.size w (((((w12.setCell ⟨gb106, 0, none⟩ (.int .i64 ((rd_T26 l0_0 x8_1).f0))).setCell ⟨gb106, 1, none⟩ (.int .i64 ((rd_T26 l0_0 x8_1).f1))).setCell ⟨gb106, 2, none⟩ (.int .i64 ((rd_T26 l0_0 x8_1).f2))).setCell ⟨gb106, 3, none⟩ (.int .i64 ((rd_T26 l0_0 x8_1).f3))).setCell ⟨gb106, 4, none⟩ (.int .i64 ((rd_T26 l0_0 x8_1).f4)))) := ⟨by repeat (first | (with_reducible first | exact HB.out | apply below_alloc | apply pw_below_drewN | apply below_drew1 | refine below_set ?_ GE104.out | refine below_set ?_ GE106.out) | exact HB.out)⟩
        (try clear BK104)
        (try clear BK106)
        (try clear HB)
        generalize (((((w12.setCell ⟨gb106, 0, none⟩ (.int .i64 ((rd_T26 l0_0 x8_1).f0))).setCell ⟨gb106, 1, none⟩ (.int .i64 ((rd_T26 l0_0 x8_1).f1))).setCell ⟨gb106, 2, none⟩ (.int .i64 ((rd_T26 l0_0 x8_1).f2))).setCell ⟨gb106, 3, none⟩ (.int .i64 ((rd_T26 l0_0 x8_1).f3))).setCell ⟨gb106, 4, none⟩ (.int .i64 ((rd_T26 l0_0 x8_1).f4))) = w15 at n0_ n1_ n2_ ⊢
        have BK104 := n0_
        have BK106 := n1_
        have HB := n2_
        clear n0_ n1_ n2_
        have n0_ := Aside0.mk (blk_drew BK104.out)
        have n1_ := Aside0.mk (blk_drew BK106.out)
        have n2_ := Aside0.mk (below_drew1 HB.out)
        clear BK104
        clear BK106
        clear HB
        have BK104 := n0_
        have BK106 := n1_
        have HB := n2_
        clear n0_ n1_ n2_
        refine start_ (n := 12) (S := fun w' => w'.cell? ⟨gb106, 0, none⟩ = some (.int .i64 ((rd_T26 l0_0 x8_1).f0)) ∧ w'.cell? ⟨gb106, 1, none⟩ = some (.int .i64 ((rd_T26 l0_0 x8_1).f1)) ∧ w'.cell? ⟨gb106, 2, none⟩ = some (.int .i64 ((rd_T26 l0_0 x8_1).f2)) ∧ w'.cell? ⟨gb106, 3, none⟩ = some (.int .i64 ((rd_T26 l0_0 x8_1).f3)) ∧ w'.cell? ⟨gb106, 4, none⟩ = some (.int .i64 ((rd_T26 l0_0 x8_1).f4)) ∧ w'.cell? ⟨gb104, 0, none⟩ = some (.slice (some ad105) l0_0.length c0_0)) (ds := []) #[false, false, false, false, false, false, false, false, false, false, false, false] (by kernel_rfl) rfl rfl ⟨(blk_cell BK106.out 0).trans rfl, (blk_cell BK106.out 1).trans rfl, (blk_cell BK106.out 2).trans rfl, (blk_cell BK106.out 3).trans rfl, (blk_cell BK106.out 4).trans rfl, (blk_cell BK104.out 0).trans rfl⟩ (fun hHeld => ?_); refine with_tabW queue_valid.tab4 queue_valid.bits4 (fun HT_ HW_ => ?_)
        generalize w15.drew = w16 at BK104 BK106 HB hHeld ⊢
        refine take_ (i := 0) (N := some 13) (v := ?_) (a' := ?_) #[true, false, false, false, false, false, false, false, false, false, false, false] rfl rfl (take_ofW HT_.out HW_.out (by kernel_rfl)) (fun _ _ _ h => h) (Or.inl ⟨by rfl, ?_⟩) hHeld ?_ ?_
        rotate_left
        ·rintro w' ⟨s0, s1, s2, s3, s4, s5⟩
         go_simp
         with_reducible rfl
        rotate_left
        ·simp only [Act.put, List.setIfInBounds_toArray, List.set_cons_zero, List.set_cons_succ, i64_w, i32_w]
         rfl
        refine one_ (i := 1) (N := some 14) #[true, true, false, false, false, false, false, false, false, false, false, false] rfl rfl (one_of HT_.out (by kernel_rfl)) (by decide) (fun K hK => ?_)
        refine goes_ Try.func25 (by kernel_rfl) rfl #[.agg #[.int .i64 ((rd_T26 l0_0 x8_1).f0), .int .i64 ((rd_T26 l0_0 x8_1).f1), .int .i64 ((rd_T26 l0_0 x8_1).f2), .int .i64 ((rd_T26 l0_0 x8_1).f3), .int .i64 ((rd_T26 l0_0 x8_1).f4)]] (by rfl) rfl rfl (by (try simp only [List.map_toArray, List.map_cons, List.map_nil]); first | done | rfl | (simp only [List.length_drop, List.length_take]; rfl)) ?_
        with_reducible refine (queue_formed.calls ((rd_T26 l0_0 x8_1).f0) ((rd_T26 l0_0 x8_1).f1) ((rd_T26 l0_0 x8_1).f2) ((rd_T26 l0_0 x8_1).f3) ((rd_T26 l0_0 x8_1).f4) true _ A7.out).mono ?_
        rintro e w17 ⟨rfl, hb⟩
        refine ⟨_, rfl, ?_⟩
        have n0_ := Aside0.mk (blk_below (g := gb104) (o := .cells #[.slice (some ad105) l0_0.length c0_0] 24 (0, 0)) BK104.out hb)
        have n1_ := Aside0.mk (blk_below (g := gb106) (o := .cells #[.int .i64 ((rd_T26 l0_0 x8_1).f0), .int .i64 ((rd_T26 l0_0 x8_1).f1), .int .i64 ((rd_T26 l0_0 x8_1).f2), .int .i64 ((rd_T26 l0_0 x8_1).f3), .int .i64 ((rd_T26 l0_0 x8_1).f4)] 26 (0, 0)) BK106.out hb)
        have n2_ := Aside0.mk (below_step HB.out hb)
        clear BK104
        clear BK106
        clear HB
        have BK104 := n0_
        have BK106 := n1_
        have HB := n2_
        clear n0_ n1_ n2_
        (try clear hb)
        (try clear hb2)
        (try clear hk)
        (try clear hi)
        refine hK.out _ _ ⟨(blk_cell BK106.out 0).trans rfl, (blk_cell BK106.out 1).trans rfl, (blk_cell BK106.out 2).trans rfl, (blk_cell BK106.out 3).trans rfl, (blk_cell BK106.out 4).trans rfl, (blk_cell BK104.out 0).trans rfl⟩ (fun hHeld => ?_)
        clear hK K
        refine norm_ (a' := ?_) ?_ ?_
        rotate_left
        ·show Act.put _ (some 14) _ = _
         simp only [Act.put, List.setIfInBounds_toArray, List.set_cons_zero, List.set_cons_succ, i64_w, i32_w]
         rfl
        refine pure_ (i := 2) (N := some 15) (v := ?_) (a' := ?_) #[true, true, true, false, false, false, false, false, false, false, false, false] rfl rfl (any_of HT_.out (by kernel_rfl)) (fun _ _ _ h => h) (Or.inl ⟨by rfl, ?_⟩) ?_ ?_
        rotate_left
        ·intro w'
         go_simp
         with_reducible rfl
        rotate_left
        ·simp only [Act.put, List.setIfInBounds_toArray, List.set_cons_zero, List.set_cons_succ, i64_w, i32_w]
         rfl
        refine pure_ (i := 3) (N := some 16) (v := ?_) (a' := ?_) #[true, true, true, true, false, false, false, false, false, false, false, false] rfl rfl (any_of HT_.out (by kernel_rfl)) (fun _ _ _ h => h) (Or.inl ⟨by rfl, ?_⟩) ?_ ?_
        rotate_left
        ·intro w'
         go_simp
         with_reducible rfl
        rotate_left
        ·simp only [Act.put, List.setIfInBounds_toArray, List.set_cons_zero, List.set_cons_succ, i64_w, i32_w]
         rfl
        refine pure_ (i := 4) (N := some 17) (v := ?_) (a' := ?_) #[true, true, true, true, true, false, false, false, false, false, false, false] rfl rfl (any_of HT_.out (by kernel_rfl)) (fun _ _ _ h => h) (Or.inl ⟨by rfl, ?_⟩) ?_ ?_
        rotate_left
        ·intro w'
         go_simp
         with_reducible rfl
        rotate_left
        ·simp only [Act.put, List.setIfInBounds_toArray, List.set_cons_zero, List.set_cons_succ, i64_w, i32_w]
         rfl
        refine pure_ (i := 9) (N := some 22) (v := ?_) (a' := ?_) #[true, true, true, true, true, false, false, false, false, true, false, false] rfl rfl (any_of HT_.out (by kernel_rfl)) (fun _ _ _ h => h) (Or.inl ⟨by rfl, ?_⟩) ?_ ?_
        rotate_left
        ·intro w'
         go_simp
         with_reducible rfl
        rotate_left
        ·simp only [Act.put, List.setIfInBounds_toArray, List.set_cons_zero, List.set_cons_succ, i64_w, i32_w]
         rfl
        refine take_ (i := 5) (N := some 18) (v := ?_) (a' := ?_) #[true, true, true, true, true, true, false, false, false, true, false, false] rfl rfl (take_ofW HT_.out HW_.out (by kernel_rfl)) (fun _ _ _ h => h) (Or.inl ⟨by rfl, ?_⟩) hHeld ?_ ?_
        rotate_left
        ·rintro w' ⟨s0, s1, s2, s3, s4, s5⟩
         go_simp
         with_reducible rfl
        rotate_left
        ·simp only [Act.put, List.setIfInBounds_toArray, List.set_cons_zero, List.set_cons_succ, i64_w, i32_w]
         rfl
        refine take_ (i := 6) (N := some 19) (v := ?_) (a' := ?_) #[true, true, true, true, true, true, true, false, false, true, false, false] rfl rfl (take_ofW HT_.out HW_.out (by kernel_rfl)) (fun _ _ _ h => h) (Or.inl ⟨by rfl, ?_⟩) hHeld ?_ ?_
        rotate_left
        ·rintro w' ⟨s0, s1, s2, s3, s4, s5⟩
         go_simp
         with_reducible rfl
        rotate_left
        ·simp only [Act.put, List.setIfInBounds_toArray, List.set_cons_zero, List.set_cons_succ, i64_w, i32_w]
         rfl
        refine one_ (i := 7) (N := some 20) #[true, true, true, true, true, true, true, true, false, true, false, false] rfl rfl (one_of HT_.out (by kernel_rfl)) (by decide) (fun K hK => ?_)
        refine goes_ Try.func27 (by kernel_rfl) rfl #[.agg #[.int .i64 ((rd_T26 l0_0 x8_1).f0), .int .i64 ((rd_T26 l0_0 x8_1).f1), .int .i64 ((rd_T26 l0_0 x8_1).f2), .int .i64 ((rd_T26 l0_0 x8_1).f3), .int .i64 ((rd_T26 l0_0 x8_1).f4)]] (by rfl) rfl rfl (by (try simp only [List.map_toArray, List.map_cons, List.map_nil]); first | done | rfl | (simp only [List.length_drop, List.length_take]; rfl)) ?_
        with_reducible refine (queue_name.calls ((rd_T26 l0_0 x8_1).f0) ((rd_T26 l0_0 x8_1).f1) ((rd_T26 l0_0 x8_1).f2) ((rd_T26 l0_0 x8_1).f3) ((rd_T26 l0_0 x8_1).f4) t108 t109 _ A9.out).mono ?_
        rintro e w18 ⟨rfl, hb⟩
        refine ⟨_, rfl, ?_⟩
        have n0_ := Aside0.mk (blk_below (g := gb104) (o := .cells #[.slice (some ad105) l0_0.length c0_0] 24 (0, 0)) BK104.out hb)
        have n1_ := Aside0.mk (blk_below (g := gb106) (o := .cells #[.int .i64 ((rd_T26 l0_0 x8_1).f0), .int .i64 ((rd_T26 l0_0 x8_1).f1), .int .i64 ((rd_T26 l0_0 x8_1).f2), .int .i64 ((rd_T26 l0_0 x8_1).f3), .int .i64 ((rd_T26 l0_0 x8_1).f4)] 26 (0, 0)) BK106.out hb)
        have n2_ := Aside0.mk (below_step HB.out hb)
        clear BK104
        clear BK106
        clear HB
        have BK104 := n0_
        have BK106 := n1_
        have HB := n2_
        clear n0_ n1_ n2_
        (try clear hb)
        (try clear hb2)
        (try clear hk)
        (try clear hi)
        refine hK.out _ _ ⟨(blk_cell BK106.out 0).trans rfl, (blk_cell BK106.out 1).trans rfl, (blk_cell BK106.out 2).trans rfl, (blk_cell BK106.out 3).trans rfl, (blk_cell BK106.out 4).trans rfl, (blk_cell BK104.out 0).trans rfl⟩ (fun hHeld => ?_)
        clear hK K
        refine norm_ (a' := ?_) ?_ ?_
        rotate_left
        ·show Act.put _ (some 20) _ = _
         simp only [Act.put, List.setIfInBounds_toArray, List.set_cons_zero, List.set_cons_succ, i64_w, i32_w]
         rfl
        refine one_ (i := 8) (N := some 21) #[true, true, true, true, true, true, true, true, true, true, false, false] rfl rfl (one_of HT_.out (by kernel_rfl)) (by decide) (fun K hK => ?_)
        refine goes_ Try.func26 (by kernel_rfl) rfl #[.slice (some ad105) l0_0.length c0_0, .agg #[.int .i64 t108, .int .i64 t109]] (by rfl) rfl rfl (by (try simp only [List.map_toArray, List.map_cons, List.map_nil]); first | done | rfl | (simp only [List.length_drop, List.length_take]; rfl)) ?_
        with_reducible refine (queue_find.calls _ _ l0_0 t108 t109 t110 _ ?side1 ?side2 A10.out).mono ?_
        (case side1 => repeat (first | exact (Kd.C_below HR0_0.out HB.out) | (with_reducible refine Kd.C_alloc ?_ _) | (with_reducible refine Kd.C_drewN ?_ _) | (with_reducible refine Kd.C_drew ?_)))
        (case side2 => exact HC0_0.out)
        rintro e w19 ⟨rfl, hb⟩
        refine ⟨_, rfl, ?_⟩
        have n0_ := Aside0.mk (blk_below (g := gb104) (o := .cells #[.slice (some ad105) l0_0.length c0_0] 24 (0, 0)) BK104.out hb)
        have n1_ := Aside0.mk (blk_below (g := gb106) (o := .cells #[.int .i64 ((rd_T26 l0_0 x8_1).f0), .int .i64 ((rd_T26 l0_0 x8_1).f1), .int .i64 ((rd_T26 l0_0 x8_1).f2), .int .i64 ((rd_T26 l0_0 x8_1).f3), .int .i64 ((rd_T26 l0_0 x8_1).f4)] 26 (0, 0)) BK106.out hb)
        have n2_ := Aside0.mk (below_step HB.out hb)
        clear BK104
        clear BK106
        clear HB
        have BK104 := n0_
        have BK106 := n1_
        have HB := n2_
        clear n0_ n1_ n2_
        (try clear hb)
        (try clear hb2)
        (try clear hk)
        (try clear hi)
        refine hK.out _ _ ⟨(blk_cell BK106.out 0).trans rfl, (blk_cell BK106.out 1).trans rfl, (blk_cell BK106.out 2).trans rfl, (blk_cell BK106.out 3).trans rfl, (blk_cell BK106.out 4).trans rfl, (blk_cell BK104.out 0).trans rfl⟩ (fun hHeld => ?_)
        clear hK K
        refine norm_ (a' := ?_) ?_ ?_
        rotate_left
        ·show Act.put _ (some 21) _ = _
         simp only [Act.put, List.setIfInBounds_toArray, List.set_cons_zero, List.set_cons_succ, i64_w, i32_w]
         rfl
        refine pure_ (i := 10) (N := some 23) (v := ?_) (a' := ?_) #[true, true, true, true, true, true, true, true, true, true, true, false] rfl rfl (any_of HT_.out (by kernel_rfl)) (fun _ _ _ h => h) (Or.inl ⟨by rfl, ?_⟩) ?_ ?_
        rotate_left
        ·intro w'
         go_simp
         with_reducible rfl
        rotate_left
        ·simp only [Act.put, List.setIfInBounds_toArray, List.set_cons_zero, List.set_cons_succ, i64_w, i32_w]
         rfl
        refine pure_ (i := 11) (N := some 24) (v := ?_) (a' := ?_) #[true, true, true, true, true, true, true, true, true, true, true, true] rfl rfl (any_of HT_.out (by kernel_rfl)) (fun _ _ _ h => h) (Or.inl ⟨by rfl, ?_⟩) ?_ ?_
        rotate_left
        ·intro w'
         go_simp
         with_reducible rfl
        rotate_left
        ·simp only [Act.put, List.setIfInBounds_toArray, List.set_cons_zero, List.set_cons_succ, i64_w, i32_w]
         rfl
        refine done_ (done_of HT_.out (by kernel_rfl)) ?_
        try go_wp2
        go_roundg k1
        case measure => have := HK1.out; omega
        case rel => exact ⟨(wrap64 (x8_1 + 1)), (by first | rfl | (simp; done) | (simp [*]; done)), H', ⟨by have := HK1.out; omega⟩, ⟨BK104.out⟩, ⟨HB.out⟩⟩
       ·rw [if_neg c11] at H
        have c11b0 : (t110 == x8_1) = false := beq_eq_false_iff_ne.mpr c11
        have c11b1 : (t110 != x8_1) = true := bne_iff_ne.mpr c11
        obtain rfl := Option.some.inj H
        have p105 : 0 ≤ (x8_1 : Int) := of_decide_eq_true (by assumption)
        have q105 : x8_1 < (l0_0.length : Int) := of_decide_eq_true (by assumption)
        obtain ⟨ad105, e105, hx105_0, hx105_1, hx105_2, hx105_3, hx105_4⟩ := at_T26 HR0_0.out x8_1 p105 q105
        cases e105
        replace hx105_0 := (HB.out.cell (World.block_lt_of_cell? w _ hx105_0)).trans hx105_0
        replace hx105_1 := (HB.out.cell (World.block_lt_of_cell? w _ hx105_1)).trans hx105_1
        replace hx105_2 := (HB.out.cell (World.block_lt_of_cell? w _ hx105_2)).trans hx105_2
        replace hx105_3 := (HB.out.cell (World.block_lt_of_cell? w _ hx105_3)).trans hx105_3
        replace hx105_4 := (HB.out.cell (World.block_lt_of_cell? w _ hx105_4)).trans hx105_4
        replace p105 := eq_true p105
        replace q105 := eq_true q105
        try go_wp2_with (first | ((with_reducible refine gate_dst (N := 4) rfl ?_); refine box_event ?hg (N := 4) ?hd (cs := #[.int .i64 0, .int .i64 0, .int .i64 0, .int .i64 0, .int .i64 0]) (t := 26) ?hr ?_; (case hd => rfl); (case hg => rfl); (case hr => first | (go_simp; done) | (go_simp; rfl)); intro gb106 hg w20 hbox hb; have n0_ := Aside0.mk (blk_below (g := gb104) (o := .cells #[.slice (some ad105) l0_0.length c0_0] 24 (0, 0)) BK104.out hb); have n1_ := Aside0.mk (below_step HB.out hb); have n2_ := Aside0.mk (hbox); have n3_ := Aside0.mk ((by rw [hg]; exact (below_size HB.out) : w.heap.size ≤ gb106)); have n4_ := Aside0.mk ((by rw [hg]; exact (below_size HB.out) : w.heap.size ≤ gb106)); have n5_ := Aside0.mk ((by rw [hg]; exact Nat.ne_of_lt (blk_lt (g := gb104) (o := .cells #[.slice (some ad105) l0_0.length c0_0] 24 (0, 0)) BK104.out) : gb104 ≠ gb106)); have n6_ := Aside0.mk ((by rw [hg]; exact Nat.ne_of_gt (blk_lt (g := gb104) (o := .cells #[.slice (some ad105) l0_0.length c0_0] 24 (0, 0)) BK104.out) : gb106 ≠ gb104)); clear BK104; clear HB; have BK104 := n0_; have HB := n1_; have BK106 := n2_; have GW106 := n3_; have GE106 := n4_; have NB104_106 := n5_; have NB106_104 := n6_; clear n0_ n1_ n2_ n3_ n4_ n5_ n6_; clear hb hbox hg; have hnb21 := NB106_104.out; have hnc21 := NB104_106.out; have hcz22_0 : w20.cell? ⟨gb106, 0, none⟩ = some (.int .i64 0) := (blk_cell BK106.out 0).trans rfl; have hcz22_1 : w20.cell? ⟨gb106, 1, none⟩ = some (.int .i64 0) := (blk_cell BK106.out 1).trans rfl; have hcz22_2 : w20.cell? ⟨gb106, 2, none⟩ = some (.int .i64 0) := (blk_cell BK106.out 2).trans rfl; have hcz22_3 : w20.cell? ⟨gb106, 3, none⟩ = some (.int .i64 0) := (blk_cell BK106.out 3).trans rfl; have hcz22_4 : w20.cell? ⟨gb106, 4, none⟩ = some (.int .i64 0) := (blk_cell BK106.out 4).trans rfl; have hfz22_0 := blk_frozen BK106.out 0; have hfz22_1 := blk_frozen BK106.out 1; have hfz22_2 := blk_frozen BK106.out 2; have hfz22_3 := blk_frozen BK106.out 3; have hfz22_4 := blk_frozen BK106.out 4))
        have n0_ : Aside0 ((((((w20.setCell ⟨gb106, 0, none⟩ (.int .i64 ((rd_T26 l0_0 x8_1).f0))).setCell ⟨gb106, 1, none⟩ (.int .i64 ((rd_T26 l0_0 x8_1).f1))).setCell ⟨gb106, 2, none⟩ (.int .i64 ((rd_T26 l0_0 x8_1).f2))).setCell ⟨gb106, 3, none⟩ (.int .i64 ((rd_T26 l0_0 x8_1).f3))).setCell ⟨gb106, 4, none⟩ (.int .i64 ((rd_T26 l0_0 x8_1).f4))).heap[gb104]? = some (.cells #[.slice (some ad105) l0_0.length c0_0] 24 (0, 0))) := ⟨by (with_reducible repeat (first | refine blk_drewN ?_ _ | refine blk_drew ?_ | refine blk_alloc ?_ _)); refine blk_far ?_ NB104_106.out _; (with_reducible repeat (first | refine blk_drewN ?_ _ | refine blk_drew ?_ | refine blk_alloc ?_ _)); refine blk_far ?_ NB104_106.out _; (with_reducible repeat (first | refine blk_drewN ?_ _ | refine blk_drew ?_ | refine blk_alloc ?_ _)); refine blk_far ?_ NB104_106.out _; (with_reducible repeat (first | refine blk_drewN ?_ _ | refine blk_drew ?_ | refine blk_alloc ?_ _)); refine blk_far ?_ NB104_106.out _; (with_reducible repeat (first | refine blk_drewN ?_ _ | refine blk_drew ?_ | refine blk_alloc ?_ _)); refine blk_far ?_ NB104_106.out _; (with_reducible repeat (first | refine blk_drewN ?_ _ | refine blk_drew ?_ | refine blk_alloc ?_ _)); exact BK104.out⟩
        have n1_ : Aside0 ((((((w20.setCell ⟨gb106, 0, none⟩ (.int .i64 ((rd_T26 l0_0 x8_1).f0))).setCell ⟨gb106, 1, none⟩ (.int .i64 ((rd_T26 l0_0 x8_1).f1))).setCell ⟨gb106, 2, none⟩ (.int .i64 ((rd_T26 l0_0 x8_1).f2))).setCell ⟨gb106, 3, none⟩ (.int .i64 ((rd_T26 l0_0 x8_1).f3))).setCell ⟨gb106, 4, none⟩ (.int .i64 ((rd_T26 l0_0 x8_1).f4))).heap[gb106]? = some (.cells #[.int .i64 ((rd_T26 l0_0 x8_1).f0), .int .i64 ((rd_T26 l0_0 x8_1).f1), .int .i64 ((rd_T26 l0_0 x8_1).f2), .int .i64 ((rd_T26 l0_0 x8_1).f3), .int .i64 ((rd_T26 l0_0 x8_1).f4)] 26 (0, 0))) := ⟨by (with_reducible repeat (first | refine blk_drewN ?_ _ | refine blk_drew ?_ | refine blk_alloc ?_ _)); refine blk_put (cs := #[.int .i64 ((rd_T26 l0_0 x8_1).f0), .int .i64 ((rd_T26 l0_0 x8_1).f1), .int .i64 ((rd_T26 l0_0 x8_1).f2), .int .i64 ((rd_T26 l0_0 x8_1).f3), .int .i64 0]) ?_ 4 _ rfl; (with_reducible repeat (first | refine blk_drewN ?_ _ | refine blk_drew ?_ | refine blk_alloc ?_ _)); refine blk_put (cs := #[.int .i64 ((rd_T26 l0_0 x8_1).f0), .int .i64 ((rd_T26 l0_0 x8_1).f1), .int .i64 ((rd_T26 l0_0 x8_1).f2), .int .i64 0, .int .i64 0]) ?_ 3 _ rfl; (with_reducible repeat (first | refine blk_drewN ?_ _ | refine blk_drew ?_ | refine blk_alloc ?_ _)); refine blk_put (cs := #[.int .i64 ((rd_T26 l0_0 x8_1).f0), .int .i64 ((rd_T26 l0_0 x8_1).f1), .int .i64 0, .int .i64 0, .int .i64 0]) ?_ 2 _ rfl; (with_reducible repeat (first | refine blk_drewN ?_ _ | refine blk_drew ?_ | refine blk_alloc ?_ _)); refine blk_put (cs := #[.int .i64 ((rd_T26 l0_0 x8_1).f0), .int .i64 0, .int .i64 0, .int .i64 0, .int .i64 0]) ?_ 1 _ rfl; (with_reducible repeat (first | refine blk_drewN ?_ _ | refine blk_drew ?_ | refine blk_alloc ?_ _)); refine blk_put (cs := #[.int .i64 0, .int .i64 0, .int .i64 0, .int .i64 0, .int .i64 0]) ?_ 0 _ rfl; (with_reducible repeat (first | refine blk_drewN ?_ _ | refine blk_drew ?_ | refine blk_alloc ?_ _)); exact BK106.out⟩
        have n2_ : Aside0 (Below w.heap.size w (((((w20.setCell ⟨gb106, 0, none⟩ (.int .i64 ((rd_T26 l0_0 x8_1).f0))).setCell ⟨gb106, 1, none⟩ (.int .i64 ((rd_T26 l0_0 x8_1).f1))).setCell ⟨gb106, 2, none⟩ (.int .i64 ((rd_T26 l0_0 x8_1).f2))).setCell ⟨gb106, 3, none⟩ (.int .i64 ((rd_T26 l0_0 x8_1).f3))).setCell ⟨gb106, 4, none⟩ (.int .i64 ((rd_T26 l0_0 x8_1).f4)))) := ⟨by repeat (first | (with_reducible first | exact HB.out | apply below_alloc | apply pw_below_drewN | apply below_drew1 | refine below_set ?_ GE104.out | refine below_set ?_ GE106.out) | exact HB.out)⟩
        (try clear BK104)
        (try clear BK106)
        (try clear HB)
        generalize (((((w20.setCell ⟨gb106, 0, none⟩ (.int .i64 ((rd_T26 l0_0 x8_1).f0))).setCell ⟨gb106, 1, none⟩ (.int .i64 ((rd_T26 l0_0 x8_1).f1))).setCell ⟨gb106, 2, none⟩ (.int .i64 ((rd_T26 l0_0 x8_1).f2))).setCell ⟨gb106, 3, none⟩ (.int .i64 ((rd_T26 l0_0 x8_1).f3))).setCell ⟨gb106, 4, none⟩ (.int .i64 ((rd_T26 l0_0 x8_1).f4))) = w23 at n0_ n1_ n2_ ⊢
        have BK104 := n0_
        have BK106 := n1_
        have HB := n2_
        clear n0_ n1_ n2_
        have n0_ := Aside0.mk (blk_drew BK104.out)
        have n1_ := Aside0.mk (blk_drew BK106.out)
        have n2_ := Aside0.mk (below_drew1 HB.out)
        clear BK104
        clear BK106
        clear HB
        have BK104 := n0_
        have BK106 := n1_
        have HB := n2_
        clear n0_ n1_ n2_
        refine start_ (n := 12) (S := fun w' => w'.cell? ⟨gb106, 0, none⟩ = some (.int .i64 ((rd_T26 l0_0 x8_1).f0)) ∧ w'.cell? ⟨gb106, 1, none⟩ = some (.int .i64 ((rd_T26 l0_0 x8_1).f1)) ∧ w'.cell? ⟨gb106, 2, none⟩ = some (.int .i64 ((rd_T26 l0_0 x8_1).f2)) ∧ w'.cell? ⟨gb106, 3, none⟩ = some (.int .i64 ((rd_T26 l0_0 x8_1).f3)) ∧ w'.cell? ⟨gb106, 4, none⟩ = some (.int .i64 ((rd_T26 l0_0 x8_1).f4)) ∧ w'.cell? ⟨gb104, 0, none⟩ = some (.slice (some ad105) l0_0.length c0_0)) (ds := []) #[false, false, false, false, false, false, false, false, false, false, false, false] (by kernel_rfl) rfl rfl ⟨(blk_cell BK106.out 0).trans rfl, (blk_cell BK106.out 1).trans rfl, (blk_cell BK106.out 2).trans rfl, (blk_cell BK106.out 3).trans rfl, (blk_cell BK106.out 4).trans rfl, (blk_cell BK104.out 0).trans rfl⟩ (fun hHeld => ?_); refine with_tabW queue_valid.tab4 queue_valid.bits4 (fun HT_ HW_ => ?_)
        generalize w23.drew = w24 at BK104 BK106 HB hHeld ⊢
        refine take_ (i := 0) (N := some 13) (v := ?_) (a' := ?_) #[true, false, false, false, false, false, false, false, false, false, false, false] rfl rfl (take_ofW HT_.out HW_.out (by kernel_rfl)) (fun _ _ _ h => h) (Or.inl ⟨by rfl, ?_⟩) hHeld ?_ ?_
        rotate_left
        ·rintro w' ⟨s0, s1, s2, s3, s4, s5⟩
         go_simp
         with_reducible rfl
        rotate_left
        ·simp only [Act.put, List.setIfInBounds_toArray, List.set_cons_zero, List.set_cons_succ, i64_w, i32_w]
         rfl
        refine one_ (i := 1) (N := some 14) #[true, true, false, false, false, false, false, false, false, false, false, false] rfl rfl (one_of HT_.out (by kernel_rfl)) (by decide) (fun K hK => ?_)
        refine goes_ Try.func25 (by kernel_rfl) rfl #[.agg #[.int .i64 ((rd_T26 l0_0 x8_1).f0), .int .i64 ((rd_T26 l0_0 x8_1).f1), .int .i64 ((rd_T26 l0_0 x8_1).f2), .int .i64 ((rd_T26 l0_0 x8_1).f3), .int .i64 ((rd_T26 l0_0 x8_1).f4)]] (by rfl) rfl rfl (by (try simp only [List.map_toArray, List.map_cons, List.map_nil]); first | done | rfl | (simp only [List.length_drop, List.length_take]; rfl)) ?_
        with_reducible refine (queue_formed.calls ((rd_T26 l0_0 x8_1).f0) ((rd_T26 l0_0 x8_1).f1) ((rd_T26 l0_0 x8_1).f2) ((rd_T26 l0_0 x8_1).f3) ((rd_T26 l0_0 x8_1).f4) true _ A7.out).mono ?_
        rintro e w25 ⟨rfl, hb⟩
        refine ⟨_, rfl, ?_⟩
        have n0_ := Aside0.mk (blk_below (g := gb104) (o := .cells #[.slice (some ad105) l0_0.length c0_0] 24 (0, 0)) BK104.out hb)
        have n1_ := Aside0.mk (blk_below (g := gb106) (o := .cells #[.int .i64 ((rd_T26 l0_0 x8_1).f0), .int .i64 ((rd_T26 l0_0 x8_1).f1), .int .i64 ((rd_T26 l0_0 x8_1).f2), .int .i64 ((rd_T26 l0_0 x8_1).f3), .int .i64 ((rd_T26 l0_0 x8_1).f4)] 26 (0, 0)) BK106.out hb)
        have n2_ := Aside0.mk (below_step HB.out hb)
        clear BK104
        clear BK106
        clear HB
        have BK104 := n0_
        have BK106 := n1_
        have HB := n2_
        clear n0_ n1_ n2_
        (try clear hb)
        (try clear hb2)
        (try clear hk)
        (try clear hi)
        refine hK.out _ _ ⟨(blk_cell BK106.out 0).trans rfl, (blk_cell BK106.out 1).trans rfl, (blk_cell BK106.out 2).trans rfl, (blk_cell BK106.out 3).trans rfl, (blk_cell BK106.out 4).trans rfl, (blk_cell BK104.out 0).trans rfl⟩ (fun hHeld => ?_)
        clear hK K
        refine norm_ (a' := ?_) ?_ ?_
        rotate_left
        ·show Act.put _ (some 14) _ = _
         simp only [Act.put, List.setIfInBounds_toArray, List.set_cons_zero, List.set_cons_succ, i64_w, i32_w]
         rfl
        refine pure_ (i := 2) (N := some 15) (v := ?_) (a' := ?_) #[true, true, true, false, false, false, false, false, false, false, false, false] rfl rfl (any_of HT_.out (by kernel_rfl)) (fun _ _ _ h => h) (Or.inl ⟨by rfl, ?_⟩) ?_ ?_
        rotate_left
        ·intro w'
         go_simp
         with_reducible rfl
        rotate_left
        ·simp only [Act.put, List.setIfInBounds_toArray, List.set_cons_zero, List.set_cons_succ, i64_w, i32_w]
         rfl
        refine pure_ (i := 3) (N := some 16) (v := ?_) (a' := ?_) #[true, true, true, true, false, false, false, false, false, false, false, false] rfl rfl (any_of HT_.out (by kernel_rfl)) (fun _ _ _ h => h) (Or.inl ⟨by rfl, ?_⟩) ?_ ?_
        rotate_left
        ·intro w'
         go_simp
         with_reducible rfl
        rotate_left
        ·simp only [Act.put, List.setIfInBounds_toArray, List.set_cons_zero, List.set_cons_succ, i64_w, i32_w]
         rfl
        refine pure_ (i := 4) (N := some 17) (v := ?_) (a' := ?_) #[true, true, true, true, true, false, false, false, false, false, false, false] rfl rfl (any_of HT_.out (by kernel_rfl)) (fun _ _ _ h => h) (Or.inl ⟨by rfl, ?_⟩) ?_ ?_
        rotate_left
        ·intro w'
         go_simp
         with_reducible rfl
        rotate_left
        ·simp only [Act.put, List.setIfInBounds_toArray, List.set_cons_zero, List.set_cons_succ, i64_w, i32_w]
         rfl
        refine pure_ (i := 9) (N := some 22) (v := ?_) (a' := ?_) #[true, true, true, true, true, false, false, false, false, true, false, false] rfl rfl (any_of HT_.out (by kernel_rfl)) (fun _ _ _ h => h) (Or.inl ⟨by rfl, ?_⟩) ?_ ?_
        rotate_left
        ·intro w'
         go_simp
         with_reducible rfl
        rotate_left
        ·simp only [Act.put, List.setIfInBounds_toArray, List.set_cons_zero, List.set_cons_succ, i64_w, i32_w]
         rfl
        refine take_ (i := 5) (N := some 18) (v := ?_) (a' := ?_) #[true, true, true, true, true, true, false, false, false, true, false, false] rfl rfl (take_ofW HT_.out HW_.out (by kernel_rfl)) (fun _ _ _ h => h) (Or.inl ⟨by rfl, ?_⟩) hHeld ?_ ?_
        rotate_left
        ·rintro w' ⟨s0, s1, s2, s3, s4, s5⟩
         go_simp
         with_reducible rfl
        rotate_left
        ·simp only [Act.put, List.setIfInBounds_toArray, List.set_cons_zero, List.set_cons_succ, i64_w, i32_w]
         rfl
        refine take_ (i := 6) (N := some 19) (v := ?_) (a' := ?_) #[true, true, true, true, true, true, true, false, false, true, false, false] rfl rfl (take_ofW HT_.out HW_.out (by kernel_rfl)) (fun _ _ _ h => h) (Or.inl ⟨by rfl, ?_⟩) hHeld ?_ ?_
        rotate_left
        ·rintro w' ⟨s0, s1, s2, s3, s4, s5⟩
         go_simp
         with_reducible rfl
        rotate_left
        ·simp only [Act.put, List.setIfInBounds_toArray, List.set_cons_zero, List.set_cons_succ, i64_w, i32_w]
         rfl
        refine one_ (i := 7) (N := some 20) #[true, true, true, true, true, true, true, true, false, true, false, false] rfl rfl (one_of HT_.out (by kernel_rfl)) (by decide) (fun K hK => ?_)
        refine goes_ Try.func27 (by kernel_rfl) rfl #[.agg #[.int .i64 ((rd_T26 l0_0 x8_1).f0), .int .i64 ((rd_T26 l0_0 x8_1).f1), .int .i64 ((rd_T26 l0_0 x8_1).f2), .int .i64 ((rd_T26 l0_0 x8_1).f3), .int .i64 ((rd_T26 l0_0 x8_1).f4)]] (by rfl) rfl rfl (by (try simp only [List.map_toArray, List.map_cons, List.map_nil]); first | done | rfl | (simp only [List.length_drop, List.length_take]; rfl)) ?_
        with_reducible refine (queue_name.calls ((rd_T26 l0_0 x8_1).f0) ((rd_T26 l0_0 x8_1).f1) ((rd_T26 l0_0 x8_1).f2) ((rd_T26 l0_0 x8_1).f3) ((rd_T26 l0_0 x8_1).f4) t108 t109 _ A9.out).mono ?_
        rintro e w26 ⟨rfl, hb⟩
        refine ⟨_, rfl, ?_⟩
        have n0_ := Aside0.mk (blk_below (g := gb104) (o := .cells #[.slice (some ad105) l0_0.length c0_0] 24 (0, 0)) BK104.out hb)
        have n1_ := Aside0.mk (blk_below (g := gb106) (o := .cells #[.int .i64 ((rd_T26 l0_0 x8_1).f0), .int .i64 ((rd_T26 l0_0 x8_1).f1), .int .i64 ((rd_T26 l0_0 x8_1).f2), .int .i64 ((rd_T26 l0_0 x8_1).f3), .int .i64 ((rd_T26 l0_0 x8_1).f4)] 26 (0, 0)) BK106.out hb)
        have n2_ := Aside0.mk (below_step HB.out hb)
        clear BK104
        clear BK106
        clear HB
        have BK104 := n0_
        have BK106 := n1_
        have HB := n2_
        clear n0_ n1_ n2_
        (try clear hb)
        (try clear hb2)
        (try clear hk)
        (try clear hi)
        refine hK.out _ _ ⟨(blk_cell BK106.out 0).trans rfl, (blk_cell BK106.out 1).trans rfl, (blk_cell BK106.out 2).trans rfl, (blk_cell BK106.out 3).trans rfl, (blk_cell BK106.out 4).trans rfl, (blk_cell BK104.out 0).trans rfl⟩ (fun hHeld => ?_)
        clear hK K
        refine norm_ (a' := ?_) ?_ ?_
        rotate_left
        ·show Act.put _ (some 20) _ = _
         simp only [Act.put, List.setIfInBounds_toArray, List.set_cons_zero, List.set_cons_succ, i64_w, i32_w]
         rfl
        refine one_ (i := 8) (N := some 21) #[true, true, true, true, true, true, true, true, true, true, false, false] rfl rfl (one_of HT_.out (by kernel_rfl)) (by decide) (fun K hK => ?_)
        refine goes_ Try.func26 (by kernel_rfl) rfl #[.slice (some ad105) l0_0.length c0_0, .agg #[.int .i64 t108, .int .i64 t109]] (by rfl) rfl rfl (by (try simp only [List.map_toArray, List.map_cons, List.map_nil]); first | done | rfl | (simp only [List.length_drop, List.length_take]; rfl)) ?_
        with_reducible refine (queue_find.calls _ _ l0_0 t108 t109 t110 _ ?side1 ?side2 A10.out).mono ?_
        (case side1 => repeat (first | exact (Kd.C_below HR0_0.out HB.out) | (with_reducible refine Kd.C_alloc ?_ _) | (with_reducible refine Kd.C_drewN ?_ _) | (with_reducible refine Kd.C_drew ?_)))
        (case side2 => exact HC0_0.out)
        rintro e w27 ⟨rfl, hb⟩
        refine ⟨_, rfl, ?_⟩
        have n0_ := Aside0.mk (blk_below (g := gb104) (o := .cells #[.slice (some ad105) l0_0.length c0_0] 24 (0, 0)) BK104.out hb)
        have n1_ := Aside0.mk (blk_below (g := gb106) (o := .cells #[.int .i64 ((rd_T26 l0_0 x8_1).f0), .int .i64 ((rd_T26 l0_0 x8_1).f1), .int .i64 ((rd_T26 l0_0 x8_1).f2), .int .i64 ((rd_T26 l0_0 x8_1).f3), .int .i64 ((rd_T26 l0_0 x8_1).f4)] 26 (0, 0)) BK106.out hb)
        have n2_ := Aside0.mk (below_step HB.out hb)
        clear BK104
        clear BK106
        clear HB
        have BK104 := n0_
        have BK106 := n1_
        have HB := n2_
        clear n0_ n1_ n2_
        (try clear hb)
        (try clear hb2)
        (try clear hk)
        (try clear hi)
        refine hK.out _ _ ⟨(blk_cell BK106.out 0).trans rfl, (blk_cell BK106.out 1).trans rfl, (blk_cell BK106.out 2).trans rfl, (blk_cell BK106.out 3).trans rfl, (blk_cell BK106.out 4).trans rfl, (blk_cell BK104.out 0).trans rfl⟩ (fun hHeld => ?_)
        clear hK K
        refine norm_ (a' := ?_) ?_ ?_
        rotate_left
        ·show Act.put _ (some 21) _ = _
         simp only [Act.put, List.setIfInBounds_toArray, List.set_cons_zero, List.set_cons_succ, i64_w, i32_w]
         rfl
        refine pure_ (i := 10) (N := some 23) (v := ?_) (a' := ?_) #[true, true, true, true, true, true, true, true, true, true, true, false] rfl rfl (any_of HT_.out (by kernel_rfl)) (fun _ _ _ h => h) (Or.inl ⟨by rfl, ?_⟩) ?_ ?_
        rotate_left
        ·intro w'
         go_simp
         with_reducible rfl
        rotate_left
        ·simp only [Act.put, List.setIfInBounds_toArray, List.set_cons_zero, List.set_cons_succ, i64_w, i32_w]
         rfl
        refine pure_ (i := 11) (N := some 24) (v := ?_) (a' := ?_) #[true, true, true, true, true, true, true, true, true, true, true, true] rfl rfl (any_of HT_.out (by kernel_rfl)) (fun _ _ _ h => h) (Or.inl ⟨by rfl, ?_⟩) ?_ ?_
        rotate_left
        ·intro w'
         go_simp
         with_reducible rfl
        rotate_left
        ·simp only [Act.put, List.setIfInBounds_toArray, List.set_cons_zero, List.set_cons_succ, i64_w, i32_w]
         rfl
        refine done_ (done_of HT_.out (by kernel_rfl)) ?_
        try go_wp2
        go_ret
        exact ⟨by first | rfl | (simp [errW_none, errW_some] <;> rfl) | (simp [*, errW_none, errW_some] <;> rfl), HB.out⟩
      ·replace c8 := Bool.eq_false_iff.mpr c8
       subst c8
       have H1 : (some false) = some r := by rw [if_neg (show ¬ (false = true) by decide)] at H; exact H
       clear H
       have H := H1
       clear H1
       obtain rfl := Option.some.inj H
       have p105 : 0 ≤ (x8_1 : Int) := of_decide_eq_true (by assumption)
       have q105 : x8_1 < (l0_0.length : Int) := of_decide_eq_true (by assumption)
       obtain ⟨ad105, e105, hx105_0, hx105_1, hx105_2, hx105_3, hx105_4⟩ := at_T26 HR0_0.out x8_1 p105 q105
       cases e105
       replace hx105_0 := (HB.out.cell (World.block_lt_of_cell? w _ hx105_0)).trans hx105_0
       replace hx105_1 := (HB.out.cell (World.block_lt_of_cell? w _ hx105_1)).trans hx105_1
       replace hx105_2 := (HB.out.cell (World.block_lt_of_cell? w _ hx105_2)).trans hx105_2
       replace hx105_3 := (HB.out.cell (World.block_lt_of_cell? w _ hx105_3)).trans hx105_3
       replace hx105_4 := (HB.out.cell (World.block_lt_of_cell? w _ hx105_4)).trans hx105_4
       replace p105 := eq_true p105
       replace q105 := eq_true q105
       try go_wp2_with (first | ((with_reducible refine gate_dst (N := 4) rfl ?_); refine box_event ?hg (N := 4) ?hd (cs := #[.int .i64 0, .int .i64 0, .int .i64 0, .int .i64 0, .int .i64 0]) (t := 26) ?hr ?_; (case hd => rfl); (case hg => rfl); (case hr => first | (go_simp; done) | (go_simp; rfl)); intro gb106 hg w28 hbox hb; have n0_ := Aside0.mk (blk_below (g := gb104) (o := .cells #[.slice (some ad105) l0_0.length c0_0] 24 (0, 0)) BK104.out hb); have n1_ := Aside0.mk (below_step HB.out hb); have n2_ := Aside0.mk (hbox); have n3_ := Aside0.mk ((by rw [hg]; exact (below_size HB.out) : w.heap.size ≤ gb106)); have n4_ := Aside0.mk ((by rw [hg]; exact (below_size HB.out) : w.heap.size ≤ gb106)); have n5_ := Aside0.mk ((by rw [hg]; exact Nat.ne_of_lt (blk_lt (g := gb104) (o := .cells #[.slice (some ad105) l0_0.length c0_0] 24 (0, 0)) BK104.out) : gb104 ≠ gb106)); have n6_ := Aside0.mk ((by rw [hg]; exact Nat.ne_of_gt (blk_lt (g := gb104) (o := .cells #[.slice (some ad105) l0_0.length c0_0] 24 (0, 0)) BK104.out) : gb106 ≠ gb104)); clear BK104; clear HB; have BK104 := n0_; have HB := n1_; have BK106 := n2_; have GW106 := n3_; have GE106 := n4_; have NB104_106 := n5_; have NB106_104 := n6_; clear n0_ n1_ n2_ n3_ n4_ n5_ n6_; clear hb hbox hg; have hnb29 := NB106_104.out; have hnc29 := NB104_106.out; have hcz30_0 : w28.cell? ⟨gb106, 0, none⟩ = some (.int .i64 0) := (blk_cell BK106.out 0).trans rfl; have hcz30_1 : w28.cell? ⟨gb106, 1, none⟩ = some (.int .i64 0) := (blk_cell BK106.out 1).trans rfl; have hcz30_2 : w28.cell? ⟨gb106, 2, none⟩ = some (.int .i64 0) := (blk_cell BK106.out 2).trans rfl; have hcz30_3 : w28.cell? ⟨gb106, 3, none⟩ = some (.int .i64 0) := (blk_cell BK106.out 3).trans rfl; have hcz30_4 : w28.cell? ⟨gb106, 4, none⟩ = some (.int .i64 0) := (blk_cell BK106.out 4).trans rfl; have hfz30_0 := blk_frozen BK106.out 0; have hfz30_1 := blk_frozen BK106.out 1; have hfz30_2 := blk_frozen BK106.out 2; have hfz30_3 := blk_frozen BK106.out 3; have hfz30_4 := blk_frozen BK106.out 4))
       have n0_ : Aside0 ((((((w28.setCell ⟨gb106, 0, none⟩ (.int .i64 ((rd_T26 l0_0 x8_1).f0))).setCell ⟨gb106, 1, none⟩ (.int .i64 ((rd_T26 l0_0 x8_1).f1))).setCell ⟨gb106, 2, none⟩ (.int .i64 ((rd_T26 l0_0 x8_1).f2))).setCell ⟨gb106, 3, none⟩ (.int .i64 ((rd_T26 l0_0 x8_1).f3))).setCell ⟨gb106, 4, none⟩ (.int .i64 ((rd_T26 l0_0 x8_1).f4))).heap[gb104]? = some (.cells #[.slice (some ad105) l0_0.length c0_0] 24 (0, 0))) := ⟨by (with_reducible repeat (first | refine blk_drewN ?_ _ | refine blk_drew ?_ | refine blk_alloc ?_ _)); refine blk_far ?_ NB104_106.out _; (with_reducible repeat (first | refine blk_drewN ?_ _ | refine blk_drew ?_ | refine blk_alloc ?_ _)); refine blk_far ?_ NB104_106.out _; (with_reducible repeat (first | refine blk_drewN ?_ _ | refine blk_drew ?_ | refine blk_alloc ?_ _)); refine blk_far ?_ NB104_106.out _; (with_reducible repeat (first | refine blk_drewN ?_ _ | refine blk_drew ?_ | refine blk_alloc ?_ _)); refine blk_far ?_ NB104_106.out _; (with_reducible repeat (first | refine blk_drewN ?_ _ | refine blk_drew ?_ | refine blk_alloc ?_ _)); refine blk_far ?_ NB104_106.out _; (with_reducible repeat (first | refine blk_drewN ?_ _ | refine blk_drew ?_ | refine blk_alloc ?_ _)); exact BK104.out⟩
       have n1_ : Aside0 ((((((w28.setCell ⟨gb106, 0, none⟩ (.int .i64 ((rd_T26 l0_0 x8_1).f0))).setCell ⟨gb106, 1, none⟩ (.int .i64 ((rd_T26 l0_0 x8_1).f1))).setCell ⟨gb106, 2, none⟩ (.int .i64 ((rd_T26 l0_0 x8_1).f2))).setCell ⟨gb106, 3, none⟩ (.int .i64 ((rd_T26 l0_0 x8_1).f3))).setCell ⟨gb106, 4, none⟩ (.int .i64 ((rd_T26 l0_0 x8_1).f4))).heap[gb106]? = some (.cells #[.int .i64 ((rd_T26 l0_0 x8_1).f0), .int .i64 ((rd_T26 l0_0 x8_1).f1), .int .i64 ((rd_T26 l0_0 x8_1).f2), .int .i64 ((rd_T26 l0_0 x8_1).f3), .int .i64 ((rd_T26 l0_0 x8_1).f4)] 26 (0, 0))) := ⟨by (with_reducible repeat (first | refine blk_drewN ?_ _ | refine blk_drew ?_ | refine blk_alloc ?_ _)); refine blk_put (cs := #[.int .i64 ((rd_T26 l0_0 x8_1).f0), .int .i64 ((rd_T26 l0_0 x8_1).f1), .int .i64 ((rd_T26 l0_0 x8_1).f2), .int .i64 ((rd_T26 l0_0 x8_1).f3), .int .i64 0]) ?_ 4 _ rfl; (with_reducible repeat (first | refine blk_drewN ?_ _ | refine blk_drew ?_ | refine blk_alloc ?_ _)); refine blk_put (cs := #[.int .i64 ((rd_T26 l0_0 x8_1).f0), .int .i64 ((rd_T26 l0_0 x8_1).f1), .int .i64 ((rd_T26 l0_0 x8_1).f2), .int .i64 0, .int .i64 0]) ?_ 3 _ rfl; (with_reducible repeat (first | refine blk_drewN ?_ _ | refine blk_drew ?_ | refine blk_alloc ?_ _)); refine blk_put (cs := #[.int .i64 ((rd_T26 l0_0 x8_1).f0), .int .i64 ((rd_T26 l0_0 x8_1).f1), .int .i64 0, .int .i64 0, .int .i64 0]) ?_ 2 _ rfl; (with_reducible repeat (first | refine blk_drewN ?_ _ | refine blk_drew ?_ | refine blk_alloc ?_ _)); refine blk_put (cs := #[.int .i64 ((rd_T26 l0_0 x8_1).f0), .int .i64 0, .int .i64 0, .int .i64 0, .int .i64 0]) ?_ 1 _ rfl; (with_reducible repeat (first | refine blk_drewN ?_ _ | refine blk_drew ?_ | refine blk_alloc ?_ _)); refine blk_put (cs := #[.int .i64 0, .int .i64 0, .int .i64 0, .int .i64 0, .int .i64 0]) ?_ 0 _ rfl; (with_reducible repeat (first | refine blk_drewN ?_ _ | refine blk_drew ?_ | refine blk_alloc ?_ _)); exact BK106.out⟩
       have n2_ : Aside0 (Below w.heap.size w (((((w28.setCell ⟨gb106, 0, none⟩ (.int .i64 ((rd_T26 l0_0 x8_1).f0))).setCell ⟨gb106, 1, none⟩ (.int .i64 ((rd_T26 l0_0 x8_1).f1))).setCell ⟨gb106, 2, none⟩ (.int .i64 ((rd_T26 l0_0 x8_1).f2))).setCell ⟨gb106, 3, none⟩ (.int .i64 ((rd_T26 l0_0 x8_1).f3))).setCell ⟨gb106, 4, none⟩ (.int .i64 ((rd_T26 l0_0 x8_1).f4)))) := ⟨by repeat (first | (with_reducible first | exact HB.out | apply below_alloc | apply pw_below_drewN | apply below_drew1 | refine below_set ?_ GE104.out | refine below_set ?_ GE106.out) | exact HB.out)⟩
       (try clear BK104)
       (try clear BK106)
       (try clear HB)
       generalize (((((w28.setCell ⟨gb106, 0, none⟩ (.int .i64 ((rd_T26 l0_0 x8_1).f0))).setCell ⟨gb106, 1, none⟩ (.int .i64 ((rd_T26 l0_0 x8_1).f1))).setCell ⟨gb106, 2, none⟩ (.int .i64 ((rd_T26 l0_0 x8_1).f2))).setCell ⟨gb106, 3, none⟩ (.int .i64 ((rd_T26 l0_0 x8_1).f3))).setCell ⟨gb106, 4, none⟩ (.int .i64 ((rd_T26 l0_0 x8_1).f4))) = w31 at n0_ n1_ n2_ ⊢
       have BK104 := n0_
       have BK106 := n1_
       have HB := n2_
       clear n0_ n1_ n2_
       have n0_ := Aside0.mk (blk_drew BK104.out)
       have n1_ := Aside0.mk (blk_drew BK106.out)
       have n2_ := Aside0.mk (below_drew1 HB.out)
       clear BK104
       clear BK106
       clear HB
       have BK104 := n0_
       have BK106 := n1_
       have HB := n2_
       clear n0_ n1_ n2_
       refine start_ (n := 12) (S := fun w' => w'.cell? ⟨gb106, 0, none⟩ = some (.int .i64 ((rd_T26 l0_0 x8_1).f0)) ∧ w'.cell? ⟨gb106, 1, none⟩ = some (.int .i64 ((rd_T26 l0_0 x8_1).f1)) ∧ w'.cell? ⟨gb106, 2, none⟩ = some (.int .i64 ((rd_T26 l0_0 x8_1).f2)) ∧ w'.cell? ⟨gb106, 3, none⟩ = some (.int .i64 ((rd_T26 l0_0 x8_1).f3)) ∧ w'.cell? ⟨gb106, 4, none⟩ = some (.int .i64 ((rd_T26 l0_0 x8_1).f4))) (ds := []) #[false, false, false, false, false, false, false, false, false, false, false, false] (by kernel_rfl) rfl rfl ⟨(blk_cell BK106.out 0).trans rfl, (blk_cell BK106.out 1).trans rfl, (blk_cell BK106.out 2).trans rfl, (blk_cell BK106.out 3).trans rfl, (blk_cell BK106.out 4).trans rfl⟩ (fun hHeld => ?_); refine with_tabW queue_valid.tab4 queue_valid.bits4 (fun HT_ HW_ => ?_)
       generalize w31.drew = w32 at BK104 BK106 HB hHeld ⊢
       refine take_ (i := 0) (N := some 13) (v := ?_) (a' := ?_) #[true, false, false, false, false, false, false, false, false, false, false, false] rfl rfl (take_ofW HT_.out HW_.out (by kernel_rfl)) (fun _ _ _ h => h) (Or.inl ⟨by rfl, ?_⟩) hHeld ?_ ?_
       rotate_left
       ·rintro w' ⟨s0, s1, s2, s3, s4⟩
        go_simp
        with_reducible rfl
       rotate_left
       ·simp only [Act.put, List.setIfInBounds_toArray, List.set_cons_zero, List.set_cons_succ, i64_w, i32_w]
        rfl
       refine one_ (i := 1) (N := some 14) #[true, true, false, false, false, false, false, false, false, false, false, false] rfl rfl (one_of HT_.out (by kernel_rfl)) (by decide) (fun K hK => ?_)
       refine goes_ Try.func25 (by kernel_rfl) rfl #[.agg #[.int .i64 ((rd_T26 l0_0 x8_1).f0), .int .i64 ((rd_T26 l0_0 x8_1).f1), .int .i64 ((rd_T26 l0_0 x8_1).f2), .int .i64 ((rd_T26 l0_0 x8_1).f3), .int .i64 ((rd_T26 l0_0 x8_1).f4)]] (by rfl) rfl rfl (by (try simp only [List.map_toArray, List.map_cons, List.map_nil]); first | done | rfl | (simp only [List.length_drop, List.length_take]; rfl)) ?_
       with_reducible refine (queue_formed.calls ((rd_T26 l0_0 x8_1).f0) ((rd_T26 l0_0 x8_1).f1) ((rd_T26 l0_0 x8_1).f2) ((rd_T26 l0_0 x8_1).f3) ((rd_T26 l0_0 x8_1).f4) false _ A7.out).mono ?_
       rintro e w33 ⟨rfl, hb⟩
       refine ⟨_, rfl, ?_⟩
       have n0_ := Aside0.mk (blk_below (g := gb104) (o := .cells #[.slice (some ad105) l0_0.length c0_0] 24 (0, 0)) BK104.out hb)
       have n1_ := Aside0.mk (blk_below (g := gb106) (o := .cells #[.int .i64 ((rd_T26 l0_0 x8_1).f0), .int .i64 ((rd_T26 l0_0 x8_1).f1), .int .i64 ((rd_T26 l0_0 x8_1).f2), .int .i64 ((rd_T26 l0_0 x8_1).f3), .int .i64 ((rd_T26 l0_0 x8_1).f4)] 26 (0, 0)) BK106.out hb)
       have n2_ := Aside0.mk (below_step HB.out hb)
       clear BK104
       clear BK106
       clear HB
       have BK104 := n0_
       have BK106 := n1_
       have HB := n2_
       clear n0_ n1_ n2_
       (try clear hb)
       (try clear hb2)
       (try clear hk)
       (try clear hi)
       refine hK.out _ _ ⟨(blk_cell BK106.out 0).trans rfl, (blk_cell BK106.out 1).trans rfl, (blk_cell BK106.out 2).trans rfl, (blk_cell BK106.out 3).trans rfl, (blk_cell BK106.out 4).trans rfl⟩ (fun hHeld => ?_)
       clear hK K
       refine norm_ (a' := ?_) ?_ ?_
       rotate_left
       ·show Act.put _ (some 14) _ = _
        simp only [Act.put, List.setIfInBounds_toArray, List.set_cons_zero, List.set_cons_succ, i64_w, i32_w]
        rfl
       refine pure_ (i := 2) (N := some 15) (v := ?_) (a' := ?_) #[true, true, true, false, false, false, false, false, false, false, false, false] rfl rfl (any_of HT_.out (by kernel_rfl)) (fun _ _ _ h => h) (Or.inl ⟨by rfl, ?_⟩) ?_ ?_
       rotate_left
       ·intro w'
        go_simp
        with_reducible rfl
       rotate_left
       ·simp only [Act.put, List.setIfInBounds_toArray, List.set_cons_zero, List.set_cons_succ, i64_w, i32_w]
        rfl
       refine pure_ (i := 3) (N := some 16) (v := ?_) (a' := ?_) #[true, true, true, true, false, false, false, false, false, false, false, false] rfl rfl (any_of HT_.out (by kernel_rfl)) (fun _ _ _ h => h) (Or.inl ⟨by rfl, ?_⟩) ?_ ?_
       rotate_left
       ·intro w'
        go_simp
        with_reducible rfl
       rotate_left
       ·simp only [Act.put, List.setIfInBounds_toArray, List.set_cons_zero, List.set_cons_succ, i64_w, i32_w]
        rfl
       refine pure_ (i := 4) (N := some 17) (v := undef) (a' := ?_) #[true, true, true, true, true, false, false, false, false, false, false, false] rfl rfl (any_of HT_.out (by kernel_rfl)) (fun _ _ _ h => h) (Or.inr ⟨by rfl, rfl⟩) ?_ ?_
       rotate_left
       ·simp only [Act.put, List.setIfInBounds_toArray, List.set_cons_zero, List.set_cons_succ, i64_w, i32_w]
        rfl
       refine pure_ (i := 5) (N := some 18) (v := undef) (a' := ?_) #[true, true, true, true, true, true, false, false, false, false, false, false] rfl rfl (any_of HT_.out (by kernel_rfl)) (fun _ _ _ h => h) (Or.inr ⟨by rfl, rfl⟩) ?_ ?_
       rotate_left
       ·simp only [Act.put, List.setIfInBounds_toArray, List.set_cons_zero, List.set_cons_succ, i64_w, i32_w]
        rfl
       refine pure_ (i := 6) (N := some 19) (v := undef) (a' := ?_) #[true, true, true, true, true, true, true, false, false, false, false, false] rfl rfl (any_of HT_.out (by kernel_rfl)) (fun _ _ _ h => h) (Or.inr ⟨by rfl, rfl⟩) ?_ ?_
       rotate_left
       ·simp only [Act.put, List.setIfInBounds_toArray, List.set_cons_zero, List.set_cons_succ, i64_w, i32_w]
        rfl
       refine pure_ (i := 7) (N := some 20) (v := undef) (a' := ?_) #[true, true, true, true, true, true, true, true, false, false, false, false] rfl rfl (any_of HT_.out (by kernel_rfl)) (fun _ _ _ h => h) (Or.inr ⟨by rfl, rfl⟩) ?_ ?_
       rotate_left
       ·simp only [Act.put, List.setIfInBounds_toArray, List.set_cons_zero, List.set_cons_succ, i64_w, i32_w]
        rfl
       refine pure_ (i := 8) (N := some 21) (v := undef) (a' := ?_) #[true, true, true, true, true, true, true, true, true, false, false, false] rfl rfl (any_of HT_.out (by kernel_rfl)) (fun _ _ _ h => h) (Or.inr ⟨by rfl, rfl⟩) ?_ ?_
       rotate_left
       ·simp only [Act.put, List.setIfInBounds_toArray, List.set_cons_zero, List.set_cons_succ, i64_w, i32_w]
        rfl
       refine pure_ (i := 9) (N := some 22) (v := undef) (a' := ?_) #[true, true, true, true, true, true, true, true, true, true, false, false] rfl rfl (any_of HT_.out (by kernel_rfl)) (fun _ _ _ h => h) (Or.inr ⟨by rfl, rfl⟩) ?_ ?_
       rotate_left
       ·simp only [Act.put, List.setIfInBounds_toArray, List.set_cons_zero, List.set_cons_succ, i64_w, i32_w]
        rfl
       refine pure_ (i := 10) (N := some 23) (v := undef) (a' := ?_) #[true, true, true, true, true, true, true, true, true, true, true, false] rfl rfl (any_of HT_.out (by kernel_rfl)) (fun _ _ _ h => h) (Or.inr ⟨by rfl, rfl⟩) ?_ ?_
       rotate_left
       ·simp only [Act.put, List.setIfInBounds_toArray, List.set_cons_zero, List.set_cons_succ, i64_w, i32_w]
        rfl
       refine pure_ (i := 11) (N := some 24) (v := ?_) (a' := ?_) #[true, true, true, true, true, true, true, true, true, true, true, true] rfl rfl (any_of HT_.out (by kernel_rfl)) (fun _ _ _ h => h) (Or.inl ⟨by rfl, ?_⟩) ?_ ?_
       rotate_left
       ·intro w'
        go_simp
        with_reducible rfl
       rotate_left
       ·simp only [Act.put, List.setIfInBounds_toArray, List.set_cons_zero, List.set_cons_succ, i64_w, i32_w]
        rfl
       refine done_ (done_of HT_.out (by kernel_rfl)) ?_
       try go_wp2
       go_ret
       exact ⟨by first | rfl | (simp [errW_none, errW_some] <;> rfl) | (simp [*, errW_none, errW_some] <;> rfl), HB.out⟩
     ·rw [if_neg c6] at H
      exact absurd H (by simp)
    ·rw [if_neg c5] at H
     exact absurd H (by simp)
   ·rw [if_neg c4] at H
    have c4b0 : decide (x8_1 < (l0_0.length : Int)) = false := decide_eq_false c4
    clear c4
    obtain rfl := Option.some.inj H
    have hcz34_0 : wr.cell? ⟨gb104, 0, none⟩ = some (.slice A0_0 l0_0.length c0_0) := (blk_cell BK104.out 0).trans rfl
    have hfz34_0 := blk_frozen BK104.out 0
    go_wp2
    go_ret
    exact ⟨by first | rfl | (simp [errW_none, errW_some] <;> rfl) | (simp [*, errW_none, errW_some] <;> rfl), HB.out⟩

end Go.Proofs.Ytcjnjgafhfkegaa.Px
