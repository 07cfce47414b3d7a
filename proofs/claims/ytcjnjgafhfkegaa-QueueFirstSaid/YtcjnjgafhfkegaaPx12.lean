/- Walks of functions of this seat, written by a program of this workplace out of the translation. -/
import Derived.Test.YtcjnjgafhfkegaaPx0
import Derived.Test.YtcjnjgafhfkegaaPx1
import Derived.Test.YtcjnjgafhfkegaaPx2
import Derived.Test.YtcjnjgafhfkegaaPx4
import Derived.Test.YtcjnjgafhfkegaaPx5
import Derived.Test.YtcjnjgafhfkegaaPx6
import Derived.Test.YtcjnjgafhfkegaaPx9s
namespace Go.Proofs.Ytcjnjgafhfkegaa.Px
open Go.RowKit Go.Proofs.YtcjnjgafhfkegaaW.PrintWords Go.Proofs.YtcjnjgafhfkegaaW.PrintLast Go.Proofs.YtcjnjgafhfkegaaW.PrintMore
attribute [local go_sem] max2_int min2_int max_two min_two max_three min_three max_four min_four   -- for this text's walks alone
set_option linter.unusedVariables false
set_option linter.unusedSimpArgs false

attribute [local go_sem high] eqA26
/-! ### slotmeshlaw27_QueueFirst: function 4 -/
mutual
def slotmeshlaw27_QueueFirst.l0 : Nat → Int → Bool → List (S26) → List (S39) → Int → Int → List (S26) → Option (Bool)
 | 0, _, _, _, _, _, _, _ => none
 | k + 1, x1, x5, x7, x19, x20, x21, x333000 => if x21 < x20 then (if 0 ≤ x21 then (if x21 < (x19.length : Int) then ((queue_Head.f k x333000).bind fun bt336 => (if bt336.2.2.2.2.2 = true then (if (x7.length : Int) > 0 then (if 0 < (x7.length : Int) then (slotmeshlaw27_QueueFirst.j1 k x1 x5 x7 bt336.2.2.2.2.2 x19 x20 x21 (!(bt336.1 == ((rd_T26 x7 0).f0)) || (!(bt336.2.1 == ((rd_T26 x7 0).f1)) || (!(bt336.2.2.1 == ((rd_T26 x7 0).f2)) || (!(bt336.2.2.2.1 == ((rd_T26 x7 0).f3)) || (!(bt336.2.2.2.2.1 == ((rd_T26 x7 0).f4))))))) x333000 ((rd_T39 x19 x21).f0) ((rd_T39 x19 x21).f1.f0) ((rd_T39 x19 x21).f1.f1) ((rd_T39 x19 x21).f1.f2) ((rd_T39 x19 x21).f1.f3) ((rd_T39 x19 x21).f1.f4) bt336.1 bt336.2.1 bt336.2.2.1 bt336.2.2.2.1 bt336.2.2.2.2.1) else (none)) else (slotmeshlaw27_QueueFirst.j1 k x1 x5 x7 bt336.2.2.2.2.2 x19 x20 x21 true x333000 ((rd_T39 x19 x21).f0) ((rd_T39 x19 x21).f1.f0) ((rd_T39 x19 x21).f1.f1) ((rd_T39 x19 x21).f1.f2) ((rd_T39 x19 x21).f1.f3) ((rd_T39 x19 x21).f1.f4) bt336.1 bt336.2.1 bt336.2.2.1 bt336.2.2.2.1 bt336.2.2.2.2.1)) else (if (x7.length : Int) > 0 then (slotmeshlaw27_QueueFirst.j1 k x1 x5 x7 bt336.2.2.2.2.2 x19 x20 x21 true x333000 ((rd_T39 x19 x21).f0) ((rd_T39 x19 x21).f1.f0) ((rd_T39 x19 x21).f1.f1) ((rd_T39 x19 x21).f1.f2) ((rd_T39 x19 x21).f1.f3) ((rd_T39 x19 x21).f1.f4) bt336.1 bt336.2.1 bt336.2.2.1 bt336.2.2.2.1 bt336.2.2.2.2.1) else (slotmeshlaw27_QueueFirst.j1 k x1 x5 x7 bt336.2.2.2.2.2 x19 x20 x21 false x333000 ((rd_T39 x19 x21).f0) ((rd_T39 x19 x21).f1.f0) ((rd_T39 x19 x21).f1.f1) ((rd_T39 x19 x21).f1.f2) ((rd_T39 x19 x21).f1.f3) ((rd_T39 x19 x21).f1.f4) bt336.1 bt336.2.1 bt336.2.2.1 bt336.2.2.2.1 bt336.2.2.2.2.1)))) else (none)) else (none)) else (if x5 = true then ((slotmeshref27_Same.f k x333000 x7).bind fun t333 => (some t333)) else (some false))
def slotmeshlaw27_QueueFirst.j1 : Nat → Int → Bool → List (S26) → Bool → List (S39) → Int → Int → Bool → List (S26) → Bool → Int → Int → Int → Int → Int → Int → Int → Int → Int → Int → Option (Bool)
 | 0, _, _, _, _, _, _, _, _, _, _, _, _, _, _, _, _, _, _, _, _ => none
 | k + 1, x1, x5, x7, x11, x19, x20, x21, x44, x333000, x336000, x336001, x336002, x336003, x336004, x336005, x343000, x343001, x343002, x343003, x343004 => if x44 = true then (some false) else (if x336000 = true then (if x11 = true then ((queue_Drop.f k x333000 x343000 x343001).bind fun t344 => (if 1 ≤ (x7.length : Int) then (slotmeshlaw27_QueueFirst.l0 k x1 x5 (x7.drop (1 : Int).toNat) x19 x20 (wrap64 (x21 + 1)) t344) else (none))) else (slotmeshlaw27_QueueFirst.l0 k x1 x5 x7 x19 x20 (wrap64 (x21 + 1)) x333000)) else ((queue_Put.f k x333000 x336001 x336002 x336003 x336004 x336005 x1).bind fun bt350 => (if bt350.2 = 0 then (if 0 ≤ (x7.length : Int) then (if (x7.length : Int) ≤ (x7.length : Int) then ((some (x7.take ((x7.length : Int) : Int).toNat : List (S26))).bind fun y355 => (if y355.length < 3518437208883 then (slotmeshlaw27_QueueFirst.l0 k x1 x5 (y355 ++ [(⟨x336001, x336002, x336003, x336004, x336005⟩ : S26)]) x19 x20 (wrap64 (x21 + 1)) bt350.1) else (none))) else (none)) else (none)) else (slotmeshlaw27_QueueFirst.l0 k x1 x5 x7 x19 x20 (wrap64 (x21 + 1)) x333000))))
end
def slotmeshlaw27_QueueFirst.f (k : Nat) (l0 : List (S39)) (a1 : Int) : Option (Bool) := (slotmeshlaw27_head.f).bind fun t331 => (if (l0.length : Int) > 100 then (some t331) else (slotmeshlaw27_QueueFirst.l0 k a1 t331 ([] : List (S26)) l0 (l0.length : Int) 0 ([] : List (S26))))
theorem slotmeshlaw27_QueueFirst.mono_l : ∀ k, (∀ y0 y1 y2 y3 y4 y5 y6, LeO (slotmeshlaw27_QueueFirst.l0 k y0 y1 y2 y3 y4 y5 y6) (slotmeshlaw27_QueueFirst.l0 (k + 1) y0 y1 y2 y3 y4 y5 y6)) ∧ (∀ y0 y1 y2 y3 y4 y5 y6 y7 y8 y9 y10 y11 y12 y13 y14 y15 y16 y17 y18 y19, LeO (slotmeshlaw27_QueueFirst.j1 k y0 y1 y2 y3 y4 y5 y6 y7 y8 y9 y10 y11 y12 y13 y14 y15 y16 y17 y18 y19) (slotmeshlaw27_QueueFirst.j1 (k + 1) y0 y1 y2 y3 y4 y5 y6 y7 y8 y9 y10 y11 y12 y13 y14 y15 y16 y17 y18 y19))
 | 0 => ⟨fun _ _ _ _ _ _ _ r h => by simp [slotmeshlaw27_QueueFirst.l0] at h, fun _ _ _ _ _ _ _ _ _ _ _ _ _ _ _ _ _ _ _ _ r h => by simp [slotmeshlaw27_QueueFirst.j1] at h⟩
 | k + 1 => by
  obtain ⟨ih0, ih1⟩ := slotmeshlaw27_QueueFirst.mono_l k
  refine ⟨?_, ?_⟩
  ·intro y0 y1 y2 y3 y4 y5 y6
   unfold slotmeshlaw27_QueueFirst.l0
   repeat' first
   | (with_reducible exact ih0 _ _ _ _ _ _ _)
   | (with_reducible exact ih1 _ _ _ _ _ _ _ _ _ _ _ _ _ _ _ _ _ _ _ _)
   | (with_reducible exact queue_Drop.mono _ _ _ _)
   | (with_reducible exact queue_Head.mono _ _)
   | (with_reducible exact queue_Put.mono _ _ _ _ _ _ _ _)
   | (with_reducible exact slotmeshref27_Same.mono _ _ _)
   | (with_reducible exact LeO.refl _)
   | (with_reducible exact LeO.none _)
   | (with_reducible refine LeO.ite ?_ ?_)
   | (with_reducible refine LeO.bind ?_ (fun _ => ?_))
   | exact ih0 _ _ _ _ _ _ _
   | exact ih1 _ _ _ _ _ _ _ _ _ _ _ _ _ _ _ _ _ _ _ _
   | exact queue_Drop.mono _ _ _ _
   | exact queue_Head.mono _ _
   | exact queue_Put.mono _ _ _ _ _ _ _ _
   | exact slotmeshref27_Same.mono _ _ _
   | exact LeO.none _
   | refine LeO.ite ?_ ?_
   | refine LeO.bind ?_ (fun _ => ?_)
  ·intro y0 y1 y2 y3 y4 y5 y6 y7 y8 y9 y10 y11 y12 y13 y14 y15 y16 y17 y18 y19
   unfold slotmeshlaw27_QueueFirst.j1
   repeat' first
   | (with_reducible exact ih0 _ _ _ _ _ _ _)
   | (with_reducible exact ih1 _ _ _ _ _ _ _ _ _ _ _ _ _ _ _ _ _ _ _ _)
   | (with_reducible exact queue_Drop.mono _ _ _ _)
   | (with_reducible exact queue_Head.mono _ _)
   | (with_reducible exact queue_Put.mono _ _ _ _ _ _ _ _)
   | (with_reducible exact slotmeshref27_Same.mono _ _ _)
   | (with_reducible exact LeO.refl _)
   | (with_reducible exact LeO.none _)
   | (with_reducible refine LeO.ite ?_ ?_)
   | (with_reducible refine LeO.bind ?_ (fun _ => ?_))
   | exact ih0 _ _ _ _ _ _ _
   | exact ih1 _ _ _ _ _ _ _ _ _ _ _ _ _ _ _ _ _ _ _ _
   | exact queue_Drop.mono _ _ _ _
   | exact queue_Head.mono _ _
   | exact queue_Put.mono _ _ _ _ _ _ _ _
   | exact slotmeshref27_Same.mono _ _ _
   | exact LeO.none _
   | refine LeO.ite ?_ ?_
   | refine LeO.bind ?_ (fun _ => ?_)
theorem slotmeshlaw27_QueueFirst.mono : ∀ a0 a1 k, LeO (slotmeshlaw27_QueueFirst.f k a0 a1) (slotmeshlaw27_QueueFirst.f (k + 1) a0 a1) := by
 intro a0 a1 k
 obtain ⟨ih0, ih1⟩ := slotmeshlaw27_QueueFirst.mono_l k
 unfold slotmeshlaw27_QueueFirst.f
 repeat' first
   | (with_reducible exact ih0 _ _ _ _ _ _ _)
   | (with_reducible exact ih1 _ _ _ _ _ _ _ _ _ _ _ _ _ _ _ _ _ _ _ _)
   | (with_reducible exact queue_Drop.mono _ _ _ _)
   | (with_reducible exact queue_Head.mono _ _)
   | (with_reducible exact queue_Put.mono _ _ _ _ _ _ _ _)
   | (with_reducible exact slotmeshref27_Same.mono _ _ _)
   | (with_reducible exact LeO.refl _)
   | (with_reducible exact LeO.none _)
   | (with_reducible refine LeO.ite ?_ ?_)
   | (with_reducible refine LeO.bind ?_ (fun _ => ?_))
   | exact ih0 _ _ _ _ _ _ _
   | exact ih1 _ _ _ _ _ _ _ _ _ _ _ _ _ _ _ _ _ _ _ _
   | exact queue_Drop.mono _ _ _ _
   | exact queue_Head.mono _ _
   | exact queue_Put.mono _ _ _ _ _ _ _ _
   | exact slotmeshref27_Same.mono _ _ _
   | exact LeO.none _
   | refine LeO.ite ?_ ?_
   | refine LeO.bind ?_ (fun _ => ?_)
def slotmeshlaw27_QueueFirst.T10 : Bool × List (List Nat × List Nat) := (true, [([], []), ([], []), ([1], [1]), ([2], [2]), ([0, 3], [0, 3]), ([4], [4]), ([5], [5]), ([6, 5, 5], [5, 6]), ([7], [7]), ([7], [7]), ([9, 7], [7, 9]), ([10, 7], [7, 10]), ([8, 11, 7], [7, 8, 11]), ([7, 12, 5], [5, 7, 12]), ([5, 13], [5, 13])])
def slotmeshlaw27_QueueFirst.B10 : List Nat := [0, 0, 2, 6, 15, 31, 63, 127, 255, 255, 767, 1791, 4095, 8191, 16383]
theorem slotmeshlaw27_QueueFirst.tab10 : rtab .any (opsOf Try.f4 10) = slotmeshlaw27_QueueFirst.T10 := by kernel_rfl
theorem slotmeshlaw27_QueueFirst.bits10 : waitsOk slotmeshlaw27_QueueFirst.T10.2 slotmeshlaw27_QueueFirst.B10 = true := by kernel_rfl
def slotmeshlaw27_QueueFirst.T19 : Bool × List (List Nat × List Nat) := (true, [([], []), ([], []), ([1], [1]), ([], []), ([3], [3]), ([0, 2, 4], [0, 2, 4]), ([], []), ([6], [6]), ([7], [7]), ([5, 8], [5, 8]), ([9, 9, 0, 1, 2, 3, 4, 5, 6, 7, 8, 9], [0, 1, 3, 9])])
def slotmeshlaw27_QueueFirst.B19 : List Nat := [0, 0, 2, 0, 8, 31, 0, 64, 192, 511, 1023]
theorem slotmeshlaw27_QueueFirst.tab19 : rtab .any (opsOf Try.f4 19) = slotmeshlaw27_QueueFirst.T19 := by kernel_rfl
theorem slotmeshlaw27_QueueFirst.bits19 : waitsOk slotmeshlaw27_QueueFirst.T19.2 slotmeshlaw27_QueueFirst.B19 = true := by kernel_rfl
set_option maxHeartbeats 8000000 in
set_option maxRecDepth 100000 in
theorem slotmeshlaw27_QueueFirst.calls (k : Nat) (A0 : Option Addr) (c0 : Nat) (l0 : List (S39)) (a1 : Int) (r : Bool) (w : World) (hrt : r = true) (hr0 : Kd.C k39 w A0 l0.length l0) (hc0 : l0.length ≤ c0) (h : slotmeshlaw27_QueueFirst.f k l0 a1 = some r) :
  Calls Try.prog 4 #[.slice A0 l0.length c0, .int .i64 a1] w fun e w' => e = .returned (.bool r) ∧ Below w.heap.size w w' := by
 have hu24 := Try.underlying24
 have hu39 := Try.underlying39
 have hu26 := Try.underlying26
 have HR0 := Aside0.mk hr0
 have HC0 := Aside0.mk hc0
 clear hr0 hc0
 have HB := Aside0.mk (Below.refl w.heap.size w)
 have HRT := Aside0.mk hrt
 clear hrt
 have H : ((slotmeshlaw27_head.f).bind fun t331 => (if (l0.length : Int) > 100 then (some t331) else (slotmeshlaw27_QueueFirst.l0 k a1 t331 ([] : List (S26)) l0 (l0.length : Int) 0 ([] : List (S26))))) = some r := h
 clear h
 replace H := Option.bind_eq_some_iff.mp H
 obtain ⟨t331, A30, H⟩ := H
 replace H : (if (l0.length : Int) > 100 then (some t331) else (slotmeshlaw27_QueueFirst.l0 k a1 t331 ([] : List (S26)) l0 (l0.length : Int) 0 ([] : List (S26)))) = some r := H
 have A3 := Aside0.mk A30
 clear A30
 by_cases c4 : (l0.length : Int) > 100
 ·rw [if_pos c4] at H
  have c4b0 : decide (100 < (l0.length : Int)) = true := decide_eq_true c4
  have c4b1 : decide (100 < l0.length) = true := decide_eq_true (by omega)
  clear c4
  obtain rfl := Option.some.inj H
  go_enter Try.func4, Try.ntmps4
  go_wp2_with (first | ((with_reducible refine gate_callee (f := 9) rfl ?_); refine goesL_ (some 14) rfl rfl Try.func9 (by kernel_rfl) rfl #[] rfl (by (try simp only [List.map_toArray, List.map_cons, List.map_nil]); first | done | rfl | (simp only [List.length_drop, List.length_take]; rfl)) ?_; (with_reducible refine (slotmeshlaw27_head.calls  t331 _ A3.out).mono ?_); rintro e w5 ⟨rfl, hb⟩; refine ⟨_, rfl, ?_⟩; have n0_ := Aside0.mk (below_step (by repeat (first | (with_reducible first | exact HB.out | apply below_alloc | apply pw_below_drewN | apply below_drew1) | exact HB.out)) hb); clear HB; have HB := n0_; clear n0_; (try clear hb); (try clear hb2); (try clear hk); (try clear hi)))
  go_ret
  exact ⟨by first | rfl | (simp [errW_none, errW_some] <;> rfl) | (simp [*, errW_none, errW_some] <;> rfl), by repeat (first | (with_reducible first | exact HB.out | apply below_alloc | apply pw_below_drewN | apply below_drew1) | exact HB.out)⟩
 ·rw [if_neg c4] at H
  have c4b0 : decide (100 < (l0.length : Int)) = false := decide_eq_false c4
  have c4b1 : decide (100 < l0.length) = false := decide_eq_false (by omega)
  clear c4
  have H' := Aside0.mk H
  clear H
  go_enter Try.func4, Try.ntmps4
  go_wp2_with (first | ((with_reducible refine gate_callee (f := 9) rfl ?_); refine goesL_ (some 14) rfl rfl Try.func9 (by kernel_rfl) rfl #[] rfl (by (try simp only [List.map_toArray, List.map_cons, List.map_nil]); first | done | rfl | (simp only [List.length_drop, List.length_take]; rfl)) ?_; (with_reducible refine (slotmeshlaw27_head.calls  t331 _ A3.out).mono ?_); rintro e w6 ⟨rfl, hb⟩; refine ⟨_, rfl, ?_⟩; have n0_ := Aside0.mk (below_step (by repeat (first | (with_reducible first | exact HB.out | apply below_alloc | apply pw_below_drewN | apply below_drew1) | exact HB.out)) hb); clear HB; have HB := n0_; clear n0_; (try clear hb); (try clear hb2); (try clear hk); (try clear hi)) | ((with_reducible refine gate_dst (N := 6) rfl ?_); refine box_event ?hg (N := 6) ?hd (cs := #[.slice none 0 0]) (t := 24) ?hr ?_; (case hd => rfl); (case hg => rfl); (case hr => first | (go_simp; done) | (go_simp; rfl)); intro gb332 hg w7 hbox hb; have n0_ := Aside0.mk (below_step (by repeat (first | (with_reducible first | exact HB.out | apply below_alloc | apply pw_below_drewN | apply below_drew1) | exact HB.out)) hb); have n1_ := Aside0.mk (hbox); have n2_ := Aside0.mk ((by rw [hg]; exact (below_size (by repeat (first | (with_reducible first | exact HB.out | apply below_alloc | apply pw_below_drewN | apply below_drew1) | exact HB.out))) : w.heap.size ≤ gb332)); have n3_ := Aside0.mk ((by rw [hg]; exact (below_size (by repeat (first | (with_reducible first | exact HB.out | apply below_alloc | apply pw_below_drewN | apply below_drew1) | exact HB.out))) : w.heap.size ≤ gb332)); clear HB; have HB := n0_; have BK332 := n1_; have GW332 := n2_; have GE332 := n3_; clear n0_ n1_ n2_ n3_; clear hb hbox hg))
  go_loopg [7, 21] k (fun kq v7 v21 w' => ∃ (x7_1 : List (S26)) (x21_1 : Int) (x333000_1 : List (S26)) (u333000 : Value), v21 = .int .i64 x21_1 ∧ Aside0 (slotmeshlaw27_QueueFirst.l0 kq a1 t331 x7_1 l0 (l0.length : Int) x21_1 x333000_1 = some r) ∧ Aside0 (kq ≤ k) ∧ Aside0 (Kd.Q k26 26 w' w.heap.size (fun k_ => some k_ ≠ (u333000 : Value).ownBlock) v7 x7_1) ∧ Aside0 (Kd.R k26 26 w' w.heap.size (fun k_ => some k_ ≠ (v7 : Value).ownBlock) u333000 x333000_1) ∧ Aside0 (w'.heap[gb332]? = some (.cells #[u333000] 24 (0, 0))) ∧ Aside0 (Below w.heap.size w w'))
  case atStart => exact ⟨(([] : List (S26))), (0), (([] : List (S26))), (.slice none 0 0), (by first | rfl | (simp; done) | (simp [*]; done)), H', ⟨Nat.le_refl _⟩, ⟨Kd.Q_of_R (by first | exact Kd.R_nil _ _ _ _ _ | exact Kd.N_nil _ _ _ _ _ | exact Kd.V_nil _ _ _ _ _ | exact Kd.Q_nil _ _ _ _ _ | exact Kd.S_nil _ _ _ _ _)⟩, ⟨by first | exact Kd.R_nil _ _ _ _ _ | exact Kd.N_nil _ _ _ _ _ | exact Kd.V_nil _ _ _ _ _ | exact Kd.Q_nil _ _ _ _ _ | exact Kd.S_nil _ _ _ _ _⟩, ⟨by (with_reducible repeat (first | refine blk_drewN ?_ _ | refine blk_drew ?_ | refine blk_alloc ?_ _)); exact BK332.out⟩, ⟨by repeat (first | (with_reducible first | exact HB.out | apply below_alloc | apply pw_below_drewN | apply below_drew1 | refine below_set ?_ GE332.out) | exact HB.out)⟩⟩
  case round =>
   clear H'
   try clear p2
   try clear c4
   try clear c4b0
   try clear c4b1
   obtain ⟨x7_1, x21_1, x333000_1, u333000, rfl, HA, HK1, HO_7, HO_333000, BK332, HB⟩ := hrel
   cases gk with
   | zero => exact absurd HA.out (by simp [slotmeshlaw27_QueueFirst.l0])
   | succ k1 =>
    have H := HA.out
    clear HA
    simp only [slotmeshlaw27_QueueFirst.l0] at H
    by_cases c8 : x21_1 < (l0.length : Int)
    ·rw [if_pos c8] at H
     have c8b0 : decide (x21_1 < (l0.length : Int)) = true := decide_eq_true c8
     clear c8
     by_cases c9 : 0 ≤ x21_1
     ·rw [if_pos c9] at H
      have c9b0 : decide (0 ≤ x21_1) = true := decide_eq_true c9
      clear c9
      by_cases c10 : x21_1 < (l0.length : Int)
      ·rw [if_pos c10] at H
       have c10b0 : decide (x21_1 < (l0.length : Int)) = true := decide_eq_true c10
       clear c10
       replace H := Option.bind_eq_some_iff.mp H
       obtain ⟨⟨t336, t337, t338, t339, t340, t341⟩, A110, H⟩ := H
       replace H : (if t341 = true then (if (x7_1.length : Int) > 0 then (if 0 < (x7_1.length : Int) then (slotmeshlaw27_QueueFirst.j1 k1 a1 t331 x7_1 t341 l0 (l0.length : Int) x21_1 (!(t336 == ((rd_T26 x7_1 0).f0)) || (!(t337 == ((rd_T26 x7_1 0).f1)) || (!(t338 == ((rd_T26 x7_1 0).f2)) || (!(t339 == ((rd_T26 x7_1 0).f3)) || (!(t340 == ((rd_T26 x7_1 0).f4))))))) x333000_1 ((rd_T39 l0 x21_1).f0) ((rd_T39 l0 x21_1).f1.f0) ((rd_T39 l0 x21_1).f1.f1) ((rd_T39 l0 x21_1).f1.f2) ((rd_T39 l0 x21_1).f1.f3) ((rd_T39 l0 x21_1).f1.f4) t336 t337 t338 t339 t340) else (none)) else (slotmeshlaw27_QueueFirst.j1 k1 a1 t331 x7_1 t341 l0 (l0.length : Int) x21_1 true x333000_1 ((rd_T39 l0 x21_1).f0) ((rd_T39 l0 x21_1).f1.f0) ((rd_T39 l0 x21_1).f1.f1) ((rd_T39 l0 x21_1).f1.f2) ((rd_T39 l0 x21_1).f1.f3) ((rd_T39 l0 x21_1).f1.f4) t336 t337 t338 t339 t340)) else (if (x7_1.length : Int) > 0 then (slotmeshlaw27_QueueFirst.j1 k1 a1 t331 x7_1 t341 l0 (l0.length : Int) x21_1 true x333000_1 ((rd_T39 l0 x21_1).f0) ((rd_T39 l0 x21_1).f1.f0) ((rd_T39 l0 x21_1).f1.f1) ((rd_T39 l0 x21_1).f1.f2) ((rd_T39 l0 x21_1).f1.f3) ((rd_T39 l0 x21_1).f1.f4) t336 t337 t338 t339 t340) else (slotmeshlaw27_QueueFirst.j1 k1 a1 t331 x7_1 t341 l0 (l0.length : Int) x21_1 false x333000_1 ((rd_T39 l0 x21_1).f0) ((rd_T39 l0 x21_1).f1.f0) ((rd_T39 l0 x21_1).f1.f1) ((rd_T39 l0 x21_1).f1.f2) ((rd_T39 l0 x21_1).f1.f3) ((rd_T39 l0 x21_1).f1.f4) t336 t337 t338 t339 t340))) = some r := H
       have A11 := Aside0.mk A110
       clear A110
       have HC12 := Aside0.mk H
       clear H
       have p334 : 0 ≤ (x21_1 : Int) := of_decide_eq_true (by first | (with_reducible assumption) | assumption)
       have q334 : x21_1 < (l0.length : Int) := of_decide_eq_true (by first | (with_reducible assumption) | assumption)
       obtain ⟨ad334, e334, hx334_0, hx334_1, hx334_2, hx334_3, hx334_4, hx334_5⟩ := at_T39 HR0.out x21_1 p334 q334
       cases e334
       replace hx334_0 := (HB.out.cell (World.block_lt_of_cell? w _ hx334_0)).trans hx334_0
       replace hx334_1 := (HB.out.cell (World.block_lt_of_cell? w _ hx334_1)).trans hx334_1
       replace hx334_2 := (HB.out.cell (World.block_lt_of_cell? w _ hx334_2)).trans hx334_2
       replace hx334_3 := (HB.out.cell (World.block_lt_of_cell? w _ hx334_3)).trans hx334_3
       replace hx334_4 := (HB.out.cell (World.block_lt_of_cell? w _ hx334_4)).trans hx334_4
       replace hx334_5 := (HB.out.cell (World.block_lt_of_cell? w _ hx334_5)).trans hx334_5
       replace p334 := eq_true p334
       replace q334 := eq_true q334
       go_upto_region 10 with (first | ((with_reducible refine gate_dst (N := 9) rfl ?_); refine box_event ?hg (N := 9) ?hd (cs := #[.bool false, .int .i64 0, .int .i64 0, .int .i64 0, .int .i64 0, .int .i64 0]) (t := 39) ?hr ?_; (case hd => rfl); (case hg => rfl); (case hr => first | (go_simp; done) | (go_simp; rfl)); intro gb335 hg w13 hbox hb; have n0_ := Aside0.mk (Kd.Q_below (by (with_reducible repeat (first | apply Kd.Q_alloc | apply Kd.Q_drewN | apply Kd.Q_drew)); exact HO_7.out) hb); have n1_ := Aside0.mk (Kd.R_below (by (with_reducible repeat (first | apply Kd.R_alloc | apply Kd.R_drewN | apply Kd.R_drew)); exact HO_333000.out) hb); have n2_ := Aside0.mk (blk_below (g := gb332) (o := .cells #[u333000] 24 (0, 0)) (by (with_reducible repeat (first | refine blk_drewN ?_ _ | refine blk_drew ?_ | refine blk_alloc ?_ _)); exact BK332.out) hb); have n3_ := Aside0.mk (below_step (by repeat (first | (with_reducible first | exact HB.out | apply below_alloc | apply pw_below_drewN | apply below_drew1 | refine below_set ?_ GE332.out) | exact HB.out)) hb); have n4_ := Aside0.mk (hbox); have n5_ := Aside0.mk ((by rw [hg]; exact (below_size (by repeat (first | (with_reducible first | exact HB.out | apply below_alloc | apply pw_below_drewN | apply below_drew1 | refine below_set ?_ GE332.out) | exact HB.out))) : w.heap.size ≤ gb335)); have n6_ := Aside0.mk ((by rw [hg]; exact (below_size (by repeat (first | (with_reducible first | exact HB.out | apply below_alloc | apply pw_below_drewN | apply below_drew1 | refine below_set ?_ GE332.out) | exact HB.out))) : w.heap.size ≤ gb335)); have n7_ := Aside0.mk ((by rw [hg]; exact Nat.ne_of_lt (blk_lt (g := gb332) (o := .cells #[u333000] 24 (0, 0)) (by (with_reducible repeat (first | refine blk_drewN ?_ _ | refine blk_drew ?_ | refine blk_alloc ?_ _)); exact BK332.out)) : gb332 ≠ gb335)); have n8_ := Aside0.mk ((by rw [hg]; exact Nat.ne_of_gt (blk_lt (g := gb332) (o := .cells #[u333000] 24 (0, 0)) (by (with_reducible repeat (first | refine blk_drewN ?_ _ | refine blk_drew ?_ | refine blk_alloc ?_ _)); exact BK332.out)) : gb335 ≠ gb332)); clear HO_7; clear HO_333000; clear BK332; clear HB; have HO_7 := n0_; have HO_333000 := n1_; have BK332 := n2_; have HB := n3_; have BK335 := n4_; have GW335 := n5_; have GE335 := n6_; have NB332_335 := n7_; have NB335_332 := n8_; clear n0_ n1_ n2_ n3_ n4_ n5_ n6_ n7_ n8_; clear hb hbox hg; have hnb14 := NB335_332.out; have hnc14 := NB332_335.out; have hcz15_0 : w13.cell? ⟨gb335, 0, none⟩ = some (.bool false) := (blk_cell BK335.out 0).trans rfl; have hcz15_1 : w13.cell? ⟨gb335, 1, none⟩ = some (.int .i64 0) := (blk_cell BK335.out 1).trans rfl; have hcz15_2 : w13.cell? ⟨gb335, 2, none⟩ = some (.int .i64 0) := (blk_cell BK335.out 2).trans rfl; have hcz15_3 : w13.cell? ⟨gb335, 3, none⟩ = some (.int .i64 0) := (blk_cell BK335.out 3).trans rfl; have hcz15_4 : w13.cell? ⟨gb335, 4, none⟩ = some (.int .i64 0) := (blk_cell BK335.out 4).trans rfl; have hcz15_5 : w13.cell? ⟨gb335, 5, none⟩ = some (.int .i64 0) := (blk_cell BK335.out 5).trans rfl; have hfz15_0 := blk_frozen BK335.out 0; have hfz15_1 := blk_frozen BK335.out 1; have hfz15_2 := blk_frozen BK335.out 2; have hfz15_3 := blk_frozen BK335.out 3; have hfz15_4 := blk_frozen BK335.out 4; have hfz15_5 := blk_frozen BK335.out 5; have hcz16_0 : w13.cell? ⟨gb332, 0, none⟩ = some (u333000) := (blk_cell BK332.out 0).trans rfl; have hfz16_0 := blk_frozen BK332.out 0; obtain ⟨Ao17, co17, eo17⟩ := Kd.R_slice HO_333000.out; subst eo17) | ((with_reducible refine gate_callee (f := 13) rfl ?_); refine goesL_ (some 27) rfl rfl Try.func13 (by kernel_rfl) rfl #[.agg #[.slice Ao17 x333000_1.length co17]] rfl (by (try simp only [List.map_toArray, List.map_cons, List.map_nil]); first | done | rfl | (simp only [List.length_drop, List.length_take]; rfl)) ?_; (with_reducible refine (queue_Head.calls k1 _ _ x333000_1 t336 t337 t338 t339 t340 t341 _ ?side1 ?side2 A11.out).mono ?_); (case side1 => refine (Kd.R_reads' (e := 26) (base := w.heap.size) (ok := fun k_ => some k_ ≠ (u7 : Value).ownBlock) (n := x333000_1.length) (c := co17) ?_).2.2; exact (by (with_reducible repeat (first | apply Kd.R_alloc | apply Kd.R_drewN | apply Kd.R_drew)); exact (Kd.R_mono (Kd.R_far (p := ⟨gb335, 5, none⟩) (Kd.R_far (p := ⟨gb335, 4, none⟩) (Kd.R_far (p := ⟨gb335, 3, none⟩) (Kd.R_far (p := ⟨gb335, 2, none⟩) (Kd.R_far (p := ⟨gb335, 1, none⟩) (Kd.R_far (p := ⟨gb335, 0, none⟩) (Kd.R_types HO_333000.out BK335.out (by decide)) (fun _ hk => hk.2) (.bool ((rd_T39 l0 x21_1).f0))) (fun _ hk => hk.2) (.int .i64 ((rd_T39 l0 x21_1).f1.f0))) (fun _ hk => hk.2) (.int .i64 ((rd_T39 l0 x21_1).f1.f1))) (fun _ hk => hk.2) (.int .i64 ((rd_T39 l0 x21_1).f1.f2))) (fun _ hk => hk.2) (.int .i64 ((rd_T39 l0 x21_1).f1.f3))) (fun _ hk => hk.2) (.int .i64 ((rd_T39 l0 x21_1).f1.f4))) (fun _ h_ => h_.1)))); (case side2 => exact (Kd.R_reads' HO_333000.out).2.1); rintro e w18 ⟨rfl, hb⟩; refine ⟨_, rfl, ?_⟩; have n0_ := Aside0.mk (Kd.Q_below (by (with_reducible repeat (first | apply Kd.Q_alloc | apply Kd.Q_drewN | apply Kd.Q_drew)); exact (Kd.Q_mono (Kd.Q_far (p := ⟨gb335, 5, none⟩) (Kd.Q_far (p := ⟨gb335, 4, none⟩) (Kd.Q_far (p := ⟨gb335, 3, none⟩) (Kd.Q_far (p := ⟨gb335, 2, none⟩) (Kd.Q_far (p := ⟨gb335, 1, none⟩) (Kd.Q_far (p := ⟨gb335, 0, none⟩) (Kd.Q_types HO_7.out BK335.out (by decide)) (fun _ hk => hk.2) (.bool ((rd_T39 l0 x21_1).f0))) (fun _ hk => hk.2) (.int .i64 ((rd_T39 l0 x21_1).f1.f0))) (fun _ hk => hk.2) (.int .i64 ((rd_T39 l0 x21_1).f1.f1))) (fun _ hk => hk.2) (.int .i64 ((rd_T39 l0 x21_1).f1.f2))) (fun _ hk => hk.2) (.int .i64 ((rd_T39 l0 x21_1).f1.f3))) (fun _ hk => hk.2) (.int .i64 ((rd_T39 l0 x21_1).f1.f4))) (fun _ h_ => h_.1))) hb); have n1_ := Aside0.mk (Kd.R_below (by (with_reducible repeat (first | apply Kd.R_alloc | apply Kd.R_drewN | apply Kd.R_drew)); exact (Kd.R_mono (Kd.R_far (p := ⟨gb335, 5, none⟩) (Kd.R_far (p := ⟨gb335, 4, none⟩) (Kd.R_far (p := ⟨gb335, 3, none⟩) (Kd.R_far (p := ⟨gb335, 2, none⟩) (Kd.R_far (p := ⟨gb335, 1, none⟩) (Kd.R_far (p := ⟨gb335, 0, none⟩) (Kd.R_types HO_333000.out BK335.out (by decide)) (fun _ hk => hk.2) (.bool ((rd_T39 l0 x21_1).f0))) (fun _ hk => hk.2) (.int .i64 ((rd_T39 l0 x21_1).f1.f0))) (fun _ hk => hk.2) (.int .i64 ((rd_T39 l0 x21_1).f1.f1))) (fun _ hk => hk.2) (.int .i64 ((rd_T39 l0 x21_1).f1.f2))) (fun _ hk => hk.2) (.int .i64 ((rd_T39 l0 x21_1).f1.f3))) (fun _ hk => hk.2) (.int .i64 ((rd_T39 l0 x21_1).f1.f4))) (fun _ h_ => h_.1))) hb); have n2_ := Aside0.mk (blk_below (g := gb332) (o := .cells #[.slice Ao17 x333000_1.length co17] 24 (0, 0)) (by (with_reducible repeat (first | refine blk_drewN ?_ _ | refine blk_drew ?_ | refine blk_alloc ?_ _)); refine blk_far ?_ NB332_335.out _; (with_reducible repeat (first | refine blk_drewN ?_ _ | refine blk_drew ?_ | refine blk_alloc ?_ _)); refine blk_far ?_ NB332_335.out _; (with_reducible repeat (first | refine blk_drewN ?_ _ | refine blk_drew ?_ | refine blk_alloc ?_ _)); refine blk_far ?_ NB332_335.out _; (with_reducible repeat (first | refine blk_drewN ?_ _ | refine blk_drew ?_ | refine blk_alloc ?_ _)); refine blk_far ?_ NB332_335.out _; (with_reducible repeat (first | refine blk_drewN ?_ _ | refine blk_drew ?_ | refine blk_alloc ?_ _)); refine blk_far ?_ NB332_335.out _; (with_reducible repeat (first | refine blk_drewN ?_ _ | refine blk_drew ?_ | refine blk_alloc ?_ _)); refine blk_far ?_ NB332_335.out _; (with_reducible repeat (first | refine blk_drewN ?_ _ | refine blk_drew ?_ | refine blk_alloc ?_ _)); exact BK332.out) hb); have n3_ := Aside0.mk (blk_below (g := gb335) (o := .cells #[.bool ((rd_T39 l0 x21_1).f0), .int .i64 ((rd_T39 l0 x21_1).f1.f0), .int .i64 ((rd_T39 l0 x21_1).f1.f1), .int .i64 ((rd_T39 l0 x21_1).f1.f2), .int .i64 ((rd_T39 l0 x21_1).f1.f3), .int .i64 ((rd_T39 l0 x21_1).f1.f4)] 39 (0, 0)) (by (with_reducible repeat (first | refine blk_drewN ?_ _ | refine blk_drew ?_ | refine blk_alloc ?_ _)); refine blk_put (cs := #[.bool ((rd_T39 l0 x21_1).f0), .int .i64 ((rd_T39 l0 x21_1).f1.f0), .int .i64 ((rd_T39 l0 x21_1).f1.f1), .int .i64 ((rd_T39 l0 x21_1).f1.f2), .int .i64 ((rd_T39 l0 x21_1).f1.f3), .int .i64 0]) ?_ 5 _ rfl; (with_reducible repeat (first | refine blk_drewN ?_ _ | refine blk_drew ?_ | refine blk_alloc ?_ _)); refine blk_put (cs := #[.bool ((rd_T39 l0 x21_1).f0), .int .i64 ((rd_T39 l0 x21_1).f1.f0), .int .i64 ((rd_T39 l0 x21_1).f1.f1), .int .i64 ((rd_T39 l0 x21_1).f1.f2), .int .i64 0, .int .i64 0]) ?_ 4 _ rfl; (with_reducible repeat (first | refine blk_drewN ?_ _ | refine blk_drew ?_ | refine blk_alloc ?_ _)); refine blk_put (cs := #[.bool ((rd_T39 l0 x21_1).f0), .int .i64 ((rd_T39 l0 x21_1).f1.f0), .int .i64 ((rd_T39 l0 x21_1).f1.f1), .int .i64 0, .int .i64 0, .int .i64 0]) ?_ 3 _ rfl; (with_reducible repeat (first | refine blk_drewN ?_ _ | refine blk_drew ?_ | refine blk_alloc ?_ _)); refine blk_put (cs := #[.bool ((rd_T39 l0 x21_1).f0), .int .i64 ((rd_T39 l0 x21_1).f1.f0), .int .i64 0, .int .i64 0, .int .i64 0, .int .i64 0]) ?_ 2 _ rfl; (with_reducible repeat (first | refine blk_drewN ?_ _ | refine blk_drew ?_ | refine blk_alloc ?_ _)); refine blk_put (cs := #[.bool ((rd_T39 l0 x21_1).f0), .int .i64 0, .int .i64 0, .int .i64 0, .int .i64 0, .int .i64 0]) ?_ 1 _ rfl; (with_reducible repeat (first | refine blk_drewN ?_ _ | refine blk_drew ?_ | refine blk_alloc ?_ _)); refine blk_put (cs := #[.bool false, .int .i64 0, .int .i64 0, .int .i64 0, .int .i64 0, .int .i64 0]) ?_ 0 _ rfl; (with_reducible repeat (first | refine blk_drewN ?_ _ | refine blk_drew ?_ | refine blk_alloc ?_ _)); exact BK335.out) hb); have n4_ := Aside0.mk (below_step (by repeat (first | (with_reducible first | exact HB.out | apply below_alloc | apply pw_below_drewN | apply below_drew1 | refine below_set ?_ GE332.out | refine below_set ?_ GE335.out) | exact HB.out)) hb); clear HO_7; clear HO_333000; clear BK332; clear BK335; clear HB; have HO_7 := n0_; have HO_333000 := n1_; have BK332 := n2_; have BK335 := n3_; have HB := n4_; clear n0_ n1_ n2_ n3_ n4_; (try clear hb); (try clear hb2); (try clear hk); (try clear hi)) | ((with_reducible refine gate_dst (N := 10) rfl ?_); refine box_event ?hg (N := 10) ?hd (cs := #[.int .i64 0, .int .i64 0, .int .i64 0, .int .i64 0, .int .i64 0]) (t := 26) ?hr ?_; (case hd => rfl); (case hg => rfl); (case hr => first | (go_simp; done) | (go_simp; rfl)); intro gb342 hg w19 hbox hb; have n0_ := Aside0.mk (Kd.Q_below (Kd.Q_elderB (by (with_reducible repeat (first | apply Kd.Q_alloc | apply Kd.Q_drewN | apply Kd.Q_drew)); exact HO_7.out) gb342 (Nat.le_of_eq hg.symm)) hb); have n1_ := Aside0.mk (Kd.R_below (Kd.R_elderB (by (with_reducible repeat (first | apply Kd.R_alloc | apply Kd.R_drewN | apply Kd.R_drew)); exact HO_333000.out) gb342 (Nat.le_of_eq hg.symm)) hb); have n2_ := Aside0.mk (blk_below (g := gb332) (o := .cells #[.slice Ao17 x333000_1.length co17] 24 (0, 0)) (by (with_reducible repeat (first | refine blk_drewN ?_ _ | refine blk_drew ?_ | refine blk_alloc ?_ _)); exact BK332.out) hb); have n3_ := Aside0.mk (blk_below (g := gb335) (o := .cells #[.bool ((rd_T39 l0 x21_1).f0), .int .i64 ((rd_T39 l0 x21_1).f1.f0), .int .i64 ((rd_T39 l0 x21_1).f1.f1), .int .i64 ((rd_T39 l0 x21_1).f1.f2), .int .i64 ((rd_T39 l0 x21_1).f1.f3), .int .i64 ((rd_T39 l0 x21_1).f1.f4)] 39 (0, 0)) (by (with_reducible repeat (first | refine blk_drewN ?_ _ | refine blk_drew ?_ | refine blk_alloc ?_ _)); exact BK335.out) hb); have n4_ := Aside0.mk (below_step (by repeat (first | (with_reducible first | exact HB.out | apply below_alloc | apply pw_below_drewN | apply below_drew1 | refine below_set ?_ GE332.out | refine below_set ?_ GE335.out) | exact HB.out)) hb); have n5_ := Aside0.mk (hbox); have n6_ := Aside0.mk ((by rw [hg]; exact (below_size (by repeat (first | (with_reducible first | exact HB.out | apply below_alloc | apply pw_below_drewN | apply below_drew1 | refine below_set ?_ GE332.out | refine below_set ?_ GE335.out) | exact HB.out))) : w.heap.size ≤ gb342)); have n7_ := Aside0.mk ((by rw [hg]; exact (below_size (by repeat (first | (with_reducible first | exact HB.out | apply below_alloc | apply pw_below_drewN | apply below_drew1 | refine below_set ?_ GE332.out | refine below_set ?_ GE335.out) | exact HB.out))) : w.heap.size ≤ gb342)); have n8_ := Aside0.mk ((by rw [hg]; exact Nat.ne_of_lt (blk_lt (g := gb332) (o := .cells #[.slice Ao17 x333000_1.length co17] 24 (0, 0)) (by (with_reducible repeat (first | refine blk_drewN ?_ _ | refine blk_drew ?_ | refine blk_alloc ?_ _)); exact BK332.out)) : gb332 ≠ gb342)); have n9_ := Aside0.mk ((by rw [hg]; exact Nat.ne_of_gt (blk_lt (g := gb332) (o := .cells #[.slice Ao17 x333000_1.length co17] 24 (0, 0)) (by (with_reducible repeat (first | refine blk_drewN ?_ _ | refine blk_drew ?_ | refine blk_alloc ?_ _)); exact BK332.out)) : gb342 ≠ gb332)); have n10_ := Aside0.mk ((by rw [hg]; exact Nat.ne_of_lt (blk_lt (g := gb335) (o := .cells #[.bool ((rd_T39 l0 x21_1).f0), .int .i64 ((rd_T39 l0 x21_1).f1.f0), .int .i64 ((rd_T39 l0 x21_1).f1.f1), .int .i64 ((rd_T39 l0 x21_1).f1.f2), .int .i64 ((rd_T39 l0 x21_1).f1.f3), .int .i64 ((rd_T39 l0 x21_1).f1.f4)] 39 (0, 0)) (by (with_reducible repeat (first | refine blk_drewN ?_ _ | refine blk_drew ?_ | refine blk_alloc ?_ _)); exact BK335.out)) : gb335 ≠ gb342)); have n11_ := Aside0.mk ((by rw [hg]; exact Nat.ne_of_gt (blk_lt (g := gb335) (o := .cells #[.bool ((rd_T39 l0 x21_1).f0), .int .i64 ((rd_T39 l0 x21_1).f1.f0), .int .i64 ((rd_T39 l0 x21_1).f1.f1), .int .i64 ((rd_T39 l0 x21_1).f1.f2), .int .i64 ((rd_T39 l0 x21_1).f1.f3), .int .i64 ((rd_T39 l0 x21_1).f1.f4)] 39 (0, 0)) (by (with_reducible repeat (first | refine blk_drewN ?_ _ | refine blk_drew ?_ | refine blk_alloc ?_ _)); exact BK335.out)) : gb342 ≠ gb335)); clear HO_7; clear HO_333000; clear BK332; clear BK335; clear HB; have HO_7 := n0_; have HO_333000 := n1_; have BK332 := n2_; have BK335 := n3_; have HB := n4_; have BK342 := n5_; have GW342 := n6_; have GE342 := n7_; have NB332_342 := n8_; have NB342_332 := n9_; have NB335_342 := n10_; have NB342_335 := n11_; clear n0_ n1_ n2_ n3_ n4_ n5_ n6_ n7_ n8_ n9_ n10_ n11_; clear hb hbox hg; have hnb20 := NB342_332.out; have hnc20 := NB332_342.out; have hnb21 := NB342_335.out; have hnc21 := NB335_342.out; have hcz22_0 : w19.cell? ⟨gb342, 0, none⟩ = some (.int .i64 0) := (blk_cell BK342.out 0).trans rfl; have hcz22_1 : w19.cell? ⟨gb342, 1, none⟩ = some (.int .i64 0) := (blk_cell BK342.out 1).trans rfl; have hcz22_2 : w19.cell? ⟨gb342, 2, none⟩ = some (.int .i64 0) := (blk_cell BK342.out 2).trans rfl; have hcz22_3 : w19.cell? ⟨gb342, 3, none⟩ = some (.int .i64 0) := (blk_cell BK342.out 3).trans rfl; have hcz22_4 : w19.cell? ⟨gb342, 4, none⟩ = some (.int .i64 0) := (blk_cell BK342.out 4).trans rfl; have hfz22_0 := blk_frozen BK342.out 0; have hfz22_1 := blk_frozen BK342.out 1; have hfz22_2 := blk_frozen BK342.out 2; have hfz22_3 := blk_frozen BK342.out 3; have hfz22_4 := blk_frozen BK342.out 4))
       (try simp only [Act.put, List.setIfInBounds_toArray, List.set_cons_zero, List.set_cons_succ])
       go_cut [44] (fun v44 wc => ∃ (kq : Nat) (x44_11 : Bool), v44 = .bool x44_11 ∧ Aside0 (slotmeshlaw27_QueueFirst.j1 kq a1 t331 x7_1 t341 l0 (l0.length : Int) x21_1 x44_11 x333000_1 ((rd_T39 l0 x21_1).f0) ((rd_T39 l0 x21_1).f1.f0) ((rd_T39 l0 x21_1).f1.f1) ((rd_T39 l0 x21_1).f1.f2) ((rd_T39 l0 x21_1).f1.f3) ((rd_T39 l0 x21_1).f1.f4) t336 t337 t338 t339 t340 = some r) ∧ Aside0 (kq ≤ k1) ∧ Aside0 (Kd.Q k26 26 wc w.heap.size (fun k_ => some k_ ≠ ((.slice Ao17 x333000_1.length co17) : Value).ownBlock ∧ k_ ≠ gb342) u7 x7_1) ∧ Aside0 (Kd.R k26 26 wc w.heap.size (fun k_ => some k_ ≠ (u7 : Value).ownBlock ∧ k_ ≠ gb342) (.slice Ao17 x333000_1.length co17) x333000_1) ∧ Aside0 (wc.heap[gb332]? = some (.cells #[(.slice Ao17 x333000_1.length co17)] 24 (0, 0))) ∧ Aside0 (wc.heap[gb335]? = some (.cells #[.bool ((rd_T39 l0 x21_1).f0), .int .i64 ((rd_T39 l0 x21_1).f1.f0), .int .i64 ((rd_T39 l0 x21_1).f1.f1), .int .i64 ((rd_T39 l0 x21_1).f1.f2), .int .i64 ((rd_T39 l0 x21_1).f1.f3), .int .i64 ((rd_T39 l0 x21_1).f1.f4)] 39 (0, 0))) ∧ Aside0 (wc.heap[gb342]? = some (.cells #[.int .i64 t336, .int .i64 t337, .int .i64 t338, .int .i64 t339, .int .i64 t340] 26 (0, 0))) ∧ Aside0 (Below w.heap.size w wc))
       case first =>
        have H := HC12.out
        clear HC12
        by_cases c23 : t341 = true
        ·subst c23
         have H1 : (if (x7_1.length : Int) > 0 then (if 0 < (x7_1.length : Int) then (slotmeshlaw27_QueueFirst.j1 k1 a1 t331 x7_1 true l0 (l0.length : Int) x21_1 (!(t336 == ((rd_T26 x7_1 0).f0)) || (!(t337 == ((rd_T26 x7_1 0).f1)) || (!(t338 == ((rd_T26 x7_1 0).f2)) || (!(t339 == ((rd_T26 x7_1 0).f3)) || (!(t340 == ((rd_T26 x7_1 0).f4))))))) x333000_1 ((rd_T39 l0 x21_1).f0) ((rd_T39 l0 x21_1).f1.f0) ((rd_T39 l0 x21_1).f1.f1) ((rd_T39 l0 x21_1).f1.f2) ((rd_T39 l0 x21_1).f1.f3) ((rd_T39 l0 x21_1).f1.f4) t336 t337 t338 t339 t340) else (none)) else (slotmeshlaw27_QueueFirst.j1 k1 a1 t331 x7_1 true l0 (l0.length : Int) x21_1 true x333000_1 ((rd_T39 l0 x21_1).f0) ((rd_T39 l0 x21_1).f1.f0) ((rd_T39 l0 x21_1).f1.f1) ((rd_T39 l0 x21_1).f1.f2) ((rd_T39 l0 x21_1).f1.f3) ((rd_T39 l0 x21_1).f1.f4) t336 t337 t338 t339 t340)) = some r := by rw [if_pos rfl] at H; exact H
         clear H
         have H := H1
         clear H1
         by_cases c24 : (x7_1.length : Int) > 0
         ·rw [if_pos c24] at H
          have c24b0 : decide (0 < (x7_1.length : Int)) = true := decide_eq_true c24
          have c24b1 : decide (0 < x7_1.length) = true := decide_eq_true (by omega)
          clear c24
          (first | rw [c24b0] | (simp only [i64_w, i32_w]; rw [c24b0]) | skip)
          by_cases c25 : 0 < (x7_1.length : Int)
          ·rw [if_pos c25] at H
           have c25b0 : decide (0 < (x7_1.length : Int)) = true := decide_eq_true c25
           have c25b1 : decide (0 < x7_1.length) = true := decide_eq_true (by omega)
           clear c25
           have H' := Aside0.mk H
           clear H
           try go_wp2
           have n0_ : Aside0 (Kd.Q k26 26 (((((w19.setCell ⟨gb342, 0, none⟩ (.int .i64 t336)).setCell ⟨gb342, 1, none⟩ (.int .i64 t337)).setCell ⟨gb342, 2, none⟩ (.int .i64 t338)).setCell ⟨gb342, 3, none⟩ (.int .i64 t339)).setCell ⟨gb342, 4, none⟩ (.int .i64 t340)) w.heap.size (fun k_ => some k_ ≠ (.slice Ao17 x333000_1.length co17 : Value).ownBlock ∧ k_ ≠ gb342) u7 x7_1) := ⟨by (with_reducible repeat (first | apply Kd.Q_alloc | apply Kd.Q_drewN | apply Kd.Q_drew)); exact Kd.Q_mono (Kd.Q_far (p := ⟨gb342, 4, none⟩) (Kd.Q_far (p := ⟨gb342, 3, none⟩) (Kd.Q_far (p := ⟨gb342, 2, none⟩) (Kd.Q_far (p := ⟨gb342, 1, none⟩) (Kd.Q_far (p := ⟨gb342, 0, none⟩) (Kd.Q_mono HO_7.out (fun k_ hk => (⟨hk, hk.2⟩ : _ ∧ k_ ≠ gb342))) (fun _ hk => hk.2) (.int .i64 t336)) (fun _ hk => hk.2) (.int .i64 t337)) (fun _ hk => hk.2) (.int .i64 t338)) (fun _ hk => hk.2) (.int .i64 t339)) (fun _ hk => hk.2) (.int .i64 t340)) (fun _ hk => ⟨hk.1.1, hk.1.2⟩)⟩
           have n1_ : Aside0 (Kd.R k26 26 (((((w19.setCell ⟨gb342, 0, none⟩ (.int .i64 t336)).setCell ⟨gb342, 1, none⟩ (.int .i64 t337)).setCell ⟨gb342, 2, none⟩ (.int .i64 t338)).setCell ⟨gb342, 3, none⟩ (.int .i64 t339)).setCell ⟨gb342, 4, none⟩ (.int .i64 t340)) w.heap.size (fun k_ => some k_ ≠ (u7 : Value).ownBlock ∧ k_ ≠ gb342) (.slice Ao17 x333000_1.length co17) x333000_1) := ⟨by (with_reducible repeat (first | apply Kd.R_alloc | apply Kd.R_drewN | apply Kd.R_drew)); exact Kd.R_mono (Kd.R_far (p := ⟨gb342, 4, none⟩) (Kd.R_far (p := ⟨gb342, 3, none⟩) (Kd.R_far (p := ⟨gb342, 2, none⟩) (Kd.R_far (p := ⟨gb342, 1, none⟩) (Kd.R_far (p := ⟨gb342, 0, none⟩) (Kd.R_mono HO_333000.out (fun k_ hk => (⟨hk, hk.2⟩ : _ ∧ k_ ≠ gb342))) (fun _ hk => hk.2) (.int .i64 t336)) (fun _ hk => hk.2) (.int .i64 t337)) (fun _ hk => hk.2) (.int .i64 t338)) (fun _ hk => hk.2) (.int .i64 t339)) (fun _ hk => hk.2) (.int .i64 t340)) (fun _ hk => ⟨hk.1.1, hk.1.2⟩)⟩
           have n2_ : Aside0 ((((((w19.setCell ⟨gb342, 0, none⟩ (.int .i64 t336)).setCell ⟨gb342, 1, none⟩ (.int .i64 t337)).setCell ⟨gb342, 2, none⟩ (.int .i64 t338)).setCell ⟨gb342, 3, none⟩ (.int .i64 t339)).setCell ⟨gb342, 4, none⟩ (.int .i64 t340)).heap[gb332]? = some (.cells #[.slice Ao17 x333000_1.length co17] 24 (0, 0))) := ⟨by (with_reducible repeat (first | refine blk_drewN ?_ _ | refine blk_drew ?_ | refine blk_alloc ?_ _)); refine blk_far ?_ NB332_342.out _; (with_reducible repeat (first | refine blk_drewN ?_ _ | refine blk_drew ?_ | refine blk_alloc ?_ _)); refine blk_far ?_ NB332_342.out _; (with_reducible repeat (first | refine blk_drewN ?_ _ | refine blk_drew ?_ | refine blk_alloc ?_ _)); refine blk_far ?_ NB332_342.out _; (with_reducible repeat (first | refine blk_drewN ?_ _ | refine blk_drew ?_ | refine blk_alloc ?_ _)); refine blk_far ?_ NB332_342.out _; (with_reducible repeat (first | refine blk_drewN ?_ _ | refine blk_drew ?_ | refine blk_alloc ?_ _)); refine blk_far ?_ NB332_342.out _; (with_reducible repeat (first | refine blk_drewN ?_ _ | refine blk_drew ?_ | refine blk_alloc ?_ _)); exact BK332.out⟩
           have n3_ : Aside0 ((((((w19.setCell ⟨gb342, 0, none⟩ (.int .i64 t336)).setCell ⟨gb342, 1, none⟩ (.int .i64 t337)).setCell ⟨gb342, 2, none⟩ (.int .i64 t338)).setCell ⟨gb342, 3, none⟩ (.int .i64 t339)).setCell ⟨gb342, 4, none⟩ (.int .i64 t340)).heap[gb335]? = some (.cells #[.bool ((rd_T39 l0 x21_1).f0), .int .i64 ((rd_T39 l0 x21_1).f1.f0), .int .i64 ((rd_T39 l0 x21_1).f1.f1), .int .i64 ((rd_T39 l0 x21_1).f1.f2), .int .i64 ((rd_T39 l0 x21_1).f1.f3), .int .i64 ((rd_T39 l0 x21_1).f1.f4)] 39 (0, 0))) := ⟨by (with_reducible repeat (first | refine blk_drewN ?_ _ | refine blk_drew ?_ | refine blk_alloc ?_ _)); refine blk_far ?_ NB335_342.out _; (with_reducible repeat (first | refine blk_drewN ?_ _ | refine blk_drew ?_ | refine blk_alloc ?_ _)); refine blk_far ?_ NB335_342.out _; (with_reducible repeat (first | refine blk_drewN ?_ _ | refine blk_drew ?_ | refine blk_alloc ?_ _)); refine blk_far ?_ NB335_342.out _; (with_reducible repeat (first | refine blk_drewN ?_ _ | refine blk_drew ?_ | refine blk_alloc ?_ _)); refine blk_far ?_ NB335_342.out _; (with_reducible repeat (first | refine blk_drewN ?_ _ | refine blk_drew ?_ | refine blk_alloc ?_ _)); refine blk_far ?_ NB335_342.out _; (with_reducible repeat (first | refine blk_drewN ?_ _ | refine blk_drew ?_ | refine blk_alloc ?_ _)); exact BK335.out⟩
           have n4_ : Aside0 ((((((w19.setCell ⟨gb342, 0, none⟩ (.int .i64 t336)).setCell ⟨gb342, 1, none⟩ (.int .i64 t337)).setCell ⟨gb342, 2, none⟩ (.int .i64 t338)).setCell ⟨gb342, 3, none⟩ (.int .i64 t339)).setCell ⟨gb342, 4, none⟩ (.int .i64 t340)).heap[gb342]? = some (.cells #[.int .i64 t336, .int .i64 t337, .int .i64 t338, .int .i64 t339, .int .i64 t340] 26 (0, 0))) := ⟨by (with_reducible repeat (first | refine blk_drewN ?_ _ | refine blk_drew ?_ | refine blk_alloc ?_ _)); refine blk_put (cs := #[.int .i64 t336, .int .i64 t337, .int .i64 t338, .int .i64 t339, .int .i64 0]) ?_ 4 _ rfl; (with_reducible repeat (first | refine blk_drewN ?_ _ | refine blk_drew ?_ | refine blk_alloc ?_ _)); refine blk_put (cs := #[.int .i64 t336, .int .i64 t337, .int .i64 t338, .int .i64 0, .int .i64 0]) ?_ 3 _ rfl; (with_reducible repeat (first | refine blk_drewN ?_ _ | refine blk_drew ?_ | refine blk_alloc ?_ _)); refine blk_put (cs := #[.int .i64 t336, .int .i64 t337, .int .i64 0, .int .i64 0, .int .i64 0]) ?_ 2 _ rfl; (with_reducible repeat (first | refine blk_drewN ?_ _ | refine blk_drew ?_ | refine blk_alloc ?_ _)); refine blk_put (cs := #[.int .i64 t336, .int .i64 0, .int .i64 0, .int .i64 0, .int .i64 0]) ?_ 1 _ rfl; (with_reducible repeat (first | refine blk_drewN ?_ _ | refine blk_drew ?_ | refine blk_alloc ?_ _)); refine blk_put (cs := #[.int .i64 0, .int .i64 0, .int .i64 0, .int .i64 0, .int .i64 0]) ?_ 0 _ rfl; (with_reducible repeat (first | refine blk_drewN ?_ _ | refine blk_drew ?_ | refine blk_alloc ?_ _)); exact BK342.out⟩
           have n5_ : Aside0 (Below w.heap.size w (((((w19.setCell ⟨gb342, 0, none⟩ (.int .i64 t336)).setCell ⟨gb342, 1, none⟩ (.int .i64 t337)).setCell ⟨gb342, 2, none⟩ (.int .i64 t338)).setCell ⟨gb342, 3, none⟩ (.int .i64 t339)).setCell ⟨gb342, 4, none⟩ (.int .i64 t340))) := ⟨by repeat (first | (with_reducible first | exact HB.out | apply below_alloc | apply pw_below_drewN | apply below_drew1 | refine below_set ?_ GE332.out | refine below_set ?_ GE335.out | refine below_set ?_ GE342.out) | exact HB.out)⟩
           (try clear HO_7)
           (try clear HO_333000)
           (try clear BK332)
           (try clear BK335)
           (try clear BK342)
           (try clear HB)
           generalize (((((w19.setCell ⟨gb342, 0, none⟩ (.int .i64 t336)).setCell ⟨gb342, 1, none⟩ (.int .i64 t337)).setCell ⟨gb342, 2, none⟩ (.int .i64 t338)).setCell ⟨gb342, 3, none⟩ (.int .i64 t339)).setCell ⟨gb342, 4, none⟩ (.int .i64 t340)) = w26 at n0_ n1_ n2_ n3_ n4_ n5_ ⊢
           have HO_7 := n0_
           have HO_333000 := n1_
           have BK332 := n2_
           have BK335 := n3_
           have BK342 := n4_
           have HB := n5_
           clear n0_ n1_ n2_ n3_ n4_ n5_
           have n0_ := Aside0.mk (Kd.Q_drew HO_7.out)
           have n1_ := Aside0.mk (Kd.R_drew HO_333000.out)
           have n2_ := Aside0.mk (blk_drew BK332.out)
           have n3_ := Aside0.mk (blk_drew BK335.out)
           have n4_ := Aside0.mk (blk_drew BK342.out)
           have n5_ := Aside0.mk (below_drew1 HB.out)
           clear HO_7
           clear HO_333000
           clear BK332
           clear BK335
           clear BK342
           clear HB
           have HO_7 := n0_
           have HO_333000 := n1_
           have BK332 := n2_
           have BK335 := n3_
           have BK342 := n4_
           have HB := n5_
           clear n0_ n1_ n2_ n3_ n4_ n5_
           obtain ⟨Ao28, co28, eo28, _⟩ := Kd.Q_slice HO_7.out
           (first | subst eo28 | (injection eo28 with f1_ f2_ f3_; have f4_ := f1_.symm; have f5_ := f3_.symm; clear f1_ f2_ f3_; subst f4_; subst f5_))
           have p343 : 0 ≤ (0 : Int) := (by omega)
           have q343 : 0 < (x7_1.length : Int) := of_decide_eq_true (by first | (with_reducible assumption) | assumption)
           obtain ⟨ad343, e343, hx343_0, hx343_1, hx343_2, hx343_3, hx343_4⟩ := at_T26 (Kd.Q_reads' HO_7.out).2.2 0 p343 q343
           cases e343
           have qi343 : (0 < x7_1.length) = True := eq_true (by omega)
           (try rw [show ((0 : Int)).toNat = 0 from rfl] at hx343_0)
           (try rw [show 0 * 5 = 0 from rfl] at hx343_0)
           (try rw [Addr.add_zero'] at hx343_0)
           (try rw [show ((0 : Int)).toNat = 0 from rfl] at hx343_1)
           (try rw [show 0 * 5 = 0 from rfl] at hx343_1)
           (try rw [Addr.add_zero'] at hx343_1)
           (try rw [show ((0 : Int)).toNat = 0 from rfl] at hx343_2)
           (try rw [show 0 * 5 = 0 from rfl] at hx343_2)
           (try rw [Addr.add_zero'] at hx343_2)
           (try rw [show ((0 : Int)).toNat = 0 from rfl] at hx343_3)
           (try rw [show 0 * 5 = 0 from rfl] at hx343_3)
           (try rw [Addr.add_zero'] at hx343_3)
           (try rw [show ((0 : Int)).toNat = 0 from rfl] at hx343_4)
           (try rw [show 0 * 5 = 0 from rfl] at hx343_4)
           (try rw [Addr.add_zero'] at hx343_4)
           replace p343 := eq_true p343
           replace q343 := eq_true q343
           refine start_ (n := 15) (S := fun w' => w'.cell? ⟨gb342, 0, none⟩ = some (.int .i64 t336) ∧ w'.cell? ⟨gb342, 1, none⟩ = some (.int .i64 t337) ∧ w'.cell? ⟨gb342, 2, none⟩ = some (.int .i64 t338) ∧ w'.cell? ⟨gb342, 3, none⟩ = some (.int .i64 t339) ∧ w'.cell? ⟨gb342, 4, none⟩ = some (.int .i64 t340) ∧ w'.cell? ad343 = some (.int .i64 ((rd_T26 x7_1 0).f0)) ∧ w'.cell? ⟨ad343.block, ad343.off + 1, none⟩ = some (.int .i64 ((rd_T26 x7_1 0).f1)) ∧ w'.cell? ⟨ad343.block, ad343.off + 2, none⟩ = some (.int .i64 ((rd_T26 x7_1 0).f2)) ∧ w'.cell? ⟨ad343.block, ad343.off + 3, none⟩ = some (.int .i64 ((rd_T26 x7_1 0).f3)) ∧ w'.cell? ⟨ad343.block, ad343.off + 4, none⟩ = some (.int .i64 ((rd_T26 x7_1 0).f4))) (ds := []) #[false, false, false, false, false, false, false, false, false, false, false, false, false, false, false] (by kernel_rfl) rfl rfl ⟨(blk_cell BK342.out 0).trans rfl, (blk_cell BK342.out 1).trans rfl, (blk_cell BK342.out 2).trans rfl, (blk_cell BK342.out 3).trans rfl, (blk_cell BK342.out 4).trans rfl, hx343_0, hx343_1, hx343_2, hx343_3, hx343_4⟩ (fun hHeld => ?_); refine with_tabW slotmeshlaw27_QueueFirst.tab10 slotmeshlaw27_QueueFirst.bits10 (fun HT_ HW_ => ?_)
           generalize w26.drew = w27 at HO_7 HO_333000 BK332 BK335 BK342 HB hx343_0 hx343_1 hx343_2 hx343_3 hx343_4 hHeld ⊢
           refine pure_ (i := 0) (N := some 30) (v := ?_) (a' := ?_) #[true, false, false, false, false, false, false, false, false, false, false, false, false, false, false] rfl rfl (any_of HT_.out (by kernel_rfl)) (fun _ _ _ h => h) (Or.inl ⟨by rfl, ?_⟩) ?_ ?_
           rotate_left
           ·intro w'
            go_simp
            with_reducible rfl
           rotate_left
           ·simp only [Act.put, List.setIfInBounds_toArray, List.set_cons_zero, List.set_cons_succ, i64_w, i32_w]
            rfl
           refine pure_ (i := 1) (N := some 31) (v := ?_) (a' := ?_) #[true, true, false, false, false, false, false, false, false, false, false, false, false, false, false] rfl rfl (any_of HT_.out (by kernel_rfl)) (fun _ _ _ h => h) (Or.inl ⟨by rfl, ?_⟩) ?_ ?_
           rotate_left
           ·intro w'
            go_simp
            with_reducible rfl
           rotate_left
           ·simp only [Act.put, List.setIfInBounds_toArray, List.set_cons_zero, List.set_cons_succ, i64_w, i32_w]
            rfl
           refine pure_ (i := 2) (N := some 32) (v := ?_) (a' := ?_) #[true, true, true, false, false, false, false, false, false, false, false, false, false, false, false] rfl rfl (any_of HT_.out (by kernel_rfl)) (fun _ _ _ h => h) (Or.inl ⟨by rfl, ?_⟩) ?_ ?_
           rotate_left
           ·intro w'
            go_simp
            with_reducible rfl
           rotate_left
           ·simp only [Act.put, List.setIfInBounds_toArray, List.set_cons_zero, List.set_cons_succ, i64_w, i32_w]
            rfl
           refine pure_ (i := 3) (N := some 33) (v := ?_) (a' := ?_) #[true, true, true, true, false, false, false, false, false, false, false, false, false, false, false] rfl rfl (any_of HT_.out (by kernel_rfl)) (fun _ _ _ h => h) (Or.inl ⟨by rfl, ?_⟩) ?_ ?_
           rotate_left
           ·intro w'
            go_simp
            with_reducible rfl
           rotate_left
           ·simp only [Act.put, List.setIfInBounds_toArray, List.set_cons_zero, List.set_cons_succ, i64_w, i32_w]
            rfl
           refine pure_ (i := 4) (N := some 34) (v := ?_) (a' := ?_) #[true, true, true, true, true, false, false, false, false, false, false, false, false, false, false] rfl rfl (any_of HT_.out (by kernel_rfl)) (fun _ _ _ h => h) (Or.inl ⟨by rfl, ?_⟩) ?_ ?_
           rotate_left
           ·intro w'
            go_simp
            with_reducible rfl
           rotate_left
           ·simp only [Act.put, List.setIfInBounds_toArray, List.set_cons_zero, List.set_cons_succ, i64_w, i32_w]
            rfl
           refine pure_ (i := 5) (N := some 35) (v := ?_) (a' := ?_) #[true, true, true, true, true, true, false, false, false, false, false, false, false, false, false] rfl rfl (any_of HT_.out (by kernel_rfl)) (fun _ _ _ h => h) (Or.inl ⟨by rfl, ?_⟩) ?_ ?_
           rotate_left
           ·intro w'
            go_simp
            with_reducible rfl
           rotate_left
           ·simp only [Act.put, List.setIfInBounds_toArray, List.set_cons_zero, List.set_cons_succ, i64_w, i32_w]
            rfl
           refine pure_ (i := 6) (N := some 36) (v := ?_) (a' := ?_) #[true, true, true, true, true, true, true, false, false, false, false, false, false, false, false] rfl rfl (any_of HT_.out (by kernel_rfl)) (fun _ _ _ h => h) (Or.inl ⟨by rfl, ?_⟩) ?_ ?_
           rotate_left
           ·intro w'
            go_simp
            with_reducible rfl
           rotate_left
           ·simp only [Act.put, List.setIfInBounds_toArray, List.set_cons_zero, List.set_cons_succ, i64_w, i32_w]
            rfl
           refine pure_ (i := 7) (N := some 37) (v := ?_) (a' := ?_) #[true, true, true, true, true, true, true, true, false, false, false, false, false, false, false] rfl rfl (any_of HT_.out (by kernel_rfl)) (fun _ _ _ h => h) (Or.inl ⟨by rfl, ?_⟩) ?_ ?_
           rotate_left
           ·intro w'
            go_simp
            with_reducible rfl
           rotate_left
           ·simp only [Act.put, List.setIfInBounds_toArray, List.set_cons_zero, List.set_cons_succ, i64_w, i32_w]
            rfl
           refine pure_ (i := 9) (N := some 39) (v := ?_) (a' := ?_) #[true, true, true, true, true, true, true, true, false, true, false, false, false, false, false] rfl rfl (any_of HT_.out (by kernel_rfl)) (fun _ _ _ h => h) (Or.inl ⟨by rfl, ?_⟩) ?_ ?_
           rotate_left
           ·intro w'
            go_simp
            with_reducible rfl
           rotate_left
           ·simp only [Act.put, List.setIfInBounds_toArray, List.set_cons_zero, List.set_cons_succ, i64_w, i32_w]
            rfl
           refine pure_ (i := 10) (N := some 40) (v := ?_) (a' := ?_) #[true, true, true, true, true, true, true, true, false, true, true, false, false, false, false] rfl rfl (any_of HT_.out (by kernel_rfl)) (fun _ _ _ h => h) (Or.inl ⟨by rfl, ?_⟩) ?_ ?_
           rotate_left
           ·intro w'
            go_simp
            with_reducible rfl
           rotate_left
           ·simp only [Act.put, List.setIfInBounds_toArray, List.set_cons_zero, List.set_cons_succ, i64_w, i32_w]
            rfl
           refine take_ (i := 8) (N := some 38) (v := ?_) (a' := ?_) #[true, true, true, true, true, true, true, true, true, true, true, false, false, false, false] rfl rfl (take_ofW HT_.out HW_.out (by kernel_rfl)) (fun _ _ _ h => h) (Or.inl ⟨by rfl, ?_⟩) hHeld ?_ ?_
           rotate_left
           ·rintro w' ⟨s0, s1, s2, s3, s4, s5, s6, s7, s8, s9⟩
            go_simp
            with_reducible rfl
           rotate_left
           ·simp only [Act.put, List.setIfInBounds_toArray, List.set_cons_zero, List.set_cons_succ, i64_w, i32_w]
            rfl
           refine take_ (i := 11) (N := some 41) (v := ?_) (a' := ?_) #[true, true, true, true, true, true, true, true, true, true, true, true, false, false, false] rfl rfl (take_ofW HT_.out HW_.out (by kernel_rfl)) (fun _ _ _ h => h) (Or.inl ⟨by rfl, ?_⟩) hHeld ?_ ?_
           rotate_left
           ·rintro w' ⟨s0, s1, s2, s3, s4, s5, s6, s7, s8, s9⟩
            go_simp
            with_reducible rfl
           rotate_left
           ·simp only [Act.put, List.setIfInBounds_toArray, List.set_cons_zero, List.set_cons_succ, i64_w, i32_w]
            rfl
           refine pure_ (i := 12) (N := some 42) (v := ?_) (a' := ?_) #[true, true, true, true, true, true, true, true, true, true, true, true, true, false, false] rfl rfl (any_of HT_.out (by kernel_rfl)) (fun _ _ _ h => h) (Or.inl ⟨by rfl, ?_⟩) ?_ ?_
           rotate_left
           ·intro w'
            go_simp
            with_reducible rfl
           rotate_left
           ·simp only [Act.put, List.setIfInBounds_toArray, List.set_cons_zero, List.set_cons_succ, i64_w, i32_w]
            rfl
           refine pure_ (i := 13) (N := some 43) (v := ?_) (a' := ?_) #[true, true, true, true, true, true, true, true, true, true, true, true, true, true, false] rfl rfl (any_of HT_.out (by kernel_rfl)) (fun _ _ _ h => h) (Or.inl ⟨by rfl, ?_⟩) ?_ ?_
           rotate_left
           ·intro w'
            go_simp
            with_reducible rfl
           rotate_left
           ·simp only [Act.put, List.setIfInBounds_toArray, List.set_cons_zero, List.set_cons_succ, i64_w, i32_w]
            rfl
           refine pure_ (i := 14) (N := some 44) (v := ?_) (a' := ?_) #[true, true, true, true, true, true, true, true, true, true, true, true, true, true, true] rfl rfl (any_of HT_.out (by kernel_rfl)) (fun _ _ _ h => h) (Or.inl ⟨by rfl, ?_⟩) ?_ ?_
           rotate_left
           ·intro w'
            go_simp
            with_reducible rfl
           rotate_left
           ·simp only [Act.put, List.setIfInBounds_toArray, List.set_cons_zero, List.set_cons_succ, i64_w, i32_w]
            rfl
           refine done_ (done_of HT_.out (by kernel_rfl)) ?_
           try go_wp2
           go_meet
           case rel => exact ⟨_, ((!(t336 == ((rd_T26 x7_1 0).f0)) || (!(t337 == ((rd_T26 x7_1 0).f1)) || (!(t338 == ((rd_T26 x7_1 0).f2)) || (!(t339 == ((rd_T26 x7_1 0).f3)) || (!(t340 == ((rd_T26 x7_1 0).f4)))))))), (by first | rfl | (simp; done) | (simp [*]; done)), H', ⟨by have := HK1.out; first | omega | exact Nat.le_refl _⟩, ⟨by (with_reducible repeat (first | apply Kd.Q_alloc | apply Kd.Q_drewN | apply Kd.Q_drew)); exact HO_7.out⟩, ⟨by (with_reducible repeat (first | apply Kd.R_alloc | apply Kd.R_drewN | apply Kd.R_drew)); exact HO_333000.out⟩, ⟨by (with_reducible repeat (first | refine blk_drewN ?_ _ | refine blk_drew ?_ | refine blk_alloc ?_ _)); exact BK332.out⟩, ⟨by (with_reducible repeat (first | refine blk_drewN ?_ _ | refine blk_drew ?_ | refine blk_alloc ?_ _)); exact BK335.out⟩, ⟨by (with_reducible repeat (first | refine blk_drewN ?_ _ | refine blk_drew ?_ | refine blk_alloc ?_ _)); exact BK342.out⟩, ⟨by repeat (first | (with_reducible first | exact HB.out | apply below_alloc | apply pw_below_drewN | apply below_drew1 | refine below_set ?_ GE332.out | refine below_set ?_ GE335.out | refine below_set ?_ GE342.out) | exact HB.out)⟩⟩
          ·rw [if_neg c25] at H
           exact absurd H (by simp)
         ·rw [if_neg c24] at H
          have c24b0 : decide (0 < (x7_1.length : Int)) = false := decide_eq_false c24
          have c24b1 : decide (0 < x7_1.length) = false := decide_eq_false (by omega)
          clear c24
          (first | rw [c24b0] | (simp only [i64_w, i32_w]; rw [c24b0]) | skip)
          have H' := Aside0.mk H
          clear H
          try go_wp2
          have n0_ : Aside0 (Kd.Q k26 26 (((((w19.setCell ⟨gb342, 0, none⟩ (.int .i64 t336)).setCell ⟨gb342, 1, none⟩ (.int .i64 t337)).setCell ⟨gb342, 2, none⟩ (.int .i64 t338)).setCell ⟨gb342, 3, none⟩ (.int .i64 t339)).setCell ⟨gb342, 4, none⟩ (.int .i64 t340)) w.heap.size (fun k_ => some k_ ≠ (.slice Ao17 x333000_1.length co17 : Value).ownBlock ∧ k_ ≠ gb342) u7 x7_1) := ⟨by (with_reducible repeat (first | apply Kd.Q_alloc | apply Kd.Q_drewN | apply Kd.Q_drew)); exact Kd.Q_mono (Kd.Q_far (p := ⟨gb342, 4, none⟩) (Kd.Q_far (p := ⟨gb342, 3, none⟩) (Kd.Q_far (p := ⟨gb342, 2, none⟩) (Kd.Q_far (p := ⟨gb342, 1, none⟩) (Kd.Q_far (p := ⟨gb342, 0, none⟩) (Kd.Q_mono HO_7.out (fun k_ hk => (⟨hk, hk.2⟩ : _ ∧ k_ ≠ gb342))) (fun _ hk => hk.2) (.int .i64 t336)) (fun _ hk => hk.2) (.int .i64 t337)) (fun _ hk => hk.2) (.int .i64 t338)) (fun _ hk => hk.2) (.int .i64 t339)) (fun _ hk => hk.2) (.int .i64 t340)) (fun _ hk => ⟨hk.1.1, hk.1.2⟩)⟩
          have n1_ : Aside0 (Kd.R k26 26 (((((w19.setCell ⟨gb342, 0, none⟩ (.int .i64 t336)).setCell ⟨gb342, 1, none⟩ (.int .i64 t337)).setCell ⟨gb342, 2, none⟩ (.int .i64 t338)).setCell ⟨gb342, 3, none⟩ (.int .i64 t339)).setCell ⟨gb342, 4, none⟩ (.int .i64 t340)) w.heap.size (fun k_ => some k_ ≠ (u7 : Value).ownBlock ∧ k_ ≠ gb342) (.slice Ao17 x333000_1.length co17) x333000_1) := ⟨by (with_reducible repeat (first | apply Kd.R_alloc | apply Kd.R_drewN | apply Kd.R_drew)); exact Kd.R_mono (Kd.R_far (p := ⟨gb342, 4, none⟩) (Kd.R_far (p := ⟨gb342, 3, none⟩) (Kd.R_far (p := ⟨gb342, 2, none⟩) (Kd.R_far (p := ⟨gb342, 1, none⟩) (Kd.R_far (p := ⟨gb342, 0, none⟩) (Kd.R_mono HO_333000.out (fun k_ hk => (⟨hk, hk.2⟩ : _ ∧ k_ ≠ gb342))) (fun _ hk => hk.2) (.int .i64 t336)) (fun _ hk => hk.2) (.int .i64 t337)) (fun _ hk => hk.2) (.int .i64 t338)) (fun _ hk => hk.2) (.int .i64 t339)) (fun _ hk => hk.2) (.int .i64 t340)) (fun _ hk => ⟨hk.1.1, hk.1.2⟩)⟩
          have n2_ : Aside0 ((((((w19.setCell ⟨gb342, 0, none⟩ (.int .i64 t336)).setCell ⟨gb342, 1, none⟩ (.int .i64 t337)).setCell ⟨gb342, 2, none⟩ (.int .i64 t338)).setCell ⟨gb342, 3, none⟩ (.int .i64 t339)).setCell ⟨gb342, 4, none⟩ (.int .i64 t340)).heap[gb332]? = some (.cells #[.slice Ao17 x333000_1.length co17] 24 (0, 0))) := ⟨by (with_reducible repeat (first | refine blk_drewN ?_ _ | refine blk_drew ?_ | refine blk_alloc ?_ _)); refine blk_far ?_ NB332_342.out _; (with_reducible repeat (first | refine blk_drewN ?_ _ | refine blk_drew ?_ | refine blk_alloc ?_ _)); refine blk_far ?_ NB332_342.out _; (with_reducible repeat (first | refine blk_drewN ?_ _ | refine blk_drew ?_ | refine blk_alloc ?_ _)); refine blk_far ?_ NB332_342.out _; (with_reducible repeat (first | refine blk_drewN ?_ _ | refine blk_drew ?_ | refine blk_alloc ?_ _)); refine blk_far ?_ NB332_342.out _; (with_reducible repeat (first | refine blk_drewN ?_ _ | refine blk_drew ?_ | refine blk_alloc ?_ _)); refine blk_far ?_ NB332_342.out _; (with_reducible repeat (first | refine blk_drewN ?_ _ | refine blk_drew ?_ | refine blk_alloc ?_ _)); exact BK332.out⟩
          have n3_ : Aside0 ((((((w19.setCell ⟨gb342, 0, none⟩ (.int .i64 t336)).setCell ⟨gb342, 1, none⟩ (.int .i64 t337)).setCell ⟨gb342, 2, none⟩ (.int .i64 t338)).setCell ⟨gb342, 3, none⟩ (.int .i64 t339)).setCell ⟨gb342, 4, none⟩ (.int .i64 t340)).heap[gb335]? = some (.cells #[.bool ((rd_T39 l0 x21_1).f0), .int .i64 ((rd_T39 l0 x21_1).f1.f0), .int .i64 ((rd_T39 l0 x21_1).f1.f1), .int .i64 ((rd_T39 l0 x21_1).f1.f2), .int .i64 ((rd_T39 l0 x21_1).f1.f3), .int .i64 ((rd_T39 l0 x21_1).f1.f4)] 39 (0, 0))) := ⟨by (with_reducible repeat (first | refine blk_drewN ?_ _ | refine blk_drew ?_ | refine blk_alloc ?_ _)); refine blk_far ?_ NB335_342.out _; (with_reducible repeat (first | refine blk_drewN ?_ _ | refine blk_drew ?_ | refine blk_alloc ?_ _)); refine blk_far ?_ NB335_342.out _; (with_reducible repeat (first | refine blk_drewN ?_ _ | refine blk_drew ?_ | refine blk_alloc ?_ _)); refine blk_far ?_ NB335_342.out _; (with_reducible repeat (first | refine blk_drewN ?_ _ | refine blk_drew ?_ | refine blk_alloc ?_ _)); refine blk_far ?_ NB335_342.out _; (with_reducible repeat (first | refine blk_drewN ?_ _ | refine blk_drew ?_ | refine blk_alloc ?_ _)); refine blk_far ?_ NB335_342.out _; (with_reducible repeat (first | refine blk_drewN ?_ _ | refine blk_drew ?_ | refine blk_alloc ?_ _)); exact BK335.out⟩
          have n4_ : Aside0 ((((((w19.setCell ⟨gb342, 0, none⟩ (.int .i64 t336)).setCell ⟨gb342, 1, none⟩ (.int .i64 t337)).setCell ⟨gb342, 2, none⟩ (.int .i64 t338)).setCell ⟨gb342, 3, none⟩ (.int .i64 t339)).setCell ⟨gb342, 4, none⟩ (.int .i64 t340)).heap[gb342]? = some (.cells #[.int .i64 t336, .int .i64 t337, .int .i64 t338, .int .i64 t339, .int .i64 t340] 26 (0, 0))) := ⟨by (with_reducible repeat (first | refine blk_drewN ?_ _ | refine blk_drew ?_ | refine blk_alloc ?_ _)); refine blk_put (cs := #[.int .i64 t336, .int .i64 t337, .int .i64 t338, .int .i64 t339, .int .i64 0]) ?_ 4 _ rfl; (with_reducible repeat (first | refine blk_drewN ?_ _ | refine blk_drew ?_ | refine blk_alloc ?_ _)); refine blk_put (cs := #[.int .i64 t336, .int .i64 t337, .int .i64 t338, .int .i64 0, .int .i64 0]) ?_ 3 _ rfl; (with_reducible repeat (first | refine blk_drewN ?_ _ | refine blk_drew ?_ | refine blk_alloc ?_ _)); refine blk_put (cs := #[.int .i64 t336, .int .i64 t337, .int .i64 0, .int .i64 0, .int .i64 0]) ?_ 2 _ rfl; (with_reducible repeat (first | refine blk_drewN ?_ _ | refine blk_drew ?_ | refine blk_alloc ?_ _)); refine blk_put (cs := #[.int .i64 t336, .int .i64 0, .int .i64 0, .int .i64 0, .int .i64 0]) ?_ 1 _ rfl; (with_reducible repeat (first | refine blk_drewN ?_ _ | refine blk_drew ?_ | refine blk_alloc ?_ _)); refine blk_put (cs := #[.int .i64 0, .int .i64 0, .int .i64 0, .int .i64 0, .int .i64 0]) ?_ 0 _ rfl; (with_reducible repeat (first | refine blk_drewN ?_ _ | refine blk_drew ?_ | refine blk_alloc ?_ _)); exact BK342.out⟩
          have n5_ : Aside0 (Below w.heap.size w (((((w19.setCell ⟨gb342, 0, none⟩ (.int .i64 t336)).setCell ⟨gb342, 1, none⟩ (.int .i64 t337)).setCell ⟨gb342, 2, none⟩ (.int .i64 t338)).setCell ⟨gb342, 3, none⟩ (.int .i64 t339)).setCell ⟨gb342, 4, none⟩ (.int .i64 t340))) := ⟨by repeat (first | (with_reducible first | exact HB.out | apply below_alloc | apply pw_below_drewN | apply below_drew1 | refine below_set ?_ GE332.out | refine below_set ?_ GE335.out | refine below_set ?_ GE342.out) | exact HB.out)⟩
          (try clear HO_7)
          (try clear HO_333000)
          (try clear BK332)
          (try clear BK335)
          (try clear BK342)
          (try clear HB)
          generalize (((((w19.setCell ⟨gb342, 0, none⟩ (.int .i64 t336)).setCell ⟨gb342, 1, none⟩ (.int .i64 t337)).setCell ⟨gb342, 2, none⟩ (.int .i64 t338)).setCell ⟨gb342, 3, none⟩ (.int .i64 t339)).setCell ⟨gb342, 4, none⟩ (.int .i64 t340)) = w29 at n0_ n1_ n2_ n3_ n4_ n5_ ⊢
          have HO_7 := n0_
          have HO_333000 := n1_
          have BK332 := n2_
          have BK335 := n3_
          have BK342 := n4_
          have HB := n5_
          clear n0_ n1_ n2_ n3_ n4_ n5_
          have n0_ := Aside0.mk (Kd.Q_drew HO_7.out)
          have n1_ := Aside0.mk (Kd.R_drew HO_333000.out)
          have n2_ := Aside0.mk (blk_drew BK332.out)
          have n3_ := Aside0.mk (blk_drew BK335.out)
          have n4_ := Aside0.mk (blk_drew BK342.out)
          have n5_ := Aside0.mk (below_drew1 HB.out)
          clear HO_7
          clear HO_333000
          clear BK332
          clear BK335
          clear BK342
          clear HB
          have HO_7 := n0_
          have HO_333000 := n1_
          have BK332 := n2_
          have BK335 := n3_
          have BK342 := n4_
          have HB := n5_
          clear n0_ n1_ n2_ n3_ n4_ n5_
          obtain ⟨Ao31, co31, eo31, _⟩ := Kd.Q_slice HO_7.out
          (first | subst eo31 | (injection eo31 with f1_ f2_ f3_; have f4_ := f1_.symm; have f5_ := f3_.symm; clear f1_ f2_ f3_; subst f4_; subst f5_))
          refine start_ (n := 15) (S := fun w' => True) (ds := []) #[false, false, false, false, false, false, false, false, false, false, false, false, false, false, false] (by kernel_rfl) rfl rfl trivial (fun hHeld => ?_); refine with_tabW slotmeshlaw27_QueueFirst.tab10 slotmeshlaw27_QueueFirst.bits10 (fun HT_ HW_ => ?_)
          generalize w29.drew = w30 at HO_7 HO_333000 BK332 BK335 BK342 HB hHeld ⊢
          refine pure_ (i := 0) (N := some 30) (v := ?_) (a' := ?_) #[true, false, false, false, false, false, false, false, false, false, false, false, false, false, false] rfl rfl (any_of HT_.out (by kernel_rfl)) (fun _ _ _ h => h) (Or.inl ⟨by rfl, ?_⟩) ?_ ?_
          rotate_left
          ·intro w'
           go_simp
           with_reducible rfl
          rotate_left
          ·simp only [Act.put, List.setIfInBounds_toArray, List.set_cons_zero, List.set_cons_succ, i64_w, i32_w]
           rfl
          refine pure_ (i := 1) (N := some 31) (v := ?_) (a' := ?_) #[true, true, false, false, false, false, false, false, false, false, false, false, false, false, false] rfl rfl (any_of HT_.out (by kernel_rfl)) (fun _ _ _ h => h) (Or.inl ⟨by rfl, ?_⟩) ?_ ?_
          rotate_left
          ·intro w'
           go_simp
           with_reducible rfl
          rotate_left
          ·simp only [Act.put, List.setIfInBounds_toArray, List.set_cons_zero, List.set_cons_succ, i64_w, i32_w]
           rfl
          refine pure_ (i := 2) (N := some 32) (v := ?_) (a' := ?_) #[true, true, true, false, false, false, false, false, false, false, false, false, false, false, false] rfl rfl (any_of HT_.out (by kernel_rfl)) (fun _ _ _ h => h) (Or.inl ⟨by rfl, ?_⟩) ?_ ?_
          rotate_left
          ·intro w'
           go_simp
           with_reducible rfl
          rotate_left
          ·simp only [Act.put, List.setIfInBounds_toArray, List.set_cons_zero, List.set_cons_succ, i64_w, i32_w]
           rfl
          refine pure_ (i := 3) (N := some 33) (v := ?_) (a' := ?_) #[true, true, true, true, false, false, false, false, false, false, false, false, false, false, false] rfl rfl (any_of HT_.out (by kernel_rfl)) (fun _ _ _ h => h) (Or.inl ⟨by rfl, ?_⟩) ?_ ?_
          rotate_left
          ·intro w'
           go_simp
           with_reducible rfl
          rotate_left
          ·simp only [Act.put, List.setIfInBounds_toArray, List.set_cons_zero, List.set_cons_succ, i64_w, i32_w]
           rfl
          refine pure_ (i := 4) (N := some 34) (v := ?_) (a' := ?_) #[true, true, true, true, true, false, false, false, false, false, false, false, false, false, false] rfl rfl (any_of HT_.out (by kernel_rfl)) (fun _ _ _ h => h) (Or.inl ⟨by rfl, ?_⟩) ?_ ?_
          rotate_left
          ·intro w'
           go_simp
           with_reducible rfl
          rotate_left
          ·simp only [Act.put, List.setIfInBounds_toArray, List.set_cons_zero, List.set_cons_succ, i64_w, i32_w]
           rfl
          refine pure_ (i := 5) (N := some 35) (v := ?_) (a' := ?_) #[true, true, true, true, true, true, false, false, false, false, false, false, false, false, false] rfl rfl (any_of HT_.out (by kernel_rfl)) (fun _ _ _ h => h) (Or.inl ⟨by rfl, ?_⟩) ?_ ?_
          rotate_left
          ·intro w'
           go_simp
           with_reducible rfl
          rotate_left
          ·simp only [Act.put, List.setIfInBounds_toArray, List.set_cons_zero, List.set_cons_succ, i64_w, i32_w]
           rfl
          refine pure_ (i := 6) (N := some 36) (v := undef) (a' := ?_) #[true, true, true, true, true, true, true, false, false, false, false, false, false, false, false] rfl rfl (any_of HT_.out (by kernel_rfl)) (fun _ _ _ h => h) (Or.inr ⟨by rfl, rfl⟩) ?_ ?_
          rotate_left
          ·simp only [Act.put, List.setIfInBounds_toArray, List.set_cons_zero, List.set_cons_succ, i64_w, i32_w]
           rfl
          refine pure_ (i := 7) (N := some 37) (v := undef) (a' := ?_) #[true, true, true, true, true, true, true, true, false, false, false, false, false, false, false] rfl rfl (any_of HT_.out (by kernel_rfl)) (fun _ _ _ h => h) (Or.inr ⟨by rfl, rfl⟩) ?_ ?_
          rotate_left
          ·simp only [Act.put, List.setIfInBounds_toArray, List.set_cons_zero, List.set_cons_succ, i64_w, i32_w]
           rfl
          refine pure_ (i := 8) (N := some 38) (v := undef) (a' := ?_) #[true, true, true, true, true, true, true, true, true, false, false, false, false, false, false] rfl rfl (any_of HT_.out (by kernel_rfl)) (fun _ _ _ h => h) (Or.inr ⟨by rfl, rfl⟩) ?_ ?_
          rotate_left
          ·simp only [Act.put, List.setIfInBounds_toArray, List.set_cons_zero, List.set_cons_succ, i64_w, i32_w]
           rfl
          refine pure_ (i := 9) (N := some 39) (v := undef) (a' := ?_) #[true, true, true, true, true, true, true, true, true, true, false, false, false, false, false] rfl rfl (any_of HT_.out (by kernel_rfl)) (fun _ _ _ h => h) (Or.inr ⟨by rfl, rfl⟩) ?_ ?_
          rotate_left
          ·simp only [Act.put, List.setIfInBounds_toArray, List.set_cons_zero, List.set_cons_succ, i64_w, i32_w]
           rfl
          refine pure_ (i := 10) (N := some 40) (v := undef) (a' := ?_) #[true, true, true, true, true, true, true, true, true, true, true, false, false, false, false] rfl rfl (any_of HT_.out (by kernel_rfl)) (fun _ _ _ h => h) (Or.inr ⟨by rfl, rfl⟩) ?_ ?_
          rotate_left
          ·simp only [Act.put, List.setIfInBounds_toArray, List.set_cons_zero, List.set_cons_succ, i64_w, i32_w]
           rfl
          refine pure_ (i := 11) (N := some 41) (v := undef) (a' := ?_) #[true, true, true, true, true, true, true, true, true, true, true, true, false, false, false] rfl rfl (any_of HT_.out (by kernel_rfl)) (fun _ _ _ h => h) (Or.inr ⟨by rfl, rfl⟩) ?_ ?_
          rotate_left
          ·simp only [Act.put, List.setIfInBounds_toArray, List.set_cons_zero, List.set_cons_succ, i64_w, i32_w]
           rfl
          refine pure_ (i := 12) (N := some 42) (v := undef) (a' := ?_) #[true, true, true, true, true, true, true, true, true, true, true, true, true, false, false] rfl rfl (any_of HT_.out (by kernel_rfl)) (fun _ _ _ h => h) (Or.inr ⟨by rfl, rfl⟩) ?_ ?_
          rotate_left
          ·simp only [Act.put, List.setIfInBounds_toArray, List.set_cons_zero, List.set_cons_succ, i64_w, i32_w]
           rfl
          refine pure_ (i := 13) (N := some 43) (v := undef) (a' := ?_) #[true, true, true, true, true, true, true, true, true, true, true, true, true, true, false] rfl rfl (any_of HT_.out (by kernel_rfl)) (fun _ _ _ h => h) (Or.inr ⟨by rfl, rfl⟩) ?_ ?_
          rotate_left
          ·simp only [Act.put, List.setIfInBounds_toArray, List.set_cons_zero, List.set_cons_succ, i64_w, i32_w]
           rfl
          refine pure_ (i := 14) (N := some 44) (v := ?_) (a' := ?_) #[true, true, true, true, true, true, true, true, true, true, true, true, true, true, true] rfl rfl (any_of HT_.out (by kernel_rfl)) (fun _ _ _ h => h) (Or.inl ⟨by rfl, ?_⟩) ?_ ?_
          rotate_left
          ·intro w'
           go_simp
           with_reducible rfl
          rotate_left
          ·simp only [Act.put, List.setIfInBounds_toArray, List.set_cons_zero, List.set_cons_succ, i64_w, i32_w]
           rfl
          refine done_ (done_of HT_.out (by kernel_rfl)) ?_
          try go_wp2
          go_meet
          case rel => exact ⟨_, (true), (by first | rfl | (simp; done) | (simp [*]; done)), H', ⟨by have := HK1.out; first | omega | exact Nat.le_refl _⟩, ⟨by (with_reducible repeat (first | apply Kd.Q_alloc | apply Kd.Q_drewN | apply Kd.Q_drew)); exact HO_7.out⟩, ⟨by (with_reducible repeat (first | apply Kd.R_alloc | apply Kd.R_drewN | apply Kd.R_drew)); exact HO_333000.out⟩, ⟨by (with_reducible repeat (first | refine blk_drewN ?_ _ | refine blk_drew ?_ | refine blk_alloc ?_ _)); exact BK332.out⟩, ⟨by (with_reducible repeat (first | refine blk_drewN ?_ _ | refine blk_drew ?_ | refine blk_alloc ?_ _)); exact BK335.out⟩, ⟨by (with_reducible repeat (first | refine blk_drewN ?_ _ | refine blk_drew ?_ | refine blk_alloc ?_ _)); exact BK342.out⟩, ⟨by repeat (first | (with_reducible first | exact HB.out | apply below_alloc | apply pw_below_drewN | apply below_drew1 | refine below_set ?_ GE332.out | refine below_set ?_ GE335.out | refine below_set ?_ GE342.out) | exact HB.out)⟩⟩
        ·replace c23 := Bool.eq_false_iff.mpr c23
         subst c23
         have H1 : (if (x7_1.length : Int) > 0 then (slotmeshlaw27_QueueFirst.j1 k1 a1 t331 x7_1 false l0 (l0.length : Int) x21_1 true x333000_1 ((rd_T39 l0 x21_1).f0) ((rd_T39 l0 x21_1).f1.f0) ((rd_T39 l0 x21_1).f1.f1) ((rd_T39 l0 x21_1).f1.f2) ((rd_T39 l0 x21_1).f1.f3) ((rd_T39 l0 x21_1).f1.f4) t336 t337 t338 t339 t340) else (slotmeshlaw27_QueueFirst.j1 k1 a1 t331 x7_1 false l0 (l0.length : Int) x21_1 false x333000_1 ((rd_T39 l0 x21_1).f0) ((rd_T39 l0 x21_1).f1.f0) ((rd_T39 l0 x21_1).f1.f1) ((rd_T39 l0 x21_1).f1.f2) ((rd_T39 l0 x21_1).f1.f3) ((rd_T39 l0 x21_1).f1.f4) t336 t337 t338 t339 t340)) = some r := by rw [if_neg (show ¬ (false = true) by decide)] at H; exact H
         clear H
         have H := H1
         clear H1
         by_cases c32 : (x7_1.length : Int) > 0
         ·rw [if_pos c32] at H
          have c32b0 : decide (0 < (x7_1.length : Int)) = true := decide_eq_true c32
          have c32b1 : decide (0 < x7_1.length) = true := decide_eq_true (by omega)
          clear c32
          have H' := Aside0.mk H
          clear H
          try go_wp2
          have n0_ : Aside0 (Kd.Q k26 26 (((((w19.setCell ⟨gb342, 0, none⟩ (.int .i64 t336)).setCell ⟨gb342, 1, none⟩ (.int .i64 t337)).setCell ⟨gb342, 2, none⟩ (.int .i64 t338)).setCell ⟨gb342, 3, none⟩ (.int .i64 t339)).setCell ⟨gb342, 4, none⟩ (.int .i64 t340)) w.heap.size (fun k_ => some k_ ≠ (.slice Ao17 x333000_1.length co17 : Value).ownBlock ∧ k_ ≠ gb342) u7 x7_1) := ⟨by (with_reducible repeat (first | apply Kd.Q_alloc | apply Kd.Q_drewN | apply Kd.Q_drew)); exact Kd.Q_mono (Kd.Q_far (p := ⟨gb342, 4, none⟩) (Kd.Q_far (p := ⟨gb342, 3, none⟩) (Kd.Q_far (p := ⟨gb342, 2, none⟩) (Kd.Q_far (p := ⟨gb342, 1, none⟩) (Kd.Q_far (p := ⟨gb342, 0, none⟩) (Kd.Q_mono HO_7.out (fun k_ hk => (⟨hk, hk.2⟩ : _ ∧ k_ ≠ gb342))) (fun _ hk => hk.2) (.int .i64 t336)) (fun _ hk => hk.2) (.int .i64 t337)) (fun _ hk => hk.2) (.int .i64 t338)) (fun _ hk => hk.2) (.int .i64 t339)) (fun _ hk => hk.2) (.int .i64 t340)) (fun _ hk => ⟨hk.1.1, hk.1.2⟩)⟩
          have n1_ : Aside0 (Kd.R k26 26 (((((w19.setCell ⟨gb342, 0, none⟩ (.int .i64 t336)).setCell ⟨gb342, 1, none⟩ (.int .i64 t337)).setCell ⟨gb342, 2, none⟩ (.int .i64 t338)).setCell ⟨gb342, 3, none⟩ (.int .i64 t339)).setCell ⟨gb342, 4, none⟩ (.int .i64 t340)) w.heap.size (fun k_ => some k_ ≠ (u7 : Value).ownBlock ∧ k_ ≠ gb342) (.slice Ao17 x333000_1.length co17) x333000_1) := ⟨by (with_reducible repeat (first | apply Kd.R_alloc | apply Kd.R_drewN | apply Kd.R_drew)); exact Kd.R_mono (Kd.R_far (p := ⟨gb342, 4, none⟩) (Kd.R_far (p := ⟨gb342, 3, none⟩) (Kd.R_far (p := ⟨gb342, 2, none⟩) (Kd.R_far (p := ⟨gb342, 1, none⟩) (Kd.R_far (p := ⟨gb342, 0, none⟩) (Kd.R_mono HO_333000.out (fun k_ hk => (⟨hk, hk.2⟩ : _ ∧ k_ ≠ gb342))) (fun _ hk => hk.2) (.int .i64 t336)) (fun _ hk => hk.2) (.int .i64 t337)) (fun _ hk => hk.2) (.int .i64 t338)) (fun _ hk => hk.2) (.int .i64 t339)) (fun _ hk => hk.2) (.int .i64 t340)) (fun _ hk => ⟨hk.1.1, hk.1.2⟩)⟩
          have n2_ : Aside0 ((((((w19.setCell ⟨gb342, 0, none⟩ (.int .i64 t336)).setCell ⟨gb342, 1, none⟩ (.int .i64 t337)).setCell ⟨gb342, 2, none⟩ (.int .i64 t338)).setCell ⟨gb342, 3, none⟩ (.int .i64 t339)).setCell ⟨gb342, 4, none⟩ (.int .i64 t340)).heap[gb332]? = some (.cells #[.slice Ao17 x333000_1.length co17] 24 (0, 0))) := ⟨by (with_reducible repeat (first | refine blk_drewN ?_ _ | refine blk_drew ?_ | refine blk_alloc ?_ _)); refine blk_far ?_ NB332_342.out _; (with_reducible repeat (first | refine blk_drewN ?_ _ | refine blk_drew ?_ | refine blk_alloc ?_ _)); refine blk_far ?_ NB332_342.out _; (with_reducible repeat (first | refine blk_drewN ?_ _ | refine blk_drew ?_ | refine blk_alloc ?_ _)); refine blk_far ?_ NB332_342.out _; (with_reducible repeat (first | refine blk_drewN ?_ _ | refine blk_drew ?_ | refine blk_alloc ?_ _)); refine blk_far ?_ NB332_342.out _; (with_reducible repeat (first | refine blk_drewN ?_ _ | refine blk_drew ?_ | refine blk_alloc ?_ _)); refine blk_far ?_ NB332_342.out _; (with_reducible repeat (first | refine blk_drewN ?_ _ | refine blk_drew ?_ | refine blk_alloc ?_ _)); exact BK332.out⟩
          have n3_ : Aside0 ((((((w19.setCell ⟨gb342, 0, none⟩ (.int .i64 t336)).setCell ⟨gb342, 1, none⟩ (.int .i64 t337)).setCell ⟨gb342, 2, none⟩ (.int .i64 t338)).setCell ⟨gb342, 3, none⟩ (.int .i64 t339)).setCell ⟨gb342, 4, none⟩ (.int .i64 t340)).heap[gb335]? = some (.cells #[.bool ((rd_T39 l0 x21_1).f0), .int .i64 ((rd_T39 l0 x21_1).f1.f0), .int .i64 ((rd_T39 l0 x21_1).f1.f1), .int .i64 ((rd_T39 l0 x21_1).f1.f2), .int .i64 ((rd_T39 l0 x21_1).f1.f3), .int .i64 ((rd_T39 l0 x21_1).f1.f4)] 39 (0, 0))) := ⟨by (with_reducible repeat (first | refine blk_drewN ?_ _ | refine blk_drew ?_ | refine blk_alloc ?_ _)); refine blk_far ?_ NB335_342.out _; (with_reducible repeat (first | refine blk_drewN ?_ _ | refine blk_drew ?_ | refine blk_alloc ?_ _)); refine blk_far ?_ NB335_342.out _; (with_reducible repeat (first | refine blk_drewN ?_ _ | refine blk_drew ?_ | refine blk_alloc ?_ _)); refine blk_far ?_ NB335_342.out _; (with_reducible repeat (first | refine blk_drewN ?_ _ | refine blk_drew ?_ | refine blk_alloc ?_ _)); refine blk_far ?_ NB335_342.out _; (with_reducible repeat (first | refine blk_drewN ?_ _ | refine blk_drew ?_ | refine blk_alloc ?_ _)); refine blk_far ?_ NB335_342.out _; (with_reducible repeat (first | refine blk_drewN ?_ _ | refine blk_drew ?_ | refine blk_alloc ?_ _)); exact BK335.out⟩
          have n4_ : Aside0 ((((((w19.setCell ⟨gb342, 0, none⟩ (.int .i64 t336)).setCell ⟨gb342, 1, none⟩ (.int .i64 t337)).setCell ⟨gb342, 2, none⟩ (.int .i64 t338)).setCell ⟨gb342, 3, none⟩ (.int .i64 t339)).setCell ⟨gb342, 4, none⟩ (.int .i64 t340)).heap[gb342]? = some (.cells #[.int .i64 t336, .int .i64 t337, .int .i64 t338, .int .i64 t339, .int .i64 t340] 26 (0, 0))) := ⟨by (with_reducible repeat (first | refine blk_drewN ?_ _ | refine blk_drew ?_ | refine blk_alloc ?_ _)); refine blk_put (cs := #[.int .i64 t336, .int .i64 t337, .int .i64 t338, .int .i64 t339, .int .i64 0]) ?_ 4 _ rfl; (with_reducible repeat (first | refine blk_drewN ?_ _ | refine blk_drew ?_ | refine blk_alloc ?_ _)); refine blk_put (cs := #[.int .i64 t336, .int .i64 t337, .int .i64 t338, .int .i64 0, .int .i64 0]) ?_ 3 _ rfl; (with_reducible repeat (first | refine blk_drewN ?_ _ | refine blk_drew ?_ | refine blk_alloc ?_ _)); refine blk_put (cs := #[.int .i64 t336, .int .i64 t337, .int .i64 0, .int .i64 0, .int .i64 0]) ?_ 2 _ rfl; (with_reducible repeat (first | refine blk_drewN ?_ _ | refine blk_drew ?_ | refine blk_alloc ?_ _)); refine blk_put (cs := #[.int .i64 t336, .int .i64 0, .int .i64 0, .int .i64 0, .int .i64 0]) ?_ 1 _ rfl; (with_reducible repeat (first | refine blk_drewN ?_ _ | refine blk_drew ?_ | refine blk_alloc ?_ _)); refine blk_put (cs := #[.int .i64 0, .int .i64 0, .int .i64 0, .int .i64 0, .int .i64 0]) ?_ 0 _ rfl; (with_reducible repeat (first | refine blk_drewN ?_ _ | refine blk_drew ?_ | refine blk_alloc ?_ _)); exact BK342.out⟩
          have n5_ : Aside0 (Below w.heap.size w (((((w19.setCell ⟨gb342, 0, none⟩ (.int .i64 t336)).setCell ⟨gb342, 1, none⟩ (.int .i64 t337)).setCell ⟨gb342, 2, none⟩ (.int .i64 t338)).setCell ⟨gb342, 3, none⟩ (.int .i64 t339)).setCell ⟨gb342, 4, none⟩ (.int .i64 t340))) := ⟨by repeat (first | (with_reducible first | exact HB.out | apply below_alloc | apply pw_below_drewN | apply below_drew1 | refine below_set ?_ GE332.out | refine below_set ?_ GE335.out | refine below_set ?_ GE342.out) | exact HB.out)⟩
          (try clear HO_7)
          (try clear HO_333000)
          (try clear BK332)
          (try clear BK335)
          (try clear BK342)
          (try clear HB)
          generalize (((((w19.setCell ⟨gb342, 0, none⟩ (.int .i64 t336)).setCell ⟨gb342, 1, none⟩ (.int .i64 t337)).setCell ⟨gb342, 2, none⟩ (.int .i64 t338)).setCell ⟨gb342, 3, none⟩ (.int .i64 t339)).setCell ⟨gb342, 4, none⟩ (.int .i64 t340)) = w33 at n0_ n1_ n2_ n3_ n4_ n5_ ⊢
          have HO_7 := n0_
          have HO_333000 := n1_
          have BK332 := n2_
          have BK335 := n3_
          have BK342 := n4_
          have HB := n5_
          clear n0_ n1_ n2_ n3_ n4_ n5_
          have n0_ := Aside0.mk (Kd.Q_drew HO_7.out)
          have n1_ := Aside0.mk (Kd.R_drew HO_333000.out)
          have n2_ := Aside0.mk (blk_drew BK332.out)
          have n3_ := Aside0.mk (blk_drew BK335.out)
          have n4_ := Aside0.mk (blk_drew BK342.out)
          have n5_ := Aside0.mk (below_drew1 HB.out)
          clear HO_7
          clear HO_333000
          clear BK332
          clear BK335
          clear BK342
          clear HB
          have HO_7 := n0_
          have HO_333000 := n1_
          have BK332 := n2_
          have BK335 := n3_
          have BK342 := n4_
          have HB := n5_
          clear n0_ n1_ n2_ n3_ n4_ n5_
          obtain ⟨Ao35, co35, eo35, _⟩ := Kd.Q_slice HO_7.out
          (first | subst eo35 | (injection eo35 with f1_ f2_ f3_; have f4_ := f1_.symm; have f5_ := f3_.symm; clear f1_ f2_ f3_; subst f4_; subst f5_))
          refine start_ (n := 15) (S := fun w' => True) (ds := []) #[false, false, false, false, false, false, false, false, false, false, false, false, false, false, false] (by kernel_rfl) rfl rfl trivial (fun hHeld => ?_); refine with_tabW slotmeshlaw27_QueueFirst.tab10 slotmeshlaw27_QueueFirst.bits10 (fun HT_ HW_ => ?_)
          generalize w33.drew = w34 at HO_7 HO_333000 BK332 BK335 BK342 HB hHeld ⊢
          refine pure_ (i := 0) (N := some 30) (v := ?_) (a' := ?_) #[true, false, false, false, false, false, false, false, false, false, false, false, false, false, false] rfl rfl (any_of HT_.out (by kernel_rfl)) (fun _ _ _ h => h) (Or.inl ⟨by rfl, ?_⟩) ?_ ?_
          rotate_left
          ·intro w'
           go_simp
           with_reducible rfl
          rotate_left
          ·simp only [Act.put, List.setIfInBounds_toArray, List.set_cons_zero, List.set_cons_succ, i64_w, i32_w]
           rfl
          refine pure_ (i := 1) (N := some 31) (v := ?_) (a' := ?_) #[true, true, false, false, false, false, false, false, false, false, false, false, false, false, false] rfl rfl (any_of HT_.out (by kernel_rfl)) (fun _ _ _ h => h) (Or.inl ⟨by rfl, ?_⟩) ?_ ?_
          rotate_left
          ·intro w'
           go_simp
           with_reducible rfl
          rotate_left
          ·simp only [Act.put, List.setIfInBounds_toArray, List.set_cons_zero, List.set_cons_succ, i64_w, i32_w]
           rfl
          refine pure_ (i := 2) (N := some 32) (v := ?_) (a' := ?_) #[true, true, true, false, false, false, false, false, false, false, false, false, false, false, false] rfl rfl (any_of HT_.out (by kernel_rfl)) (fun _ _ _ h => h) (Or.inl ⟨by rfl, ?_⟩) ?_ ?_
          rotate_left
          ·intro w'
           go_simp
           with_reducible rfl
          rotate_left
          ·simp only [Act.put, List.setIfInBounds_toArray, List.set_cons_zero, List.set_cons_succ, i64_w, i32_w]
           rfl
          refine pure_ (i := 3) (N := some 33) (v := ?_) (a' := ?_) #[true, true, true, true, false, false, false, false, false, false, false, false, false, false, false] rfl rfl (any_of HT_.out (by kernel_rfl)) (fun _ _ _ h => h) (Or.inl ⟨by rfl, ?_⟩) ?_ ?_
          rotate_left
          ·intro w'
           go_simp
           with_reducible rfl
          rotate_left
          ·simp only [Act.put, List.setIfInBounds_toArray, List.set_cons_zero, List.set_cons_succ, i64_w, i32_w]
           rfl
          refine pure_ (i := 4) (N := some 34) (v := ?_) (a' := ?_) #[true, true, true, true, true, false, false, false, false, false, false, false, false, false, false] rfl rfl (any_of HT_.out (by kernel_rfl)) (fun _ _ _ h => h) (Or.inl ⟨by rfl, ?_⟩) ?_ ?_
          rotate_left
          ·intro w'
           go_simp
           with_reducible rfl
          rotate_left
          ·simp only [Act.put, List.setIfInBounds_toArray, List.set_cons_zero, List.set_cons_succ, i64_w, i32_w]
           rfl
          refine pure_ (i := 5) (N := some 35) (v := ?_) (a' := ?_) #[true, true, true, true, true, true, false, false, false, false, false, false, false, false, false] rfl rfl (any_of HT_.out (by kernel_rfl)) (fun _ _ _ h => h) (Or.inl ⟨by rfl, ?_⟩) ?_ ?_
          rotate_left
          ·intro w'
           go_simp
           with_reducible rfl
          rotate_left
          ·simp only [Act.put, List.setIfInBounds_toArray, List.set_cons_zero, List.set_cons_succ, i64_w, i32_w]
           rfl
          refine pure_ (i := 6) (N := some 36) (v := undef) (a' := ?_) #[true, true, true, true, true, true, true, false, false, false, false, false, false, false, false] rfl rfl (any_of HT_.out (by kernel_rfl)) (fun _ _ _ h => h) (Or.inr ⟨by rfl, rfl⟩) ?_ ?_
          rotate_left
          ·simp only [Act.put, List.setIfInBounds_toArray, List.set_cons_zero, List.set_cons_succ, i64_w, i32_w]
           rfl
          refine pure_ (i := 7) (N := some 37) (v := undef) (a' := ?_) #[true, true, true, true, true, true, true, true, false, false, false, false, false, false, false] rfl rfl (any_of HT_.out (by kernel_rfl)) (fun _ _ _ h => h) (Or.inr ⟨by rfl, rfl⟩) ?_ ?_
          rotate_left
          ·simp only [Act.put, List.setIfInBounds_toArray, List.set_cons_zero, List.set_cons_succ, i64_w, i32_w]
           rfl
          refine pure_ (i := 8) (N := some 38) (v := undef) (a' := ?_) #[true, true, true, true, true, true, true, true, true, false, false, false, false, false, false] rfl rfl (any_of HT_.out (by kernel_rfl)) (fun _ _ _ h => h) (Or.inr ⟨by rfl, rfl⟩) ?_ ?_
          rotate_left
          ·simp only [Act.put, List.setIfInBounds_toArray, List.set_cons_zero, List.set_cons_succ, i64_w, i32_w]
           rfl
          refine pure_ (i := 9) (N := some 39) (v := undef) (a' := ?_) #[true, true, true, true, true, true, true, true, true, true, false, false, false, false, false] rfl rfl (any_of HT_.out (by kernel_rfl)) (fun _ _ _ h => h) (Or.inr ⟨by rfl, rfl⟩) ?_ ?_
          rotate_left
          ·simp only [Act.put, List.setIfInBounds_toArray, List.set_cons_zero, List.set_cons_succ, i64_w, i32_w]
           rfl
          refine pure_ (i := 10) (N := some 40) (v := undef) (a' := ?_) #[true, true, true, true, true, true, true, true, true, true, true, false, false, false, false] rfl rfl (any_of HT_.out (by kernel_rfl)) (fun _ _ _ h => h) (Or.inr ⟨by rfl, rfl⟩) ?_ ?_
          rotate_left
          ·simp only [Act.put, List.setIfInBounds_toArray, List.set_cons_zero, List.set_cons_succ, i64_w, i32_w]
           rfl
          refine pure_ (i := 11) (N := some 41) (v := undef) (a' := ?_) #[true, true, true, true, true, true, true, true, true, true, true, true, false, false, false] rfl rfl (any_of HT_.out (by kernel_rfl)) (fun _ _ _ h => h) (Or.inr ⟨by rfl, rfl⟩) ?_ ?_
          rotate_left
          ·simp only [Act.put, List.setIfInBounds_toArray, List.set_cons_zero, List.set_cons_succ, i64_w, i32_w]
           rfl
          refine pure_ (i := 12) (N := some 42) (v := undef) (a' := ?_) #[true, true, true, true, true, true, true, true, true, true, true, true, true, false, false] rfl rfl (any_of HT_.out (by kernel_rfl)) (fun _ _ _ h => h) (Or.inr ⟨by rfl, rfl⟩) ?_ ?_
          rotate_left
          ·simp only [Act.put, List.setIfInBounds_toArray, List.set_cons_zero, List.set_cons_succ, i64_w, i32_w]
           rfl
          refine pure_ (i := 13) (N := some 43) (v := undef) (a' := ?_) #[true, true, true, true, true, true, true, true, true, true, true, true, true, true, false] rfl rfl (any_of HT_.out (by kernel_rfl)) (fun _ _ _ h => h) (Or.inr ⟨by rfl, rfl⟩) ?_ ?_
          rotate_left
          ·simp only [Act.put, List.setIfInBounds_toArray, List.set_cons_zero, List.set_cons_succ, i64_w, i32_w]
           rfl
          refine pure_ (i := 14) (N := some 44) (v := ?_) (a' := ?_) #[true, true, true, true, true, true, true, true, true, true, true, true, true, true, true] rfl rfl (any_of HT_.out (by kernel_rfl)) (fun _ _ _ h => h) (Or.inl ⟨by rfl, ?_⟩) ?_ ?_
          rotate_left
          ·intro w'
           go_simp
           with_reducible rfl
          rotate_left
          ·simp only [Act.put, List.setIfInBounds_toArray, List.set_cons_zero, List.set_cons_succ, i64_w, i32_w]
           rfl
          refine done_ (done_of HT_.out (by kernel_rfl)) ?_
          try go_wp2
          go_meet
          case rel => exact ⟨_, (true), (by first | rfl | (simp; done) | (simp [*]; done)), H', ⟨by have := HK1.out; first | omega | exact Nat.le_refl _⟩, ⟨by (with_reducible repeat (first | apply Kd.Q_alloc | apply Kd.Q_drewN | apply Kd.Q_drew)); exact HO_7.out⟩, ⟨by (with_reducible repeat (first | apply Kd.R_alloc | apply Kd.R_drewN | apply Kd.R_drew)); exact HO_333000.out⟩, ⟨by (with_reducible repeat (first | refine blk_drewN ?_ _ | refine blk_drew ?_ | refine blk_alloc ?_ _)); exact BK332.out⟩, ⟨by (with_reducible repeat (first | refine blk_drewN ?_ _ | refine blk_drew ?_ | refine blk_alloc ?_ _)); exact BK335.out⟩, ⟨by (with_reducible repeat (first | refine blk_drewN ?_ _ | refine blk_drew ?_ | refine blk_alloc ?_ _)); exact BK342.out⟩, ⟨by repeat (first | (with_reducible first | exact HB.out | apply below_alloc | apply pw_below_drewN | apply below_drew1 | refine below_set ?_ GE332.out | refine below_set ?_ GE335.out | refine below_set ?_ GE342.out) | exact HB.out)⟩⟩
         ·rw [if_neg c32] at H
          have c32b0 : decide (0 < (x7_1.length : Int)) = false := decide_eq_false c32
          have c32b1 : decide (0 < x7_1.length) = false := decide_eq_false (by omega)
          clear c32
          have H' := Aside0.mk H
          clear H
          try go_wp2
          have n0_ : Aside0 (Kd.Q k26 26 (((((w19.setCell ⟨gb342, 0, none⟩ (.int .i64 t336)).setCell ⟨gb342, 1, none⟩ (.int .i64 t337)).setCell ⟨gb342, 2, none⟩ (.int .i64 t338)).setCell ⟨gb342, 3, none⟩ (.int .i64 t339)).setCell ⟨gb342, 4, none⟩ (.int .i64 t340)) w.heap.size (fun k_ => some k_ ≠ (.slice Ao17 x333000_1.length co17 : Value).ownBlock ∧ k_ ≠ gb342) u7 x7_1) := ⟨by (with_reducible repeat (first | apply Kd.Q_alloc | apply Kd.Q_drewN | apply Kd.Q_drew)); exact Kd.Q_mono (Kd.Q_far (p := ⟨gb342, 4, none⟩) (Kd.Q_far (p := ⟨gb342, 3, none⟩) (Kd.Q_far (p := ⟨gb342, 2, none⟩) (Kd.Q_far (p := ⟨gb342, 1, none⟩) (Kd.Q_far (p := ⟨gb342, 0, none⟩) (Kd.Q_mono HO_7.out (fun k_ hk => (⟨hk, hk.2⟩ : _ ∧ k_ ≠ gb342))) (fun _ hk => hk.2) (.int .i64 t336)) (fun _ hk => hk.2) (.int .i64 t337)) (fun _ hk => hk.2) (.int .i64 t338)) (fun _ hk => hk.2) (.int .i64 t339)) (fun _ hk => hk.2) (.int .i64 t340)) (fun _ hk => ⟨hk.1.1, hk.1.2⟩)⟩
          have n1_ : Aside0 (Kd.R k26 26 (((((w19.setCell ⟨gb342, 0, none⟩ (.int .i64 t336)).setCell ⟨gb342, 1, none⟩ (.int .i64 t337)).setCell ⟨gb342, 2, none⟩ (.int .i64 t338)).setCell ⟨gb342, 3, none⟩ (.int .i64 t339)).setCell ⟨gb342, 4, none⟩ (.int .i64 t340)) w.heap.size (fun k_ => some k_ ≠ (u7 : Value).ownBlock ∧ k_ ≠ gb342) (.slice Ao17 x333000_1.length co17) x333000_1) := ⟨by (with_reducible repeat (first | apply Kd.R_alloc | apply Kd.R_drewN | apply Kd.R_drew)); exact Kd.R_mono (Kd.R_far (p := ⟨gb342, 4, none⟩) (Kd.R_far (p := ⟨gb342, 3, none⟩) (Kd.R_far (p := ⟨gb342, 2, none⟩) (Kd.R_far (p := ⟨gb342, 1, none⟩) (Kd.R_far (p := ⟨gb342, 0, none⟩) (Kd.R_mono HO_333000.out (fun k_ hk => (⟨hk, hk.2⟩ : _ ∧ k_ ≠ gb342))) (fun _ hk => hk.2) (.int .i64 t336)) (fun _ hk => hk.2) (.int .i64 t337)) (fun _ hk => hk.2) (.int .i64 t338)) (fun _ hk => hk.2) (.int .i64 t339)) (fun _ hk => hk.2) (.int .i64 t340)) (fun _ hk => ⟨hk.1.1, hk.1.2⟩)⟩
          have n2_ : Aside0 ((((((w19.setCell ⟨gb342, 0, none⟩ (.int .i64 t336)).setCell ⟨gb342, 1, none⟩ (.int .i64 t337)).setCell ⟨gb342, 2, none⟩ (.int .i64 t338)).setCell ⟨gb342, 3, none⟩ (.int .i64 t339)).setCell ⟨gb342, 4, none⟩ (.int .i64 t340)).heap[gb332]? = some (.cells #[.slice Ao17 x333000_1.length co17] 24 (0, 0))) := ⟨by (with_reducible repeat (first | refine blk_drewN ?_ _ | refine blk_drew ?_ | refine blk_alloc ?_ _)); refine blk_far ?_ NB332_342.out _; (with_reducible repeat (first | refine blk_drewN ?_ _ | refine blk_drew ?_ | refine blk_alloc ?_ _)); refine blk_far ?_ NB332_342.out _; (with_reducible repeat (first | refine blk_drewN ?_ _ | refine blk_drew ?_ | refine blk_alloc ?_ _)); refine blk_far ?_ NB332_342.out _; (with_reducible repeat (first | refine blk_drewN ?_ _ | refine blk_drew ?_ | refine blk_alloc ?_ _)); refine blk_far ?_ NB332_342.out _; (with_reducible repeat (first | refine blk_drewN ?_ _ | refine blk_drew ?_ | refine blk_alloc ?_ _)); refine blk_far ?_ NB332_342.out _; (with_reducible repeat (first | refine blk_drewN ?_ _ | refine blk_drew ?_ | refine blk_alloc ?_ _)); exact BK332.out⟩
          have n3_ : Aside0 ((((((w19.setCell ⟨gb342, 0, none⟩ (.int .i64 t336)).setCell ⟨gb342, 1, none⟩ (.int .i64 t337)).setCell ⟨gb342, 2, none⟩ (.int .i64 t338)).setCell ⟨gb342, 3, none⟩ (.int .i64 t339)).setCell ⟨gb342, 4, none⟩ (.int .i64 t340)).heap[gb335]? = some (.cells #[.bool ((rd_T39 l0 x21_1).f0), .int .i64 ((rd_T39 l0 x21_1).f1.f0), .int .i64 ((rd_T39 l0 x21_1).f1.f1), .int .i64 ((rd_T39 l0 x21_1).f1.f2), .int .i64 ((rd_T39 l0 x21_1).f1.f3), .int .i64 ((rd_T39 l0 x21_1).f1.f4)] 39 (0, 0))) := ⟨by (with_reducible repeat (first | refine blk_drewN ?_ _ | refine blk_drew ?_ | refine blk_alloc ?_ _)); refine blk_far ?_ NB335_342.out _; (with_reducible repeat (first | refine blk_drewN ?_ _ | refine blk_drew ?_ | refine blk_alloc ?_ _)); refine blk_far ?_ NB335_342.out _; (with_reducible repeat (first | refine blk_drewN ?_ _ | refine blk_drew ?_ | refine blk_alloc ?_ _)); refine blk_far ?_ NB335_342.out _; (with_reducible repeat (first | refine blk_drewN ?_ _ | refine blk_drew ?_ | refine blk_alloc ?_ _)); refine blk_far ?_ NB335_342.out _; (with_reducible repeat (first | refine blk_drewN ?_ _ | refine blk_drew ?_ | refine blk_alloc ?_ _)); refine blk_far ?_ NB335_342.out _; (with_reducible repeat (first | refine blk_drewN ?_ _ | refine blk_drew ?_ | refine blk_alloc ?_ _)); exact BK335.out⟩
          have n4_ : Aside0 ((((((w19.setCell ⟨gb342, 0, none⟩ (.int .i64 t336)).setCell ⟨gb342, 1, none⟩ (.int .i64 t337)).setCell ⟨gb342, 2, none⟩ (.int .i64 t338)).setCell ⟨gb342, 3, none⟩ (.int .i64 t339)).setCell ⟨gb342, 4, none⟩ (.int .i64 t340)).heap[gb342]? = some (.cells #[.int .i64 t336, .int .i64 t337, .int .i64 t338, .int .i64 t339, .int .i64 t340] 26 (0, 0))) := ⟨by (with_reducible repeat (first | refine blk_drewN ?_ _ | refine blk_drew ?_ | refine blk_alloc ?_ _)); refine blk_put (cs := #[.int .i64 t336, .int .i64 t337, .int .i64 t338, .int .i64 t339, .int .i64 0]) ?_ 4 _ rfl; (with_reducible repeat (first | refine blk_drewN ?_ _ | refine blk_drew ?_ | refine blk_alloc ?_ _)); refine blk_put (cs := #[.int .i64 t336, .int .i64 t337, .int .i64 t338, .int .i64 0, .int .i64 0]) ?_ 3 _ rfl; (with_reducible repeat (first | refine blk_drewN ?_ _ | refine blk_drew ?_ | refine blk_alloc ?_ _)); refine blk_put (cs := #[.int .i64 t336, .int .i64 t337, .int .i64 0, .int .i64 0, .int .i64 0]) ?_ 2 _ rfl; (with_reducible repeat (first | refine blk_drewN ?_ _ | refine blk_drew ?_ | refine blk_alloc ?_ _)); refine blk_put (cs := #[.int .i64 t336, .int .i64 0, .int .i64 0, .int .i64 0, .int .i64 0]) ?_ 1 _ rfl; (with_reducible repeat (first | refine blk_drewN ?_ _ | refine blk_drew ?_ | refine blk_alloc ?_ _)); refine blk_put (cs := #[.int .i64 0, .int .i64 0, .int .i64 0, .int .i64 0, .int .i64 0]) ?_ 0 _ rfl; (with_reducible repeat (first | refine blk_drewN ?_ _ | refine blk_drew ?_ | refine blk_alloc ?_ _)); exact BK342.out⟩
          have n5_ : Aside0 (Below w.heap.size w (((((w19.setCell ⟨gb342, 0, none⟩ (.int .i64 t336)).setCell ⟨gb342, 1, none⟩ (.int .i64 t337)).setCell ⟨gb342, 2, none⟩ (.int .i64 t338)).setCell ⟨gb342, 3, none⟩ (.int .i64 t339)).setCell ⟨gb342, 4, none⟩ (.int .i64 t340))) := ⟨by repeat (first | (with_reducible first | exact HB.out | apply below_alloc | apply pw_below_drewN | apply below_drew1 | refine below_set ?_ GE332.out | refine below_set ?_ GE335.out | refine below_set ?_ GE342.out) | exact HB.out)⟩
          (try clear HO_7)
          (try clear HO_333000)
          (try clear BK332)
          (try clear BK335)
          (try clear BK342)
          (try clear HB)
          generalize (((((w19.setCell ⟨gb342, 0, none⟩ (.int .i64 t336)).setCell ⟨gb342, 1, none⟩ (.int .i64 t337)).setCell ⟨gb342, 2, none⟩ (.int .i64 t338)).setCell ⟨gb342, 3, none⟩ (.int .i64 t339)).setCell ⟨gb342, 4, none⟩ (.int .i64 t340)) = w36 at n0_ n1_ n2_ n3_ n4_ n5_ ⊢
          have HO_7 := n0_
          have HO_333000 := n1_
          have BK332 := n2_
          have BK335 := n3_
          have BK342 := n4_
          have HB := n5_
          clear n0_ n1_ n2_ n3_ n4_ n5_
          have n0_ := Aside0.mk (Kd.Q_drew HO_7.out)
          have n1_ := Aside0.mk (Kd.R_drew HO_333000.out)
          have n2_ := Aside0.mk (blk_drew BK332.out)
          have n3_ := Aside0.mk (blk_drew BK335.out)
          have n4_ := Aside0.mk (blk_drew BK342.out)
          have n5_ := Aside0.mk (below_drew1 HB.out)
          clear HO_7
          clear HO_333000
          clear BK332
          clear BK335
          clear BK342
          clear HB
          have HO_7 := n0_
          have HO_333000 := n1_
          have BK332 := n2_
          have BK335 := n3_
          have BK342 := n4_
          have HB := n5_
          clear n0_ n1_ n2_ n3_ n4_ n5_
          obtain ⟨Ao38, co38, eo38, _⟩ := Kd.Q_slice HO_7.out
          (first | subst eo38 | (injection eo38 with f1_ f2_ f3_; have f4_ := f1_.symm; have f5_ := f3_.symm; clear f1_ f2_ f3_; subst f4_; subst f5_))
          refine start_ (n := 15) (S := fun w' => True) (ds := []) #[false, false, false, false, false, false, false, false, false, false, false, false, false, false, false] (by kernel_rfl) rfl rfl trivial (fun hHeld => ?_); refine with_tabW slotmeshlaw27_QueueFirst.tab10 slotmeshlaw27_QueueFirst.bits10 (fun HT_ HW_ => ?_)
          generalize w36.drew = w37 at HO_7 HO_333000 BK332 BK335 BK342 HB hHeld ⊢
          refine pure_ (i := 0) (N := some 30) (v := ?_) (a' := ?_) #[true, false, false, false, false, false, false, false, false, false, false, false, false, false, false] rfl rfl (any_of HT_.out (by kernel_rfl)) (fun _ _ _ h => h) (Or.inl ⟨by rfl, ?_⟩) ?_ ?_
          rotate_left
          ·intro w'
           go_simp
           with_reducible rfl
          rotate_left
          ·simp only [Act.put, List.setIfInBounds_toArray, List.set_cons_zero, List.set_cons_succ, i64_w, i32_w]
           rfl
          refine pure_ (i := 1) (N := some 31) (v := ?_) (a' := ?_) #[true, true, false, false, false, false, false, false, false, false, false, false, false, false, false] rfl rfl (any_of HT_.out (by kernel_rfl)) (fun _ _ _ h => h) (Or.inl ⟨by rfl, ?_⟩) ?_ ?_
          rotate_left
          ·intro w'
           go_simp
           with_reducible rfl
          rotate_left
          ·simp only [Act.put, List.setIfInBounds_toArray, List.set_cons_zero, List.set_cons_succ, i64_w, i32_w]
           rfl
          refine pure_ (i := 2) (N := some 32) (v := ?_) (a' := ?_) #[true, true, true, false, false, false, false, false, false, false, false, false, false, false, false] rfl rfl (any_of HT_.out (by kernel_rfl)) (fun _ _ _ h => h) (Or.inl ⟨by rfl, ?_⟩) ?_ ?_
          rotate_left
          ·intro w'
           go_simp
           with_reducible rfl
          rotate_left
          ·simp only [Act.put, List.setIfInBounds_toArray, List.set_cons_zero, List.set_cons_succ, i64_w, i32_w]
           rfl
          refine pure_ (i := 3) (N := some 33) (v := ?_) (a' := ?_) #[true, true, true, true, false, false, false, false, false, false, false, false, false, false, false] rfl rfl (any_of HT_.out (by kernel_rfl)) (fun _ _ _ h => h) (Or.inl ⟨by rfl, ?_⟩) ?_ ?_
          rotate_left
          ·intro w'
           go_simp
           with_reducible rfl
          rotate_left
          ·simp only [Act.put, List.setIfInBounds_toArray, List.set_cons_zero, List.set_cons_succ, i64_w, i32_w]
           rfl
          refine pure_ (i := 4) (N := some 34) (v := ?_) (a' := ?_) #[true, true, true, true, true, false, false, false, false, false, false, false, false, false, false] rfl rfl (any_of HT_.out (by kernel_rfl)) (fun _ _ _ h => h) (Or.inl ⟨by rfl, ?_⟩) ?_ ?_
          rotate_left
          ·intro w'
           go_simp
           with_reducible rfl
          rotate_left
          ·simp only [Act.put, List.setIfInBounds_toArray, List.set_cons_zero, List.set_cons_succ, i64_w, i32_w]
           rfl
          refine pure_ (i := 5) (N := some 35) (v := ?_) (a' := ?_) #[true, true, true, true, true, true, false, false, false, false, false, false, false, false, false] rfl rfl (any_of HT_.out (by kernel_rfl)) (fun _ _ _ h => h) (Or.inl ⟨by rfl, ?_⟩) ?_ ?_
          rotate_left
          ·intro w'
           go_simp
           with_reducible rfl
          rotate_left
          ·simp only [Act.put, List.setIfInBounds_toArray, List.set_cons_zero, List.set_cons_succ, i64_w, i32_w]
           rfl
          refine pure_ (i := 6) (N := some 36) (v := ?_) (a' := ?_) #[true, true, true, true, true, true, true, false, false, false, false, false, false, false, false] rfl rfl (any_of HT_.out (by kernel_rfl)) (fun _ _ _ h => h) (Or.inl ⟨by rfl, ?_⟩) ?_ ?_
          rotate_left
          ·intro w'
           go_simp
           with_reducible rfl
          rotate_left
          ·simp only [Act.put, List.setIfInBounds_toArray, List.set_cons_zero, List.set_cons_succ, i64_w, i32_w]
           rfl
          refine pure_ (i := 7) (N := some 37) (v := ?_) (a' := ?_) #[true, true, true, true, true, true, true, true, false, false, false, false, false, false, false] rfl rfl (any_of HT_.out (by kernel_rfl)) (fun _ _ _ h => h) (Or.inl ⟨by rfl, ?_⟩) ?_ ?_
          rotate_left
          ·intro w'
           go_simp
           with_reducible rfl
          rotate_left
          ·simp only [Act.put, List.setIfInBounds_toArray, List.set_cons_zero, List.set_cons_succ, i64_w, i32_w]
           rfl
          refine pure_ (i := 8) (N := some 38) (v := undef) (a' := ?_) #[true, true, true, true, true, true, true, true, true, false, false, false, false, false, false] rfl rfl (any_of HT_.out (by kernel_rfl)) (fun _ _ _ h => h) (Or.inr ⟨by rfl, rfl⟩) ?_ ?_
          rotate_left
          ·simp only [Act.put, List.setIfInBounds_toArray, List.set_cons_zero, List.set_cons_succ, i64_w, i32_w]
           rfl
          refine pure_ (i := 9) (N := some 39) (v := undef) (a' := ?_) #[true, true, true, true, true, true, true, true, true, true, false, false, false, false, false] rfl rfl (any_of HT_.out (by kernel_rfl)) (fun _ _ _ h => h) (Or.inr ⟨by rfl, rfl⟩) ?_ ?_
          rotate_left
          ·simp only [Act.put, List.setIfInBounds_toArray, List.set_cons_zero, List.set_cons_succ, i64_w, i32_w]
           rfl
          refine pure_ (i := 10) (N := some 40) (v := undef) (a' := ?_) #[true, true, true, true, true, true, true, true, true, true, true, false, false, false, false] rfl rfl (any_of HT_.out (by kernel_rfl)) (fun _ _ _ h => h) (Or.inr ⟨by rfl, rfl⟩) ?_ ?_
          rotate_left
          ·simp only [Act.put, List.setIfInBounds_toArray, List.set_cons_zero, List.set_cons_succ, i64_w, i32_w]
           rfl
          refine pure_ (i := 11) (N := some 41) (v := undef) (a' := ?_) #[true, true, true, true, true, true, true, true, true, true, true, true, false, false, false] rfl rfl (any_of HT_.out (by kernel_rfl)) (fun _ _ _ h => h) (Or.inr ⟨by rfl, rfl⟩) ?_ ?_
          rotate_left
          ·simp only [Act.put, List.setIfInBounds_toArray, List.set_cons_zero, List.set_cons_succ, i64_w, i32_w]
           rfl
          refine pure_ (i := 12) (N := some 42) (v := undef) (a' := ?_) #[true, true, true, true, true, true, true, true, true, true, true, true, true, false, false] rfl rfl (any_of HT_.out (by kernel_rfl)) (fun _ _ _ h => h) (Or.inr ⟨by rfl, rfl⟩) ?_ ?_
          rotate_left
          ·simp only [Act.put, List.setIfInBounds_toArray, List.set_cons_zero, List.set_cons_succ, i64_w, i32_w]
           rfl
          refine pure_ (i := 13) (N := some 43) (v := ?_) (a' := ?_) #[true, true, true, true, true, true, true, true, true, true, true, true, true, true, false] rfl rfl (any_of HT_.out (by kernel_rfl)) (fun _ _ _ h => h) (Or.inl ⟨by rfl, ?_⟩) ?_ ?_
          rotate_left
          ·intro w'
           go_simp
           with_reducible rfl
          rotate_left
          ·simp only [Act.put, List.setIfInBounds_toArray, List.set_cons_zero, List.set_cons_succ, i64_w, i32_w]
           rfl
          refine pure_ (i := 14) (N := some 44) (v := ?_) (a' := ?_) #[true, true, true, true, true, true, true, true, true, true, true, true, true, true, true] rfl rfl (any_of HT_.out (by kernel_rfl)) (fun _ _ _ h => h) (Or.inl ⟨by rfl, ?_⟩) ?_ ?_
          rotate_left
          ·intro w'
           go_simp
           with_reducible rfl
          rotate_left
          ·simp only [Act.put, List.setIfInBounds_toArray, List.set_cons_zero, List.set_cons_succ, i64_w, i32_w]
           rfl
          refine done_ (done_of HT_.out (by kernel_rfl)) ?_
          try go_wp2
          go_meet
          case rel => exact ⟨_, (false), (by first | rfl | (simp; done) | (simp [*]; done)), H', ⟨by have := HK1.out; first | omega | exact Nat.le_refl _⟩, ⟨by (with_reducible repeat (first | apply Kd.Q_alloc | apply Kd.Q_drewN | apply Kd.Q_drew)); exact HO_7.out⟩, ⟨by (with_reducible repeat (first | apply Kd.R_alloc | apply Kd.R_drewN | apply Kd.R_drew)); exact HO_333000.out⟩, ⟨by (with_reducible repeat (first | refine blk_drewN ?_ _ | refine blk_drew ?_ | refine blk_alloc ?_ _)); exact BK332.out⟩, ⟨by (with_reducible repeat (first | refine blk_drewN ?_ _ | refine blk_drew ?_ | refine blk_alloc ?_ _)); exact BK335.out⟩, ⟨by (with_reducible repeat (first | refine blk_drewN ?_ _ | refine blk_drew ?_ | refine blk_alloc ?_ _)); exact BK342.out⟩, ⟨by repeat (first | (with_reducible first | exact HB.out | apply below_alloc | apply pw_below_drewN | apply below_drew1 | refine below_set ?_ GE332.out | refine below_set ?_ GE335.out | refine below_set ?_ GE342.out) | exact HB.out)⟩⟩
       case rest =>
        clear HC12
        try clear c2
        try clear p2
        try clear c3
        try clear p3
        try clear q3
        try clear hx3
        try clear qi3
        try clear c23
        try clear c24
        try clear c24b0
        try clear c24b1
        try clear c25
        try clear c32
        try clear c32b0
        try clear c32b1
        try clear p34
        try clear q34
        try clear hx34
        try clear qi34
        try clear hx343_0
        try clear hx343_1
        try clear hx343_2
        try clear hx343_3
        try clear hx343_4
        try clear p343
        try clear q343
        obtain ⟨kq, x44_11, rfl, HA, HJ11, HO_7, HO_333000, BK332, BK335, BK342, HB⟩ := hcut
        cases kq with
        | zero => exact absurd HA.out (by simp [slotmeshlaw27_QueueFirst.j1])
        | succ kj11 =>
         have H := HA.out
         clear HA
         simp only [slotmeshlaw27_QueueFirst.j1] at H
         by_cases c39 : x44_11 = true
         ·subst c39
          have H1 : (some false) = some r := by rw [if_pos rfl] at H; exact H
          clear H
          have H := H1
          clear H1
          exact absurd (Option.some.inj H) (by rw [HRT.out]; decide)
         ·replace c39 := Bool.eq_false_iff.mpr c39
          subst c39
          have H1 : (if ((rd_T39 l0 x21_1).f0) = true then (if t341 = true then ((queue_Drop.f kj11 x333000_1 t336 t337).bind fun t344 => (if 1 ≤ (x7_1.length : Int) then (slotmeshlaw27_QueueFirst.l0 kj11 a1 t331 (x7_1.drop (1 : Int).toNat) l0 (l0.length : Int) (wrap64 (x21_1 + 1)) t344) else (none))) else (slotmeshlaw27_QueueFirst.l0 kj11 a1 t331 x7_1 l0 (l0.length : Int) (wrap64 (x21_1 + 1)) x333000_1)) else ((queue_Put.f kj11 x333000_1 ((rd_T39 l0 x21_1).f1.f0) ((rd_T39 l0 x21_1).f1.f1) ((rd_T39 l0 x21_1).f1.f2) ((rd_T39 l0 x21_1).f1.f3) ((rd_T39 l0 x21_1).f1.f4) a1).bind fun bt350 => (if bt350.2 = 0 then (if 0 ≤ (x7_1.length : Int) then (if (x7_1.length : Int) ≤ (x7_1.length : Int) then ((some (x7_1.take ((x7_1.length : Int) : Int).toNat : List (S26))).bind fun y355 => (if y355.length < 3518437208883 then (slotmeshlaw27_QueueFirst.l0 kj11 a1 t331 (y355 ++ [(⟨((rd_T39 l0 x21_1).f1.f0), ((rd_T39 l0 x21_1).f1.f1), ((rd_T39 l0 x21_1).f1.f2), ((rd_T39 l0 x21_1).f1.f3), ((rd_T39 l0 x21_1).f1.f4)⟩ : S26)]) l0 (l0.length : Int) (wrap64 (x21_1 + 1)) bt350.1) else (none))) else (none)) else (none)) else (slotmeshlaw27_QueueFirst.l0 kj11 a1 t331 x7_1 l0 (l0.length : Int) (wrap64 (x21_1 + 1)) x333000_1)))) = some r := by rw [if_neg (show ¬ (false = true) by decide)] at H; exact H
          clear H
          have H := H1
          clear H1
          by_cases c40 : ((rd_T39 l0 x21_1).f0) = true
          ·rw [if_pos c40] at H
           have c40b0 : ((rd_T39 l0 x21_1).f0) = true := c40
           clear c40
           by_cases c41 : t341 = true
           ·subst c41
            have H1 : ((queue_Drop.f kj11 x333000_1 t336 t337).bind fun t344 => (if 1 ≤ (x7_1.length : Int) then (slotmeshlaw27_QueueFirst.l0 kj11 a1 t331 (x7_1.drop (1 : Int).toNat) l0 (l0.length : Int) (wrap64 (x21_1 + 1)) t344) else (none))) = some r := by rw [if_pos rfl] at H; exact H
            clear H
            have H := H1
            clear H1
            replace H := Option.bind_eq_some_iff.mp H
            obtain ⟨t344, A420, H⟩ := H
            replace H : (if 1 ≤ (x7_1.length : Int) then (slotmeshlaw27_QueueFirst.l0 kj11 a1 t331 (x7_1.drop (1 : Int).toNat) l0 (l0.length : Int) (wrap64 (x21_1 + 1)) t344) else (none)) = some r := H
            have A42 := Aside0.mk A420
            clear A420
            by_cases c43 : 1 ≤ (x7_1.length : Int)
            ·rw [if_pos c43] at H
             have c43b0 := eq_true c43
             have c43b1 : decide (1 ≤ (x7_1.length : Int)) = true := decide_eq_true c43
             clear c43
             obtain ⟨y347, hy347⟩ : ∃ y_ : List (S26), y_ = (x7_1.drop (1 : Int).toNat) := ⟨_, rfl⟩
             replace H : (slotmeshlaw27_QueueFirst.l0 kj11 a1 t331 y347 l0 (l0.length : Int) (wrap64 (x21_1 + 1)) t344) = some r := by first | (rw [hy347]; with_reducible exact H) | (have H2_ := (Option.bind_some _ _).symm.trans H; rw [hy347]; with_reducible exact H2_) | (have H2_ := (Option.bind_some _ _).symm.trans H; with_reducible exact H2_) | with_reducible exact H | (rw [hy347]; exact H) | exact H
             have Ny347 := Aside0.mk hy347
             clear hy347
             have H' := Aside0.mk H
             clear H
             have hnb44 := NB335_332.out
             have hnc44 := NB332_335.out
             have hnb45 := NB335_342.out
             have hnc45 := NB342_335.out
             have hcz46_0 : wc.cell? ⟨gb335, 0, none⟩ = some (.bool ((rd_T39 l0 x21_1).f0)) := (blk_cell BK335.out 0).trans rfl
             have hcz46_1 : wc.cell? ⟨gb335, 1, none⟩ = some (.int .i64 ((rd_T39 l0 x21_1).f1.f0)) := (blk_cell BK335.out 1).trans rfl
             have hcz46_2 : wc.cell? ⟨gb335, 2, none⟩ = some (.int .i64 ((rd_T39 l0 x21_1).f1.f1)) := (blk_cell BK335.out 2).trans rfl
             have hcz46_3 : wc.cell? ⟨gb335, 3, none⟩ = some (.int .i64 ((rd_T39 l0 x21_1).f1.f2)) := (blk_cell BK335.out 3).trans rfl
             have hcz46_4 : wc.cell? ⟨gb335, 4, none⟩ = some (.int .i64 ((rd_T39 l0 x21_1).f1.f3)) := (blk_cell BK335.out 4).trans rfl
             have hcz46_5 : wc.cell? ⟨gb335, 5, none⟩ = some (.int .i64 ((rd_T39 l0 x21_1).f1.f4)) := (blk_cell BK335.out 5).trans rfl
             have hfz46_0 := blk_frozen BK335.out 0
             have hfz46_1 := blk_frozen BK335.out 1
             have hfz46_2 := blk_frozen BK335.out 2
             have hfz46_3 := blk_frozen BK335.out 3
             have hfz46_4 := blk_frozen BK335.out 4
             have hfz46_5 := blk_frozen BK335.out 5
             have hnb47 := NB332_342.out
             have hnc47 := NB342_332.out
             have hcz48_0 : wc.cell? ⟨gb332, 0, none⟩ = some (.slice Ao17 x333000_1.length co17) := (blk_cell BK332.out 0).trans rfl
             have hfz48_0 := blk_frozen BK332.out 0
             have hcz49_0 : wc.cell? ⟨gb342, 0, none⟩ = some (.int .i64 t336) := (blk_cell BK342.out 0).trans rfl
             have hcz49_1 : wc.cell? ⟨gb342, 1, none⟩ = some (.int .i64 t337) := (blk_cell BK342.out 1).trans rfl
             have hcz49_2 : wc.cell? ⟨gb342, 2, none⟩ = some (.int .i64 t338) := (blk_cell BK342.out 2).trans rfl
             have hcz49_3 : wc.cell? ⟨gb342, 3, none⟩ = some (.int .i64 t339) := (blk_cell BK342.out 3).trans rfl
             have hcz49_4 : wc.cell? ⟨gb342, 4, none⟩ = some (.int .i64 t340) := (blk_cell BK342.out 4).trans rfl
             have hfz49_0 := blk_frozen BK342.out 0
             have hfz49_1 := blk_frozen BK342.out 1
             have hfz49_2 := blk_frozen BK342.out 2
             have hfz49_3 := blk_frozen BK342.out 3
             have hfz49_4 := blk_frozen BK342.out 4
             go_wp2_with (first | ((with_reducible refine gate_callee (f := 16) rfl ?_); refine goesL_ (some 53) rfl rfl Try.func16 (by kernel_rfl) rfl #[.agg #[.slice Ao17 x333000_1.length co17], .int .i64 t336, .int .i64 t337] rfl (by (try simp only [List.map_toArray, List.map_cons, List.map_nil]); first | done | rfl | (simp only [List.length_drop, List.length_take]; rfl)) ?_; (with_reducible refine (queue_Drop.calls kj11 (fun k_ => some k_ = (.slice Ao17 x333000_1.length co17 : Value).ownBlock) _ _ x333000_1 t336 t337 t344 _ ?side1 A42.out).mono ?_); (case side1 => exact Kd.R_V (Kd.R_tight rfl (Kd.R_types (Kd.R_types (HO_333000.out) BK332.out (by decide)) BK335.out (by decide)))); rintro e w50 ⟨v345, rfl, ho0, hb⟩; refine ⟨_, rfl, ?_⟩; have n0_ := Aside0.mk (Kd.Q_elder' (by (with_reducible repeat (first | apply Kd.Q_alloc | apply Kd.Q_drewN | apply Kd.Q_drew)); exact HO_7.out) (Kd.R_base ho0) hb); have n1_ := Aside0.mk (Kd.R_elder' (by (with_reducible repeat (first | apply Kd.R_alloc | apply Kd.R_drewN | apply Kd.R_drew)); exact HO_333000.out) (Kd.R_base ho0) hb); have n2_ := Aside0.mk (Kd.R_lower (Kd.R_newB (Kd.R_new' (Kd.R_new' (Kd.R_mono (ok' := fun k_ => True) ho0 (fun _ hk_ => trivial)) (Kd.Q_lt (by (with_reducible repeat (first | apply Kd.Q_alloc | apply Kd.Q_drewN | apply Kd.Q_drew)); exact HO_7.out))) (Kd.R_lt (by (with_reducible repeat (first | apply Kd.R_alloc | apply Kd.R_drewN | apply Kd.R_drew)); exact HO_333000.out))) (g := gb342) (o := .cells #[.int .i64 t336, .int .i64 t337, .int .i64 t338, .int .i64 t339, .int .i64 t340] 26 (0, 0)) (by (with_reducible repeat (first | refine blk_drewN ?_ _ | refine blk_drew ?_ | refine blk_alloc ?_ _)); exact BK342.out)) (below_size (by repeat (first | (with_reducible first | exact HB.out | apply below_alloc | apply pw_below_drewN | apply below_drew1 | refine below_set ?_ GE332.out | refine below_set ?_ GE335.out | refine below_set ?_ GE342.out) | exact HB.out)))); have n3_ := Aside0.mk (blk_below (g := gb332) (o := .cells #[.slice Ao17 x333000_1.length co17] 24 (0, 0)) (by (with_reducible repeat (first | refine blk_drewN ?_ _ | refine blk_drew ?_ | refine blk_alloc ?_ _)); exact BK332.out) hb); have n4_ := Aside0.mk (blk_below (g := gb335) (o := .cells #[.bool ((rd_T39 l0 x21_1).f0), .int .i64 ((rd_T39 l0 x21_1).f1.f0), .int .i64 ((rd_T39 l0 x21_1).f1.f1), .int .i64 ((rd_T39 l0 x21_1).f1.f2), .int .i64 ((rd_T39 l0 x21_1).f1.f3), .int .i64 ((rd_T39 l0 x21_1).f1.f4)] 39 (0, 0)) (by (with_reducible repeat (first | refine blk_drewN ?_ _ | refine blk_drew ?_ | refine blk_alloc ?_ _)); exact BK335.out) hb); have n5_ := Aside0.mk (blk_below (g := gb342) (o := .cells #[.int .i64 t336, .int .i64 t337, .int .i64 t338, .int .i64 t339, .int .i64 t340] 26 (0, 0)) (by (with_reducible repeat (first | refine blk_drewN ?_ _ | refine blk_drew ?_ | refine blk_alloc ?_ _)); exact BK342.out) hb); have n6_ := Aside0.mk (below_step (by repeat (first | (with_reducible first | exact HB.out | apply below_alloc | apply pw_below_drewN | apply below_drew1 | refine below_set ?_ GE332.out | refine below_set ?_ GE335.out | refine below_set ?_ GE342.out) | exact HB.out)) hb); clear HO_7; clear HO_333000; clear BK332; clear BK335; clear BK342; clear HB; have HO_7 := n0_; have HO_333000 := n1_; have HO346 := n2_; have BK332 := n3_; have BK335 := n4_; have BK342 := n5_; have HB := n6_; clear n0_ n1_ n2_ n3_ n4_ n5_ n6_; (try clear hb); (try clear hb2); (try clear hk); (try clear hi); (try clear ho0); obtain ⟨Ao51, co51, eo51⟩ := Kd.R_slice HO346.out; subst eo51; have hcz52_0 : w50.cell? ⟨gb332, 0, none⟩ = some (.slice Ao17 x333000_1.length co17) := (blk_cell BK332.out 0).trans rfl; have hfz52_0 := blk_frozen BK332.out 0) | ((with_reducible refine gate_store (t := 24) (p := 6) rfl ?_); refine store_event (t := 24) (p := 6) (v := ?vo_w53) (w1 := (w50.setCell ⟨gb332, 0, none⟩ (.slice Ao51 t344.length co51))) ?hg ?ho ?hn ?hr ?_; (case ho => rfl); (case hg => rfl); (case hn => rfl); (case hr => first | (go_simp; done) | (go_simp; rfl)); intro w53 hw; have n0_ : Aside0 (Kd.Q k26 26 w53 w.heap.size (fun k_ => some k_ ≠ (.slice Ao17 x333000_1.length co17 : Value).ownBlock ∧ some k_ ≠ (.slice Ao51 t344.length co51 : Value).ownBlock ∧ k_ ≠ gb342) u7 x7_1) := ⟨(by rw [hw]; exact (by (with_reducible repeat (first | apply Kd.Q_alloc | apply Kd.Q_drewN | apply Kd.Q_drew)); exact Kd.Q_mono (Kd.Q_far (p := ⟨gb332, 0, none⟩) (Kd.Q_types HO_7.out BK332.out (by decide)) (fun _ hk => hk.2) (.slice Ao51 t344.length co51)) (fun _ hk => ⟨hk.1.1.1, ⟨hk.1.2, hk.1.1.2⟩⟩)))⟩; have n1_ : Aside0 (Kd.R k26 26 w53 w.heap.size (fun k_ => some k_ ≠ (u7 : Value).ownBlock ∧ some k_ ≠ (.slice Ao51 t344.length co51 : Value).ownBlock ∧ k_ ≠ gb342) (.slice Ao17 x333000_1.length co17) x333000_1) := ⟨(by rw [hw]; exact (by (with_reducible repeat (first | apply Kd.R_alloc | apply Kd.R_drewN | apply Kd.R_drew)); exact Kd.R_mono (Kd.R_far (p := ⟨gb332, 0, none⟩) (Kd.R_types HO_333000.out BK332.out (by decide)) (fun _ hk => hk.2) (.slice Ao51 t344.length co51)) (fun _ hk => ⟨hk.1.1.1, ⟨hk.1.2, hk.1.1.2⟩⟩)))⟩; have n2_ : Aside0 (Kd.R k26 26 w53 w.heap.size (fun k_ => some k_ ≠ (u7 : Value).ownBlock ∧ some k_ ≠ (.slice Ao17 x333000_1.length co17 : Value).ownBlock ∧ k_ ≠ gb342) (.slice Ao51 t344.length co51) t344) := ⟨(by rw [hw]; exact (by (with_reducible repeat (first | apply Kd.R_alloc | apply Kd.R_drewN | apply Kd.R_drew)); exact Kd.R_mono (Kd.R_far (p := ⟨gb332, 0, none⟩) (Kd.R_types HO346.out BK332.out (by decide)) (fun _ hk => hk.2) (.slice Ao51 t344.length co51)) (fun _ hk => ⟨hk.1.1.1.2, ⟨hk.1.1.2, hk.1.2⟩⟩)))⟩; have n3_ : Aside0 (w53.heap[gb332]? = some (.cells #[.slice Ao51 t344.length co51] 24 (0, 0))) := ⟨(by rw [hw]; exact (by (with_reducible repeat (first | refine blk_drewN ?_ _ | refine blk_drew ?_ | refine blk_alloc ?_ _)); refine blk_put (cs := #[.slice Ao17 x333000_1.length co17]) ?_ 0 _ rfl; (with_reducible repeat (first | refine blk_drewN ?_ _ | refine blk_drew ?_ | refine blk_alloc ?_ _)); exact BK332.out))⟩; have n4_ : Aside0 (w53.heap[gb335]? = some (.cells #[.bool ((rd_T39 l0 x21_1).f0), .int .i64 ((rd_T39 l0 x21_1).f1.f0), .int .i64 ((rd_T39 l0 x21_1).f1.f1), .int .i64 ((rd_T39 l0 x21_1).f1.f2), .int .i64 ((rd_T39 l0 x21_1).f1.f3), .int .i64 ((rd_T39 l0 x21_1).f1.f4)] 39 (0, 0))) := ⟨(by rw [hw]; exact (by (with_reducible repeat (first | refine blk_drewN ?_ _ | refine blk_drew ?_ | refine blk_alloc ?_ _)); refine blk_far ?_ NB335_332.out _; (with_reducible repeat (first | refine blk_drewN ?_ _ | refine blk_drew ?_ | refine blk_alloc ?_ _)); exact BK335.out))⟩; have n5_ : Aside0 (w53.heap[gb342]? = some (.cells #[.int .i64 t336, .int .i64 t337, .int .i64 t338, .int .i64 t339, .int .i64 t340] 26 (0, 0))) := ⟨(by rw [hw]; exact (by (with_reducible repeat (first | refine blk_drewN ?_ _ | refine blk_drew ?_ | refine blk_alloc ?_ _)); refine blk_far ?_ NB342_332.out _; (with_reducible repeat (first | refine blk_drewN ?_ _ | refine blk_drew ?_ | refine blk_alloc ?_ _)); exact BK342.out))⟩; have n6_ : Aside0 (Below w.heap.size w w53) := ⟨(by rw [hw]; exact (by repeat (first | (with_reducible first | exact HB.out | apply below_alloc | apply pw_below_drewN | apply below_drew1 | refine below_set ?_ GE332.out | refine below_set ?_ GE335.out | refine below_set ?_ GE342.out) | exact HB.out)))⟩; clear hw; clear HO_7; clear HO_333000; clear HO346; clear BK332; clear BK335; clear BK342; clear HB; have HO_7 := n0_; have HO_333000 := n1_; have HO346 := n2_; have BK332 := n3_; have BK335 := n4_; have BK342 := n5_; have HB := n6_; clear n0_ n1_ n2_ n3_ n4_ n5_ n6_; obtain ⟨Ao54, co54, eo54, _⟩ := Kd.Q_slice HO_7.out; subst eo54; have q55 : (1 : Int) ≤ ((x7_1.length : Int) : Int) := of_decide_eq_true (by first | (with_reducible assumption) | assumption); obtain ⟨i055, hi055, _, hsz55, _⟩ := info_parts info26; have hcut55 := cut_from (P := Try.prog) 22 26 .i64 Try.underlying22 hi055 5 hsz55 Ao54 x7_1.length co54 1 (by omega) q55; have hr55 := Kd.Q_drop (k := (1 : Int).toNat) HO_7.out (by omega); obtain ⟨A55, hA55⟩ : ∃ A1, A1 = (if co54 = (1 : Int).toNat then Ao54 else (Ao54 : Option Addr).map (·.add ((1 : Int).toNat * 5))) := ⟨_, rfl⟩; obtain ⟨c55, hc55⟩ : ∃ c1, c1 = co54 - (1 : Int).toNat := ⟨_, rfl⟩; have hy55 : y347.length = x7_1.length - (1 : Int).toNat := (by rw [Ny347.out, List.length_drop]); rw [← Ny347.out] at hr55; rw [← hy55, ← hA55, ← hc55] at hcut55; replace hr55 : Kd.Q k26 26 w53 w.heap.size (fun k_ => some k_ ≠ (.slice Ao17 x333000_1.length co17 : Value).ownBlock ∧ some k_ ≠ (.slice Ao51 t344.length co51 : Value).ownBlock ∧ k_ ≠ gb342) (.slice A55 y347.length c55) y347 := (by rw [hA55, hc55, hy55]; exact hr55); have HE55 : Aside0 ((Value.slice A55 y347.length c55).ownBlock = (.slice Ao54 x7_1.length co54 : Value).ownBlock) := ⟨by rw [hA55]; split <;> (cases (Ao54 : Option Addr) <;> rfl)⟩; clear hy55 hi055 hsz55 HO_7 hA55 hc55; have HO349 := Aside0.mk hr55; clear hr55; replace q55 := eq_true q55; have n_ := Aside0.mk (Kd.R_mono (ok' := fun k_ => (some k_ ≠ (.slice A55 y347.length c55 : Value).ownBlock ∧ (some k_ ≠ (.slice Ao51 t344.length co51 : Value).ownBlock ∧ k_ ≠ gb342))) HO_333000.out (fun k_ hk => ⟨(by rw [HE55.out]; exact hk.1), ⟨hk.2.1, hk.2.2⟩⟩)); clear HO_333000; have HO_333000 := n_; clear n_; have n_ := Aside0.mk (Kd.R_mono (ok' := fun k_ => (some k_ ≠ (.slice A55 y347.length c55 : Value).ownBlock ∧ (some k_ ≠ (.slice Ao17 x333000_1.length co17 : Value).ownBlock ∧ k_ ≠ gb342))) HO346.out (fun k_ hk => ⟨(by rw [HE55.out]; exact hk.1), ⟨hk.2.1, hk.2.2⟩⟩)); clear HO346; have HO346 := n_; clear n_))
             go_roundg kj11
             case measure => have := HK1.out; have := HJ11.out; omega
             case rel => exact ⟨(y347), (wrap64 (x21_1 + 1)), (t344), (.slice Ao51 t344.length co51), (by first | rfl | (simp; done) | (simp [*]; done)), H', ⟨by have := HK1.out; have := HJ11.out; omega⟩, ⟨by (with_reducible repeat (first | apply Kd.Q_alloc | apply Kd.Q_drewN | apply Kd.Q_drew)); exact Kd.Q_mono HO349.out (fun _ hk => hk.2.1)⟩, ⟨by (with_reducible repeat (first | apply Kd.R_alloc | apply Kd.R_drewN | apply Kd.R_drew)); exact Kd.R_mono HO346.out (fun _ hk => hk.1)⟩, ⟨by with_reducible exact BK332.out⟩, ⟨by with_reducible exact HB.out⟩⟩
            ·rw [if_neg c43] at H
             exact absurd H (by simp)
           ·replace c41 := Bool.eq_false_iff.mpr c41
            subst c41
            have H1 : (slotmeshlaw27_QueueFirst.l0 kj11 a1 t331 x7_1 l0 (l0.length : Int) (wrap64 (x21_1 + 1)) x333000_1) = some r := by rw [if_neg (show ¬ (false = true) by decide)] at H; exact H
            clear H
            have H := H1
            clear H1
            have H' := Aside0.mk H
            clear H
            have hnb56 := NB335_332.out
            have hnc56 := NB332_335.out
            have hnb57 := NB335_342.out
            have hnc57 := NB342_335.out
            have hcz58_0 : wc.cell? ⟨gb335, 0, none⟩ = some (.bool ((rd_T39 l0 x21_1).f0)) := (blk_cell BK335.out 0).trans rfl
            have hcz58_1 : wc.cell? ⟨gb335, 1, none⟩ = some (.int .i64 ((rd_T39 l0 x21_1).f1.f0)) := (blk_cell BK335.out 1).trans rfl
            have hcz58_2 : wc.cell? ⟨gb335, 2, none⟩ = some (.int .i64 ((rd_T39 l0 x21_1).f1.f1)) := (blk_cell BK335.out 2).trans rfl
            have hcz58_3 : wc.cell? ⟨gb335, 3, none⟩ = some (.int .i64 ((rd_T39 l0 x21_1).f1.f2)) := (blk_cell BK335.out 3).trans rfl
            have hcz58_4 : wc.cell? ⟨gb335, 4, none⟩ = some (.int .i64 ((rd_T39 l0 x21_1).f1.f3)) := (blk_cell BK335.out 4).trans rfl
            have hcz58_5 : wc.cell? ⟨gb335, 5, none⟩ = some (.int .i64 ((rd_T39 l0 x21_1).f1.f4)) := (blk_cell BK335.out 5).trans rfl
            have hfz58_0 := blk_frozen BK335.out 0
            have hfz58_1 := blk_frozen BK335.out 1
            have hfz58_2 := blk_frozen BK335.out 2
            have hfz58_3 := blk_frozen BK335.out 3
            have hfz58_4 := blk_frozen BK335.out 4
            have hfz58_5 := blk_frozen BK335.out 5
            go_wp2
            go_roundg kj11
            case measure => have := HK1.out; have := HJ11.out; omega
            case rel => exact ⟨(x7_1), (wrap64 (x21_1 + 1)), (x333000_1), (.slice Ao17 x333000_1.length co17), (by first | rfl | (simp; done) | (simp [*]; done)), H', ⟨by have := HK1.out; have := HJ11.out; omega⟩, ⟨by (with_reducible repeat (first | apply Kd.Q_alloc | apply Kd.Q_drewN | apply Kd.Q_drew)); exact Kd.Q_mono HO_7.out (fun _ hk => hk.1)⟩, ⟨by (with_reducible repeat (first | apply Kd.R_alloc | apply Kd.R_drewN | apply Kd.R_drew)); exact Kd.R_mono HO_333000.out (fun _ hk => hk.1)⟩, ⟨by with_reducible exact BK332.out⟩, ⟨by with_reducible exact HB.out⟩⟩
          ·rw [if_neg c40] at H
           have c40b0 : ((rd_T39 l0 x21_1).f0) = false := by simpa using c40
           clear c40
           replace H := Option.bind_eq_some_iff.mp H
           obtain ⟨⟨t350, t353⟩, A590, H⟩ := H
           replace H : (if t353 = 0 then (if 0 ≤ (x7_1.length : Int) then (if (x7_1.length : Int) ≤ (x7_1.length : Int) then ((some (x7_1.take ((x7_1.length : Int) : Int).toNat : List (S26))).bind fun y355 => (if y355.length < 3518437208883 then (slotmeshlaw27_QueueFirst.l0 kj11 a1 t331 (y355 ++ [(⟨((rd_T39 l0 x21_1).f1.f0), ((rd_T39 l0 x21_1).f1.f1), ((rd_T39 l0 x21_1).f1.f2), ((rd_T39 l0 x21_1).f1.f3), ((rd_T39 l0 x21_1).f1.f4)⟩ : S26)]) l0 (l0.length : Int) (wrap64 (x21_1 + 1)) t350) else (none))) else (none)) else (none)) else (slotmeshlaw27_QueueFirst.l0 kj11 a1 t331 x7_1 l0 (l0.length : Int) (wrap64 (x21_1 + 1)) x333000_1)) = some r := H
           have A59 := Aside0.mk A590
           clear A590
           by_cases c60 : t353 = 0
           ·rw [if_pos c60] at H
            have c60b0 : (t353 == 0) = true := beq_iff_eq.mpr c60
            have c60b1 : (t353 != 0) = false := bne_eq_false_iff_eq.mpr c60
            clear c60
            by_cases c61 : 0 ≤ (x7_1.length : Int)
            ·rw [if_pos c61] at H
             have c61b0 := eq_true c61
             have c61b1 : decide (0 ≤ (x7_1.length : Int)) = true := decide_eq_true c61
             clear c61
             by_cases c62 : (x7_1.length : Int) ≤ (x7_1.length : Int)
             ·rw [if_pos c62] at H
              have c62b0 := eq_true c62
              have c62b1 : decide ((x7_1.length : Int) ≤ (x7_1.length : Int)) = true := decide_eq_true c62
              clear c62
              obtain ⟨y355, hy355⟩ : ∃ y_ : List (S26), y_ = (x7_1.take ((x7_1.length : Int) : Int).toNat) := ⟨_, rfl⟩
              replace H : (if y355.length < 3518437208883 then (slotmeshlaw27_QueueFirst.l0 kj11 a1 t331 (y355 ++ [(⟨((rd_T39 l0 x21_1).f1.f0), ((rd_T39 l0 x21_1).f1.f1), ((rd_T39 l0 x21_1).f1.f2), ((rd_T39 l0 x21_1).f1.f3), ((rd_T39 l0 x21_1).f1.f4)⟩ : S26)]) l0 (l0.length : Int) (wrap64 (x21_1 + 1)) t350) else (none)) = some r := by first | (rw [hy355]; with_reducible exact H) | (have H2_ := (Option.bind_some _ _).symm.trans H; rw [hy355]; with_reducible exact H2_) | (have H2_ := (Option.bind_some _ _).symm.trans H; with_reducible exact H2_) | with_reducible exact H | (rw [hy355]; exact H) | exact H
              have Ny355 := Aside0.mk hy355
              clear hy355
              by_cases c63 : y355.length < 3518437208883
              ·rw [if_pos c63] at H
               have LMc63 := Aside0.mk c63
               clear c63
               obtain ⟨y359, hy359⟩ : ∃ y_ : List (S26), y_ = (y355 ++ [(⟨((rd_T39 l0 x21_1).f1.f0), ((rd_T39 l0 x21_1).f1.f1), ((rd_T39 l0 x21_1).f1.f2), ((rd_T39 l0 x21_1).f1.f3), ((rd_T39 l0 x21_1).f1.f4)⟩ : S26)]) := ⟨_, rfl⟩
               replace H : (slotmeshlaw27_QueueFirst.l0 kj11 a1 t331 y359 l0 (l0.length : Int) (wrap64 (x21_1 + 1)) t350) = some r := by first | (rw [hy359]; with_reducible exact H) | (have H2_ := (Option.bind_some _ _).symm.trans H; rw [hy359]; with_reducible exact H2_) | (have H2_ := (Option.bind_some _ _).symm.trans H; with_reducible exact H2_) | with_reducible exact H | (rw [hy359]; exact H) | exact H
               have Ny359 := Aside0.mk hy359
               clear hy359
               have H' := Aside0.mk H
               clear H
               have hnb64 := NB335_332.out
               have hnc64 := NB332_335.out
               have hnb65 := NB335_342.out
               have hnc65 := NB342_335.out
               have hcz66_0 : wc.cell? ⟨gb335, 0, none⟩ = some (.bool ((rd_T39 l0 x21_1).f0)) := (blk_cell BK335.out 0).trans rfl
               have hcz66_1 : wc.cell? ⟨gb335, 1, none⟩ = some (.int .i64 ((rd_T39 l0 x21_1).f1.f0)) := (blk_cell BK335.out 1).trans rfl
               have hcz66_2 : wc.cell? ⟨gb335, 2, none⟩ = some (.int .i64 ((rd_T39 l0 x21_1).f1.f1)) := (blk_cell BK335.out 2).trans rfl
               have hcz66_3 : wc.cell? ⟨gb335, 3, none⟩ = some (.int .i64 ((rd_T39 l0 x21_1).f1.f2)) := (blk_cell BK335.out 3).trans rfl
               have hcz66_4 : wc.cell? ⟨gb335, 4, none⟩ = some (.int .i64 ((rd_T39 l0 x21_1).f1.f3)) := (blk_cell BK335.out 4).trans rfl
               have hcz66_5 : wc.cell? ⟨gb335, 5, none⟩ = some (.int .i64 ((rd_T39 l0 x21_1).f1.f4)) := (blk_cell BK335.out 5).trans rfl
               have hfz66_0 := blk_frozen BK335.out 0
               have hfz66_1 := blk_frozen BK335.out 1
               have hfz66_2 := blk_frozen BK335.out 2
               have hfz66_3 := blk_frozen BK335.out 3
               have hfz66_4 := blk_frozen BK335.out 4
               have hfz66_5 := blk_frozen BK335.out 5
               have hnb67 := NB332_342.out
               have hnc67 := NB342_332.out
               have hcz68_0 : wc.cell? ⟨gb332, 0, none⟩ = some (.slice Ao17 x333000_1.length co17) := (blk_cell BK332.out 0).trans rfl
               have hfz68_0 := blk_frozen BK332.out 0
               try go_wp2_with (first | ((with_reducible refine gate_callee (f := 11) rfl ?_); refine goesL_ (some 61) rfl rfl Try.func11 (by kernel_rfl) rfl #[.agg #[.slice Ao17 x333000_1.length co17], .agg #[.int .i64 ((rd_T39 l0 x21_1).f1.f0), .int .i64 ((rd_T39 l0 x21_1).f1.f1), .int .i64 ((rd_T39 l0 x21_1).f1.f2), .int .i64 ((rd_T39 l0 x21_1).f1.f3), .int .i64 ((rd_T39 l0 x21_1).f1.f4)], .int .i64 a1] rfl (by (try simp only [List.map_toArray, List.map_cons, List.map_nil]); first | done | rfl | (simp only [List.length_drop, List.length_take]; rfl)) ?_; (with_reducible refine (queue_Put.calls kj11 _ _ x333000_1 ((rd_T39 l0 x21_1).f1.f0) ((rd_T39 l0 x21_1).f1.f1) ((rd_T39 l0 x21_1).f1.f2) ((rd_T39 l0 x21_1).f1.f3) ((rd_T39 l0 x21_1).f1.f4) a1 t350 t353 _ ?side1 ?side2 A59.out).mono ?_); (case side1 => repeat (first | exact (Kd.R_reads' HO_333000.out).2.2 | (with_reducible refine Kd.C_alloc ?_ _) | (with_reducible refine Kd.C_drewN ?_ _) | (with_reducible refine Kd.C_drew ?_))); (case side2 => exact (Kd.R_reads' HO_333000.out).2.1); rintro e w69 ⟨v351, rfl, ho0, hb⟩; refine ⟨_, rfl, ?_⟩; have n0_ := Aside0.mk (Kd.Q_elder' (by with_reducible exact HO_7.out) (Kd.R_base ho0) hb); have n1_ := Aside0.mk (Kd.R_elder' (by with_reducible exact HO_333000.out) (Kd.R_base ho0) hb); have n2_ := Aside0.mk (Kd.R_lower (Kd.R_newB (Kd.R_new' (Kd.R_new' ho0 (Kd.Q_lt (by with_reducible exact HO_7.out))) (Kd.R_lt (by with_reducible exact HO_333000.out))) (g := gb342) (o := .cells #[.int .i64 t336, .int .i64 t337, .int .i64 t338, .int .i64 t339, .int .i64 t340] 26 (0, 0)) (by with_reducible exact BK342.out)) (below_size (by with_reducible exact HB.out))); have n3_ := Aside0.mk (blk_below (g := gb332) (o := .cells #[.slice Ao17 x333000_1.length co17] 24 (0, 0)) (by with_reducible exact BK332.out) hb); have n4_ := Aside0.mk (blk_below (g := gb335) (o := .cells #[.bool ((rd_T39 l0 x21_1).f0), .int .i64 ((rd_T39 l0 x21_1).f1.f0), .int .i64 ((rd_T39 l0 x21_1).f1.f1), .int .i64 ((rd_T39 l0 x21_1).f1.f2), .int .i64 ((rd_T39 l0 x21_1).f1.f3), .int .i64 ((rd_T39 l0 x21_1).f1.f4)] 39 (0, 0)) (by with_reducible exact BK335.out) hb); have n5_ := Aside0.mk (blk_below (g := gb342) (o := .cells #[.int .i64 t336, .int .i64 t337, .int .i64 t338, .int .i64 t339, .int .i64 t340] 26 (0, 0)) (by with_reducible exact BK342.out) hb); have n6_ := Aside0.mk (below_step (by with_reducible exact HB.out) hb); clear HO_7; clear HO_333000; clear BK332; clear BK335; clear BK342; clear HB; have HO_7 := n0_; have HO_333000 := n1_; have HO352 := n2_; have BK332 := n3_; have BK335 := n4_; have BK342 := n5_; have HB := n6_; clear n0_ n1_ n2_ n3_ n4_ n5_ n6_; (try clear hb); (try clear hb2); (try clear hk); (try clear hi); (try clear ho0)) | ((with_reducible refine gate_dst (N := 12) rfl ?_); refine box_event ?hg (N := 12) ?hd (cs := #[.slice none 0 0]) (t := 24) ?hr ?_; (case hd => rfl); (case hg => rfl); (case hr => first | (go_simp; done) | (go_simp; rfl)); intro gb354 hg w70 hbox hb; have n0_ := Aside0.mk (Kd.Q_below (by with_reducible exact HO_7.out) hb); have n1_ := Aside0.mk (Kd.R_below (by with_reducible exact HO_333000.out) hb); have n2_ := Aside0.mk (Kd.R_below (by with_reducible exact HO352.out) hb); have n3_ := Aside0.mk (blk_below (g := gb332) (o := .cells #[.slice Ao17 x333000_1.length co17] 24 (0, 0)) (by with_reducible exact BK332.out) hb); have n4_ := Aside0.mk (blk_below (g := gb335) (o := .cells #[.bool ((rd_T39 l0 x21_1).f0), .int .i64 ((rd_T39 l0 x21_1).f1.f0), .int .i64 ((rd_T39 l0 x21_1).f1.f1), .int .i64 ((rd_T39 l0 x21_1).f1.f2), .int .i64 ((rd_T39 l0 x21_1).f1.f3), .int .i64 ((rd_T39 l0 x21_1).f1.f4)] 39 (0, 0)) (by with_reducible exact BK335.out) hb); have n5_ := Aside0.mk (blk_below (g := gb342) (o := .cells #[.int .i64 t336, .int .i64 t337, .int .i64 t338, .int .i64 t339, .int .i64 t340] 26 (0, 0)) (by with_reducible exact BK342.out) hb); have n6_ := Aside0.mk (below_step (by with_reducible exact HB.out) hb); have n7_ := Aside0.mk (hbox); have n8_ := Aside0.mk ((by rw [hg]; exact (below_size (by with_reducible exact HB.out)) : w.heap.size ≤ gb354)); have n9_ := Aside0.mk ((by rw [hg]; exact (below_size (by with_reducible exact HB.out)) : w.heap.size ≤ gb354)); have n10_ := Aside0.mk ((by rw [hg]; exact Nat.ne_of_lt (blk_lt (g := gb332) (o := .cells #[.slice Ao17 x333000_1.length co17] 24 (0, 0)) (by with_reducible exact BK332.out)) : gb332 ≠ gb354)); have n11_ := Aside0.mk ((by rw [hg]; exact Nat.ne_of_gt (blk_lt (g := gb332) (o := .cells #[.slice Ao17 x333000_1.length co17] 24 (0, 0)) (by with_reducible exact BK332.out)) : gb354 ≠ gb332)); have n12_ := Aside0.mk ((by rw [hg]; exact Nat.ne_of_lt (blk_lt (g := gb335) (o := .cells #[.bool ((rd_T39 l0 x21_1).f0), .int .i64 ((rd_T39 l0 x21_1).f1.f0), .int .i64 ((rd_T39 l0 x21_1).f1.f1), .int .i64 ((rd_T39 l0 x21_1).f1.f2), .int .i64 ((rd_T39 l0 x21_1).f1.f3), .int .i64 ((rd_T39 l0 x21_1).f1.f4)] 39 (0, 0)) (by with_reducible exact BK335.out)) : gb335 ≠ gb354)); have n13_ := Aside0.mk ((by rw [hg]; exact Nat.ne_of_gt (blk_lt (g := gb335) (o := .cells #[.bool ((rd_T39 l0 x21_1).f0), .int .i64 ((rd_T39 l0 x21_1).f1.f0), .int .i64 ((rd_T39 l0 x21_1).f1.f1), .int .i64 ((rd_T39 l0 x21_1).f1.f2), .int .i64 ((rd_T39 l0 x21_1).f1.f3), .int .i64 ((rd_T39 l0 x21_1).f1.f4)] 39 (0, 0)) (by with_reducible exact BK335.out)) : gb354 ≠ gb335)); have n14_ := Aside0.mk ((by rw [hg]; exact Nat.ne_of_lt (blk_lt (g := gb342) (o := .cells #[.int .i64 t336, .int .i64 t337, .int .i64 t338, .int .i64 t339, .int .i64 t340] 26 (0, 0)) (by with_reducible exact BK342.out)) : gb342 ≠ gb354)); have n15_ := Aside0.mk ((by rw [hg]; exact Nat.ne_of_gt (blk_lt (g := gb342) (o := .cells #[.int .i64 t336, .int .i64 t337, .int .i64 t338, .int .i64 t339, .int .i64 t340] 26 (0, 0)) (by with_reducible exact BK342.out)) : gb354 ≠ gb342)); clear HO_7; clear HO_333000; clear HO352; clear BK332; clear BK335; clear BK342; clear HB; have HO_7 := n0_; have HO_333000 := n1_; have HO352 := n2_; have BK332 := n3_; have BK335 := n4_; have BK342 := n5_; have HB := n6_; have BK354 := n7_; have GW354 := n8_; have GE354 := n9_; have NB332_354 := n10_; have NB354_332 := n11_; have NB335_354 := n12_; have NB354_335 := n13_; have NB342_354 := n14_; have NB354_342 := n15_; clear n0_ n1_ n2_ n3_ n4_ n5_ n6_ n7_ n8_ n9_ n10_ n11_ n12_ n13_ n14_ n15_; clear hb hbox hg; obtain ⟨Ao71, co71, eo71⟩ := Kd.R_slice HO352.out; subst eo71; have hnb72 := NB354_332.out; have hnc72 := NB332_354.out; have hnb73 := NB354_335.out; have hnc73 := NB335_354.out; have hnb74 := NB354_342.out; have hnc74 := NB342_354.out; have hcz75_0 : w70.cell? ⟨gb354, 0, none⟩ = some (.slice none 0 0) := (blk_cell BK354.out 0).trans rfl; have hfz75_0 := blk_frozen BK354.out 0; have hcz76_0 : w70.cell? ⟨gb332, 0, none⟩ = some (.slice Ao17 x333000_1.length co17) := (blk_cell BK332.out 0).trans rfl; have hfz76_0 := blk_frozen BK332.out 0))
               have n0_ : Aside0 (Kd.Q k26 26 ((w70.setCell ⟨gb354, 0, none⟩ (.slice Ao71 t350.length co71)).setCell ⟨gb332, 0, none⟩ (.slice Ao71 t350.length co71)) w.heap.size (fun k_ => some k_ ≠ (.slice Ao17 x333000_1.length co17 : Value).ownBlock ∧ some k_ ≠ (.slice Ao71 t350.length co71 : Value).ownBlock ∧ k_ ≠ gb342) u7 x7_1) := ⟨by (with_reducible repeat (first | apply Kd.Q_alloc | apply Kd.Q_drewN | apply Kd.Q_drew)); exact Kd.Q_mono (Kd.Q_far (p := ⟨gb332, 0, none⟩) (Kd.Q_far (p := ⟨gb354, 0, none⟩) (Kd.Q_types (Kd.Q_types HO_7.out BK354.out (by decide)) BK332.out (by decide)) (fun _ hk => hk.1.2) (.slice Ao71 t350.length co71)) (fun _ hk => hk.2) (.slice Ao71 t350.length co71)) (fun _ hk => ⟨hk.1.1.1.1, ⟨hk.1.1.2, hk.1.1.1.2⟩⟩)⟩
               have n1_ : Aside0 (Kd.R k26 26 ((w70.setCell ⟨gb354, 0, none⟩ (.slice Ao71 t350.length co71)).setCell ⟨gb332, 0, none⟩ (.slice Ao71 t350.length co71)) w.heap.size (fun k_ => some k_ ≠ (u7 : Value).ownBlock ∧ some k_ ≠ (.slice Ao71 t350.length co71 : Value).ownBlock ∧ k_ ≠ gb342) (.slice Ao17 x333000_1.length co17) x333000_1) := ⟨by (with_reducible repeat (first | apply Kd.R_alloc | apply Kd.R_drewN | apply Kd.R_drew)); exact Kd.R_mono (Kd.R_far (p := ⟨gb332, 0, none⟩) (Kd.R_far (p := ⟨gb354, 0, none⟩) (Kd.R_types (Kd.R_types HO_333000.out BK354.out (by decide)) BK332.out (by decide)) (fun _ hk => hk.1.2) (.slice Ao71 t350.length co71)) (fun _ hk => hk.2) (.slice Ao71 t350.length co71)) (fun _ hk => ⟨hk.1.1.1.1, ⟨hk.1.1.2, hk.1.1.1.2⟩⟩)⟩
               have n2_ : Aside0 (Kd.R k26 26 ((w70.setCell ⟨gb354, 0, none⟩ (.slice Ao71 t350.length co71)).setCell ⟨gb332, 0, none⟩ (.slice Ao71 t350.length co71)) w.heap.size (fun k_ => some k_ ≠ (u7 : Value).ownBlock ∧ some k_ ≠ (.slice Ao17 x333000_1.length co17 : Value).ownBlock ∧ k_ ≠ gb342) (.slice Ao71 t350.length co71) t350) := ⟨by (with_reducible repeat (first | apply Kd.R_alloc | apply Kd.R_drewN | apply Kd.R_drew)); exact Kd.R_mono (Kd.R_far (p := ⟨gb332, 0, none⟩) (Kd.R_far (p := ⟨gb354, 0, none⟩) (Kd.R_types (Kd.R_types HO352.out BK354.out (by decide)) BK332.out (by decide)) (fun _ hk => hk.1.2) (.slice Ao71 t350.length co71)) (fun _ hk => hk.2) (.slice Ao71 t350.length co71)) (fun _ hk => ⟨hk.1.1.1.1.2, ⟨hk.1.1.1.2, hk.1.1.2⟩⟩)⟩
               have n3_ : Aside0 (((w70.setCell ⟨gb354, 0, none⟩ (.slice Ao71 t350.length co71)).setCell ⟨gb332, 0, none⟩ (.slice Ao71 t350.length co71)).heap[gb332]? = some (.cells #[.slice Ao71 t350.length co71] 24 (0, 0))) := ⟨by (with_reducible repeat (first | refine blk_drewN ?_ _ | refine blk_drew ?_ | refine blk_alloc ?_ _)); refine blk_put (cs := #[.slice Ao17 x333000_1.length co17]) ?_ 0 _ rfl; (with_reducible repeat (first | refine blk_drewN ?_ _ | refine blk_drew ?_ | refine blk_alloc ?_ _)); refine blk_far ?_ NB332_354.out _; (with_reducible repeat (first | refine blk_drewN ?_ _ | refine blk_drew ?_ | refine blk_alloc ?_ _)); exact BK332.out⟩
               have n4_ : Aside0 (((w70.setCell ⟨gb354, 0, none⟩ (.slice Ao71 t350.length co71)).setCell ⟨gb332, 0, none⟩ (.slice Ao71 t350.length co71)).heap[gb335]? = some (.cells #[.bool ((rd_T39 l0 x21_1).f0), .int .i64 ((rd_T39 l0 x21_1).f1.f0), .int .i64 ((rd_T39 l0 x21_1).f1.f1), .int .i64 ((rd_T39 l0 x21_1).f1.f2), .int .i64 ((rd_T39 l0 x21_1).f1.f3), .int .i64 ((rd_T39 l0 x21_1).f1.f4)] 39 (0, 0))) := ⟨by (with_reducible repeat (first | refine blk_drewN ?_ _ | refine blk_drew ?_ | refine blk_alloc ?_ _)); refine blk_far ?_ NB335_332.out _; (with_reducible repeat (first | refine blk_drewN ?_ _ | refine blk_drew ?_ | refine blk_alloc ?_ _)); refine blk_far ?_ NB335_354.out _; (with_reducible repeat (first | refine blk_drewN ?_ _ | refine blk_drew ?_ | refine blk_alloc ?_ _)); exact BK335.out⟩
               have n5_ : Aside0 (((w70.setCell ⟨gb354, 0, none⟩ (.slice Ao71 t350.length co71)).setCell ⟨gb332, 0, none⟩ (.slice Ao71 t350.length co71)).heap[gb342]? = some (.cells #[.int .i64 t336, .int .i64 t337, .int .i64 t338, .int .i64 t339, .int .i64 t340] 26 (0, 0))) := ⟨by (with_reducible repeat (first | refine blk_drewN ?_ _ | refine blk_drew ?_ | refine blk_alloc ?_ _)); refine blk_far ?_ NB342_332.out _; (with_reducible repeat (first | refine blk_drewN ?_ _ | refine blk_drew ?_ | refine blk_alloc ?_ _)); refine blk_far ?_ NB342_354.out _; (with_reducible repeat (first | refine blk_drewN ?_ _ | refine blk_drew ?_ | refine blk_alloc ?_ _)); exact BK342.out⟩
               have n6_ : Aside0 (((w70.setCell ⟨gb354, 0, none⟩ (.slice Ao71 t350.length co71)).setCell ⟨gb332, 0, none⟩ (.slice Ao71 t350.length co71)).heap[gb354]? = some (.cells #[.slice Ao71 t350.length co71] 24 (0, 0))) := ⟨by (with_reducible repeat (first | refine blk_drewN ?_ _ | refine blk_drew ?_ | refine blk_alloc ?_ _)); refine blk_far ?_ NB354_332.out _; (with_reducible repeat (first | refine blk_drewN ?_ _ | refine blk_drew ?_ | refine blk_alloc ?_ _)); refine blk_put (cs := #[.slice none 0 0]) ?_ 0 _ rfl; (with_reducible repeat (first | refine blk_drewN ?_ _ | refine blk_drew ?_ | refine blk_alloc ?_ _)); exact BK354.out⟩
               have n7_ : Aside0 (Below w.heap.size w ((w70.setCell ⟨gb354, 0, none⟩ (.slice Ao71 t350.length co71)).setCell ⟨gb332, 0, none⟩ (.slice Ao71 t350.length co71))) := ⟨by repeat (first | (with_reducible first | exact HB.out | apply below_alloc | apply pw_below_drewN | apply below_drew1 | refine below_set ?_ GE332.out | refine below_set ?_ GE335.out | refine below_set ?_ GE342.out | refine below_set ?_ GE354.out) | exact HB.out)⟩
               (try clear HO_7)
               (try clear HO_333000)
               (try clear HO352)
               (try clear BK332)
               (try clear BK335)
               (try clear BK342)
               (try clear BK354)
               (try clear HB)
               generalize ((w70.setCell ⟨gb354, 0, none⟩ (.slice Ao71 t350.length co71)).setCell ⟨gb332, 0, none⟩ (.slice Ao71 t350.length co71)) = w77 at n0_ n1_ n2_ n3_ n4_ n5_ n6_ n7_ ⊢
               have HO_7 := n0_
               have HO_333000 := n1_
               have HO352 := n2_
               have BK332 := n3_
               have BK335 := n4_
               have BK342 := n5_
               have BK354 := n6_
               have HB := n7_
               clear n0_ n1_ n2_ n3_ n4_ n5_ n6_ n7_
               have n0_ := Aside0.mk (Kd.Q_drew HO_7.out)
               have n1_ := Aside0.mk (Kd.R_drew HO_333000.out)
               have n2_ := Aside0.mk (Kd.R_drew HO352.out)
               have n3_ := Aside0.mk (blk_drew BK332.out)
               have n4_ := Aside0.mk (blk_drew BK335.out)
               have n5_ := Aside0.mk (blk_drew BK342.out)
               have n6_ := Aside0.mk (blk_drew BK354.out)
               have n7_ := Aside0.mk (below_drew1 HB.out)
               clear HO_7
               clear HO_333000
               clear HO352
               clear BK332
               clear BK335
               clear BK342
               clear BK354
               clear HB
               have HO_7 := n0_
               have HO_333000 := n1_
               have HO352 := n2_
               have BK332 := n3_
               have BK335 := n4_
               have BK342 := n5_
               have BK354 := n6_
               have HB := n7_
               clear n0_ n1_ n2_ n3_ n4_ n5_ n6_ n7_
               obtain ⟨Ao79, co79, eo79, _⟩ := Kd.Q_slice HO_7.out
               (first | subst eo79 | (injection eo79 with f1_ f2_ f3_; have f4_ := f1_.symm; have f5_ := f3_.symm; clear f1_ f2_ f3_; subst f4_; subst f5_))
               have q80 : ((x7_1.length : Int) : Int) ≤ ((x7_1.length : Int) : Int) := of_decide_eq_true (by with_reducible assumption)
               obtain ⟨i080, hi080, _, hsz80, _⟩ := info_parts info26
               have hroom80 : x7_1.length ≤ co79 := (Kd.Q_reads' HO_7.out).2.1
               have hC80 : Kd.C k26 _ Ao79 x7_1.length x7_1 := (Kd.Q_reads' HO_7.out).2.2
               have hcut80 := cut_cap (P := Try.prog) 22 26 .i64 .i64 Try.underlying22 hi080 Ao79 x7_1.length co79 (x7_1.length : Int) (of_decide_eq_true (by with_reducible assumption)) q80 hroom80
               have hr80 := Kd.C_take (m := ((x7_1.length : Int) : Int).toNat) hC80 (by omega)
               have hy80 : y355.length = ((x7_1.length : Int) : Int).toNat := (by rw [Ny355.out, List.length_take]; omega)
               rw [← Ny355.out] at hr80
               rw [← hy80] at hcut80
               have HR358 := Aside0.mk hr80
               have HC358 := Aside0.mk (show y355.length ≤ y355.length from by omega)
               clear hr80 hC80 hroom80 hi080 hsz80
               have KY80 := Aside0.mk hy80
               clear hy80
               have KL80 := Aside0.mk (show ((x7_1.length : Int) : Int).toNat ≤ x7_1.length from by omega)
               replace q80 := eq_true q80
               refine start_ (n := 11) (S := fun w' => w'.cell? ⟨gb335, 0, none⟩ = some (.bool ((rd_T39 l0 x21_1).f0)) ∧ w'.cell? ⟨gb335, 1, none⟩ = some (.int .i64 ((rd_T39 l0 x21_1).f1.f0)) ∧ w'.cell? ⟨gb335, 2, none⟩ = some (.int .i64 ((rd_T39 l0 x21_1).f1.f1)) ∧ w'.cell? ⟨gb335, 3, none⟩ = some (.int .i64 ((rd_T39 l0 x21_1).f1.f2)) ∧ w'.cell? ⟨gb335, 4, none⟩ = some (.int .i64 ((rd_T39 l0 x21_1).f1.f3)) ∧ w'.cell? ⟨gb335, 5, none⟩ = some (.int .i64 ((rd_T39 l0 x21_1).f1.f4))) (ds := []) #[false, false, false, false, false, false, false, false, false, false, false] (by kernel_rfl) rfl rfl ⟨(blk_cell BK335.out 0).trans rfl, (blk_cell BK335.out 1).trans rfl, (blk_cell BK335.out 2).trans rfl, (blk_cell BK335.out 3).trans rfl, (blk_cell BK335.out 4).trans rfl, (blk_cell BK335.out 5).trans rfl⟩ (fun hHeld => ?_); refine with_tabW slotmeshlaw27_QueueFirst.tab19 slotmeshlaw27_QueueFirst.bits19 (fun HT_ HW_ => ?_)
               generalize w77.drew = w78 at HO_7 HO_333000 HO352 BK332 BK335 BK342 BK354 HB HR358 hHeld ⊢
               refine pure_ (i := 0) (N := some 67) (v := ?_) (a' := ?_) #[true, false, false, false, false, false, false, false, false, false, false] rfl rfl (any_of HT_.out (by kernel_rfl)) (fun _ _ _ h => h) (Or.inl ⟨by rfl, ?_⟩) ?_ ?_
               rotate_left
               ·intro w'
                go_simp
                with_reducible rfl
               rotate_left
               ·simp only [Act.put, List.setIfInBounds_toArray, List.set_cons_zero, List.set_cons_succ, i64_w, i32_w]
                rfl
               refine pure_ (i := 1) (N := some 68) (v := ?_) (a' := ?_) #[true, true, false, false, false, false, false, false, false, false, false] rfl rfl (any_of HT_.out (by kernel_rfl)) (fun _ _ _ h => h) (Or.inl ⟨by rfl, ?_⟩) ?_ ?_
               rotate_left
               ·intro w'
                go_simp
                with_reducible rfl
               rotate_left
               ·simp only [Act.put, List.setIfInBounds_toArray, List.set_cons_zero, List.set_cons_succ, i64_w, i32_w]
                rfl
               refine pure_ (i := 2) (N := some 69) (v := ?_) (a' := ?_) #[true, true, true, false, false, false, false, false, false, false, false] rfl rfl (any_of HT_.out (by kernel_rfl)) (fun _ _ _ h => h) (Or.inl ⟨by rfl, ?_⟩) ?_ ?_
               rotate_left
               ·intro w'
                go_simp
                with_reducible rfl
               rotate_left
               ·simp only [Act.put, List.setIfInBounds_toArray, List.set_cons_zero, List.set_cons_succ, i64_w, i32_w]
                rfl
               refine pure_ (i := 3) (N := some 70) (v := ?_) (a' := ?_) #[true, true, true, true, false, false, false, false, false, false, false] rfl rfl (any_of HT_.out (by kernel_rfl)) (fun _ _ _ h => h) (Or.inl ⟨by rfl, ?_⟩) ?_ ?_
               rotate_left
               ·intro w'
                go_simp
                with_reducible rfl
               rotate_left
               ·simp only [Act.put, List.setIfInBounds_toArray, List.set_cons_zero, List.set_cons_succ, i64_w, i32_w]
                rfl
               refine pure_ (i := 4) (N := some 71) (v := ?_) (a' := ?_) #[true, true, true, true, true, false, false, false, false, false, false] rfl rfl (any_of HT_.out (by kernel_rfl)) (fun _ _ _ h => h) (Or.inl ⟨by rfl, ?_⟩) ?_ ?_
               rotate_left
               ·intro w'
                go_simp
                with_reducible rfl
               rotate_left
               ·simp only [Act.put, List.setIfInBounds_toArray, List.set_cons_zero, List.set_cons_succ, i64_w, i32_w]
                rfl
               refine pure_ (i := 5) (N := some 72) (v := ?_) (a' := ?_) #[true, true, true, true, true, true, false, false, false, false, false] rfl rfl (any_of HT_.out (by kernel_rfl)) (fun _ _ _ h => h) (Or.inl ⟨by rfl, ?_⟩) ?_ ?_
               rotate_left
               ·intro w'
                go_simp
                with_reducible rfl
               rotate_left
               ·simp only [Act.put, List.setIfInBounds_toArray, List.set_cons_zero, List.set_cons_succ, i64_w, i32_w]
                rfl
               refine pure_ (i := 6) (N := some 73) (v := ?_) (a' := ?_) #[true, true, true, true, true, true, true, false, false, false, false] rfl rfl (any_of HT_.out (by kernel_rfl)) (fun _ _ _ h => h) (Or.inl ⟨by rfl, ?_⟩) ?_ ?_
               rotate_left
               ·intro w'
                go_simp
                with_reducible rfl
               rotate_left
               ·simp only [Act.put, List.setIfInBounds_toArray, List.set_cons_zero, List.set_cons_succ, i64_w, i32_w]
                rfl
               refine take_ (i := 7) (N := some 74) (v := ?_) (a' := ?_) #[true, true, true, true, true, true, true, true, false, false, false] rfl rfl (take_ofW HT_.out HW_.out (by kernel_rfl)) (fun _ _ _ h => h) (Or.inl ⟨by rfl, ?_⟩) hHeld ?_ ?_
               rotate_left
               ·rintro w' ⟨s0, s1, s2, s3, s4, s5⟩
                go_simp
                with_reducible rfl
               rotate_left
               ·simp only [Act.put, List.setIfInBounds_toArray, List.set_cons_zero, List.set_cons_succ, i64_w, i32_w]
                rfl
               refine one_ (i := 8) (N := some 75) #[true, true, true, true, true, true, true, true, true, false, false] rfl rfl (one_of HT_.out (by kernel_rfl)) (by decide) (fun K hK => ?_)
               refine value_ (w1 := ?_) (v := ?_) (by rfl) rfl ?_ ?_
               rotate_left 2
               ·go_simp
                constructor
                ·rfl
                ·rfl
               refine hK.out _ _ ⟨(blk_cell (blk_alloc BK335.out _) 0).trans rfl, (blk_cell (blk_alloc BK335.out _) 1).trans rfl, (blk_cell (blk_alloc BK335.out _) 2).trans rfl, (blk_cell (blk_alloc BK335.out _) 3).trans rfl, (blk_cell (blk_alloc BK335.out _) 4).trans rfl, (blk_cell (blk_alloc BK335.out _) 5).trans rfl⟩ (fun hHeld => ?_)
               clear hK K
               refine norm_ (a' := ?_) ?_ ?_
               rotate_left
               ·show Act.put _ (some 75) _ = _
                simp only [Act.put, List.setIfInBounds_toArray, List.set_cons_zero, List.set_cons_succ, i64_w, i32_w]
                rfl
               refine one_ (i := 9) (N := some 76) #[true, true, true, true, true, true, true, true, true, true, false] rfl rfl (one_of HT_.out (by kernel_rfl)) (by decide) (fun K hK => ?_)
               refine Kd.R_append_cap_step k26 (fun _ _ _ _ _ h_ => by obtain rfl := k26_open h_; exact k26_mkM _ _ _ _) (w0 := w) w.heap.size (by rfl) (.tmp 72) (.tmp 75) 22 26 (.agg #[(.int .i64 0), (.int .i64 0), (.int .i64 0), (.int .i64 0), (.int .i64 0)]) 40 rfl Try.underlying22 info26 rfl (by decide) (by omega) Ao79 y355 (⟨((rd_T39 l0 x21_1).f1.f0), ((rd_T39 l0 x21_1).f1.f1), ((rd_T39 l0 x21_1).f1.f2), ((rd_T39 l0 x21_1).f1.f3), ((rd_T39 l0 x21_1).f1.f4)⟩ : S26) [.int .i64 ((rd_T39 l0 x21_1).f1.f0), .int .i64 ((rd_T39 l0 x21_1).f1.f1), .int .i64 ((rd_T39 l0 x21_1).f1.f2), .int .i64 ((rd_T39 l0 x21_1).f1.f3), .int .i64 ((rd_T39 l0 x21_1).f1.f4)] (fun k_ => some k_ ≠ (.slice Ao79 x7_1.length co79 : Value).ownBlock ∧ some k_ ≠ (.slice Ao17 x333000_1.length co17 : Value).ownBlock ∧ some k_ ≠ (.slice Ao71 t350.length co71 : Value).ownBlock ∧ k_ ≠ gb342) (fun _ => False) rfl rfl ?aP (fun _ hk => hk.elim) ?aF ?aO ?aB ?aS ?aL ?_
               (case aP => exact k26_mkM _ _ _ (⟨((rd_T39 l0 x21_1).f1.f0), ((rd_T39 l0 x21_1).f1.f1), ((rd_T39 l0 x21_1).f1.f2), ((rd_T39 l0 x21_1).f1.f3), ((rd_T39 l0 x21_1).f1.f4)⟩ : S26))
               (case aB => exact (by with_reducible exact HB.out))
               (case aF => exact (fun k_ hk => ⟨Kd.fresh' (Kd.Q_lt (by with_reducible exact HO_7.out)) k_ hk, Kd.fresh' (Kd.R_lt (by with_reducible exact HO_333000.out)) k_ hk, Kd.fresh' (Kd.R_lt (by with_reducible exact HO352.out)) k_ hk, Kd.freshB (g := gb342) (o := .cells #[.int .i64 t336, .int .i64 t337, .int .i64 t338, .int .i64 t339, .int .i64 t340] 26 (0, 0)) (by with_reducible exact BK342.out) k_ hk⟩))
               (case aO => repeat (first | exact (by repeat (first | (with_reducible exact HR358.out) | (with_reducible refine Kd.C_alloc ?_ _) | (with_reducible refine Kd.C_drewN ?_ _) | (with_reducible refine Kd.C_drew ?_) | exact HR358.out)) | (with_reducible refine Kd.C_alloc ?_ _) | (with_reducible refine Kd.C_drewN ?_ _) | (with_reducible refine Kd.C_drew ?_)))
               (case aS => exact (below_size (by with_reducible exact HB.out)))
               (case aL => have := LMc63.out; omega)
               intro v360 w81 ho hb hg hat
               rw [← Ny359.out] at ho
               have n0_ := Aside0.mk (Kd.Q_after (Kd.Q_apart_nil (by with_reducible exact HO_7.out)) hg hat)
               have n1_ := Aside0.mk (Kd.R_after (Kd.R_apart_nil (by with_reducible exact HO_333000.out)) hg hat)
               have n2_ := Aside0.mk (blk_grown (g := gb332) (o := .cells #[.slice Ao71 t350.length co71] 24 (0, 0)) (by with_reducible exact BK332.out) hg (by simp [Value.ownBlock]))
               have n3_ := Aside0.mk (blk_grown (g := gb335) (o := .cells #[.bool ((rd_T39 l0 x21_1).f0), .int .i64 ((rd_T39 l0 x21_1).f1.f0), .int .i64 ((rd_T39 l0 x21_1).f1.f1), .int .i64 ((rd_T39 l0 x21_1).f1.f2), .int .i64 ((rd_T39 l0 x21_1).f1.f3), .int .i64 ((rd_T39 l0 x21_1).f1.f4)] 39 (0, 0)) (by with_reducible exact BK335.out) hg (by simp [Value.ownBlock]))
               have n4_ := Aside0.mk (blk_grown (g := gb342) (o := .cells #[.int .i64 t336, .int .i64 t337, .int .i64 t338, .int .i64 t339, .int .i64 t340] 26 (0, 0)) (by with_reducible exact BK342.out) hg (by simp [Value.ownBlock]))
               have n5_ := Aside0.mk (Kd.R_after (Kd.R_apart_nil (by with_reducible exact HO352.out)) hg hat)
               have n6_ := Aside0.mk (blk_grown (g := gb354) (o := .cells #[.slice Ao71 t350.length co71] 24 (0, 0)) (by with_reducible exact BK354.out) hg (by simp [Value.ownBlock]))
               have n7_ := Aside0.mk (hb)
               have n8_ := Aside0.mk ((show Kd.C k26 w81 Ao79 y355.length y355 from by rw [Ny355.out]; exact Kd.C_take (m := ((x7_1.length : Int) : Int).toNat) ((Kd.Q_reads' (Kd.Q_after (Kd.Q_apart_nil (by with_reducible exact HO_7.out)) hg hat)).2.2) KL80.out))
               have n9_ := Aside0.mk (ho)
               clear HO_7
               clear HO_333000
               clear BK332
               clear BK335
               clear BK342
               clear HO352
               clear BK354
               clear HB
               clear HR358
               have HO_7 := n0_
               have HO_333000 := n1_
               have BK332 := n2_
               have BK335 := n3_
               have BK342 := n4_
               have HO352 := n5_
               have BK354 := n6_
               have HB := n7_
               have HR358 := n8_
               have HO361 := n9_
               clear n0_ n1_ n2_ n3_ n4_ n5_ n6_ n7_ n8_ n9_
               clear ho hb hg hat
               refine hK.out _ _ ⟨(blk_cell BK335.out 0).trans rfl, (blk_cell BK335.out 1).trans rfl, (blk_cell BK335.out 2).trans rfl, (blk_cell BK335.out 3).trans rfl, (blk_cell BK335.out 4).trans rfl, (blk_cell BK335.out 5).trans rfl⟩ (fun hHeld => ?_)
               clear hK K
               refine norm_ (a' := ?_) ?_ ?_
               rotate_left
               ·show Act.put _ (some 76) _ = _
                simp only [Act.put, List.setIfInBounds_toArray, List.set_cons_zero, List.set_cons_succ, i64_w, i32_w]
                rfl
               refine pure_ (i := 10) (N := some 7) (v := ?_) (a' := ?_) #[true, true, true, true, true, true, true, true, true, true, true] rfl rfl (any_of HT_.out (by kernel_rfl)) (fun _ _ _ h => h) (Or.inl ⟨by rfl, ?_⟩) ?_ ?_
               rotate_left
               ·intro w'
                go_simp
                with_reducible rfl
               rotate_left
               ·simp only [Act.put, List.setIfInBounds_toArray, List.set_cons_zero, List.set_cons_succ, i64_w, i32_w]
                rfl
               refine done_ (done_of HT_.out (by kernel_rfl)) ?_
               try go_wp2
               go_roundg kj11
               case measure => have := HK1.out; have := HJ11.out; omega
               case rel => exact ⟨(y359), (wrap64 (x21_1 + 1)), (t350), (.slice Ao71 t350.length co71), (by first | rfl | (simp; done) | (simp [*]; done)), H', ⟨by have := HK1.out; have := HJ11.out; omega⟩, ⟨Kd.Q_of_R (by (with_reducible repeat (first | apply Kd.R_alloc | apply Kd.R_drewN | apply Kd.R_drew)); exact Kd.R_mono HO361.out (fun _ hk => hk.2.2.1))⟩, ⟨by (with_reducible repeat (first | apply Kd.R_alloc | apply Kd.R_drewN | apply Kd.R_drew)); exact Kd.R_mono HO352.out (fun _ hk => hk.2)⟩, ⟨by with_reducible exact BK332.out⟩, ⟨by with_reducible exact HB.out⟩⟩
              ·rw [if_neg c63] at H
               exact absurd H (by simp)
             ·rw [if_neg c62] at H
              exact absurd H (by simp)
            ·rw [if_neg c61] at H
             exact absurd H (by simp)
           ·rw [if_neg c60] at H
            have c60b0 : (t353 == 0) = false := beq_eq_false_iff_ne.mpr c60
            have c60b1 : (t353 != 0) = true := bne_iff_ne.mpr c60
            have H' := Aside0.mk H
            clear H
            have hnb82 := NB335_332.out
            have hnc82 := NB332_335.out
            have hnb83 := NB335_342.out
            have hnc83 := NB342_335.out
            have hcz84_0 : wc.cell? ⟨gb335, 0, none⟩ = some (.bool ((rd_T39 l0 x21_1).f0)) := (blk_cell BK335.out 0).trans rfl
            have hcz84_1 : wc.cell? ⟨gb335, 1, none⟩ = some (.int .i64 ((rd_T39 l0 x21_1).f1.f0)) := (blk_cell BK335.out 1).trans rfl
            have hcz84_2 : wc.cell? ⟨gb335, 2, none⟩ = some (.int .i64 ((rd_T39 l0 x21_1).f1.f1)) := (blk_cell BK335.out 2).trans rfl
            have hcz84_3 : wc.cell? ⟨gb335, 3, none⟩ = some (.int .i64 ((rd_T39 l0 x21_1).f1.f2)) := (blk_cell BK335.out 3).trans rfl
            have hcz84_4 : wc.cell? ⟨gb335, 4, none⟩ = some (.int .i64 ((rd_T39 l0 x21_1).f1.f3)) := (blk_cell BK335.out 4).trans rfl
            have hcz84_5 : wc.cell? ⟨gb335, 5, none⟩ = some (.int .i64 ((rd_T39 l0 x21_1).f1.f4)) := (blk_cell BK335.out 5).trans rfl
            have hfz84_0 := blk_frozen BK335.out 0
            have hfz84_1 := blk_frozen BK335.out 1
            have hfz84_2 := blk_frozen BK335.out 2
            have hfz84_3 := blk_frozen BK335.out 3
            have hfz84_4 := blk_frozen BK335.out 4
            have hfz84_5 := blk_frozen BK335.out 5
            have hnb85 := NB332_342.out
            have hnc85 := NB342_332.out
            have hcz86_0 : wc.cell? ⟨gb332, 0, none⟩ = some (.slice Ao17 x333000_1.length co17) := (blk_cell BK332.out 0).trans rfl
            have hfz86_0 := blk_frozen BK332.out 0
            go_wp2_with (first | ((with_reducible refine gate_callee (f := 11) rfl ?_); refine goesL_ (some 61) rfl rfl Try.func11 (by kernel_rfl) rfl #[.agg #[.slice Ao17 x333000_1.length co17], .agg #[.int .i64 ((rd_T39 l0 x21_1).f1.f0), .int .i64 ((rd_T39 l0 x21_1).f1.f1), .int .i64 ((rd_T39 l0 x21_1).f1.f2), .int .i64 ((rd_T39 l0 x21_1).f1.f3), .int .i64 ((rd_T39 l0 x21_1).f1.f4)], .int .i64 a1] rfl (by (try simp only [List.map_toArray, List.map_cons, List.map_nil]); first | done | rfl | (simp only [List.length_drop, List.length_take]; rfl)) ?_; (with_reducible refine (queue_Put.calls kj11 _ _ x333000_1 ((rd_T39 l0 x21_1).f1.f0) ((rd_T39 l0 x21_1).f1.f1) ((rd_T39 l0 x21_1).f1.f2) ((rd_T39 l0 x21_1).f1.f3) ((rd_T39 l0 x21_1).f1.f4) a1 t350 t353 _ ?side1 ?side2 A59.out).mono ?_); (case side1 => repeat (first | exact (Kd.R_reads' HO_333000.out).2.2 | (with_reducible refine Kd.C_alloc ?_ _) | (with_reducible refine Kd.C_drewN ?_ _) | (with_reducible refine Kd.C_drew ?_))); (case side2 => exact (Kd.R_reads' HO_333000.out).2.1); rintro e w87 ⟨v351, rfl, ho0, hb⟩; refine ⟨_, rfl, ?_⟩; have n0_ := Aside0.mk (Kd.Q_elder' (by with_reducible exact HO_7.out) (Kd.R_base ho0) hb); have n1_ := Aside0.mk (Kd.R_elder' (by with_reducible exact HO_333000.out) (Kd.R_base ho0) hb); have n2_ := Aside0.mk (Kd.R_lower (Kd.R_newB (Kd.R_new' (Kd.R_new' ho0 (Kd.Q_lt (by with_reducible exact HO_7.out))) (Kd.R_lt (by with_reducible exact HO_333000.out))) (g := gb342) (o := .cells #[.int .i64 t336, .int .i64 t337, .int .i64 t338, .int .i64 t339, .int .i64 t340] 26 (0, 0)) (by with_reducible exact BK342.out)) (below_size (by with_reducible exact HB.out))); have n3_ := Aside0.mk (blk_below (g := gb332) (o := .cells #[.slice Ao17 x333000_1.length co17] 24 (0, 0)) (by with_reducible exact BK332.out) hb); have n4_ := Aside0.mk (blk_below (g := gb335) (o := .cells #[.bool ((rd_T39 l0 x21_1).f0), .int .i64 ((rd_T39 l0 x21_1).f1.f0), .int .i64 ((rd_T39 l0 x21_1).f1.f1), .int .i64 ((rd_T39 l0 x21_1).f1.f2), .int .i64 ((rd_T39 l0 x21_1).f1.f3), .int .i64 ((rd_T39 l0 x21_1).f1.f4)] 39 (0, 0)) (by with_reducible exact BK335.out) hb); have n5_ := Aside0.mk (blk_below (g := gb342) (o := .cells #[.int .i64 t336, .int .i64 t337, .int .i64 t338, .int .i64 t339, .int .i64 t340] 26 (0, 0)) (by with_reducible exact BK342.out) hb); have n6_ := Aside0.mk (below_step (by with_reducible exact HB.out) hb); clear HO_7; clear HO_333000; clear BK332; clear BK335; clear BK342; clear HB; have HO_7 := n0_; have HO_333000 := n1_; have HO352 := n2_; have BK332 := n3_; have BK335 := n4_; have BK342 := n5_; have HB := n6_; clear n0_ n1_ n2_ n3_ n4_ n5_ n6_; (try clear hb); (try clear hb2); (try clear hk); (try clear hi); (try clear ho0)) | ((with_reducible refine gate_dst (N := 12) rfl ?_); refine box_event ?hg (N := 12) ?hd (cs := #[.slice none 0 0]) (t := 24) ?hr ?_; (case hd => rfl); (case hg => rfl); (case hr => first | (go_simp; done) | (go_simp; rfl)); intro gb354 hg w88 hbox hb; have n0_ := Aside0.mk (Kd.Q_below (by with_reducible exact HO_7.out) hb); have n1_ := Aside0.mk (Kd.R_below (by with_reducible exact HO_333000.out) hb); have n2_ := Aside0.mk (Kd.R_below (by with_reducible exact HO352.out) hb); have n3_ := Aside0.mk (blk_below (g := gb332) (o := .cells #[.slice Ao17 x333000_1.length co17] 24 (0, 0)) (by with_reducible exact BK332.out) hb); have n4_ := Aside0.mk (blk_below (g := gb335) (o := .cells #[.bool ((rd_T39 l0 x21_1).f0), .int .i64 ((rd_T39 l0 x21_1).f1.f0), .int .i64 ((rd_T39 l0 x21_1).f1.f1), .int .i64 ((rd_T39 l0 x21_1).f1.f2), .int .i64 ((rd_T39 l0 x21_1).f1.f3), .int .i64 ((rd_T39 l0 x21_1).f1.f4)] 39 (0, 0)) (by with_reducible exact BK335.out) hb); have n5_ := Aside0.mk (blk_below (g := gb342) (o := .cells #[.int .i64 t336, .int .i64 t337, .int .i64 t338, .int .i64 t339, .int .i64 t340] 26 (0, 0)) (by with_reducible exact BK342.out) hb); have n6_ := Aside0.mk (below_step (by with_reducible exact HB.out) hb); have n7_ := Aside0.mk (hbox); have n8_ := Aside0.mk ((by rw [hg]; exact (below_size (by with_reducible exact HB.out)) : w.heap.size ≤ gb354)); have n9_ := Aside0.mk ((by rw [hg]; exact (below_size (by with_reducible exact HB.out)) : w.heap.size ≤ gb354)); have n10_ := Aside0.mk ((by rw [hg]; exact Nat.ne_of_lt (blk_lt (g := gb332) (o := .cells #[.slice Ao17 x333000_1.length co17] 24 (0, 0)) (by with_reducible exact BK332.out)) : gb332 ≠ gb354)); have n11_ := Aside0.mk ((by rw [hg]; exact Nat.ne_of_gt (blk_lt (g := gb332) (o := .cells #[.slice Ao17 x333000_1.length co17] 24 (0, 0)) (by with_reducible exact BK332.out)) : gb354 ≠ gb332)); have n12_ := Aside0.mk ((by rw [hg]; exact Nat.ne_of_lt (blk_lt (g := gb335) (o := .cells #[.bool ((rd_T39 l0 x21_1).f0), .int .i64 ((rd_T39 l0 x21_1).f1.f0), .int .i64 ((rd_T39 l0 x21_1).f1.f1), .int .i64 ((rd_T39 l0 x21_1).f1.f2), .int .i64 ((rd_T39 l0 x21_1).f1.f3), .int .i64 ((rd_T39 l0 x21_1).f1.f4)] 39 (0, 0)) (by with_reducible exact BK335.out)) : gb335 ≠ gb354)); have n13_ := Aside0.mk ((by rw [hg]; exact Nat.ne_of_gt (blk_lt (g := gb335) (o := .cells #[.bool ((rd_T39 l0 x21_1).f0), .int .i64 ((rd_T39 l0 x21_1).f1.f0), .int .i64 ((rd_T39 l0 x21_1).f1.f1), .int .i64 ((rd_T39 l0 x21_1).f1.f2), .int .i64 ((rd_T39 l0 x21_1).f1.f3), .int .i64 ((rd_T39 l0 x21_1).f1.f4)] 39 (0, 0)) (by with_reducible exact BK335.out)) : gb354 ≠ gb335)); have n14_ := Aside0.mk ((by rw [hg]; exact Nat.ne_of_lt (blk_lt (g := gb342) (o := .cells #[.int .i64 t336, .int .i64 t337, .int .i64 t338, .int .i64 t339, .int .i64 t340] 26 (0, 0)) (by with_reducible exact BK342.out)) : gb342 ≠ gb354)); have n15_ := Aside0.mk ((by rw [hg]; exact Nat.ne_of_gt (blk_lt (g := gb342) (o := .cells #[.int .i64 t336, .int .i64 t337, .int .i64 t338, .int .i64 t339, .int .i64 t340] 26 (0, 0)) (by with_reducible exact BK342.out)) : gb354 ≠ gb342)); clear HO_7; clear HO_333000; clear HO352; clear BK332; clear BK335; clear BK342; clear HB; have HO_7 := n0_; have HO_333000 := n1_; have HO352 := n2_; have BK332 := n3_; have BK335 := n4_; have BK342 := n5_; have HB := n6_; have BK354 := n7_; have GW354 := n8_; have GE354 := n9_; have NB332_354 := n10_; have NB354_332 := n11_; have NB335_354 := n12_; have NB354_335 := n13_; have NB342_354 := n14_; have NB354_342 := n15_; clear n0_ n1_ n2_ n3_ n4_ n5_ n6_ n7_ n8_ n9_ n10_ n11_ n12_ n13_ n14_ n15_; clear hb hbox hg; obtain ⟨Ao89, co89, eo89⟩ := Kd.R_slice HO352.out; subst eo89; have hnb90 := NB354_332.out; have hnc90 := NB332_354.out; have hnb91 := NB354_335.out; have hnc91 := NB335_354.out; have hnb92 := NB354_342.out; have hnc92 := NB342_354.out; have hcz93_0 : w88.cell? ⟨gb354, 0, none⟩ = some (.slice none 0 0) := (blk_cell BK354.out 0).trans rfl; have hfz93_0 := blk_frozen BK354.out 0))
            go_roundg kj11
            case measure => have := HK1.out; have := HJ11.out; omega
            case rel => exact ⟨(x7_1), (wrap64 (x21_1 + 1)), (x333000_1), (.slice Ao17 x333000_1.length co17), (by first | rfl | (simp; done) | (simp [*]; done)), H', ⟨by have := HK1.out; have := HJ11.out; omega⟩, ⟨by (with_reducible repeat (first | apply Kd.Q_alloc | apply Kd.Q_drewN | apply Kd.Q_drew)); exact Kd.Q_mono (Kd.Q_far (p := ⟨gb354, 0, none⟩) (Kd.Q_types HO_7.out BK354.out (by decide)) (fun _ hk => hk.2) (.slice Ao89 t350.length co89)) (fun _ hk => hk.1.1.1)⟩, ⟨by (with_reducible repeat (first | apply Kd.R_alloc | apply Kd.R_drewN | apply Kd.R_drew)); exact Kd.R_mono (Kd.R_far (p := ⟨gb354, 0, none⟩) (Kd.R_types HO_333000.out BK354.out (by decide)) (fun _ hk => hk.2) (.slice Ao89 t350.length co89)) (fun _ hk => hk.1.1.1)⟩, ⟨by (with_reducible repeat (first | refine blk_drewN ?_ _ | refine blk_drew ?_ | refine blk_alloc ?_ _)); refine blk_far ?_ NB332_354.out _; (with_reducible repeat (first | refine blk_drewN ?_ _ | refine blk_drew ?_ | refine blk_alloc ?_ _)); exact BK332.out⟩, ⟨by repeat (first | (with_reducible first | exact HB.out | apply below_alloc | apply pw_below_drewN | apply below_drew1 | refine below_set ?_ GE332.out | refine below_set ?_ GE335.out | refine below_set ?_ GE342.out | refine below_set ?_ GE354.out) | exact HB.out)⟩⟩
      ·rw [if_neg c10] at H
       exact absurd H (by simp)
     ·rw [if_neg c9] at H
      exact absurd H (by simp)
    ·rw [if_neg c8] at H
     have c8b0 : decide (x21_1 < (l0.length : Int)) = false := decide_eq_false c8
     clear c8
     by_cases c94 : t331 = true
     ·subst c94
      have H1 : ((slotmeshref27_Same.f k1 x333000_1 x7_1).bind fun t333 => (some t333)) = some r := by rw [if_pos rfl] at H; exact H
      clear H
      have H := H1
      clear H1
      replace H := Option.bind_eq_some_iff.mp H
      obtain ⟨t333, A950, H⟩ := H
      replace H : (some t333) = some r := H
      have A95 := Aside0.mk A950
      clear A950
      obtain rfl := Option.some.inj H
      have hcz96_0 : wr.cell? ⟨gb332, 0, none⟩ = some (u333000) := (blk_cell BK332.out 0).trans rfl
      have hfz96_0 := blk_frozen BK332.out 0
      obtain ⟨Ao97, co97, eo97, _⟩ := Kd.Q_slice HO_7.out
      subst eo97
      obtain ⟨Ao98, co98, eo98⟩ := Kd.R_slice HO_333000.out
      subst eo98
      go_wp2_with (first | (go_at_call 15; (with_reducible refine (slotmeshref27_Same.calls k1 _ _ x333000_1 _ _ x7_1 t333 _ ?side1 ?side2 ?side3 ?side4 A95.out).mono ?_); (case side1 => repeat (first | exact (Kd.R_reads' HO_333000.out).2.2 | (with_reducible refine Kd.C_alloc ?_ _) | (with_reducible refine Kd.C_drewN ?_ _) | (with_reducible refine Kd.C_drew ?_))); (case side2 => exact (Kd.R_reads' HO_333000.out).2.1); (case side3 => repeat (first | exact (Kd.Q_reads' HO_7.out).2.2 | (with_reducible refine Kd.C_alloc ?_ _) | (with_reducible refine Kd.C_drewN ?_ _) | (with_reducible refine Kd.C_drew ?_))); (case side4 => exact (Kd.Q_reads' HO_7.out).2.1); rintro e w99 ⟨rfl, hb⟩; have n0_ := Aside0.mk (Kd.Q_below (by with_reducible exact HO_7.out) hb); have n1_ := Aside0.mk (Kd.R_below (by with_reducible exact HO_333000.out) hb); have n2_ := Aside0.mk (blk_below (g := gb332) (o := .cells #[.slice Ao98 x333000_1.length co98] 24 (0, 0)) (by with_reducible exact BK332.out) hb); have n3_ := Aside0.mk (below_step (by with_reducible exact HB.out) hb); clear HO_7; clear HO_333000; clear BK332; clear HB; have HO_7 := n0_; have HO_333000 := n1_; have BK332 := n2_; have HB := n3_; clear n0_ n1_ n2_ n3_; (try clear hb); (try clear hb2); (try clear hk); (try clear hi)))
      go_ret
      exact ⟨by first | rfl | (simp [errW_none, errW_some] <;> rfl) | (simp [*, errW_none, errW_some] <;> rfl), by with_reducible exact HB.out⟩
     ·replace c94 := Bool.eq_false_iff.mpr c94
      subst c94
      have H1 : (some false) = some r := by rw [if_neg (show ¬ (false = true) by decide)] at H; exact H
      clear H
      have H := H1
      clear H1
      exact absurd (Option.some.inj H) (by rw [HRT.out]; decide)

end Go.Proofs.Ytcjnjgafhfkegaa.Px
