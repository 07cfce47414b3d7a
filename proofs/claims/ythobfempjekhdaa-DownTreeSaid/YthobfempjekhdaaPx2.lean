/- Walks of functions of this seat, written by a program of this workplace out of the translation. -/
import Derived.Test.YthobfempjekhdaaPx0
namespace Go.Proofs.Ythobfempjekhdaa.Px
open Go.RowKit Go.Proofs.YthobfempjekhdaaW.PrintWords Go.Proofs.YthobfempjekhdaaW.PrintLast Go.Proofs.YthobfempjekhdaaW.PrintMore
attribute [local go_sem] max2_int min2_int max_two min_two max_three min_three max_four min_four   -- for this text's walks alone
set_option linter.unusedVariables false
set_option linter.unusedSimpArgs false

/-! ### down_node: function 26 -/
def down_node.f (a0 : Int) : Option (Bool) := if a0 ≥ 0 then (some (decide (a0 < 60))) else (some false)
set_option maxHeartbeats 8000000 in
set_option maxRecDepth 100000 in
theorem down_node.calls (a0 : Int) (r : Bool) (w : World) (h : down_node.f a0 = some r) :
    Calls Try.prog 26 #[.int .i64 a0] w fun e w' => e = .returned (.bool r) ∧ Drawn0 w w' := by
  have H : (if a0 ≥ 0 then (some (decide (a0 < 60))) else (some false)) = some r := h
  clear h
  by_cases c2 : a0 ≥ 0
  · rw [if_pos c2] at H
    have c2b0 : decide (0 ≤ a0) = true := decide_eq_true c2
    clear c2
    obtain rfl := Option.some.inj H
    go_enter Try.func26, Try.ntmps26
    go_wp2
    go_ret
    exact ⟨by first | rfl | (simp; done) | (simp [*]; done), by repeat (first | exact Drawn0.refl _ | apply Drawn0.step)⟩
  · rw [if_neg c2] at H
    have c2b0 : decide (0 ≤ a0) = false := decide_eq_false c2
    clear c2
    obtain rfl := Option.some.inj H
    go_enter Try.func26, Try.ntmps26
    go_wp2
    go_ret
    exact ⟨by first | rfl | (simp; done) | (simp [*]; done), by repeat (first | exact Drawn0.refl _ | apply Drawn0.step)⟩

/-! ### down_told: function 27 -/
def down_told.l0 : Nat → Int → List (S35) → Int → Int → Option (Bool)
  | 0, _, _, _, _ => none
  | k + 1, x3, x6, x7, x8 => if x8 < x7 then (if 0 ≤ x8 then (if x8 < (x6.length : Int) then ((down_node.f ((rd_T35 x6 x8).f0)).bind fun t103 => (if t103 = true then (if ((rd_T35 x6 x8).f0) ≤ x3 then (some false) else (if ((rd_T35 x6 x8).f2) < 0 then (some false) else (if ((rd_T35 x6 x8).f2) > 1000000000 then (some false) else (down_told.l0 k ((rd_T35 x6 x8).f0) x6 x7 (wrap64 (x8 + 1)))))) else (some false))) else (none)) else (none)) else (some true)
def down_told.f (k : Nat) (l0 : List (S35)) : Option (Bool) := down_told.l0 k (-1) l0 (l0.length : Int) 0
theorem down_told.mono_l : ∀ k, (∀ y0 y1 y2 y3, LeO (down_told.l0 k y0 y1 y2 y3) (down_told.l0 (k + 1) y0 y1 y2 y3))
  | 0 => fun _ _ _ _ r h => by simp [down_told.l0] at h
  | k + 1 => by
    have ih0 := down_told.mono_l k
    · intro y0 y1 y2 y3
      unfold down_told.l0
      repeat' first
      | (with_reducible exact ih0 _ _ _ _)
      | (with_reducible exact LeO.refl _)
      | (with_reducible exact LeO.none _)
      | (with_reducible refine LeO.ite ?_ ?_)
      | (with_reducible refine LeO.bind ?_ (fun _ => ?_))
      | exact ih0 _ _ _ _
      | exact LeO.none _
      | refine LeO.ite ?_ ?_
      | refine LeO.bind ?_ (fun _ => ?_)
theorem down_told.mono : ∀ a0 k, LeO (down_told.f k a0) (down_told.f (k + 1) a0) := by
  intro a0 k
  have ih0 := down_told.mono_l k
  unfold down_told.f
  repeat' first
      | (with_reducible exact ih0 _ _ _ _)
      | (with_reducible exact LeO.refl _)
      | (with_reducible exact LeO.none _)
      | (with_reducible refine LeO.ite ?_ ?_)
      | (with_reducible refine LeO.bind ?_ (fun _ => ?_))
      | exact ih0 _ _ _ _
      | exact LeO.none _
      | refine LeO.ite ?_ ?_
      | refine LeO.bind ?_ (fun _ => ?_)
set_option maxHeartbeats 8000000 in
set_option maxRecDepth 100000 in
theorem down_told.calls (k : Nat) (A0 : Option Addr) (c0 : Nat) (l0 : List (S35)) (r : Bool) (w : World) (hr0 : Kd.C k35 w A0 l0.length l0) (hc0 : l0.length ≤ c0) (h : down_told.f k l0 = some r) :
    Calls Try.prog 27 #[.slice A0 l0.length c0] w fun e w' => e = .returned (.bool r) ∧ Below w.heap.size w w' := by
  have hu35 := Try.underlying35
  have HR0 := Aside0.mk hr0
  have HC0 := Aside0.mk hc0
  clear hr0 hc0
  have HB := Aside0.mk (Below.refl w.heap.size w)
  have H : (down_told.l0 k (-1) l0 (l0.length : Int) 0) = some r := h
  clear h
  have H' := Aside0.mk H
  clear H
  go_enter Try.func27, Try.ntmps27
  go_wp2
  go_loopg [3, 8] k (fun kq v3 v8 w' => ∃ (x3_1 : Int) (x8_1 : Int), v3 = .int .i64 x3_1 ∧ v8 = .int .i64 x8_1 ∧ Aside0 (down_told.l0 kq x3_1 l0 (l0.length : Int) x8_1 = some r) ∧ Aside0 (kq ≤ k) ∧ Aside0 (Below w.heap.size w w'))
  case atStart => exact ⟨((-1)), (0), (by first | rfl | (simp; done) | (simp [*]; done)), (by first | rfl | (simp; done) | (simp [*]; done)), H', ⟨Nat.le_refl _⟩, ⟨by repeat (first | (with_reducible first | exact HB.out | apply below_alloc | apply pw_below_drewN | apply below_drew1) | exact HB.out)⟩⟩
  case round =>
    clear H'
    obtain ⟨x3_1, x8_1, rfl, rfl, HA, HK1, HB⟩ := hrel
    cases gk with
    | zero => exact absurd HA.out (by simp [down_told.l0])
    | succ k1 =>
      have H := HA.out
      clear HA
      simp only [down_told.l0] at H
      by_cases c2 : x8_1 < (l0.length : Int)
      · rw [if_pos c2] at H
        have c2b0 : decide (x8_1 < (l0.length : Int)) = true := decide_eq_true c2
        clear c2
        by_cases c3 : 0 ≤ x8_1
        · rw [if_pos c3] at H
          have c3b0 : decide (0 ≤ x8_1) = true := decide_eq_true c3
          clear c3
          by_cases c4 : x8_1 < (l0.length : Int)
          · rw [if_pos c4] at H
            have c4b0 : decide (x8_1 < (l0.length : Int)) = true := decide_eq_true c4
            clear c4
            replace H := Option.bind_eq_some_iff.mp H
            obtain ⟨t103, A50, H⟩ := H
            replace H : (if t103 = true then (if ((rd_T35 l0 x8_1).f0) ≤ x3_1 then (some false) else (if ((rd_T35 l0 x8_1).f2) < 0 then (some false) else (if ((rd_T35 l0 x8_1).f2) > 1000000000 then (some false) else (down_told.l0 k1 ((rd_T35 l0 x8_1).f0) l0 (l0.length : Int) (wrap64 (x8_1 + 1)))))) else (some false)) = some r := H
            have A5 := Aside0.mk A50
            clear A50
            by_cases c6 : t103 = true
            · subst c6
              have H1 : (if ((rd_T35 l0 x8_1).f0) ≤ x3_1 then (some false) else (if ((rd_T35 l0 x8_1).f2) < 0 then (some false) else (if ((rd_T35 l0 x8_1).f2) > 1000000000 then (some false) else (down_told.l0 k1 ((rd_T35 l0 x8_1).f0) l0 (l0.length : Int) (wrap64 (x8_1 + 1)))))) = some r := by rw [if_pos rfl] at H; exact H
              clear H
              have H := H1
              clear H1
              by_cases c7 : ((rd_T35 l0 x8_1).f0) ≤ x3_1
              · rw [if_pos c7] at H
                have c7b0 : decide (((rd_T35 l0 x8_1).f0) ≤ x3_1) = true := decide_eq_true c7
                clear c7
                obtain rfl := Option.some.inj H
                have p101 : 0 ≤ (x8_1 : Int) := of_decide_eq_true (by first | (with_reducible assumption) | assumption)
                have q101 : x8_1 < (l0.length : Int) := of_decide_eq_true (by first | (with_reducible assumption) | assumption)
                obtain ⟨ad101, e101, hx101_0, hx101_1, hx101_2, hx101_3⟩ := at_T35 HR0.out x8_1 p101 q101
                cases e101
                replace hx101_0 := (HB.out.cell (World.block_lt_of_cell? w _ hx101_0)).trans hx101_0
                replace hx101_1 := (HB.out.cell (World.block_lt_of_cell? w _ hx101_1)).trans hx101_1
                replace hx101_2 := (HB.out.cell (World.block_lt_of_cell? w _ hx101_2)).trans hx101_2
                replace hx101_3 := (HB.out.cell (World.block_lt_of_cell? w _ hx101_3)).trans hx101_3
                replace p101 := eq_true p101
                replace q101 := eq_true q101
                go_wp2_with (first | ((with_reducible refine gate_dst (N := 5) rfl ?_); refine box_event ?hg (N := 5) ?hd (cs := #[.int .i64 0, .int .i64 0, .int .i64 0, .int .i64 0]) (t := 35) ?hr ?_; (case hd => rfl); (case hg => rfl); (case hr => first | (go_simp; done) | (go_simp; rfl)); intro gb102 hg w8 hbox hb; have n0_ := Aside0.mk (below_step (by repeat (first | (with_reducible first | exact HB.out | apply below_alloc | apply pw_below_drewN | apply below_drew1) | exact HB.out)) hb); have n1_ := Aside0.mk (hbox); have n2_ := Aside0.mk ((by rw [hg]; exact (below_size (by repeat (first | (with_reducible first | exact HB.out | apply below_alloc | apply pw_below_drewN | apply below_drew1) | exact HB.out))) : w.heap.size ≤ gb102)); have n3_ := Aside0.mk ((by rw [hg]; exact (below_size (by repeat (first | (with_reducible first | exact HB.out | apply below_alloc | apply pw_below_drewN | apply below_drew1) | exact HB.out))) : w.heap.size ≤ gb102)); clear HB; have HB := n0_; have BK102 := n1_; have GW102 := n2_; have GE102 := n3_; clear n0_ n1_ n2_ n3_; clear hb hbox hg; have hcz9_0 : w8.cell? ⟨gb102, 0, none⟩ = some (.int .i64 0) := (blk_cell BK102.out 0).trans rfl; have hcz9_1 : w8.cell? ⟨gb102, 1, none⟩ = some (.int .i64 0) := (blk_cell BK102.out 1).trans rfl; have hcz9_2 : w8.cell? ⟨gb102, 2, none⟩ = some (.int .i64 0) := (blk_cell BK102.out 2).trans rfl; have hcz9_3 : w8.cell? ⟨gb102, 3, none⟩ = some (.int .i64 0) := (blk_cell BK102.out 3).trans rfl; have hfz9_0 := blk_frozen BK102.out 0; have hfz9_1 := blk_frozen BK102.out 1; have hfz9_2 := blk_frozen BK102.out 2; have hfz9_3 := blk_frozen BK102.out 3) | ((with_reducible refine gate_callee (f := 26) rfl ?_); refine goesL_ (some 14) rfl rfl Try.func26 (by kernel_rfl) rfl #[.int .i64 ((rd_T35 l0 x8_1).f0)] rfl (by (try simp only [List.map_toArray, List.map_cons, List.map_nil]); first | done | rfl | (simp only [List.length_drop, List.length_take]; rfl)) ?_; (with_reducible refine (down_node.calls ((rd_T35 l0 x8_1).f0) true _ A5.out).mono ?_); rintro e w' ⟨rfl, ⟨nd, rfl⟩⟩; refine ⟨_, rfl, ?_⟩))
                go_ret
                exact ⟨by first | rfl | (simp [errW_none, errW_some] <;> rfl) | (simp [*, errW_none, errW_some] <;> rfl), by repeat (first | (with_reducible first | exact HB.out | apply below_alloc | apply pw_below_drewN | apply below_drew1 | refine below_set ?_ GE102.out) | exact HB.out)⟩
              · rw [if_neg c7] at H
                have c7b0 : decide (((rd_T35 l0 x8_1).f0) ≤ x3_1) = false := decide_eq_false c7
                clear c7
                by_cases c10 : ((rd_T35 l0 x8_1).f2) < 0
                · rw [if_pos c10] at H
                  have c10b0 : decide (((rd_T35 l0 x8_1).f2) < 0) = true := decide_eq_true c10
                  clear c10
                  obtain rfl := Option.some.inj H
                  have p101 : 0 ≤ (x8_1 : Int) := of_decide_eq_true (by first | (with_reducible assumption) | assumption)
                  have q101 : x8_1 < (l0.length : Int) := of_decide_eq_true (by first | (with_reducible assumption) | assumption)
                  obtain ⟨ad101, e101, hx101_0, hx101_1, hx101_2, hx101_3⟩ := at_T35 HR0.out x8_1 p101 q101
                  cases e101
                  replace hx101_0 := (HB.out.cell (World.block_lt_of_cell? w _ hx101_0)).trans hx101_0
                  replace hx101_1 := (HB.out.cell (World.block_lt_of_cell? w _ hx101_1)).trans hx101_1
                  replace hx101_2 := (HB.out.cell (World.block_lt_of_cell? w _ hx101_2)).trans hx101_2
                  replace hx101_3 := (HB.out.cell (World.block_lt_of_cell? w _ hx101_3)).trans hx101_3
                  replace p101 := eq_true p101
                  replace q101 := eq_true q101
                  go_wp2_with (first | ((with_reducible refine gate_dst (N := 5) rfl ?_); refine box_event ?hg (N := 5) ?hd (cs := #[.int .i64 0, .int .i64 0, .int .i64 0, .int .i64 0]) (t := 35) ?hr ?_; (case hd => rfl); (case hg => rfl); (case hr => first | (go_simp; done) | (go_simp; rfl)); intro gb102 hg w11 hbox hb; have n0_ := Aside0.mk (below_step (by repeat (first | (with_reducible first | exact HB.out | apply below_alloc | apply pw_below_drewN | apply below_drew1) | exact HB.out)) hb); have n1_ := Aside0.mk (hbox); have n2_ := Aside0.mk ((by rw [hg]; exact (below_size (by repeat (first | (with_reducible first | exact HB.out | apply below_alloc | apply pw_below_drewN | apply below_drew1) | exact HB.out))) : w.heap.size ≤ gb102)); have n3_ := Aside0.mk ((by rw [hg]; exact (below_size (by repeat (first | (with_reducible first | exact HB.out | apply below_alloc | apply pw_below_drewN | apply below_drew1) | exact HB.out))) : w.heap.size ≤ gb102)); clear HB; have HB := n0_; have BK102 := n1_; have GW102 := n2_; have GE102 := n3_; clear n0_ n1_ n2_ n3_; clear hb hbox hg; have hcz12_0 : w11.cell? ⟨gb102, 0, none⟩ = some (.int .i64 0) := (blk_cell BK102.out 0).trans rfl; have hcz12_1 : w11.cell? ⟨gb102, 1, none⟩ = some (.int .i64 0) := (blk_cell BK102.out 1).trans rfl; have hcz12_2 : w11.cell? ⟨gb102, 2, none⟩ = some (.int .i64 0) := (blk_cell BK102.out 2).trans rfl; have hcz12_3 : w11.cell? ⟨gb102, 3, none⟩ = some (.int .i64 0) := (blk_cell BK102.out 3).trans rfl; have hfz12_0 := blk_frozen BK102.out 0; have hfz12_1 := blk_frozen BK102.out 1; have hfz12_2 := blk_frozen BK102.out 2; have hfz12_3 := blk_frozen BK102.out 3) | ((with_reducible refine gate_callee (f := 26) rfl ?_); refine goesL_ (some 14) rfl rfl Try.func26 (by kernel_rfl) rfl #[.int .i64 ((rd_T35 l0 x8_1).f0)] rfl (by (try simp only [List.map_toArray, List.map_cons, List.map_nil]); first | done | rfl | (simp only [List.length_drop, List.length_take]; rfl)) ?_; (with_reducible refine (down_node.calls ((rd_T35 l0 x8_1).f0) true _ A5.out).mono ?_); rintro e w' ⟨rfl, ⟨nd, rfl⟩⟩; refine ⟨_, rfl, ?_⟩))
                  go_ret
                  exact ⟨by first | rfl | (simp [errW_none, errW_some] <;> rfl) | (simp [*, errW_none, errW_some] <;> rfl), by repeat (first | (with_reducible first | exact HB.out | apply below_alloc | apply pw_below_drewN | apply below_drew1 | refine below_set ?_ GE102.out) | exact HB.out)⟩
                · rw [if_neg c10] at H
                  have c10b0 : decide (((rd_T35 l0 x8_1).f2) < 0) = false := decide_eq_false c10
                  clear c10
                  by_cases c13 : ((rd_T35 l0 x8_1).f2) > 1000000000
                  · rw [if_pos c13] at H
                    have c13b0 : decide (1000000000 < ((rd_T35 l0 x8_1).f2)) = true := decide_eq_true c13
                    clear c13
                    obtain rfl := Option.some.inj H
                    have p101 : 0 ≤ (x8_1 : Int) := of_decide_eq_true (by first | (with_reducible assumption) | assumption)
                    have q101 : x8_1 < (l0.length : Int) := of_decide_eq_true (by first | (with_reducible assumption) | assumption)
                    obtain ⟨ad101, e101, hx101_0, hx101_1, hx101_2, hx101_3⟩ := at_T35 HR0.out x8_1 p101 q101
                    cases e101
                    replace hx101_0 := (HB.out.cell (World.block_lt_of_cell? w _ hx101_0)).trans hx101_0
                    replace hx101_1 := (HB.out.cell (World.block_lt_of_cell? w _ hx101_1)).trans hx101_1
                    replace hx101_2 := (HB.out.cell (World.block_lt_of_cell? w _ hx101_2)).trans hx101_2
                    replace hx101_3 := (HB.out.cell (World.block_lt_of_cell? w _ hx101_3)).trans hx101_3
                    replace p101 := eq_true p101
                    replace q101 := eq_true q101
                    go_wp2_with (first | ((with_reducible refine gate_dst (N := 5) rfl ?_); refine box_event ?hg (N := 5) ?hd (cs := #[.int .i64 0, .int .i64 0, .int .i64 0, .int .i64 0]) (t := 35) ?hr ?_; (case hd => rfl); (case hg => rfl); (case hr => first | (go_simp; done) | (go_simp; rfl)); intro gb102 hg w14 hbox hb; have n0_ := Aside0.mk (below_step (by repeat (first | (with_reducible first | exact HB.out | apply below_alloc | apply pw_below_drewN | apply below_drew1) | exact HB.out)) hb); have n1_ := Aside0.mk (hbox); have n2_ := Aside0.mk ((by rw [hg]; exact (below_size (by repeat (first | (with_reducible first | exact HB.out | apply below_alloc | apply pw_below_drewN | apply below_drew1) | exact HB.out))) : w.heap.size ≤ gb102)); have n3_ := Aside0.mk ((by rw [hg]; exact (below_size (by repeat (first | (with_reducible first | exact HB.out | apply below_alloc | apply pw_below_drewN | apply below_drew1) | exact HB.out))) : w.heap.size ≤ gb102)); clear HB; have HB := n0_; have BK102 := n1_; have GW102 := n2_; have GE102 := n3_; clear n0_ n1_ n2_ n3_; clear hb hbox hg; have hcz15_0 : w14.cell? ⟨gb102, 0, none⟩ = some (.int .i64 0) := (blk_cell BK102.out 0).trans rfl; have hcz15_1 : w14.cell? ⟨gb102, 1, none⟩ = some (.int .i64 0) := (blk_cell BK102.out 1).trans rfl; have hcz15_2 : w14.cell? ⟨gb102, 2, none⟩ = some (.int .i64 0) := (blk_cell BK102.out 2).trans rfl; have hcz15_3 : w14.cell? ⟨gb102, 3, none⟩ = some (.int .i64 0) := (blk_cell BK102.out 3).trans rfl; have hfz15_0 := blk_frozen BK102.out 0; have hfz15_1 := blk_frozen BK102.out 1; have hfz15_2 := blk_frozen BK102.out 2; have hfz15_3 := blk_frozen BK102.out 3) | ((with_reducible refine gate_callee (f := 26) rfl ?_); refine goesL_ (some 14) rfl rfl Try.func26 (by kernel_rfl) rfl #[.int .i64 ((rd_T35 l0 x8_1).f0)] rfl (by (try simp only [List.map_toArray, List.map_cons, List.map_nil]); first | done | rfl | (simp only [List.length_drop, List.length_take]; rfl)) ?_; (with_reducible refine (down_node.calls ((rd_T35 l0 x8_1).f0) true _ A5.out).mono ?_); rintro e w' ⟨rfl, ⟨nd, rfl⟩⟩; refine ⟨_, rfl, ?_⟩))
                    go_ret
                    exact ⟨by first | rfl | (simp [errW_none, errW_some] <;> rfl) | (simp [*, errW_none, errW_some] <;> rfl), by repeat (first | (with_reducible first | exact HB.out | apply below_alloc | apply pw_below_drewN | apply below_drew1 | refine below_set ?_ GE102.out) | exact HB.out)⟩
                  · rw [if_neg c13] at H
                    have c13b0 : decide (1000000000 < ((rd_T35 l0 x8_1).f2)) = false := decide_eq_false c13
                    clear c13
                    have H' := Aside0.mk H
                    clear H
                    have p101 : 0 ≤ (x8_1 : Int) := of_decide_eq_true (by first | (with_reducible assumption) | assumption)
                    have q101 : x8_1 < (l0.length : Int) := of_decide_eq_true (by first | (with_reducible assumption) | assumption)
                    obtain ⟨ad101, e101, hx101_0, hx101_1, hx101_2, hx101_3⟩ := at_T35 HR0.out x8_1 p101 q101
                    cases e101
                    replace hx101_0 := (HB.out.cell (World.block_lt_of_cell? w _ hx101_0)).trans hx101_0
                    replace hx101_1 := (HB.out.cell (World.block_lt_of_cell? w _ hx101_1)).trans hx101_1
                    replace hx101_2 := (HB.out.cell (World.block_lt_of_cell? w _ hx101_2)).trans hx101_2
                    replace hx101_3 := (HB.out.cell (World.block_lt_of_cell? w _ hx101_3)).trans hx101_3
                    replace p101 := eq_true p101
                    replace q101 := eq_true q101
                    go_wp2_with (first | ((with_reducible refine gate_dst (N := 5) rfl ?_); refine box_event ?hg (N := 5) ?hd (cs := #[.int .i64 0, .int .i64 0, .int .i64 0, .int .i64 0]) (t := 35) ?hr ?_; (case hd => rfl); (case hg => rfl); (case hr => first | (go_simp; done) | (go_simp; rfl)); intro gb102 hg w16 hbox hb; have n0_ := Aside0.mk (below_step (by repeat (first | (with_reducible first | exact HB.out | apply below_alloc | apply pw_below_drewN | apply below_drew1) | exact HB.out)) hb); have n1_ := Aside0.mk (hbox); have n2_ := Aside0.mk ((by rw [hg]; exact (below_size (by repeat (first | (with_reducible first | exact HB.out | apply below_alloc | apply pw_below_drewN | apply below_drew1) | exact HB.out))) : w.heap.size ≤ gb102)); have n3_ := Aside0.mk ((by rw [hg]; exact (below_size (by repeat (first | (with_reducible first | exact HB.out | apply below_alloc | apply pw_below_drewN | apply below_drew1) | exact HB.out))) : w.heap.size ≤ gb102)); clear HB; have HB := n0_; have BK102 := n1_; have GW102 := n2_; have GE102 := n3_; clear n0_ n1_ n2_ n3_; clear hb hbox hg; have hcz17_0 : w16.cell? ⟨gb102, 0, none⟩ = some (.int .i64 0) := (blk_cell BK102.out 0).trans rfl; have hcz17_1 : w16.cell? ⟨gb102, 1, none⟩ = some (.int .i64 0) := (blk_cell BK102.out 1).trans rfl; have hcz17_2 : w16.cell? ⟨gb102, 2, none⟩ = some (.int .i64 0) := (blk_cell BK102.out 2).trans rfl; have hcz17_3 : w16.cell? ⟨gb102, 3, none⟩ = some (.int .i64 0) := (blk_cell BK102.out 3).trans rfl; have hfz17_0 := blk_frozen BK102.out 0; have hfz17_1 := blk_frozen BK102.out 1; have hfz17_2 := blk_frozen BK102.out 2; have hfz17_3 := blk_frozen BK102.out 3) | ((with_reducible refine gate_callee (f := 26) rfl ?_); refine goesL_ (some 14) rfl rfl Try.func26 (by kernel_rfl) rfl #[.int .i64 ((rd_T35 l0 x8_1).f0)] rfl (by (try simp only [List.map_toArray, List.map_cons, List.map_nil]); first | done | rfl | (simp only [List.length_drop, List.length_take]; rfl)) ?_; (with_reducible refine (down_node.calls ((rd_T35 l0 x8_1).f0) true _ A5.out).mono ?_); rintro e w' ⟨rfl, ⟨nd, rfl⟩⟩; refine ⟨_, rfl, ?_⟩))
                    go_roundg k1
                    case measure => have := HK1.out; omega
                    case rel => exact ⟨((rd_T35 l0 x8_1).f0), (wrap64 (x8_1 + 1)), (by first | rfl | (simp; done) | (simp [*]; done)), (by first | rfl | (simp; done) | (simp [*]; done)), H', ⟨by have := HK1.out; omega⟩, ⟨by repeat (first | (with_reducible first | exact HB.out | apply below_alloc | apply pw_below_drewN | apply below_drew1 | refine below_set ?_ GE102.out) | exact HB.out)⟩⟩
            · replace c6 := Bool.eq_false_iff.mpr c6
              subst c6
              have H1 : (some false) = some r := by rw [if_neg (show ¬ (false = true) by decide)] at H; exact H
              clear H
              have H := H1
              clear H1
              obtain rfl := Option.some.inj H
              have p101 : 0 ≤ (x8_1 : Int) := of_decide_eq_true (by first | (with_reducible assumption) | assumption)
              have q101 : x8_1 < (l0.length : Int) := of_decide_eq_true (by first | (with_reducible assumption) | assumption)
              obtain ⟨ad101, e101, hx101_0, hx101_1, hx101_2, hx101_3⟩ := at_T35 HR0.out x8_1 p101 q101
              cases e101
              replace hx101_0 := (HB.out.cell (World.block_lt_of_cell? w _ hx101_0)).trans hx101_0
              replace hx101_1 := (HB.out.cell (World.block_lt_of_cell? w _ hx101_1)).trans hx101_1
              replace hx101_2 := (HB.out.cell (World.block_lt_of_cell? w _ hx101_2)).trans hx101_2
              replace hx101_3 := (HB.out.cell (World.block_lt_of_cell? w _ hx101_3)).trans hx101_3
              replace p101 := eq_true p101
              replace q101 := eq_true q101
              go_wp2_with (first | ((with_reducible refine gate_dst (N := 5) rfl ?_); refine box_event ?hg (N := 5) ?hd (cs := #[.int .i64 0, .int .i64 0, .int .i64 0, .int .i64 0]) (t := 35) ?hr ?_; (case hd => rfl); (case hg => rfl); (case hr => first | (go_simp; done) | (go_simp; rfl)); intro gb102 hg w18 hbox hb; have n0_ := Aside0.mk (below_step (by repeat (first | (with_reducible first | exact HB.out | apply below_alloc | apply pw_below_drewN | apply below_drew1) | exact HB.out)) hb); have n1_ := Aside0.mk (hbox); have n2_ := Aside0.mk ((by rw [hg]; exact (below_size (by repeat (first | (with_reducible first | exact HB.out | apply below_alloc | apply pw_below_drewN | apply below_drew1) | exact HB.out))) : w.heap.size ≤ gb102)); have n3_ := Aside0.mk ((by rw [hg]; exact (below_size (by repeat (first | (with_reducible first | exact HB.out | apply below_alloc | apply pw_below_drewN | apply below_drew1) | exact HB.out))) : w.heap.size ≤ gb102)); clear HB; have HB := n0_; have BK102 := n1_; have GW102 := n2_; have GE102 := n3_; clear n0_ n1_ n2_ n3_; clear hb hbox hg; have hcz19_0 : w18.cell? ⟨gb102, 0, none⟩ = some (.int .i64 0) := (blk_cell BK102.out 0).trans rfl; have hcz19_1 : w18.cell? ⟨gb102, 1, none⟩ = some (.int .i64 0) := (blk_cell BK102.out 1).trans rfl; have hcz19_2 : w18.cell? ⟨gb102, 2, none⟩ = some (.int .i64 0) := (blk_cell BK102.out 2).trans rfl; have hcz19_3 : w18.cell? ⟨gb102, 3, none⟩ = some (.int .i64 0) := (blk_cell BK102.out 3).trans rfl; have hfz19_0 := blk_frozen BK102.out 0; have hfz19_1 := blk_frozen BK102.out 1; have hfz19_2 := blk_frozen BK102.out 2; have hfz19_3 := blk_frozen BK102.out 3) | ((with_reducible refine gate_callee (f := 26) rfl ?_); refine goesL_ (some 14) rfl rfl Try.func26 (by kernel_rfl) rfl #[.int .i64 ((rd_T35 l0 x8_1).f0)] rfl (by (try simp only [List.map_toArray, List.map_cons, List.map_nil]); first | done | rfl | (simp only [List.length_drop, List.length_take]; rfl)) ?_; (with_reducible refine (down_node.calls ((rd_T35 l0 x8_1).f0) false _ A5.out).mono ?_); rintro e w' ⟨rfl, ⟨nd, rfl⟩⟩; refine ⟨_, rfl, ?_⟩))
              go_ret
              exact ⟨by first | rfl | (simp [errW_none, errW_some] <;> rfl) | (simp [*, errW_none, errW_some] <;> rfl), by repeat (first | (with_reducible first | exact HB.out | apply below_alloc | apply pw_below_drewN | apply below_drew1 | refine below_set ?_ GE102.out) | exact HB.out)⟩
          · rw [if_neg c4] at H
            exact absurd H (by simp)
        · rw [if_neg c3] at H
          exact absurd H (by simp)
      · rw [if_neg c2] at H
        have c2b0 : decide (x8_1 < (l0.length : Int)) = false := decide_eq_false c2
        clear c2
        obtain rfl := Option.some.inj H
        go_wp2
        go_ret
        exact ⟨by first | rfl | (simp [errW_none, errW_some] <;> rfl) | (simp [*, errW_none, errW_some] <;> rfl), by repeat (first | (with_reducible first | exact HB.out | apply below_alloc | apply pw_below_drewN | apply below_drew1) | exact HB.out)⟩

-- NOT PRINTED: function 32 (api_Down_32)

-- NOT PRINTED: function 28 (api_Down_28)

/-! ### down_valid: function 25 -/
theorem zeroCells_one (zs : Array Value) (n : Nat) (h1 : ∀ u ∈ zs.toList, u.oneCell' = true) (hs : 0 < zs.size) : (Builtin.zeroCells zs n).toList.length = n * zs.size ∧ ∀ u ∈ (Builtin.zeroCells zs n).toList, u.oneCell' = true := by
  unfold Builtin.zeroCells
  refine ⟨by simp, fun u hu => ?_⟩
  rw [Array.toList_map, List.mem_map] at hu
  obtain ⟨i, _, rfl⟩ := hu
  refine h1 _ ?_
  rw [getElem!_pos zs _ (Nat.mod_lt _ hs)]
  exact Array.mem_toList_iff.2 (Array.getElem_mem _)
/-- 'clear(s[i:])' on a row of one's own, of which what stands ahead of i is then kept. -/
theorem Kd.R_clear_run {α : Type} (d : Kd α) {P : Program} {W : World} (base : Nat) (t ty e : TypeId) (z : Value) (ht : P.underlying t = some (.slice e)) (hv : ∀ w, (zeroValue e).run P w = .ok z w) (hz : z.cells.size = d.sz) (h1 : ∀ u ∈ z.cells.toList, u.oneCell' = true) (hs0 : 0 < d.sz)
    {g n c i : Nat} {xs : List α} {ok : Nat → Prop} (HO : d.R e W base ok (.slice (some ⟨g, 0, none⟩) n c) xs) (hi : i ≤ n) {A : Option Addr} (hA : A = if c = i then some ⟨g, 0, none⟩ else (some (⟨g, 0, none⟩ : Addr)).map (·.add (i * d.sz))) (c2 : Nat) :
    ∃ w1, (Builtin.clear_ #[t] ty #[.slice A (n - i) c2]).run P W = .ok (.tuple #[]) w1 ∧ d.R e w1 base ok (.slice (some ⟨g, 0, none⟩) i c) (xs.take i) ∧ W.grownBy w1 (some g) := by
  obtain ⟨hn, hnc, _⟩ := Kd.R_reads' HO
  have HT := Kd.R_take (m := i) HO (by omega)
  rcases Nat.lt_or_ge i n with hin | hin
  · have hci : c ≠ i := by omega
    rw [if_neg hci, Option.map_some, add_at, Nat.zero_add] at hA
    subst hA
    obtain ⟨hok, inner, hown, hr⟩ := HT
    obtain ⟨hil, hown⟩ := hown
    rcases hown with ⟨hv', _⟩ | ⟨g', cap', cur, hv', hb, hh, hle, hcm, hcs, htake⟩
    · cases hv'
    injection hv' with ha _ hc
    injection ha with ha
    injection ha with hg
    subst hg; subst hc
    obtain ⟨zl, zo⟩ := zeroCells_one z.cells (n - i) h1 (by omega)
    rw [hz] at zl
    generalize hzz : (Builtin.zeroCells z.cells (n - i)).toList = zc at zl zo
    have hxl : (xs.take i).length = i := by rw [List.length_take]; omega
    rw [hxl] at hil hle htake
    have hfit : i * d.sz + zc.length ≤ cur.size := by
      rw [zl, ← Nat.add_mul, hcs]
      exact Nat.mul_le_mul_right _ (by omega)
    have hst := run_storeCells_cells (P := P) g (i * d.sz) zc 0 W (fun j hj => by rw [Nat.add_zero, cell_of_row W g _ cur e (0, 0) hh]; simp; omega) (fun j _ => blk_frozen hh _) zo
    rw [Nat.add_zero] at hst
    have hrun : (Builtin.clear_ #[t] ty #[.slice (some ⟨g, i * d.sz, none⟩) (n - i) c2]).run P W = .ok (.tuple #[]) (W.setCells g (i * d.sz) zc) := by
      obtain ⟨m, hm⟩ : ∃ m, n - i = m + 1 := ⟨n - i - 1, by omega⟩
      rw [hm] at hzz ⊢
      simp [Builtin.clear_, run_underlying ht, hv, hzz, hst]
    obtain ⟨cur', h3, h4, h5⟩ := setCells_row zc (i * d.sz) W cur hh hfit
    obtain ⟨s1, s2, s3, s4⟩ := setCells_same g zc (i * d.sz) W
    have hfar : ∀ k', k' ≠ g → (W.setCells g (i * d.sz) zc).heap[k']? = W.heap[k']? := fun k' hk' => setCells_far zc _ k' hk'
    have hmv : ∀ p q, d.M W base (fun k' => ok k' ∧ some k' ≠ (Value.slice (some ⟨g, 0, none⟩) i c).ownBlock) p q → d.M (W.setCells g (i * d.sz) zc) base (fun k' => ok k' ∧ some k' ≠ (Value.slice (some ⟨g, 0, none⟩) i c).ownBlock) p q := fun p q hp =>
      d.M_move (fun k' hk' => hfar k' (fun he => hk'.2 (by simp [Value.ownBlock, he]))) hp
    refine ⟨_, hrun, ⟨hok, inner, ⟨by rw [hxl]; exact hil, .inr ⟨g, c, cur', by rw [hxl], hb, h3, by rw [hxl]; exact hle, hcm, by rw [h4, hcs], ?_⟩⟩, hr.imp_ hmv⟩, ⟨s1, s2, s3, by rw [s4]; exact Nat.le_refl _, fun k' _ hk' => hfar k' (fun he => hk' (by rw [he]))⟩⟩
    rw [hxl, h5, ← htake, List.append_assoc]
    rw [List.take_append_of_le_length (by rw [List.length_take, Array.length_toList]; omega), List.take_take, Nat.min_self]
  · have h0 : n - i = 0 := by omega
    rw [h0]
    refine ⟨W, ?_, HT, ⟨rfl, rfl, rfl, Nat.le_refl _, fun _ _ _ => rfl⟩⟩
    cases A <;> simp [Builtin.clear_, run_underlying ht]
def fidx {α : Type} (p : α → Bool) : List α → Int → Int
  | [], _ => -1
  | x :: t, i => if p x = true then i else fidx p t (i + 1)
theorem fidx_hit {α : Type} (p : α → Bool) (d : α) : ∀ (l : List α) (i : Int) (n : Nat), n < l.length → (∀ j, j < n → p (l.getD j d) = false) → p (l.getD n d) = true → fidx p l i = i + n
  | [], _, _, h, _, _ => absurd h (Nat.not_lt_zero _)
  | x :: t, i, 0, _, _, h2 => by
    have h2' : p x = true := h2
    unfold fidx; rw [if_pos h2']; simp
  | x :: t, i, n + 1, h, h1, h2 => by
    have h0 : p x = false := h1 0 (Nat.succ_pos _)
    unfold fidx; rw [if_neg (by rw [h0]; decide)]
    rw [fidx_hit p d t (i + 1) n (by simpa using h) (fun j hj => h1 (j + 1) (by omega)) h2]
    omega
theorem fidx_miss {α : Type} (p : α → Bool) (d : α) : ∀ (l : List α) (i : Int), (∀ j, j < l.length → p (l.getD j d) = false) → fidx p l i = -1
  | [], _, _ => rfl
  | x :: t, i, h => by
    have h0 : p x = false := h 0 (Nat.succ_pos _)
    unfold fidx; rw [if_neg (by rw [h0]; decide)]
    exact fidx_miss p d t (i + 1) (fun j hj => h (j + 1) (by simpa using hj))
set_option maxHeartbeats 8000000 in
set_option maxRecDepth 100000 in
theorem ixf35 (g : Nat) (cb : Array Value) (p : S35 → Bool) (A : Option Addr) (c : Nat) (l : List (S35)) (w : World) (hr : Kd.C k35 w A l.length l)
    (eg : ∀ args w, (callFunc g args).run Try.prog w = .ok (.enter g args) w)
    (hp : ∀ (W : World) (x : S35), Below w.heap.size w W → Calls Try.prog g (#[.agg #[.int .i64 x.f0, .int .i64 x.f1, .int .i64 x.f2, .int .i64 x.f3]] ++ cb) W fun e w' => e = .returned (.bool (p x)) ∧ Below w.heap.size w w') :
    Calls Try.prog 32 #[.slice A l.length c, .func (.func g) #[] cb] w fun e w' => e = .returned (.int .i64 (fidx p l 0)) ∧ Below w.heap.size w w' := by
  have HR := Aside0.mk hr
  clear hr
  have hu35 := Try.underlying35
  have hbig : l.length ≤ 9223372036854775807 := by
    have := HR.out.2.1
    omega
  go_enter Try.func32, Try.ntmps32
  go_wp2
  go_loopg [5, 8] l.length (fun gg _ s8 wr => ∃ kk : Nat, kk ≤ l.length ∧ l.length - kk ≤ gg ∧ s8 = .int .i64 kk ∧ Aside0 (Below w.heap.size w wr) ∧ Aside0 (∀ j, j < kk → p (l.getD j z35) = false))
  case atStart => exact ⟨0, Nat.zero_le _, by omega, rfl, ⟨Below.refl _ w⟩, ⟨fun j hj => absurd hj (Nat.not_lt_zero _)⟩⟩
  case round =>
    obtain ⟨kk, hkk, hg, rfl, BW, NO⟩ := hrel
    by_cases hlt : kk < l.length
    · have hltz : (kk : Int) < (l.length : Int) := by omega
      obtain ⟨ad, hA, h0, h1, h2, h3⟩ := at_T35 HR.out kk (by omega) hltz
      subst hA
      replace h0 := (BW.out.cell (World.block_lt_of_cell? w _ h0)).trans h0
      replace h1 := (BW.out.cell (World.block_lt_of_cell? w _ h1)).trans h1
      replace h2 := (BW.out.cell (World.block_lt_of_cell? w _ h2)).trans h2
      replace h3 := (BW.out.cell (World.block_lt_of_cell? w _ h3)).trans h3
      simp only [Int.toNat_natCast] at h0 h1 h2 h3
      have hcall := hp wr (rd_T35 l kk) BW.out
      have hel : rd_T35 l kk = l.getD kk z35 := by simp [rd_T35]
      generalize hy : rd_T35 l kk = y at h0 h1 h2 h3 hcall hel
      have EY := Aside0.mk hel
      clear hel hy
      cases hq : p y with
      | true =>
        rw [hq] at hcall
        go_wp2_with (go_at_fn g; refine hcall.mono ?_; rintro e w' ⟨rfl, hb'⟩)
        go_ret
        refine ⟨?_, hb'⟩
        rw [fidx_hit p z35 l 0 kk hlt NO.out (by rw [← EY.out]; exact hq)]
        simp
      | false =>
        rw [hq] at hcall
        go_wp2_with (go_at_fn g; refine hcall.mono ?_; rintro e w' ⟨rfl, hb'⟩)
        go_roundg (l.length - (kk + 1))
        case measure => omega
        case rel =>
          refine ⟨kk + 1, by omega, by omega, by go_num, ⟨hb'⟩, ⟨fun j hj => ?_⟩⟩
          by_cases e : j = kk
          · subst e
            rw [← EY.out]; exact hq
          · exact NO.out j (by omega)
    · have hltz : ¬ (kk : Int) < (l.length : Int) := by omega
      have hd := decide_eq_false hltz
      have hkl := Aside0.mk (show kk = l.length by omega)
      go_wp2
      go_ret
      refine ⟨?_, BW.out⟩
      rw [fidx_miss p z35 l 0 (by rw [← hkl.out]; exact NO.out)]
      rfl
theorem blk_cell' {w : World} {g : Nat} {cs : Array Value} {t : TypeId} (h : w.heap[g]? = some (.cells cs t (0, 0))) (j : Nat) (v : Value) (hv : cs[j]? = some v) : w.cell? ⟨g, j, none⟩ = some v := (blk_cell h j).trans hv
def ndb (a : Int) : Bool := decide (0 ≤ a ∧ a < 60)
theorem node_eq (a : Int) : down_node.f a = some (ndb a) := by
  unfold down_node.f ndb
  by_cases h : a ≥ 0
  · rw [if_pos h]
    by_cases h2 : a < 60
    · rw [decide_eq_true h2, decide_eq_true ⟨h, h2⟩]
    · rw [decide_eq_false h2, decide_eq_false (fun h3 => h2 h3.2)]
  · rw [if_neg h, decide_eq_false (fun h3 => h h3.1)]
def bad35 (x : S35) : Bool := !ndb x.f1 || (decide (x.f3 < 0) || decide (x.f3 > 1000000000))
set_option maxHeartbeats 2000000 in
theorem val37.calls (x : S35) (W : World) :
    Calls Try.prog 37 #[.agg #[.int .i64 x.f0, .int .i64 x.f1, .int .i64 x.f2, .int .i64 x.f3]] W fun e w' => e = .returned (.bool (bad35 x)) ∧ Below W.heap.size W w' := by
  have hu35 := Try.underlying35
  have HB0 := Aside0.mk (Below.refl W.heap.size W)
  have NE := Aside0.mk (node_eq x.f1)
  have hb35 : bad35 x = (!ndb x.f1 || (decide (x.f3 < 0) || decide (x.f3 > 1000000000))) := rfl
  rw [hb35]
  clear hb35
  generalize ndb x.f1 = nb at NE ⊢
  have key : ∀ (b3 b4 : Bool), decide (x.f3 < 0) = b3 → decide (x.f3 > 1000000000) = b4 → Calls Try.prog 37 #[.agg #[.int .i64 x.f0, .int .i64 x.f1, .int .i64 x.f2, .int .i64 x.f3]] W fun e w' => e = .returned (.bool (!nb || (b3 || b4))) ∧ Below W.heap.size W w' := by
    intro b3 b4 hb3 hb4
    cases nb
    all_goals cases b3
    all_goals cases b4
    all_goals go_enter Try.func37, Try.ntmps37
    all_goals go_wp2_with (first | ((with_reducible refine gate_dst (N := 1) rfl ?_); refine box_event ?hg (N := 1) ?hd (cs := #[.int .i64 x.f0, .int .i64 x.f1, .int .i64 x.f2, .int .i64 x.f3]) (t := 35) ?hr ?_; (case hd => rfl); (case hg => rfl); (case hr => first | (go_simp; done) | (go_simp; rfl)); intro gx hg w1 hbox hb1; have BX := Aside0.mk hbox; have HB1 := Aside0.mk (below_step HB0.out hb1); clear hb1 hbox hg; have x1 : w1.cell? ⟨gx, 1, none⟩ = some (.int .i64 x.f1) := blk_cell' BX.out 1 _ rfl; have x3 : w1.cell? ⟨gx, 3, none⟩ = some (.int .i64 x.f3) := blk_cell' BX.out 3 _ rfl) | (go_at_call 26; refine (down_node.calls x.f1 _ _ NE.out).mono ?_; rintro e w2 ⟨rfl, n2, rfl⟩))
    all_goals go_ret
    all_goals exact ⟨rfl, by repeat (first | exact HB1.out | apply below_drew1 | apply pw_below_drewN)⟩
  exact key _ _ rfl rfl
theorem ctf35 (g : Nat) (cb : Array Value) (p : S35 → Bool) (A : Option Addr) (c : Nat) (l : List (S35)) (w : World) (hr : Kd.C k35 w A l.length l)
    (eg : ∀ args w, (callFunc g args).run Try.prog w = .ok (.enter g args) w)
    (hp : ∀ (W : World) (x : S35), Below w.heap.size w W → Calls Try.prog g (#[.agg #[.int .i64 x.f0, .int .i64 x.f1, .int .i64 x.f2, .int .i64 x.f3]] ++ cb) W fun e w' => e = .returned (.bool (p x)) ∧ Below w.heap.size w w') :
    Calls Try.prog 28 #[.slice A l.length c, .func (.func g) #[] cb] w fun e w' => e = .returned (.bool (decide (0 ≤ fidx p l 0))) ∧ Below w.heap.size w w' := by
  have HI := Aside0.mk (ixf35 g cb p A c l w hr eg hp)
  clear hr eg hp
  generalize fidx p l 0 = i at HI ⊢
  go_enter Try.func28, Try.ntmps28
  go_wp2_with (go_at_call 32; refine HI.out.mono ?_; rintro e w' ⟨rfl, hb'⟩)
  go_ret
  exact ⟨rfl, hb'⟩
def valb (l : List S35) (t : Bool) : Bool := t && decide (¬ 0 ≤ fidx bad35 l 0)
def down_valid.f (k : Nat) (l0 : List (S35)) : Option (Bool) := (down_told.f k l0).bind fun t => some (valb l0 t)
theorem down_valid.mono : ∀ a0 k, LeO (down_valid.f k a0) (down_valid.f (k + 1) a0) := by
  intro l0 k r h
  unfold down_valid.f at h ⊢
  obtain ⟨t, ht, hr⟩ := Option.bind_eq_some_iff.1 h
  rw [down_told.mono l0 k _ ht]
  exact hr
set_option maxHeartbeats 2000000 in
theorem down_valid.calls (k : Nat) (A0 : Option Addr) (c0 : Nat) (l0 : List (S35)) (r : Bool) (w : World) (hr0 : Kd.C k35 w A0 l0.length l0) (hc0 : l0.length ≤ c0) (h : down_valid.f k l0 = some r) :
    Calls Try.prog 25 #[.slice A0 l0.length c0] w fun e w' => e = .returned (.bool r) ∧ Below w.heap.size w w' := by
  have HR := Aside0.mk hr0
  unfold down_valid.f at h
  obtain ⟨t, ht, hr⟩ := Option.bind_eq_some_iff.1 h
  obtain rfl := Option.some.inj hr
  have HT := Aside0.mk (down_told.calls k A0 c0 l0 t w hr0 hc0 ht)
  clear hr0 h hr ht
  have eg : ∀ args w, (callFunc 37 args).run Try.prog w = .ok (.enter 37 args) w := enters_of Try.func37 (by kernel_rfl) rfl
  have EG := Aside0.mk eg
  clear eg
  have key : ∀ b : Bool, decide (0 ≤ fidx bad35 l0 0) = b → Calls Try.prog 25 #[.slice A0 l0.length c0] w fun e w' => e = .returned (.bool (t && !b)) ∧ Below w.heap.size w w' := by
    intro b hb
    have HCT := Aside0.mk (fun w' (hw : Below w.heap.size w w') => ctf35 37 #[] bad35 A0 c0 l0 w' (Kd.C_below HR.out hw) EG.out (fun W x hW => (val37.calls x W).mono fun e w'' hq => ⟨hq.1, below_step hW hq.2⟩))
    rw [hb] at HCT
    clear hb
    cases t
    all_goals cases b
    all_goals go_enter Try.func25, Try.ntmps25
    all_goals go_wp2_with (first | (go_at_call 27; refine HT.out.mono ?_; rintro e w2 ⟨rfl, hb2⟩; have HB := Aside0.mk hb2; clear hb2) | (go_at_call 28; refine (HCT.out _ HB.out).mono ?_; rintro e w3 ⟨rfl, hb3⟩; have HB3 := Aside0.mk (below_step HB.out hb3); clear hb3))
    all_goals go_ret
    all_goals exact ⟨rfl, by first | exact HB3.out | exact HB.out⟩
  have hv : valb l0 t = (t && !decide (0 ≤ fidx bad35 l0 0)) := by unfold valb; rw [decide_not]
  rw [hv]
  exact key _ rfl

-- NOT PRINTED: function 29 (down_news)

end Go.Proofs.Ythobfempjekhdaa.Px
