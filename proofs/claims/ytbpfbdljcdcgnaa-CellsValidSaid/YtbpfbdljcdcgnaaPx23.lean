/- Walks of functions of this seat, written by a program of this workplace out of the translation. -/
import Derived.Test.YtbpfbdljcdcgnaaPx0
namespace Go.Proofs.Ytbpfbdljcdcgnaa.Px
open Go.RowKit Go.Proofs.YtbpfbdljcdcgnaaW.PrintWords Go.Proofs.YtbpfbdljcdcgnaaW.PrintLast Go.Proofs.YtbpfbdljcdcgnaaW.PrintMore
attribute [local go_sem] max2_int min2_int max_two min_two max_three min_three max_four min_four   -- for this text's walks alone
set_option linter.unusedVariables false
set_option linter.unusedSimpArgs false

/-! ### slotmeshref12_Busy: function 20 -/
mutual
def slotmeshref12_Busy.l0 : Nat → Int → Int → List (S32) → List (S34) → List (S51) → Option (Bool)
 | 0, _, _, _, _, _ => none
 | k + 1, x1, x5, x260000, x260001, x260002 => if x5 < (x260000.length : Int) then (if 0 ≤ x5 then (if ((rd_T32 x260000 x5).f0.f0) = x1 then (some true) else (slotmeshref12_Busy.l0 k x1 (wrap64 (x5 + 1)) x260000 x260001 x260002)) else (none)) else (slotmeshref12_Busy.l1 k x1 0 x260000 x260001 x260002)
def slotmeshref12_Busy.l1 : Nat → Int → Int → List (S32) → List (S34) → List (S51) → Option (Bool)
 | 0, _, _, _, _, _ => none
 | k + 1, x1, x6, x260000, x260001, x260002 => if x6 < (x260001.length : Int) then (if 0 ≤ x6 then (if ((rd_T34 x260001 x6).f0.f0) = x1 then (some true) else (slotmeshref12_Busy.l1 k x1 (wrap64 (x6 + 1)) x260000 x260001 x260002)) else (none)) else (some false)
end
def slotmeshref12_Busy.f (k : Nat) (l0_0 : List (S32)) (l0_1 : List (S34)) (l0_2 : List (S51)) (a1 : Int) : Option (Bool) := slotmeshref12_Busy.l0 k a1 0 l0_0 l0_1 l0_2
set_option maxHeartbeats 8000000 in
set_option maxRecDepth 100000 in
theorem slotmeshref12_Busy.calls (k : Nat) (A0_0 : Option Addr) (c0_0 : Nat) (l0_0 : List (S32)) (A0_1 : Option Addr) (c0_1 : Nat) (l0_1 : List (S34)) (A0_2 : Option Addr) (c0_2 : Nat) (l0_2 : List (S51)) (a1 : Int) (r : Bool) (w : World) (hr0_0 : Kd.C k32 w A0_0 l0_0.length l0_0) (hc0_0 : l0_0.length ≤ c0_0) (hr0_1 : Kd.C k34 w A0_1 l0_1.length l0_1) (hc0_1 : l0_1.length ≤ c0_1) (hr0_2 : Kd.C k51 w A0_2 l0_2.length l0_2) (hc0_2 : l0_2.length ≤ c0_2) (h : slotmeshref12_Busy.f k l0_0 l0_1 l0_2 a1 = some r) :
  Calls Try.prog 20 #[.agg #[.slice A0_0 l0_0.length c0_0, .slice A0_1 l0_1.length c0_1, .slice A0_2 l0_2.length c0_2], .int .i64 a1] w fun e w' => e = .returned (.bool r) ∧ Below w.heap.size w w' := by
 have hu26 := Try.underlying26
 have HR0_0 := Aside0.mk hr0_0
 have HC0_0 := Aside0.mk hc0_0
 clear hr0_0 hc0_0
 have HR0_1 := Aside0.mk hr0_1
 have HC0_1 := Aside0.mk hc0_1
 clear hr0_1 hc0_1
 have HR0_2 := Aside0.mk hr0_2
 have HC0_2 := Aside0.mk hc0_2
 clear hr0_2 hc0_2
 have HB := Aside0.mk (Below.refl w.heap.size w)
 have H : (slotmeshref12_Busy.l0 k a1 0 l0_0 l0_1 l0_2) = some r := h
 clear h
 have H' := Aside0.mk H
 clear H
 go_enter Try.func20, Try.ntmps20
 go_wp2_with (first | ((with_reducible refine gate_dst (N := 2) rfl ?_); refine bE (N := 2) (cs := #[.slice A0_0 l0_0.length c0_0, .slice A0_1 l0_1.length c0_1, .slice A0_2 l0_2.length c0_2]) (t := 26) ?_; intro gb259 hg w3 hbox hb; have BK259 := Aside0.mk (hbox); have GW259 := gW hg HB; have GE259 := GW259; replace HB := tW HB hb; clear hb hbox hg))
 go_loopg [5] k (fun kq v5 w' => ∃ (x5_1 : Int), v5 = .int .i64 x5_1 ∧ Aside0 (slotmeshref12_Busy.l0 kq a1 x5_1 l0_0 l0_1 l0_2 = some r) ∧ Aside0 (kq ≤ k) ∧ Aside0 (w'.heap[gb259]? = some (.cells #[(.slice A0_0 l0_0.length c0_0), (.slice A0_1 l0_1.length c0_1), (.slice A0_2 l0_2.length c0_2)] 26 (0, 0))) ∧ Aside0 (Below w.heap.size w w'))
 case atStart => exact ⟨(0), aR, H', ⟨Nat.le_refl _⟩, ⟨sB BK259⟩, ⟨sW HB⟩⟩
 case round =>
  clear H'
  try clear c2
  try clear p2
  obtain ⟨x5_1, rfl, HA, HK1, BK259, HB⟩ := hrel
  cases gk with
  | zero => exact absurd HA.out (by simp [slotmeshref12_Busy.l0])
  | succ k1 =>
   have H := HA.out
   clear HA
   simp only [slotmeshref12_Busy.l0] at H
   by_cases c4 : x5_1 < (l0_0.length : Int)
   ·rw [if_pos c4] at H
    have c4b0 : decide (x5_1 < (l0_0.length : Int)) = true := decide_eq_true c4
    clear c4
    by_cases c5 : 0 ≤ x5_1
    ·rw [if_pos c5] at H
     have c5b0 : decide (0 ≤ x5_1) = true := decide_eq_true c5
     clear c5
     by_cases c6 : ((rd_T32 l0_0 x5_1).f0.f0) = a1
     ·rw [if_pos c6] at H
      have c6b0 : (((rd_T32 l0_0 x5_1).f0.f0) == a1) = true := beq_iff_eq.mpr c6
      have c6b1 : (((rd_T32 l0_0 x5_1).f0.f0) != a1) = false := bne_eq_false_iff_eq.mpr c6
      clear c6
      obtain rfl := Option.some.inj H
      have hcz7_0 : wr.cell? ⟨gb259, 0, none⟩ = some (.slice A0_0 l0_0.length c0_0) := bt BK259 0
      have hcz7_1 : wr.cell? ⟨gb259, 1, none⟩ = some (.slice A0_1 l0_1.length c0_1) := bt BK259 1
      have hcz7_2 : wr.cell? ⟨gb259, 2, none⟩ = some (.slice A0_2 l0_2.length c0_2) := bt BK259 2
      have hfz7_0 := blk_frozen BK259.out 0
      have hfz7_1 := blk_frozen BK259.out 1
      have hfz7_2 := blk_frozen BK259.out 2
      have p260 : 0 ≤ (x5_1 : Int) := dA
      have q260 : x5_1 < (l0_0.length : Int) := dA
      obtain ⟨ad260, e260, hx260_0, hx260_1, hx260_2, hx260_3⟩ := at_T32 HR0_0.out x5_1 p260 q260
      cases e260
      replace hx260_0 := (HB.out.cell (World.block_lt_of_cell? w _ hx260_0)).trans hx260_0
      replace hx260_1 := (HB.out.cell (World.block_lt_of_cell? w _ hx260_1)).trans hx260_1
      replace hx260_2 := (HB.out.cell (World.block_lt_of_cell? w _ hx260_2)).trans hx260_2
      replace hx260_3 := (HB.out.cell (World.block_lt_of_cell? w _ hx260_3)).trans hx260_3
      replace p260 := eq_true p260
      replace q260 := eq_true q260
      go_wp2
      go_ret
      exact ⟨aE, sW HB⟩
     rw [if_neg c6] at H
     have c6b0 : (((rd_T32 l0_0 x5_1).f0.f0) == a1) = false := beq_eq_false_iff_ne.mpr c6
     have c6b1 : (((rd_T32 l0_0 x5_1).f0.f0) != a1) = true := bne_iff_ne.mpr c6
     have H' := Aside0.mk H
     clear H
     have hcz8_0 : wr.cell? ⟨gb259, 0, none⟩ = some (.slice A0_0 l0_0.length c0_0) := bt BK259 0
     have hcz8_1 : wr.cell? ⟨gb259, 1, none⟩ = some (.slice A0_1 l0_1.length c0_1) := bt BK259 1
     have hcz8_2 : wr.cell? ⟨gb259, 2, none⟩ = some (.slice A0_2 l0_2.length c0_2) := bt BK259 2
     have hfz8_0 := blk_frozen BK259.out 0
     have hfz8_1 := blk_frozen BK259.out 1
     have hfz8_2 := blk_frozen BK259.out 2
     have p260 : 0 ≤ (x5_1 : Int) := dA
     have q260 : x5_1 < (l0_0.length : Int) := dA
     obtain ⟨ad260, e260, hx260_0, hx260_1, hx260_2, hx260_3⟩ := at_T32 HR0_0.out x5_1 p260 q260
     cases e260
     replace hx260_0 := (HB.out.cell (World.block_lt_of_cell? w _ hx260_0)).trans hx260_0
     replace hx260_1 := (HB.out.cell (World.block_lt_of_cell? w _ hx260_1)).trans hx260_1
     replace hx260_2 := (HB.out.cell (World.block_lt_of_cell? w _ hx260_2)).trans hx260_2
     replace hx260_3 := (HB.out.cell (World.block_lt_of_cell? w _ hx260_3)).trans hx260_3
     replace p260 := eq_true p260
     replace q260 := eq_true q260
     go_wp2
     go_roundg k1
     case measure => have := HK1.out; omega
     case rel => exact ⟨(wrap64 (x5_1 + 1)), aR, H', ⟨by have := HK1.out; omega⟩, ⟨sB BK259⟩, ⟨sW HB⟩⟩
    rw [if_neg c5] at H
    exact absurd H (by simp)
   rw [if_neg c4] at H
   have c4b0 : decide (x5_1 < (l0_0.length : Int)) = false := decide_eq_false c4
   clear c4
   have H' := Aside0.mk H
   clear H
   have hcz9_0 : wr.cell? ⟨gb259, 0, none⟩ = some (.slice A0_0 l0_0.length c0_0) := bt BK259 0
   have hcz9_1 : wr.cell? ⟨gb259, 1, none⟩ = some (.slice A0_1 l0_1.length c0_1) := bt BK259 1
   have hcz9_2 : wr.cell? ⟨gb259, 2, none⟩ = some (.slice A0_2 l0_2.length c0_2) := bt BK259 2
   have hfz9_0 := blk_frozen BK259.out 0
   have hfz9_1 := blk_frozen BK259.out 1
   have hfz9_2 := blk_frozen BK259.out 2
   go_wp2
   go_loopg [6] k1 (fun kq v6 w' => ∃ (x6_2 : Int), v6 = .int .i64 x6_2 ∧ Aside0 (slotmeshref12_Busy.l1 kq a1 x6_2 l0_0 l0_1 l0_2 = some r) ∧ Aside0 (kq ≤ k1) ∧ Aside0 (w'.heap[gb259]? = some (.cells #[(.slice A0_0 l0_0.length c0_0), (.slice A0_1 l0_1.length c0_1), (.slice A0_2 l0_2.length c0_2)] 26 (0, 0))) ∧ Aside0 (Below w.heap.size w w'))
   case atStart => exact ⟨(0), aR, H', ⟨Nat.le_refl _⟩, ⟨sB BK259⟩, ⟨sW HB⟩⟩
   case round =>
    clear H'
    try clear c2
    try clear p2
    try clear q2
    try clear hx2
    try clear c4
    try clear c4b0
    try clear c5
    try clear c5b0
    try clear c6
    try clear c6b0
    try clear c6b1
    try clear p6
    try clear hcz7_0 hcz7_1 hcz7_2 hfz7_0 hfz7_1 hfz7_2
    try clear hcz8_0 hcz8_1 hcz8_2 hfz8_0 hfz8_1 hfz8_2
    try clear hcz9_0 hcz9_1 hcz9_2 hfz9_0 hfz9_1 hfz9_2
    try clear hx260_0
    try clear hx260_1
    try clear hx260_2
    try clear hx260_3
    try clear p2
    try clear p260
    try clear q260
    obtain ⟨x6_2, rfl, HA, HK2, BK259, HB⟩ := hrel
    cases gk with
    | zero => exact absurd HA.out (by simp [slotmeshref12_Busy.l1])
    | succ k2 =>
     have H := HA.out
     clear HA
     simp only [slotmeshref12_Busy.l1] at H
     by_cases c10 : x6_2 < (l0_1.length : Int)
     ·rw [if_pos c10] at H
      have c10b0 : decide (x6_2 < (l0_1.length : Int)) = true := decide_eq_true c10
      clear c10
      by_cases c11 : 0 ≤ x6_2
      ·rw [if_pos c11] at H
       have c11b0 : decide (0 ≤ x6_2) = true := decide_eq_true c11
       clear c11
       by_cases c12 : ((rd_T34 l0_1 x6_2).f0.f0) = a1
       ·rw [if_pos c12] at H
        have c12b0 : (((rd_T34 l0_1 x6_2).f0.f0) == a1) = true := beq_iff_eq.mpr c12
        have c12b1 : (((rd_T34 l0_1 x6_2).f0.f0) != a1) = false := bne_eq_false_iff_eq.mpr c12
        clear c12
        obtain rfl := Option.some.inj H
        have hcz13_0 : wr.cell? ⟨gb259, 0, none⟩ = some (.slice A0_0 l0_0.length c0_0) := bt BK259 0
        have hcz13_1 : wr.cell? ⟨gb259, 1, none⟩ = some (.slice A0_1 l0_1.length c0_1) := bt BK259 1
        have hcz13_2 : wr.cell? ⟨gb259, 2, none⟩ = some (.slice A0_2 l0_2.length c0_2) := bt BK259 2
        have hfz13_0 := blk_frozen BK259.out 0
        have hfz13_1 := blk_frozen BK259.out 1
        have hfz13_2 := blk_frozen BK259.out 2
        have p261 : 0 ≤ (x6_2 : Int) := dA
        have q261 : x6_2 < (l0_1.length : Int) := dA
        obtain ⟨ad261, e261, hx261_0, hx261_1, hx261_2, hx261_3, hx261_4⟩ := at_T34 HR0_1.out x6_2 p261 q261
        cases e261
        replace hx261_0 := (HB.out.cell (World.block_lt_of_cell? w _ hx261_0)).trans hx261_0
        replace hx261_1 := (HB.out.cell (World.block_lt_of_cell? w _ hx261_1)).trans hx261_1
        replace hx261_2 := (HB.out.cell (World.block_lt_of_cell? w _ hx261_2)).trans hx261_2
        replace hx261_3 := (HB.out.cell (World.block_lt_of_cell? w _ hx261_3)).trans hx261_3
        replace hx261_4 := (HB.out.cell (World.block_lt_of_cell? w _ hx261_4)).trans hx261_4
        replace p261 := eq_true p261
        replace q261 := eq_true q261
        go_wp2
        go_ret
        exact ⟨aE, sW HB⟩
       rw [if_neg c12] at H
       have c12b0 : (((rd_T34 l0_1 x6_2).f0.f0) == a1) = false := beq_eq_false_iff_ne.mpr c12
       have c12b1 : (((rd_T34 l0_1 x6_2).f0.f0) != a1) = true := bne_iff_ne.mpr c12
       have H' := Aside0.mk H
       clear H
       have hcz14_0 : wr.cell? ⟨gb259, 0, none⟩ = some (.slice A0_0 l0_0.length c0_0) := bt BK259 0
       have hcz14_1 : wr.cell? ⟨gb259, 1, none⟩ = some (.slice A0_1 l0_1.length c0_1) := bt BK259 1
       have hcz14_2 : wr.cell? ⟨gb259, 2, none⟩ = some (.slice A0_2 l0_2.length c0_2) := bt BK259 2
       have hfz14_0 := blk_frozen BK259.out 0
       have hfz14_1 := blk_frozen BK259.out 1
       have hfz14_2 := blk_frozen BK259.out 2
       have p261 : 0 ≤ (x6_2 : Int) := dA
       have q261 : x6_2 < (l0_1.length : Int) := dA
       obtain ⟨ad261, e261, hx261_0, hx261_1, hx261_2, hx261_3, hx261_4⟩ := at_T34 HR0_1.out x6_2 p261 q261
       cases e261
       replace hx261_0 := (HB.out.cell (World.block_lt_of_cell? w _ hx261_0)).trans hx261_0
       replace hx261_1 := (HB.out.cell (World.block_lt_of_cell? w _ hx261_1)).trans hx261_1
       replace hx261_2 := (HB.out.cell (World.block_lt_of_cell? w _ hx261_2)).trans hx261_2
       replace hx261_3 := (HB.out.cell (World.block_lt_of_cell? w _ hx261_3)).trans hx261_3
       replace hx261_4 := (HB.out.cell (World.block_lt_of_cell? w _ hx261_4)).trans hx261_4
       replace p261 := eq_true p261
       replace q261 := eq_true q261
       go_wp2
       go_roundg k2
       case measure => have := HK1.out; have := HK2.out; omega
       case rel => exact ⟨(wrap64 (x6_2 + 1)), aR, H', ⟨by have := HK1.out; have := HK2.out; omega⟩, ⟨sB BK259⟩, ⟨sW HB⟩⟩
      rw [if_neg c11] at H
      exact absurd H (by simp)
     rw [if_neg c10] at H
     have c10b0 : decide (x6_2 < (l0_1.length : Int)) = false := decide_eq_false c10
     clear c10
     obtain rfl := Option.some.inj H
     have hcz15_0 : wr.cell? ⟨gb259, 0, none⟩ = some (.slice A0_0 l0_0.length c0_0) := bt BK259 0
     have hcz15_1 : wr.cell? ⟨gb259, 1, none⟩ = some (.slice A0_1 l0_1.length c0_1) := bt BK259 1
     have hcz15_2 : wr.cell? ⟨gb259, 2, none⟩ = some (.slice A0_2 l0_2.length c0_2) := bt BK259 2
     have hfz15_0 := blk_frozen BK259.out 0
     have hfz15_1 := blk_frozen BK259.out 1
     have hfz15_2 := blk_frozen BK259.out 2
     go_wp2
     go_ret
     exact ⟨aE, sW HB⟩
end Go.Proofs.Ytbpfbdljcdcgnaa.Px
