/- Walks of functions of this seat, written by a program of this workplace out of the translation. -/
import Derived.Test.YtbpfbdljcdcgnaaPx0
import Derived.Test.YtbpfbdljcdcgnaaPx2
import Derived.Test.YtbpfbdljcdcgnaaPx3
import Derived.Test.YtbpfbdljcdcgnaaPx4
import Derived.Test.YtbpfbdljcdcgnaaPx8
namespace Go.Proofs.Ytbpfbdljcdcgnaa.Px
open Go.RowKit Go.Proofs.YtbpfbdljcdcgnaaW.PrintWords Go.Proofs.YtbpfbdljcdcgnaaW.PrintLast Go.Proofs.YtbpfbdljcdcgnaaW.PrintMore
attribute [local go_sem] max2_int min2_int max_two min_two max_three min_three max_four min_four   -- for this text's walks alone
set_option linter.unusedVariables false
set_option linter.unusedSimpArgs false

attribute [local go_sem high] eqA32 eqA34 eqA51
/-! ### slotmeshref12_Same: function 16 -/
mutual
def slotmeshref12_Same.j0 : Nat → Bool → List (S32) → List (S34) → List (S51) → List (S32) → List (S34) → List (S51) → Option (Bool)
 | 0, _, _, _, _, _, _, _ => none
 | k + 1, x32, x125000, x125001, x125002, x126000, x126001, x126002 => if x32 = true then (some false) else (slotmeshref12_Same.l0 k 0 x125000 x125001 x125002 x126000 x126001 x126002)
def slotmeshref12_Same.l0 : Nat → Int → List (S32) → List (S34) → List (S51) → List (S32) → List (S34) → List (S51) → Option (Bool)
 | 0, _, _, _, _, _, _, _ => none
 | k + 1, x5, x125000, x125001, x125002, x126000, x126001, x126002 => if x5 < (x125000.length : Int) then (if 0 ≤ x5 then (if x5 < (x126000.length : Int) then (if ((!(((rd_T32 x125000 x5).f0.f0) == ((rd_T32 x126000 x5).f0.f0)) || (!(((rd_T32 x125000 x5).f0.f1) == ((rd_T32 x126000 x5).f0.f1)))) || (!(((rd_T32 x125000 x5).f1) == ((rd_T32 x126000 x5).f1)) || (!(((rd_T32 x125000 x5).f2) == ((rd_T32 x126000 x5).f2))))) = true then (some false) else (slotmeshref12_Same.l0 k (wrap64 (x5 + 1)) x125000 x125001 x125002 x126000 x126001 x126002)) else (none)) else (none)) else (slotmeshref12_Same.l1 k 0 x125000 x125001 x125002 x126000 x126001 x126002)
def slotmeshref12_Same.l1 : Nat → Int → List (S32) → List (S34) → List (S51) → List (S32) → List (S34) → List (S51) → Option (Bool)
 | 0, _, _, _, _, _, _, _ => none
 | k + 1, x6, x125000, x125001, x125002, x126000, x126001, x126002 => if x6 < (x125001.length : Int) then (if 0 ≤ x6 then (if x6 < (x126001.length : Int) then (if ((!(((rd_T34 x125001 x6).f0.f0) == ((rd_T34 x126001 x6).f0.f0)) || (!(((rd_T34 x125001 x6).f0.f1) == ((rd_T34 x126001 x6).f0.f1)))) || (!(((rd_T34 x125001 x6).f1) == ((rd_T34 x126001 x6).f1)) || (!(((rd_T34 x125001 x6).f2) == ((rd_T34 x126001 x6).f2)) || (!(((rd_T34 x125001 x6).f3) == ((rd_T34 x126001 x6).f3)))))) = true then (some false) else (slotmeshref12_Same.l1 k (wrap64 (x6 + 1)) x125000 x125001 x125002 x126000 x126001 x126002)) else (none)) else (none)) else (slotmeshref12_Same.l2 k 0 x125000 x125001 x125002 x126000 x126001 x126002)
def slotmeshref12_Same.l2 : Nat → Int → List (S32) → List (S34) → List (S51) → List (S32) → List (S34) → List (S51) → Option (Bool)
 | 0, _, _, _, _, _, _, _ => none
 | k + 1, x7, x125000, x125001, x125002, x126000, x126001, x126002 => if x7 < (x125002.length : Int) then (if 0 ≤ x7 then (if x7 < (x126002.length : Int) then (if ((!(((rd_T51 x125002 x7).f0.f0) == ((rd_T51 x126002 x7).f0.f0)) || (!(((rd_T51 x125002 x7).f0.f1) == ((rd_T51 x126002 x7).f0.f1)))) || (!(((rd_T51 x125002 x7).f1) == ((rd_T51 x126002 x7).f1)))) = true then (some false) else (slotmeshref12_Same.l2 k (wrap64 (x7 + 1)) x125000 x125001 x125002 x126000 x126001 x126002)) else (none)) else (none)) else (some true)
end
def slotmeshref12_Same.f (k : Nat) (l0_0 : List (S32)) (l0_1 : List (S34)) (l0_2 : List (S51)) (l1_0 : List (S32)) (l1_1 : List (S34)) (l1_2 : List (S51)) : Option (Bool) := if (l0_0.length : Int) = (l1_0.length : Int) then (if (l0_1.length : Int) = (l1_1.length : Int) then (slotmeshref12_Same.j0 k ((l0_2.length : Int) != (l1_2.length : Int)) l0_0 l0_1 l0_2 l1_0 l1_1 l1_2) else (slotmeshref12_Same.j0 k true l0_0 l0_1 l0_2 l1_0 l1_1 l1_2)) else (slotmeshref12_Same.j0 k true l0_0 l0_1 l0_2 l1_0 l1_1 l1_2)
set_option maxHeartbeats 8000000 in
set_option maxRecDepth 100000 in
theorem slotmeshref12_Same.calls (k : Nat) (A0_0 : Option Addr) (c0_0 : Nat) (l0_0 : List (S32)) (A0_1 : Option Addr) (c0_1 : Nat) (l0_1 : List (S34)) (A0_2 : Option Addr) (c0_2 : Nat) (l0_2 : List (S51)) (A1_0 : Option Addr) (c1_0 : Nat) (l1_0 : List (S32)) (A1_1 : Option Addr) (c1_1 : Nat) (l1_1 : List (S34)) (A1_2 : Option Addr) (c1_2 : Nat) (l1_2 : List (S51)) (r : Bool) (w : World) (hr0_0 : Kd.C k32 w A0_0 l0_0.length l0_0) (hc0_0 : l0_0.length ≤ c0_0) (hr0_1 : Kd.C k34 w A0_1 l0_1.length l0_1) (hc0_1 : l0_1.length ≤ c0_1) (hr0_2 : Kd.C k51 w A0_2 l0_2.length l0_2) (hc0_2 : l0_2.length ≤ c0_2) (hr1_0 : Kd.C k32 w A1_0 l1_0.length l1_0) (hc1_0 : l1_0.length ≤ c1_0) (hr1_1 : Kd.C k34 w A1_1 l1_1.length l1_1) (hc1_1 : l1_1.length ≤ c1_1) (hr1_2 : Kd.C k51 w A1_2 l1_2.length l1_2) (hc1_2 : l1_2.length ≤ c1_2) (h : slotmeshref12_Same.f k l0_0 l0_1 l0_2 l1_0 l1_1 l1_2 = some r) :
  Calls Try.prog 16 #[.agg #[.slice A0_0 l0_0.length c0_0, .slice A0_1 l0_1.length c0_1, .slice A0_2 l0_2.length c0_2], .agg #[.slice A1_0 l1_0.length c1_0, .slice A1_1 l1_1.length c1_1, .slice A1_2 l1_2.length c1_2]] w fun e w' => e = .returned (.bool r) ∧ Below w.heap.size w w' := by
 have hu26 := Try.underlying26
 have hu32 := Try.underlying32
 have hu34 := Try.underlying34
 have hu51 := Try.underlying51
 have HR0_0 := Aside0.mk hr0_0
 have HC0_0 := Aside0.mk hc0_0
 clear hr0_0 hc0_0
 have HR0_1 := Aside0.mk hr0_1
 have HC0_1 := Aside0.mk hc0_1
 clear hr0_1 hc0_1
 have HR0_2 := Aside0.mk hr0_2
 have HC0_2 := Aside0.mk hc0_2
 clear hr0_2 hc0_2
 have HR1_0 := Aside0.mk hr1_0
 have HC1_0 := Aside0.mk hc1_0
 clear hr1_0 hc1_0
 have HR1_1 := Aside0.mk hr1_1
 have HC1_1 := Aside0.mk hc1_1
 clear hr1_1 hc1_1
 have HR1_2 := Aside0.mk hr1_2
 have HC1_2 := Aside0.mk hc1_2
 clear hr1_2 hc1_2
 have HB := Aside0.mk (Below.refl w.heap.size w)
 have H : (if (l0_0.length : Int) = (l1_0.length : Int) then (if (l0_1.length : Int) = (l1_1.length : Int) then (slotmeshref12_Same.j0 k ((l0_2.length : Int) != (l1_2.length : Int)) l0_0 l0_1 l0_2 l1_0 l1_1 l1_2) else (slotmeshref12_Same.j0 k true l0_0 l0_1 l0_2 l1_0 l1_1 l1_2)) else (slotmeshref12_Same.j0 k true l0_0 l0_1 l0_2 l1_0 l1_1 l1_2)) = some r := h
 clear h
 have HC3 := Aside0.mk H
 clear H
 go_enter Try.func16, Try.ntmps16
 go_upto_region 1 with (first | ((with_reducible refine gate_dst (N := 2) rfl ?_); (try (refine gate_guard (by rfl) ?_; dsimp only)); refine bE (N := 2) (cs := #[.slice A0_0 l0_0.length c0_0, .slice A0_1 l0_1.length c0_1, .slice A0_2 l0_2.length c0_2]) (t := 26) ?_; intro gb124 hg w4 hbox hb; have BK124 := Aside0.mk (hbox); have GW124 := gW hg HB; have GE124 := GW124; replace HB := tW HB hb; clear hb hbox hg) | ((with_reducible refine gate_dst (N := 3) rfl ?_); (try (refine gate_guard (by rfl) ?_; dsimp only)); refine bE (N := 3) (cs := #[.slice A1_0 l1_0.length c1_0, .slice A1_1 l1_1.length c1_1, .slice A1_2 l1_2.length c1_2]) (t := 26) ?_; intro gb125 hg w5 hbox hb; have BK125 := Aside0.mk (hbox); have GW125 := gW hg HB; have GE125 := GW125; replace HB := tW HB hb; have NB124_125 := gL hg BK124; have NB125_124 := gG hg BK124; replace BK124 := tB BK124 hb; clear hb hbox hg))
 repeat (go_quiet (first | ((with_reducible refine gate_dst (N := 2) rfl ?_); (try (refine gate_guard (by rfl) ?_; dsimp only)); refine bE (N := 2) (cs := #[.slice A0_0 l0_0.length c0_0, .slice A0_1 l0_1.length c0_1, .slice A0_2 l0_2.length c0_2]) (t := 26) ?_; intro gb124 hg w4 hbox hb; have BK124 := Aside0.mk (hbox); have GW124 := gW hg HB; have GE124 := GW124; replace HB := tW HB hb; clear hb hbox hg) | ((with_reducible refine gate_dst (N := 3) rfl ?_); (try (refine gate_guard (by rfl) ?_; dsimp only)); refine bE (N := 3) (cs := #[.slice A1_0 l1_0.length c1_0, .slice A1_1 l1_1.length c1_1, .slice A1_2 l1_2.length c1_2]) (t := 26) ?_; intro gb125 hg w5 hbox hb; have BK125 := Aside0.mk (hbox); have GW125 := gW hg HB; have GE125 := GW125; replace HB := tW HB hb; have NB124_125 := gL hg BK124; have NB125_124 := gG hg BK124; replace BK124 := tB BK124 hb; clear hb hbox hg)); go_upto_region 1 with (first | ((with_reducible refine gate_dst (N := 2) rfl ?_); (try (refine gate_guard (by rfl) ?_; dsimp only)); refine bE (N := 2) (cs := #[.slice A0_0 l0_0.length c0_0, .slice A0_1 l0_1.length c0_1, .slice A0_2 l0_2.length c0_2]) (t := 26) ?_; intro gb124 hg w4 hbox hb; have BK124 := Aside0.mk (hbox); have GW124 := gW hg HB; have GE124 := GW124; replace HB := tW HB hb; clear hb hbox hg) | ((with_reducible refine gate_dst (N := 3) rfl ?_); (try (refine gate_guard (by rfl) ?_; dsimp only)); refine bE (N := 3) (cs := #[.slice A1_0 l1_0.length c1_0, .slice A1_1 l1_1.length c1_1, .slice A1_2 l1_2.length c1_2]) (t := 26) ?_; intro gb125 hg w5 hbox hb; have BK125 := Aside0.mk (hbox); have GW125 := gW hg HB; have GE125 := GW125; replace HB := tW HB hb; have NB124_125 := gL hg BK124; have NB125_124 := gG hg BK124; replace BK124 := tB BK124 hb; clear hb hbox hg)))
 (try simp only [Act.put, List.setIfInBounds_toArray, List.set_cons_zero, List.set_cons_succ])
 go_cut [32] (fun v32 wc => ∃ (kq : Nat) (x32_2 : Bool), v32 = .bool x32_2 ∧ Aside0 (slotmeshref12_Same.j0 kq x32_2 l0_0 l0_1 l0_2 l1_0 l1_1 l1_2 = some r) ∧ Aside0 (kq ≤ k) ∧ Aside0 (wc.heap[gb124]? = some (.cells #[(.slice A0_0 l0_0.length c0_0), (.slice A0_1 l0_1.length c0_1), (.slice A0_2 l0_2.length c0_2)] 26 (0, 0))) ∧ Aside0 (wc.heap[gb125]? = some (.cells #[(.slice A1_0 l1_0.length c1_0), (.slice A1_1 l1_1.length c1_1), (.slice A1_2 l1_2.length c1_2)] 26 (0, 0))) ∧ Aside0 (Below w.heap.size w wc))
 case first =>
  have H := HC3.out
  clear HC3
  by_cases c6 : (l0_0.length : Int) = (l1_0.length : Int)
  ·rw [if_pos c6] at H
   have c6b0 : ((l0_0.length : Int) == (l1_0.length : Int)) = true := beq_iff_eq.mpr c6
   have c6b1 : ((l0_0.length : Int) != (l1_0.length : Int)) = false := bne_eq_false_iff_eq.mpr c6
   have c6b2 : (l0_0.length == l1_0.length) = true := by first | simpa using c6 | (simp at c6 ⊢; omega)
   clear c6
   (first | rw [c6b0] | (simp only [i64_w, i32_w]; rw [c6b0]) | skip)
   by_cases c7 : (l0_1.length : Int) = (l1_1.length : Int)
   ·rw [if_pos c7] at H
    have c7b0 : ((l0_1.length : Int) == (l1_1.length : Int)) = true := beq_iff_eq.mpr c7
    have c7b1 : ((l0_1.length : Int) != (l1_1.length : Int)) = false := bne_eq_false_iff_eq.mpr c7
    have c7b2 : (l0_1.length == l1_1.length) = true := by first | simpa using c7 | (simp at c7 ⊢; omega)
    clear c7
    have H' := Aside0.mk H
    clear H
    have hnb8 := NB124_125.out
    have hnc8 := NB125_124.out
    have hcz9_0 : w5.cell? ⟨gb124, 0, none⟩ = some (.slice A0_0 l0_0.length c0_0) := bt BK124 0
    have hcz9_1 : w5.cell? ⟨gb124, 1, none⟩ = some (.slice A0_1 l0_1.length c0_1) := bt BK124 1
    have hcz9_2 : w5.cell? ⟨gb124, 2, none⟩ = some (.slice A0_2 l0_2.length c0_2) := bt BK124 2
    have hfz9_0 := blk_frozen BK124.out 0
    have hfz9_1 := blk_frozen BK124.out 1
    have hfz9_2 := blk_frozen BK124.out 2
    have hcz10_0 : w5.cell? ⟨gb125, 0, none⟩ = some (.slice A1_0 l1_0.length c1_0) := bt BK125 0
    have hcz10_1 : w5.cell? ⟨gb125, 1, none⟩ = some (.slice A1_1 l1_1.length c1_1) := bt BK125 1
    have hcz10_2 : w5.cell? ⟨gb125, 2, none⟩ = some (.slice A1_2 l1_2.length c1_2) := bt BK125 2
    have hfz10_0 := blk_frozen BK125.out 0
    have hfz10_1 := blk_frozen BK125.out 1
    have hfz10_2 := blk_frozen BK125.out 2
    go_wp2
    repeat (go_quiet (fail); try go_wp2)
    go_meet
    case rel => exact ⟨_, (((l0_2.length : Int) != (l1_2.length : Int))), aR, H', ⟨by first | omega | exact Nat.le_refl _⟩, ⟨sB BK124⟩, ⟨sB BK125⟩, ⟨sW HB⟩⟩
   rw [if_neg c7] at H
   have c7b0 : ((l0_1.length : Int) == (l1_1.length : Int)) = false := beq_eq_false_iff_ne.mpr c7
   have c7b1 : ((l0_1.length : Int) != (l1_1.length : Int)) = true := bne_iff_ne.mpr c7
   have c7b2 : (l0_1.length == l1_1.length) = false := by first | simpa using c7 | (simp at c7 ⊢; omega)
   have H' := Aside0.mk H
   clear H
   have hnb11 := NB124_125.out
   have hnc11 := NB125_124.out
   have hcz12_0 : w5.cell? ⟨gb124, 0, none⟩ = some (.slice A0_0 l0_0.length c0_0) := bt BK124 0
   have hcz12_1 : w5.cell? ⟨gb124, 1, none⟩ = some (.slice A0_1 l0_1.length c0_1) := bt BK124 1
   have hcz12_2 : w5.cell? ⟨gb124, 2, none⟩ = some (.slice A0_2 l0_2.length c0_2) := bt BK124 2
   have hfz12_0 := blk_frozen BK124.out 0
   have hfz12_1 := blk_frozen BK124.out 1
   have hfz12_2 := blk_frozen BK124.out 2
   have hcz13_0 : w5.cell? ⟨gb125, 0, none⟩ = some (.slice A1_0 l1_0.length c1_0) := bt BK125 0
   have hcz13_1 : w5.cell? ⟨gb125, 1, none⟩ = some (.slice A1_1 l1_1.length c1_1) := bt BK125 1
   have hcz13_2 : w5.cell? ⟨gb125, 2, none⟩ = some (.slice A1_2 l1_2.length c1_2) := bt BK125 2
   have hfz13_0 := blk_frozen BK125.out 0
   have hfz13_1 := blk_frozen BK125.out 1
   have hfz13_2 := blk_frozen BK125.out 2
   go_wp2
   repeat (go_quiet (fail); try go_wp2)
   go_meet
   case rel => exact ⟨_, (true), aR, H', ⟨by first | omega | exact Nat.le_refl _⟩, ⟨sB BK124⟩, ⟨sB BK125⟩, ⟨sW HB⟩⟩
  rw [if_neg c6] at H
  have c6b0 : ((l0_0.length : Int) == (l1_0.length : Int)) = false := beq_eq_false_iff_ne.mpr c6
  have c6b1 : ((l0_0.length : Int) != (l1_0.length : Int)) = true := bne_iff_ne.mpr c6
  have c6b2 : (l0_0.length == l1_0.length) = false := by first | simpa using c6 | (simp at c6 ⊢; omega)
  (first | rw [c6b0] | (simp only [i64_w, i32_w]; rw [c6b0]) | skip)
  have H' := Aside0.mk H
  clear H
  have hnb14 := NB124_125.out
  have hnc14 := NB125_124.out
  have hcz15_0 : w5.cell? ⟨gb124, 0, none⟩ = some (.slice A0_0 l0_0.length c0_0) := bt BK124 0
  have hcz15_1 : w5.cell? ⟨gb124, 1, none⟩ = some (.slice A0_1 l0_1.length c0_1) := bt BK124 1
  have hcz15_2 : w5.cell? ⟨gb124, 2, none⟩ = some (.slice A0_2 l0_2.length c0_2) := bt BK124 2
  have hfz15_0 := blk_frozen BK124.out 0
  have hfz15_1 := blk_frozen BK124.out 1
  have hfz15_2 := blk_frozen BK124.out 2
  have hcz16_0 : w5.cell? ⟨gb125, 0, none⟩ = some (.slice A1_0 l1_0.length c1_0) := bt BK125 0
  have hcz16_1 : w5.cell? ⟨gb125, 1, none⟩ = some (.slice A1_1 l1_1.length c1_1) := bt BK125 1
  have hcz16_2 : w5.cell? ⟨gb125, 2, none⟩ = some (.slice A1_2 l1_2.length c1_2) := bt BK125 2
  have hfz16_0 := blk_frozen BK125.out 0
  have hfz16_1 := blk_frozen BK125.out 1
  have hfz16_2 := blk_frozen BK125.out 2
  go_wp2
  repeat (go_quiet (fail); try go_wp2)
  go_meet
  case rel => exact ⟨_, (true), aR, H', ⟨by first | omega | exact Nat.le_refl _⟩, ⟨sB BK124⟩, ⟨sB BK125⟩, ⟨sW HB⟩⟩
 case rest =>
  clear HC3
  try clear c1
  try clear p2
  try clear c6
  try clear c6b0
  try clear c6b1
  try clear c6b2
  try clear c7
  try clear c7b0
  try clear c7b1
  try clear c7b2
  try clear c8
  try clear c11
  try clear c14
  try clear c16
  try clear hcz10_0 hcz10_1 hcz10_2 hfz10_0 hfz10_1 hfz10_2
  try clear hcz12_0 hcz12_1 hcz12_2 hfz12_0 hfz12_1 hfz12_2
  try clear hcz13_0 hcz13_1 hcz13_2 hfz13_0 hfz13_1 hfz13_2
  try clear hcz15_0 hcz15_1 hcz15_2 hfz15_0 hfz15_1 hfz15_2
  try clear hcz16_0 hcz16_1 hcz16_2 hfz16_0 hfz16_1 hfz16_2
  try clear hcz9_0 hcz9_1 hcz9_2 hfz9_0 hfz9_1 hfz9_2
  obtain ⟨kq, x32_2, rfl, HA, HJ2, BK124, BK125, HB⟩ := hcut
  cases kq with
  | zero => exact absurd HA.out (by simp [slotmeshref12_Same.j0])
  | succ kj2 =>
   have H := HA.out
   clear HA
   simp only [slotmeshref12_Same.j0] at H
   by_cases c17 : x32_2 = true
   ·subst c17
    have H1 : (some false) = some r := by rw [if_pos rfl] at H; exact H
    clear H
    have H := H1
    clear H1
    obtain rfl := Option.some.inj H
    go_wp2
    repeat (go_quiet (fail); try go_wp2)
    go_ret
    exact ⟨aE, sW HB⟩
   replace c17 := Bool.eq_false_iff.mpr c17
   subst c17
   have H1 : (slotmeshref12_Same.l0 kj2 0 l0_0 l0_1 l0_2 l1_0 l1_1 l1_2) = some r := by rw [if_neg (show ¬ (false = true) by decide)] at H; exact H
   clear H
   have H := H1
   clear H1
   have H' := Aside0.mk H
   clear H
   go_wp2
   repeat (go_quiet (fail); try go_wp2)
   go_loopg [5] kj2 (fun kq v5 w' => ∃ (x5_2 : Int), v5 = .int .i64 x5_2 ∧ Aside0 (slotmeshref12_Same.l0 kq x5_2 l0_0 l0_1 l0_2 l1_0 l1_1 l1_2 = some r) ∧ Aside0 (kq ≤ kj2) ∧ Aside0 (w'.heap[gb124]? = some (.cells #[(.slice A0_0 l0_0.length c0_0), (.slice A0_1 l0_1.length c0_1), (.slice A0_2 l0_2.length c0_2)] 26 (0, 0))) ∧ Aside0 (w'.heap[gb125]? = some (.cells #[(.slice A1_0 l1_0.length c1_0), (.slice A1_1 l1_1.length c1_1), (.slice A1_2 l1_2.length c1_2)] 26 (0, 0))) ∧ Aside0 (Below w.heap.size w w'))
   case atStart => exact ⟨(0), aR, H', ⟨Nat.le_refl _⟩, ⟨sB BK124⟩, ⟨sB BK125⟩, ⟨sW HB⟩⟩
   case round =>
    clear H'
    try clear c1
    try clear p2
    try clear c6
    try clear c6b0
    try clear c6b1
    try clear c6b2
    try clear c7
    try clear c7b0
    try clear c7b1
    try clear c7b2
    try clear c8
    try clear c11
    try clear c14
    try clear c16
    try clear c17
    try clear hcz10_0 hcz10_1 hcz10_2 hfz10_0 hfz10_1 hfz10_2
    try clear hcz12_0 hcz12_1 hcz12_2 hfz12_0 hfz12_1 hfz12_2
    try clear hcz13_0 hcz13_1 hcz13_2 hfz13_0 hfz13_1 hfz13_2
    try clear hcz15_0 hcz15_1 hcz15_2 hfz15_0 hfz15_1 hfz15_2
    try clear hcz16_0 hcz16_1 hcz16_2 hfz16_0 hfz16_1 hfz16_2
    try clear hcz9_0 hcz9_1 hcz9_2 hfz9_0 hfz9_1 hfz9_2
    try clear p2
    obtain ⟨x5_2, rfl, HA, HK2, BK124, BK125, HB⟩ := hrel
    cases gk with
    | zero => exact absurd HA.out (by simp [slotmeshref12_Same.l0])
    | succ k2 =>
     have H := HA.out
     clear HA
     simp only [slotmeshref12_Same.l0] at H
     by_cases c18 : x5_2 < (l0_0.length : Int)
     ·rw [if_pos c18] at H
      have c18b0 : decide (x5_2 < (l0_0.length : Int)) = true := decide_eq_true c18
      clear c18
      by_cases c19 : 0 ≤ x5_2
      ·rw [if_pos c19] at H
       have c19b0 : decide (0 ≤ x5_2) = true := decide_eq_true c19
       clear c19
       by_cases c20 : x5_2 < (l1_0.length : Int)
       ·rw [if_pos c20] at H
        have c20b0 : decide (x5_2 < (l1_0.length : Int)) = true := decide_eq_true c20
        clear c20
        by_cases c21 : ((!(((rd_T32 l0_0 x5_2).f0.f0) == ((rd_T32 l1_0 x5_2).f0.f0)) || (!(((rd_T32 l0_0 x5_2).f0.f1) == ((rd_T32 l1_0 x5_2).f0.f1)))) || (!(((rd_T32 l0_0 x5_2).f1) == ((rd_T32 l1_0 x5_2).f1)) || (!(((rd_T32 l0_0 x5_2).f2) == ((rd_T32 l1_0 x5_2).f2))))) = true
        ·rw [if_pos c21] at H
         have c21b0 : ((!(((rd_T32 l0_0 x5_2).f0.f0) == ((rd_T32 l1_0 x5_2).f0.f0)) || (!(((rd_T32 l0_0 x5_2).f0.f1) == ((rd_T32 l1_0 x5_2).f0.f1)))) || (!(((rd_T32 l0_0 x5_2).f1) == ((rd_T32 l1_0 x5_2).f1)) || (!(((rd_T32 l0_0 x5_2).f2) == ((rd_T32 l1_0 x5_2).f2))))) = true := c21
         clear c21
         obtain rfl := Option.some.inj H
         have hnb22 := NB124_125.out
         have hnc22 := NB125_124.out
         have hcz23_0 : wr.cell? ⟨gb124, 0, none⟩ = some (.slice A0_0 l0_0.length c0_0) := bt BK124 0
         have hcz23_1 : wr.cell? ⟨gb124, 1, none⟩ = some (.slice A0_1 l0_1.length c0_1) := bt BK124 1
         have hcz23_2 : wr.cell? ⟨gb124, 2, none⟩ = some (.slice A0_2 l0_2.length c0_2) := bt BK124 2
         have hfz23_0 := blk_frozen BK124.out 0
         have hfz23_1 := blk_frozen BK124.out 1
         have hfz23_2 := blk_frozen BK124.out 2
         have p126 : 0 ≤ (x5_2 : Int) := dA
         have q126 : x5_2 < (l0_0.length : Int) := dA
         obtain ⟨ad126, e126, hx126_0, hx126_1, hx126_2, hx126_3⟩ := at_T32 HR0_0.out x5_2 p126 q126
         cases e126
         replace hx126_0 := (HB.out.cell (World.block_lt_of_cell? w _ hx126_0)).trans hx126_0
         replace hx126_1 := (HB.out.cell (World.block_lt_of_cell? w _ hx126_1)).trans hx126_1
         replace hx126_2 := (HB.out.cell (World.block_lt_of_cell? w _ hx126_2)).trans hx126_2
         replace hx126_3 := (HB.out.cell (World.block_lt_of_cell? w _ hx126_3)).trans hx126_3
         replace p126 := eq_true p126
         replace q126 := eq_true q126
         have hcz24_0 : wr.cell? ⟨gb125, 0, none⟩ = some (.slice A1_0 l1_0.length c1_0) := bt BK125 0
         have hcz24_1 : wr.cell? ⟨gb125, 1, none⟩ = some (.slice A1_1 l1_1.length c1_1) := bt BK125 1
         have hcz24_2 : wr.cell? ⟨gb125, 2, none⟩ = some (.slice A1_2 l1_2.length c1_2) := bt BK125 2
         have hfz24_0 := blk_frozen BK125.out 0
         have hfz24_1 := blk_frozen BK125.out 1
         have hfz24_2 := blk_frozen BK125.out 2
         have p127 : 0 ≤ (x5_2 : Int) := dA
         have q127 : x5_2 < (l1_0.length : Int) := dA
         obtain ⟨ad127, e127, hx127_0, hx127_1, hx127_2, hx127_3⟩ := at_T32 HR1_0.out x5_2 p127 q127
         cases e127
         replace hx127_0 := (HB.out.cell (World.block_lt_of_cell? w _ hx127_0)).trans hx127_0
         replace hx127_1 := (HB.out.cell (World.block_lt_of_cell? w _ hx127_1)).trans hx127_1
         replace hx127_2 := (HB.out.cell (World.block_lt_of_cell? w _ hx127_2)).trans hx127_2
         replace hx127_3 := (HB.out.cell (World.block_lt_of_cell? w _ hx127_3)).trans hx127_3
         replace p127 := eq_true p127
         replace q127 := eq_true q127
         go_wp2
         repeat (go_quiet (fail); try go_wp2)
         go_ret
         exact ⟨aE, sW HB⟩
        rw [if_neg c21] at H
        have c21b0 : ((!(((rd_T32 l0_0 x5_2).f0.f0) == ((rd_T32 l1_0 x5_2).f0.f0)) || (!(((rd_T32 l0_0 x5_2).f0.f1) == ((rd_T32 l1_0 x5_2).f0.f1)))) || (!(((rd_T32 l0_0 x5_2).f1) == ((rd_T32 l1_0 x5_2).f1)) || (!(((rd_T32 l0_0 x5_2).f2) == ((rd_T32 l1_0 x5_2).f2))))) = false := by simpa using c21
        clear c21
        have H' := Aside0.mk H
        clear H
        have hnb25 := NB124_125.out
        have hnc25 := NB125_124.out
        have hcz26_0 : wr.cell? ⟨gb124, 0, none⟩ = some (.slice A0_0 l0_0.length c0_0) := bt BK124 0
        have hcz26_1 : wr.cell? ⟨gb124, 1, none⟩ = some (.slice A0_1 l0_1.length c0_1) := bt BK124 1
        have hcz26_2 : wr.cell? ⟨gb124, 2, none⟩ = some (.slice A0_2 l0_2.length c0_2) := bt BK124 2
        have hfz26_0 := blk_frozen BK124.out 0
        have hfz26_1 := blk_frozen BK124.out 1
        have hfz26_2 := blk_frozen BK124.out 2
        have p126 : 0 ≤ (x5_2 : Int) := dA
        have q126 : x5_2 < (l0_0.length : Int) := dA
        obtain ⟨ad126, e126, hx126_0, hx126_1, hx126_2, hx126_3⟩ := at_T32 HR0_0.out x5_2 p126 q126
        cases e126
        replace hx126_0 := (HB.out.cell (World.block_lt_of_cell? w _ hx126_0)).trans hx126_0
        replace hx126_1 := (HB.out.cell (World.block_lt_of_cell? w _ hx126_1)).trans hx126_1
        replace hx126_2 := (HB.out.cell (World.block_lt_of_cell? w _ hx126_2)).trans hx126_2
        replace hx126_3 := (HB.out.cell (World.block_lt_of_cell? w _ hx126_3)).trans hx126_3
        replace p126 := eq_true p126
        replace q126 := eq_true q126
        have hcz27_0 : wr.cell? ⟨gb125, 0, none⟩ = some (.slice A1_0 l1_0.length c1_0) := bt BK125 0
        have hcz27_1 : wr.cell? ⟨gb125, 1, none⟩ = some (.slice A1_1 l1_1.length c1_1) := bt BK125 1
        have hcz27_2 : wr.cell? ⟨gb125, 2, none⟩ = some (.slice A1_2 l1_2.length c1_2) := bt BK125 2
        have hfz27_0 := blk_frozen BK125.out 0
        have hfz27_1 := blk_frozen BK125.out 1
        have hfz27_2 := blk_frozen BK125.out 2
        have p127 : 0 ≤ (x5_2 : Int) := dA
        have q127 : x5_2 < (l1_0.length : Int) := dA
        obtain ⟨ad127, e127, hx127_0, hx127_1, hx127_2, hx127_3⟩ := at_T32 HR1_0.out x5_2 p127 q127
        cases e127
        replace hx127_0 := (HB.out.cell (World.block_lt_of_cell? w _ hx127_0)).trans hx127_0
        replace hx127_1 := (HB.out.cell (World.block_lt_of_cell? w _ hx127_1)).trans hx127_1
        replace hx127_2 := (HB.out.cell (World.block_lt_of_cell? w _ hx127_2)).trans hx127_2
        replace hx127_3 := (HB.out.cell (World.block_lt_of_cell? w _ hx127_3)).trans hx127_3
        replace p127 := eq_true p127
        replace q127 := eq_true q127
        go_wp2
        repeat (go_quiet (fail); try go_wp2)
        go_roundg k2
        case measure => have := HJ2.out; have := HK2.out; omega
        case rel => exact ⟨(wrap64 (x5_2 + 1)), aR, H', ⟨by have := HJ2.out; have := HK2.out; omega⟩, ⟨sB BK124⟩, ⟨sB BK125⟩, ⟨sW HB⟩⟩
       rw [if_neg c20] at H
       exact absurd H (by simp)
      rw [if_neg c19] at H
      exact absurd H (by simp)
     rw [if_neg c18] at H
     have c18b0 : decide (x5_2 < (l0_0.length : Int)) = false := decide_eq_false c18
     clear c18
     have H' := Aside0.mk H
     clear H
     have hnb28 := NB124_125.out
     have hnc28 := NB125_124.out
     have hcz29_0 : wr.cell? ⟨gb124, 0, none⟩ = some (.slice A0_0 l0_0.length c0_0) := bt BK124 0
     have hcz29_1 : wr.cell? ⟨gb124, 1, none⟩ = some (.slice A0_1 l0_1.length c0_1) := bt BK124 1
     have hcz29_2 : wr.cell? ⟨gb124, 2, none⟩ = some (.slice A0_2 l0_2.length c0_2) := bt BK124 2
     have hfz29_0 := blk_frozen BK124.out 0
     have hfz29_1 := blk_frozen BK124.out 1
     have hfz29_2 := blk_frozen BK124.out 2
     go_wp2
     repeat (go_quiet (fail); try go_wp2)
     go_loopg [6] k2 (fun kq v6 w' => ∃ (x6_3 : Int), v6 = .int .i64 x6_3 ∧ Aside0 (slotmeshref12_Same.l1 kq x6_3 l0_0 l0_1 l0_2 l1_0 l1_1 l1_2 = some r) ∧ Aside0 (kq ≤ k2) ∧ Aside0 (w'.heap[gb124]? = some (.cells #[(.slice A0_0 l0_0.length c0_0), (.slice A0_1 l0_1.length c0_1), (.slice A0_2 l0_2.length c0_2)] 26 (0, 0))) ∧ Aside0 (w'.heap[gb125]? = some (.cells #[(.slice A1_0 l1_0.length c1_0), (.slice A1_1 l1_1.length c1_1), (.slice A1_2 l1_2.length c1_2)] 26 (0, 0))) ∧ Aside0 (Below w.heap.size w w'))
     case atStart => exact ⟨(0), aR, H', ⟨Nat.le_refl _⟩, ⟨sB BK124⟩, ⟨sB BK125⟩, ⟨sW HB⟩⟩
     case round =>
      clear H'
      try clear c1
      try clear p1
      try clear q1
      try clear hx1
      try clear c2
      try clear p2
      try clear c6
      try clear c6b0
      try clear c6b1
      try clear c6b2
      try clear p6
      try clear c7
      try clear c7b0
      try clear c7b1
      try clear c7b2
      try clear c8
      try clear c11
      try clear p12
      try clear q12
      try clear hx12
      try clear c14
      try clear c16
      try clear c17
      try clear c18
      try clear c18b0
      try clear c19
      try clear c19b0
      try clear c20
      try clear c20b0
      try clear c21
      try clear c21b0
      try clear c22
      try clear c25
      try clear c28
      try clear hcz10_0 hcz10_1 hcz10_2 hfz10_0 hfz10_1 hfz10_2
      try clear hcz12_0 hcz12_1 hcz12_2 hfz12_0 hfz12_1 hfz12_2
      try clear hcz13_0 hcz13_1 hcz13_2 hfz13_0 hfz13_1 hfz13_2
      try clear hcz15_0 hcz15_1 hcz15_2 hfz15_0 hfz15_1 hfz15_2
      try clear hcz16_0 hcz16_1 hcz16_2 hfz16_0 hfz16_1 hfz16_2
      try clear hcz23_0 hcz23_1 hcz23_2 hfz23_0 hfz23_1 hfz23_2
      try clear hcz24_0 hcz24_1 hcz24_2 hfz24_0 hfz24_1 hfz24_2
      try clear hcz26_0 hcz26_1 hcz26_2 hfz26_0 hfz26_1 hfz26_2
      try clear hcz27_0 hcz27_1 hcz27_2 hfz27_0 hfz27_1 hfz27_2
      try clear hcz29_0 hcz29_1 hcz29_2 hfz29_0 hfz29_1 hfz29_2
      try clear hcz9_0 hcz9_1 hcz9_2 hfz9_0 hfz9_1 hfz9_2
      try clear hx126_0
      try clear hx126_1
      try clear hx126_2
      try clear hx126_3
      try clear hx127_0
      try clear hx127_1
      try clear hx127_2
      try clear hx127_3
      try clear p126
      try clear p127
      try clear p2
      try clear q126
      try clear q127
      obtain ⟨x6_3, rfl, HA, HK3, BK124, BK125, HB⟩ := hrel
      cases gk with
      | zero => exact absurd HA.out (by simp [slotmeshref12_Same.l1])
      | succ k3 =>
       have H := HA.out
       clear HA
       simp only [slotmeshref12_Same.l1] at H
       by_cases c30 : x6_3 < (l0_1.length : Int)
       ·rw [if_pos c30] at H
        have c30b0 : decide (x6_3 < (l0_1.length : Int)) = true := decide_eq_true c30
        clear c30
        by_cases c31 : 0 ≤ x6_3
        ·rw [if_pos c31] at H
         have c31b0 : decide (0 ≤ x6_3) = true := decide_eq_true c31
         clear c31
         by_cases c32 : x6_3 < (l1_1.length : Int)
         ·rw [if_pos c32] at H
          have c32b0 : decide (x6_3 < (l1_1.length : Int)) = true := decide_eq_true c32
          clear c32
          by_cases c33 : ((!(((rd_T34 l0_1 x6_3).f0.f0) == ((rd_T34 l1_1 x6_3).f0.f0)) || (!(((rd_T34 l0_1 x6_3).f0.f1) == ((rd_T34 l1_1 x6_3).f0.f1)))) || (!(((rd_T34 l0_1 x6_3).f1) == ((rd_T34 l1_1 x6_3).f1)) || (!(((rd_T34 l0_1 x6_3).f2) == ((rd_T34 l1_1 x6_3).f2)) || (!(((rd_T34 l0_1 x6_3).f3) == ((rd_T34 l1_1 x6_3).f3)))))) = true
          ·rw [if_pos c33] at H
           have c33b0 : ((!(((rd_T34 l0_1 x6_3).f0.f0) == ((rd_T34 l1_1 x6_3).f0.f0)) || (!(((rd_T34 l0_1 x6_3).f0.f1) == ((rd_T34 l1_1 x6_3).f0.f1)))) || (!(((rd_T34 l0_1 x6_3).f1) == ((rd_T34 l1_1 x6_3).f1)) || (!(((rd_T34 l0_1 x6_3).f2) == ((rd_T34 l1_1 x6_3).f2)) || (!(((rd_T34 l0_1 x6_3).f3) == ((rd_T34 l1_1 x6_3).f3)))))) = true := c33
           clear c33
           obtain rfl := Option.some.inj H
           have hnb34 := NB124_125.out
           have hnc34 := NB125_124.out
           have hcz35_0 : wr.cell? ⟨gb124, 0, none⟩ = some (.slice A0_0 l0_0.length c0_0) := bt BK124 0
           have hcz35_1 : wr.cell? ⟨gb124, 1, none⟩ = some (.slice A0_1 l0_1.length c0_1) := bt BK124 1
           have hcz35_2 : wr.cell? ⟨gb124, 2, none⟩ = some (.slice A0_2 l0_2.length c0_2) := bt BK124 2
           have hfz35_0 := blk_frozen BK124.out 0
           have hfz35_1 := blk_frozen BK124.out 1
           have hfz35_2 := blk_frozen BK124.out 2
           have p128 : 0 ≤ (x6_3 : Int) := dA
           have q128 : x6_3 < (l0_1.length : Int) := dA
           obtain ⟨ad128, e128, hx128_0, hx128_1, hx128_2, hx128_3, hx128_4⟩ := at_T34 HR0_1.out x6_3 p128 q128
           cases e128
           replace hx128_0 := (HB.out.cell (World.block_lt_of_cell? w _ hx128_0)).trans hx128_0
           replace hx128_1 := (HB.out.cell (World.block_lt_of_cell? w _ hx128_1)).trans hx128_1
           replace hx128_2 := (HB.out.cell (World.block_lt_of_cell? w _ hx128_2)).trans hx128_2
           replace hx128_3 := (HB.out.cell (World.block_lt_of_cell? w _ hx128_3)).trans hx128_3
           replace hx128_4 := (HB.out.cell (World.block_lt_of_cell? w _ hx128_4)).trans hx128_4
           replace p128 := eq_true p128
           replace q128 := eq_true q128
           have hcz36_0 : wr.cell? ⟨gb125, 0, none⟩ = some (.slice A1_0 l1_0.length c1_0) := bt BK125 0
           have hcz36_1 : wr.cell? ⟨gb125, 1, none⟩ = some (.slice A1_1 l1_1.length c1_1) := bt BK125 1
           have hcz36_2 : wr.cell? ⟨gb125, 2, none⟩ = some (.slice A1_2 l1_2.length c1_2) := bt BK125 2
           have hfz36_0 := blk_frozen BK125.out 0
           have hfz36_1 := blk_frozen BK125.out 1
           have hfz36_2 := blk_frozen BK125.out 2
           have p129 : 0 ≤ (x6_3 : Int) := dA
           have q129 : x6_3 < (l1_1.length : Int) := dA
           obtain ⟨ad129, e129, hx129_0, hx129_1, hx129_2, hx129_3, hx129_4⟩ := at_T34 HR1_1.out x6_3 p129 q129
           cases e129
           replace hx129_0 := (HB.out.cell (World.block_lt_of_cell? w _ hx129_0)).trans hx129_0
           replace hx129_1 := (HB.out.cell (World.block_lt_of_cell? w _ hx129_1)).trans hx129_1
           replace hx129_2 := (HB.out.cell (World.block_lt_of_cell? w _ hx129_2)).trans hx129_2
           replace hx129_3 := (HB.out.cell (World.block_lt_of_cell? w _ hx129_3)).trans hx129_3
           replace hx129_4 := (HB.out.cell (World.block_lt_of_cell? w _ hx129_4)).trans hx129_4
           replace p129 := eq_true p129
           replace q129 := eq_true q129
           go_wp2
           repeat (go_quiet (fail); try go_wp2)
           go_ret
           exact ⟨aE, sW HB⟩
          rw [if_neg c33] at H
          have c33b0 : ((!(((rd_T34 l0_1 x6_3).f0.f0) == ((rd_T34 l1_1 x6_3).f0.f0)) || (!(((rd_T34 l0_1 x6_3).f0.f1) == ((rd_T34 l1_1 x6_3).f0.f1)))) || (!(((rd_T34 l0_1 x6_3).f1) == ((rd_T34 l1_1 x6_3).f1)) || (!(((rd_T34 l0_1 x6_3).f2) == ((rd_T34 l1_1 x6_3).f2)) || (!(((rd_T34 l0_1 x6_3).f3) == ((rd_T34 l1_1 x6_3).f3)))))) = false := by simpa using c33
          clear c33
          have H' := Aside0.mk H
          clear H
          have hnb37 := NB124_125.out
          have hnc37 := NB125_124.out
          have hcz38_0 : wr.cell? ⟨gb124, 0, none⟩ = some (.slice A0_0 l0_0.length c0_0) := bt BK124 0
          have hcz38_1 : wr.cell? ⟨gb124, 1, none⟩ = some (.slice A0_1 l0_1.length c0_1) := bt BK124 1
          have hcz38_2 : wr.cell? ⟨gb124, 2, none⟩ = some (.slice A0_2 l0_2.length c0_2) := bt BK124 2
          have hfz38_0 := blk_frozen BK124.out 0
          have hfz38_1 := blk_frozen BK124.out 1
          have hfz38_2 := blk_frozen BK124.out 2
          have p128 : 0 ≤ (x6_3 : Int) := dA
          have q128 : x6_3 < (l0_1.length : Int) := dA
          obtain ⟨ad128, e128, hx128_0, hx128_1, hx128_2, hx128_3, hx128_4⟩ := at_T34 HR0_1.out x6_3 p128 q128
          cases e128
          replace hx128_0 := (HB.out.cell (World.block_lt_of_cell? w _ hx128_0)).trans hx128_0
          replace hx128_1 := (HB.out.cell (World.block_lt_of_cell? w _ hx128_1)).trans hx128_1
          replace hx128_2 := (HB.out.cell (World.block_lt_of_cell? w _ hx128_2)).trans hx128_2
          replace hx128_3 := (HB.out.cell (World.block_lt_of_cell? w _ hx128_3)).trans hx128_3
          replace hx128_4 := (HB.out.cell (World.block_lt_of_cell? w _ hx128_4)).trans hx128_4
          replace p128 := eq_true p128
          replace q128 := eq_true q128
          have hcz39_0 : wr.cell? ⟨gb125, 0, none⟩ = some (.slice A1_0 l1_0.length c1_0) := bt BK125 0
          have hcz39_1 : wr.cell? ⟨gb125, 1, none⟩ = some (.slice A1_1 l1_1.length c1_1) := bt BK125 1
          have hcz39_2 : wr.cell? ⟨gb125, 2, none⟩ = some (.slice A1_2 l1_2.length c1_2) := bt BK125 2
          have hfz39_0 := blk_frozen BK125.out 0
          have hfz39_1 := blk_frozen BK125.out 1
          have hfz39_2 := blk_frozen BK125.out 2
          have p129 : 0 ≤ (x6_3 : Int) := dA
          have q129 : x6_3 < (l1_1.length : Int) := dA
          obtain ⟨ad129, e129, hx129_0, hx129_1, hx129_2, hx129_3, hx129_4⟩ := at_T34 HR1_1.out x6_3 p129 q129
          cases e129
          replace hx129_0 := (HB.out.cell (World.block_lt_of_cell? w _ hx129_0)).trans hx129_0
          replace hx129_1 := (HB.out.cell (World.block_lt_of_cell? w _ hx129_1)).trans hx129_1
          replace hx129_2 := (HB.out.cell (World.block_lt_of_cell? w _ hx129_2)).trans hx129_2
          replace hx129_3 := (HB.out.cell (World.block_lt_of_cell? w _ hx129_3)).trans hx129_3
          replace hx129_4 := (HB.out.cell (World.block_lt_of_cell? w _ hx129_4)).trans hx129_4
          replace p129 := eq_true p129
          replace q129 := eq_true q129
          go_wp2
          repeat (go_quiet (fail); try go_wp2)
          go_roundg k3
          case measure => have := HJ2.out; have := HK2.out; have := HK3.out; omega
          case rel => exact ⟨(wrap64 (x6_3 + 1)), aR, H', ⟨by have := HJ2.out; have := HK2.out; have := HK3.out; omega⟩, ⟨sB BK124⟩, ⟨sB BK125⟩, ⟨sW HB⟩⟩
         rw [if_neg c32] at H
         exact absurd H (by simp)
        rw [if_neg c31] at H
        exact absurd H (by simp)
       rw [if_neg c30] at H
       have c30b0 : decide (x6_3 < (l0_1.length : Int)) = false := decide_eq_false c30
       clear c30
       have H' := Aside0.mk H
       clear H
       have hnb40 := NB124_125.out
       have hnc40 := NB125_124.out
       have hcz41_0 : wr.cell? ⟨gb124, 0, none⟩ = some (.slice A0_0 l0_0.length c0_0) := bt BK124 0
       have hcz41_1 : wr.cell? ⟨gb124, 1, none⟩ = some (.slice A0_1 l0_1.length c0_1) := bt BK124 1
       have hcz41_2 : wr.cell? ⟨gb124, 2, none⟩ = some (.slice A0_2 l0_2.length c0_2) := bt BK124 2
       have hfz41_0 := blk_frozen BK124.out 0
       have hfz41_1 := blk_frozen BK124.out 1
       have hfz41_2 := blk_frozen BK124.out 2
       go_wp2
       repeat (go_quiet (fail); try go_wp2)
       go_loopg [7] k3 (fun kq v7 w' => ∃ (x7_4 : Int), v7 = .int .i64 x7_4 ∧ Aside0 (slotmeshref12_Same.l2 kq x7_4 l0_0 l0_1 l0_2 l1_0 l1_1 l1_2 = some r) ∧ Aside0 (kq ≤ k3) ∧ Aside0 (w'.heap[gb124]? = some (.cells #[(.slice A0_0 l0_0.length c0_0), (.slice A0_1 l0_1.length c0_1), (.slice A0_2 l0_2.length c0_2)] 26 (0, 0))) ∧ Aside0 (w'.heap[gb125]? = some (.cells #[(.slice A1_0 l1_0.length c1_0), (.slice A1_1 l1_1.length c1_1), (.slice A1_2 l1_2.length c1_2)] 26 (0, 0))) ∧ Aside0 (Below w.heap.size w w'))
       case atStart => exact ⟨(0), aR, H', ⟨Nat.le_refl _⟩, ⟨sB BK124⟩, ⟨sB BK125⟩, ⟨sW HB⟩⟩
       case round =>
        clear H'
        try clear c1
        try clear p1
        try clear q1
        try clear hx1
        try clear c2
        try clear p2
        try clear c3
        try clear c4
        try clear c6
        try clear c6b0
        try clear c6b1
        try clear c6b2
        try clear p6
        try clear c7
        try clear c7b0
        try clear c7b1
        try clear c7b2
        try clear c8
        try clear c11
        try clear p12
        try clear q12
        try clear hx12
        try clear c14
        try clear c16
        try clear c17
        try clear c18
        try clear c18b0
        try clear c19
        try clear c19b0
        try clear c20
        try clear c20b0
        try clear c21
        try clear c21b0
        try clear c22
        try clear c25
        try clear c28
        try clear c30
        try clear c30b0
        try clear c31
        try clear c31b0
        try clear c32
        try clear c32b0
        try clear c33
        try clear c33b0
        try clear c34
        try clear c37
        try clear c40
        try clear hcz10_0 hcz10_1 hcz10_2 hfz10_0 hfz10_1 hfz10_2
        try clear hcz12_0 hcz12_1 hcz12_2 hfz12_0 hfz12_1 hfz12_2
        try clear hcz13_0 hcz13_1 hcz13_2 hfz13_0 hfz13_1 hfz13_2
        try clear hcz15_0 hcz15_1 hcz15_2 hfz15_0 hfz15_1 hfz15_2
        try clear hcz16_0 hcz16_1 hcz16_2 hfz16_0 hfz16_1 hfz16_2
        try clear hcz23_0 hcz23_1 hcz23_2 hfz23_0 hfz23_1 hfz23_2
        try clear hcz24_0 hcz24_1 hcz24_2 hfz24_0 hfz24_1 hfz24_2
        try clear hcz26_0 hcz26_1 hcz26_2 hfz26_0 hfz26_1 hfz26_2
        try clear hcz27_0 hcz27_1 hcz27_2 hfz27_0 hfz27_1 hfz27_2
        try clear hcz29_0 hcz29_1 hcz29_2 hfz29_0 hfz29_1 hfz29_2
        try clear hcz35_0 hcz35_1 hcz35_2 hfz35_0 hfz35_1 hfz35_2
        try clear hcz36_0 hcz36_1 hcz36_2 hfz36_0 hfz36_1 hfz36_2
        try clear hcz38_0 hcz38_1 hcz38_2 hfz38_0 hfz38_1 hfz38_2
        try clear hcz39_0 hcz39_1 hcz39_2 hfz39_0 hfz39_1 hfz39_2
        try clear hcz41_0 hcz41_1 hcz41_2 hfz41_0 hfz41_1 hfz41_2
        try clear hcz9_0 hcz9_1 hcz9_2 hfz9_0 hfz9_1 hfz9_2
        try clear hx126_0
        try clear hx126_1
        try clear hx126_2
        try clear hx126_3
        try clear hx127_0
        try clear hx127_1
        try clear hx127_2
        try clear hx127_3
        try clear hx128_0
        try clear hx128_1
        try clear hx128_2
        try clear hx128_3
        try clear hx128_4
        try clear hx129_0
        try clear hx129_1
        try clear hx129_2
        try clear hx129_3
        try clear hx129_4
        try clear p1
        try clear p12
        try clear p126
        try clear p127
        try clear p128
        try clear p129
        try clear p2
        try clear p6
        try clear q1
        try clear q12
        try clear q126
        try clear q127
        try clear q128
        try clear q129
        obtain ⟨x7_4, rfl, HA, HK4, BK124, BK125, HB⟩ := hrel
        cases gk with
        | zero => exact absurd HA.out (by simp [slotmeshref12_Same.l2])
        | succ k4 =>
         have H := HA.out
         clear HA
         simp only [slotmeshref12_Same.l2] at H
         by_cases c42 : x7_4 < (l0_2.length : Int)
         ·rw [if_pos c42] at H
          have c42b0 : decide (x7_4 < (l0_2.length : Int)) = true := decide_eq_true c42
          clear c42
          by_cases c43 : 0 ≤ x7_4
          ·rw [if_pos c43] at H
           have c43b0 : decide (0 ≤ x7_4) = true := decide_eq_true c43
           clear c43
           by_cases c44 : x7_4 < (l1_2.length : Int)
           ·rw [if_pos c44] at H
            have c44b0 : decide (x7_4 < (l1_2.length : Int)) = true := decide_eq_true c44
            clear c44
            by_cases c45 : ((!(((rd_T51 l0_2 x7_4).f0.f0) == ((rd_T51 l1_2 x7_4).f0.f0)) || (!(((rd_T51 l0_2 x7_4).f0.f1) == ((rd_T51 l1_2 x7_4).f0.f1)))) || (!(((rd_T51 l0_2 x7_4).f1) == ((rd_T51 l1_2 x7_4).f1)))) = true
            ·rw [if_pos c45] at H
             have c45b0 : ((!(((rd_T51 l0_2 x7_4).f0.f0) == ((rd_T51 l1_2 x7_4).f0.f0)) || (!(((rd_T51 l0_2 x7_4).f0.f1) == ((rd_T51 l1_2 x7_4).f0.f1)))) || (!(((rd_T51 l0_2 x7_4).f1) == ((rd_T51 l1_2 x7_4).f1)))) = true := c45
             clear c45
             obtain rfl := Option.some.inj H
             have hnb46 := NB124_125.out
             have hnc46 := NB125_124.out
             have hcz47_0 : wr.cell? ⟨gb124, 0, none⟩ = some (.slice A0_0 l0_0.length c0_0) := bt BK124 0
             have hcz47_1 : wr.cell? ⟨gb124, 1, none⟩ = some (.slice A0_1 l0_1.length c0_1) := bt BK124 1
             have hcz47_2 : wr.cell? ⟨gb124, 2, none⟩ = some (.slice A0_2 l0_2.length c0_2) := bt BK124 2
             have hfz47_0 := blk_frozen BK124.out 0
             have hfz47_1 := blk_frozen BK124.out 1
             have hfz47_2 := blk_frozen BK124.out 2
             have p130 : 0 ≤ (x7_4 : Int) := dA
             have q130 : x7_4 < (l0_2.length : Int) := dA
             obtain ⟨ad130, e130, hx130_0, hx130_1, hx130_2⟩ := at_T51 HR0_2.out x7_4 p130 q130
             cases e130
             replace hx130_0 := (HB.out.cell (World.block_lt_of_cell? w _ hx130_0)).trans hx130_0
             replace hx130_1 := (HB.out.cell (World.block_lt_of_cell? w _ hx130_1)).trans hx130_1
             replace hx130_2 := (HB.out.cell (World.block_lt_of_cell? w _ hx130_2)).trans hx130_2
             replace p130 := eq_true p130
             replace q130 := eq_true q130
             have hcz48_0 : wr.cell? ⟨gb125, 0, none⟩ = some (.slice A1_0 l1_0.length c1_0) := bt BK125 0
             have hcz48_1 : wr.cell? ⟨gb125, 1, none⟩ = some (.slice A1_1 l1_1.length c1_1) := bt BK125 1
             have hcz48_2 : wr.cell? ⟨gb125, 2, none⟩ = some (.slice A1_2 l1_2.length c1_2) := bt BK125 2
             have hfz48_0 := blk_frozen BK125.out 0
             have hfz48_1 := blk_frozen BK125.out 1
             have hfz48_2 := blk_frozen BK125.out 2
             have p131 : 0 ≤ (x7_4 : Int) := dA
             have q131 : x7_4 < (l1_2.length : Int) := dA
             obtain ⟨ad131, e131, hx131_0, hx131_1, hx131_2⟩ := at_T51 HR1_2.out x7_4 p131 q131
             cases e131
             replace hx131_0 := (HB.out.cell (World.block_lt_of_cell? w _ hx131_0)).trans hx131_0
             replace hx131_1 := (HB.out.cell (World.block_lt_of_cell? w _ hx131_1)).trans hx131_1
             replace hx131_2 := (HB.out.cell (World.block_lt_of_cell? w _ hx131_2)).trans hx131_2
             replace p131 := eq_true p131
             replace q131 := eq_true q131
             go_wp2
             repeat (go_quiet (fail); try go_wp2)
             go_ret
             exact ⟨aE, sW HB⟩
            rw [if_neg c45] at H
            have c45b0 : ((!(((rd_T51 l0_2 x7_4).f0.f0) == ((rd_T51 l1_2 x7_4).f0.f0)) || (!(((rd_T51 l0_2 x7_4).f0.f1) == ((rd_T51 l1_2 x7_4).f0.f1)))) || (!(((rd_T51 l0_2 x7_4).f1) == ((rd_T51 l1_2 x7_4).f1)))) = false := by simpa using c45
            clear c45
            have H' := Aside0.mk H
            clear H
            have hnb49 := NB124_125.out
            have hnc49 := NB125_124.out
            have hcz50_0 : wr.cell? ⟨gb124, 0, none⟩ = some (.slice A0_0 l0_0.length c0_0) := bt BK124 0
            have hcz50_1 : wr.cell? ⟨gb124, 1, none⟩ = some (.slice A0_1 l0_1.length c0_1) := bt BK124 1
            have hcz50_2 : wr.cell? ⟨gb124, 2, none⟩ = some (.slice A0_2 l0_2.length c0_2) := bt BK124 2
            have hfz50_0 := blk_frozen BK124.out 0
            have hfz50_1 := blk_frozen BK124.out 1
            have hfz50_2 := blk_frozen BK124.out 2
            have p130 : 0 ≤ (x7_4 : Int) := dA
            have q130 : x7_4 < (l0_2.length : Int) := dA
            obtain ⟨ad130, e130, hx130_0, hx130_1, hx130_2⟩ := at_T51 HR0_2.out x7_4 p130 q130
            cases e130
            replace hx130_0 := (HB.out.cell (World.block_lt_of_cell? w _ hx130_0)).trans hx130_0
            replace hx130_1 := (HB.out.cell (World.block_lt_of_cell? w _ hx130_1)).trans hx130_1
            replace hx130_2 := (HB.out.cell (World.block_lt_of_cell? w _ hx130_2)).trans hx130_2
            replace p130 := eq_true p130
            replace q130 := eq_true q130
            have hcz51_0 : wr.cell? ⟨gb125, 0, none⟩ = some (.slice A1_0 l1_0.length c1_0) := bt BK125 0
            have hcz51_1 : wr.cell? ⟨gb125, 1, none⟩ = some (.slice A1_1 l1_1.length c1_1) := bt BK125 1
            have hcz51_2 : wr.cell? ⟨gb125, 2, none⟩ = some (.slice A1_2 l1_2.length c1_2) := bt BK125 2
            have hfz51_0 := blk_frozen BK125.out 0
            have hfz51_1 := blk_frozen BK125.out 1
            have hfz51_2 := blk_frozen BK125.out 2
            have p131 : 0 ≤ (x7_4 : Int) := dA
            have q131 : x7_4 < (l1_2.length : Int) := dA
            obtain ⟨ad131, e131, hx131_0, hx131_1, hx131_2⟩ := at_T51 HR1_2.out x7_4 p131 q131
            cases e131
            replace hx131_0 := (HB.out.cell (World.block_lt_of_cell? w _ hx131_0)).trans hx131_0
            replace hx131_1 := (HB.out.cell (World.block_lt_of_cell? w _ hx131_1)).trans hx131_1
            replace hx131_2 := (HB.out.cell (World.block_lt_of_cell? w _ hx131_2)).trans hx131_2
            replace p131 := eq_true p131
            replace q131 := eq_true q131
            go_wp2
            repeat (go_quiet (fail); try go_wp2)
            go_roundg k4
            case measure => have := HJ2.out; have := HK2.out; have := HK3.out; have := HK4.out; omega
            case rel => exact ⟨(wrap64 (x7_4 + 1)), aR, H', ⟨by have := HJ2.out; have := HK2.out; have := HK3.out; have := HK4.out; omega⟩, ⟨sB BK124⟩, ⟨sB BK125⟩, ⟨sW HB⟩⟩
           rw [if_neg c44] at H
           exact absurd H (by simp)
          rw [if_neg c43] at H
          exact absurd H (by simp)
         rw [if_neg c42] at H
         have c42b0 : decide (x7_4 < (l0_2.length : Int)) = false := decide_eq_false c42
         clear c42
         obtain rfl := Option.some.inj H
         have hnb52 := NB124_125.out
         have hnc52 := NB125_124.out
         have hcz53_0 : wr.cell? ⟨gb124, 0, none⟩ = some (.slice A0_0 l0_0.length c0_0) := bt BK124 0
         have hcz53_1 : wr.cell? ⟨gb124, 1, none⟩ = some (.slice A0_1 l0_1.length c0_1) := bt BK124 1
         have hcz53_2 : wr.cell? ⟨gb124, 2, none⟩ = some (.slice A0_2 l0_2.length c0_2) := bt BK124 2
         have hfz53_0 := blk_frozen BK124.out 0
         have hfz53_1 := blk_frozen BK124.out 1
         have hfz53_2 := blk_frozen BK124.out 2
         go_wp2
         repeat (go_quiet (fail); try go_wp2)
         go_ret
         exact ⟨aE, sW HB⟩
end Go.Proofs.Ytbpfbdljcdcgnaa.Px
