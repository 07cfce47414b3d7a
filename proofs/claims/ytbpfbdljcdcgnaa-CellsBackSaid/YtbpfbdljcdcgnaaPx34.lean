/- Walks of functions of this seat, written by a program of this workplace out of the translation. -/
import Derived.Test.YtbpfbdljcdcgnaaPx0
import Derived.Test.YtbpfbdljcdcgnaaPx18
import Derived.Test.YtbpfbdljcdcgnaaPx19
import Derived.Test.YtbpfbdljcdcgnaaPx20
import Derived.Test.YtbpfbdljcdcgnaaPx21
import Derived.Test.YtbpfbdljcdcgnaaPx22
namespace Go.Proofs.Ytbpfbdljcdcgnaa.Px
open Go.RowKit Go.Proofs.YtbpfbdljcdcgnaaW.PrintWords Go.Proofs.YtbpfbdljcdcgnaaW.PrintLast Go.Proofs.YtbpfbdljcdcgnaaW.PrintMore
attribute [local go_sem] max2_int min2_int max_two min_two max_three min_three max_four min_four   -- for this text's walks alone
set_option linter.unusedVariables false
set_option linter.unusedSimpArgs false

/-! ### slotmeshlaw12_CellsBack: function 7 -/
mutual
def slotmeshlaw12_CellsBack.j0 : Nat → Bool → Bool → List (S32) → List (S34) → List (S51) → Int → Int → Int → Int → Int → Int → Int → Option (Bool)
 | 0, _, _, _, _, _, _, _, _, _, _, _, _ => none
 | k + 1, x7, x21, x612000, x612001, x612002, x613000, x613001, x614000, x614001, x614002, x614003, x614004 => if x21 = true then (some x7) else (slotmeshlaw12_CellsBack.l0 k x7 x612002 (x612002.length : Int) 0 x612000 x612001 x612002 x613000 x613001 x614000 x614001 x614002 x614003 x614004)
def slotmeshlaw12_CellsBack.l0 : Nat → Bool → List (S51) → Int → Int → List (S32) → List (S34) → List (S51) → Int → Int → Int → Int → Int → Int → Int → Option (Bool)
 | 0, _, _, _, _, _, _, _, _, _, _, _, _, _, _ => none
 | k + 1, x7, x24, x25, x26, x612000, x612001, x612002, x613000, x613001, x614000, x614001, x614002, x614003, x614004 => if x26 < x25 then (if 0 ≤ x26 then (if x26 < (x24.length : Int) then (if ((rd_T51 x24 x26).f0.f0) = x614000 then (some x7) else (slotmeshlaw12_CellsBack.l0 k x7 x24 x25 (wrap64 (x26 + 1)) x612000 x612001 x612002 x613000 x613001 x614000 x614001 x614002 x614003 x614004)) else (none)) else (none)) else ((cells_AddGrant.f x612000 x612001 x612002 x613000 x613001 x614000 x614001 x614002 x614003 x614004).bind fun bt619 => (if x7 = true then (if bt619.2.2.2 = 0 then ((cells_Drop.f bt619.1 bt619.2.1 bt619.2.2.1 x614000 x614001).bind fun bt630 => ((slotmeshref12_Same.f k bt630.1 bt630.2.1 bt630.2.2 x612000 x612001 x612002).bind fun t639 => (some t639))) else (some true)) else (some false)))
end
def slotmeshlaw12_CellsBack.f (k : Nat) (l0_0 : List (S32)) (l0_1 : List (S34)) (l0_2 : List (S51)) (a1_0 : Int) (a1_1 : Int) (a2_0 : Int) (a2_1 : Int) (a2_2 : Int) (a2_3 : Int) (a2_4 : Int) : Option (Bool) := (slotmeshlaw12_head.f).bind fun t614 => ((slotmeshref12_Few.f l0_0 l0_1 l0_2).bind fun t615 => (if t615 = true then ((slotmeshref12_Valid.f l0_0 l0_1 l0_2 a1_0 a1_1).bind fun t616 => (slotmeshlaw12_CellsBack.j0 k t614 (!t616) l0_0 l0_1 l0_2 a1_0 a1_1 a2_0 a2_1 a2_2 a2_3 a2_4)) else (slotmeshlaw12_CellsBack.j0 k t614 true l0_0 l0_1 l0_2 a1_0 a1_1 a2_0 a2_1 a2_2 a2_3 a2_4)))
def slotmeshlaw12_CellsBack.T11 : Bool × List (List Nat × List Nat) := (true, [([], []), ([0], [0]), ([1], [1]), ([2, 1], [1, 2]), ([3, 1, 1], [1, 3]), ([4], [4]), ([4], [4]), ([6, 4], [4, 6]), ([5, 7, 4, 4], [4, 5, 7]), ([4], [4]), ([8, 9, 8, 4], [4, 8, 9]), ([4, 10, 1], [1, 4, 10]), ([1, 11], [1, 11]), ([12, 10, 0, 1, 2, 3, 4, 5, 6, 7, 8, 9, 10, 11, 12], [12])])
def slotmeshlaw12_CellsBack.B11 : List Nat := [0, 1, 3, 7, 15, 31, 31, 95, 255, 31, 1023, 2047, 4095, 8191]
theorem slotmeshlaw12_CellsBack.tab11 : rtab .any (opsOf Try.f7 11) = slotmeshlaw12_CellsBack.T11 := by kernel_rfl
theorem slotmeshlaw12_CellsBack.bits11 : waitsOk slotmeshlaw12_CellsBack.T11.2 slotmeshlaw12_CellsBack.B11 = true := by kernel_rfl
set_option maxHeartbeats 8000000 in
set_option maxRecDepth 100000 in
theorem slotmeshlaw12_CellsBack.calls (k : Nat) (A0_0 : Option Addr) (c0_0 : Nat) (l0_0 : List (S32)) (A0_1 : Option Addr) (c0_1 : Nat) (l0_1 : List (S34)) (A0_2 : Option Addr) (c0_2 : Nat) (l0_2 : List (S51)) (a1_0 : Int) (a1_1 : Int) (a2_0 : Int) (a2_1 : Int) (a2_2 : Int) (a2_3 : Int) (a2_4 : Int) (r : Bool) (w : World) (hrt : r = true) (hr0_0 : Kd.C k32 w A0_0 l0_0.length l0_0) (hc0_0 : l0_0.length ≤ c0_0) (hr0_1 : Kd.C k34 w A0_1 l0_1.length l0_1) (hc0_1 : l0_1.length ≤ c0_1) (hr0_2 : Kd.C k51 w A0_2 l0_2.length l0_2) (hc0_2 : l0_2.length ≤ c0_2) (h : slotmeshlaw12_CellsBack.f k l0_0 l0_1 l0_2 a1_0 a1_1 a2_0 a2_1 a2_2 a2_3 a2_4 = some r) :
  Calls Try.prog 7 #[.agg #[.slice A0_0 l0_0.length c0_0, .slice A0_1 l0_1.length c0_1, .slice A0_2 l0_2.length c0_2], .agg #[.int .i64 a1_0, .int .i64 a1_1], .agg #[.int .i64 a2_0, .int .i64 a2_1, .int .i64 a2_2, .int .i64 a2_3, .int .i64 a2_4]] w fun e w' => e = .returned (.bool r) ∧ Below w.heap.size w w' := by
 have hu26 := Try.underlying26
 have hu28 := Try.underlying28
 have hu34 := Try.underlying34
 have hu51 := Try.underlying51
 have hu30 := Try.underlying30
 have HR0_0 := Aside0.mk hr0_0
 have HC0_0 := Aside0.mk hc0_0
 clear hr0_0 hc0_0
 have HR0_1 := Aside0.mk hr0_1
 have HC0_1 := Aside0.mk hc0_1
 clear hr0_1 hc0_1
 have HR0_2 := Aside0.mk hr0_2
 have HC0_2 := Aside0.mk hc0_2
 clear hr0_2 hc0_2
 have HB := Aside0.mk (Below.refl w.heap.size w)
 have HRT := Aside0.mk hrt
 clear hrt
 have H : ((slotmeshlaw12_head.f).bind fun t614 => ((slotmeshref12_Few.f l0_0 l0_1 l0_2).bind fun t615 => (if t615 = true then ((slotmeshref12_Valid.f l0_0 l0_1 l0_2 a1_0 a1_1).bind fun t616 => (slotmeshlaw12_CellsBack.j0 k t614 (!t616) l0_0 l0_1 l0_2 a1_0 a1_1 a2_0 a2_1 a2_2 a2_3 a2_4)) else (slotmeshlaw12_CellsBack.j0 k t614 true l0_0 l0_1 l0_2 a1_0 a1_1 a2_0 a2_1 a2_2 a2_3 a2_4)))) = some r := h
 clear h
 replace H := Option.bind_eq_some_iff.mp H
 obtain ⟨t614, A40, H⟩ := H
 replace H : ((slotmeshref12_Few.f l0_0 l0_1 l0_2).bind fun t615 => (if t615 = true then ((slotmeshref12_Valid.f l0_0 l0_1 l0_2 a1_0 a1_1).bind fun t616 => (slotmeshlaw12_CellsBack.j0 k t614 (!t616) l0_0 l0_1 l0_2 a1_0 a1_1 a2_0 a2_1 a2_2 a2_3 a2_4)) else (slotmeshlaw12_CellsBack.j0 k t614 true l0_0 l0_1 l0_2 a1_0 a1_1 a2_0 a2_1 a2_2 a2_3 a2_4))) = some r := H
 have A4 := Aside0.mk A40
 clear A40
 have HC5 := Aside0.mk H
 clear H
 go_enter Try.func7, Try.ntmps7
 go_upto_region 2 with (first | ((with_reducible refine gate_dst (N := 3) rfl ?_); refine bE (N := 3) (cs := #[.slice A0_0 l0_0.length c0_0, .slice A0_1 l0_1.length c0_1, .slice A0_2 l0_2.length c0_2]) (t := 26) ?_; intro gb611 hg w6 hbox hb; have BK611 := Aside0.mk (hbox); have GW611 := gW hg HB; have GE611 := GW611; replace HB := tW HB hb; clear hb hbox hg) | ((with_reducible refine gate_dst (N := 4) rfl ?_); refine bE (N := 4) (cs := #[.int .i64 a1_0, .int .i64 a1_1]) (t := 28) ?_; intro gb612 hg w7 hbox hb; have BK612 := Aside0.mk (hbox); have GW612 := gW hg HB; have GE612 := GW612; replace HB := tW HB hb; have NB611_612 := gL hg BK611; have NB612_611 := gG hg BK611; replace BK611 := tB BK611 hb; clear hb hbox hg) | ((with_reducible refine gate_dst (N := 5) rfl ?_); refine bE (N := 5) (cs := #[.int .i64 a2_0, .int .i64 a2_1, .int .i64 a2_2, .int .i64 a2_3, .int .i64 a2_4]) (t := 34) ?_; intro gb613 hg w8 hbox hb; have BK613 := Aside0.mk (hbox); have GW613 := gW hg HB; have GE613 := GW613; replace HB := tW HB hb; have NB611_613 := gL hg BK611; have NB613_611 := gG hg BK611; replace BK611 := tB BK611 hb; have NB612_613 := gL hg BK612; have NB613_612 := gG hg BK612; replace BK612 := tB BK612 hb; clear hb hbox hg) | ((with_reducible refine gate_callee (f := 10) rfl ?_); refine gC (some 12) Try.func10 #[] ?_; (with_reducible refine (slotmeshlaw12_head.calls  t614 _ A4.out).mono ?_); rintro e w9 ⟨rfl, hb⟩; refine ⟨_, rfl, ?_⟩; replace BK611 := tB BK611 hb; replace BK612 := tB BK612 hb; replace BK613 := tB BK613 hb; replace HB := tW HB hb; (try clear hb); (try clear hb2); (try clear hk); (try clear hi)))
 (try simp only [Act.put, List.setIfInBounds_toArray, List.set_cons_zero, List.set_cons_succ])
 go_cut [21] (fun v21 wc => ∃ (kq : Nat) (x21_4 : Bool), v21 = .bool x21_4 ∧ Aside0 (slotmeshlaw12_CellsBack.j0 kq t614 x21_4 l0_0 l0_1 l0_2 a1_0 a1_1 a2_0 a2_1 a2_2 a2_3 a2_4 = some r) ∧ Aside0 (kq ≤ k) ∧ Aside0 (wc.heap[gb611]? = some (.cells #[(.slice A0_0 l0_0.length c0_0), (.slice A0_1 l0_1.length c0_1), (.slice A0_2 l0_2.length c0_2)] 26 (0, 0))) ∧ Aside0 (wc.heap[gb612]? = some (.cells #[.int .i64 a1_0, .int .i64 a1_1] 28 (0, 0))) ∧ Aside0 (wc.heap[gb613]? = some (.cells #[.int .i64 a2_0, .int .i64 a2_1, .int .i64 a2_2, .int .i64 a2_3, .int .i64 a2_4] 34 (0, 0))) ∧ Aside0 (Below w.heap.size w wc))
 case first =>
  have H := HC5.out
  clear HC5
  replace H := Option.bind_eq_some_iff.mp H
  obtain ⟨t615, A100, H⟩ := H
  replace H : (if t615 = true then ((slotmeshref12_Valid.f l0_0 l0_1 l0_2 a1_0 a1_1).bind fun t616 => (slotmeshlaw12_CellsBack.j0 k t614 (!t616) l0_0 l0_1 l0_2 a1_0 a1_1 a2_0 a2_1 a2_2 a2_3 a2_4)) else (slotmeshlaw12_CellsBack.j0 k t614 true l0_0 l0_1 l0_2 a1_0 a1_1 a2_0 a2_1 a2_2 a2_3 a2_4)) = some r := H
  have A10 := Aside0.mk A100
  clear A100
  by_cases c11 : t615 = true
  ·subst c11
   have H1 : ((slotmeshref12_Valid.f l0_0 l0_1 l0_2 a1_0 a1_1).bind fun t616 => (slotmeshlaw12_CellsBack.j0 k t614 (!t616) l0_0 l0_1 l0_2 a1_0 a1_1 a2_0 a2_1 a2_2 a2_3 a2_4)) = some r := by rw [if_pos rfl] at H; exact H
   clear H
   have H := H1
   clear H1
   replace H := Option.bind_eq_some_iff.mp H
   obtain ⟨t616, A120, H⟩ := H
   replace H : (slotmeshlaw12_CellsBack.j0 k t614 (!t616) l0_0 l0_1 l0_2 a1_0 a1_1 a2_0 a2_1 a2_2 a2_3 a2_4) = some r := H
   have A12 := Aside0.mk A120
   clear A120
   have H' := Aside0.mk H
   clear H
   have hnb13 := NB611_612.out
   have hnc13 := NB612_611.out
   have hnb14 := NB611_613.out
   have hnc14 := NB613_611.out
   have hcz15_0 : w9.cell? ⟨gb611, 0, none⟩ = some (.slice A0_0 l0_0.length c0_0) := bt BK611 0
   have hcz15_1 : w9.cell? ⟨gb611, 1, none⟩ = some (.slice A0_1 l0_1.length c0_1) := bt BK611 1
   have hcz15_2 : w9.cell? ⟨gb611, 2, none⟩ = some (.slice A0_2 l0_2.length c0_2) := bt BK611 2
   have hfz15_0 := blk_frozen BK611.out 0
   have hfz15_1 := blk_frozen BK611.out 1
   have hfz15_2 := blk_frozen BK611.out 2
   go_wp2_with (first | ((with_reducible refine gate_callee (f := 11) rfl ?_); refine gC (some 14) Try.func11 #[.agg #[.slice A0_0 l0_0.length c0_0, .slice A0_1 l0_1.length c0_1, .slice A0_2 l0_2.length c0_2]] ?_; (with_reducible refine (slotmeshref12_Few.calls _ _ l0_0 _ _ l0_1 _ _ l0_2 true _ ?side1 ?side2 ?side3 ?side4 ?side5 ?side6 A10.out).mono ?_); (case side1 => exact sC (Kd.C_below HR0_0.out HB.out)); (case side2 => exact HC0_0.out); (case side3 => exact sC (Kd.C_below HR0_1.out HB.out)); (case side4 => exact HC0_1.out); (case side5 => exact sC (Kd.C_below HR0_2.out HB.out)); (case side6 => exact HC0_2.out); rintro e w16 ⟨rfl, hb⟩; refine ⟨_, rfl, ?_⟩; replace BK611 := tB BK611 hb; replace BK612 := tB BK612 hb; replace BK613 := tB BK613 hb; replace HB := tW HB hb; (try clear hb); (try clear hb2); (try clear hk); (try clear hi); have hcz17_0 : w16.cell? ⟨gb611, 0, none⟩ = some (.slice A0_0 l0_0.length c0_0) := bt BK611 0; have hcz17_1 : w16.cell? ⟨gb611, 1, none⟩ = some (.slice A0_1 l0_1.length c0_1) := bt BK611 1; have hcz17_2 : w16.cell? ⟨gb611, 2, none⟩ = some (.slice A0_2 l0_2.length c0_2) := bt BK611 2; have hfz17_0 := blk_frozen BK611.out 0; have hfz17_1 := blk_frozen BK611.out 1; have hfz17_2 := blk_frozen BK611.out 2; have hnb18 := NB612_613.out; have hnc18 := NB613_612.out; have hcz19_0 : w16.cell? ⟨gb612, 0, none⟩ = some (.int .i64 a1_0) := bt BK612 0; have hcz19_1 : w16.cell? ⟨gb612, 1, none⟩ = some (.int .i64 a1_1) := bt BK612 1; have hfz19_0 := blk_frozen BK612.out 0; have hfz19_1 := blk_frozen BK612.out 1) | (go_at_call 18; (with_reducible refine (slotmeshref12_Valid.calls _ _ l0_0 _ _ l0_1 _ _ l0_2 a1_0 a1_1 t616 _ ?side1 ?side2 ?side3 ?side4 ?side5 ?side6 A12.out).mono ?_); (case side1 => exact sC (Kd.C_below HR0_0.out HB.out)); (case side2 => exact HC0_0.out); (case side3 => exact sC (Kd.C_below HR0_1.out HB.out)); (case side4 => exact HC0_1.out); (case side5 => exact sC (Kd.C_below HR0_2.out HB.out)); (case side6 => exact HC0_2.out); rintro e w20 ⟨rfl, hb⟩; replace BK611 := tB BK611 hb; replace BK612 := tB BK612 hb; replace BK613 := tB BK613 hb; replace HB := tW HB hb; (try clear hb); (try clear hb2); (try clear hk); (try clear hi)))
   go_meet
   case rel => exact ⟨_, (!t616), aR, H', ⟨by first | omega | exact Nat.le_refl _⟩, ⟨sB BK611⟩, ⟨sB BK612⟩, ⟨sB BK613⟩, ⟨sW HB⟩⟩
  replace c11 := Bool.eq_false_iff.mpr c11
  subst c11
  have H1 : (slotmeshlaw12_CellsBack.j0 k t614 true l0_0 l0_1 l0_2 a1_0 a1_1 a2_0 a2_1 a2_2 a2_3 a2_4) = some r := by rw [if_neg (show ¬ (false = true) by decide)] at H; exact H
  clear H
  have H := H1
  clear H1
  have H' := Aside0.mk H
  clear H
  have hnb21 := NB611_612.out
  have hnc21 := NB612_611.out
  have hnb22 := NB611_613.out
  have hnc22 := NB613_611.out
  have hcz23_0 : w9.cell? ⟨gb611, 0, none⟩ = some (.slice A0_0 l0_0.length c0_0) := bt BK611 0
  have hcz23_1 : w9.cell? ⟨gb611, 1, none⟩ = some (.slice A0_1 l0_1.length c0_1) := bt BK611 1
  have hcz23_2 : w9.cell? ⟨gb611, 2, none⟩ = some (.slice A0_2 l0_2.length c0_2) := bt BK611 2
  have hfz23_0 := blk_frozen BK611.out 0
  have hfz23_1 := blk_frozen BK611.out 1
  have hfz23_2 := blk_frozen BK611.out 2
  go_wp2_with (first | ((with_reducible refine gate_callee (f := 11) rfl ?_); refine gC (some 14) Try.func11 #[.agg #[.slice A0_0 l0_0.length c0_0, .slice A0_1 l0_1.length c0_1, .slice A0_2 l0_2.length c0_2]] ?_; (with_reducible refine (slotmeshref12_Few.calls _ _ l0_0 _ _ l0_1 _ _ l0_2 false _ ?side1 ?side2 ?side3 ?side4 ?side5 ?side6 A10.out).mono ?_); (case side1 => exact sC (Kd.C_below HR0_0.out HB.out)); (case side2 => exact HC0_0.out); (case side3 => exact sC (Kd.C_below HR0_1.out HB.out)); (case side4 => exact HC0_1.out); (case side5 => exact sC (Kd.C_below HR0_2.out HB.out)); (case side6 => exact HC0_2.out); rintro e w24 ⟨rfl, hb⟩; refine ⟨_, rfl, ?_⟩; replace BK611 := tB BK611 hb; replace BK612 := tB BK612 hb; replace BK613 := tB BK613 hb; replace HB := tW HB hb; (try clear hb); (try clear hb2); (try clear hk); (try clear hi)))
  go_meet
  case rel => exact ⟨_, (true), aR, H', ⟨by first | omega | exact Nat.le_refl _⟩, ⟨sB BK611⟩, ⟨sB BK612⟩, ⟨sB BK613⟩, ⟨sW HB⟩⟩
 case rest =>
  clear HC5
  try clear c1
  try clear c2
  try clear p2
  try clear c7
  try clear c10
  try clear c11
  try clear c13
  try clear c14
  try clear c18
  try clear c21
  try clear c22
  try clear hcz15_0 hcz15_1 hcz15_2 hfz15_0 hfz15_1 hfz15_2
  try clear hcz17_0 hcz17_1 hcz17_2 hfz17_0 hfz17_1 hfz17_2
  try clear hcz19_0 hcz19_1 hfz19_0 hfz19_1
  try clear hcz23_0 hcz23_1 hcz23_2 hfz23_0 hfz23_1 hfz23_2
  obtain ⟨kq, x21_4, rfl, HA, HJ4, BK611, BK612, BK613, HB⟩ := hcut
  cases kq with
  | zero => exact absurd HA.out (by simp [slotmeshlaw12_CellsBack.j0])
  | succ kj4 =>
   have H := HA.out
   clear HA
   simp only [slotmeshlaw12_CellsBack.j0] at H
   by_cases c25 : x21_4 = true
   ·subst c25
    have H1 : (some t614) = some r := by rw [if_pos rfl] at H; exact H
    clear H
    have H := H1
    clear H1
    obtain rfl := Option.some.inj H
    go_wp2
    go_ret
    exact ⟨aE, sW HB⟩
   replace c25 := Bool.eq_false_iff.mpr c25
   subst c25
   have H1 : (slotmeshlaw12_CellsBack.l0 kj4 t614 l0_2 (l0_2.length : Int) 0 l0_0 l0_1 l0_2 a1_0 a1_1 a2_0 a2_1 a2_2 a2_3 a2_4) = some r := by rw [if_neg (show ¬ (false = true) by decide)] at H; exact H
   clear H
   have H := H1
   clear H1
   have H' := Aside0.mk H
   clear H
   have hnb26 := NB611_612.out
   have hnc26 := NB612_611.out
   have hnb27 := NB611_613.out
   have hnc27 := NB613_611.out
   have hcz28_0 : wc.cell? ⟨gb611, 0, none⟩ = some (.slice A0_0 l0_0.length c0_0) := bt BK611 0
   have hcz28_1 : wc.cell? ⟨gb611, 1, none⟩ = some (.slice A0_1 l0_1.length c0_1) := bt BK611 1
   have hcz28_2 : wc.cell? ⟨gb611, 2, none⟩ = some (.slice A0_2 l0_2.length c0_2) := bt BK611 2
   have hfz28_0 := blk_frozen BK611.out 0
   have hfz28_1 := blk_frozen BK611.out 1
   have hfz28_2 := blk_frozen BK611.out 2
   go_wp2
   go_loopg [26] kj4 (fun kq v26 w' => ∃ (x26_2 : Int), v26 = .int .i64 x26_2 ∧ Aside0 (slotmeshlaw12_CellsBack.l0 kq t614 l0_2 (l0_2.length : Int) x26_2 l0_0 l0_1 l0_2 a1_0 a1_1 a2_0 a2_1 a2_2 a2_3 a2_4 = some r) ∧ Aside0 (kq ≤ kj4) ∧ Aside0 (w'.heap[gb611]? = some (.cells #[(.slice A0_0 l0_0.length c0_0), (.slice A0_1 l0_1.length c0_1), (.slice A0_2 l0_2.length c0_2)] 26 (0, 0))) ∧ Aside0 (w'.heap[gb612]? = some (.cells #[.int .i64 a1_0, .int .i64 a1_1] 28 (0, 0))) ∧ Aside0 (w'.heap[gb613]? = some (.cells #[.int .i64 a2_0, .int .i64 a2_1, .int .i64 a2_2, .int .i64 a2_3, .int .i64 a2_4] 34 (0, 0))) ∧ Aside0 (Below w.heap.size w w'))
   case atStart => exact ⟨(0), aR, H', ⟨Nat.le_refl _⟩, ⟨sB BK611⟩, ⟨sB BK612⟩, ⟨sB BK613⟩, ⟨sW HB⟩⟩
   case round =>
    clear H'
    try clear c1
    try clear c2
    try clear p2
    try clear c7
    try clear c10
    try clear c11
    try clear c13
    try clear c14
    try clear c18
    try clear c21
    try clear c22
    try clear c25
    try clear c26
    try clear c27
    try clear hcz15_0 hcz15_1 hcz15_2 hfz15_0 hfz15_1 hfz15_2
    try clear hcz17_0 hcz17_1 hcz17_2 hfz17_0 hfz17_1 hfz17_2
    try clear hcz19_0 hcz19_1 hfz19_0 hfz19_1
    try clear hcz23_0 hcz23_1 hcz23_2 hfz23_0 hfz23_1 hfz23_2
    try clear hcz28_0 hcz28_1 hcz28_2 hfz28_0 hfz28_1 hfz28_2
    try clear p2
    obtain ⟨x26_2, rfl, HA, HK2, BK611, BK612, BK613, HB⟩ := hrel
    cases gk with
    | zero => exact absurd HA.out (by simp [slotmeshlaw12_CellsBack.l0])
    | succ k2 =>
     have H := HA.out
     clear HA
     simp only [slotmeshlaw12_CellsBack.l0] at H
     by_cases c29 : x26_2 < (l0_2.length : Int)
     ·rw [if_pos c29] at H
      have c29b0 : decide (x26_2 < (l0_2.length : Int)) = true := decide_eq_true c29
      clear c29
      by_cases c30 : 0 ≤ x26_2
      ·rw [if_pos c30] at H
       have c30b0 : decide (0 ≤ x26_2) = true := decide_eq_true c30
       clear c30
       by_cases c31 : x26_2 < (l0_2.length : Int)
       ·rw [if_pos c31] at H
        have c31b0 : decide (x26_2 < (l0_2.length : Int)) = true := decide_eq_true c31
        clear c31
        by_cases c32 : ((rd_T51 l0_2 x26_2).f0.f0) = a2_0
        ·rw [if_pos c32] at H
         have c32b0 : (((rd_T51 l0_2 x26_2).f0.f0) == a2_0) = true := beq_iff_eq.mpr c32
         have c32b1 : (((rd_T51 l0_2 x26_2).f0.f0) != a2_0) = false := bne_eq_false_iff_eq.mpr c32
         clear c32
         obtain rfl := Option.some.inj H
         have p617 : 0 ≤ (x26_2 : Int) := dA
         have q617 : x26_2 < (l0_2.length : Int) := dA
         obtain ⟨ad617, e617, hx617_0, hx617_1, hx617_2⟩ := at_T51 HR0_2.out x26_2 p617 q617
         cases e617
         replace hx617_0 := (HB.out.cell (World.block_lt_of_cell? w _ hx617_0)).trans hx617_0
         replace hx617_1 := (HB.out.cell (World.block_lt_of_cell? w _ hx617_1)).trans hx617_1
         replace hx617_2 := (HB.out.cell (World.block_lt_of_cell? w _ hx617_2)).trans hx617_2
         replace p617 := eq_true p617
         replace q617 := eq_true q617
         go_wp2_with (first | ((with_reducible refine gate_dst (N := 9) rfl ?_); refine bE (N := 9) (cs := #[.int .i64 0, .int .i64 0, .int .i64 0]) (t := 51) ?_; intro gb618 hg w33 hbox hb; have BK618 := Aside0.mk (hbox); have GW618 := gW hg HB; have GE618 := GW618; replace HB := tW HB hb; have NB611_618 := gL hg BK611; have NB618_611 := gG hg BK611; replace BK611 := tB BK611 hb; have NB612_618 := gL hg BK612; have NB618_612 := gG hg BK612; replace BK612 := tB BK612 hb; have NB613_618 := gL hg BK613; have NB618_613 := gG hg BK613; replace BK613 := tB BK613 hb; clear hb hbox hg; have hnb34 := NB618_611.out; have hnc34 := NB611_618.out; have hnb35 := NB618_612.out; have hnc35 := NB612_618.out; have hnb36 := NB618_613.out; have hnc36 := NB613_618.out; have hcz37_0 : w33.cell? ⟨gb618, 0, none⟩ = some (.int .i64 0) := bt BK618 0; have hcz37_1 : w33.cell? ⟨gb618, 1, none⟩ = some (.int .i64 0) := bt BK618 1; have hcz37_2 : w33.cell? ⟨gb618, 2, none⟩ = some (.int .i64 0) := bt BK618 2; have hfz37_0 := blk_frozen BK618.out 0; have hfz37_1 := blk_frozen BK618.out 1; have hfz37_2 := blk_frozen BK618.out 2; have hnb38 := NB613_611.out; have hnc38 := NB611_613.out; have hnb39 := NB613_612.out; have hnc39 := NB612_613.out; have hcz40_0 : w33.cell? ⟨gb613, 0, none⟩ = some (.int .i64 a2_0) := bt BK613 0; have hcz40_1 : w33.cell? ⟨gb613, 1, none⟩ = some (.int .i64 a2_1) := bt BK613 1; have hcz40_2 : w33.cell? ⟨gb613, 2, none⟩ = some (.int .i64 a2_2) := bt BK613 2; have hcz40_3 : w33.cell? ⟨gb613, 3, none⟩ = some (.int .i64 a2_3) := bt BK613 3; have hcz40_4 : w33.cell? ⟨gb613, 4, none⟩ = some (.int .i64 a2_4) := bt BK613 4; have hfz40_0 := blk_frozen BK613.out 0; have hfz40_1 := blk_frozen BK613.out 1; have hfz40_2 := blk_frozen BK613.out 2; have hfz40_3 := blk_frozen BK613.out 3; have hfz40_4 := blk_frozen BK613.out 4))
         go_ret
         exact ⟨aE, sW HB⟩
        rw [if_neg c32] at H
        have c32b0 : (((rd_T51 l0_2 x26_2).f0.f0) == a2_0) = false := beq_eq_false_iff_ne.mpr c32
        have c32b1 : (((rd_T51 l0_2 x26_2).f0.f0) != a2_0) = true := bne_iff_ne.mpr c32
        have H' := Aside0.mk H
        clear H
        have p617 : 0 ≤ (x26_2 : Int) := dA
        have q617 : x26_2 < (l0_2.length : Int) := dA
        obtain ⟨ad617, e617, hx617_0, hx617_1, hx617_2⟩ := at_T51 HR0_2.out x26_2 p617 q617
        cases e617
        replace hx617_0 := (HB.out.cell (World.block_lt_of_cell? w _ hx617_0)).trans hx617_0
        replace hx617_1 := (HB.out.cell (World.block_lt_of_cell? w _ hx617_1)).trans hx617_1
        replace hx617_2 := (HB.out.cell (World.block_lt_of_cell? w _ hx617_2)).trans hx617_2
        replace p617 := eq_true p617
        replace q617 := eq_true q617
        go_wp2_with (first | ((with_reducible refine gate_dst (N := 9) rfl ?_); refine bE (N := 9) (cs := #[.int .i64 0, .int .i64 0, .int .i64 0]) (t := 51) ?_; intro gb618 hg w41 hbox hb; have BK618 := Aside0.mk (hbox); have GW618 := gW hg HB; have GE618 := GW618; replace HB := tW HB hb; have NB611_618 := gL hg BK611; have NB618_611 := gG hg BK611; replace BK611 := tB BK611 hb; have NB612_618 := gL hg BK612; have NB618_612 := gG hg BK612; replace BK612 := tB BK612 hb; have NB613_618 := gL hg BK613; have NB618_613 := gG hg BK613; replace BK613 := tB BK613 hb; clear hb hbox hg; have hnb42 := NB618_611.out; have hnc42 := NB611_618.out; have hnb43 := NB618_612.out; have hnc43 := NB612_618.out; have hnb44 := NB618_613.out; have hnc44 := NB613_618.out; have hcz45_0 : w41.cell? ⟨gb618, 0, none⟩ = some (.int .i64 0) := bt BK618 0; have hcz45_1 : w41.cell? ⟨gb618, 1, none⟩ = some (.int .i64 0) := bt BK618 1; have hcz45_2 : w41.cell? ⟨gb618, 2, none⟩ = some (.int .i64 0) := bt BK618 2; have hfz45_0 := blk_frozen BK618.out 0; have hfz45_1 := blk_frozen BK618.out 1; have hfz45_2 := blk_frozen BK618.out 2; have hnb46 := NB613_611.out; have hnc46 := NB611_613.out; have hnb47 := NB613_612.out; have hnc47 := NB612_613.out; have hcz48_0 : w41.cell? ⟨gb613, 0, none⟩ = some (.int .i64 a2_0) := bt BK613 0; have hcz48_1 : w41.cell? ⟨gb613, 1, none⟩ = some (.int .i64 a2_1) := bt BK613 1; have hcz48_2 : w41.cell? ⟨gb613, 2, none⟩ = some (.int .i64 a2_2) := bt BK613 2; have hcz48_3 : w41.cell? ⟨gb613, 3, none⟩ = some (.int .i64 a2_3) := bt BK613 3; have hcz48_4 : w41.cell? ⟨gb613, 4, none⟩ = some (.int .i64 a2_4) := bt BK613 4; have hfz48_0 := blk_frozen BK613.out 0; have hfz48_1 := blk_frozen BK613.out 1; have hfz48_2 := blk_frozen BK613.out 2; have hfz48_3 := blk_frozen BK613.out 3; have hfz48_4 := blk_frozen BK613.out 4))
        go_roundg k2
        case measure => have := HJ4.out; have := HK2.out; omega
        case rel => exact ⟨(wrap64 (x26_2 + 1)), aR, H', ⟨by have := HJ4.out; have := HK2.out; omega⟩, ⟨sB BK611⟩, ⟨sB BK612⟩, ⟨sB BK613⟩, ⟨sW HB⟩⟩
       rw [if_neg c31] at H
       exact absurd H (by simp)
      rw [if_neg c30] at H
      exact absurd H (by simp)
     rw [if_neg c29] at H
     have c29b0 : decide (x26_2 < (l0_2.length : Int)) = false := decide_eq_false c29
     clear c29
     replace H := Option.bind_eq_some_iff.mp H
     obtain ⟨⟨t619, t622, t625, t628⟩, A490, H⟩ := H
     replace H : (if t614 = true then (if t628 = 0 then ((cells_Drop.f t619 t622 t625 a2_0 a2_1).bind fun bt630 => ((slotmeshref12_Same.f k2 bt630.1 bt630.2.1 bt630.2.2 l0_0 l0_1 l0_2).bind fun t639 => (some t639))) else (some true)) else (some false)) = some r := H
     have A49 := Aside0.mk A490
     clear A490
     by_cases c50 : t614 = true
     ·subst c50
      have H1 : (if t628 = 0 then ((cells_Drop.f t619 t622 t625 a2_0 a2_1).bind fun bt630 => ((slotmeshref12_Same.f k2 bt630.1 bt630.2.1 bt630.2.2 l0_0 l0_1 l0_2).bind fun t639 => (some t639))) else (some true)) = some r := by rw [if_pos rfl] at H; exact H
      clear H
      have H := H1
      clear H1
      by_cases c51 : t628 = 0
      ·rw [if_pos c51] at H
       have c51b0 : (t628 == 0) = true := beq_iff_eq.mpr c51
       have c51b1 : (t628 != 0) = false := bne_eq_false_iff_eq.mpr c51
       clear c51
       replace H := Option.bind_eq_some_iff.mp H
       obtain ⟨⟨t630, t633, t636⟩, A520, H⟩ := H
       replace H : ((slotmeshref12_Same.f k2 t630 t633 t636 l0_0 l0_1 l0_2).bind fun t639 => (some t639)) = some r := H
       have A52 := Aside0.mk A520
       clear A520
       replace H := Option.bind_eq_some_iff.mp H
       obtain ⟨t639, A530, H⟩ := H
       replace H : (some t639) = some r := H
       have A53 := Aside0.mk A530
       clear A530
       obtain rfl := Option.some.inj H
       have hnb54 := NB611_612.out
       have hnc54 := NB612_611.out
       have hnb55 := NB611_613.out
       have hnc55 := NB613_611.out
       have hcz56_0 : wr.cell? ⟨gb611, 0, none⟩ = some (.slice A0_0 l0_0.length c0_0) := bt BK611 0
       have hcz56_1 : wr.cell? ⟨gb611, 1, none⟩ = some (.slice A0_1 l0_1.length c0_1) := bt BK611 1
       have hcz56_2 : wr.cell? ⟨gb611, 2, none⟩ = some (.slice A0_2 l0_2.length c0_2) := bt BK611 2
       have hfz56_0 := blk_frozen BK611.out 0
       have hfz56_1 := blk_frozen BK611.out 1
       have hfz56_2 := blk_frozen BK611.out 2
       have hnb57 := NB612_613.out
       have hnc57 := NB613_612.out
       have hcz58_0 : wr.cell? ⟨gb612, 0, none⟩ = some (.int .i64 a1_0) := bt BK612 0
       have hcz58_1 : wr.cell? ⟨gb612, 1, none⟩ = some (.int .i64 a1_1) := bt BK612 1
       have hfz58_0 := blk_frozen BK612.out 0
       have hfz58_1 := blk_frozen BK612.out 1
       have hcz59_0 : wr.cell? ⟨gb613, 0, none⟩ = some (.int .i64 a2_0) := bt BK613 0
       have hcz59_1 : wr.cell? ⟨gb613, 1, none⟩ = some (.int .i64 a2_1) := bt BK613 1
       have hcz59_2 : wr.cell? ⟨gb613, 2, none⟩ = some (.int .i64 a2_2) := bt BK613 2
       have hcz59_3 : wr.cell? ⟨gb613, 3, none⟩ = some (.int .i64 a2_3) := bt BK613 3
       have hcz59_4 : wr.cell? ⟨gb613, 4, none⟩ = some (.int .i64 a2_4) := bt BK613 4
       have hfz59_0 := blk_frozen BK613.out 0
       have hfz59_1 := blk_frozen BK613.out 1
       have hfz59_2 := blk_frozen BK613.out 2
       have hfz59_3 := blk_frozen BK613.out 3
       have hfz59_4 := blk_frozen BK613.out 4
       try go_wp2_with (first | ((with_reducible refine gate_callee (f := 14) rfl ?_); refine gC (some 43) Try.func14 #[.agg #[.slice A0_0 l0_0.length c0_0, .slice A0_1 l0_1.length c0_1, .slice A0_2 l0_2.length c0_2], .agg #[.int .i64 a1_0, .int .i64 a1_1], .agg #[.int .i64 a2_0, .int .i64 a2_1, .int .i64 a2_2, .int .i64 a2_3, .int .i64 a2_4]] ?_; (with_reducible refine (cells_AddGrant.calls _ _ l0_0 _ _ l0_1 _ _ l0_2 a1_0 a1_1 a2_0 a2_1 a2_2 a2_3 a2_4 t619 t622 t625 t628 _ ?side1 ?side2 ?side3 ?side4 ?side5 ?side6 A49.out).mono ?_); (case side1 => exact sC (Kd.C_below HR0_0.out HB.out)); (case side2 => exact HC0_0.out); (case side3 => exact sC (Kd.C_below HR0_1.out HB.out)); (case side4 => exact HC0_1.out); (case side5 => exact sC (Kd.C_below HR0_2.out HB.out)); (case side6 => exact HC0_2.out); rintro e w60 ⟨v620, v623, v626, rfl, ho0, ho1, ho2, hb⟩; refine ⟨_, rfl, ?_⟩; have HO621 := Aside0.mk (Kd.R_lower ho0 (below_size (sW HB))); have HO624 := Aside0.mk (Kd.R_lower (Kd.R_newB ho1 (g := gb613) (o := .cells #[.int .i64 a2_0, .int .i64 a2_1, .int .i64 a2_2, .int .i64 a2_3, .int .i64 a2_4] 34 (0, 0)) (sB BK613)) (below_size (sW HB))); have HO627 := Aside0.mk (Kd.R_lower ho2 (below_size (sW HB))); replace BK611 := tB BK611 hb; replace BK612 := tB BK612 hb; replace BK613 := tB BK613 hb; replace HB := tW HB hb; (try clear hb); (try clear hb2); (try clear hk); (try clear hi); (try clear ho0); (try clear ho1); (try clear ho2)) | ((with_reducible refine gate_dst (N := 10) rfl ?_); refine bE (N := 10) (cs := #[.slice none 0 0, .slice none 0 0, .slice none 0 0]) (t := 26) ?_; intro gb629 hg w61 hbox hb; replace HO621 := tR HO621 hb; replace HO624 := tR HO624 hb; replace HO627 := tR HO627 hb; have BK629 := Aside0.mk (hbox); have GW629 := gW hg HB; have GE629 := GW629; replace HB := tW HB hb; have NB611_629 := gL hg BK611; have NB629_611 := gG hg BK611; replace BK611 := tB BK611 hb; have NB612_629 := gL hg BK612; have NB629_612 := gG hg BK612; replace BK612 := tB BK612 hb; have NB613_629 := gL hg BK613; have NB629_613 := gG hg BK613; replace BK613 := tB BK613 hb; clear hb hbox hg; obtain ⟨Ao62, co62, eo62⟩ := Kd.R_slice HO621.out; subst eo62; have hnb63 := NB629_611.out; have hnc63 := NB611_629.out; have hnb64 := NB629_612.out; have hnc64 := NB612_629.out; have hnb65 := NB629_613.out; have hnc65 := NB613_629.out; have hcz66_0 : w61.cell? ⟨gb629, 0, none⟩ = some (.slice none 0 0) := bt BK629 0; have hcz66_1 : w61.cell? ⟨gb629, 1, none⟩ = some (.slice none 0 0) := bt BK629 1; have hcz66_2 : w61.cell? ⟨gb629, 2, none⟩ = some (.slice none 0 0) := bt BK629 2; have hfz66_0 := blk_frozen BK629.out 0; have hfz66_1 := blk_frozen BK629.out 1; have hfz66_2 := blk_frozen BK629.out 2; obtain ⟨Ao67, co67, eo67⟩ := Kd.R_slice HO624.out; subst eo67; obtain ⟨Ao68, co68, eo68⟩ := Kd.R_slice HO627.out; subst eo68))
       have n0_ : Aside0 (Kd.R k32 32 (((w61.setCell ⟨gb629, 0, none⟩ (.slice Ao62 t619.length co62)).setCell ⟨gb629, 1, none⟩ (.slice Ao67 t622.length co67)).setCell ⟨gb629, 2, none⟩ (.slice Ao68 t625.length co68)) w.heap.size (fun _ => True) (.slice Ao62 t619.length co62) t619) := ⟨mR (by exact Kd.R_mono (Kd.R_far (p := ⟨gb629, 2, none⟩) (Kd.R_far (p := ⟨gb629, 1, none⟩) (Kd.R_far (p := ⟨gb629, 0, none⟩) (Kd.R_types HO621.out BK629.out (by decide)) (fun _ hk => hk.2) (.slice Ao62 t619.length co62)) (fun _ hk => hk.2) (.slice Ao67 t622.length co67)) (fun _ hk => hk.2) (.slice Ao68 t625.length co68)) (fun _ hk => trivial))⟩
       have n1_ : Aside0 (Kd.R k34 34 (((w61.setCell ⟨gb629, 0, none⟩ (.slice Ao62 t619.length co62)).setCell ⟨gb629, 1, none⟩ (.slice Ao67 t622.length co67)).setCell ⟨gb629, 2, none⟩ (.slice Ao68 t625.length co68)) w.heap.size (fun k_ => k_ ≠ gb613) (.slice Ao67 t622.length co67) t622) := ⟨mR (by exact Kd.R_mono (Kd.R_far (p := ⟨gb629, 2, none⟩) (Kd.R_far (p := ⟨gb629, 1, none⟩) (Kd.R_far (p := ⟨gb629, 0, none⟩) (Kd.R_types HO624.out BK629.out (by decide)) (fun _ hk => hk.2) (.slice Ao62 t619.length co62)) (fun _ hk => hk.2) (.slice Ao67 t622.length co67)) (fun _ hk => hk.2) (.slice Ao68 t625.length co68)) (fun _ hk => hk.1.2))⟩
       have n2_ : Aside0 (Kd.R k51 51 (((w61.setCell ⟨gb629, 0, none⟩ (.slice Ao62 t619.length co62)).setCell ⟨gb629, 1, none⟩ (.slice Ao67 t622.length co67)).setCell ⟨gb629, 2, none⟩ (.slice Ao68 t625.length co68)) w.heap.size (fun _ => True) (.slice Ao68 t625.length co68) t625) := ⟨mR (by exact Kd.R_mono (Kd.R_far (p := ⟨gb629, 2, none⟩) (Kd.R_far (p := ⟨gb629, 1, none⟩) (Kd.R_far (p := ⟨gb629, 0, none⟩) (Kd.R_types HO627.out BK629.out (by decide)) (fun _ hk => hk.2) (.slice Ao62 t619.length co62)) (fun _ hk => hk.2) (.slice Ao67 t622.length co67)) (fun _ hk => hk.2) (.slice Ao68 t625.length co68)) (fun _ hk => trivial))⟩
       have n3_ : Aside0 ((((w61.setCell ⟨gb629, 0, none⟩ (.slice Ao62 t619.length co62)).setCell ⟨gb629, 1, none⟩ (.slice Ao67 t622.length co67)).setCell ⟨gb629, 2, none⟩ (.slice Ao68 t625.length co68)).heap[gb611]? = some (.cells #[.slice A0_0 l0_0.length c0_0, .slice A0_1 l0_1.length c0_1, .slice A0_2 l0_2.length c0_2] 26 (0, 0))) := ⟨sB BK611⟩
       have n4_ : Aside0 ((((w61.setCell ⟨gb629, 0, none⟩ (.slice Ao62 t619.length co62)).setCell ⟨gb629, 1, none⟩ (.slice Ao67 t622.length co67)).setCell ⟨gb629, 2, none⟩ (.slice Ao68 t625.length co68)).heap[gb612]? = some (.cells #[.int .i64 a1_0, .int .i64 a1_1] 28 (0, 0))) := ⟨sB BK612⟩
       have n5_ : Aside0 ((((w61.setCell ⟨gb629, 0, none⟩ (.slice Ao62 t619.length co62)).setCell ⟨gb629, 1, none⟩ (.slice Ao67 t622.length co67)).setCell ⟨gb629, 2, none⟩ (.slice Ao68 t625.length co68)).heap[gb613]? = some (.cells #[.int .i64 a2_0, .int .i64 a2_1, .int .i64 a2_2, .int .i64 a2_3, .int .i64 a2_4] 34 (0, 0))) := ⟨sB BK613⟩
       have n6_ : Aside0 ((((w61.setCell ⟨gb629, 0, none⟩ (.slice Ao62 t619.length co62)).setCell ⟨gb629, 1, none⟩ (.slice Ao67 t622.length co67)).setCell ⟨gb629, 2, none⟩ (.slice Ao68 t625.length co68)).heap[gb629]? = some (.cells #[.slice Ao62 t619.length co62, .slice Ao67 t622.length co67, .slice Ao68 t625.length co68] 26 (0, 0))) := ⟨by (with_reducible repeat (first | refine blk_drewN ?_ _ | refine blk_drew ?_ | refine blk_alloc ?_ _)); refine blk_put (cs := #[.slice Ao62 t619.length co62, .slice Ao67 t622.length co67, .slice none 0 0]) ?_ 2 _ rfl; (with_reducible repeat (first | refine blk_drewN ?_ _ | refine blk_drew ?_ | refine blk_alloc ?_ _)); refine blk_put (cs := #[.slice Ao62 t619.length co62, .slice none 0 0, .slice none 0 0]) ?_ 1 _ rfl; (with_reducible repeat (first | refine blk_drewN ?_ _ | refine blk_drew ?_ | refine blk_alloc ?_ _)); refine blk_put (cs := #[.slice none 0 0, .slice none 0 0, .slice none 0 0]) ?_ 0 _ rfl; (with_reducible repeat (first | refine blk_drewN ?_ _ | refine blk_drew ?_ | refine blk_alloc ?_ _)); exact BK629.out⟩
       have n7_ : Aside0 (Below w.heap.size w (((w61.setCell ⟨gb629, 0, none⟩ (.slice Ao62 t619.length co62)).setCell ⟨gb629, 1, none⟩ (.slice Ao67 t622.length co67)).setCell ⟨gb629, 2, none⟩ (.slice Ao68 t625.length co68))) := ⟨sW HB⟩
       (try clear HO621)
       (try clear HO624)
       (try clear HO627)
       (try clear BK611)
       (try clear BK612)
       (try clear BK613)
       (try clear BK629)
       (try clear HB)
       generalize (((w61.setCell ⟨gb629, 0, none⟩ (.slice Ao62 t619.length co62)).setCell ⟨gb629, 1, none⟩ (.slice Ao67 t622.length co67)).setCell ⟨gb629, 2, none⟩ (.slice Ao68 t625.length co68)) = w69 at n0_ n1_ n2_ n3_ n4_ n5_ n6_ n7_ ⊢
       have HO621 := n0_
       have HO624 := n1_
       have HO627 := n2_
       have BK611 := n3_
       have BK612 := n4_
       have BK613 := n5_
       have BK629 := n6_
       have HB := n7_
       clear n0_ n1_ n2_ n3_ n4_ n5_ n6_ n7_
       replace HO621 := Aside0.mk (Kd.R_drew HO621.out)
       replace HO624 := Aside0.mk (Kd.R_drew HO624.out)
       replace HO627 := Aside0.mk (Kd.R_drew HO627.out)
       replace BK611 := Aside0.mk (blk_drew BK611.out)
       replace BK612 := Aside0.mk (blk_drew BK612.out)
       replace BK613 := Aside0.mk (blk_drew BK613.out)
       replace BK629 := Aside0.mk (blk_drew BK629.out)
       replace HB := Aside0.mk (below_drew1 HB.out)
       refine start_ (n := 14) (S := fun w' => w'.cell? ⟨gb629, 0, none⟩ = some (.slice Ao62 t619.length co62) ∧ w'.cell? ⟨gb629, 1, none⟩ = some (.slice Ao67 t622.length co67) ∧ w'.cell? ⟨gb629, 2, none⟩ = some (.slice Ao68 t625.length co68) ∧ w'.cell? ⟨gb613, 0, none⟩ = some (.int .i64 a2_0) ∧ w'.cell? ⟨gb613, 1, none⟩ = some (.int .i64 a2_1) ∧ w'.cell? ⟨gb613, 2, none⟩ = some (.int .i64 a2_2) ∧ w'.cell? ⟨gb613, 3, none⟩ = some (.int .i64 a2_3) ∧ w'.cell? ⟨gb613, 4, none⟩ = some (.int .i64 a2_4) ∧ w'.cell? ⟨gb611, 0, none⟩ = some (.slice A0_0 l0_0.length c0_0) ∧ w'.cell? ⟨gb611, 1, none⟩ = some (.slice A0_1 l0_1.length c0_1) ∧ w'.cell? ⟨gb611, 2, none⟩ = some (.slice A0_2 l0_2.length c0_2)) (ds := []) #[false, false, false, false, false, false, false, false, false, false, false, false, false, false] (by kernel_rfl) rfl rfl ⟨bt BK629 0, bt BK629 1, bt BK629 2, bt BK613 0, bt BK613 1, bt BK613 2, bt BK613 3, bt BK613 4, bt BK611 0, bt BK611 1, bt BK611 2⟩ (fun hHeld => ?_); refine with_tabW slotmeshlaw12_CellsBack.tab11 slotmeshlaw12_CellsBack.bits11 (fun HT_ HW_ => ?_)
       generalize w69.drew = w70 at HO621 HO624 HO627 BK611 BK612 BK613 BK629 HB hHeld ⊢
       refine run_ [(0, some 46), (1, some 47), (2, some 48), (3, some 49), (4, some 50), (6, some 52), (5, some 51), (7, some 53), (9, some 55)] ?_
       iterate 6 (refine runP (v := ?_) (a' := ?_) rfl rfl (any_of HT_.out (by kernel_rfl)) (fun _ _ _ h => h) (Or.inl ⟨by rfl, ?_⟩) ?_ ?_; rotate_left; (· intro w'; go_simp; with_reducible rfl); rotate_left; (· simp only [Act.put, List.setIfInBounds_toArray, List.set_cons_zero, List.set_cons_succ, i64_w, i32_w]; rfl))
       iterate 3 (refine runT (v := ?_) (a' := ?_) rfl rfl (take_ofW HT_.out HW_.out (by kernel_rfl)) (fun _ _ _ h => h) (Or.inl ⟨by rfl, ?_⟩) hHeld ?_ ?_; rotate_left; (· rintro w' ⟨s0, s1, s2, s3, s4, s5, s6, s7, s8, s9, s10⟩; go_simp; with_reducible rfl); rotate_left; (· simp only [Act.put, List.setIfInBounds_toArray, List.set_cons_zero, List.set_cons_succ, i64_w, i32_w]; rfl))
       refine runE ?_
       refine one_ (i := 8) (N := some 54) #[true, true, true, true, true, true, true, true, true, true, false, false, false, false] rfl rfl (one_of HT_.out (by kernel_rfl)) (by decide) (fun K hK => ?_)
       refine gO Try.func21 #[.agg #[.slice Ao62 t619.length co62, .slice Ao67 t622.length co67, .slice Ao68 t625.length co68], .agg #[.int .i64 a2_0, .int .i64 a2_1]] ?_
       with_reducible refine (cells_Drop.calls _ _ t619 _ _ t622 _ _ t625 a2_0 a2_1 t630 t633 t636 _ ?side1 ?side2 ?side3 ?side4 ?side5 ?side6 A52.out).mono ?_
       (case side1 => exact sC (Kd.R_reads' HO621.out).2.2)
       (case side2 => exact (Kd.R_reads' HO621.out).2.1)
       (case side3 => exact sC (Kd.R_reads' HO624.out).2.2)
       (case side4 => exact (Kd.R_reads' HO624.out).2.1)
       (case side5 => exact sC (Kd.R_reads' HO627.out).2.2)
       (case side6 => exact (Kd.R_reads' HO627.out).2.1)
       rintro e w71 ⟨v631, v634, v637, rfl, ho0, ho1, ho2, hb⟩
       refine ⟨_, rfl, ?_⟩
       have HO632 := nR ho0 HO621 HB
       replace HO621 := eR HO621 ho0 hb
       have HO635 := Aside0.mk (Kd.R_lower (Kd.R_newB (Kd.R_new' ho1 (Kd.R_lt (sR HO624))) (g := gb613) (o := .cells #[.int .i64 a2_0, .int .i64 a2_1, .int .i64 a2_2, .int .i64 a2_3, .int .i64 a2_4] 34 (0, 0)) (sB BK613)) (below_size (sW HB)))
       replace HO624 := eR HO624 ho1 hb
       have HO638 := nR ho2 HO627 HB
       replace HO627 := eR HO627 ho2 hb
       replace BK611 := tB BK611 hb
       replace BK612 := tB BK612 hb
       replace BK613 := tB BK613 hb
       replace BK629 := tB BK629 hb
       replace HB := tW HB hb
       (try clear hb)
       (try clear hb2)
       (try clear hk)
       (try clear hi)
       (try clear ho0)
       (try clear ho1)
       (try clear ho2)
       obtain ⟨Ao72, co72, eo72⟩ := Kd.R_slice HO632.out
       (first | subst eo72 | (injection eo72 with f1_ f2_ f3_; have f4_ := f1_.symm; have f5_ := f3_.symm; clear f1_ f2_ f3_; subst f4_; subst f5_))
       obtain ⟨Ao73, co73, eo73⟩ := Kd.R_slice HO635.out
       (first | subst eo73 | (injection eo73 with f1_ f2_ f3_; have f4_ := f1_.symm; have f5_ := f3_.symm; clear f1_ f2_ f3_; subst f4_; subst f5_))
       obtain ⟨Ao74, co74, eo74⟩ := Kd.R_slice HO638.out
       (first | subst eo74 | (injection eo74 with f1_ f2_ f3_; have f4_ := f1_.symm; have f5_ := f3_.symm; clear f1_ f2_ f3_; subst f4_; subst f5_))
       refine hK.out _ _ ⟨bt BK629 0, bt BK629 1, bt BK629 2, bt BK613 0, bt BK613 1, bt BK613 2, bt BK613 3, bt BK613 4, bt BK611 0, bt BK611 1, bt BK611 2⟩ (fun hHeld => ?_)
       clear hK K
       refine norm_ (a' := ?_) ?_ ?_
       rotate_left
       ·show Act.put _ (some 54) _ = _
        simp only [Act.put, List.setIfInBounds_toArray, List.set_cons_zero, List.set_cons_succ, i64_w, i32_w]
        rfl
       refine one_ (i := 10) (N := some 56) #[true, true, true, true, true, true, true, true, true, true, true, false, false, false] rfl rfl (one_of HT_.out (by kernel_rfl)) (by decide) (fun K hK => ?_)
       refine gO Try.func16 #[.agg #[.slice Ao72 t630.length co72, .slice Ao73 t633.length co73, .slice Ao74 t636.length co74], .agg #[.slice A0_0 l0_0.length c0_0, .slice A0_1 l0_1.length c0_1, .slice A0_2 l0_2.length c0_2]] ?_
       with_reducible refine (slotmeshref12_Same.calls k2 _ _ t630 _ _ t633 _ _ t636 _ _ l0_0 _ _ l0_1 _ _ l0_2 t639 _ ?side1 ?side2 ?side3 ?side4 ?side5 ?side6 ?side7 ?side8 ?side9 ?side10 ?side11 ?side12 A53.out).mono ?_
       (case side1 => exact sC (Kd.R_reads' HO632.out).2.2)
       (case side2 => exact (Kd.R_reads' HO632.out).2.1)
       (case side3 => exact sC (Kd.R_reads' HO635.out).2.2)
       (case side4 => exact (Kd.R_reads' HO635.out).2.1)
       (case side5 => exact sC (Kd.R_reads' HO638.out).2.2)
       (case side6 => exact (Kd.R_reads' HO638.out).2.1)
       (case side7 => exact sC (Kd.C_below HR0_0.out HB.out))
       (case side8 => exact HC0_0.out)
       (case side9 => exact sC (Kd.C_below HR0_1.out HB.out))
       (case side10 => exact HC0_1.out)
       (case side11 => exact sC (Kd.C_below HR0_2.out HB.out))
       (case side12 => exact HC0_2.out)
       rintro e w75 ⟨rfl, hb⟩
       refine ⟨_, rfl, ?_⟩
       replace HO621 := tR HO621 hb
       replace HO624 := tR HO624 hb
       replace HO627 := tR HO627 hb
       replace HO632 := tR HO632 hb
       replace HO635 := tR HO635 hb
       replace HO638 := tR HO638 hb
       replace BK611 := tB BK611 hb
       replace BK612 := tB BK612 hb
       replace BK613 := tB BK613 hb
       replace BK629 := tB BK629 hb
       replace HB := tW HB hb
       (try clear hb)
       (try clear hb2)
       (try clear hk)
       (try clear hi)
       refine hK.out _ _ ⟨bt BK629 0, bt BK629 1, bt BK629 2, bt BK613 0, bt BK613 1, bt BK613 2, bt BK613 3, bt BK613 4, bt BK611 0, bt BK611 1, bt BK611 2⟩ (fun hHeld => ?_)
       clear hK K
       refine norm_ (a' := ?_) ?_ ?_
       rotate_left
       ·show Act.put _ (some 56) _ = _
        simp only [Act.put, List.setIfInBounds_toArray, List.set_cons_zero, List.set_cons_succ, i64_w, i32_w]
        rfl
       refine run_ [(11, some 57), (12, some 58), (13, some 6)] ?_
       iterate 3 (refine runP (v := ?_) (a' := ?_) rfl rfl (any_of HT_.out (by kernel_rfl)) (fun _ _ _ h => h) (Or.inl ⟨by rfl, ?_⟩) ?_ ?_; rotate_left; (· intro w'; go_simp; with_reducible rfl); rotate_left; (· simp only [Act.put, List.setIfInBounds_toArray, List.set_cons_zero, List.set_cons_succ, i64_w, i32_w]; rfl))
       refine runE ?_
       refine done_ (done_of HT_.out (by kernel_rfl)) ?_
       try go_wp2
       go_ret
       exact ⟨aE, sW HB⟩
      rw [if_neg c51] at H
      have c51b0 : (t628 == 0) = false := beq_eq_false_iff_ne.mpr c51
      have c51b1 : (t628 != 0) = true := bne_iff_ne.mpr c51
      obtain rfl := Option.some.inj H
      have hnb76 := NB611_612.out
      have hnc76 := NB612_611.out
      have hnb77 := NB611_613.out
      have hnc77 := NB613_611.out
      have hcz78_0 : wr.cell? ⟨gb611, 0, none⟩ = some (.slice A0_0 l0_0.length c0_0) := bt BK611 0
      have hcz78_1 : wr.cell? ⟨gb611, 1, none⟩ = some (.slice A0_1 l0_1.length c0_1) := bt BK611 1
      have hcz78_2 : wr.cell? ⟨gb611, 2, none⟩ = some (.slice A0_2 l0_2.length c0_2) := bt BK611 2
      have hfz78_0 := blk_frozen BK611.out 0
      have hfz78_1 := blk_frozen BK611.out 1
      have hfz78_2 := blk_frozen BK611.out 2
      have hnb79 := NB612_613.out
      have hnc79 := NB613_612.out
      have hcz80_0 : wr.cell? ⟨gb612, 0, none⟩ = some (.int .i64 a1_0) := bt BK612 0
      have hcz80_1 : wr.cell? ⟨gb612, 1, none⟩ = some (.int .i64 a1_1) := bt BK612 1
      have hfz80_0 := blk_frozen BK612.out 0
      have hfz80_1 := blk_frozen BK612.out 1
      have hcz81_0 : wr.cell? ⟨gb613, 0, none⟩ = some (.int .i64 a2_0) := bt BK613 0
      have hcz81_1 : wr.cell? ⟨gb613, 1, none⟩ = some (.int .i64 a2_1) := bt BK613 1
      have hcz81_2 : wr.cell? ⟨gb613, 2, none⟩ = some (.int .i64 a2_2) := bt BK613 2
      have hcz81_3 : wr.cell? ⟨gb613, 3, none⟩ = some (.int .i64 a2_3) := bt BK613 3
      have hcz81_4 : wr.cell? ⟨gb613, 4, none⟩ = some (.int .i64 a2_4) := bt BK613 4
      have hfz81_0 := blk_frozen BK613.out 0
      have hfz81_1 := blk_frozen BK613.out 1
      have hfz81_2 := blk_frozen BK613.out 2
      have hfz81_3 := blk_frozen BK613.out 3
      have hfz81_4 := blk_frozen BK613.out 4
      try go_wp2_with (first | ((with_reducible refine gate_callee (f := 14) rfl ?_); refine gC (some 43) Try.func14 #[.agg #[.slice A0_0 l0_0.length c0_0, .slice A0_1 l0_1.length c0_1, .slice A0_2 l0_2.length c0_2], .agg #[.int .i64 a1_0, .int .i64 a1_1], .agg #[.int .i64 a2_0, .int .i64 a2_1, .int .i64 a2_2, .int .i64 a2_3, .int .i64 a2_4]] ?_; (with_reducible refine (cells_AddGrant.calls _ _ l0_0 _ _ l0_1 _ _ l0_2 a1_0 a1_1 a2_0 a2_1 a2_2 a2_3 a2_4 t619 t622 t625 t628 _ ?side1 ?side2 ?side3 ?side4 ?side5 ?side6 A49.out).mono ?_); (case side1 => exact sC (Kd.C_below HR0_0.out HB.out)); (case side2 => exact HC0_0.out); (case side3 => exact sC (Kd.C_below HR0_1.out HB.out)); (case side4 => exact HC0_1.out); (case side5 => exact sC (Kd.C_below HR0_2.out HB.out)); (case side6 => exact HC0_2.out); rintro e w82 ⟨v620, v623, v626, rfl, ho0, ho1, ho2, hb⟩; refine ⟨_, rfl, ?_⟩; have HO621 := Aside0.mk (Kd.R_lower ho0 (below_size (sW HB))); have HO624 := Aside0.mk (Kd.R_lower (Kd.R_newB ho1 (g := gb613) (o := .cells #[.int .i64 a2_0, .int .i64 a2_1, .int .i64 a2_2, .int .i64 a2_3, .int .i64 a2_4] 34 (0, 0)) (sB BK613)) (below_size (sW HB))); have HO627 := Aside0.mk (Kd.R_lower ho2 (below_size (sW HB))); replace BK611 := tB BK611 hb; replace BK612 := tB BK612 hb; replace BK613 := tB BK613 hb; replace HB := tW HB hb; (try clear hb); (try clear hb2); (try clear hk); (try clear hi); (try clear ho0); (try clear ho1); (try clear ho2)) | ((with_reducible refine gate_dst (N := 10) rfl ?_); refine bE (N := 10) (cs := #[.slice none 0 0, .slice none 0 0, .slice none 0 0]) (t := 26) ?_; intro gb629 hg w83 hbox hb; replace HO621 := tR HO621 hb; replace HO624 := tR HO624 hb; replace HO627 := tR HO627 hb; have BK629 := Aside0.mk (hbox); have GW629 := gW hg HB; have GE629 := GW629; replace HB := tW HB hb; have NB611_629 := gL hg BK611; have NB629_611 := gG hg BK611; replace BK611 := tB BK611 hb; have NB612_629 := gL hg BK612; have NB629_612 := gG hg BK612; replace BK612 := tB BK612 hb; have NB613_629 := gL hg BK613; have NB629_613 := gG hg BK613; replace BK613 := tB BK613 hb; clear hb hbox hg; obtain ⟨Ao84, co84, eo84⟩ := Kd.R_slice HO621.out; subst eo84; have hnb85 := NB629_611.out; have hnc85 := NB611_629.out; have hnb86 := NB629_612.out; have hnc86 := NB612_629.out; have hnb87 := NB629_613.out; have hnc87 := NB613_629.out; have hcz88_0 : w83.cell? ⟨gb629, 0, none⟩ = some (.slice none 0 0) := bt BK629 0; have hcz88_1 : w83.cell? ⟨gb629, 1, none⟩ = some (.slice none 0 0) := bt BK629 1; have hcz88_2 : w83.cell? ⟨gb629, 2, none⟩ = some (.slice none 0 0) := bt BK629 2; have hfz88_0 := blk_frozen BK629.out 0; have hfz88_1 := blk_frozen BK629.out 1; have hfz88_2 := blk_frozen BK629.out 2; obtain ⟨Ao89, co89, eo89⟩ := Kd.R_slice HO624.out; subst eo89; obtain ⟨Ao90, co90, eo90⟩ := Kd.R_slice HO627.out; subst eo90))
      have n0_ : Aside0 (Kd.R k32 32 (((w83.setCell ⟨gb629, 0, none⟩ (.slice Ao84 t619.length co84)).setCell ⟨gb629, 1, none⟩ (.slice Ao89 t622.length co89)).setCell ⟨gb629, 2, none⟩ (.slice Ao90 t625.length co90)) w.heap.size (fun _ => True) (.slice Ao84 t619.length co84) t619) := ⟨mR (by exact Kd.R_mono (Kd.R_far (p := ⟨gb629, 2, none⟩) (Kd.R_far (p := ⟨gb629, 1, none⟩) (Kd.R_far (p := ⟨gb629, 0, none⟩) (Kd.R_types HO621.out BK629.out (by decide)) (fun _ hk => hk.2) (.slice Ao84 t619.length co84)) (fun _ hk => hk.2) (.slice Ao89 t622.length co89)) (fun _ hk => hk.2) (.slice Ao90 t625.length co90)) (fun _ hk => trivial))⟩
      have n1_ : Aside0 (Kd.R k34 34 (((w83.setCell ⟨gb629, 0, none⟩ (.slice Ao84 t619.length co84)).setCell ⟨gb629, 1, none⟩ (.slice Ao89 t622.length co89)).setCell ⟨gb629, 2, none⟩ (.slice Ao90 t625.length co90)) w.heap.size (fun k_ => k_ ≠ gb613) (.slice Ao89 t622.length co89) t622) := ⟨mR (by exact Kd.R_mono (Kd.R_far (p := ⟨gb629, 2, none⟩) (Kd.R_far (p := ⟨gb629, 1, none⟩) (Kd.R_far (p := ⟨gb629, 0, none⟩) (Kd.R_types HO624.out BK629.out (by decide)) (fun _ hk => hk.2) (.slice Ao84 t619.length co84)) (fun _ hk => hk.2) (.slice Ao89 t622.length co89)) (fun _ hk => hk.2) (.slice Ao90 t625.length co90)) (fun _ hk => hk.1.2))⟩
      have n2_ : Aside0 (Kd.R k51 51 (((w83.setCell ⟨gb629, 0, none⟩ (.slice Ao84 t619.length co84)).setCell ⟨gb629, 1, none⟩ (.slice Ao89 t622.length co89)).setCell ⟨gb629, 2, none⟩ (.slice Ao90 t625.length co90)) w.heap.size (fun _ => True) (.slice Ao90 t625.length co90) t625) := ⟨mR (by exact Kd.R_mono (Kd.R_far (p := ⟨gb629, 2, none⟩) (Kd.R_far (p := ⟨gb629, 1, none⟩) (Kd.R_far (p := ⟨gb629, 0, none⟩) (Kd.R_types HO627.out BK629.out (by decide)) (fun _ hk => hk.2) (.slice Ao84 t619.length co84)) (fun _ hk => hk.2) (.slice Ao89 t622.length co89)) (fun _ hk => hk.2) (.slice Ao90 t625.length co90)) (fun _ hk => trivial))⟩
      have n3_ : Aside0 ((((w83.setCell ⟨gb629, 0, none⟩ (.slice Ao84 t619.length co84)).setCell ⟨gb629, 1, none⟩ (.slice Ao89 t622.length co89)).setCell ⟨gb629, 2, none⟩ (.slice Ao90 t625.length co90)).heap[gb611]? = some (.cells #[.slice A0_0 l0_0.length c0_0, .slice A0_1 l0_1.length c0_1, .slice A0_2 l0_2.length c0_2] 26 (0, 0))) := ⟨sB BK611⟩
      have n4_ : Aside0 ((((w83.setCell ⟨gb629, 0, none⟩ (.slice Ao84 t619.length co84)).setCell ⟨gb629, 1, none⟩ (.slice Ao89 t622.length co89)).setCell ⟨gb629, 2, none⟩ (.slice Ao90 t625.length co90)).heap[gb612]? = some (.cells #[.int .i64 a1_0, .int .i64 a1_1] 28 (0, 0))) := ⟨sB BK612⟩
      have n5_ : Aside0 ((((w83.setCell ⟨gb629, 0, none⟩ (.slice Ao84 t619.length co84)).setCell ⟨gb629, 1, none⟩ (.slice Ao89 t622.length co89)).setCell ⟨gb629, 2, none⟩ (.slice Ao90 t625.length co90)).heap[gb613]? = some (.cells #[.int .i64 a2_0, .int .i64 a2_1, .int .i64 a2_2, .int .i64 a2_3, .int .i64 a2_4] 34 (0, 0))) := ⟨sB BK613⟩
      have n6_ : Aside0 ((((w83.setCell ⟨gb629, 0, none⟩ (.slice Ao84 t619.length co84)).setCell ⟨gb629, 1, none⟩ (.slice Ao89 t622.length co89)).setCell ⟨gb629, 2, none⟩ (.slice Ao90 t625.length co90)).heap[gb629]? = some (.cells #[.slice Ao84 t619.length co84, .slice Ao89 t622.length co89, .slice Ao90 t625.length co90] 26 (0, 0))) := ⟨by (with_reducible repeat (first | refine blk_drewN ?_ _ | refine blk_drew ?_ | refine blk_alloc ?_ _)); refine blk_put (cs := #[.slice Ao84 t619.length co84, .slice Ao89 t622.length co89, .slice none 0 0]) ?_ 2 _ rfl; (with_reducible repeat (first | refine blk_drewN ?_ _ | refine blk_drew ?_ | refine blk_alloc ?_ _)); refine blk_put (cs := #[.slice Ao84 t619.length co84, .slice none 0 0, .slice none 0 0]) ?_ 1 _ rfl; (with_reducible repeat (first | refine blk_drewN ?_ _ | refine blk_drew ?_ | refine blk_alloc ?_ _)); refine blk_put (cs := #[.slice none 0 0, .slice none 0 0, .slice none 0 0]) ?_ 0 _ rfl; (with_reducible repeat (first | refine blk_drewN ?_ _ | refine blk_drew ?_ | refine blk_alloc ?_ _)); exact BK629.out⟩
      have n7_ : Aside0 (Below w.heap.size w (((w83.setCell ⟨gb629, 0, none⟩ (.slice Ao84 t619.length co84)).setCell ⟨gb629, 1, none⟩ (.slice Ao89 t622.length co89)).setCell ⟨gb629, 2, none⟩ (.slice Ao90 t625.length co90))) := ⟨sW HB⟩
      (try clear HO621)
      (try clear HO624)
      (try clear HO627)
      (try clear BK611)
      (try clear BK612)
      (try clear BK613)
      (try clear BK629)
      (try clear HB)
      generalize (((w83.setCell ⟨gb629, 0, none⟩ (.slice Ao84 t619.length co84)).setCell ⟨gb629, 1, none⟩ (.slice Ao89 t622.length co89)).setCell ⟨gb629, 2, none⟩ (.slice Ao90 t625.length co90)) = w91 at n0_ n1_ n2_ n3_ n4_ n5_ n6_ n7_ ⊢
      have HO621 := n0_
      have HO624 := n1_
      have HO627 := n2_
      have BK611 := n3_
      have BK612 := n4_
      have BK613 := n5_
      have BK629 := n6_
      have HB := n7_
      clear n0_ n1_ n2_ n3_ n4_ n5_ n6_ n7_
      replace HO621 := Aside0.mk (Kd.R_drew HO621.out)
      replace HO624 := Aside0.mk (Kd.R_drew HO624.out)
      replace HO627 := Aside0.mk (Kd.R_drew HO627.out)
      replace BK611 := Aside0.mk (blk_drew BK611.out)
      replace BK612 := Aside0.mk (blk_drew BK612.out)
      replace BK613 := Aside0.mk (blk_drew BK613.out)
      replace BK629 := Aside0.mk (blk_drew BK629.out)
      replace HB := Aside0.mk (below_drew1 HB.out)
      refine start_ (n := 14) (S := fun w' => True) (ds := []) #[false, false, false, false, false, false, false, false, false, false, false, false, false, false] (by kernel_rfl) rfl rfl trivial (fun hHeld => ?_); refine with_tabW slotmeshlaw12_CellsBack.tab11 slotmeshlaw12_CellsBack.bits11 (fun HT_ HW_ => ?_)
      generalize w91.drew = w92 at HO621 HO624 HO627 BK611 BK612 BK613 BK629 HB hHeld ⊢
      refine run_ [(0, some 46), (1, some 47), (2, some 48), (3, some 49), (4, some 50), (5, some 51), (6, some 52), (7, some 53), (8, some 54), (9, some 55), (10, some 56), (11, some 57), (12, some 58), (13, some 6)] ?_
      iterate 5 (refine runP (v := ?_) (a' := ?_) rfl rfl (any_of HT_.out (by kernel_rfl)) (fun _ _ _ h => h) (Or.inl ⟨by rfl, ?_⟩) ?_ ?_; rotate_left; (· intro w'; go_simp; with_reducible rfl); rotate_left; (· simp only [Act.put, List.setIfInBounds_toArray, List.set_cons_zero, List.set_cons_succ, i64_w, i32_w]; rfl))
      iterate 6 (refine runP (v := undef) (a' := ?_) rfl rfl (any_of HT_.out (by kernel_rfl)) (fun _ _ _ h => h) (Or.inr ⟨by rfl, rfl⟩) ?_ ?_; rotate_left; (· simp only [Act.put, List.setIfInBounds_toArray, List.set_cons_zero, List.set_cons_succ, i64_w, i32_w]; rfl))
      iterate 3 (refine runP (v := ?_) (a' := ?_) rfl rfl (any_of HT_.out (by kernel_rfl)) (fun _ _ _ h => h) (Or.inl ⟨by rfl, ?_⟩) ?_ ?_; rotate_left; (· intro w'; go_simp; with_reducible rfl); rotate_left; (· simp only [Act.put, List.setIfInBounds_toArray, List.set_cons_zero, List.set_cons_succ, i64_w, i32_w]; rfl))
      refine runE ?_
      refine done_ (done_of HT_.out (by kernel_rfl)) ?_
      try go_wp2
      go_ret
      exact ⟨aE, sW HB⟩
     replace c50 := Bool.eq_false_iff.mpr c50
     subst c50
     have H1 : (some false) = some r := by rw [if_neg (show ¬ (false = true) by decide)] at H; exact H
     clear H
     have H := H1
     clear H1
     exact absurd (Option.some.inj H) (by rw [HRT.out]; decide)
end Go.Proofs.Ytbpfbdljcdcgnaa.Px
