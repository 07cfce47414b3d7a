/- Walks of functions of this seat, written by a program of this workplace out of the translation. -/
import Derived.Test.YtbpfbdljcdcgnaaPx0
import Derived.Test.YtbpfbdljcdcgnaaPx2
import Derived.Test.YtbpfbdljcdcgnaaPx16
import Derived.Test.YtbpfbdljcdcgnaaPx20
import Derived.Test.YtbpfbdljcdcgnaaPx21
import Derived.Test.YtbpfbdljcdcgnaaPx22
import Derived.Test.YtbpfbdljcdcgnaaPx30
namespace Go.Proofs.Ytbpfbdljcdcgnaa.Px
open Go.RowKit Go.Proofs.YtbpfbdljcdcgnaaW.PrintWords Go.Proofs.YtbpfbdljcdcgnaaW.PrintLast Go.Proofs.YtbpfbdljcdcgnaaW.PrintMore
attribute [local go_sem] max2_int min2_int max_two min_two max_three min_three max_four min_four   -- for this text's walks alone
set_option linter.unusedVariables false
set_option linter.unusedSimpArgs false

attribute [local go_sem high] eqA32
/-! ### slotmeshlaw12_CellsValid: function 4 -/
mutual
def slotmeshlaw12_CellsValid.j0 : Nat → Int → Bool → Bool → List (S32) → List (S34) → List (S51) → Int → Int → Int → Int → Int → Int → Int → Int → Option (Bool)
 | 0, _, _, _, _, _, _, _, _, _, _, _, _, _, _ => none
 | k + 1, x4, x11, x37, x456000, x456001, x456002, x457000, x457001, x458000, x458001, x458002, x458003, x459000, x459001 => if x37 = true then (some x11) else ((cells_Drop.f x456000 x456001 x456002 x459000 x459001).bind fun bt462 => ((cells_Expire.f x456000 x456001 x456002 x4).bind fun bt471 => ((some (([(⟨bt462.1, bt462.2.1, bt462.2.2⟩ : S26), (⟨bt471.1, bt471.2.1, bt471.2.2⟩ : S26)] : List (S26)) : List (S26))).bind fun y480 => (slotmeshlaw12_CellsValid.l0 k x11 y480 (y480.length : Int) 0 x456000 x456001 x456002 x457000 x457001 x458000 x458001 x458002 x458003))))
def slotmeshlaw12_CellsValid.l0 : Nat → Bool → List (S26) → Int → Int → List (S32) → List (S34) → List (S51) → Int → Int → Int → Int → Int → Int → Option (Bool)
 | 0, _, _, _, _, _, _, _, _, _, _, _, _, _ => none
 | k + 1, x11, x45, x46, x47, x456000, x456001, x456002, x457000, x457001, x458000, x458001, x458002, x458003 => if x47 < x46 then (if 0 ≤ x47 then (if x47 < (x45.length : Int) then ((slotmeshlaw12_counts.f k ((rd_T26 x45 x47).f0) ((rd_T26 x45 x47).f1) ((rd_T26 x45 x47).f2) x456000 x456001 x456002).bind fun bt485 => ((slotmeshref12_Valid.f ((rd_T26 x45 x47).f0) ((rd_T26 x45 x47).f1) ((rd_T26 x45 x47).f2) x457000 x457001).bind fun t488 => (if t488 = true then (if bt485.1 = (((rd_T26 x45 x47).f0).length : Int) then (if bt485.2.1 = (((rd_T26 x45 x47).f1).length : Int) then (if bt485.2.2 = (((rd_T26 x45 x47).f2).length : Int) then (slotmeshlaw12_CellsValid.l0 k x11 x45 x46 (wrap64 (x47 + 1)) x456000 x456001 x456002 x457000 x457001 x458000 x458001 x458002 x458003) else (some false)) else (some false)) else (some false)) else (some false)))) else (none)) else (none)) else ((cells_AddUse.f x456000 x456001 x456002 x457000 x457001 x458000 x458001 x458002 x458003).bind fun bt489 => (if bt489.2.2.2 = 0 then ((slotmeshlaw12_counts.f k x456000 x456001 x456002 bt489.1 bt489.2.1 bt489.2.2.1).bind fun bt500 => (slotmeshlaw12_CellsValid.l1 k x11 bt500.1 bt500.2.1 bt500.2.2 0 x456002 (x456002.length : Int) 0 x456000 x456001 x456002 x457000 x457001 x458000 x458001 x458002 x458003 bt489.1 bt489.2.1 bt489.2.2.1)) else (some x11)))
def slotmeshlaw12_CellsValid.l1 : Nat → Bool → Int → Int → Int → Int → List (S51) → Int → Int → List (S32) → List (S34) → List (S51) → Int → Int → Int → Int → Int → Int → List (S32) → List (S34) → List (S51) → Option (Bool)
 | 0, _, _, _, _, _, _, _, _, _, _, _, _, _, _, _, _, _, _, _, _ => none
 | k + 1, x11, x19, x20, x21, x22, x102, x103, x104, x456000, x456001, x456002, x457000, x457001, x458000, x458001, x458002, x458003, x500000, x500001, x500002 => if x104 < x103 then (if 0 ≤ x104 then (if x104 < (x102.length : Int) then (if ((rd_T51 x102 x104).f0.f0) = x458000 then (slotmeshlaw12_CellsValid.l1 k x11 x19 x20 x21 (wrap64 (x22 + 1)) x102 x103 (wrap64 (x104 + 1)) x456000 x456001 x456002 x457000 x457001 x458000 x458001 x458002 x458003 x500000 x500001 x500002) else (slotmeshlaw12_CellsValid.l1 k x11 x19 x20 x21 x22 x102 x103 (wrap64 (x104 + 1)) x456000 x456001 x456002 x457000 x457001 x458000 x458001 x458002 x458003 x500000 x500001 x500002)) else (none)) else (none)) else (slotmeshlaw12_CellsValid.l2 k x11 x19 x20 x21 x22 false x500000 (x500000.length : Int) 0 x456000 x456001 x456002 x457000 x457001 x458000 x458001 x458002 x458003 x500000 x500001 x500002)
def slotmeshlaw12_CellsValid.l2 : Nat → Bool → Int → Int → Int → Int → Bool → List (S32) → Int → Int → List (S32) → List (S34) → List (S51) → Int → Int → Int → Int → Int → Int → List (S32) → List (S34) → List (S51) → Option (Bool)
 | 0, _, _, _, _, _, _, _, _, _, _, _, _, _, _, _, _, _, _, _, _, _ => none
 | k + 1, x11, x19, x20, x21, x22, x25, x119, x120, x121, x456000, x456001, x456002, x457000, x457001, x458000, x458001, x458002, x458003, x500000, x500001, x500002 => if x121 < x120 then (if 0 ≤ x121 then (if x121 < (x119.length : Int) then (if x25 = true then (slotmeshlaw12_CellsValid.l2 k x11 x19 x20 x21 x22 true x119 x120 (wrap64 (x121 + 1)) x456000 x456001 x456002 x457000 x457001 x458000 x458001 x458002 x458003 x500000 x500001 x500002) else (slotmeshlaw12_CellsValid.l2 k x11 x19 x20 x21 x22 ((((rd_T32 x119 x121).f0.f0) == x458000 && (((rd_T32 x119 x121).f0.f1) == x458001)) && (((rd_T32 x119 x121).f1) == x458002 && (((rd_T32 x119 x121).f2) == x458003))) x119 x120 (wrap64 (x121 + 1)) x456000 x456001 x456002 x457000 x457001 x458000 x458001 x458002 x458003 x500000 x500001 x500002)) else (none)) else (none)) else (if x11 = true then (if x25 = true then ((slotmeshref12_Valid.f x500000 x500001 x500002 x457000 x457001).bind fun t507 => (if t507 = true then (if x19 = (x456000.length : Int) then (if x20 = (x456001.length : Int) then (if x21 = (wrap64 ((x456002.length : Int) - x22)) then (if (x500000.length : Int) = (wrap64 (x19 + 1)) then (if (x500001.length : Int) = x20 then (some ((x500002.length : Int) == x21)) else (some false)) else (some false)) else (some false)) else (some false)) else (some false)) else (some false))) else (some false)) else (some false))
end
def slotmeshlaw12_CellsValid.f (k : Nat) (l0_0 : List (S32)) (l0_1 : List (S34)) (l0_2 : List (S51)) (a1_0 : Int) (a1_1 : Int) (a2_0 : Int) (a2_1 : Int) (a2_2 : Int) (a2_3 : Int) (a3_0 : Int) (a3_1 : Int) (a4 : Int) : Option (Bool) := (slotmeshlaw12_head.f).bind fun t459 => ((slotmeshref12_Few.f l0_0 l0_1 l0_2).bind fun t460 => (if t460 = true then ((slotmeshref12_Valid.f l0_0 l0_1 l0_2 a1_0 a1_1).bind fun t461 => (slotmeshlaw12_CellsValid.j0 k a4 t459 (!t461) l0_0 l0_1 l0_2 a1_0 a1_1 a2_0 a2_1 a2_2 a2_3 a3_0 a3_1)) else (slotmeshlaw12_CellsValid.j0 k a4 t459 true l0_0 l0_1 l0_2 a1_0 a1_1 a2_0 a2_1 a2_2 a2_3 a3_0 a3_1)))
def slotmeshlaw12_CellsValid.T4 : Bool × List (List Nat × List Nat) := (true, [([], []), ([], []), ([0, 1], [0, 1]), ([], []), ([], []), ([3, 4, 2], [3, 4]), ([2, 5], [2, 5]), ([6], [6]), ([], [])])
def slotmeshlaw12_CellsValid.B4 : List Nat := [0, 0, 3, 0, 0, 31, 63, 127, 0]
theorem slotmeshlaw12_CellsValid.tab4 : rtab .any (opsOf Try.f4 4) = slotmeshlaw12_CellsValid.T4 := by kernel_rfl
theorem slotmeshlaw12_CellsValid.bits4 : waitsOk slotmeshlaw12_CellsValid.T4.2 slotmeshlaw12_CellsValid.B4 = true := by kernel_rfl
set_option maxHeartbeats 8000000 in
set_option maxRecDepth 100000 in
theorem slotmeshlaw12_CellsValid.calls (k : Nat) (A0_0 : Option Addr) (c0_0 : Nat) (l0_0 : List (S32)) (A0_1 : Option Addr) (c0_1 : Nat) (l0_1 : List (S34)) (A0_2 : Option Addr) (c0_2 : Nat) (l0_2 : List (S51)) (a1_0 : Int) (a1_1 : Int) (a2_0 : Int) (a2_1 : Int) (a2_2 : Int) (a2_3 : Int) (a3_0 : Int) (a3_1 : Int) (a4 : Int) (r : Bool) (w : World) (hrt : r = true) (hr0_0 : Kd.C k32 w A0_0 l0_0.length l0_0) (hc0_0 : l0_0.length ≤ c0_0) (hr0_1 : Kd.C k34 w A0_1 l0_1.length l0_1) (hc0_1 : l0_1.length ≤ c0_1) (hr0_2 : Kd.C k51 w A0_2 l0_2.length l0_2) (hc0_2 : l0_2.length ≤ c0_2) (h : slotmeshlaw12_CellsValid.f k l0_0 l0_1 l0_2 a1_0 a1_1 a2_0 a2_1 a2_2 a2_3 a3_0 a3_1 a4 = some r) :
  Calls Try.prog 4 #[.agg #[.slice A0_0 l0_0.length c0_0, .slice A0_1 l0_1.length c0_1, .slice A0_2 l0_2.length c0_2], .agg #[.int .i64 a1_0, .int .i64 a1_1], .agg #[.int .i64 a2_0, .int .i64 a2_1, .int .i64 a2_2, .int .i64 a2_3], .agg #[.int .i64 a3_0, .int .i64 a3_1], .int .i64 a4] w fun e w' => e = .returned (.bool r) ∧ Below w.heap.size w w' := by
 have hu26 := Try.underlying26
 have hu28 := Try.underlying28
 have hu32 := Try.underlying32
 have hu30 := Try.underlying30
 have hu51 := Try.underlying51
 have HR0_0 := Aside0.mk hr0_0
 have HC0_0 := Aside0.mk hc0_0
 clear hr0_0 hc0_0
 have HR0_1 := Aside0.mk hr0_1
 have HC0_1 := Aside0.mk hc0_1
 clear hr0_1 hc0_1
 have HR0_2 := Aside0.mk hr0_2
 have HC0_2 := Aside0.mk hc0_2
 clear hr0_2 hc0_2
 have HB := Aside0.mk (Below.refl w.heap.size w)
 have HRT := Aside0.mk hrt
 clear hrt
 have H : ((slotmeshlaw12_head.f).bind fun t459 => ((slotmeshref12_Few.f l0_0 l0_1 l0_2).bind fun t460 => (if t460 = true then ((slotmeshref12_Valid.f l0_0 l0_1 l0_2 a1_0 a1_1).bind fun t461 => (slotmeshlaw12_CellsValid.j0 k a4 t459 (!t461) l0_0 l0_1 l0_2 a1_0 a1_1 a2_0 a2_1 a2_2 a2_3 a3_0 a3_1)) else (slotmeshlaw12_CellsValid.j0 k a4 t459 true l0_0 l0_1 l0_2 a1_0 a1_1 a2_0 a2_1 a2_2 a2_3 a3_0 a3_1)))) = some r := h
 clear h
 replace H := Option.bind_eq_some_iff.mp H
 obtain ⟨t459, A60, H⟩ := H
 replace H : ((slotmeshref12_Few.f l0_0 l0_1 l0_2).bind fun t460 => (if t460 = true then ((slotmeshref12_Valid.f l0_0 l0_1 l0_2 a1_0 a1_1).bind fun t461 => (slotmeshlaw12_CellsValid.j0 k a4 t459 (!t461) l0_0 l0_1 l0_2 a1_0 a1_1 a2_0 a2_1 a2_2 a2_3 a3_0 a3_1)) else (slotmeshlaw12_CellsValid.j0 k a4 t459 true l0_0 l0_1 l0_2 a1_0 a1_1 a2_0 a2_1 a2_2 a2_3 a3_0 a3_1))) = some r := H
 have A6 := Aside0.mk A60
 clear A60
 have HC7 := Aside0.mk H
 clear H
 go_enter Try.func4, Try.ntmps4
 go_upto_region 2 with (first | ((with_reducible refine gate_dst (N := 5) rfl ?_); (try (refine gate_guard (by rfl) ?_; dsimp only)); refine bE (N := 5) (cs := #[.slice A0_0 l0_0.length c0_0, .slice A0_1 l0_1.length c0_1, .slice A0_2 l0_2.length c0_2]) (t := 26) ?_; intro gb455 hg w8 hbox hb; have BK455 := Aside0.mk (hbox); have GW455 := gW hg HB; have GE455 := GW455; replace HB := tW HB hb; clear hb hbox hg) | ((with_reducible refine gate_dst (N := 6) rfl ?_); (try (refine gate_guard (by rfl) ?_; dsimp only)); refine bE (N := 6) (cs := #[.int .i64 a1_0, .int .i64 a1_1]) (t := 28) ?_; intro gb456 hg w9 hbox hb; have BK456 := Aside0.mk (hbox); have GW456 := gW hg HB; have GE456 := GW456; replace HB := tW HB hb; have NB455_456 := gL hg BK455; have NB456_455 := gG hg BK455; replace BK455 := tB BK455 hb; clear hb hbox hg) | ((with_reducible refine gate_dst (N := 7) rfl ?_); (try (refine gate_guard (by rfl) ?_; dsimp only)); refine bE (N := 7) (cs := #[.int .i64 a2_0, .int .i64 a2_1, .int .i64 a2_2, .int .i64 a2_3]) (t := 32) ?_; intro gb457 hg w10 hbox hb; have BK457 := Aside0.mk (hbox); have GW457 := gW hg HB; have GE457 := GW457; replace HB := tW HB hb; have NB455_457 := gL hg BK455; have NB457_455 := gG hg BK455; replace BK455 := tB BK455 hb; have NB456_457 := gL hg BK456; have NB457_456 := gG hg BK456; replace BK456 := tB BK456 hb; clear hb hbox hg) | ((with_reducible refine gate_dst (N := 8) rfl ?_); (try (refine gate_guard (by rfl) ?_; dsimp only)); refine bE (N := 8) (cs := #[.int .i64 a3_0, .int .i64 a3_1]) (t := 30) ?_; intro gb458 hg w11 hbox hb; have BK458 := Aside0.mk (hbox); have GW458 := gW hg HB; have GE458 := GW458; replace HB := tW HB hb; have NB455_458 := gL hg BK455; have NB458_455 := gG hg BK455; replace BK455 := tB BK455 hb; have NB456_458 := gL hg BK456; have NB458_456 := gG hg BK456; replace BK456 := tB BK456 hb; have NB457_458 := gL hg BK457; have NB458_457 := gG hg BK457; replace BK457 := tB BK457 hb; clear hb hbox hg) | ((with_reducible refine gate_callee (f := 10) rfl ?_); refine gC (some 28) Try.func10 #[] ?_; (with_reducible refine (slotmeshlaw12_head.calls  t459 _ A6.out).mono ?_); rintro e w12 ⟨rfl, hb⟩; refine ⟨_, rfl, ?_⟩; replace BK455 := tB BK455 hb; replace BK456 := tB BK456 hb; replace BK457 := tB BK457 hb; replace BK458 := tB BK458 hb; replace HB := tW HB hb; (try clear hb); (try clear hb2); (try clear hk); (try clear hi)))
 (try simp only [Act.put, List.setIfInBounds_toArray, List.set_cons_zero, List.set_cons_succ])
 go_cut [37] (fun v37 wc => ∃ (kq : Nat) (x37_6 : Bool), v37 = .bool x37_6 ∧ Aside0 (slotmeshlaw12_CellsValid.j0 kq a4 t459 x37_6 l0_0 l0_1 l0_2 a1_0 a1_1 a2_0 a2_1 a2_2 a2_3 a3_0 a3_1 = some r) ∧ Aside0 (kq ≤ k) ∧ Aside0 (wc.heap[gb455]? = some (.cells #[(.slice A0_0 l0_0.length c0_0), (.slice A0_1 l0_1.length c0_1), (.slice A0_2 l0_2.length c0_2)] 26 (0, 0))) ∧ Aside0 (wc.heap[gb456]? = some (.cells #[.int .i64 a1_0, .int .i64 a1_1] 28 (0, 0))) ∧ Aside0 (wc.heap[gb457]? = some (.cells #[.int .i64 a2_0, .int .i64 a2_1, .int .i64 a2_2, .int .i64 a2_3] 32 (0, 0))) ∧ Aside0 (wc.heap[gb458]? = some (.cells #[.int .i64 a3_0, .int .i64 a3_1] 30 (0, 0))) ∧ Aside0 (Below w.heap.size w wc))
 case first =>
  have H := HC7.out
  clear HC7
  replace H := Option.bind_eq_some_iff.mp H
  obtain ⟨t460, A130, H⟩ := H
  replace H : (if t460 = true then ((slotmeshref12_Valid.f l0_0 l0_1 l0_2 a1_0 a1_1).bind fun t461 => (slotmeshlaw12_CellsValid.j0 k a4 t459 (!t461) l0_0 l0_1 l0_2 a1_0 a1_1 a2_0 a2_1 a2_2 a2_3 a3_0 a3_1)) else (slotmeshlaw12_CellsValid.j0 k a4 t459 true l0_0 l0_1 l0_2 a1_0 a1_1 a2_0 a2_1 a2_2 a2_3 a3_0 a3_1)) = some r := H
  have A13 := Aside0.mk A130
  clear A130
  by_cases c14 : t460 = true
  ·subst c14
   have H1 : ((slotmeshref12_Valid.f l0_0 l0_1 l0_2 a1_0 a1_1).bind fun t461 => (slotmeshlaw12_CellsValid.j0 k a4 t459 (!t461) l0_0 l0_1 l0_2 a1_0 a1_1 a2_0 a2_1 a2_2 a2_3 a3_0 a3_1)) = some r := by rw [if_pos rfl] at H; exact H
   clear H
   have H := H1
   clear H1
   replace H := Option.bind_eq_some_iff.mp H
   obtain ⟨t461, A150, H⟩ := H
   replace H : (slotmeshlaw12_CellsValid.j0 k a4 t459 (!t461) l0_0 l0_1 l0_2 a1_0 a1_1 a2_0 a2_1 a2_2 a2_3 a3_0 a3_1) = some r := H
   have A15 := Aside0.mk A150
   clear A150
   have H' := Aside0.mk H
   clear H
   have hnb16 := NB455_456.out
   have hnc16 := NB456_455.out
   have hnb17 := NB455_457.out
   have hnc17 := NB457_455.out
   have hnb18 := NB455_458.out
   have hnc18 := NB458_455.out
   have hcz19_0 : w12.cell? ⟨gb455, 0, none⟩ = some (.slice A0_0 l0_0.length c0_0) := bt BK455 0
   have hcz19_1 : w12.cell? ⟨gb455, 1, none⟩ = some (.slice A0_1 l0_1.length c0_1) := bt BK455 1
   have hcz19_2 : w12.cell? ⟨gb455, 2, none⟩ = some (.slice A0_2 l0_2.length c0_2) := bt BK455 2
   have hfz19_0 := blk_frozen BK455.out 0
   have hfz19_1 := blk_frozen BK455.out 1
   have hfz19_2 := blk_frozen BK455.out 2
   go_wp2_with (first | ((with_reducible refine gate_callee (f := 11) rfl ?_); refine gC (some 30) Try.func11 #[.agg #[.slice A0_0 l0_0.length c0_0, .slice A0_1 l0_1.length c0_1, .slice A0_2 l0_2.length c0_2]] ?_; (with_reducible refine (slotmeshref12_Few.calls _ _ l0_0 _ _ l0_1 _ _ l0_2 true _ ?side1 ?side2 ?side3 ?side4 ?side5 ?side6 A13.out).mono ?_); (case side1 => exact sC (Kd.C_below HR0_0.out HB.out)); (case side2 => exact HC0_0.out); (case side3 => exact sC (Kd.C_below HR0_1.out HB.out)); (case side4 => exact HC0_1.out); (case side5 => exact sC (Kd.C_below HR0_2.out HB.out)); (case side6 => exact HC0_2.out); rintro e w20 ⟨rfl, hb⟩; refine ⟨_, rfl, ?_⟩; replace BK455 := tB BK455 hb; replace BK456 := tB BK456 hb; replace BK457 := tB BK457 hb; replace BK458 := tB BK458 hb; replace HB := tW HB hb; (try clear hb); (try clear hb2); (try clear hk); (try clear hi); have hcz21_0 : w20.cell? ⟨gb455, 0, none⟩ = some (.slice A0_0 l0_0.length c0_0) := bt BK455 0; have hcz21_1 : w20.cell? ⟨gb455, 1, none⟩ = some (.slice A0_1 l0_1.length c0_1) := bt BK455 1; have hcz21_2 : w20.cell? ⟨gb455, 2, none⟩ = some (.slice A0_2 l0_2.length c0_2) := bt BK455 2; have hfz21_0 := blk_frozen BK455.out 0; have hfz21_1 := blk_frozen BK455.out 1; have hfz21_2 := blk_frozen BK455.out 2; have hnb22 := NB456_457.out; have hnc22 := NB457_456.out; have hnb23 := NB456_458.out; have hnc23 := NB458_456.out; have hcz24_0 : w20.cell? ⟨gb456, 0, none⟩ = some (.int .i64 a1_0) := bt BK456 0; have hcz24_1 : w20.cell? ⟨gb456, 1, none⟩ = some (.int .i64 a1_1) := bt BK456 1; have hfz24_0 := blk_frozen BK456.out 0; have hfz24_1 := blk_frozen BK456.out 1) | (go_at_call 18; (with_reducible refine (slotmeshref12_Valid.calls _ _ l0_0 _ _ l0_1 _ _ l0_2 a1_0 a1_1 t461 _ ?side1 ?side2 ?side3 ?side4 ?side5 ?side6 A15.out).mono ?_); (case side1 => exact sC (Kd.C_below HR0_0.out HB.out)); (case side2 => exact HC0_0.out); (case side3 => exact sC (Kd.C_below HR0_1.out HB.out)); (case side4 => exact HC0_1.out); (case side5 => exact sC (Kd.C_below HR0_2.out HB.out)); (case side6 => exact HC0_2.out); rintro e w25 ⟨rfl, hb⟩; replace BK455 := tB BK455 hb; replace BK456 := tB BK456 hb; replace BK457 := tB BK457 hb; replace BK458 := tB BK458 hb; replace HB := tW HB hb; (try clear hb); (try clear hb2); (try clear hk); (try clear hi)))
   go_meet
   case rel => exact ⟨_, (!t461), aR, H', ⟨by first | omega | exact Nat.le_refl _⟩, ⟨sB BK455⟩, ⟨sB BK456⟩, ⟨sB BK457⟩, ⟨sB BK458⟩, ⟨sW HB⟩⟩
  replace c14 := Bool.eq_false_iff.mpr c14
  subst c14
  have H1 : (slotmeshlaw12_CellsValid.j0 k a4 t459 true l0_0 l0_1 l0_2 a1_0 a1_1 a2_0 a2_1 a2_2 a2_3 a3_0 a3_1) = some r := by rw [if_neg (show ¬ (false = true) by decide)] at H; exact H
  clear H
  have H := H1
  clear H1
  have H' := Aside0.mk H
  clear H
  have hnb26 := NB455_456.out
  have hnc26 := NB456_455.out
  have hnb27 := NB455_457.out
  have hnc27 := NB457_455.out
  have hnb28 := NB455_458.out
  have hnc28 := NB458_455.out
  have hcz29_0 : w12.cell? ⟨gb455, 0, none⟩ = some (.slice A0_0 l0_0.length c0_0) := bt BK455 0
  have hcz29_1 : w12.cell? ⟨gb455, 1, none⟩ = some (.slice A0_1 l0_1.length c0_1) := bt BK455 1
  have hcz29_2 : w12.cell? ⟨gb455, 2, none⟩ = some (.slice A0_2 l0_2.length c0_2) := bt BK455 2
  have hfz29_0 := blk_frozen BK455.out 0
  have hfz29_1 := blk_frozen BK455.out 1
  have hfz29_2 := blk_frozen BK455.out 2
  go_wp2_with (first | ((with_reducible refine gate_callee (f := 11) rfl ?_); refine gC (some 30) Try.func11 #[.agg #[.slice A0_0 l0_0.length c0_0, .slice A0_1 l0_1.length c0_1, .slice A0_2 l0_2.length c0_2]] ?_; (with_reducible refine (slotmeshref12_Few.calls _ _ l0_0 _ _ l0_1 _ _ l0_2 false _ ?side1 ?side2 ?side3 ?side4 ?side5 ?side6 A13.out).mono ?_); (case side1 => exact sC (Kd.C_below HR0_0.out HB.out)); (case side2 => exact HC0_0.out); (case side3 => exact sC (Kd.C_below HR0_1.out HB.out)); (case side4 => exact HC0_1.out); (case side5 => exact sC (Kd.C_below HR0_2.out HB.out)); (case side6 => exact HC0_2.out); rintro e w30 ⟨rfl, hb⟩; refine ⟨_, rfl, ?_⟩; replace BK455 := tB BK455 hb; replace BK456 := tB BK456 hb; replace BK457 := tB BK457 hb; replace BK458 := tB BK458 hb; replace HB := tW HB hb; (try clear hb); (try clear hb2); (try clear hk); (try clear hi)))
  go_meet
  case rel => exact ⟨_, (true), aR, H', ⟨by first | omega | exact Nat.le_refl _⟩, ⟨sB BK455⟩, ⟨sB BK456⟩, ⟨sB BK457⟩, ⟨sB BK458⟩, ⟨sW HB⟩⟩
 case rest =>
  clear HC7
  try clear c1
  try clear c2
  try clear p2
  try clear c4
  try clear c10
  try clear c11
  try clear c14
  try clear c16
  try clear c17
  try clear c18
  try clear c22
  try clear c23
  try clear c26
  try clear c27
  try clear c28
  try clear hcz19_0 hcz19_1 hcz19_2 hfz19_0 hfz19_1 hfz19_2
  try clear hcz21_0 hcz21_1 hcz21_2 hfz21_0 hfz21_1 hfz21_2
  try clear hcz24_0 hcz24_1 hfz24_0 hfz24_1
  try clear hcz29_0 hcz29_1 hcz29_2 hfz29_0 hfz29_1 hfz29_2
  obtain ⟨kq, x37_6, rfl, HA, HJ6, BK455, BK456, BK457, BK458, HB⟩ := hcut
  cases kq with
  | zero => exact absurd HA.out (by simp [slotmeshlaw12_CellsValid.j0])
  | succ kj6 =>
   have H := HA.out
   clear HA
   simp only [slotmeshlaw12_CellsValid.j0] at H
   by_cases c31 : x37_6 = true
   ·subst c31
    have H1 : (some t459) = some r := by rw [if_pos rfl] at H; exact H
    clear H
    have H := H1
    clear H1
    obtain rfl := Option.some.inj H
    go_wp2
    go_ret
    exact ⟨aE, sW HB⟩
   replace c31 := Bool.eq_false_iff.mpr c31
   subst c31
   have H1 : ((cells_Drop.f l0_0 l0_1 l0_2 a3_0 a3_1).bind fun bt462 => ((cells_Expire.f l0_0 l0_1 l0_2 a4).bind fun bt471 => ((some (([(⟨bt462.1, bt462.2.1, bt462.2.2⟩ : S26), (⟨bt471.1, bt471.2.1, bt471.2.2⟩ : S26)] : List (S26)) : List (S26))).bind fun y480 => (slotmeshlaw12_CellsValid.l0 kj6 t459 y480 (y480.length : Int) 0 l0_0 l0_1 l0_2 a1_0 a1_1 a2_0 a2_1 a2_2 a2_3)))) = some r := by rw [if_neg (show ¬ (false = true) by decide)] at H; exact H
   clear H
   have H := H1
   clear H1
   replace H := Option.bind_eq_some_iff.mp H
   obtain ⟨⟨t462, t465, t468⟩, A320, H⟩ := H
   replace H : ((cells_Expire.f l0_0 l0_1 l0_2 a4).bind fun bt471 => ((some (([(⟨t462, t465, t468⟩ : S26), (⟨bt471.1, bt471.2.1, bt471.2.2⟩ : S26)] : List (S26)) : List (S26))).bind fun y480 => (slotmeshlaw12_CellsValid.l0 kj6 t459 y480 (y480.length : Int) 0 l0_0 l0_1 l0_2 a1_0 a1_1 a2_0 a2_1 a2_2 a2_3))) = some r := H
   have A32 := Aside0.mk A320
   clear A320
   replace H := Option.bind_eq_some_iff.mp H
   obtain ⟨⟨t471, t474, t477⟩, A330, H⟩ := H
   replace H : ((some (([(⟨t462, t465, t468⟩ : S26), (⟨t471, t474, t477⟩ : S26)] : List (S26)) : List (S26))).bind fun y480 => (slotmeshlaw12_CellsValid.l0 kj6 t459 y480 (y480.length : Int) 0 l0_0 l0_1 l0_2 a1_0 a1_1 a2_0 a2_1 a2_2 a2_3)) = some r := H
   have A33 := Aside0.mk A330
   clear A330
   obtain ⟨y480, hy480⟩ : ∃ y_ : List (S26), y_ = (([(⟨t462, t465, t468⟩ : S26), (⟨t471, t474, t477⟩ : S26)] : List (S26))) := ⟨_, rfl⟩
   replace H : (slotmeshlaw12_CellsValid.l0 kj6 t459 y480 (y480.length : Int) 0 l0_0 l0_1 l0_2 a1_0 a1_1 a2_0 a2_1 a2_2 a2_3) = some r := by first | (rw [hy480]; with_reducible exact H) | (have H2_ := (Option.bind_some _ _).symm.trans H; rw [hy480]; with_reducible exact H2_) | (have H2_ := (Option.bind_some _ _).symm.trans H; with_reducible exact H2_) | with_reducible exact H | (rw [hy480]; exact H) | exact H
   have Ny480 := Aside0.mk hy480
   clear hy480
   have H' := Aside0.mk H
   clear H
   try go_wp2
   replace BK455 := Aside0.mk (blk_drew BK455.out)
   replace BK456 := Aside0.mk (blk_drew BK456.out)
   replace BK457 := Aside0.mk (blk_drew BK457.out)
   replace BK458 := Aside0.mk (blk_drew BK458.out)
   replace HB := Aside0.mk (below_drew1 HB.out)
   refine start_ (n := 9) (S := fun w' => w'.cell? ⟨gb455, 0, none⟩ = some (.slice A0_0 l0_0.length c0_0) ∧ w'.cell? ⟨gb455, 1, none⟩ = some (.slice A0_1 l0_1.length c0_1) ∧ w'.cell? ⟨gb455, 2, none⟩ = some (.slice A0_2 l0_2.length c0_2) ∧ w'.cell? ⟨gb458, 0, none⟩ = some (.int .i64 a3_0) ∧ w'.cell? ⟨gb458, 1, none⟩ = some (.int .i64 a3_1)) (ds := []) #[false, false, false, false, false, false, false, false, false] (by kernel_rfl) rfl rfl ⟨bt BK455 0, bt BK455 1, bt BK455 2, bt BK458 0, bt BK458 1⟩ (fun hHeld => ?_); refine with_tabW slotmeshlaw12_CellsValid.tab4 slotmeshlaw12_CellsValid.bits4 (fun HT_ HW_ => ?_)
   generalize wc.drew = w34 at BK455 BK456 BK457 BK458 HB hHeld ⊢
   refine run_ [(4, some 43), (8, some 47), (0, some 39), (1, some 40), (3, some 42)] ?_
   iterate 2 (refine runP (v := ?_) (a' := ?_) rfl rfl (any_of HT_.out (by kernel_rfl)) (fun _ _ _ h => h) (Or.inl ⟨by rfl, ?_⟩) ?_ ?_; rotate_left; (· intro w'; go_simp; with_reducible rfl); rotate_left; (· simp only [Act.put, List.setIfInBounds_toArray, List.set_cons_zero, List.set_cons_succ, i64_w, i32_w]; rfl))
   iterate 3 (refine runT (v := ?_) (a' := ?_) rfl rfl (take_ofW HT_.out HW_.out (by kernel_rfl)) (fun _ _ _ h => h) (Or.inl ⟨by rfl, ?_⟩) hHeld ?_ ?_; rotate_left; (· rintro w' ⟨s0, s1, s2, s3, s4⟩; go_simp; with_reducible rfl); rotate_left; (· simp only [Act.put, List.setIfInBounds_toArray, List.set_cons_zero, List.set_cons_succ, i64_w, i32_w]; rfl))
   refine runE ?_
   refine one_ (i := 2) (N := some 41) #[true, true, true, true, true, false, false, false, true] rfl rfl (one_of HT_.out (by kernel_rfl)) (by decide) (fun K hK => ?_)
   refine gO Try.func21 #[.agg #[.slice A0_0 l0_0.length c0_0, .slice A0_1 l0_1.length c0_1, .slice A0_2 l0_2.length c0_2], .agg #[.int .i64 a3_0, .int .i64 a3_1]] ?_
   with_reducible refine (cells_Drop.calls _ _ l0_0 _ _ l0_1 _ _ l0_2 a3_0 a3_1 t462 t465 t468 _ ?side1 ?side2 ?side3 ?side4 ?side5 ?side6 A32.out).mono ?_
   (case side1 => exact sC (Kd.C_below HR0_0.out HB.out))
   (case side2 => exact HC0_0.out)
   (case side3 => exact sC (Kd.C_below HR0_1.out HB.out))
   (case side4 => exact HC0_1.out)
   (case side5 => exact sC (Kd.C_below HR0_2.out HB.out))
   (case side6 => exact HC0_2.out)
   rintro e w35 ⟨v463, v466, v469, rfl, ho0, ho1, ho2, hb⟩
   refine ⟨_, rfl, ?_⟩
   have HO464 := Aside0.mk (Kd.R_lower (Kd.R_newB ho0 (g := gb457) (o := .cells #[.int .i64 a2_0, .int .i64 a2_1, .int .i64 a2_2, .int .i64 a2_3] 32 (0, 0)) (sB BK457)) (below_size (sW HB)))
   have HO467 := Aside0.mk (Kd.R_lower ho1 (below_size (sW HB)))
   have HO470 := Aside0.mk (Kd.R_lower ho2 (below_size (sW HB)))
   replace BK455 := tB BK455 hb
   replace BK456 := tB BK456 hb
   replace BK457 := tB BK457 hb
   replace BK458 := tB BK458 hb
   replace HB := tW HB hb
   (try clear hb)
   (try clear hb2)
   (try clear hk)
   (try clear hi)
   (try clear ho0)
   (try clear ho1)
   (try clear ho2)
   refine hK.out _ _ ⟨bt BK455 0, bt BK455 1, bt BK455 2, bt BK458 0, bt BK458 1⟩ (fun hHeld => ?_)
   clear hK K
   refine norm_ (a' := ?_) ?_ ?_
   rotate_left
   ·show Act.put _ (some 41) _ = _
    simp only [Act.put, List.setIfInBounds_toArray, List.set_cons_zero, List.set_cons_succ, i64_w, i32_w]
    rfl
   refine one_ (i := 5) (N := some 44) #[true, true, true, true, true, true, false, false, true] rfl rfl (one_of HT_.out (by kernel_rfl)) (by decide) (fun K hK => ?_)
   refine gO Try.func23 #[.agg #[.slice A0_0 l0_0.length c0_0, .slice A0_1 l0_1.length c0_1, .slice A0_2 l0_2.length c0_2], .int .i64 a4] ?_
   with_reducible refine (cells_Expire.calls _ _ l0_0 _ _ l0_1 _ _ l0_2 a4 t471 t474 t477 _ ?side1 ?side2 ?side3 ?side4 ?side5 ?side6 A33.out).mono ?_
   (case side1 => exact sC (Kd.C_below HR0_0.out HB.out))
   (case side2 => exact HC0_0.out)
   (case side3 => exact sC (Kd.C_below HR0_1.out HB.out))
   (case side4 => exact HC0_1.out)
   (case side5 => exact sC (Kd.C_below HR0_2.out HB.out))
   (case side6 => exact HC0_2.out)
   rintro e w36 ⟨v472, v475, v478, rfl, ho0, ho1, ho2, hb⟩
   refine ⟨_, rfl, ?_⟩
   have HO473 := Aside0.mk (Kd.R_lower (Kd.R_newB (Kd.R_new' ho0 (Kd.R_lt (sR HO464))) (g := gb457) (o := .cells #[.int .i64 a2_0, .int .i64 a2_1, .int .i64 a2_2, .int .i64 a2_3] 32 (0, 0)) (sB BK457)) (below_size (sW HB)))
   replace HO464 := eR HO464 ho0 hb
   have HO476 := nR ho1 HO467 HB
   replace HO467 := eR HO467 ho1 hb
   have HO479 := nR ho2 HO470 HB
   replace HO470 := eR HO470 ho2 hb
   replace BK455 := tB BK455 hb
   replace BK456 := tB BK456 hb
   replace BK457 := tB BK457 hb
   replace BK458 := tB BK458 hb
   replace HB := tW HB hb
   (try clear hb)
   (try clear hb2)
   (try clear hk)
   (try clear hi)
   (try clear ho0)
   (try clear ho1)
   (try clear ho2)
   obtain ⟨Ao37, co37, eo37⟩ := Kd.R_slice HO464.out
   (first | subst eo37 | (injection eo37 with f1_ f2_ f3_; have f4_ := f1_.symm; have f5_ := f3_.symm; clear f1_ f2_ f3_; subst f4_; subst f5_))
   obtain ⟨Ao38, co38, eo38⟩ := Kd.R_slice HO467.out
   (first | subst eo38 | (injection eo38 with f1_ f2_ f3_; have f4_ := f1_.symm; have f5_ := f3_.symm; clear f1_ f2_ f3_; subst f4_; subst f5_))
   obtain ⟨Ao39, co39, eo39⟩ := Kd.R_slice HO470.out
   (first | subst eo39 | (injection eo39 with f1_ f2_ f3_; have f4_ := f1_.symm; have f5_ := f3_.symm; clear f1_ f2_ f3_; subst f4_; subst f5_))
   obtain ⟨Ao40, co40, eo40⟩ := Kd.R_slice HO473.out
   (first | subst eo40 | (injection eo40 with f1_ f2_ f3_; have f4_ := f1_.symm; have f5_ := f3_.symm; clear f1_ f2_ f3_; subst f4_; subst f5_))
   obtain ⟨Ao41, co41, eo41⟩ := Kd.R_slice HO476.out
   (first | subst eo41 | (injection eo41 with f1_ f2_ f3_; have f4_ := f1_.symm; have f5_ := f3_.symm; clear f1_ f2_ f3_; subst f4_; subst f5_))
   obtain ⟨Ao42, co42, eo42⟩ := Kd.R_slice HO479.out
   (first | subst eo42 | (injection eo42 with f1_ f2_ f3_; have f4_ := f1_.symm; have f5_ := f3_.symm; clear f1_ f2_ f3_; subst f4_; subst f5_))
   refine hK.out _ _ ⟨bt BK455 0, bt BK455 1, bt BK455 2, bt BK458 0, bt BK458 1⟩ (fun hHeld => ?_)
   clear hK K
   refine norm_ (a' := ?_) ?_ ?_
   rotate_left
   ·show Act.put _ (some 44) _ = _
    simp only [Act.put, List.setIfInBounds_toArray, List.set_cons_zero, List.set_cons_succ, i64_w, i32_w]
    rfl
   refine one_ (i := 6) (N := some 45) #[true, true, true, true, true, true, true, false, true] rfl rfl (one_of HT_.out (by kernel_rfl)) (by decide) (fun K hK => ?_)
   refine Kd.N_lit_step k26 _ 26 ?hg (N' := 45) ?hd (xs := ([(⟨t462, t465, t468⟩ : S26), (⟨t471, t474, t477⟩ : S26)] : List (S26))) (inner := [.slice Ao37 t462.length co37, .slice Ao38 t465.length co38, .slice Ao39 t468.length co39, .slice Ao40 t471.length co40, .slice Ao41 t474.length co41, .slice Ao42 t477.length co42]) (ok := (fun k_ => k_ ≠ gb455 ∧ k_ ≠ gb456 ∧ k_ ≠ gb457 ∧ k_ ≠ gb458)) (okp := (fun k_ => k_ ≠ gb455 ∧ k_ ≠ gb456 ∧ k_ ≠ gb457 ∧ k_ ≠ gb458)) ?hr ?hp (fun _ hk => hk) ((show ∀ k_, w36.heap.size ≤ k_ → (fun k_ => k_ ≠ gb455 ∧ k_ ≠ gb456 ∧ k_ ≠ gb457 ∧ k_ ≠ gb458) k_ from fun k_ hk => ⟨Kd.freshB (g := gb455) (o := .cells #[.slice A0_0 l0_0.length c0_0, .slice A0_1 l0_1.length c0_1, .slice A0_2 l0_2.length c0_2] 26 (0, 0)) (sB BK455) k_ hk, Kd.freshB (g := gb456) (o := .cells #[.int .i64 a1_0, .int .i64 a1_1] 28 (0, 0)) (sB BK456) k_ hk, Kd.freshB (g := gb457) (o := .cells #[.int .i64 a2_0, .int .i64 a2_1, .int .i64 a2_2, .int .i64 a2_3] 32 (0, 0)) (sB BK457) k_ hk, Kd.freshB (g := gb458) (o := .cells #[.int .i64 a3_0, .int .i64 a3_1] 30 (0, 0)) (sB BK458) k_ hk⟩) _ (Nat.le_refl _)) (Below.refl _ _) (Nat.le_refl _) (by simp) ?_; (case hd => rfl); (case hg => rfl); (case hr => first | (go_simp; done) | (go_simp; rfl)); (case hp => exact (Reps.c3 (show Kd.FK k26 _ _ (⟨t462, t465, t468⟩ : S26) [.slice Ao37 t462.length co37, .slice Ao38 t465.length co38, .slice Ao39 t468.length co39] from (k26_mkF _ _ (⟨t462, t465, t468⟩ : S26) (Kd.R_reads' (Kd.R_mono (ok' := (fun k_ => k_ ≠ gb455 ∧ k_ ≠ gb456 ∧ k_ ≠ gb457 ∧ k_ ≠ gb458)) (Kd.R_types (Kd.R_types (Kd.R_types (HO464.out) BK455.out (by decide)) BK456.out (by decide)) BK458.out (by decide)) (fun k_ hk => ⟨hk.1.1.2, ⟨hk.1.2, ⟨hk.1.1.1.1.2, hk.2⟩⟩⟩))).2.1 (Kd.R_F (Kd.R_mono (ok' := (fun k_ => k_ ≠ gb455 ∧ k_ ≠ gb456 ∧ k_ ≠ gb457 ∧ k_ ≠ gb458)) (Kd.R_types (Kd.R_types (Kd.R_types (HO464.out) BK455.out (by decide)) BK456.out (by decide)) BK458.out (by decide)) (fun k_ hk => ⟨hk.1.1.2, ⟨hk.1.2, ⟨hk.1.1.1.1.2, hk.2⟩⟩⟩))) (Kd.R_reads' (Kd.R_mono (ok' := (fun k_ => k_ ≠ gb455 ∧ k_ ≠ gb456 ∧ k_ ≠ gb457 ∧ k_ ≠ gb458)) (Kd.R_types (Kd.R_types (Kd.R_types (Kd.R_types (HO467.out) BK455.out (by decide)) BK456.out (by decide)) BK457.out (by decide)) BK458.out (by decide)) (fun k_ hk => ⟨hk.1.1.1.2, ⟨hk.1.1.2, ⟨hk.1.2, hk.2⟩⟩⟩))).2.1 (Kd.R_F (Kd.R_mono (ok' := (fun k_ => k_ ≠ gb455 ∧ k_ ≠ gb456 ∧ k_ ≠ gb457 ∧ k_ ≠ gb458)) (Kd.R_types (Kd.R_types (Kd.R_types (Kd.R_types (HO467.out) BK455.out (by decide)) BK456.out (by decide)) BK457.out (by decide)) BK458.out (by decide)) (fun k_ hk => ⟨hk.1.1.1.2, ⟨hk.1.1.2, ⟨hk.1.2, hk.2⟩⟩⟩))) (Kd.R_reads' (Kd.R_mono (ok' := (fun k_ => k_ ≠ gb455 ∧ k_ ≠ gb456 ∧ k_ ≠ gb457 ∧ k_ ≠ gb458)) (Kd.R_types (Kd.R_types (Kd.R_types (Kd.R_types (HO470.out) BK455.out (by decide)) BK456.out (by decide)) BK457.out (by decide)) BK458.out (by decide)) (fun k_ hk => ⟨hk.1.1.1.2, ⟨hk.1.1.2, ⟨hk.1.2, hk.2⟩⟩⟩))).2.1 (Kd.R_F (Kd.R_mono (ok' := (fun k_ => k_ ≠ gb455 ∧ k_ ≠ gb456 ∧ k_ ≠ gb457 ∧ k_ ≠ gb458)) (Kd.R_types (Kd.R_types (Kd.R_types (Kd.R_types (HO470.out) BK455.out (by decide)) BK456.out (by decide)) BK457.out (by decide)) BK458.out (by decide)) (fun k_ hk => ⟨hk.1.1.1.2, ⟨hk.1.1.2, ⟨hk.1.2, hk.2⟩⟩⟩))))) (Reps.c3 (show Kd.FK k26 _ _ (⟨t471, t474, t477⟩ : S26) [.slice Ao40 t471.length co40, .slice Ao41 t474.length co41, .slice Ao42 t477.length co42] from (k26_mkF _ _ (⟨t471, t474, t477⟩ : S26) (Kd.R_reads' (Kd.R_mono (ok' := (fun k_ => k_ ≠ gb455 ∧ k_ ≠ gb456 ∧ k_ ≠ gb457 ∧ k_ ≠ gb458)) (Kd.R_types (Kd.R_types (Kd.R_types (HO473.out) BK455.out (by decide)) BK456.out (by decide)) BK458.out (by decide)) (fun k_ hk => ⟨hk.1.1.2, ⟨hk.1.2, ⟨hk.1.1.1.2, hk.2⟩⟩⟩))).2.1 (Kd.R_F (Kd.R_mono (ok' := (fun k_ => k_ ≠ gb455 ∧ k_ ≠ gb456 ∧ k_ ≠ gb457 ∧ k_ ≠ gb458)) (Kd.R_types (Kd.R_types (Kd.R_types (HO473.out) BK455.out (by decide)) BK456.out (by decide)) BK458.out (by decide)) (fun k_ hk => ⟨hk.1.1.2, ⟨hk.1.2, ⟨hk.1.1.1.2, hk.2⟩⟩⟩))) (Kd.R_reads' (Kd.R_mono (ok' := (fun k_ => k_ ≠ gb455 ∧ k_ ≠ gb456 ∧ k_ ≠ gb457 ∧ k_ ≠ gb458)) (Kd.R_types (Kd.R_types (Kd.R_types (Kd.R_types (HO476.out) BK455.out (by decide)) BK456.out (by decide)) BK457.out (by decide)) BK458.out (by decide)) (fun k_ hk => ⟨hk.1.1.1.2, ⟨hk.1.1.2, ⟨hk.1.2, hk.2⟩⟩⟩))).2.1 (Kd.R_F (Kd.R_mono (ok' := (fun k_ => k_ ≠ gb455 ∧ k_ ≠ gb456 ∧ k_ ≠ gb457 ∧ k_ ≠ gb458)) (Kd.R_types (Kd.R_types (Kd.R_types (Kd.R_types (HO476.out) BK455.out (by decide)) BK456.out (by decide)) BK457.out (by decide)) BK458.out (by decide)) (fun k_ hk => ⟨hk.1.1.1.2, ⟨hk.1.1.2, ⟨hk.1.2, hk.2⟩⟩⟩))) (Kd.R_reads' (Kd.R_mono (ok' := (fun k_ => k_ ≠ gb455 ∧ k_ ≠ gb456 ∧ k_ ≠ gb457 ∧ k_ ≠ gb458)) (Kd.R_types (Kd.R_types (Kd.R_types (Kd.R_types (HO479.out) BK455.out (by decide)) BK456.out (by decide)) BK457.out (by decide)) BK458.out (by decide)) (fun k_ hk => ⟨hk.1.1.1.2, ⟨hk.1.1.2, ⟨hk.1.2, hk.2⟩⟩⟩))).2.1 (Kd.R_F (Kd.R_mono (ok' := (fun k_ => k_ ≠ gb455 ∧ k_ ≠ gb456 ∧ k_ ≠ gb457 ∧ k_ ≠ gb458)) (Kd.R_types (Kd.R_types (Kd.R_types (Kd.R_types (HO479.out) BK455.out (by decide)) BK456.out (by decide)) BK457.out (by decide)) BK458.out (by decide)) (fun k_ hk => ⟨hk.1.1.1.2, ⟨hk.1.1.2, ⟨hk.1.2, hk.2⟩⟩⟩))))) (Reps.none _ _))))
   intro v481 w43 ho44 hb hg_ hnew_
   clear hg_ hnew_
   (first | rw [← Ny480.out] at ho44 | (simp only [Int.reduceToNat] at ho44; rw [← Ny480.out] at ho44))
   have HO482 := Aside0.mk (Kd.N_lower ho44 (below_size (sW HB)))
   replace BK455 := tB BK455 hb
   replace BK456 := tB BK456 hb
   replace BK457 := tB BK457 hb
   replace BK458 := tB BK458 hb
   replace HB := tW HB hb
   clear HO464 HO467 HO470 HO473 HO476 HO479
   clear hb ho44
   obtain ⟨Ao45, co45, eo45⟩ := Kd.N_slice HO482.out
   (first | subst eo45 | (injection eo45 with f1_ f2_ f3_; have f4_ := f1_.symm; have f5_ := f3_.symm; clear f1_ f2_ f3_; subst f4_; subst f5_))
   refine hK.out _ _ ⟨bt BK455 0, bt BK455 1, bt BK455 2, bt BK458 0, bt BK458 1⟩ (fun hHeld => ?_)
   clear hK K
   refine norm_ (a' := ?_) ?_ ?_
   rotate_left
   ·show Act.put _ (some 45) _ = _
    simp only [Act.put, List.setIfInBounds_toArray, List.set_cons_zero, List.set_cons_succ, i64_w, i32_w]
    rfl
   refine run_ [(7, some 46)] ?_
   refine runP (v := ?_) (a' := ?_) rfl rfl (any_of HT_.out (by kernel_rfl)) (fun _ _ _ h => h) (Or.inl ⟨by rfl, ?_⟩) ?_ ?_; rotate_left; (· intro w'; go_simp; with_reducible rfl); rotate_left; (· simp only [Act.put, List.setIfInBounds_toArray, List.set_cons_zero, List.set_cons_succ, i64_w, i32_w]; rfl)
   refine runE ?_
   refine done_ (done_of HT_.out (by kernel_rfl)) ?_
   try go_wp2
   go_loopg [47] kj6 (fun kq v47 w' => ∃ (x47_2 : Int), v47 = .int .i64 x47_2 ∧ Aside0 (slotmeshlaw12_CellsValid.l0 kq t459 y480 (y480.length : Int) x47_2 l0_0 l0_1 l0_2 a1_0 a1_1 a2_0 a2_1 a2_2 a2_3 = some r) ∧ Aside0 (kq ≤ kj6) ∧ Aside0 (Kd.N k26 26 w' w.heap.size (fun k_ => k_ ≠ gb455 ∧ k_ ≠ gb456 ∧ k_ ≠ gb457 ∧ k_ ≠ gb458) (.slice Ao45 y480.length co45) y480) ∧ Aside0 (w'.heap[gb455]? = some (.cells #[(.slice A0_0 l0_0.length c0_0), (.slice A0_1 l0_1.length c0_1), (.slice A0_2 l0_2.length c0_2)] 26 (0, 0))) ∧ Aside0 (w'.heap[gb456]? = some (.cells #[.int .i64 a1_0, .int .i64 a1_1] 28 (0, 0))) ∧ Aside0 (w'.heap[gb457]? = some (.cells #[.int .i64 a2_0, .int .i64 a2_1, .int .i64 a2_2, .int .i64 a2_3] 32 (0, 0))) ∧ Aside0 (w'.heap[gb458]? = some (.cells #[.int .i64 a3_0, .int .i64 a3_1] 30 (0, 0))) ∧ Aside0 (Below w.heap.size w w'))
   case atStart => exact ⟨(0), aR, H', ⟨Nat.le_refl _⟩, ⟨sN HO482⟩, ⟨sB BK455⟩, ⟨sB BK456⟩, ⟨sB BK457⟩, ⟨sB BK458⟩, ⟨sW HB⟩⟩
   case round =>
    clear H'
    try clear c1
    try clear c2
    try clear p2
    try clear c3
    try clear c4
    try clear c10
    try clear c11
    try clear c14
    try clear c16
    try clear c17
    try clear c18
    try clear c21
    try clear c22
    try clear c23
    try clear c26
    try clear c27
    try clear c28
    try clear c31
    try clear hcz19_0 hcz19_1 hcz19_2 hfz19_0 hfz19_1 hfz19_2
    try clear hcz21_0 hcz21_1 hcz21_2 hfz21_0 hfz21_1 hfz21_2
    try clear hcz24_0 hcz24_1 hfz24_0 hfz24_1
    try clear hcz29_0 hcz29_1 hcz29_2 hfz29_0 hfz29_1 hfz29_2
    try clear p2
    obtain ⟨x47_2, rfl, HA, HK2, HO_45, BK455, BK456, BK457, BK458, HB⟩ := hrel
    cases gk with
    | zero => exact absurd HA.out (by simp [slotmeshlaw12_CellsValid.l0])
    | succ k2 =>
     have H := HA.out
     clear HA
     simp only [slotmeshlaw12_CellsValid.l0] at H
     by_cases c46 : x47_2 < (y480.length : Int)
     ·rw [if_pos c46] at H
      have c46b0 : decide (x47_2 < (y480.length : Int)) = true := decide_eq_true c46
      clear c46
      by_cases c47 : 0 ≤ x47_2
      ·rw [if_pos c47] at H
       have c47b0 : decide (0 ≤ x47_2) = true := decide_eq_true c47
       clear c47
       by_cases c48 : x47_2 < (y480.length : Int)
       ·rw [if_pos c48] at H
        have c48b0 : decide (x47_2 < (y480.length : Int)) = true := decide_eq_true c48
        clear c48
        replace H := Option.bind_eq_some_iff.mp H
        obtain ⟨⟨t485, t486, t487⟩, A490, H⟩ := H
        replace H : ((slotmeshref12_Valid.f ((rd_T26 y480 x47_2).f0) ((rd_T26 y480 x47_2).f1) ((rd_T26 y480 x47_2).f2) a1_0 a1_1).bind fun t488 => (if t488 = true then (if t485 = (((rd_T26 y480 x47_2).f0).length : Int) then (if t486 = (((rd_T26 y480 x47_2).f1).length : Int) then (if t487 = (((rd_T26 y480 x47_2).f2).length : Int) then (slotmeshlaw12_CellsValid.l0 k2 t459 y480 (y480.length : Int) (wrap64 (x47_2 + 1)) l0_0 l0_1 l0_2 a1_0 a1_1 a2_0 a2_1 a2_2 a2_3) else (some false)) else (some false)) else (some false)) else (some false))) = some r := H
        have A49 := Aside0.mk A490
        clear A490
        replace H := Option.bind_eq_some_iff.mp H
        obtain ⟨t488, A500, H⟩ := H
        replace H : (if t488 = true then (if t485 = (((rd_T26 y480 x47_2).f0).length : Int) then (if t486 = (((rd_T26 y480 x47_2).f1).length : Int) then (if t487 = (((rd_T26 y480 x47_2).f2).length : Int) then (slotmeshlaw12_CellsValid.l0 k2 t459 y480 (y480.length : Int) (wrap64 (x47_2 + 1)) l0_0 l0_1 l0_2 a1_0 a1_1 a2_0 a2_1 a2_2 a2_3) else (some false)) else (some false)) else (some false)) else (some false)) = some r := H
        have A50 := Aside0.mk A500
        clear A500
        by_cases c51 : t488 = true
        ·subst c51
         have H1 : (if t485 = (((rd_T26 y480 x47_2).f0).length : Int) then (if t486 = (((rd_T26 y480 x47_2).f1).length : Int) then (if t487 = (((rd_T26 y480 x47_2).f2).length : Int) then (slotmeshlaw12_CellsValid.l0 k2 t459 y480 (y480.length : Int) (wrap64 (x47_2 + 1)) l0_0 l0_1 l0_2 a1_0 a1_1 a2_0 a2_1 a2_2 a2_3) else (some false)) else (some false)) else (some false)) = some r := by rw [if_pos rfl] at H; exact H
         clear H
         have H := H1
         clear H1
         by_cases c52 : t485 = (((rd_T26 y480 x47_2).f0).length : Int)
         ·rw [if_pos c52] at H
          have c52b0 : (t485 == (((rd_T26 y480 x47_2).f0).length : Int)) = true := beq_iff_eq.mpr c52
          have c52b1 : (t485 != (((rd_T26 y480 x47_2).f0).length : Int)) = false := bne_eq_false_iff_eq.mpr c52
          clear c52
          by_cases c53 : t486 = (((rd_T26 y480 x47_2).f1).length : Int)
          ·rw [if_pos c53] at H
           have c53b0 : (t486 == (((rd_T26 y480 x47_2).f1).length : Int)) = true := beq_iff_eq.mpr c53
           have c53b1 : (t486 != (((rd_T26 y480 x47_2).f1).length : Int)) = false := bne_eq_false_iff_eq.mpr c53
           clear c53
           by_cases c54 : t487 = (((rd_T26 y480 x47_2).f2).length : Int)
           ·rw [if_pos c54] at H
            have c54b0 : (t487 == (((rd_T26 y480 x47_2).f2).length : Int)) = true := beq_iff_eq.mpr c54
            have c54b1 : (t487 != (((rd_T26 y480 x47_2).f2).length : Int)) = false := bne_eq_false_iff_eq.mpr c54
            clear c54
            have H' := Aside0.mk H
            clear H
            have p483 : 0 ≤ (x47_2 : Int) := dA
            have q483 : x47_2 < (y480.length : Int) := dA
            obtain ⟨ad483, A483_0, c483_0, A483_1, c483_1, A483_2, c483_2, e483, hx483_0, hx483_1, hx483_2, hl483_0, hi483_0, hl483_1, hi483_1, hl483_2, hi483_2⟩ := at_T26 (Kd.N_reads' HO_45.out).2.2 x47_2 p483 q483
            cases e483
            obtain ⟨ce483, hce483, hMe483, hcc483⟩ := Kd.N_get HO_45.out z26 x47_2 p483 (by first | exact q483 | exact dA | (have e_ := (Kd.N_reads' HO_45.out).1; omega))
            obtain ⟨ua483_0, uc483_0, ua483_1, uc483_1, ua483_2, uc483_2, rfl, ul483_0, ge483_0, ul483_1, ge483_1, ul483_2, ge483_2⟩ := k26_openF hMe483
            have hv483_0 := hcc483 0 _ rfl
            rw [Nat.add_zero] at hv483_0
            replace hv483_0 := Option.some.inj (hv483_0.symm.trans hx483_0)
            injection hv483_0 with hva_ hvn_ hvc_
            rw [hva_] at ge483_0
            rw [hvc_] at ul483_0
            have HL483_0 := Aside0.mk (show Kd.V k32 32 _ w.heap.size _ _ ((rd_T26 y480 x47_2).f0) from Kd.V_mk ul483_0 ge483_0)
            clear hva_ hvn_ hvc_ ge483_0 ul483_0
            have hv483_1 := hcc483 1 _ rfl
            rw [add_field _ _ 1 (by omega)] at hv483_1
            replace hv483_1 := Option.some.inj (hv483_1.symm.trans hx483_1)
            injection hv483_1 with hva_ hvn_ hvc_
            rw [hva_] at ge483_1
            rw [hvc_] at ul483_1
            have HL483_1 := Aside0.mk (show Kd.V k34 34 _ w.heap.size _ _ ((rd_T26 y480 x47_2).f1) from Kd.V_mk ul483_1 ge483_1)
            clear hva_ hvn_ hvc_ ge483_1 ul483_1
            have hv483_2 := hcc483 2 _ rfl
            rw [add_field _ _ 2 (by omega)] at hv483_2
            replace hv483_2 := Option.some.inj (hv483_2.symm.trans hx483_2)
            injection hv483_2 with hva_ hvn_ hvc_
            rw [hva_] at ge483_2
            rw [hvc_] at ul483_2
            have HL483_2 := Aside0.mk (show Kd.V k51 51 _ w.heap.size _ _ ((rd_T26 y480 x47_2).f2) from Kd.V_mk ul483_2 ge483_2)
            clear hva_ hvn_ hvc_ ge483_2 ul483_2
            clear hcc483 hce483
            have HR483_0 := Aside0.mk hi483_0
            have HC483_0 := Aside0.mk hl483_0
            clear hi483_0 hl483_0
            have HR483_1 := Aside0.mk hi483_1
            have HC483_1 := Aside0.mk hl483_1
            clear hi483_1 hl483_1
            have HR483_2 := Aside0.mk hi483_2
            have HC483_2 := Aside0.mk hl483_2
            clear hi483_2 hl483_2
            replace p483 := eq_true p483
            replace q483 := eq_true q483
            go_wp2_with (first | ((with_reducible refine gate_dst (N := 13) rfl ?_); (try (refine gate_guard (by rfl) ?_; dsimp only)); refine bE (N := 13) (cs := #[.slice none 0 0, .slice none 0 0, .slice none 0 0]) (t := 26) ?_; intro gb484 hg w55 hbox hb; replace HO_45 := Aside0.mk (Kd.N_below (Kd.N_elderB (sN HO_45) gb484 (Nat.le_of_eq hg.symm)) hb); replace HL483_0 := Aside0.mk (Kd.V_below (Kd.V_elderB (sV HL483_0) gb484 (Nat.le_of_eq hg.symm)) hb); replace HL483_1 := Aside0.mk (Kd.V_below (Kd.V_elderB (sV HL483_1) gb484 (Nat.le_of_eq hg.symm)) hb); replace HL483_2 := Aside0.mk (Kd.V_below (Kd.V_elderB (sV HL483_2) gb484 (Nat.le_of_eq hg.symm)) hb); replace HR483_0 := Aside0.mk (Kd.C_below (by repeat (first | (with_reducible exact HR483_0.out) | (with_reducible refine Kd.C_alloc ?_ _) | (with_reducible refine Kd.C_drewN ?_ _) | (with_reducible refine Kd.C_drew ?_) | exact HR483_0.out)) hb); replace HR483_1 := Aside0.mk (Kd.C_below (by repeat (first | (with_reducible exact HR483_1.out) | (with_reducible refine Kd.C_alloc ?_ _) | (with_reducible refine Kd.C_drewN ?_ _) | (with_reducible refine Kd.C_drew ?_) | exact HR483_1.out)) hb); replace HR483_2 := Aside0.mk (Kd.C_below (by repeat (first | (with_reducible exact HR483_2.out) | (with_reducible refine Kd.C_alloc ?_ _) | (with_reducible refine Kd.C_drewN ?_ _) | (with_reducible refine Kd.C_drew ?_) | exact HR483_2.out)) hb); have BK484 := Aside0.mk (hbox); have GW484 := gW hg HB; have GE484 := GW484; replace HB := tW HB hb; have NB455_484 := gL hg BK455; have NB484_455 := gG hg BK455; replace BK455 := tB BK455 hb; have NB456_484 := gL hg BK456; have NB484_456 := gG hg BK456; replace BK456 := tB BK456 hb; have NB457_484 := gL hg BK457; have NB484_457 := gG hg BK457; replace BK457 := tB BK457 hb; have NB458_484 := gL hg BK458; have NB484_458 := gG hg BK458; replace BK458 := tB BK458 hb; clear hb hbox hg; have hnb56 := NB484_455.out; have hnc56 := NB455_484.out; have hnb57 := NB484_456.out; have hnc57 := NB456_484.out; have hnb58 := NB484_457.out; have hnc58 := NB457_484.out; have hnb59 := NB484_458.out; have hnc59 := NB458_484.out; have hcz60_0 : w55.cell? ⟨gb484, 0, none⟩ = some (.slice none 0 0) := bt BK484 0; have hcz60_1 : w55.cell? ⟨gb484, 1, none⟩ = some (.slice none 0 0) := bt BK484 1; have hcz60_2 : w55.cell? ⟨gb484, 2, none⟩ = some (.slice none 0 0) := bt BK484 2; have hfz60_0 := blk_frozen BK484.out 0; have hfz60_1 := blk_frozen BK484.out 1; have hfz60_2 := blk_frozen BK484.out 2; have hnb61 := NB455_456.out; have hnc61 := NB456_455.out; have hnb62 := NB455_457.out; have hnc62 := NB457_455.out; have hnb63 := NB455_458.out; have hnc63 := NB458_455.out; have hcz64_0 : w55.cell? ⟨gb455, 0, none⟩ = some (.slice A0_0 l0_0.length c0_0) := bt BK455 0; have hcz64_1 : w55.cell? ⟨gb455, 1, none⟩ = some (.slice A0_1 l0_1.length c0_1) := bt BK455 1; have hcz64_2 : w55.cell? ⟨gb455, 2, none⟩ = some (.slice A0_2 l0_2.length c0_2) := bt BK455 2; have hfz64_0 := blk_frozen BK455.out 0; have hfz64_1 := blk_frozen BK455.out 1; have hfz64_2 := blk_frozen BK455.out 2) | ((with_reducible refine gate_callee (f := 25) rfl ?_); refine gC (some 54) Try.func25 #[.agg #[.slice A483_0 ((rd_T26 y480 x47_2).f0).length c483_0, .slice A483_1 ((rd_T26 y480 x47_2).f1).length c483_1, .slice A483_2 ((rd_T26 y480 x47_2).f2).length c483_2], .agg #[.slice A0_0 l0_0.length c0_0, .slice A0_1 l0_1.length c0_1, .slice A0_2 l0_2.length c0_2]] ?_; (with_reducible refine (slotmeshlaw12_counts.calls k2 _ _ ((rd_T26 y480 x47_2).f0) _ _ ((rd_T26 y480 x47_2).f1) _ _ ((rd_T26 y480 x47_2).f2) _ _ l0_0 _ _ l0_1 _ _ l0_2 t485 t486 t487 _ ?side1 ?side2 ?side3 ?side4 ?side5 ?side6 ?side7 ?side8 ?side9 ?side10 ?side11 ?side12 A49.out).mono ?_); (case side1 => repeat (first | exact ((Kd.V_reads' (mV (by exact (Kd.V_mono (Kd.V_far (p := ⟨gb484, 2, none⟩) (Kd.V_far (p := ⟨gb484, 1, none⟩) (Kd.V_far (p := ⟨gb484, 0, none⟩) (Kd.V_mono HL483_0.out (fun k_ hk => (⟨hk, hk.2⟩ : _ ∧ k_ ≠ gb484))) (fun _ hk => hk.2) (.slice A483_0 ((rd_T26 y480 x47_2).f0).length c483_0)) (fun _ hk => hk.2) (.slice A483_1 ((rd_T26 y480 x47_2).f1).length c483_1)) (fun _ hk => hk.2) (.slice A483_2 ((rd_T26 y480 x47_2).f2).length c483_2)) (fun _ h_ => h_.1))))).2.2) | (with_reducible refine Kd.C_alloc ?_ _) | (with_reducible refine Kd.C_drewN ?_ _) | (with_reducible refine Kd.C_drew ?_))); (case side2 => exact HC483_0.out); (case side3 => repeat (first | exact ((Kd.V_reads' (mV (by exact (Kd.V_mono (Kd.V_far (p := ⟨gb484, 2, none⟩) (Kd.V_far (p := ⟨gb484, 1, none⟩) (Kd.V_far (p := ⟨gb484, 0, none⟩) (Kd.V_mono HL483_1.out (fun k_ hk => (⟨hk, hk.2⟩ : _ ∧ k_ ≠ gb484))) (fun _ hk => hk.2) (.slice A483_0 ((rd_T26 y480 x47_2).f0).length c483_0)) (fun _ hk => hk.2) (.slice A483_1 ((rd_T26 y480 x47_2).f1).length c483_1)) (fun _ hk => hk.2) (.slice A483_2 ((rd_T26 y480 x47_2).f2).length c483_2)) (fun _ h_ => h_.1))))).2.2) | (with_reducible refine Kd.C_alloc ?_ _) | (with_reducible refine Kd.C_drewN ?_ _) | (with_reducible refine Kd.C_drew ?_))); (case side4 => exact HC483_1.out); (case side5 => repeat (first | exact ((Kd.V_reads' (mV (by exact (Kd.V_mono (Kd.V_far (p := ⟨gb484, 2, none⟩) (Kd.V_far (p := ⟨gb484, 1, none⟩) (Kd.V_far (p := ⟨gb484, 0, none⟩) (Kd.V_mono HL483_2.out (fun k_ hk => (⟨hk, hk.2⟩ : _ ∧ k_ ≠ gb484))) (fun _ hk => hk.2) (.slice A483_0 ((rd_T26 y480 x47_2).f0).length c483_0)) (fun _ hk => hk.2) (.slice A483_1 ((rd_T26 y480 x47_2).f1).length c483_1)) (fun _ hk => hk.2) (.slice A483_2 ((rd_T26 y480 x47_2).f2).length c483_2)) (fun _ h_ => h_.1))))).2.2) | (with_reducible refine Kd.C_alloc ?_ _) | (with_reducible refine Kd.C_drewN ?_ _) | (with_reducible refine Kd.C_drew ?_))); (case side6 => exact HC483_2.out); (case side7 => exact Kd.C_below HR0_0.out (sW HB)); (case side8 => exact HC0_0.out); (case side9 => exact Kd.C_below HR0_1.out (sW HB)); (case side10 => exact HC0_1.out); (case side11 => exact Kd.C_below HR0_2.out (sW HB)); (case side12 => exact HC0_2.out); rintro e w65 ⟨rfl, hb⟩; refine ⟨_, rfl, ?_⟩; replace HO_45 := Aside0.mk (Kd.N_below (mN (by exact (Kd.N_mono (Kd.N_far (p := ⟨gb484, 2, none⟩) (Kd.N_far (p := ⟨gb484, 1, none⟩) (Kd.N_far (p := ⟨gb484, 0, none⟩) (Kd.N_mono HO_45.out (fun k_ hk => (⟨hk, hk.2⟩ : _ ∧ k_ ≠ gb484))) (fun _ hk => hk.2) (.slice A483_0 ((rd_T26 y480 x47_2).f0).length c483_0)) (fun _ hk => hk.2) (.slice A483_1 ((rd_T26 y480 x47_2).f1).length c483_1)) (fun _ hk => hk.2) (.slice A483_2 ((rd_T26 y480 x47_2).f2).length c483_2)) (fun _ h_ => h_.1)))) hb); replace BK455 := tB BK455 hb; replace BK456 := tB BK456 hb; replace BK457 := tB BK457 hb; replace BK458 := tB BK458 hb; replace HR483_0 := Aside0.mk (Kd.C_below ((Kd.V_reads' (mV (by exact (Kd.V_mono (Kd.V_far (p := ⟨gb484, 2, none⟩) (Kd.V_far (p := ⟨gb484, 1, none⟩) (Kd.V_far (p := ⟨gb484, 0, none⟩) (Kd.V_mono HL483_0.out (fun k_ hk => (⟨hk, hk.2⟩ : _ ∧ k_ ≠ gb484))) (fun _ hk => hk.2) (.slice A483_0 ((rd_T26 y480 x47_2).f0).length c483_0)) (fun _ hk => hk.2) (.slice A483_1 ((rd_T26 y480 x47_2).f1).length c483_1)) (fun _ hk => hk.2) (.slice A483_2 ((rd_T26 y480 x47_2).f2).length c483_2)) (fun _ h_ => h_.1))))).2.2) hb); replace HL483_0 := Aside0.mk (Kd.V_below (mV (by exact (Kd.V_mono (Kd.V_far (p := ⟨gb484, 2, none⟩) (Kd.V_far (p := ⟨gb484, 1, none⟩) (Kd.V_far (p := ⟨gb484, 0, none⟩) (Kd.V_mono HL483_0.out (fun k_ hk => (⟨hk, hk.2⟩ : _ ∧ k_ ≠ gb484))) (fun _ hk => hk.2) (.slice A483_0 ((rd_T26 y480 x47_2).f0).length c483_0)) (fun _ hk => hk.2) (.slice A483_1 ((rd_T26 y480 x47_2).f1).length c483_1)) (fun _ hk => hk.2) (.slice A483_2 ((rd_T26 y480 x47_2).f2).length c483_2)) (fun _ h_ => h_.1)))) hb); replace HR483_1 := Aside0.mk (Kd.C_below ((Kd.V_reads' (mV (by exact (Kd.V_mono (Kd.V_far (p := ⟨gb484, 2, none⟩) (Kd.V_far (p := ⟨gb484, 1, none⟩) (Kd.V_far (p := ⟨gb484, 0, none⟩) (Kd.V_mono HL483_1.out (fun k_ hk => (⟨hk, hk.2⟩ : _ ∧ k_ ≠ gb484))) (fun _ hk => hk.2) (.slice A483_0 ((rd_T26 y480 x47_2).f0).length c483_0)) (fun _ hk => hk.2) (.slice A483_1 ((rd_T26 y480 x47_2).f1).length c483_1)) (fun _ hk => hk.2) (.slice A483_2 ((rd_T26 y480 x47_2).f2).length c483_2)) (fun _ h_ => h_.1))))).2.2) hb); replace HL483_1 := Aside0.mk (Kd.V_below (mV (by exact (Kd.V_mono (Kd.V_far (p := ⟨gb484, 2, none⟩) (Kd.V_far (p := ⟨gb484, 1, none⟩) (Kd.V_far (p := ⟨gb484, 0, none⟩) (Kd.V_mono HL483_1.out (fun k_ hk => (⟨hk, hk.2⟩ : _ ∧ k_ ≠ gb484))) (fun _ hk => hk.2) (.slice A483_0 ((rd_T26 y480 x47_2).f0).length c483_0)) (fun _ hk => hk.2) (.slice A483_1 ((rd_T26 y480 x47_2).f1).length c483_1)) (fun _ hk => hk.2) (.slice A483_2 ((rd_T26 y480 x47_2).f2).length c483_2)) (fun _ h_ => h_.1)))) hb); replace HR483_2 := Aside0.mk (Kd.C_below ((Kd.V_reads' (mV (by exact (Kd.V_mono (Kd.V_far (p := ⟨gb484, 2, none⟩) (Kd.V_far (p := ⟨gb484, 1, none⟩) (Kd.V_far (p := ⟨gb484, 0, none⟩) (Kd.V_mono HL483_2.out (fun k_ hk => (⟨hk, hk.2⟩ : _ ∧ k_ ≠ gb484))) (fun _ hk => hk.2) (.slice A483_0 ((rd_T26 y480 x47_2).f0).length c483_0)) (fun _ hk => hk.2) (.slice A483_1 ((rd_T26 y480 x47_2).f1).length c483_1)) (fun _ hk => hk.2) (.slice A483_2 ((rd_T26 y480 x47_2).f2).length c483_2)) (fun _ h_ => h_.1))))).2.2) hb); replace HL483_2 := Aside0.mk (Kd.V_below (mV (by exact (Kd.V_mono (Kd.V_far (p := ⟨gb484, 2, none⟩) (Kd.V_far (p := ⟨gb484, 1, none⟩) (Kd.V_far (p := ⟨gb484, 0, none⟩) (Kd.V_mono HL483_2.out (fun k_ hk => (⟨hk, hk.2⟩ : _ ∧ k_ ≠ gb484))) (fun _ hk => hk.2) (.slice A483_0 ((rd_T26 y480 x47_2).f0).length c483_0)) (fun _ hk => hk.2) (.slice A483_1 ((rd_T26 y480 x47_2).f1).length c483_1)) (fun _ hk => hk.2) (.slice A483_2 ((rd_T26 y480 x47_2).f2).length c483_2)) (fun _ h_ => h_.1)))) hb); replace BK484 := Aside0.mk (blk_below (g := gb484) (o := .cells #[.slice A483_0 ((rd_T26 y480 x47_2).f0).length c483_0, .slice A483_1 ((rd_T26 y480 x47_2).f1).length c483_1, .slice A483_2 ((rd_T26 y480 x47_2).f2).length c483_2] 26 (0, 0)) (by (with_reducible repeat (first | refine blk_drewN ?_ _ | refine blk_drew ?_ | refine blk_alloc ?_ _)); refine blk_put (cs := #[.slice A483_0 ((rd_T26 y480 x47_2).f0).length c483_0, .slice A483_1 ((rd_T26 y480 x47_2).f1).length c483_1, .slice none 0 0]) ?_ 2 _ rfl; (with_reducible repeat (first | refine blk_drewN ?_ _ | refine blk_drew ?_ | refine blk_alloc ?_ _)); refine blk_put (cs := #[.slice A483_0 ((rd_T26 y480 x47_2).f0).length c483_0, .slice none 0 0, .slice none 0 0]) ?_ 1 _ rfl; (with_reducible repeat (first | refine blk_drewN ?_ _ | refine blk_drew ?_ | refine blk_alloc ?_ _)); refine blk_put (cs := #[.slice none 0 0, .slice none 0 0, .slice none 0 0]) ?_ 0 _ rfl; (with_reducible repeat (first | refine blk_drewN ?_ _ | refine blk_drew ?_ | refine blk_alloc ?_ _)); exact BK484.out) hb); replace HB := tW HB hb; (try clear hb); (try clear hb2); (try clear hk); (try clear hi); have hcz66_0 : w65.cell? ⟨gb484, 0, none⟩ = some (.slice A483_0 ((rd_T26 y480 x47_2).f0).length c483_0) := bt BK484 0; have hcz66_1 : w65.cell? ⟨gb484, 1, none⟩ = some (.slice A483_1 ((rd_T26 y480 x47_2).f1).length c483_1) := bt BK484 1; have hcz66_2 : w65.cell? ⟨gb484, 2, none⟩ = some (.slice A483_2 ((rd_T26 y480 x47_2).f2).length c483_2) := bt BK484 2; have hfz66_0 := blk_frozen BK484.out 0; have hfz66_1 := blk_frozen BK484.out 1; have hfz66_2 := blk_frozen BK484.out 2; have hnb67 := NB456_457.out; have hnc67 := NB457_456.out; have hnb68 := NB456_458.out; have hnc68 := NB458_456.out; have hcz69_0 : w65.cell? ⟨gb456, 0, none⟩ = some (.int .i64 a1_0) := bt BK456 0; have hcz69_1 : w65.cell? ⟨gb456, 1, none⟩ = some (.int .i64 a1_1) := bt BK456 1; have hfz69_0 := blk_frozen BK456.out 0; have hfz69_1 := blk_frozen BK456.out 1) | ((with_reducible refine gate_callee (f := 18) rfl ?_); refine gC (some 60) Try.func18 #[.agg #[.slice A483_0 ((rd_T26 y480 x47_2).f0).length c483_0, .slice A483_1 ((rd_T26 y480 x47_2).f1).length c483_1, .slice A483_2 ((rd_T26 y480 x47_2).f2).length c483_2], .agg #[.int .i64 a1_0, .int .i64 a1_1]] ?_; (with_reducible refine (slotmeshref12_Valid.calls _ _ ((rd_T26 y480 x47_2).f0) _ _ ((rd_T26 y480 x47_2).f1) _ _ ((rd_T26 y480 x47_2).f2) a1_0 a1_1 true _ ?side1 ?side2 ?side3 ?side4 ?side5 ?side6 A50.out).mono ?_); (case side1 => repeat (first | exact (by repeat (first | (with_reducible exact HR483_0.out) | (with_reducible refine Kd.C_alloc ?_ _) | (with_reducible refine Kd.C_drewN ?_ _) | (with_reducible refine Kd.C_drew ?_) | exact HR483_0.out)) | (with_reducible refine Kd.C_alloc ?_ _) | (with_reducible refine Kd.C_drewN ?_ _) | (with_reducible refine Kd.C_drew ?_))); (case side2 => exact HC483_0.out); (case side3 => repeat (first | exact (by repeat (first | (with_reducible exact HR483_1.out) | (with_reducible refine Kd.C_alloc ?_ _) | (with_reducible refine Kd.C_drewN ?_ _) | (with_reducible refine Kd.C_drew ?_) | exact HR483_1.out)) | (with_reducible refine Kd.C_alloc ?_ _) | (with_reducible refine Kd.C_drewN ?_ _) | (with_reducible refine Kd.C_drew ?_))); (case side4 => exact HC483_1.out); (case side5 => repeat (first | exact (by repeat (first | (with_reducible exact HR483_2.out) | (with_reducible refine Kd.C_alloc ?_ _) | (with_reducible refine Kd.C_drewN ?_ _) | (with_reducible refine Kd.C_drew ?_) | exact HR483_2.out)) | (with_reducible refine Kd.C_alloc ?_ _) | (with_reducible refine Kd.C_drewN ?_ _) | (with_reducible refine Kd.C_drew ?_))); (case side6 => exact HC483_2.out); rintro e w70 ⟨rfl, hb⟩; refine ⟨_, rfl, ?_⟩; replace HO_45 := tN HO_45 hb; replace HL483_0 := tV HL483_0 hb; replace HL483_1 := tV HL483_1 hb; replace HL483_2 := tV HL483_2 hb; replace BK455 := tB BK455 hb; replace BK456 := tB BK456 hb; replace BK457 := tB BK457 hb; replace BK458 := tB BK458 hb; replace HR483_0 := Aside0.mk (Kd.C_below (by repeat (first | (with_reducible exact HR483_0.out) | (with_reducible refine Kd.C_alloc ?_ _) | (with_reducible refine Kd.C_drewN ?_ _) | (with_reducible refine Kd.C_drew ?_) | exact HR483_0.out)) hb); replace HR483_1 := Aside0.mk (Kd.C_below (by repeat (first | (with_reducible exact HR483_1.out) | (with_reducible refine Kd.C_alloc ?_ _) | (with_reducible refine Kd.C_drewN ?_ _) | (with_reducible refine Kd.C_drew ?_) | exact HR483_1.out)) hb); replace HR483_2 := Aside0.mk (Kd.C_below (by repeat (first | (with_reducible exact HR483_2.out) | (with_reducible refine Kd.C_alloc ?_ _) | (with_reducible refine Kd.C_drewN ?_ _) | (with_reducible refine Kd.C_drew ?_) | exact HR483_2.out)) hb); replace BK484 := tB BK484 hb; replace HB := tW HB hb; (try clear hb); (try clear hb2); (try clear hk); (try clear hi); have hcz71_0 : w70.cell? ⟨gb484, 0, none⟩ = some (.slice A483_0 ((rd_T26 y480 x47_2).f0).length c483_0) := bt BK484 0; have hcz71_1 : w70.cell? ⟨gb484, 1, none⟩ = some (.slice A483_1 ((rd_T26 y480 x47_2).f1).length c483_1) := bt BK484 1; have hcz71_2 : w70.cell? ⟨gb484, 2, none⟩ = some (.slice A483_2 ((rd_T26 y480 x47_2).f2).length c483_2) := bt BK484 2; have hfz71_0 := blk_frozen BK484.out 0; have hfz71_1 := blk_frozen BK484.out 1; have hfz71_2 := blk_frozen BK484.out 2))
            go_roundg k2
            case measure => have := HJ6.out; have := HK2.out; omega
            case rel => exact ⟨(wrap64 (x47_2 + 1)), aR, H', ⟨by have := HJ6.out; have := HK2.out; omega⟩, ⟨mN (by exact Kd.N_mono HO_45.out (fun _ hk => ⟨hk.1.1, ⟨hk.1.2.1, ⟨hk.1.2.2.1, hk.1.2.2.2⟩⟩⟩))⟩, ⟨sB BK455⟩, ⟨sB BK456⟩, ⟨sB BK457⟩, ⟨sB BK458⟩, ⟨sW HB⟩⟩
           rw [if_neg c54] at H
           have c54b0 : (t487 == (((rd_T26 y480 x47_2).f2).length : Int)) = false := beq_eq_false_iff_ne.mpr c54
           have c54b1 : (t487 != (((rd_T26 y480 x47_2).f2).length : Int)) = true := bne_iff_ne.mpr c54
           exact absurd (Option.some.inj H) (by rw [HRT.out]; decide)
          rw [if_neg c53] at H
          have c53b0 : (t486 == (((rd_T26 y480 x47_2).f1).length : Int)) = false := beq_eq_false_iff_ne.mpr c53
          have c53b1 : (t486 != (((rd_T26 y480 x47_2).f1).length : Int)) = true := bne_iff_ne.mpr c53
          exact absurd (Option.some.inj H) (by rw [HRT.out]; decide)
         rw [if_neg c52] at H
         have c52b0 : (t485 == (((rd_T26 y480 x47_2).f0).length : Int)) = false := beq_eq_false_iff_ne.mpr c52
         have c52b1 : (t485 != (((rd_T26 y480 x47_2).f0).length : Int)) = true := bne_iff_ne.mpr c52
         exact absurd (Option.some.inj H) (by rw [HRT.out]; decide)
        replace c51 := Bool.eq_false_iff.mpr c51
        subst c51
        have H1 : (some false) = some r := by rw [if_neg (show ¬ (false = true) by decide)] at H; exact H
        clear H
        have H := H1
        clear H1
        exact absurd (Option.some.inj H) (by rw [HRT.out]; decide)
       rw [if_neg c48] at H
       exact absurd H (by simp)
      rw [if_neg c47] at H
      exact absurd H (by simp)
     rw [if_neg c46] at H
     have c46b0 : decide (x47_2 < (y480.length : Int)) = false := decide_eq_false c46
     clear c46
     replace H := Option.bind_eq_some_iff.mp H
     obtain ⟨⟨t489, t492, t495, t498⟩, A720, H⟩ := H
     replace H : (if t498 = 0 then ((slotmeshlaw12_counts.f k2 l0_0 l0_1 l0_2 t489 t492 t495).bind fun bt500 => (slotmeshlaw12_CellsValid.l1 k2 t459 bt500.1 bt500.2.1 bt500.2.2 0 l0_2 (l0_2.length : Int) 0 l0_0 l0_1 l0_2 a1_0 a1_1 a2_0 a2_1 a2_2 a2_3 t489 t492 t495)) else (some t459)) = some r := H
     have A72 := Aside0.mk A720
     clear A720
     by_cases c73 : t498 = 0
     ·rw [if_pos c73] at H
      have c73b0 : (t498 == 0) = true := beq_iff_eq.mpr c73
      have c73b1 : (t498 != 0) = false := bne_eq_false_iff_eq.mpr c73
      clear c73
      replace H := Option.bind_eq_some_iff.mp H
      obtain ⟨⟨t500, t501, t502⟩, A740, H⟩ := H
      replace H : (slotmeshlaw12_CellsValid.l1 k2 t459 t500 t501 t502 0 l0_2 (l0_2.length : Int) 0 l0_0 l0_1 l0_2 a1_0 a1_1 a2_0 a2_1 a2_2 a2_3 t489 t492 t495) = some r := H
      have A74 := Aside0.mk A740
      clear A740
      have H' := Aside0.mk H
      clear H
      have hnb75 := NB455_456.out
      have hnc75 := NB456_455.out
      have hnb76 := NB455_457.out
      have hnc76 := NB457_455.out
      have hnb77 := NB455_458.out
      have hnc77 := NB458_455.out
      have hcz78_0 : wr.cell? ⟨gb455, 0, none⟩ = some (.slice A0_0 l0_0.length c0_0) := bt BK455 0
      have hcz78_1 : wr.cell? ⟨gb455, 1, none⟩ = some (.slice A0_1 l0_1.length c0_1) := bt BK455 1
      have hcz78_2 : wr.cell? ⟨gb455, 2, none⟩ = some (.slice A0_2 l0_2.length c0_2) := bt BK455 2
      have hfz78_0 := blk_frozen BK455.out 0
      have hfz78_1 := blk_frozen BK455.out 1
      have hfz78_2 := blk_frozen BK455.out 2
      have hnb79 := NB456_457.out
      have hnc79 := NB457_456.out
      have hnb80 := NB456_458.out
      have hnc80 := NB458_456.out
      have hcz81_0 : wr.cell? ⟨gb456, 0, none⟩ = some (.int .i64 a1_0) := bt BK456 0
      have hcz81_1 : wr.cell? ⟨gb456, 1, none⟩ = some (.int .i64 a1_1) := bt BK456 1
      have hfz81_0 := blk_frozen BK456.out 0
      have hfz81_1 := blk_frozen BK456.out 1
      have hnb82 := NB457_458.out
      have hnc82 := NB458_457.out
      have hcz83_0 : wr.cell? ⟨gb457, 0, none⟩ = some (.int .i64 a2_0) := bt BK457 0
      have hcz83_1 : wr.cell? ⟨gb457, 1, none⟩ = some (.int .i64 a2_1) := bt BK457 1
      have hcz83_2 : wr.cell? ⟨gb457, 2, none⟩ = some (.int .i64 a2_2) := bt BK457 2
      have hcz83_3 : wr.cell? ⟨gb457, 3, none⟩ = some (.int .i64 a2_3) := bt BK457 3
      have hfz83_0 := blk_frozen BK457.out 0
      have hfz83_1 := blk_frozen BK457.out 1
      have hfz83_2 := blk_frozen BK457.out 2
      have hfz83_3 := blk_frozen BK457.out 3
      go_wp2_with (first | ((with_reducible refine gate_callee (f := 12) rfl ?_); refine gC (some 88) Try.func12 #[.agg #[.slice A0_0 l0_0.length c0_0, .slice A0_1 l0_1.length c0_1, .slice A0_2 l0_2.length c0_2], .agg #[.int .i64 a1_0, .int .i64 a1_1], .agg #[.int .i64 a2_0, .int .i64 a2_1, .int .i64 a2_2, .int .i64 a2_3]] ?_; (with_reducible refine (cells_AddUse.calls _ _ l0_0 _ _ l0_1 _ _ l0_2 a1_0 a1_1 a2_0 a2_1 a2_2 a2_3 t489 t492 t495 t498 _ ?side1 ?side2 ?side3 ?side4 ?side5 ?side6 A72.out).mono ?_); (case side1 => exact sC (Kd.C_below HR0_0.out HB.out)); (case side2 => exact HC0_0.out); (case side3 => exact sC (Kd.C_below HR0_1.out HB.out)); (case side4 => exact HC0_1.out); (case side5 => exact sC (Kd.C_below HR0_2.out HB.out)); (case side6 => exact HC0_2.out); rintro e w84 ⟨v490, v493, v496, rfl, ho0, ho1, ho2, hb⟩; refine ⟨_, rfl, ?_⟩; replace HO_45 := Aside0.mk (Kd.N_mono (Kd.N_told (Kd.N_told (Kd.N_told (Kd.N_old (sN HO_45) hb) (Kd.R_base ho0)) (Kd.R_base ho1)) (Kd.R_base ho2)) (fun _ h_ => h_.1)); have HO491 := Aside0.mk (Kd.R_lower (Kd.R_newB ho0 (g := gb457) (o := .cells #[.int .i64 a2_0, .int .i64 a2_1, .int .i64 a2_2, .int .i64 a2_3] 32 (0, 0)) (sB BK457)) (below_size (sW HB))); have HO494 := Aside0.mk (Kd.R_lower ho1 (below_size (sW HB))); have HO497 := Aside0.mk (Kd.R_lower ho2 (below_size (sW HB))); replace BK455 := tB BK455 hb; replace BK456 := tB BK456 hb; replace BK457 := tB BK457 hb; replace BK458 := tB BK458 hb; replace HB := tW HB hb; (try clear hb); (try clear hb2); (try clear hk); (try clear hi); (try clear ho0); (try clear ho1); (try clear ho2)) | ((with_reducible refine gate_dst (N := 17) rfl ?_); (try (refine gate_guard (by rfl) ?_; dsimp only)); refine bE (N := 17) (cs := #[.slice none 0 0, .slice none 0 0, .slice none 0 0]) (t := 26) ?_; intro gb499 hg w85 hbox hb; replace HO_45 := Aside0.mk (Kd.N_below (Kd.N_elderB (sN HO_45) gb499 (Nat.le_of_eq hg.symm)) hb); replace HO491 := tR HO491 hb; replace HO494 := tR HO494 hb; replace HO497 := tR HO497 hb; have BK499 := Aside0.mk (hbox); have GW499 := gW hg HB; have GE499 := GW499; replace HB := tW HB hb; have NB455_499 := gL hg BK455; have NB499_455 := gG hg BK455; replace BK455 := tB BK455 hb; have NB456_499 := gL hg BK456; have NB499_456 := gG hg BK456; replace BK456 := tB BK456 hb; have NB457_499 := gL hg BK457; have NB499_457 := gG hg BK457; replace BK457 := tB BK457 hb; have NB458_499 := gL hg BK458; have NB499_458 := gG hg BK458; replace BK458 := tB BK458 hb; clear hb hbox hg; obtain ⟨Ao86, co86, eo86⟩ := Kd.R_slice HO491.out; subst eo86; have hnb87 := NB499_455.out; have hnc87 := NB455_499.out; have hnb88 := NB499_456.out; have hnc88 := NB456_499.out; have hnb89 := NB499_457.out; have hnc89 := NB457_499.out; have hnb90 := NB499_458.out; have hnc90 := NB458_499.out; have hcz91_0 : w85.cell? ⟨gb499, 0, none⟩ = some (.slice none 0 0) := bt BK499 0; have hcz91_1 : w85.cell? ⟨gb499, 1, none⟩ = some (.slice none 0 0) := bt BK499 1; have hcz91_2 : w85.cell? ⟨gb499, 2, none⟩ = some (.slice none 0 0) := bt BK499 2; have hfz91_0 := blk_frozen BK499.out 0; have hfz91_1 := blk_frozen BK499.out 1; have hfz91_2 := blk_frozen BK499.out 2; obtain ⟨Ao92, co92, eo92⟩ := Kd.R_slice HO494.out; subst eo92; obtain ⟨Ao93, co93, eo93⟩ := Kd.R_slice HO497.out; subst eo93; have hcz94_0 : w85.cell? ⟨gb455, 0, none⟩ = some (.slice A0_0 l0_0.length c0_0) := bt BK455 0; have hcz94_1 : w85.cell? ⟨gb455, 1, none⟩ = some (.slice A0_1 l0_1.length c0_1) := bt BK455 1; have hcz94_2 : w85.cell? ⟨gb455, 2, none⟩ = some (.slice A0_2 l0_2.length c0_2) := bt BK455 2; have hfz94_0 := blk_frozen BK455.out 0; have hfz94_1 := blk_frozen BK455.out 1; have hfz94_2 := blk_frozen BK455.out 2) | ((with_reducible refine gate_callee (f := 25) rfl ?_); refine gC (some 97) Try.func25 #[.agg #[.slice A0_0 l0_0.length c0_0, .slice A0_1 l0_1.length c0_1, .slice A0_2 l0_2.length c0_2], .agg #[.slice Ao86 t489.length co86, .slice Ao92 t492.length co92, .slice Ao93 t495.length co93]] ?_; (with_reducible refine (slotmeshlaw12_counts.calls k2 _ _ l0_0 _ _ l0_1 _ _ l0_2 _ _ t489 _ _ t492 _ _ t495 t500 t501 t502 _ ?side1 ?side2 ?side3 ?side4 ?side5 ?side6 ?side7 ?side8 ?side9 ?side10 ?side11 ?side12 A74.out).mono ?_); (case side1 => exact Kd.C_below HR0_0.out (sW HB)); (case side2 => exact HC0_0.out); (case side3 => exact Kd.C_below HR0_1.out (sW HB)); (case side4 => exact HC0_1.out); (case side5 => exact Kd.C_below HR0_2.out (sW HB)); (case side6 => exact HC0_2.out); (case side7 => refine (Kd.R_reads' (e := 32) (base := w.heap.size) (ok := fun k_ => (True ∧ k_ ≠ gb457)) (n := t489.length) (c := co86) ?_).2.2; exact (mR (by exact (Kd.R_mono (Kd.R_far (p := ⟨gb499, 2, none⟩) (Kd.R_far (p := ⟨gb499, 1, none⟩) (Kd.R_far (p := ⟨gb499, 0, none⟩) (Kd.R_types HO491.out BK499.out (by decide)) (fun _ hk => hk.2) (.slice Ao86 t489.length co86)) (fun _ hk => hk.2) (.slice Ao92 t492.length co92)) (fun _ hk => hk.2) (.slice Ao93 t495.length co93)) (fun _ h_ => h_.1))))); (case side8 => exact (Kd.R_reads' HO491.out).2.1); (case side9 => refine (Kd.R_reads' (e := 34) (base := w.heap.size) (ok := fun k_ => True) (n := t492.length) (c := co92) ?_).2.2; exact (mR (by exact (Kd.R_mono (Kd.R_far (p := ⟨gb499, 2, none⟩) (Kd.R_far (p := ⟨gb499, 1, none⟩) (Kd.R_far (p := ⟨gb499, 0, none⟩) (Kd.R_types HO494.out BK499.out (by decide)) (fun _ hk => hk.2) (.slice Ao86 t489.length co86)) (fun _ hk => hk.2) (.slice Ao92 t492.length co92)) (fun _ hk => hk.2) (.slice Ao93 t495.length co93)) (fun _ h_ => h_.1))))); (case side10 => exact (Kd.R_reads' HO494.out).2.1); (case side11 => refine (Kd.R_reads' (e := 51) (base := w.heap.size) (ok := fun k_ => True) (n := t495.length) (c := co93) ?_).2.2; exact (mR (by exact (Kd.R_mono (Kd.R_far (p := ⟨gb499, 2, none⟩) (Kd.R_far (p := ⟨gb499, 1, none⟩) (Kd.R_far (p := ⟨gb499, 0, none⟩) (Kd.R_types HO497.out BK499.out (by decide)) (fun _ hk => hk.2) (.slice Ao86 t489.length co86)) (fun _ hk => hk.2) (.slice Ao92 t492.length co92)) (fun _ hk => hk.2) (.slice Ao93 t495.length co93)) (fun _ h_ => h_.1))))); (case side12 => exact (Kd.R_reads' HO497.out).2.1); rintro e w95 ⟨rfl, hb⟩; refine ⟨_, rfl, ?_⟩; replace HO_45 := Aside0.mk (Kd.N_below (mN (by exact (Kd.N_mono (Kd.N_far (p := ⟨gb499, 2, none⟩) (Kd.N_far (p := ⟨gb499, 1, none⟩) (Kd.N_far (p := ⟨gb499, 0, none⟩) (Kd.N_mono HO_45.out (fun k_ hk => (⟨hk, hk.2⟩ : _ ∧ k_ ≠ gb499))) (fun _ hk => hk.2) (.slice Ao86 t489.length co86)) (fun _ hk => hk.2) (.slice Ao92 t492.length co92)) (fun _ hk => hk.2) (.slice Ao93 t495.length co93)) (fun _ h_ => h_.1)))) hb); replace HO491 := Aside0.mk (Kd.R_below (mR (by exact (Kd.R_mono (Kd.R_far (p := ⟨gb499, 2, none⟩) (Kd.R_far (p := ⟨gb499, 1, none⟩) (Kd.R_far (p := ⟨gb499, 0, none⟩) (Kd.R_types HO491.out BK499.out (by decide)) (fun _ hk => hk.2) (.slice Ao86 t489.length co86)) (fun _ hk => hk.2) (.slice Ao92 t492.length co92)) (fun _ hk => hk.2) (.slice Ao93 t495.length co93)) (fun _ h_ => h_.1)))) hb); replace HO494 := Aside0.mk (Kd.R_below (mR (by exact (Kd.R_mono (Kd.R_far (p := ⟨gb499, 2, none⟩) (Kd.R_far (p := ⟨gb499, 1, none⟩) (Kd.R_far (p := ⟨gb499, 0, none⟩) (Kd.R_types HO494.out BK499.out (by decide)) (fun _ hk => hk.2) (.slice Ao86 t489.length co86)) (fun _ hk => hk.2) (.slice Ao92 t492.length co92)) (fun _ hk => hk.2) (.slice Ao93 t495.length co93)) (fun _ h_ => h_.1)))) hb); replace HO497 := Aside0.mk (Kd.R_below (mR (by exact (Kd.R_mono (Kd.R_far (p := ⟨gb499, 2, none⟩) (Kd.R_far (p := ⟨gb499, 1, none⟩) (Kd.R_far (p := ⟨gb499, 0, none⟩) (Kd.R_types HO497.out BK499.out (by decide)) (fun _ hk => hk.2) (.slice Ao86 t489.length co86)) (fun _ hk => hk.2) (.slice Ao92 t492.length co92)) (fun _ hk => hk.2) (.slice Ao93 t495.length co93)) (fun _ h_ => h_.1)))) hb); replace BK455 := tB BK455 hb; replace BK456 := tB BK456 hb; replace BK457 := tB BK457 hb; replace BK458 := tB BK458 hb; replace BK499 := Aside0.mk (blk_below (g := gb499) (o := .cells #[.slice Ao86 t489.length co86, .slice Ao92 t492.length co92, .slice Ao93 t495.length co93] 26 (0, 0)) (by (with_reducible repeat (first | refine blk_drewN ?_ _ | refine blk_drew ?_ | refine blk_alloc ?_ _)); refine blk_put (cs := #[.slice Ao86 t489.length co86, .slice Ao92 t492.length co92, .slice none 0 0]) ?_ 2 _ rfl; (with_reducible repeat (first | refine blk_drewN ?_ _ | refine blk_drew ?_ | refine blk_alloc ?_ _)); refine blk_put (cs := #[.slice Ao86 t489.length co86, .slice none 0 0, .slice none 0 0]) ?_ 1 _ rfl; (with_reducible repeat (first | refine blk_drewN ?_ _ | refine blk_drew ?_ | refine blk_alloc ?_ _)); refine blk_put (cs := #[.slice none 0 0, .slice none 0 0, .slice none 0 0]) ?_ 0 _ rfl; (with_reducible repeat (first | refine blk_drewN ?_ _ | refine blk_drew ?_ | refine blk_alloc ?_ _)); exact BK499.out) hb); replace HB := tW HB hb; (try clear hb); (try clear hb2); (try clear hk); (try clear hi); have hcz96_0 : w95.cell? ⟨gb455, 0, none⟩ = some (.slice A0_0 l0_0.length c0_0) := bt BK455 0; have hcz96_1 : w95.cell? ⟨gb455, 1, none⟩ = some (.slice A0_1 l0_1.length c0_1) := bt BK455 1; have hcz96_2 : w95.cell? ⟨gb455, 2, none⟩ = some (.slice A0_2 l0_2.length c0_2) := bt BK455 2; have hfz96_0 := blk_frozen BK455.out 0; have hfz96_1 := blk_frozen BK455.out 1; have hfz96_2 := blk_frozen BK455.out 2))
      go_loopg [22, 104] k2 (fun kq v22 v104 w' => ∃ (x22_3 : Int) (x104_3 : Int), v22 = .int .i64 x22_3 ∧ v104 = .int .i64 x104_3 ∧ Aside0 (slotmeshlaw12_CellsValid.l1 kq t459 t500 t501 t502 x22_3 l0_2 (l0_2.length : Int) x104_3 l0_0 l0_1 l0_2 a1_0 a1_1 a2_0 a2_1 a2_2 a2_3 t489 t492 t495 = some r) ∧ Aside0 (kq ≤ k2) ∧ Aside0 (Kd.R k32 32 w' w.heap.size (fun k_ => k_ ≠ gb457) (.slice Ao86 t489.length co86) t489) ∧ Aside0 (Kd.R k34 34 w' w.heap.size (fun _ => True) (.slice Ao92 t492.length co92) t492) ∧ Aside0 (Kd.R k51 51 w' w.heap.size (fun _ => True) (.slice Ao93 t495.length co93) t495) ∧ Aside0 (w'.heap[gb455]? = some (.cells #[(.slice A0_0 l0_0.length c0_0), (.slice A0_1 l0_1.length c0_1), (.slice A0_2 l0_2.length c0_2)] 26 (0, 0))) ∧ Aside0 (w'.heap[gb456]? = some (.cells #[.int .i64 a1_0, .int .i64 a1_1] 28 (0, 0))) ∧ Aside0 (w'.heap[gb457]? = some (.cells #[.int .i64 a2_0, .int .i64 a2_1, .int .i64 a2_2, .int .i64 a2_3] 32 (0, 0))) ∧ Aside0 (w'.heap[gb458]? = some (.cells #[.int .i64 a3_0, .int .i64 a3_1] 30 (0, 0))) ∧ Aside0 (w'.heap[gb499]? = some (.cells #[(.slice Ao86 t489.length co86), (.slice Ao92 t492.length co92), (.slice Ao93 t495.length co93)] 26 (0, 0))) ∧ Aside0 (Below w.heap.size w w'))
      case atStart => exact ⟨(0), (0), aR, aR, H', ⟨Nat.le_refl _⟩, ⟨mR (by exact Kd.R_mono HO491.out (fun _ hk => hk.2))⟩, ⟨sR HO494⟩, ⟨sR HO497⟩, ⟨sB BK455⟩, ⟨sB BK456⟩, ⟨sB BK457⟩, ⟨sB BK458⟩, ⟨sB BK499⟩, ⟨sW HB⟩⟩
      case round =>
       clear H'
       try clear c1
       try clear c2
       try clear p2
       try clear c3
       try clear c4
       try clear p4
       try clear q4
       try clear hx4
       try clear c5
       try clear c6
       try clear p6
       try clear c7
       try clear c8
       try clear c9
       try clear c10
       try clear c11
       try clear c12
       try clear c14
       try clear c16
       try clear c17
       try clear c18
       try clear c21
       try clear c22
       try clear c23
       try clear c25
       try clear c26
       try clear c27
       try clear c28
       try clear c31
       try clear c46
       try clear c46b0
       try clear c47
       try clear c47b0
       try clear c48
       try clear c48b0
       try clear p48
       try clear q48
       try clear hx48
       try clear c51
       try clear c52
       try clear c52b0
       try clear c52b1
       try clear c53
       try clear c53b0
       try clear c53b1
       try clear c54
       try clear c54b0
       try clear c54b1
       try clear c56
       try clear c57
       try clear c58
       try clear c59
       try clear c61
       try clear c62
       try clear c63
       try clear p64
       try clear c67
       try clear c68
       try clear c73
       try clear c73b0
       try clear c73b1
       try clear c75
       try clear c76
       try clear c77
       try clear c79
       try clear c80
       try clear c82
       try clear c87
       try clear c88
       try clear c89
       try clear c90
       try clear hcz19_0 hcz19_1 hcz19_2 hfz19_0 hfz19_1 hfz19_2
       try clear hcz21_0 hcz21_1 hcz21_2 hfz21_0 hfz21_1 hfz21_2
       try clear hcz24_0 hcz24_1 hfz24_0 hfz24_1
       try clear hcz29_0 hcz29_1 hcz29_2 hfz29_0 hfz29_1 hfz29_2
       try clear hcz60_0 hcz60_1 hcz60_2 hfz60_0 hfz60_1 hfz60_2
       try clear hcz64_0 hcz64_1 hcz64_2 hfz64_0 hfz64_1 hfz64_2
       try clear hcz66_0 hcz66_1 hcz66_2 hfz66_0 hfz66_1 hfz66_2
       try clear hcz69_0 hcz69_1 hfz69_0 hfz69_1
       try clear hcz71_0 hcz71_1 hcz71_2 hfz71_0 hfz71_1 hfz71_2
       try clear hcz78_0 hcz78_1 hcz78_2 hfz78_0 hfz78_1 hfz78_2
       try clear hcz81_0 hcz81_1 hfz81_0 hfz81_1
       try clear hcz83_0 hcz83_1 hcz83_2 hcz83_3 hfz83_0 hfz83_1 hfz83_2 hfz83_3
       try clear hcz91_0 hcz91_1 hcz91_2 hfz91_0 hfz91_1 hfz91_2
       try clear hcz94_0 hcz94_1 hcz94_2 hfz94_0 hfz94_1 hfz94_2
       try clear hcz96_0 hcz96_1 hcz96_2 hfz96_0 hfz96_1 hfz96_2
       try clear hx483_0
       try clear hx483_1
       try clear hx483_2
       try clear p2
       try clear p483
       try clear q483
       obtain ⟨x22_3, x104_3, rfl, rfl, HA, HK3, HO_500000, HO_500001, HO_500002, BK455, BK456, BK457, BK458, BK499, HB⟩ := hrel
       cases gk with
       | zero => exact absurd HA.out (by simp [slotmeshlaw12_CellsValid.l1])
       | succ k3 =>
        have H := HA.out
        clear HA
        simp only [slotmeshlaw12_CellsValid.l1] at H
        by_cases c97 : x104_3 < (l0_2.length : Int)
        ·rw [if_pos c97] at H
         have c97b0 : decide (x104_3 < (l0_2.length : Int)) = true := decide_eq_true c97
         clear c97
         by_cases c98 : 0 ≤ x104_3
         ·rw [if_pos c98] at H
          have c98b0 : decide (0 ≤ x104_3) = true := decide_eq_true c98
          clear c98
          by_cases c99 : x104_3 < (l0_2.length : Int)
          ·rw [if_pos c99] at H
           have c99b0 : decide (x104_3 < (l0_2.length : Int)) = true := decide_eq_true c99
           clear c99
           by_cases c100 : ((rd_T51 l0_2 x104_3).f0.f0) = a2_0
           ·rw [if_pos c100] at H
            have c100b0 : (((rd_T51 l0_2 x104_3).f0.f0) == a2_0) = true := beq_iff_eq.mpr c100
            have c100b1 : (((rd_T51 l0_2 x104_3).f0.f0) != a2_0) = false := bne_eq_false_iff_eq.mpr c100
            clear c100
            have H' := Aside0.mk H
            clear H
            have p503 : 0 ≤ (x104_3 : Int) := dA
            have q503 : x104_3 < (l0_2.length : Int) := dA
            obtain ⟨ad503, e503, hx503_0, hx503_1, hx503_2⟩ := at_T51 HR0_2.out x104_3 p503 q503
            cases e503
            replace hx503_0 := (HB.out.cell (World.block_lt_of_cell? w _ hx503_0)).trans hx503_0
            replace hx503_1 := (HB.out.cell (World.block_lt_of_cell? w _ hx503_1)).trans hx503_1
            replace hx503_2 := (HB.out.cell (World.block_lt_of_cell? w _ hx503_2)).trans hx503_2
            replace p503 := eq_true p503
            replace q503 := eq_true q503
            go_wp2_with (first | ((with_reducible refine gate_dst (N := 24) rfl ?_); (try (refine gate_guard (by rfl) ?_; dsimp only)); refine bE (N := 24) (cs := #[.int .i64 0, .int .i64 0, .int .i64 0]) (t := 51) ?_; intro gb504 hg w101 hbox hb; replace HO_500000 := tR HO_500000 hb; replace HO_500001 := tR HO_500001 hb; replace HO_500002 := Aside0.mk (Kd.R_below (Kd.R_elderB (sR HO_500002) gb504 (Nat.le_of_eq hg.symm)) hb); have BK504 := Aside0.mk (hbox); have GW504 := gW hg HB; have GE504 := GW504; replace HB := tW HB hb; have NB455_504 := gL hg BK455; have NB504_455 := gG hg BK455; replace BK455 := tB BK455 hb; have NB456_504 := gL hg BK456; have NB504_456 := gG hg BK456; replace BK456 := tB BK456 hb; have NB457_504 := gL hg BK457; have NB504_457 := gG hg BK457; replace BK457 := tB BK457 hb; have NB458_504 := gL hg BK458; have NB504_458 := gG hg BK458; replace BK458 := tB BK458 hb; have NB499_504 := gL hg BK499; have NB504_499 := gG hg BK499; replace BK499 := tB BK499 hb; clear hb hbox hg; have hnb102 := NB504_455.out; have hnc102 := NB455_504.out; have hnb103 := NB504_456.out; have hnc103 := NB456_504.out; have hnb104 := NB504_457.out; have hnc104 := NB457_504.out; have hnb105 := NB504_458.out; have hnc105 := NB458_504.out; have hnb106 := NB504_499.out; have hnc106 := NB499_504.out; have hcz107_0 : w101.cell? ⟨gb504, 0, none⟩ = some (.int .i64 0) := bt BK504 0; have hcz107_1 : w101.cell? ⟨gb504, 1, none⟩ = some (.int .i64 0) := bt BK504 1; have hcz107_2 : w101.cell? ⟨gb504, 2, none⟩ = some (.int .i64 0) := bt BK504 2; have hfz107_0 := blk_frozen BK504.out 0; have hfz107_1 := blk_frozen BK504.out 1; have hfz107_2 := blk_frozen BK504.out 2; have hnb108 := NB457_455.out; have hnc108 := NB455_457.out; have hnb109 := NB457_456.out; have hnc109 := NB456_457.out; have hnb110 := NB457_458.out; have hnc110 := NB458_457.out; have hnb111 := NB457_499.out; have hnc111 := NB499_457.out; have hcz112_0 : w101.cell? ⟨gb457, 0, none⟩ = some (.int .i64 a2_0) := bt BK457 0; have hcz112_1 : w101.cell? ⟨gb457, 1, none⟩ = some (.int .i64 a2_1) := bt BK457 1; have hcz112_2 : w101.cell? ⟨gb457, 2, none⟩ = some (.int .i64 a2_2) := bt BK457 2; have hcz112_3 : w101.cell? ⟨gb457, 3, none⟩ = some (.int .i64 a2_3) := bt BK457 3; have hfz112_0 := blk_frozen BK457.out 0; have hfz112_1 := blk_frozen BK457.out 1; have hfz112_2 := blk_frozen BK457.out 2; have hfz112_3 := blk_frozen BK457.out 3))
            go_roundg k3
            case measure => have := HJ6.out; have := HK2.out; have := HK3.out; omega
            case rel => exact ⟨(wrap64 (x22_3 + 1)), (wrap64 (x104_3 + 1)), aR, aR, H', ⟨by have := HJ6.out; have := HK2.out; have := HK3.out; omega⟩, ⟨mR (by exact Kd.R_mono (Kd.R_far (p := ⟨gb504, 2, none⟩) (Kd.R_far (p := ⟨gb504, 1, none⟩) (Kd.R_far (p := ⟨gb504, 0, none⟩) (Kd.R_types HO_500000.out BK504.out (by decide)) (fun _ hk => hk.2) (.int .i64 ((rd_T51 l0_2 x104_3).f0.f0))) (fun _ hk => hk.2) (.int .i64 ((rd_T51 l0_2 x104_3).f0.f1))) (fun _ hk => hk.2) (.int .i64 ((rd_T51 l0_2 x104_3).f1))) (fun _ hk => hk.1))⟩, ⟨mR (by exact Kd.R_mono (Kd.R_far (p := ⟨gb504, 2, none⟩) (Kd.R_far (p := ⟨gb504, 1, none⟩) (Kd.R_far (p := ⟨gb504, 0, none⟩) (Kd.R_types HO_500001.out BK504.out (by decide)) (fun _ hk => hk.2) (.int .i64 ((rd_T51 l0_2 x104_3).f0.f0))) (fun _ hk => hk.2) (.int .i64 ((rd_T51 l0_2 x104_3).f0.f1))) (fun _ hk => hk.2) (.int .i64 ((rd_T51 l0_2 x104_3).f1))) (fun _ hk => trivial))⟩, ⟨mR (by exact Kd.R_mono (Kd.R_far (p := ⟨gb504, 2, none⟩) (Kd.R_far (p := ⟨gb504, 1, none⟩) (Kd.R_far (p := ⟨gb504, 0, none⟩) (Kd.R_mono HO_500002.out (fun k_ hk => (⟨hk, hk.2⟩ : _ ∧ k_ ≠ gb504))) (fun _ hk => hk.2) (.int .i64 ((rd_T51 l0_2 x104_3).f0.f0))) (fun _ hk => hk.2) (.int .i64 ((rd_T51 l0_2 x104_3).f0.f1))) (fun _ hk => hk.2) (.int .i64 ((rd_T51 l0_2 x104_3).f1))) (fun _ hk => trivial))⟩, ⟨sB BK455⟩, ⟨sB BK456⟩, ⟨sB BK457⟩, ⟨sB BK458⟩, ⟨sB BK499⟩, ⟨sW HB⟩⟩
           rw [if_neg c100] at H
           have c100b0 : (((rd_T51 l0_2 x104_3).f0.f0) == a2_0) = false := beq_eq_false_iff_ne.mpr c100
           have c100b1 : (((rd_T51 l0_2 x104_3).f0.f0) != a2_0) = true := bne_iff_ne.mpr c100
           have H' := Aside0.mk H
           clear H
           have p503 : 0 ≤ (x104_3 : Int) := dA
           have q503 : x104_3 < (l0_2.length : Int) := dA
           obtain ⟨ad503, e503, hx503_0, hx503_1, hx503_2⟩ := at_T51 HR0_2.out x104_3 p503 q503
           cases e503
           replace hx503_0 := (HB.out.cell (World.block_lt_of_cell? w _ hx503_0)).trans hx503_0
           replace hx503_1 := (HB.out.cell (World.block_lt_of_cell? w _ hx503_1)).trans hx503_1
           replace hx503_2 := (HB.out.cell (World.block_lt_of_cell? w _ hx503_2)).trans hx503_2
           replace p503 := eq_true p503
           replace q503 := eq_true q503
           go_wp2_with (first | ((with_reducible refine gate_dst (N := 24) rfl ?_); (try (refine gate_guard (by rfl) ?_; dsimp only)); refine bE (N := 24) (cs := #[.int .i64 0, .int .i64 0, .int .i64 0]) (t := 51) ?_; intro gb504 hg w113 hbox hb; replace HO_500000 := tR HO_500000 hb; replace HO_500001 := tR HO_500001 hb; replace HO_500002 := Aside0.mk (Kd.R_below (Kd.R_elderB (sR HO_500002) gb504 (Nat.le_of_eq hg.symm)) hb); have BK504 := Aside0.mk (hbox); have GW504 := gW hg HB; have GE504 := GW504; replace HB := tW HB hb; have NB455_504 := gL hg BK455; have NB504_455 := gG hg BK455; replace BK455 := tB BK455 hb; have NB456_504 := gL hg BK456; have NB504_456 := gG hg BK456; replace BK456 := tB BK456 hb; have NB457_504 := gL hg BK457; have NB504_457 := gG hg BK457; replace BK457 := tB BK457 hb; have NB458_504 := gL hg BK458; have NB504_458 := gG hg BK458; replace BK458 := tB BK458 hb; have NB499_504 := gL hg BK499; have NB504_499 := gG hg BK499; replace BK499 := tB BK499 hb; clear hb hbox hg; have hnb114 := NB504_455.out; have hnc114 := NB455_504.out; have hnb115 := NB504_456.out; have hnc115 := NB456_504.out; have hnb116 := NB504_457.out; have hnc116 := NB457_504.out; have hnb117 := NB504_458.out; have hnc117 := NB458_504.out; have hnb118 := NB504_499.out; have hnc118 := NB499_504.out; have hcz119_0 : w113.cell? ⟨gb504, 0, none⟩ = some (.int .i64 0) := bt BK504 0; have hcz119_1 : w113.cell? ⟨gb504, 1, none⟩ = some (.int .i64 0) := bt BK504 1; have hcz119_2 : w113.cell? ⟨gb504, 2, none⟩ = some (.int .i64 0) := bt BK504 2; have hfz119_0 := blk_frozen BK504.out 0; have hfz119_1 := blk_frozen BK504.out 1; have hfz119_2 := blk_frozen BK504.out 2; have hnb120 := NB457_455.out; have hnc120 := NB455_457.out; have hnb121 := NB457_456.out; have hnc121 := NB456_457.out; have hnb122 := NB457_458.out; have hnc122 := NB458_457.out; have hnb123 := NB457_499.out; have hnc123 := NB499_457.out; have hcz124_0 : w113.cell? ⟨gb457, 0, none⟩ = some (.int .i64 a2_0) := bt BK457 0; have hcz124_1 : w113.cell? ⟨gb457, 1, none⟩ = some (.int .i64 a2_1) := bt BK457 1; have hcz124_2 : w113.cell? ⟨gb457, 2, none⟩ = some (.int .i64 a2_2) := bt BK457 2; have hcz124_3 : w113.cell? ⟨gb457, 3, none⟩ = some (.int .i64 a2_3) := bt BK457 3; have hfz124_0 := blk_frozen BK457.out 0; have hfz124_1 := blk_frozen BK457.out 1; have hfz124_2 := blk_frozen BK457.out 2; have hfz124_3 := blk_frozen BK457.out 3))
           go_roundg k3
           case measure => have := HJ6.out; have := HK2.out; have := HK3.out; omega
           case rel => exact ⟨(x22_3), (wrap64 (x104_3 + 1)), aR, aR, H', ⟨by have := HJ6.out; have := HK2.out; have := HK3.out; omega⟩, ⟨mR (by exact Kd.R_mono (Kd.R_far (p := ⟨gb504, 2, none⟩) (Kd.R_far (p := ⟨gb504, 1, none⟩) (Kd.R_far (p := ⟨gb504, 0, none⟩) (Kd.R_types HO_500000.out BK504.out (by decide)) (fun _ hk => hk.2) (.int .i64 ((rd_T51 l0_2 x104_3).f0.f0))) (fun _ hk => hk.2) (.int .i64 ((rd_T51 l0_2 x104_3).f0.f1))) (fun _ hk => hk.2) (.int .i64 ((rd_T51 l0_2 x104_3).f1))) (fun _ hk => hk.1))⟩, ⟨mR (by exact Kd.R_mono (Kd.R_far (p := ⟨gb504, 2, none⟩) (Kd.R_far (p := ⟨gb504, 1, none⟩) (Kd.R_far (p := ⟨gb504, 0, none⟩) (Kd.R_types HO_500001.out BK504.out (by decide)) (fun _ hk => hk.2) (.int .i64 ((rd_T51 l0_2 x104_3).f0.f0))) (fun _ hk => hk.2) (.int .i64 ((rd_T51 l0_2 x104_3).f0.f1))) (fun _ hk => hk.2) (.int .i64 ((rd_T51 l0_2 x104_3).f1))) (fun _ hk => trivial))⟩, ⟨mR (by exact Kd.R_mono (Kd.R_far (p := ⟨gb504, 2, none⟩) (Kd.R_far (p := ⟨gb504, 1, none⟩) (Kd.R_far (p := ⟨gb504, 0, none⟩) (Kd.R_mono HO_500002.out (fun k_ hk => (⟨hk, hk.2⟩ : _ ∧ k_ ≠ gb504))) (fun _ hk => hk.2) (.int .i64 ((rd_T51 l0_2 x104_3).f0.f0))) (fun _ hk => hk.2) (.int .i64 ((rd_T51 l0_2 x104_3).f0.f1))) (fun _ hk => hk.2) (.int .i64 ((rd_T51 l0_2 x104_3).f1))) (fun _ hk => trivial))⟩, ⟨sB BK455⟩, ⟨sB BK456⟩, ⟨sB BK457⟩, ⟨sB BK458⟩, ⟨sB BK499⟩, ⟨sW HB⟩⟩
          rw [if_neg c99] at H
          exact absurd H (by simp)
         rw [if_neg c98] at H
         exact absurd H (by simp)
        rw [if_neg c97] at H
        have c97b0 : decide (x104_3 < (l0_2.length : Int)) = false := decide_eq_false c97
        clear c97
        have H' := Aside0.mk H
        clear H
        have hnb125 := NB499_455.out
        have hnc125 := NB455_499.out
        have hnb126 := NB499_456.out
        have hnc126 := NB456_499.out
        have hnb127 := NB499_457.out
        have hnc127 := NB457_499.out
        have hnb128 := NB499_458.out
        have hnc128 := NB458_499.out
        have hcz129_0 : wr.cell? ⟨gb499, 0, none⟩ = some (.slice Ao86 t489.length co86) := bt BK499 0
        have hcz129_1 : wr.cell? ⟨gb499, 1, none⟩ = some (.slice Ao92 t492.length co92) := bt BK499 1
        have hcz129_2 : wr.cell? ⟨gb499, 2, none⟩ = some (.slice Ao93 t495.length co93) := bt BK499 2
        have hfz129_0 := blk_frozen BK499.out 0
        have hfz129_1 := blk_frozen BK499.out 1
        have hfz129_2 := blk_frozen BK499.out 2
        go_wp2
        go_loopg [25, 121] k3 (fun kq v25 v121 w' => ∃ (x25_4 : Bool) (x121_4 : Int), v25 = .bool x25_4 ∧ v121 = .int .i64 x121_4 ∧ Aside0 (slotmeshlaw12_CellsValid.l2 kq t459 t500 t501 t502 x22_3 x25_4 t489 (t489.length : Int) x121_4 l0_0 l0_1 l0_2 a1_0 a1_1 a2_0 a2_1 a2_2 a2_3 t489 t492 t495 = some r) ∧ Aside0 (kq ≤ k3) ∧ Aside0 (Kd.R k32 32 w' w.heap.size (fun k_ => k_ ≠ gb457) (.slice Ao86 t489.length co86) t489) ∧ Aside0 (Kd.R k32 32 w' w.heap.size (fun k_ => k_ ≠ gb457) (.slice Ao86 t489.length co86) t489) ∧ Aside0 (Kd.R k34 34 w' w.heap.size (fun _ => True) (.slice Ao92 t492.length co92) t492) ∧ Aside0 (Kd.R k51 51 w' w.heap.size (fun _ => True) (.slice Ao93 t495.length co93) t495) ∧ Aside0 (w'.heap[gb455]? = some (.cells #[(.slice A0_0 l0_0.length c0_0), (.slice A0_1 l0_1.length c0_1), (.slice A0_2 l0_2.length c0_2)] 26 (0, 0))) ∧ Aside0 (w'.heap[gb456]? = some (.cells #[.int .i64 a1_0, .int .i64 a1_1] 28 (0, 0))) ∧ Aside0 (w'.heap[gb457]? = some (.cells #[.int .i64 a2_0, .int .i64 a2_1, .int .i64 a2_2, .int .i64 a2_3] 32 (0, 0))) ∧ Aside0 (w'.heap[gb458]? = some (.cells #[.int .i64 a3_0, .int .i64 a3_1] 30 (0, 0))) ∧ Aside0 (w'.heap[gb499]? = some (.cells #[(.slice Ao86 t489.length co86), (.slice Ao92 t492.length co92), (.slice Ao93 t495.length co93)] 26 (0, 0))) ∧ Aside0 (Below w.heap.size w w'))
        case atStart => exact ⟨(false), (0), aR, aR, H', ⟨Nat.le_refl _⟩, ⟨sR HO_500000⟩, ⟨sR HO_500000⟩, ⟨sR HO_500001⟩, ⟨sR HO_500002⟩, ⟨sB BK455⟩, ⟨sB BK456⟩, ⟨sB BK457⟩, ⟨sB BK458⟩, ⟨sB BK499⟩, ⟨sW HB⟩⟩
        case round =>
         clear H'
         try clear c1
         try clear c2
         try clear p2
         try clear c3
         try clear c4
         try clear p4
         try clear q4
         try clear hx4
         try clear c5
         try clear p5
         try clear q5
         try clear hx5
         try clear c6
         try clear p6
         try clear c7
         try clear c8
         try clear c9
         try clear c10
         try clear c11
         try clear c12
         try clear c14
         try clear c16
         try clear c17
         try clear c18
         try clear c21
         try clear c22
         try clear c23
         try clear c25
         try clear c26
         try clear c27
         try clear c28
         try clear c31
         try clear c46
         try clear c46b0
         try clear c47
         try clear c47b0
         try clear c48
         try clear c48b0
         try clear p48
         try clear q48
         try clear hx48
         try clear p50
         try clear q50
         try clear hx50
         try clear c51
         try clear c52
         try clear c52b0
         try clear c52b1
         try clear c53
         try clear c53b0
         try clear c53b1
         try clear c54
         try clear c54b0
         try clear c54b1
         try clear c56
         try clear c57
         try clear c58
         try clear c59
         try clear c61
         try clear c62
         try clear c63
         try clear p64
         try clear c67
         try clear c68
         try clear c73
         try clear c73b0
         try clear c73b1
         try clear c75
         try clear c76
         try clear c77
         try clear c79
         try clear c80
         try clear c82
         try clear c87
         try clear c88
         try clear c89
         try clear c90
         try clear c97
         try clear c97b0
         try clear c98
         try clear c98b0
         try clear c99
         try clear c99b0
         try clear c100
         try clear c100b0
         try clear c100b1
         try clear c102
         try clear c103
         try clear c104
         try clear c105
         try clear c106
         try clear c108
         try clear c109
         try clear c110
         try clear c111
         try clear c114
         try clear c115
         try clear c116
         try clear c117
         try clear c118
         try clear c120
         try clear c121
         try clear c122
         try clear c123
         try clear c125
         try clear c126
         try clear c127
         try clear c128
         try clear hcz107_0 hcz107_1 hcz107_2 hfz107_0 hfz107_1 hfz107_2
         try clear hcz112_0 hcz112_1 hcz112_2 hcz112_3 hfz112_0 hfz112_1 hfz112_2 hfz112_3
         try clear hcz119_0 hcz119_1 hcz119_2 hfz119_0 hfz119_1 hfz119_2
         try clear hcz124_0 hcz124_1 hcz124_2 hcz124_3 hfz124_0 hfz124_1 hfz124_2 hfz124_3
         try clear hcz129_0 hcz129_1 hcz129_2 hfz129_0 hfz129_1 hfz129_2
         try clear hcz19_0 hcz19_1 hcz19_2 hfz19_0 hfz19_1 hfz19_2
         try clear hcz21_0 hcz21_1 hcz21_2 hfz21_0 hfz21_1 hfz21_2
         try clear hcz24_0 hcz24_1 hfz24_0 hfz24_1
         try clear hcz29_0 hcz29_1 hcz29_2 hfz29_0 hfz29_1 hfz29_2
         try clear hcz60_0 hcz60_1 hcz60_2 hfz60_0 hfz60_1 hfz60_2
         try clear hcz64_0 hcz64_1 hcz64_2 hfz64_0 hfz64_1 hfz64_2
         try clear hcz66_0 hcz66_1 hcz66_2 hfz66_0 hfz66_1 hfz66_2
         try clear hcz69_0 hcz69_1 hfz69_0 hfz69_1
         try clear hcz71_0 hcz71_1 hcz71_2 hfz71_0 hfz71_1 hfz71_2
         try clear hcz78_0 hcz78_1 hcz78_2 hfz78_0 hfz78_1 hfz78_2
         try clear hcz81_0 hcz81_1 hfz81_0 hfz81_1
         try clear hcz83_0 hcz83_1 hcz83_2 hcz83_3 hfz83_0 hfz83_1 hfz83_2 hfz83_3
         try clear hcz91_0 hcz91_1 hcz91_2 hfz91_0 hfz91_1 hfz91_2
         try clear hcz94_0 hcz94_1 hcz94_2 hfz94_0 hfz94_1 hfz94_2
         try clear hcz96_0 hcz96_1 hcz96_2 hfz96_0 hfz96_1 hfz96_2
         try clear hx483_0
         try clear hx483_1
         try clear hx483_2
         try clear hx503_0
         try clear hx503_1
         try clear hx503_2
         try clear p2
         try clear p4
         try clear p48
         try clear p483
         try clear p503
         try clear p6
         try clear p64
         try clear q4
         try clear q48
         try clear q483
         try clear q503
         obtain ⟨x25_4, x121_4, rfl, rfl, HA, HK4, HO_119, HO_500000, HO_500001, HO_500002, BK455, BK456, BK457, BK458, BK499, HB⟩ := hrel
         cases gk with
         | zero => exact absurd HA.out (by simp [slotmeshlaw12_CellsValid.l2])
         | succ k4 =>
          have H := HA.out
          clear HA
          simp only [slotmeshlaw12_CellsValid.l2] at H
          by_cases c130 : x121_4 < (t489.length : Int)
          ·rw [if_pos c130] at H
           have c130b0 : decide (x121_4 < (t489.length : Int)) = true := decide_eq_true c130
           clear c130
           by_cases c131 : 0 ≤ x121_4
           ·rw [if_pos c131] at H
            have c131b0 : decide (0 ≤ x121_4) = true := decide_eq_true c131
            clear c131
            by_cases c132 : x121_4 < (t489.length : Int)
            ·rw [if_pos c132] at H
             have c132b0 : decide (x121_4 < (t489.length : Int)) = true := decide_eq_true c132
             clear c132
             by_cases c133 : x25_4 = true
             ·subst c133
              have H1 : (slotmeshlaw12_CellsValid.l2 k4 t459 t500 t501 t502 x22_3 true t489 (t489.length : Int) (wrap64 (x121_4 + 1)) l0_0 l0_1 l0_2 a1_0 a1_1 a2_0 a2_1 a2_2 a2_3 t489 t492 t495) = some r := by rw [if_pos rfl] at H; exact H
              clear H
              have H := H1
              clear H1
              have H' := Aside0.mk H
              clear H
              have p505 : 0 ≤ (x121_4 : Int) := dA
              have q505 : x121_4 < (t489.length : Int) := dA
              obtain ⟨ad505, e505, hx505_0, hx505_1, hx505_2, hx505_3⟩ := at_T32 (Kd.R_reads' HO_119.out).2.2 x121_4 p505 q505
              cases e505
              replace p505 := eq_true p505
              replace q505 := eq_true q505
              go_wp2_with (first | ((with_reducible refine gate_dst (N := 27) rfl ?_); (try (refine gate_guard (by rfl) ?_; dsimp only)); refine bE (N := 27) (cs := #[.int .i64 0, .int .i64 0, .int .i64 0, .int .i64 0]) (t := 32) ?_; intro gb506 hg w134 hbox hb; replace HO_119 := Aside0.mk (Kd.R_below (Kd.R_elderB (sR HO_119) gb506 (Nat.le_of_eq hg.symm)) hb); replace HO_500000 := Aside0.mk (Kd.R_below (Kd.R_elderB (sR HO_500000) gb506 (Nat.le_of_eq hg.symm)) hb); replace HO_500001 := tR HO_500001 hb; replace HO_500002 := tR HO_500002 hb; have BK506 := Aside0.mk (hbox); have GW506 := gW hg HB; have GE506 := GW506; replace HB := tW HB hb; have NB455_506 := gL hg BK455; have NB506_455 := gG hg BK455; replace BK455 := tB BK455 hb; have NB456_506 := gL hg BK456; have NB506_456 := gG hg BK456; replace BK456 := tB BK456 hb; have NB457_506 := gL hg BK457; have NB506_457 := gG hg BK457; replace BK457 := tB BK457 hb; have NB458_506 := gL hg BK458; have NB506_458 := gG hg BK458; replace BK458 := tB BK458 hb; have NB499_506 := gL hg BK499; have NB506_499 := gG hg BK499; replace BK499 := tB BK499 hb; clear hb hbox hg; have hnb135 := NB506_455.out; have hnc135 := NB455_506.out; have hnb136 := NB506_456.out; have hnc136 := NB456_506.out; have hnb137 := NB506_457.out; have hnc137 := NB457_506.out; have hnb138 := NB506_458.out; have hnc138 := NB458_506.out; have hnb139 := NB506_499.out; have hnc139 := NB499_506.out; have hcz140_0 : w134.cell? ⟨gb506, 0, none⟩ = some (.int .i64 0) := bt BK506 0; have hcz140_1 : w134.cell? ⟨gb506, 1, none⟩ = some (.int .i64 0) := bt BK506 1; have hcz140_2 : w134.cell? ⟨gb506, 2, none⟩ = some (.int .i64 0) := bt BK506 2; have hcz140_3 : w134.cell? ⟨gb506, 3, none⟩ = some (.int .i64 0) := bt BK506 3; have hfz140_0 := blk_frozen BK506.out 0; have hfz140_1 := blk_frozen BK506.out 1; have hfz140_2 := blk_frozen BK506.out 2; have hfz140_3 := blk_frozen BK506.out 3))
              go_roundg k4
              case measure => have := HJ6.out; have := HK2.out; have := HK3.out; have := HK4.out; omega
              case rel => exact ⟨(true), (wrap64 (x121_4 + 1)), aR, aR, H', ⟨by have := HJ6.out; have := HK2.out; have := HK3.out; have := HK4.out; omega⟩, ⟨mR (by exact Kd.R_mono (Kd.R_far (p := ⟨gb506, 3, none⟩) (Kd.R_far (p := ⟨gb506, 2, none⟩) (Kd.R_far (p := ⟨gb506, 1, none⟩) (Kd.R_far (p := ⟨gb506, 0, none⟩) (Kd.R_mono HO_119.out (fun k_ hk => (⟨hk, hk.2⟩ : _ ∧ k_ ≠ gb506))) (fun _ hk => hk.2) (.int .i64 ((rd_T32 t489 x121_4).f0.f0))) (fun _ hk => hk.2) (.int .i64 ((rd_T32 t489 x121_4).f0.f1))) (fun _ hk => hk.2) (.int .i64 ((rd_T32 t489 x121_4).f1))) (fun _ hk => hk.2) (.int .i64 ((rd_T32 t489 x121_4).f2))) (fun _ hk => hk.1.1))⟩, ⟨mR (by exact Kd.R_mono (Kd.R_far (p := ⟨gb506, 3, none⟩) (Kd.R_far (p := ⟨gb506, 2, none⟩) (Kd.R_far (p := ⟨gb506, 1, none⟩) (Kd.R_far (p := ⟨gb506, 0, none⟩) (Kd.R_mono HO_500000.out (fun k_ hk => (⟨hk, hk.2⟩ : _ ∧ k_ ≠ gb506))) (fun _ hk => hk.2) (.int .i64 ((rd_T32 t489 x121_4).f0.f0))) (fun _ hk => hk.2) (.int .i64 ((rd_T32 t489 x121_4).f0.f1))) (fun _ hk => hk.2) (.int .i64 ((rd_T32 t489 x121_4).f1))) (fun _ hk => hk.2) (.int .i64 ((rd_T32 t489 x121_4).f2))) (fun _ hk => hk.1.1))⟩, ⟨mR (by exact Kd.R_mono (Kd.R_far (p := ⟨gb506, 3, none⟩) (Kd.R_far (p := ⟨gb506, 2, none⟩) (Kd.R_far (p := ⟨gb506, 1, none⟩) (Kd.R_far (p := ⟨gb506, 0, none⟩) (Kd.R_types HO_500001.out BK506.out (by decide)) (fun _ hk => hk.2) (.int .i64 ((rd_T32 t489 x121_4).f0.f0))) (fun _ hk => hk.2) (.int .i64 ((rd_T32 t489 x121_4).f0.f1))) (fun _ hk => hk.2) (.int .i64 ((rd_T32 t489 x121_4).f1))) (fun _ hk => hk.2) (.int .i64 ((rd_T32 t489 x121_4).f2))) (fun _ hk => trivial))⟩, ⟨mR (by exact Kd.R_mono (Kd.R_far (p := ⟨gb506, 3, none⟩) (Kd.R_far (p := ⟨gb506, 2, none⟩) (Kd.R_far (p := ⟨gb506, 1, none⟩) (Kd.R_far (p := ⟨gb506, 0, none⟩) (Kd.R_types HO_500002.out BK506.out (by decide)) (fun _ hk => hk.2) (.int .i64 ((rd_T32 t489 x121_4).f0.f0))) (fun _ hk => hk.2) (.int .i64 ((rd_T32 t489 x121_4).f0.f1))) (fun _ hk => hk.2) (.int .i64 ((rd_T32 t489 x121_4).f1))) (fun _ hk => hk.2) (.int .i64 ((rd_T32 t489 x121_4).f2))) (fun _ hk => trivial))⟩, ⟨sB BK455⟩, ⟨sB BK456⟩, ⟨sB BK457⟩, ⟨sB BK458⟩, ⟨sB BK499⟩, ⟨sW HB⟩⟩
             replace c133 := Bool.eq_false_iff.mpr c133
             subst c133
             have H1 : (slotmeshlaw12_CellsValid.l2 k4 t459 t500 t501 t502 x22_3 ((((rd_T32 t489 x121_4).f0.f0) == a2_0 && (((rd_T32 t489 x121_4).f0.f1) == a2_1)) && (((rd_T32 t489 x121_4).f1) == a2_2 && (((rd_T32 t489 x121_4).f2) == a2_3))) t489 (t489.length : Int) (wrap64 (x121_4 + 1)) l0_0 l0_1 l0_2 a1_0 a1_1 a2_0 a2_1 a2_2 a2_3 t489 t492 t495) = some r := by rw [if_neg (show ¬ (false = true) by decide)] at H; exact H
             clear H
             have H := H1
             clear H1
             have H' := Aside0.mk H
             clear H
             have p505 : 0 ≤ (x121_4 : Int) := dA
             have q505 : x121_4 < (t489.length : Int) := dA
             obtain ⟨ad505, e505, hx505_0, hx505_1, hx505_2, hx505_3⟩ := at_T32 (Kd.R_reads' HO_119.out).2.2 x121_4 p505 q505
             cases e505
             replace p505 := eq_true p505
             replace q505 := eq_true q505
             go_wp2_with (first | ((with_reducible refine gate_dst (N := 27) rfl ?_); (try (refine gate_guard (by rfl) ?_; dsimp only)); refine bE (N := 27) (cs := #[.int .i64 0, .int .i64 0, .int .i64 0, .int .i64 0]) (t := 32) ?_; intro gb506 hg w141 hbox hb; replace HO_119 := Aside0.mk (Kd.R_below (Kd.R_elderB (sR HO_119) gb506 (Nat.le_of_eq hg.symm)) hb); replace HO_500000 := Aside0.mk (Kd.R_below (Kd.R_elderB (sR HO_500000) gb506 (Nat.le_of_eq hg.symm)) hb); replace HO_500001 := tR HO_500001 hb; replace HO_500002 := tR HO_500002 hb; have BK506 := Aside0.mk (hbox); have GW506 := gW hg HB; have GE506 := GW506; replace HB := tW HB hb; have NB455_506 := gL hg BK455; have NB506_455 := gG hg BK455; replace BK455 := tB BK455 hb; have NB456_506 := gL hg BK456; have NB506_456 := gG hg BK456; replace BK456 := tB BK456 hb; have NB457_506 := gL hg BK457; have NB506_457 := gG hg BK457; replace BK457 := tB BK457 hb; have NB458_506 := gL hg BK458; have NB506_458 := gG hg BK458; replace BK458 := tB BK458 hb; have NB499_506 := gL hg BK499; have NB506_499 := gG hg BK499; replace BK499 := tB BK499 hb; clear hb hbox hg; have hnb142 := NB506_455.out; have hnc142 := NB455_506.out; have hnb143 := NB506_456.out; have hnc143 := NB456_506.out; have hnb144 := NB506_457.out; have hnc144 := NB457_506.out; have hnb145 := NB506_458.out; have hnc145 := NB458_506.out; have hnb146 := NB506_499.out; have hnc146 := NB499_506.out; have hcz147_0 : w141.cell? ⟨gb506, 0, none⟩ = some (.int .i64 0) := bt BK506 0; have hcz147_1 : w141.cell? ⟨gb506, 1, none⟩ = some (.int .i64 0) := bt BK506 1; have hcz147_2 : w141.cell? ⟨gb506, 2, none⟩ = some (.int .i64 0) := bt BK506 2; have hcz147_3 : w141.cell? ⟨gb506, 3, none⟩ = some (.int .i64 0) := bt BK506 3; have hfz147_0 := blk_frozen BK506.out 0; have hfz147_1 := blk_frozen BK506.out 1; have hfz147_2 := blk_frozen BK506.out 2; have hfz147_3 := blk_frozen BK506.out 3; have hnb148 := NB457_455.out; have hnc148 := NB455_457.out; have hnb149 := NB457_456.out; have hnc149 := NB456_457.out; have hnb150 := NB457_458.out; have hnc150 := NB458_457.out; have hnb151 := NB457_499.out; have hnc151 := NB499_457.out; have hcz152_0 : w141.cell? ⟨gb457, 0, none⟩ = some (.int .i64 a2_0) := bt BK457 0; have hcz152_1 : w141.cell? ⟨gb457, 1, none⟩ = some (.int .i64 a2_1) := bt BK457 1; have hcz152_2 : w141.cell? ⟨gb457, 2, none⟩ = some (.int .i64 a2_2) := bt BK457 2; have hcz152_3 : w141.cell? ⟨gb457, 3, none⟩ = some (.int .i64 a2_3) := bt BK457 3; have hfz152_0 := blk_frozen BK457.out 0; have hfz152_1 := blk_frozen BK457.out 1; have hfz152_2 := blk_frozen BK457.out 2; have hfz152_3 := blk_frozen BK457.out 3))
             go_roundg k4
             case measure => have := HJ6.out; have := HK2.out; have := HK3.out; have := HK4.out; omega
             case rel => exact ⟨(((((rd_T32 t489 x121_4).f0.f0) == a2_0 && (((rd_T32 t489 x121_4).f0.f1) == a2_1)) && (((rd_T32 t489 x121_4).f1) == a2_2 && (((rd_T32 t489 x121_4).f2) == a2_3)))), (wrap64 (x121_4 + 1)), aR, aR, H', ⟨by have := HJ6.out; have := HK2.out; have := HK3.out; have := HK4.out; omega⟩, ⟨mR (by exact Kd.R_mono (Kd.R_far (p := ⟨gb506, 3, none⟩) (Kd.R_far (p := ⟨gb506, 2, none⟩) (Kd.R_far (p := ⟨gb506, 1, none⟩) (Kd.R_far (p := ⟨gb506, 0, none⟩) (Kd.R_mono HO_119.out (fun k_ hk => (⟨hk, hk.2⟩ : _ ∧ k_ ≠ gb506))) (fun _ hk => hk.2) (.int .i64 ((rd_T32 t489 x121_4).f0.f0))) (fun _ hk => hk.2) (.int .i64 ((rd_T32 t489 x121_4).f0.f1))) (fun _ hk => hk.2) (.int .i64 ((rd_T32 t489 x121_4).f1))) (fun _ hk => hk.2) (.int .i64 ((rd_T32 t489 x121_4).f2))) (fun _ hk => hk.1.1))⟩, ⟨mR (by exact Kd.R_mono (Kd.R_far (p := ⟨gb506, 3, none⟩) (Kd.R_far (p := ⟨gb506, 2, none⟩) (Kd.R_far (p := ⟨gb506, 1, none⟩) (Kd.R_far (p := ⟨gb506, 0, none⟩) (Kd.R_mono HO_500000.out (fun k_ hk => (⟨hk, hk.2⟩ : _ ∧ k_ ≠ gb506))) (fun _ hk => hk.2) (.int .i64 ((rd_T32 t489 x121_4).f0.f0))) (fun _ hk => hk.2) (.int .i64 ((rd_T32 t489 x121_4).f0.f1))) (fun _ hk => hk.2) (.int .i64 ((rd_T32 t489 x121_4).f1))) (fun _ hk => hk.2) (.int .i64 ((rd_T32 t489 x121_4).f2))) (fun _ hk => hk.1.1))⟩, ⟨mR (by exact Kd.R_mono (Kd.R_far (p := ⟨gb506, 3, none⟩) (Kd.R_far (p := ⟨gb506, 2, none⟩) (Kd.R_far (p := ⟨gb506, 1, none⟩) (Kd.R_far (p := ⟨gb506, 0, none⟩) (Kd.R_types HO_500001.out BK506.out (by decide)) (fun _ hk => hk.2) (.int .i64 ((rd_T32 t489 x121_4).f0.f0))) (fun _ hk => hk.2) (.int .i64 ((rd_T32 t489 x121_4).f0.f1))) (fun _ hk => hk.2) (.int .i64 ((rd_T32 t489 x121_4).f1))) (fun _ hk => hk.2) (.int .i64 ((rd_T32 t489 x121_4).f2))) (fun _ hk => trivial))⟩, ⟨mR (by exact Kd.R_mono (Kd.R_far (p := ⟨gb506, 3, none⟩) (Kd.R_far (p := ⟨gb506, 2, none⟩) (Kd.R_far (p := ⟨gb506, 1, none⟩) (Kd.R_far (p := ⟨gb506, 0, none⟩) (Kd.R_types HO_500002.out BK506.out (by decide)) (fun _ hk => hk.2) (.int .i64 ((rd_T32 t489 x121_4).f0.f0))) (fun _ hk => hk.2) (.int .i64 ((rd_T32 t489 x121_4).f0.f1))) (fun _ hk => hk.2) (.int .i64 ((rd_T32 t489 x121_4).f1))) (fun _ hk => hk.2) (.int .i64 ((rd_T32 t489 x121_4).f2))) (fun _ hk => trivial))⟩, ⟨sB BK455⟩, ⟨sB BK456⟩, ⟨sB BK457⟩, ⟨sB BK458⟩, ⟨sB BK499⟩, ⟨sW HB⟩⟩
            rw [if_neg c132] at H
            exact absurd H (by simp)
           rw [if_neg c131] at H
           exact absurd H (by simp)
          rw [if_neg c130] at H
          have c130b0 : decide (x121_4 < (t489.length : Int)) = false := decide_eq_false c130
          clear c130
          by_cases c153 : t459 = true
          ·subst c153
           have H1 : (if x25_4 = true then ((slotmeshref12_Valid.f t489 t492 t495 a1_0 a1_1).bind fun t507 => (if t507 = true then (if t500 = (l0_0.length : Int) then (if t501 = (l0_1.length : Int) then (if t502 = (wrap64 ((l0_2.length : Int) - x22_3)) then (if (t489.length : Int) = (wrap64 (t500 + 1)) then (if (t492.length : Int) = t501 then (some ((t495.length : Int) == t502)) else (some false)) else (some false)) else (some false)) else (some false)) else (some false)) else (some false))) else (some false)) = some r := by rw [if_pos rfl] at H; exact H
           clear H
           have H := H1
           clear H1
           by_cases c154 : x25_4 = true
           ·subst c154
            have H1 : ((slotmeshref12_Valid.f t489 t492 t495 a1_0 a1_1).bind fun t507 => (if t507 = true then (if t500 = (l0_0.length : Int) then (if t501 = (l0_1.length : Int) then (if t502 = (wrap64 ((l0_2.length : Int) - x22_3)) then (if (t489.length : Int) = (wrap64 (t500 + 1)) then (if (t492.length : Int) = t501 then (some ((t495.length : Int) == t502)) else (some false)) else (some false)) else (some false)) else (some false)) else (some false)) else (some false))) = some r := by rw [if_pos rfl] at H; exact H
            clear H
            have H := H1
            clear H1
            replace H := Option.bind_eq_some_iff.mp H
            obtain ⟨t507, A1550, H⟩ := H
            replace H : (if t507 = true then (if t500 = (l0_0.length : Int) then (if t501 = (l0_1.length : Int) then (if t502 = (wrap64 ((l0_2.length : Int) - x22_3)) then (if (t489.length : Int) = (wrap64 (t500 + 1)) then (if (t492.length : Int) = t501 then (some ((t495.length : Int) == t502)) else (some false)) else (some false)) else (some false)) else (some false)) else (some false)) else (some false)) = some r := H
            have A155 := Aside0.mk A1550
            clear A1550
            by_cases c156 : t507 = true
            ·subst c156
             have H1 : (if t500 = (l0_0.length : Int) then (if t501 = (l0_1.length : Int) then (if t502 = (wrap64 ((l0_2.length : Int) - x22_3)) then (if (t489.length : Int) = (wrap64 (t500 + 1)) then (if (t492.length : Int) = t501 then (some ((t495.length : Int) == t502)) else (some false)) else (some false)) else (some false)) else (some false)) else (some false)) = some r := by rw [if_pos rfl] at H; exact H
             clear H
             have H := H1
             clear H1
             by_cases c157 : t500 = (l0_0.length : Int)
             ·rw [if_pos c157] at H
              have c157b0 : (t500 == (l0_0.length : Int)) = true := beq_iff_eq.mpr c157
              have c157b1 : (t500 != (l0_0.length : Int)) = false := bne_eq_false_iff_eq.mpr c157
              clear c157
              by_cases c158 : t501 = (l0_1.length : Int)
              ·rw [if_pos c158] at H
               have c158b0 : (t501 == (l0_1.length : Int)) = true := beq_iff_eq.mpr c158
               have c158b1 : (t501 != (l0_1.length : Int)) = false := bne_eq_false_iff_eq.mpr c158
               clear c158
               by_cases c159 : t502 = (wrap64 ((l0_2.length : Int) - x22_3))
               ·rw [if_pos c159] at H
                have c159b0 : (t502 == (wrap64 ((l0_2.length : Int) - x22_3))) = true := beq_iff_eq.mpr c159
                have c159b1 : (t502 != (wrap64 ((l0_2.length : Int) - x22_3))) = false := bne_eq_false_iff_eq.mpr c159
                clear c159
                by_cases c160 : (t489.length : Int) = (wrap64 (t500 + 1))
                ·rw [if_pos c160] at H
                 have c160b0 : ((t489.length : Int) == (wrap64 (t500 + 1))) = true := beq_iff_eq.mpr c160
                 have c160b1 : ((t489.length : Int) != (wrap64 (t500 + 1))) = false := bne_eq_false_iff_eq.mpr c160
                 clear c160
                 by_cases c161 : (t492.length : Int) = t501
                 ·rw [if_pos c161] at H
                  have c161b0 : ((t492.length : Int) == t501) = true := beq_iff_eq.mpr c161
                  have c161b1 : ((t492.length : Int) != t501) = false := bne_eq_false_iff_eq.mpr c161
                  clear c161
                  obtain rfl := Option.some.inj H
                  have hnb162 := NB499_455.out
                  have hnc162 := NB455_499.out
                  have hnb163 := NB499_456.out
                  have hnc163 := NB456_499.out
                  have hnb164 := NB499_457.out
                  have hnc164 := NB457_499.out
                  have hnb165 := NB499_458.out
                  have hnc165 := NB458_499.out
                  have hcz166_0 : wr.cell? ⟨gb499, 0, none⟩ = some (.slice Ao86 t489.length co86) := bt BK499 0
                  have hcz166_1 : wr.cell? ⟨gb499, 1, none⟩ = some (.slice Ao92 t492.length co92) := bt BK499 1
                  have hcz166_2 : wr.cell? ⟨gb499, 2, none⟩ = some (.slice Ao93 t495.length co93) := bt BK499 2
                  have hfz166_0 := blk_frozen BK499.out 0
                  have hfz166_1 := blk_frozen BK499.out 1
                  have hfz166_2 := blk_frozen BK499.out 2
                  have hnb167 := NB456_455.out
                  have hnc167 := NB455_456.out
                  have hnb168 := NB456_457.out
                  have hnc168 := NB457_456.out
                  have hnb169 := NB456_458.out
                  have hnc169 := NB458_456.out
                  have hcz170_0 : wr.cell? ⟨gb456, 0, none⟩ = some (.int .i64 a1_0) := bt BK456 0
                  have hcz170_1 : wr.cell? ⟨gb456, 1, none⟩ = some (.int .i64 a1_1) := bt BK456 1
                  have hfz170_0 := blk_frozen BK456.out 0
                  have hfz170_1 := blk_frozen BK456.out 1
                  go_wp2_with (first | (go_at_call 18; (with_reducible refine (slotmeshref12_Valid.calls _ _ t489 _ _ t492 _ _ t495 a1_0 a1_1 true _ ?side1 ?side2 ?side3 ?side4 ?side5 ?side6 A155.out).mono ?_); (case side1 => exact sC (Kd.R_reads' HO_500000.out).2.2); (case side2 => exact (Kd.R_reads' HO_500000.out).2.1); (case side3 => exact sC (Kd.R_reads' HO_500001.out).2.2); (case side4 => exact (Kd.R_reads' HO_500001.out).2.1); (case side5 => exact sC (Kd.R_reads' HO_500002.out).2.2); (case side6 => exact (Kd.R_reads' HO_500002.out).2.1); rintro e w171 ⟨rfl, hb⟩; replace HO_119 := tR HO_119 hb; replace HO_500000 := tR HO_500000 hb; replace HO_500001 := tR HO_500001 hb; replace HO_500002 := tR HO_500002 hb; replace BK455 := tB BK455 hb; replace BK456 := tB BK456 hb; replace BK457 := tB BK457 hb; replace BK458 := tB BK458 hb; replace BK499 := tB BK499 hb; replace HB := tW HB hb; (try clear hb); (try clear hb2); (try clear hk); (try clear hi); have hnb172 := NB455_457.out; have hnc172 := NB457_455.out; have hnb173 := NB455_458.out; have hnc173 := NB458_455.out; have hcz174_0 : w171.cell? ⟨gb455, 0, none⟩ = some (.slice A0_0 l0_0.length c0_0) := bt BK455 0; have hcz174_1 : w171.cell? ⟨gb455, 1, none⟩ = some (.slice A0_1 l0_1.length c0_1) := bt BK455 1; have hcz174_2 : w171.cell? ⟨gb455, 2, none⟩ = some (.slice A0_2 l0_2.length c0_2) := bt BK455 2; have hfz174_0 := blk_frozen BK455.out 0; have hfz174_1 := blk_frozen BK455.out 1; have hfz174_2 := blk_frozen BK455.out 2; have hcz175_0 : w171.cell? ⟨gb499, 0, none⟩ = some (.slice Ao86 t489.length co86) := bt BK499 0; have hcz175_1 : w171.cell? ⟨gb499, 1, none⟩ = some (.slice Ao92 t492.length co92) := bt BK499 1; have hcz175_2 : w171.cell? ⟨gb499, 2, none⟩ = some (.slice Ao93 t495.length co93) := bt BK499 2; have hfz175_0 := blk_frozen BK499.out 0; have hfz175_1 := blk_frozen BK499.out 1; have hfz175_2 := blk_frozen BK499.out 2))
                  go_ret
                  exact ⟨aE, sW HB⟩
                 rw [if_neg c161] at H
                 have c161b0 : ((t492.length : Int) == t501) = false := beq_eq_false_iff_ne.mpr c161
                 have c161b1 : ((t492.length : Int) != t501) = true := bne_iff_ne.mpr c161
                 exact absurd (Option.some.inj H) (by rw [HRT.out]; decide)
                rw [if_neg c160] at H
                have c160b0 : ((t489.length : Int) == (wrap64 (t500 + 1))) = false := beq_eq_false_iff_ne.mpr c160
                have c160b1 : ((t489.length : Int) != (wrap64 (t500 + 1))) = true := bne_iff_ne.mpr c160
                exact absurd (Option.some.inj H) (by rw [HRT.out]; decide)
               rw [if_neg c159] at H
               have c159b0 : (t502 == (wrap64 ((l0_2.length : Int) - x22_3))) = false := beq_eq_false_iff_ne.mpr c159
               have c159b1 : (t502 != (wrap64 ((l0_2.length : Int) - x22_3))) = true := bne_iff_ne.mpr c159
               exact absurd (Option.some.inj H) (by rw [HRT.out]; decide)
              rw [if_neg c158] at H
              have c158b0 : (t501 == (l0_1.length : Int)) = false := beq_eq_false_iff_ne.mpr c158
              have c158b1 : (t501 != (l0_1.length : Int)) = true := bne_iff_ne.mpr c158
              exact absurd (Option.some.inj H) (by rw [HRT.out]; decide)
             rw [if_neg c157] at H
             have c157b0 : (t500 == (l0_0.length : Int)) = false := beq_eq_false_iff_ne.mpr c157
             have c157b1 : (t500 != (l0_0.length : Int)) = true := bne_iff_ne.mpr c157
             exact absurd (Option.some.inj H) (by rw [HRT.out]; decide)
            replace c156 := Bool.eq_false_iff.mpr c156
            subst c156
            have H1 : (some false) = some r := by rw [if_neg (show ¬ (false = true) by decide)] at H; exact H
            clear H
            have H := H1
            clear H1
            exact absurd (Option.some.inj H) (by rw [HRT.out]; decide)
           replace c154 := Bool.eq_false_iff.mpr c154
           subst c154
           have H1 : (some false) = some r := by rw [if_neg (show ¬ (false = true) by decide)] at H; exact H
           clear H
           have H := H1
           clear H1
           exact absurd (Option.some.inj H) (by rw [HRT.out]; decide)
          replace c153 := Bool.eq_false_iff.mpr c153
          subst c153
          have H1 : (some false) = some r := by rw [if_neg (show ¬ (false = true) by decide)] at H; exact H
          clear H
          have H := H1
          clear H1
          exact absurd (Option.some.inj H) (by rw [HRT.out]; decide)
     rw [if_neg c73] at H
     have c73b0 : (t498 == 0) = false := beq_eq_false_iff_ne.mpr c73
     have c73b1 : (t498 != 0) = true := bne_iff_ne.mpr c73
     obtain rfl := Option.some.inj H
     have hnb176 := NB455_456.out
     have hnc176 := NB456_455.out
     have hnb177 := NB455_457.out
     have hnc177 := NB457_455.out
     have hnb178 := NB455_458.out
     have hnc178 := NB458_455.out
     have hcz179_0 : wr.cell? ⟨gb455, 0, none⟩ = some (.slice A0_0 l0_0.length c0_0) := bt BK455 0
     have hcz179_1 : wr.cell? ⟨gb455, 1, none⟩ = some (.slice A0_1 l0_1.length c0_1) := bt BK455 1
     have hcz179_2 : wr.cell? ⟨gb455, 2, none⟩ = some (.slice A0_2 l0_2.length c0_2) := bt BK455 2
     have hfz179_0 := blk_frozen BK455.out 0
     have hfz179_1 := blk_frozen BK455.out 1
     have hfz179_2 := blk_frozen BK455.out 2
     have hnb180 := NB456_457.out
     have hnc180 := NB457_456.out
     have hnb181 := NB456_458.out
     have hnc181 := NB458_456.out
     have hcz182_0 : wr.cell? ⟨gb456, 0, none⟩ = some (.int .i64 a1_0) := bt BK456 0
     have hcz182_1 : wr.cell? ⟨gb456, 1, none⟩ = some (.int .i64 a1_1) := bt BK456 1
     have hfz182_0 := blk_frozen BK456.out 0
     have hfz182_1 := blk_frozen BK456.out 1
     have hnb183 := NB457_458.out
     have hnc183 := NB458_457.out
     have hcz184_0 : wr.cell? ⟨gb457, 0, none⟩ = some (.int .i64 a2_0) := bt BK457 0
     have hcz184_1 : wr.cell? ⟨gb457, 1, none⟩ = some (.int .i64 a2_1) := bt BK457 1
     have hcz184_2 : wr.cell? ⟨gb457, 2, none⟩ = some (.int .i64 a2_2) := bt BK457 2
     have hcz184_3 : wr.cell? ⟨gb457, 3, none⟩ = some (.int .i64 a2_3) := bt BK457 3
     have hfz184_0 := blk_frozen BK457.out 0
     have hfz184_1 := blk_frozen BK457.out 1
     have hfz184_2 := blk_frozen BK457.out 2
     have hfz184_3 := blk_frozen BK457.out 3
     go_wp2_with (first | ((with_reducible refine gate_callee (f := 12) rfl ?_); refine gC (some 88) Try.func12 #[.agg #[.slice A0_0 l0_0.length c0_0, .slice A0_1 l0_1.length c0_1, .slice A0_2 l0_2.length c0_2], .agg #[.int .i64 a1_0, .int .i64 a1_1], .agg #[.int .i64 a2_0, .int .i64 a2_1, .int .i64 a2_2, .int .i64 a2_3]] ?_; (with_reducible refine (cells_AddUse.calls _ _ l0_0 _ _ l0_1 _ _ l0_2 a1_0 a1_1 a2_0 a2_1 a2_2 a2_3 t489 t492 t495 t498 _ ?side1 ?side2 ?side3 ?side4 ?side5 ?side6 A72.out).mono ?_); (case side1 => exact sC (Kd.C_below HR0_0.out HB.out)); (case side2 => exact HC0_0.out); (case side3 => exact sC (Kd.C_below HR0_1.out HB.out)); (case side4 => exact HC0_1.out); (case side5 => exact sC (Kd.C_below HR0_2.out HB.out)); (case side6 => exact HC0_2.out); rintro e w185 ⟨v490, v493, v496, rfl, ho0, ho1, ho2, hb⟩; refine ⟨_, rfl, ?_⟩; replace HO_45 := Aside0.mk (Kd.N_mono (Kd.N_told (Kd.N_told (Kd.N_told (Kd.N_old (sN HO_45) hb) (Kd.R_base ho0)) (Kd.R_base ho1)) (Kd.R_base ho2)) (fun _ h_ => h_.1)); have HO491 := Aside0.mk (Kd.R_lower (Kd.R_newB ho0 (g := gb457) (o := .cells #[.int .i64 a2_0, .int .i64 a2_1, .int .i64 a2_2, .int .i64 a2_3] 32 (0, 0)) (sB BK457)) (below_size (sW HB))); have HO494 := Aside0.mk (Kd.R_lower ho1 (below_size (sW HB))); have HO497 := Aside0.mk (Kd.R_lower ho2 (below_size (sW HB))); replace BK455 := tB BK455 hb; replace BK456 := tB BK456 hb; replace BK457 := tB BK457 hb; replace BK458 := tB BK458 hb; replace HB := tW HB hb; (try clear hb); (try clear hb2); (try clear hk); (try clear hi); (try clear ho0); (try clear ho1); (try clear ho2)) | ((with_reducible refine gate_dst (N := 17) rfl ?_); (try (refine gate_guard (by rfl) ?_; dsimp only)); refine bE (N := 17) (cs := #[.slice none 0 0, .slice none 0 0, .slice none 0 0]) (t := 26) ?_; intro gb499 hg w186 hbox hb; replace HO_45 := Aside0.mk (Kd.N_below (Kd.N_elderB (sN HO_45) gb499 (Nat.le_of_eq hg.symm)) hb); replace HO491 := tR HO491 hb; replace HO494 := tR HO494 hb; replace HO497 := tR HO497 hb; have BK499 := Aside0.mk (hbox); have GW499 := gW hg HB; have GE499 := GW499; replace HB := tW HB hb; have NB455_499 := gL hg BK455; have NB499_455 := gG hg BK455; replace BK455 := tB BK455 hb; have NB456_499 := gL hg BK456; have NB499_456 := gG hg BK456; replace BK456 := tB BK456 hb; have NB457_499 := gL hg BK457; have NB499_457 := gG hg BK457; replace BK457 := tB BK457 hb; have NB458_499 := gL hg BK458; have NB499_458 := gG hg BK458; replace BK458 := tB BK458 hb; clear hb hbox hg; obtain ⟨Ao187, co187, eo187⟩ := Kd.R_slice HO491.out; subst eo187; have hnb188 := NB499_455.out; have hnc188 := NB455_499.out; have hnb189 := NB499_456.out; have hnc189 := NB456_499.out; have hnb190 := NB499_457.out; have hnc190 := NB457_499.out; have hnb191 := NB499_458.out; have hnc191 := NB458_499.out; have hcz192_0 : w186.cell? ⟨gb499, 0, none⟩ = some (.slice none 0 0) := bt BK499 0; have hcz192_1 : w186.cell? ⟨gb499, 1, none⟩ = some (.slice none 0 0) := bt BK499 1; have hcz192_2 : w186.cell? ⟨gb499, 2, none⟩ = some (.slice none 0 0) := bt BK499 2; have hfz192_0 := blk_frozen BK499.out 0; have hfz192_1 := blk_frozen BK499.out 1; have hfz192_2 := blk_frozen BK499.out 2; obtain ⟨Ao193, co193, eo193⟩ := Kd.R_slice HO494.out; subst eo193; obtain ⟨Ao194, co194, eo194⟩ := Kd.R_slice HO497.out; subst eo194))
     go_ret
     exact ⟨aE, sW HB⟩
end Go.Proofs.Ytbpfbdljcdcgnaa.Px
