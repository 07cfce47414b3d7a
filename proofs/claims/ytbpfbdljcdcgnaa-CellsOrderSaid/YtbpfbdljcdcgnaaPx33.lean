/- Walks of functions of this seat, written by a program of this workplace out of the translation. -/
import Derived.Test.YtbpfbdljcdcgnaaPx0
import Derived.Test.YtbpfbdljcdcgnaaPx16
import Derived.Test.YtbpfbdljcdcgnaaPx18
import Derived.Test.YtbpfbdljcdcgnaaPx19
import Derived.Test.YtbpfbdljcdcgnaaPx21
import Derived.Test.YtbpfbdljcdcgnaaPx22
namespace Go.Proofs.Ytbpfbdljcdcgnaa.Px
open Go.RowKit Go.Proofs.YtbpfbdljcdcgnaaW.PrintWords Go.Proofs.YtbpfbdljcdcgnaaW.PrintLast Go.Proofs.YtbpfbdljcdcgnaaW.PrintMore
attribute [local go_sem] max2_int min2_int max_two min_two max_three min_three max_four min_four   -- for this text's walks alone
set_option linter.unusedVariables false
set_option linter.unusedSimpArgs false

/-! ### slotmeshlaw12_CellsOrder: function 6 -/
mutual
def slotmeshlaw12_CellsOrder.j0 : Nat → Bool → Bool → List (S32) → List (S34) → List (S51) → Int → Int → Int → Int → Int → Int → Int → Int → Int → Int → Int → Option (Bool)
 | 0, _, _, _, _, _, _, _, _, _, _, _, _, _, _, _, _ => none
 | k + 1, x9, x47, x560000, x560001, x560002, x561000, x561001, x562000, x562001, x562002, x562003, x563000, x563001, x563002, x563003, x563004 => if x47 = true then (some x9) else ((cells_AddUse.f x560000 x560001 x560002 x561000 x561001 x562000 x562001 x562002 x562003).bind fun bt566 => ((cells_AddGrant.f x560000 x560001 x560002 x561000 x561001 x563000 x563001 x563002 x563003 x563004).bind fun bt577 => (if bt566.2.2.2 = 0 then (slotmeshlaw12_CellsOrder.j1 k x9 (bt577.2.2.2 != 0) x561000 x561001 x562000 x562001 x562002 x562003 x563000 x563001 x563002 x563003 x563004 bt566.1 bt566.2.1 bt566.2.2.1 bt577.1 bt577.2.1 bt577.2.2.1) else (slotmeshlaw12_CellsOrder.j1 k x9 true x561000 x561001 x562000 x562001 x562002 x562003 x563000 x563001 x563002 x563003 x563004 bt566.1 bt566.2.1 bt566.2.2.1 bt577.1 bt577.2.1 bt577.2.2.1))))
def slotmeshlaw12_CellsOrder.j1 : Nat → Bool → Bool → Int → Int → Int → Int → Int → Int → Int → Int → Int → Int → Int → List (S32) → List (S34) → List (S51) → List (S32) → List (S34) → List (S51) → Option (Bool)
 | 0, _, _, _, _, _, _, _, _, _, _, _, _, _, _, _, _, _, _, _ => none
 | k + 1, x9, x68, x561000, x561001, x562000, x562001, x562002, x562003, x563000, x563001, x563002, x563003, x563004, x577000, x577001, x577002, x588000, x588001, x588002 => if x68 = true then (some x9) else ((cells_AddGrant.f x577000 x577001 x577002 x561000 x561001 x563000 x563001 x563002 x563003 x563004).bind fun bt588 => ((cells_AddUse.f x588000 x588001 x588002 x561000 x561001 x562000 x562001 x562002 x562003).bind fun bt599 => (if x9 = true then (if bt588.2.2.2 = 0 then (if bt599.2.2.2 = 0 then ((slotmeshref12_Same.f k bt588.1 bt588.2.1 bt588.2.2.1 bt599.1 bt599.2.1 bt599.2.2.1).bind fun t610 => (some t610)) else (some false)) else (some false)) else (some false))))
end
def slotmeshlaw12_CellsOrder.f (k : Nat) (l0_0 : List (S32)) (l0_1 : List (S34)) (l0_2 : List (S51)) (a1_0 : Int) (a1_1 : Int) (a2_0 : Int) (a2_1 : Int) (a2_2 : Int) (a2_3 : Int) (a3_0 : Int) (a3_1 : Int) (a3_2 : Int) (a3_3 : Int) (a3_4 : Int) : Option (Bool) := (slotmeshlaw12_head.f).bind fun t563 => ((slotmeshref12_Few.f l0_0 l0_1 l0_2).bind fun t564 => (if t564 = true then ((slotmeshref12_Valid.f l0_0 l0_1 l0_2 a1_0 a1_1).bind fun t565 => (if t565 = true then (if a2_0 = a3_0 then (slotmeshlaw12_CellsOrder.j0 k t563 true l0_0 l0_1 l0_2 a1_0 a1_1 a2_0 a2_1 a2_2 a2_3 a3_0 a3_1 a3_2 a3_3 a3_4) else (slotmeshlaw12_CellsOrder.j0 k t563 (decide ((wrap64 ((wrap64 ((l0_0.length : Int) + (l0_1.length : Int))) + 2)) > 24)) l0_0 l0_1 l0_2 a1_0 a1_1 a2_0 a2_1 a2_2 a2_3 a3_0 a3_1 a3_2 a3_3 a3_4)) else (slotmeshlaw12_CellsOrder.j0 k t563 true l0_0 l0_1 l0_2 a1_0 a1_1 a2_0 a2_1 a2_2 a2_3 a3_0 a3_1 a3_2 a3_3 a3_4))) else (slotmeshlaw12_CellsOrder.j0 k t563 true l0_0 l0_1 l0_2 a1_0 a1_1 a2_0 a2_1 a2_2 a2_3 a3_0 a3_1 a3_2 a3_3 a3_4)))
set_option maxHeartbeats 8000000 in
set_option maxRecDepth 100000 in
theorem slotmeshlaw12_CellsOrder.calls (k : Nat) (A0_0 : Option Addr) (c0_0 : Nat) (l0_0 : List (S32)) (A0_1 : Option Addr) (c0_1 : Nat) (l0_1 : List (S34)) (A0_2 : Option Addr) (c0_2 : Nat) (l0_2 : List (S51)) (a1_0 : Int) (a1_1 : Int) (a2_0 : Int) (a2_1 : Int) (a2_2 : Int) (a2_3 : Int) (a3_0 : Int) (a3_1 : Int) (a3_2 : Int) (a3_3 : Int) (a3_4 : Int) (r : Bool) (w : World) (hrt : r = true) (hr0_0 : Kd.C k32 w A0_0 l0_0.length l0_0) (hc0_0 : l0_0.length ≤ c0_0) (hr0_1 : Kd.C k34 w A0_1 l0_1.length l0_1) (hc0_1 : l0_1.length ≤ c0_1) (hr0_2 : Kd.C k51 w A0_2 l0_2.length l0_2) (hc0_2 : l0_2.length ≤ c0_2) (h : slotmeshlaw12_CellsOrder.f k l0_0 l0_1 l0_2 a1_0 a1_1 a2_0 a2_1 a2_2 a2_3 a3_0 a3_1 a3_2 a3_3 a3_4 = some r) :
  Calls Try.prog 6 #[.agg #[.slice A0_0 l0_0.length c0_0, .slice A0_1 l0_1.length c0_1, .slice A0_2 l0_2.length c0_2], .agg #[.int .i64 a1_0, .int .i64 a1_1], .agg #[.int .i64 a2_0, .int .i64 a2_1, .int .i64 a2_2, .int .i64 a2_3], .agg #[.int .i64 a3_0, .int .i64 a3_1, .int .i64 a3_2, .int .i64 a3_3, .int .i64 a3_4]] w fun e w' => e = .returned (.bool r) ∧ Below w.heap.size w w' := by
 have hu26 := Try.underlying26
 have hu28 := Try.underlying28
 have hu32 := Try.underlying32
 have hu34 := Try.underlying34
 have HR0_0 := Aside0.mk hr0_0
 have HC0_0 := Aside0.mk hc0_0
 clear hr0_0 hc0_0
 have HR0_1 := Aside0.mk hr0_1
 have HC0_1 := Aside0.mk hc0_1
 clear hr0_1 hc0_1
 have HR0_2 := Aside0.mk hr0_2
 have HC0_2 := Aside0.mk hc0_2
 clear hr0_2 hc0_2
 have HB := Aside0.mk (Below.refl w.heap.size w)
 have HRT := Aside0.mk hrt
 clear hrt
 have H : ((slotmeshlaw12_head.f).bind fun t563 => ((slotmeshref12_Few.f l0_0 l0_1 l0_2).bind fun t564 => (if t564 = true then ((slotmeshref12_Valid.f l0_0 l0_1 l0_2 a1_0 a1_1).bind fun t565 => (if t565 = true then (if a2_0 = a3_0 then (slotmeshlaw12_CellsOrder.j0 k t563 true l0_0 l0_1 l0_2 a1_0 a1_1 a2_0 a2_1 a2_2 a2_3 a3_0 a3_1 a3_2 a3_3 a3_4) else (slotmeshlaw12_CellsOrder.j0 k t563 (decide ((wrap64 ((wrap64 ((l0_0.length : Int) + (l0_1.length : Int))) + 2)) > 24)) l0_0 l0_1 l0_2 a1_0 a1_1 a2_0 a2_1 a2_2 a2_3 a3_0 a3_1 a3_2 a3_3 a3_4)) else (slotmeshlaw12_CellsOrder.j0 k t563 true l0_0 l0_1 l0_2 a1_0 a1_1 a2_0 a2_1 a2_2 a2_3 a3_0 a3_1 a3_2 a3_3 a3_4))) else (slotmeshlaw12_CellsOrder.j0 k t563 true l0_0 l0_1 l0_2 a1_0 a1_1 a2_0 a2_1 a2_2 a2_3 a3_0 a3_1 a3_2 a3_3 a3_4)))) = some r := h
 clear h
 replace H := Option.bind_eq_some_iff.mp H
 obtain ⟨t563, A50, H⟩ := H
 replace H : ((slotmeshref12_Few.f l0_0 l0_1 l0_2).bind fun t564 => (if t564 = true then ((slotmeshref12_Valid.f l0_0 l0_1 l0_2 a1_0 a1_1).bind fun t565 => (if t565 = true then (if a2_0 = a3_0 then (slotmeshlaw12_CellsOrder.j0 k t563 true l0_0 l0_1 l0_2 a1_0 a1_1 a2_0 a2_1 a2_2 a2_3 a3_0 a3_1 a3_2 a3_3 a3_4) else (slotmeshlaw12_CellsOrder.j0 k t563 (decide ((wrap64 ((wrap64 ((l0_0.length : Int) + (l0_1.length : Int))) + 2)) > 24)) l0_0 l0_1 l0_2 a1_0 a1_1 a2_0 a2_1 a2_2 a2_3 a3_0 a3_1 a3_2 a3_3 a3_4)) else (slotmeshlaw12_CellsOrder.j0 k t563 true l0_0 l0_1 l0_2 a1_0 a1_1 a2_0 a2_1 a2_2 a2_3 a3_0 a3_1 a3_2 a3_3 a3_4))) else (slotmeshlaw12_CellsOrder.j0 k t563 true l0_0 l0_1 l0_2 a1_0 a1_1 a2_0 a2_1 a2_2 a2_3 a3_0 a3_1 a3_2 a3_3 a3_4))) = some r := H
 have A5 := Aside0.mk A50
 clear A50
 have HC6 := Aside0.mk H
 clear H
 go_enter Try.func6, Try.ntmps6
 go_upto_region 2 with (first | ((with_reducible refine gate_dst (N := 4) rfl ?_); (try (refine gate_guard (by rfl) ?_; dsimp only)); refine bE (N := 4) (cs := #[.slice A0_0 l0_0.length c0_0, .slice A0_1 l0_1.length c0_1, .slice A0_2 l0_2.length c0_2]) (t := 26) ?_; intro gb559 hg w7 hbox hb; have BK559 := Aside0.mk (hbox); have GW559 := gW hg HB; have GE559 := GW559; replace HB := tW HB hb; clear hb hbox hg) | ((with_reducible refine gate_dst (N := 5) rfl ?_); (try (refine gate_guard (by rfl) ?_; dsimp only)); refine bE (N := 5) (cs := #[.int .i64 a1_0, .int .i64 a1_1]) (t := 28) ?_; intro gb560 hg w8 hbox hb; have BK560 := Aside0.mk (hbox); have GW560 := gW hg HB; have GE560 := GW560; replace HB := tW HB hb; have NB559_560 := gL hg BK559; have NB560_559 := gG hg BK559; replace BK559 := tB BK559 hb; clear hb hbox hg) | ((with_reducible refine gate_dst (N := 6) rfl ?_); (try (refine gate_guard (by rfl) ?_; dsimp only)); refine bE (N := 6) (cs := #[.int .i64 a2_0, .int .i64 a2_1, .int .i64 a2_2, .int .i64 a2_3]) (t := 32) ?_; intro gb561 hg w9 hbox hb; have BK561 := Aside0.mk (hbox); have GW561 := gW hg HB; have GE561 := GW561; replace HB := tW HB hb; have NB559_561 := gL hg BK559; have NB561_559 := gG hg BK559; replace BK559 := tB BK559 hb; have NB560_561 := gL hg BK560; have NB561_560 := gG hg BK560; replace BK560 := tB BK560 hb; clear hb hbox hg) | ((with_reducible refine gate_dst (N := 7) rfl ?_); (try (refine gate_guard (by rfl) ?_; dsimp only)); refine bE (N := 7) (cs := #[.int .i64 a3_0, .int .i64 a3_1, .int .i64 a3_2, .int .i64 a3_3, .int .i64 a3_4]) (t := 34) ?_; intro gb562 hg w10 hbox hb; have BK562 := Aside0.mk (hbox); have GW562 := gW hg HB; have GE562 := GW562; replace HB := tW HB hb; have NB559_562 := gL hg BK559; have NB562_559 := gG hg BK559; replace BK559 := tB BK559 hb; have NB560_562 := gL hg BK560; have NB562_560 := gG hg BK560; replace BK560 := tB BK560 hb; have NB561_562 := gL hg BK561; have NB562_561 := gG hg BK561; replace BK561 := tB BK561 hb; clear hb hbox hg) | ((with_reducible refine gate_callee (f := 10) rfl ?_); refine gC (some 18) Try.func10 #[] ?_; (with_reducible refine (slotmeshlaw12_head.calls  t563 _ A5.out).mono ?_); rintro e w11 ⟨rfl, hb⟩; refine ⟨_, rfl, ?_⟩; replace BK559 := tB BK559 hb; replace BK560 := tB BK560 hb; replace BK561 := tB BK561 hb; replace BK562 := tB BK562 hb; replace HB := tW HB hb; (try clear hb); (try clear hb2); (try clear hk); (try clear hi)))
 (try simp only [Act.put, List.setIfInBounds_toArray, List.set_cons_zero, List.set_cons_succ])
 go_cut [47] (fun v47 wc => ∃ (kq : Nat) (x47_5 : Bool), v47 = .bool x47_5 ∧ Aside0 (slotmeshlaw12_CellsOrder.j0 kq t563 x47_5 l0_0 l0_1 l0_2 a1_0 a1_1 a2_0 a2_1 a2_2 a2_3 a3_0 a3_1 a3_2 a3_3 a3_4 = some r) ∧ Aside0 (kq ≤ k) ∧ Aside0 (wc.heap[gb559]? = some (.cells #[(.slice A0_0 l0_0.length c0_0), (.slice A0_1 l0_1.length c0_1), (.slice A0_2 l0_2.length c0_2)] 26 (0, 0))) ∧ Aside0 (wc.heap[gb560]? = some (.cells #[.int .i64 a1_0, .int .i64 a1_1] 28 (0, 0))) ∧ Aside0 (wc.heap[gb561]? = some (.cells #[.int .i64 a2_0, .int .i64 a2_1, .int .i64 a2_2, .int .i64 a2_3] 32 (0, 0))) ∧ Aside0 (wc.heap[gb562]? = some (.cells #[.int .i64 a3_0, .int .i64 a3_1, .int .i64 a3_2, .int .i64 a3_3, .int .i64 a3_4] 34 (0, 0))) ∧ Aside0 (Below w.heap.size w wc))
 case first =>
  have H := HC6.out
  clear HC6
  replace H := Option.bind_eq_some_iff.mp H
  obtain ⟨t564, A120, H⟩ := H
  replace H : (if t564 = true then ((slotmeshref12_Valid.f l0_0 l0_1 l0_2 a1_0 a1_1).bind fun t565 => (if t565 = true then (if a2_0 = a3_0 then (slotmeshlaw12_CellsOrder.j0 k t563 true l0_0 l0_1 l0_2 a1_0 a1_1 a2_0 a2_1 a2_2 a2_3 a3_0 a3_1 a3_2 a3_3 a3_4) else (slotmeshlaw12_CellsOrder.j0 k t563 (decide ((wrap64 ((wrap64 ((l0_0.length : Int) + (l0_1.length : Int))) + 2)) > 24)) l0_0 l0_1 l0_2 a1_0 a1_1 a2_0 a2_1 a2_2 a2_3 a3_0 a3_1 a3_2 a3_3 a3_4)) else (slotmeshlaw12_CellsOrder.j0 k t563 true l0_0 l0_1 l0_2 a1_0 a1_1 a2_0 a2_1 a2_2 a2_3 a3_0 a3_1 a3_2 a3_3 a3_4))) else (slotmeshlaw12_CellsOrder.j0 k t563 true l0_0 l0_1 l0_2 a1_0 a1_1 a2_0 a2_1 a2_2 a2_3 a3_0 a3_1 a3_2 a3_3 a3_4)) = some r := H
  have A12 := Aside0.mk A120
  clear A120
  by_cases c13 : t564 = true
  ·subst c13
   have H1 : ((slotmeshref12_Valid.f l0_0 l0_1 l0_2 a1_0 a1_1).bind fun t565 => (if t565 = true then (if a2_0 = a3_0 then (slotmeshlaw12_CellsOrder.j0 k t563 true l0_0 l0_1 l0_2 a1_0 a1_1 a2_0 a2_1 a2_2 a2_3 a3_0 a3_1 a3_2 a3_3 a3_4) else (slotmeshlaw12_CellsOrder.j0 k t563 (decide ((wrap64 ((wrap64 ((l0_0.length : Int) + (l0_1.length : Int))) + 2)) > 24)) l0_0 l0_1 l0_2 a1_0 a1_1 a2_0 a2_1 a2_2 a2_3 a3_0 a3_1 a3_2 a3_3 a3_4)) else (slotmeshlaw12_CellsOrder.j0 k t563 true l0_0 l0_1 l0_2 a1_0 a1_1 a2_0 a2_1 a2_2 a2_3 a3_0 a3_1 a3_2 a3_3 a3_4))) = some r := by rw [if_pos rfl] at H; exact H
   clear H
   have H := H1
   clear H1
   replace H := Option.bind_eq_some_iff.mp H
   obtain ⟨t565, A140, H⟩ := H
   replace H : (if t565 = true then (if a2_0 = a3_0 then (slotmeshlaw12_CellsOrder.j0 k t563 true l0_0 l0_1 l0_2 a1_0 a1_1 a2_0 a2_1 a2_2 a2_3 a3_0 a3_1 a3_2 a3_3 a3_4) else (slotmeshlaw12_CellsOrder.j0 k t563 (decide ((wrap64 ((wrap64 ((l0_0.length : Int) + (l0_1.length : Int))) + 2)) > 24)) l0_0 l0_1 l0_2 a1_0 a1_1 a2_0 a2_1 a2_2 a2_3 a3_0 a3_1 a3_2 a3_3 a3_4)) else (slotmeshlaw12_CellsOrder.j0 k t563 true l0_0 l0_1 l0_2 a1_0 a1_1 a2_0 a2_1 a2_2 a2_3 a3_0 a3_1 a3_2 a3_3 a3_4)) = some r := H
   have A14 := Aside0.mk A140
   clear A140
   by_cases c15 : t565 = true
   ·subst c15
    have H1 : (if a2_0 = a3_0 then (slotmeshlaw12_CellsOrder.j0 k t563 true l0_0 l0_1 l0_2 a1_0 a1_1 a2_0 a2_1 a2_2 a2_3 a3_0 a3_1 a3_2 a3_3 a3_4) else (slotmeshlaw12_CellsOrder.j0 k t563 (decide ((wrap64 ((wrap64 ((l0_0.length : Int) + (l0_1.length : Int))) + 2)) > 24)) l0_0 l0_1 l0_2 a1_0 a1_1 a2_0 a2_1 a2_2 a2_3 a3_0 a3_1 a3_2 a3_3 a3_4)) = some r := by rw [if_pos rfl] at H; exact H
    clear H
    have H := H1
    clear H1
    by_cases c16 : a2_0 = a3_0
    ·rw [if_pos c16] at H
     have c16b0 : (a2_0 == a3_0) = true := beq_iff_eq.mpr c16
     have c16b1 : (a2_0 != a3_0) = false := bne_eq_false_iff_eq.mpr c16
     clear c16
     (first | rw [c16b0] | (simp only [i64_w, i32_w]; rw [c16b0]) | skip)
     have H' := Aside0.mk H
     clear H
     have hnb17 := NB559_560.out
     have hnc17 := NB560_559.out
     have hnb18 := NB559_561.out
     have hnc18 := NB561_559.out
     have hnb19 := NB559_562.out
     have hnc19 := NB562_559.out
     have hcz20_0 : w11.cell? ⟨gb559, 0, none⟩ = some (.slice A0_0 l0_0.length c0_0) := bt BK559 0
     have hcz20_1 : w11.cell? ⟨gb559, 1, none⟩ = some (.slice A0_1 l0_1.length c0_1) := bt BK559 1
     have hcz20_2 : w11.cell? ⟨gb559, 2, none⟩ = some (.slice A0_2 l0_2.length c0_2) := bt BK559 2
     have hfz20_0 := blk_frozen BK559.out 0
     have hfz20_1 := blk_frozen BK559.out 1
     have hfz20_2 := blk_frozen BK559.out 2
     go_wp2_with (first | ((with_reducible refine gate_callee (f := 11) rfl ?_); refine gC (some 20) Try.func11 #[.agg #[.slice A0_0 l0_0.length c0_0, .slice A0_1 l0_1.length c0_1, .slice A0_2 l0_2.length c0_2]] ?_; (with_reducible refine (slotmeshref12_Few.calls _ _ l0_0 _ _ l0_1 _ _ l0_2 true _ ?side1 ?side2 ?side3 ?side4 ?side5 ?side6 A12.out).mono ?_); (case side1 => exact sC (Kd.C_below HR0_0.out HB.out)); (case side2 => exact HC0_0.out); (case side3 => exact sC (Kd.C_below HR0_1.out HB.out)); (case side4 => exact HC0_1.out); (case side5 => exact sC (Kd.C_below HR0_2.out HB.out)); (case side6 => exact HC0_2.out); rintro e w21 ⟨rfl, hb⟩; refine ⟨_, rfl, ?_⟩; replace BK559 := tB BK559 hb; replace BK560 := tB BK560 hb; replace BK561 := tB BK561 hb; replace BK562 := tB BK562 hb; replace HB := tW HB hb; (try clear hb); (try clear hb2); (try clear hk); (try clear hi); have hcz22_0 : w21.cell? ⟨gb559, 0, none⟩ = some (.slice A0_0 l0_0.length c0_0) := bt BK559 0; have hcz22_1 : w21.cell? ⟨gb559, 1, none⟩ = some (.slice A0_1 l0_1.length c0_1) := bt BK559 1; have hcz22_2 : w21.cell? ⟨gb559, 2, none⟩ = some (.slice A0_2 l0_2.length c0_2) := bt BK559 2; have hfz22_0 := blk_frozen BK559.out 0; have hfz22_1 := blk_frozen BK559.out 1; have hfz22_2 := blk_frozen BK559.out 2; have hnb23 := NB560_561.out; have hnc23 := NB561_560.out; have hnb24 := NB560_562.out; have hnc24 := NB562_560.out; have hcz25_0 : w21.cell? ⟨gb560, 0, none⟩ = some (.int .i64 a1_0) := bt BK560 0; have hcz25_1 : w21.cell? ⟨gb560, 1, none⟩ = some (.int .i64 a1_1) := bt BK560 1; have hfz25_0 := blk_frozen BK560.out 0; have hfz25_1 := blk_frozen BK560.out 1) | (go_at_call 18; (with_reducible refine (slotmeshref12_Valid.calls _ _ l0_0 _ _ l0_1 _ _ l0_2 a1_0 a1_1 true _ ?side1 ?side2 ?side3 ?side4 ?side5 ?side6 A14.out).mono ?_); (case side1 => exact sC (Kd.C_below HR0_0.out HB.out)); (case side2 => exact HC0_0.out); (case side3 => exact sC (Kd.C_below HR0_1.out HB.out)); (case side4 => exact HC0_1.out); (case side5 => exact sC (Kd.C_below HR0_2.out HB.out)); (case side6 => exact HC0_2.out); rintro e w26 ⟨rfl, hb⟩; replace BK559 := tB BK559 hb; replace BK560 := tB BK560 hb; replace BK561 := tB BK561 hb; replace BK562 := tB BK562 hb; replace HB := tW HB hb; (try clear hb); (try clear hb2); (try clear hk); (try clear hi); have hnb27 := NB561_562.out; have hnc27 := NB562_561.out; have hcz28_0 : w26.cell? ⟨gb561, 0, none⟩ = some (.int .i64 a2_0) := bt BK561 0; have hcz28_1 : w26.cell? ⟨gb561, 1, none⟩ = some (.int .i64 a2_1) := bt BK561 1; have hcz28_2 : w26.cell? ⟨gb561, 2, none⟩ = some (.int .i64 a2_2) := bt BK561 2; have hcz28_3 : w26.cell? ⟨gb561, 3, none⟩ = some (.int .i64 a2_3) := bt BK561 3; have hfz28_0 := blk_frozen BK561.out 0; have hfz28_1 := blk_frozen BK561.out 1; have hfz28_2 := blk_frozen BK561.out 2; have hfz28_3 := blk_frozen BK561.out 3; have hcz29_0 : w26.cell? ⟨gb562, 0, none⟩ = some (.int .i64 a3_0) := bt BK562 0; have hcz29_1 : w26.cell? ⟨gb562, 1, none⟩ = some (.int .i64 a3_1) := bt BK562 1; have hcz29_2 : w26.cell? ⟨gb562, 2, none⟩ = some (.int .i64 a3_2) := bt BK562 2; have hcz29_3 : w26.cell? ⟨gb562, 3, none⟩ = some (.int .i64 a3_3) := bt BK562 3; have hcz29_4 : w26.cell? ⟨gb562, 4, none⟩ = some (.int .i64 a3_4) := bt BK562 4; have hfz29_0 := blk_frozen BK562.out 0; have hfz29_1 := blk_frozen BK562.out 1; have hfz29_2 := blk_frozen BK562.out 2; have hfz29_3 := blk_frozen BK562.out 3; have hfz29_4 := blk_frozen BK562.out 4))
     go_meet
     case rel => exact ⟨_, (true), aR, H', ⟨by first | omega | exact Nat.le_refl _⟩, ⟨sB BK559⟩, ⟨sB BK560⟩, ⟨sB BK561⟩, ⟨sB BK562⟩, ⟨sW HB⟩⟩
    rw [if_neg c16] at H
    have c16b0 : (a2_0 == a3_0) = false := beq_eq_false_iff_ne.mpr c16
    have c16b1 : (a2_0 != a3_0) = true := bne_iff_ne.mpr c16
    (first | rw [c16b0] | (simp only [i64_w, i32_w]; rw [c16b0]) | skip)
    have H' := Aside0.mk H
    clear H
    have hnb30 := NB559_560.out
    have hnc30 := NB560_559.out
    have hnb31 := NB559_561.out
    have hnc31 := NB561_559.out
    have hnb32 := NB559_562.out
    have hnc32 := NB562_559.out
    have hcz33_0 : w11.cell? ⟨gb559, 0, none⟩ = some (.slice A0_0 l0_0.length c0_0) := bt BK559 0
    have hcz33_1 : w11.cell? ⟨gb559, 1, none⟩ = some (.slice A0_1 l0_1.length c0_1) := bt BK559 1
    have hcz33_2 : w11.cell? ⟨gb559, 2, none⟩ = some (.slice A0_2 l0_2.length c0_2) := bt BK559 2
    have hfz33_0 := blk_frozen BK559.out 0
    have hfz33_1 := blk_frozen BK559.out 1
    have hfz33_2 := blk_frozen BK559.out 2
    go_wp2_with (first | ((with_reducible refine gate_callee (f := 11) rfl ?_); refine gC (some 20) Try.func11 #[.agg #[.slice A0_0 l0_0.length c0_0, .slice A0_1 l0_1.length c0_1, .slice A0_2 l0_2.length c0_2]] ?_; (with_reducible refine (slotmeshref12_Few.calls _ _ l0_0 _ _ l0_1 _ _ l0_2 true _ ?side1 ?side2 ?side3 ?side4 ?side5 ?side6 A12.out).mono ?_); (case side1 => exact sC (Kd.C_below HR0_0.out HB.out)); (case side2 => exact HC0_0.out); (case side3 => exact sC (Kd.C_below HR0_1.out HB.out)); (case side4 => exact HC0_1.out); (case side5 => exact sC (Kd.C_below HR0_2.out HB.out)); (case side6 => exact HC0_2.out); rintro e w34 ⟨rfl, hb⟩; refine ⟨_, rfl, ?_⟩; replace BK559 := tB BK559 hb; replace BK560 := tB BK560 hb; replace BK561 := tB BK561 hb; replace BK562 := tB BK562 hb; replace HB := tW HB hb; (try clear hb); (try clear hb2); (try clear hk); (try clear hi); have hcz35_0 : w34.cell? ⟨gb559, 0, none⟩ = some (.slice A0_0 l0_0.length c0_0) := bt BK559 0; have hcz35_1 : w34.cell? ⟨gb559, 1, none⟩ = some (.slice A0_1 l0_1.length c0_1) := bt BK559 1; have hcz35_2 : w34.cell? ⟨gb559, 2, none⟩ = some (.slice A0_2 l0_2.length c0_2) := bt BK559 2; have hfz35_0 := blk_frozen BK559.out 0; have hfz35_1 := blk_frozen BK559.out 1; have hfz35_2 := blk_frozen BK559.out 2; have hnb36 := NB560_561.out; have hnc36 := NB561_560.out; have hnb37 := NB560_562.out; have hnc37 := NB562_560.out; have hcz38_0 : w34.cell? ⟨gb560, 0, none⟩ = some (.int .i64 a1_0) := bt BK560 0; have hcz38_1 : w34.cell? ⟨gb560, 1, none⟩ = some (.int .i64 a1_1) := bt BK560 1; have hfz38_0 := blk_frozen BK560.out 0; have hfz38_1 := blk_frozen BK560.out 1) | (go_at_call 18; (with_reducible refine (slotmeshref12_Valid.calls _ _ l0_0 _ _ l0_1 _ _ l0_2 a1_0 a1_1 true _ ?side1 ?side2 ?side3 ?side4 ?side5 ?side6 A14.out).mono ?_); (case side1 => exact sC (Kd.C_below HR0_0.out HB.out)); (case side2 => exact HC0_0.out); (case side3 => exact sC (Kd.C_below HR0_1.out HB.out)); (case side4 => exact HC0_1.out); (case side5 => exact sC (Kd.C_below HR0_2.out HB.out)); (case side6 => exact HC0_2.out); rintro e w39 ⟨rfl, hb⟩; replace BK559 := tB BK559 hb; replace BK560 := tB BK560 hb; replace BK561 := tB BK561 hb; replace BK562 := tB BK562 hb; replace HB := tW HB hb; (try clear hb); (try clear hb2); (try clear hk); (try clear hi); have hnb40 := NB561_562.out; have hnc40 := NB562_561.out; have hcz41_0 : w39.cell? ⟨gb561, 0, none⟩ = some (.int .i64 a2_0) := bt BK561 0; have hcz41_1 : w39.cell? ⟨gb561, 1, none⟩ = some (.int .i64 a2_1) := bt BK561 1; have hcz41_2 : w39.cell? ⟨gb561, 2, none⟩ = some (.int .i64 a2_2) := bt BK561 2; have hcz41_3 : w39.cell? ⟨gb561, 3, none⟩ = some (.int .i64 a2_3) := bt BK561 3; have hfz41_0 := blk_frozen BK561.out 0; have hfz41_1 := blk_frozen BK561.out 1; have hfz41_2 := blk_frozen BK561.out 2; have hfz41_3 := blk_frozen BK561.out 3; have hcz42_0 : w39.cell? ⟨gb562, 0, none⟩ = some (.int .i64 a3_0) := bt BK562 0; have hcz42_1 : w39.cell? ⟨gb562, 1, none⟩ = some (.int .i64 a3_1) := bt BK562 1; have hcz42_2 : w39.cell? ⟨gb562, 2, none⟩ = some (.int .i64 a3_2) := bt BK562 2; have hcz42_3 : w39.cell? ⟨gb562, 3, none⟩ = some (.int .i64 a3_3) := bt BK562 3; have hcz42_4 : w39.cell? ⟨gb562, 4, none⟩ = some (.int .i64 a3_4) := bt BK562 4; have hfz42_0 := blk_frozen BK562.out 0; have hfz42_1 := blk_frozen BK562.out 1; have hfz42_2 := blk_frozen BK562.out 2; have hfz42_3 := blk_frozen BK562.out 3; have hfz42_4 := blk_frozen BK562.out 4; have hcz43_0 : w39.cell? ⟨gb559, 0, none⟩ = some (.slice A0_0 l0_0.length c0_0) := bt BK559 0; have hcz43_1 : w39.cell? ⟨gb559, 1, none⟩ = some (.slice A0_1 l0_1.length c0_1) := bt BK559 1; have hcz43_2 : w39.cell? ⟨gb559, 2, none⟩ = some (.slice A0_2 l0_2.length c0_2) := bt BK559 2; have hfz43_0 := blk_frozen BK559.out 0; have hfz43_1 := blk_frozen BK559.out 1; have hfz43_2 := blk_frozen BK559.out 2))
    go_meet
    case rel => exact ⟨_, (decide ((wrap64 ((wrap64 ((l0_0.length : Int) + (l0_1.length : Int))) + 2)) > 24)), aR, H', ⟨by first | omega | exact Nat.le_refl _⟩, ⟨sB BK559⟩, ⟨sB BK560⟩, ⟨sB BK561⟩, ⟨sB BK562⟩, ⟨sW HB⟩⟩
   replace c15 := Bool.eq_false_iff.mpr c15
   subst c15
   have H1 : (slotmeshlaw12_CellsOrder.j0 k t563 true l0_0 l0_1 l0_2 a1_0 a1_1 a2_0 a2_1 a2_2 a2_3 a3_0 a3_1 a3_2 a3_3 a3_4) = some r := by rw [if_neg (show ¬ (false = true) by decide)] at H; exact H
   clear H
   have H := H1
   clear H1
   have H' := Aside0.mk H
   clear H
   have hnb44 := NB559_560.out
   have hnc44 := NB560_559.out
   have hnb45 := NB559_561.out
   have hnc45 := NB561_559.out
   have hnb46 := NB559_562.out
   have hnc46 := NB562_559.out
   have hcz47_0 : w11.cell? ⟨gb559, 0, none⟩ = some (.slice A0_0 l0_0.length c0_0) := bt BK559 0
   have hcz47_1 : w11.cell? ⟨gb559, 1, none⟩ = some (.slice A0_1 l0_1.length c0_1) := bt BK559 1
   have hcz47_2 : w11.cell? ⟨gb559, 2, none⟩ = some (.slice A0_2 l0_2.length c0_2) := bt BK559 2
   have hfz47_0 := blk_frozen BK559.out 0
   have hfz47_1 := blk_frozen BK559.out 1
   have hfz47_2 := blk_frozen BK559.out 2
   go_wp2_with (first | ((with_reducible refine gate_callee (f := 11) rfl ?_); refine gC (some 20) Try.func11 #[.agg #[.slice A0_0 l0_0.length c0_0, .slice A0_1 l0_1.length c0_1, .slice A0_2 l0_2.length c0_2]] ?_; (with_reducible refine (slotmeshref12_Few.calls _ _ l0_0 _ _ l0_1 _ _ l0_2 true _ ?side1 ?side2 ?side3 ?side4 ?side5 ?side6 A12.out).mono ?_); (case side1 => exact sC (Kd.C_below HR0_0.out HB.out)); (case side2 => exact HC0_0.out); (case side3 => exact sC (Kd.C_below HR0_1.out HB.out)); (case side4 => exact HC0_1.out); (case side5 => exact sC (Kd.C_below HR0_2.out HB.out)); (case side6 => exact HC0_2.out); rintro e w48 ⟨rfl, hb⟩; refine ⟨_, rfl, ?_⟩; replace BK559 := tB BK559 hb; replace BK560 := tB BK560 hb; replace BK561 := tB BK561 hb; replace BK562 := tB BK562 hb; replace HB := tW HB hb; (try clear hb); (try clear hb2); (try clear hk); (try clear hi); have hcz49_0 : w48.cell? ⟨gb559, 0, none⟩ = some (.slice A0_0 l0_0.length c0_0) := bt BK559 0; have hcz49_1 : w48.cell? ⟨gb559, 1, none⟩ = some (.slice A0_1 l0_1.length c0_1) := bt BK559 1; have hcz49_2 : w48.cell? ⟨gb559, 2, none⟩ = some (.slice A0_2 l0_2.length c0_2) := bt BK559 2; have hfz49_0 := blk_frozen BK559.out 0; have hfz49_1 := blk_frozen BK559.out 1; have hfz49_2 := blk_frozen BK559.out 2; have hnb50 := NB560_561.out; have hnc50 := NB561_560.out; have hnb51 := NB560_562.out; have hnc51 := NB562_560.out; have hcz52_0 : w48.cell? ⟨gb560, 0, none⟩ = some (.int .i64 a1_0) := bt BK560 0; have hcz52_1 : w48.cell? ⟨gb560, 1, none⟩ = some (.int .i64 a1_1) := bt BK560 1; have hfz52_0 := blk_frozen BK560.out 0; have hfz52_1 := blk_frozen BK560.out 1) | (go_at_call 18; (with_reducible refine (slotmeshref12_Valid.calls _ _ l0_0 _ _ l0_1 _ _ l0_2 a1_0 a1_1 false _ ?side1 ?side2 ?side3 ?side4 ?side5 ?side6 A14.out).mono ?_); (case side1 => exact sC (Kd.C_below HR0_0.out HB.out)); (case side2 => exact HC0_0.out); (case side3 => exact sC (Kd.C_below HR0_1.out HB.out)); (case side4 => exact HC0_1.out); (case side5 => exact sC (Kd.C_below HR0_2.out HB.out)); (case side6 => exact HC0_2.out); rintro e w53 ⟨rfl, hb⟩; replace BK559 := tB BK559 hb; replace BK560 := tB BK560 hb; replace BK561 := tB BK561 hb; replace BK562 := tB BK562 hb; replace HB := tW HB hb; (try clear hb); (try clear hb2); (try clear hk); (try clear hi)))
   go_meet
   case rel => exact ⟨_, (true), aR, H', ⟨by first | omega | exact Nat.le_refl _⟩, ⟨sB BK559⟩, ⟨sB BK560⟩, ⟨sB BK561⟩, ⟨sB BK562⟩, ⟨sW HB⟩⟩
  replace c13 := Bool.eq_false_iff.mpr c13
  subst c13
  have H1 : (slotmeshlaw12_CellsOrder.j0 k t563 true l0_0 l0_1 l0_2 a1_0 a1_1 a2_0 a2_1 a2_2 a2_3 a3_0 a3_1 a3_2 a3_3 a3_4) = some r := by rw [if_neg (show ¬ (false = true) by decide)] at H; exact H
  clear H
  have H := H1
  clear H1
  have H' := Aside0.mk H
  clear H
  have hnb54 := NB559_560.out
  have hnc54 := NB560_559.out
  have hnb55 := NB559_561.out
  have hnc55 := NB561_559.out
  have hnb56 := NB559_562.out
  have hnc56 := NB562_559.out
  have hcz57_0 : w11.cell? ⟨gb559, 0, none⟩ = some (.slice A0_0 l0_0.length c0_0) := bt BK559 0
  have hcz57_1 : w11.cell? ⟨gb559, 1, none⟩ = some (.slice A0_1 l0_1.length c0_1) := bt BK559 1
  have hcz57_2 : w11.cell? ⟨gb559, 2, none⟩ = some (.slice A0_2 l0_2.length c0_2) := bt BK559 2
  have hfz57_0 := blk_frozen BK559.out 0
  have hfz57_1 := blk_frozen BK559.out 1
  have hfz57_2 := blk_frozen BK559.out 2
  go_wp2_with (first | ((with_reducible refine gate_callee (f := 11) rfl ?_); refine gC (some 20) Try.func11 #[.agg #[.slice A0_0 l0_0.length c0_0, .slice A0_1 l0_1.length c0_1, .slice A0_2 l0_2.length c0_2]] ?_; (with_reducible refine (slotmeshref12_Few.calls _ _ l0_0 _ _ l0_1 _ _ l0_2 false _ ?side1 ?side2 ?side3 ?side4 ?side5 ?side6 A12.out).mono ?_); (case side1 => exact sC (Kd.C_below HR0_0.out HB.out)); (case side2 => exact HC0_0.out); (case side3 => exact sC (Kd.C_below HR0_1.out HB.out)); (case side4 => exact HC0_1.out); (case side5 => exact sC (Kd.C_below HR0_2.out HB.out)); (case side6 => exact HC0_2.out); rintro e w58 ⟨rfl, hb⟩; refine ⟨_, rfl, ?_⟩; replace BK559 := tB BK559 hb; replace BK560 := tB BK560 hb; replace BK561 := tB BK561 hb; replace BK562 := tB BK562 hb; replace HB := tW HB hb; (try clear hb); (try clear hb2); (try clear hk); (try clear hi)))
  go_meet
  case rel => exact ⟨_, (true), aR, H', ⟨by first | omega | exact Nat.le_refl _⟩, ⟨sB BK559⟩, ⟨sB BK560⟩, ⟨sB BK561⟩, ⟨sB BK562⟩, ⟨sW HB⟩⟩
 case rest =>
  clear HC6
  try clear c1
  try clear c2
  try clear p2
  try clear c3
  try clear c4
  try clear c5
  try clear c6
  try clear p6
  try clear c10
  try clear c11
  try clear c13
  try clear c15
  try clear c16
  try clear c16b0
  try clear c16b1
  try clear c17
  try clear c18
  try clear c19
  try clear c23
  try clear c24
  try clear c27
  try clear c30
  try clear c31
  try clear c32
  try clear c36
  try clear c37
  try clear c40
  try clear c44
  try clear c45
  try clear c46
  try clear c50
  try clear c51
  try clear c54
  try clear c55
  try clear c56
  try clear hcz20_0 hcz20_1 hcz20_2 hfz20_0 hfz20_1 hfz20_2
  try clear hcz22_0 hcz22_1 hcz22_2 hfz22_0 hfz22_1 hfz22_2
  try clear hcz25_0 hcz25_1 hfz25_0 hfz25_1
  try clear hcz28_0 hcz28_1 hcz28_2 hcz28_3 hfz28_0 hfz28_1 hfz28_2 hfz28_3
  try clear hcz29_0 hcz29_1 hcz29_2 hcz29_3 hcz29_4 hfz29_0 hfz29_1 hfz29_2 hfz29_3 hfz29_4
  try clear hcz33_0 hcz33_1 hcz33_2 hfz33_0 hfz33_1 hfz33_2
  try clear hcz35_0 hcz35_1 hcz35_2 hfz35_0 hfz35_1 hfz35_2
  try clear hcz38_0 hcz38_1 hfz38_0 hfz38_1
  try clear hcz41_0 hcz41_1 hcz41_2 hcz41_3 hfz41_0 hfz41_1 hfz41_2 hfz41_3
  try clear hcz42_0 hcz42_1 hcz42_2 hcz42_3 hcz42_4 hfz42_0 hfz42_1 hfz42_2 hfz42_3 hfz42_4
  try clear hcz43_0 hcz43_1 hcz43_2 hfz43_0 hfz43_1 hfz43_2
  try clear hcz47_0 hcz47_1 hcz47_2 hfz47_0 hfz47_1 hfz47_2
  try clear hcz49_0 hcz49_1 hcz49_2 hfz49_0 hfz49_1 hfz49_2
  try clear hcz52_0 hcz52_1 hfz52_0 hfz52_1
  try clear hcz57_0 hcz57_1 hcz57_2 hfz57_0 hfz57_1 hfz57_2
  obtain ⟨kq, x47_5, rfl, HA, HJ5, BK559, BK560, BK561, BK562, HB⟩ := hcut
  cases kq with
  | zero => exact absurd HA.out (by simp [slotmeshlaw12_CellsOrder.j0])
  | succ kj5 =>
   have H := HA.out
   clear HA
   simp only [slotmeshlaw12_CellsOrder.j0] at H
   by_cases c59 : x47_5 = true
   ·subst c59
    have H1 : (some t563) = some r := by rw [if_pos rfl] at H; exact H
    clear H
    have H := H1
    clear H1
    obtain rfl := Option.some.inj H
    go_wp2
    go_ret
    exact ⟨aE, sW HB⟩
   replace c59 := Bool.eq_false_iff.mpr c59
   subst c59
   have H1 : ((cells_AddUse.f l0_0 l0_1 l0_2 a1_0 a1_1 a2_0 a2_1 a2_2 a2_3).bind fun bt566 => ((cells_AddGrant.f l0_0 l0_1 l0_2 a1_0 a1_1 a3_0 a3_1 a3_2 a3_3 a3_4).bind fun bt577 => (if bt566.2.2.2 = 0 then (slotmeshlaw12_CellsOrder.j1 kj5 t563 (bt577.2.2.2 != 0) a1_0 a1_1 a2_0 a2_1 a2_2 a2_3 a3_0 a3_1 a3_2 a3_3 a3_4 bt566.1 bt566.2.1 bt566.2.2.1 bt577.1 bt577.2.1 bt577.2.2.1) else (slotmeshlaw12_CellsOrder.j1 kj5 t563 true a1_0 a1_1 a2_0 a2_1 a2_2 a2_3 a3_0 a3_1 a3_2 a3_3 a3_4 bt566.1 bt566.2.1 bt566.2.2.1 bt577.1 bt577.2.1 bt577.2.2.1)))) = some r := by rw [if_neg (show ¬ (false = true) by decide)] at H; exact H
   clear H
   have H := H1
   clear H1
   replace H := Option.bind_eq_some_iff.mp H
   obtain ⟨⟨t566, t569, t572, t575⟩, A600, H⟩ := H
   replace H : ((cells_AddGrant.f l0_0 l0_1 l0_2 a1_0 a1_1 a3_0 a3_1 a3_2 a3_3 a3_4).bind fun bt577 => (if t575 = 0 then (slotmeshlaw12_CellsOrder.j1 kj5 t563 (bt577.2.2.2 != 0) a1_0 a1_1 a2_0 a2_1 a2_2 a2_3 a3_0 a3_1 a3_2 a3_3 a3_4 t566 t569 t572 bt577.1 bt577.2.1 bt577.2.2.1) else (slotmeshlaw12_CellsOrder.j1 kj5 t563 true a1_0 a1_1 a2_0 a2_1 a2_2 a2_3 a3_0 a3_1 a3_2 a3_3 a3_4 t566 t569 t572 bt577.1 bt577.2.1 bt577.2.2.1))) = some r := H
   have A60 := Aside0.mk A600
   clear A600
   replace H := Option.bind_eq_some_iff.mp H
   obtain ⟨⟨t577, t580, t583, t586⟩, A610, H⟩ := H
   replace H : (if t575 = 0 then (slotmeshlaw12_CellsOrder.j1 kj5 t563 (t586 != 0) a1_0 a1_1 a2_0 a2_1 a2_2 a2_3 a3_0 a3_1 a3_2 a3_3 a3_4 t566 t569 t572 t577 t580 t583) else (slotmeshlaw12_CellsOrder.j1 kj5 t563 true a1_0 a1_1 a2_0 a2_1 a2_2 a2_3 a3_0 a3_1 a3_2 a3_3 a3_4 t566 t569 t572 t577 t580 t583)) = some r := H
   have A61 := Aside0.mk A610
   clear A610
   have HC62 := Aside0.mk H
   clear H
   have hnb63 := NB559_560.out
   have hnc63 := NB560_559.out
   have hnb64 := NB559_561.out
   have hnc64 := NB561_559.out
   have hnb65 := NB559_562.out
   have hnc65 := NB562_559.out
   have hcz66_0 : wc.cell? ⟨gb559, 0, none⟩ = some (.slice A0_0 l0_0.length c0_0) := bt BK559 0
   have hcz66_1 : wc.cell? ⟨gb559, 1, none⟩ = some (.slice A0_1 l0_1.length c0_1) := bt BK559 1
   have hcz66_2 : wc.cell? ⟨gb559, 2, none⟩ = some (.slice A0_2 l0_2.length c0_2) := bt BK559 2
   have hfz66_0 := blk_frozen BK559.out 0
   have hfz66_1 := blk_frozen BK559.out 1
   have hfz66_2 := blk_frozen BK559.out 2
   have hnb67 := NB560_561.out
   have hnc67 := NB561_560.out
   have hnb68 := NB560_562.out
   have hnc68 := NB562_560.out
   have hcz69_0 : wc.cell? ⟨gb560, 0, none⟩ = some (.int .i64 a1_0) := bt BK560 0
   have hcz69_1 : wc.cell? ⟨gb560, 1, none⟩ = some (.int .i64 a1_1) := bt BK560 1
   have hfz69_0 := blk_frozen BK560.out 0
   have hfz69_1 := blk_frozen BK560.out 1
   have hnb70 := NB561_562.out
   have hnc70 := NB562_561.out
   have hcz71_0 : wc.cell? ⟨gb561, 0, none⟩ = some (.int .i64 a2_0) := bt BK561 0
   have hcz71_1 : wc.cell? ⟨gb561, 1, none⟩ = some (.int .i64 a2_1) := bt BK561 1
   have hcz71_2 : wc.cell? ⟨gb561, 2, none⟩ = some (.int .i64 a2_2) := bt BK561 2
   have hcz71_3 : wc.cell? ⟨gb561, 3, none⟩ = some (.int .i64 a2_3) := bt BK561 3
   have hfz71_0 := blk_frozen BK561.out 0
   have hfz71_1 := blk_frozen BK561.out 1
   have hfz71_2 := blk_frozen BK561.out 2
   have hfz71_3 := blk_frozen BK561.out 3
   go_upto_region 6 with (first | ((with_reducible refine gate_callee (f := 12) rfl ?_); refine gC (some 53) Try.func12 #[.agg #[.slice A0_0 l0_0.length c0_0, .slice A0_1 l0_1.length c0_1, .slice A0_2 l0_2.length c0_2], .agg #[.int .i64 a1_0, .int .i64 a1_1], .agg #[.int .i64 a2_0, .int .i64 a2_1, .int .i64 a2_2, .int .i64 a2_3]] ?_; (with_reducible refine (cells_AddUse.calls _ _ l0_0 _ _ l0_1 _ _ l0_2 a1_0 a1_1 a2_0 a2_1 a2_2 a2_3 t566 t569 t572 t575 _ ?side1 ?side2 ?side3 ?side4 ?side5 ?side6 A60.out).mono ?_); (case side1 => exact sC (Kd.C_below HR0_0.out HB.out)); (case side2 => exact HC0_0.out); (case side3 => exact sC (Kd.C_below HR0_1.out HB.out)); (case side4 => exact HC0_1.out); (case side5 => exact sC (Kd.C_below HR0_2.out HB.out)); (case side6 => exact HC0_2.out); rintro e w72 ⟨v567, v570, v573, rfl, ho0, ho1, ho2, hb⟩; refine ⟨_, rfl, ?_⟩; have HO568 := Aside0.mk (Kd.R_lower (Kd.R_newB ho0 (g := gb561) (o := .cells #[.int .i64 a2_0, .int .i64 a2_1, .int .i64 a2_2, .int .i64 a2_3] 32 (0, 0)) (sB BK561)) (below_size (sW HB))); have HO571 := Aside0.mk (Kd.R_lower (Kd.R_newB ho1 (g := gb562) (o := .cells #[.int .i64 a3_0, .int .i64 a3_1, .int .i64 a3_2, .int .i64 a3_3, .int .i64 a3_4] 34 (0, 0)) (sB BK562)) (below_size (sW HB))); have HO574 := Aside0.mk (Kd.R_lower ho2 (below_size (sW HB))); replace BK559 := tB BK559 hb; replace BK560 := tB BK560 hb; replace BK561 := tB BK561 hb; replace BK562 := tB BK562 hb; replace HB := tW HB hb; (try clear hb); (try clear hb2); (try clear hk); (try clear hi); (try clear ho0); (try clear ho1); (try clear ho2)) | ((with_reducible refine gate_dst (N := 10) rfl ?_); (try (refine gate_guard (by rfl) ?_; dsimp only)); refine bE (N := 10) (cs := #[.slice none 0 0, .slice none 0 0, .slice none 0 0]) (t := 26) ?_; intro gb576 hg w73 hbox hb; replace HO568 := tR HO568 hb; replace HO571 := tR HO571 hb; replace HO574 := tR HO574 hb; have BK576 := Aside0.mk (hbox); have GW576 := gW hg HB; have GE576 := GW576; replace HB := tW HB hb; have NB559_576 := gL hg BK559; have NB576_559 := gG hg BK559; replace BK559 := tB BK559 hb; have NB560_576 := gL hg BK560; have NB576_560 := gG hg BK560; replace BK560 := tB BK560 hb; have NB561_576 := gL hg BK561; have NB576_561 := gG hg BK561; replace BK561 := tB BK561 hb; have NB562_576 := gL hg BK562; have NB576_562 := gG hg BK562; replace BK562 := tB BK562 hb; clear hb hbox hg; obtain ⟨Ao74, co74, eo74⟩ := Kd.R_slice HO568.out; subst eo74; have hnb75 := NB576_559.out; have hnc75 := NB559_576.out; have hnb76 := NB576_560.out; have hnc76 := NB560_576.out; have hnb77 := NB576_561.out; have hnc77 := NB561_576.out; have hnb78 := NB576_562.out; have hnc78 := NB562_576.out; have hcz79_0 : w73.cell? ⟨gb576, 0, none⟩ = some (.slice none 0 0) := bt BK576 0; have hcz79_1 : w73.cell? ⟨gb576, 1, none⟩ = some (.slice none 0 0) := bt BK576 1; have hcz79_2 : w73.cell? ⟨gb576, 2, none⟩ = some (.slice none 0 0) := bt BK576 2; have hfz79_0 := blk_frozen BK576.out 0; have hfz79_1 := blk_frozen BK576.out 1; have hfz79_2 := blk_frozen BK576.out 2; obtain ⟨Ao80, co80, eo80⟩ := Kd.R_slice HO571.out; subst eo80; obtain ⟨Ao81, co81, eo81⟩ := Kd.R_slice HO574.out; subst eo81; have hcz82_0 : w73.cell? ⟨gb559, 0, none⟩ = some (.slice A0_0 l0_0.length c0_0) := bt BK559 0; have hcz82_1 : w73.cell? ⟨gb559, 1, none⟩ = some (.slice A0_1 l0_1.length c0_1) := bt BK559 1; have hcz82_2 : w73.cell? ⟨gb559, 2, none⟩ = some (.slice A0_2 l0_2.length c0_2) := bt BK559 2; have hfz82_0 := blk_frozen BK559.out 0; have hfz82_1 := blk_frozen BK559.out 1; have hfz82_2 := blk_frozen BK559.out 2; have hcz83_0 : w73.cell? ⟨gb560, 0, none⟩ = some (.int .i64 a1_0) := bt BK560 0; have hcz83_1 : w73.cell? ⟨gb560, 1, none⟩ = some (.int .i64 a1_1) := bt BK560 1; have hfz83_0 := blk_frozen BK560.out 0; have hfz83_1 := blk_frozen BK560.out 1; have hcz84_0 : w73.cell? ⟨gb562, 0, none⟩ = some (.int .i64 a3_0) := bt BK562 0; have hcz84_1 : w73.cell? ⟨gb562, 1, none⟩ = some (.int .i64 a3_1) := bt BK562 1; have hcz84_2 : w73.cell? ⟨gb562, 2, none⟩ = some (.int .i64 a3_2) := bt BK562 2; have hcz84_3 : w73.cell? ⟨gb562, 3, none⟩ = some (.int .i64 a3_3) := bt BK562 3; have hcz84_4 : w73.cell? ⟨gb562, 4, none⟩ = some (.int .i64 a3_4) := bt BK562 4; have hfz84_0 := blk_frozen BK562.out 0; have hfz84_1 := blk_frozen BK562.out 1; have hfz84_2 := blk_frozen BK562.out 2; have hfz84_3 := blk_frozen BK562.out 3; have hfz84_4 := blk_frozen BK562.out 4) | ((with_reducible refine gate_callee (f := 14) rfl ?_); refine gC (some 60) Try.func14 #[.agg #[.slice A0_0 l0_0.length c0_0, .slice A0_1 l0_1.length c0_1, .slice A0_2 l0_2.length c0_2], .agg #[.int .i64 a1_0, .int .i64 a1_1], .agg #[.int .i64 a3_0, .int .i64 a3_1, .int .i64 a3_2, .int .i64 a3_3, .int .i64 a3_4]] ?_; (with_reducible refine (cells_AddGrant.calls _ _ l0_0 _ _ l0_1 _ _ l0_2 a1_0 a1_1 a3_0 a3_1 a3_2 a3_3 a3_4 t577 t580 t583 t586 _ ?side1 ?side2 ?side3 ?side4 ?side5 ?side6 A61.out).mono ?_); (case side1 => exact Kd.C_below HR0_0.out (sW HB)); (case side2 => exact HC0_0.out); (case side3 => exact Kd.C_below HR0_1.out (sW HB)); (case side4 => exact HC0_1.out); (case side5 => exact Kd.C_below HR0_2.out (sW HB)); (case side6 => exact HC0_2.out); rintro e w85 ⟨v578, v581, v584, rfl, ho0, ho1, ho2, hb⟩; refine ⟨_, rfl, ?_⟩; have HO579 := Aside0.mk (Kd.R_lower (Kd.R_newB (Kd.R_new' ho0 (Kd.R_lt (mR (by exact (Kd.R_mono (Kd.R_far (p := ⟨gb576, 2, none⟩) (Kd.R_far (p := ⟨gb576, 1, none⟩) (Kd.R_far (p := ⟨gb576, 0, none⟩) (Kd.R_types HO568.out BK576.out (by decide)) (fun _ hk => hk.2) (.slice Ao74 t566.length co74)) (fun _ hk => hk.2) (.slice Ao80 t569.length co80)) (fun _ hk => hk.2) (.slice Ao81 t572.length co81)) (fun _ h_ => h_.1)))))) (g := gb561) (o := .cells #[.int .i64 a2_0, .int .i64 a2_1, .int .i64 a2_2, .int .i64 a2_3] 32 (0, 0)) (sB BK561)) (below_size (sW HB))); replace HO568 := Aside0.mk (Kd.R_elder' (mR (by exact (Kd.R_mono (Kd.R_far (p := ⟨gb576, 2, none⟩) (Kd.R_far (p := ⟨gb576, 1, none⟩) (Kd.R_far (p := ⟨gb576, 0, none⟩) (Kd.R_types HO568.out BK576.out (by decide)) (fun _ hk => hk.2) (.slice Ao74 t566.length co74)) (fun _ hk => hk.2) (.slice Ao80 t569.length co80)) (fun _ hk => hk.2) (.slice Ao81 t572.length co81)) (fun _ h_ => h_.1)))) (Kd.R_base ho0) hb); have HO582 := Aside0.mk (Kd.R_lower (Kd.R_newB (Kd.R_new' ho1 (Kd.R_lt (mR (by exact (Kd.R_mono (Kd.R_far (p := ⟨gb576, 2, none⟩) (Kd.R_far (p := ⟨gb576, 1, none⟩) (Kd.R_far (p := ⟨gb576, 0, none⟩) (Kd.R_types HO571.out BK576.out (by decide)) (fun _ hk => hk.2) (.slice Ao74 t566.length co74)) (fun _ hk => hk.2) (.slice Ao80 t569.length co80)) (fun _ hk => hk.2) (.slice Ao81 t572.length co81)) (fun _ h_ => h_.1)))))) (g := gb562) (o := .cells #[.int .i64 a3_0, .int .i64 a3_1, .int .i64 a3_2, .int .i64 a3_3, .int .i64 a3_4] 34 (0, 0)) (sB BK562)) (below_size (sW HB))); replace HO571 := Aside0.mk (Kd.R_elder' (mR (by exact (Kd.R_mono (Kd.R_far (p := ⟨gb576, 2, none⟩) (Kd.R_far (p := ⟨gb576, 1, none⟩) (Kd.R_far (p := ⟨gb576, 0, none⟩) (Kd.R_types HO571.out BK576.out (by decide)) (fun _ hk => hk.2) (.slice Ao74 t566.length co74)) (fun _ hk => hk.2) (.slice Ao80 t569.length co80)) (fun _ hk => hk.2) (.slice Ao81 t572.length co81)) (fun _ h_ => h_.1)))) (Kd.R_base ho1) hb); have HO585 := Aside0.mk (Kd.R_lower (Kd.R_new' ho2 (Kd.R_lt (mR (by exact (Kd.R_mono (Kd.R_far (p := ⟨gb576, 2, none⟩) (Kd.R_far (p := ⟨gb576, 1, none⟩) (Kd.R_far (p := ⟨gb576, 0, none⟩) (Kd.R_types HO574.out BK576.out (by decide)) (fun _ hk => hk.2) (.slice Ao74 t566.length co74)) (fun _ hk => hk.2) (.slice Ao80 t569.length co80)) (fun _ hk => hk.2) (.slice Ao81 t572.length co81)) (fun _ h_ => h_.1)))))) (below_size (sW HB))); replace HO574 := Aside0.mk (Kd.R_elder' (mR (by exact (Kd.R_mono (Kd.R_far (p := ⟨gb576, 2, none⟩) (Kd.R_far (p := ⟨gb576, 1, none⟩) (Kd.R_far (p := ⟨gb576, 0, none⟩) (Kd.R_types HO574.out BK576.out (by decide)) (fun _ hk => hk.2) (.slice Ao74 t566.length co74)) (fun _ hk => hk.2) (.slice Ao80 t569.length co80)) (fun _ hk => hk.2) (.slice Ao81 t572.length co81)) (fun _ h_ => h_.1)))) (Kd.R_base ho2) hb); replace BK559 := tB BK559 hb; replace BK560 := tB BK560 hb; replace BK561 := tB BK561 hb; replace BK562 := tB BK562 hb; replace BK576 := Aside0.mk (blk_below (g := gb576) (o := .cells #[.slice Ao74 t566.length co74, .slice Ao80 t569.length co80, .slice Ao81 t572.length co81] 26 (0, 0)) (by (with_reducible repeat (first | refine blk_drewN ?_ _ | refine blk_drew ?_ | refine blk_alloc ?_ _)); refine blk_put (cs := #[.slice Ao74 t566.length co74, .slice Ao80 t569.length co80, .slice none 0 0]) ?_ 2 _ rfl; (with_reducible repeat (first | refine blk_drewN ?_ _ | refine blk_drew ?_ | refine blk_alloc ?_ _)); refine blk_put (cs := #[.slice Ao74 t566.length co74, .slice none 0 0, .slice none 0 0]) ?_ 1 _ rfl; (with_reducible repeat (first | refine blk_drewN ?_ _ | refine blk_drew ?_ | refine blk_alloc ?_ _)); refine blk_put (cs := #[.slice none 0 0, .slice none 0 0, .slice none 0 0]) ?_ 0 _ rfl; (with_reducible repeat (first | refine blk_drewN ?_ _ | refine blk_drew ?_ | refine blk_alloc ?_ _)); exact BK576.out) hb); replace HB := tW HB hb; (try clear hb); (try clear hb2); (try clear hk); (try clear hi); (try clear ho0); (try clear ho1); (try clear ho2)) | ((with_reducible refine gate_dst (N := 12) rfl ?_); (try (refine gate_guard (by rfl) ?_; dsimp only)); refine bE (N := 12) (cs := #[.slice none 0 0, .slice none 0 0, .slice none 0 0]) (t := 26) ?_; intro gb587 hg w86 hbox hb; replace HO568 := tR HO568 hb; replace HO571 := tR HO571 hb; replace HO574 := tR HO574 hb; replace HO579 := tR HO579 hb; replace HO582 := tR HO582 hb; replace HO585 := tR HO585 hb; have BK587 := Aside0.mk (hbox); have GW587 := gW hg HB; have GE587 := GW587; replace HB := tW HB hb; have NB559_587 := gL hg BK559; have NB587_559 := gG hg BK559; replace BK559 := tB BK559 hb; have NB560_587 := gL hg BK560; have NB587_560 := gG hg BK560; replace BK560 := tB BK560 hb; have NB561_587 := gL hg BK561; have NB587_561 := gG hg BK561; replace BK561 := tB BK561 hb; have NB562_587 := gL hg BK562; have NB587_562 := gG hg BK562; replace BK562 := tB BK562 hb; have NB576_587 := gL hg BK576; have NB587_576 := gG hg BK576; replace BK576 := tB BK576 hb; clear hb hbox hg; obtain ⟨Ao87, co87, eo87⟩ := Kd.R_slice HO579.out; subst eo87; have hnb88 := NB587_559.out; have hnc88 := NB559_587.out; have hnb89 := NB587_560.out; have hnc89 := NB560_587.out; have hnb90 := NB587_561.out; have hnc90 := NB561_587.out; have hnb91 := NB587_562.out; have hnc91 := NB562_587.out; have hnb92 := NB587_576.out; have hnc92 := NB576_587.out; have hcz93_0 : w86.cell? ⟨gb587, 0, none⟩ = some (.slice none 0 0) := bt BK587 0; have hcz93_1 : w86.cell? ⟨gb587, 1, none⟩ = some (.slice none 0 0) := bt BK587 1; have hcz93_2 : w86.cell? ⟨gb587, 2, none⟩ = some (.slice none 0 0) := bt BK587 2; have hfz93_0 := blk_frozen BK587.out 0; have hfz93_1 := blk_frozen BK587.out 1; have hfz93_2 := blk_frozen BK587.out 2; obtain ⟨Ao94, co94, eo94⟩ := Kd.R_slice HO582.out; subst eo94; obtain ⟨Ao95, co95, eo95⟩ := Kd.R_slice HO585.out; subst eo95))
   (try simp only [Act.put, List.setIfInBounds_toArray, List.set_cons_zero, List.set_cons_succ])
   go_cut [68] (fun v68 wc => ∃ (kq : Nat) (x68_61 : Bool), v68 = .bool x68_61 ∧ Aside0 (slotmeshlaw12_CellsOrder.j1 kq t563 x68_61 a1_0 a1_1 a2_0 a2_1 a2_2 a2_3 a3_0 a3_1 a3_2 a3_3 a3_4 t566 t569 t572 t577 t580 t583 = some r) ∧ Aside0 (kq ≤ kj5) ∧ Aside0 (Kd.R k32 32 wc w.heap.size (fun k_ => some k_ ≠ ((.slice Ao87 t577.length co87) : Value).ownBlock ∧ k_ ≠ gb561) (.slice Ao74 t566.length co74) t566) ∧ Aside0 (Kd.R k34 34 wc w.heap.size (fun k_ => some k_ ≠ ((.slice Ao94 t580.length co94) : Value).ownBlock ∧ k_ ≠ gb562) (.slice Ao80 t569.length co80) t569) ∧ Aside0 (Kd.R k51 51 wc w.heap.size (fun k_ => some k_ ≠ ((.slice Ao95 t583.length co95) : Value).ownBlock) (.slice Ao81 t572.length co81) t572) ∧ Aside0 (Kd.R k32 32 wc w.heap.size (fun k_ => some k_ ≠ ((.slice Ao74 t566.length co74) : Value).ownBlock ∧ k_ ≠ gb561) (.slice Ao87 t577.length co87) t577) ∧ Aside0 (Kd.R k34 34 wc w.heap.size (fun k_ => some k_ ≠ ((.slice Ao80 t569.length co80) : Value).ownBlock ∧ k_ ≠ gb562) (.slice Ao94 t580.length co94) t580) ∧ Aside0 (Kd.R k51 51 wc w.heap.size (fun k_ => some k_ ≠ ((.slice Ao81 t572.length co81) : Value).ownBlock) (.slice Ao95 t583.length co95) t583) ∧ Aside0 (wc.heap[gb559]? = some (.cells #[(.slice A0_0 l0_0.length c0_0), (.slice A0_1 l0_1.length c0_1), (.slice A0_2 l0_2.length c0_2)] 26 (0, 0))) ∧ Aside0 (wc.heap[gb560]? = some (.cells #[.int .i64 a1_0, .int .i64 a1_1] 28 (0, 0))) ∧ Aside0 (wc.heap[gb561]? = some (.cells #[.int .i64 a2_0, .int .i64 a2_1, .int .i64 a2_2, .int .i64 a2_3] 32 (0, 0))) ∧ Aside0 (wc.heap[gb562]? = some (.cells #[.int .i64 a3_0, .int .i64 a3_1, .int .i64 a3_2, .int .i64 a3_3, .int .i64 a3_4] 34 (0, 0))) ∧ Aside0 (wc.heap[gb576]? = some (.cells #[(.slice Ao74 t566.length co74), (.slice Ao80 t569.length co80), (.slice Ao81 t572.length co81)] 26 (0, 0))) ∧ Aside0 (wc.heap[gb587]? = some (.cells #[(.slice Ao87 t577.length co87), (.slice Ao94 t580.length co94), (.slice Ao95 t583.length co95)] 26 (0, 0))) ∧ Aside0 (Below w.heap.size w wc))
   case first =>
    have H := HC62.out
    clear HC62
    by_cases c96 : t575 = 0
    ·rw [if_pos c96] at H
     have c96b0 : (t575 == 0) = true := beq_iff_eq.mpr c96
     have c96b1 : (t575 != 0) = false := bne_eq_false_iff_eq.mpr c96
     clear c96
     (first | rw [c96b0] | (simp only [i64_w, i32_w]; rw [c96b0]) | skip)
     have H' := Aside0.mk H
     clear H
     go_wp2
     go_meet
     case rel => exact ⟨_, ((t586 != 0)), aR, H', ⟨by have := HJ5.out; first | omega | exact Nat.le_refl _⟩, ⟨mR (by exact Kd.R_mono (Kd.R_far (p := ⟨gb587, 2, none⟩) (Kd.R_far (p := ⟨gb587, 1, none⟩) (Kd.R_far (p := ⟨gb587, 0, none⟩) (Kd.R_types HO568.out BK587.out (by decide)) (fun _ hk => hk.2) (.slice Ao87 t577.length co87)) (fun _ hk => hk.2) (.slice Ao94 t580.length co94)) (fun _ hk => hk.2) (.slice Ao95 t583.length co95)) (fun _ hk => ⟨hk.1.2, hk.1.1.2⟩))⟩, ⟨mR (by exact Kd.R_mono (Kd.R_far (p := ⟨gb587, 2, none⟩) (Kd.R_far (p := ⟨gb587, 1, none⟩) (Kd.R_far (p := ⟨gb587, 0, none⟩) (Kd.R_types HO571.out BK587.out (by decide)) (fun _ hk => hk.2) (.slice Ao87 t577.length co87)) (fun _ hk => hk.2) (.slice Ao94 t580.length co94)) (fun _ hk => hk.2) (.slice Ao95 t583.length co95)) (fun _ hk => ⟨hk.1.2, hk.1.1.2⟩))⟩, ⟨mR (by exact Kd.R_mono (Kd.R_far (p := ⟨gb587, 2, none⟩) (Kd.R_far (p := ⟨gb587, 1, none⟩) (Kd.R_far (p := ⟨gb587, 0, none⟩) (Kd.R_types HO574.out BK587.out (by decide)) (fun _ hk => hk.2) (.slice Ao87 t577.length co87)) (fun _ hk => hk.2) (.slice Ao94 t580.length co94)) (fun _ hk => hk.2) (.slice Ao95 t583.length co95)) (fun _ hk => hk.1.2))⟩, ⟨mR (by exact Kd.R_mono (Kd.R_far (p := ⟨gb587, 2, none⟩) (Kd.R_far (p := ⟨gb587, 1, none⟩) (Kd.R_far (p := ⟨gb587, 0, none⟩) (Kd.R_types HO579.out BK587.out (by decide)) (fun _ hk => hk.2) (.slice Ao87 t577.length co87)) (fun _ hk => hk.2) (.slice Ao94 t580.length co94)) (fun _ hk => hk.2) (.slice Ao95 t583.length co95)) (fun _ hk => ⟨hk.1.1.2, hk.1.2⟩))⟩, ⟨mR (by exact Kd.R_mono (Kd.R_far (p := ⟨gb587, 2, none⟩) (Kd.R_far (p := ⟨gb587, 1, none⟩) (Kd.R_far (p := ⟨gb587, 0, none⟩) (Kd.R_types HO582.out BK587.out (by decide)) (fun _ hk => hk.2) (.slice Ao87 t577.length co87)) (fun _ hk => hk.2) (.slice Ao94 t580.length co94)) (fun _ hk => hk.2) (.slice Ao95 t583.length co95)) (fun _ hk => ⟨hk.1.1.2, hk.1.2⟩))⟩, ⟨mR (by exact Kd.R_mono (Kd.R_far (p := ⟨gb587, 2, none⟩) (Kd.R_far (p := ⟨gb587, 1, none⟩) (Kd.R_far (p := ⟨gb587, 0, none⟩) (Kd.R_types HO585.out BK587.out (by decide)) (fun _ hk => hk.2) (.slice Ao87 t577.length co87)) (fun _ hk => hk.2) (.slice Ao94 t580.length co94)) (fun _ hk => hk.2) (.slice Ao95 t583.length co95)) (fun _ hk => hk.1.2))⟩, ⟨sB BK559⟩, ⟨sB BK560⟩, ⟨sB BK561⟩, ⟨sB BK562⟩, ⟨sB BK576⟩, ⟨by (with_reducible repeat (first | refine blk_drewN ?_ _ | refine blk_drew ?_ | refine blk_alloc ?_ _)); refine blk_put (cs := #[.slice Ao87 t577.length co87, .slice Ao94 t580.length co94, .slice none 0 0]) ?_ 2 _ rfl; (with_reducible repeat (first | refine blk_drewN ?_ _ | refine blk_drew ?_ | refine blk_alloc ?_ _)); refine blk_put (cs := #[.slice Ao87 t577.length co87, .slice none 0 0, .slice none 0 0]) ?_ 1 _ rfl; (with_reducible repeat (first | refine blk_drewN ?_ _ | refine blk_drew ?_ | refine blk_alloc ?_ _)); refine blk_put (cs := #[.slice none 0 0, .slice none 0 0, .slice none 0 0]) ?_ 0 _ rfl; (with_reducible repeat (first | refine blk_drewN ?_ _ | refine blk_drew ?_ | refine blk_alloc ?_ _)); exact BK587.out⟩, ⟨sW HB⟩⟩
    rw [if_neg c96] at H
    have c96b0 : (t575 == 0) = false := beq_eq_false_iff_ne.mpr c96
    have c96b1 : (t575 != 0) = true := bne_iff_ne.mpr c96
    (first | rw [c96b0] | (simp only [i64_w, i32_w]; rw [c96b0]) | skip)
    have H' := Aside0.mk H
    clear H
    go_wp2
    go_meet
    case rel => exact ⟨_, (true), aR, H', ⟨by have := HJ5.out; first | omega | exact Nat.le_refl _⟩, ⟨mR (by exact Kd.R_mono (Kd.R_far (p := ⟨gb587, 2, none⟩) (Kd.R_far (p := ⟨gb587, 1, none⟩) (Kd.R_far (p := ⟨gb587, 0, none⟩) (Kd.R_types HO568.out BK587.out (by decide)) (fun _ hk => hk.2) (.slice Ao87 t577.length co87)) (fun _ hk => hk.2) (.slice Ao94 t580.length co94)) (fun _ hk => hk.2) (.slice Ao95 t583.length co95)) (fun _ hk => ⟨hk.1.2, hk.1.1.2⟩))⟩, ⟨mR (by exact Kd.R_mono (Kd.R_far (p := ⟨gb587, 2, none⟩) (Kd.R_far (p := ⟨gb587, 1, none⟩) (Kd.R_far (p := ⟨gb587, 0, none⟩) (Kd.R_types HO571.out BK587.out (by decide)) (fun _ hk => hk.2) (.slice Ao87 t577.length co87)) (fun _ hk => hk.2) (.slice Ao94 t580.length co94)) (fun _ hk => hk.2) (.slice Ao95 t583.length co95)) (fun _ hk => ⟨hk.1.2, hk.1.1.2⟩))⟩, ⟨mR (by exact Kd.R_mono (Kd.R_far (p := ⟨gb587, 2, none⟩) (Kd.R_far (p := ⟨gb587, 1, none⟩) (Kd.R_far (p := ⟨gb587, 0, none⟩) (Kd.R_types HO574.out BK587.out (by decide)) (fun _ hk => hk.2) (.slice Ao87 t577.length co87)) (fun _ hk => hk.2) (.slice Ao94 t580.length co94)) (fun _ hk => hk.2) (.slice Ao95 t583.length co95)) (fun _ hk => hk.1.2))⟩, ⟨mR (by exact Kd.R_mono (Kd.R_far (p := ⟨gb587, 2, none⟩) (Kd.R_far (p := ⟨gb587, 1, none⟩) (Kd.R_far (p := ⟨gb587, 0, none⟩) (Kd.R_types HO579.out BK587.out (by decide)) (fun _ hk => hk.2) (.slice Ao87 t577.length co87)) (fun _ hk => hk.2) (.slice Ao94 t580.length co94)) (fun _ hk => hk.2) (.slice Ao95 t583.length co95)) (fun _ hk => ⟨hk.1.1.2, hk.1.2⟩))⟩, ⟨mR (by exact Kd.R_mono (Kd.R_far (p := ⟨gb587, 2, none⟩) (Kd.R_far (p := ⟨gb587, 1, none⟩) (Kd.R_far (p := ⟨gb587, 0, none⟩) (Kd.R_types HO582.out BK587.out (by decide)) (fun _ hk => hk.2) (.slice Ao87 t577.length co87)) (fun _ hk => hk.2) (.slice Ao94 t580.length co94)) (fun _ hk => hk.2) (.slice Ao95 t583.length co95)) (fun _ hk => ⟨hk.1.1.2, hk.1.2⟩))⟩, ⟨mR (by exact Kd.R_mono (Kd.R_far (p := ⟨gb587, 2, none⟩) (Kd.R_far (p := ⟨gb587, 1, none⟩) (Kd.R_far (p := ⟨gb587, 0, none⟩) (Kd.R_types HO585.out BK587.out (by decide)) (fun _ hk => hk.2) (.slice Ao87 t577.length co87)) (fun _ hk => hk.2) (.slice Ao94 t580.length co94)) (fun _ hk => hk.2) (.slice Ao95 t583.length co95)) (fun _ hk => hk.1.2))⟩, ⟨sB BK559⟩, ⟨sB BK560⟩, ⟨sB BK561⟩, ⟨sB BK562⟩, ⟨sB BK576⟩, ⟨by (with_reducible repeat (first | refine blk_drewN ?_ _ | refine blk_drew ?_ | refine blk_alloc ?_ _)); refine blk_put (cs := #[.slice Ao87 t577.length co87, .slice Ao94 t580.length co94, .slice none 0 0]) ?_ 2 _ rfl; (with_reducible repeat (first | refine blk_drewN ?_ _ | refine blk_drew ?_ | refine blk_alloc ?_ _)); refine blk_put (cs := #[.slice Ao87 t577.length co87, .slice none 0 0, .slice none 0 0]) ?_ 1 _ rfl; (with_reducible repeat (first | refine blk_drewN ?_ _ | refine blk_drew ?_ | refine blk_alloc ?_ _)); refine blk_put (cs := #[.slice none 0 0, .slice none 0 0, .slice none 0 0]) ?_ 0 _ rfl; (with_reducible repeat (first | refine blk_drewN ?_ _ | refine blk_drew ?_ | refine blk_alloc ?_ _)); exact BK587.out⟩, ⟨sW HB⟩⟩
   case rest =>
    clear HC62
    try clear c1
    try clear c2
    try clear p2
    try clear c3
    try clear c4
    try clear c5
    try clear c6
    try clear p6
    try clear c7
    try clear c8
    try clear c9
    try clear c10
    try clear c11
    try clear c12
    try clear c13
    try clear c14
    try clear c15
    try clear c16
    try clear c16b0
    try clear c16b1
    try clear c17
    try clear c18
    try clear c19
    try clear c23
    try clear c24
    try clear c27
    try clear c30
    try clear c31
    try clear c32
    try clear c36
    try clear c37
    try clear c40
    try clear c44
    try clear c45
    try clear c46
    try clear c50
    try clear c51
    try clear c54
    try clear c55
    try clear c56
    try clear c59
    try clear c63
    try clear c64
    try clear p64
    try clear c65
    try clear c67
    try clear c68
    try clear c70
    try clear c75
    try clear c76
    try clear c77
    try clear c78
    try clear c88
    try clear c89
    try clear c90
    try clear c91
    try clear c92
    try clear c96
    try clear c96b0
    try clear c96b1
    try clear hcz20_0 hcz20_1 hcz20_2 hfz20_0 hfz20_1 hfz20_2
    try clear hcz22_0 hcz22_1 hcz22_2 hfz22_0 hfz22_1 hfz22_2
    try clear hcz25_0 hcz25_1 hfz25_0 hfz25_1
    try clear hcz28_0 hcz28_1 hcz28_2 hcz28_3 hfz28_0 hfz28_1 hfz28_2 hfz28_3
    try clear hcz29_0 hcz29_1 hcz29_2 hcz29_3 hcz29_4 hfz29_0 hfz29_1 hfz29_2 hfz29_3 hfz29_4
    try clear hcz33_0 hcz33_1 hcz33_2 hfz33_0 hfz33_1 hfz33_2
    try clear hcz35_0 hcz35_1 hcz35_2 hfz35_0 hfz35_1 hfz35_2
    try clear hcz38_0 hcz38_1 hfz38_0 hfz38_1
    try clear hcz41_0 hcz41_1 hcz41_2 hcz41_3 hfz41_0 hfz41_1 hfz41_2 hfz41_3
    try clear hcz42_0 hcz42_1 hcz42_2 hcz42_3 hcz42_4 hfz42_0 hfz42_1 hfz42_2 hfz42_3 hfz42_4
    try clear hcz43_0 hcz43_1 hcz43_2 hfz43_0 hfz43_1 hfz43_2
    try clear hcz47_0 hcz47_1 hcz47_2 hfz47_0 hfz47_1 hfz47_2
    try clear hcz49_0 hcz49_1 hcz49_2 hfz49_0 hfz49_1 hfz49_2
    try clear hcz52_0 hcz52_1 hfz52_0 hfz52_1
    try clear hcz57_0 hcz57_1 hcz57_2 hfz57_0 hfz57_1 hfz57_2
    try clear hcz66_0 hcz66_1 hcz66_2 hfz66_0 hfz66_1 hfz66_2
    try clear hcz69_0 hcz69_1 hfz69_0 hfz69_1
    try clear hcz71_0 hcz71_1 hcz71_2 hcz71_3 hfz71_0 hfz71_1 hfz71_2 hfz71_3
    try clear hcz79_0 hcz79_1 hcz79_2 hfz79_0 hfz79_1 hfz79_2
    try clear hcz82_0 hcz82_1 hcz82_2 hfz82_0 hfz82_1 hfz82_2
    try clear hcz83_0 hcz83_1 hfz83_0 hfz83_1
    try clear hcz84_0 hcz84_1 hcz84_2 hcz84_3 hcz84_4 hfz84_0 hfz84_1 hfz84_2 hfz84_3 hfz84_4
    try clear hcz93_0 hcz93_1 hcz93_2 hfz93_0 hfz93_1 hfz93_2
    try clear p2
    try clear p6
    obtain ⟨kq, x68_61, rfl, HA, HJ61, HO_577000, HO_577001, HO_577002, HO_588000, HO_588001, HO_588002, BK559, BK560, BK561, BK562, BK576, BK587, HB⟩ := hcut
    cases kq with
    | zero => exact absurd HA.out (by simp [slotmeshlaw12_CellsOrder.j1])
    | succ kj61 =>
     have H := HA.out
     clear HA
     simp only [slotmeshlaw12_CellsOrder.j1] at H
     by_cases c97 : x68_61 = true
     ·subst c97
      have H1 : (some t563) = some r := by rw [if_pos rfl] at H; exact H
      clear H
      have H := H1
      clear H1
      obtain rfl := Option.some.inj H
      go_wp2
      go_ret
      exact ⟨aE, sW HB⟩
     replace c97 := Bool.eq_false_iff.mpr c97
     subst c97
     have H1 : ((cells_AddGrant.f t566 t569 t572 a1_0 a1_1 a3_0 a3_1 a3_2 a3_3 a3_4).bind fun bt588 => ((cells_AddUse.f t577 t580 t583 a1_0 a1_1 a2_0 a2_1 a2_2 a2_3).bind fun bt599 => (if t563 = true then (if bt588.2.2.2 = 0 then (if bt599.2.2.2 = 0 then ((slotmeshref12_Same.f kj61 bt588.1 bt588.2.1 bt588.2.2.1 bt599.1 bt599.2.1 bt599.2.2.1).bind fun t610 => (some t610)) else (some false)) else (some false)) else (some false)))) = some r := by rw [if_neg (show ¬ (false = true) by decide)] at H; exact H
     clear H
     have H := H1
     clear H1
     replace H := Option.bind_eq_some_iff.mp H
     obtain ⟨⟨t588, t591, t594, t597⟩, A980, H⟩ := H
     replace H : ((cells_AddUse.f t577 t580 t583 a1_0 a1_1 a2_0 a2_1 a2_2 a2_3).bind fun bt599 => (if t563 = true then (if t597 = 0 then (if bt599.2.2.2 = 0 then ((slotmeshref12_Same.f kj61 t588 t591 t594 bt599.1 bt599.2.1 bt599.2.2.1).bind fun t610 => (some t610)) else (some false)) else (some false)) else (some false))) = some r := H
     have A98 := Aside0.mk A980
     clear A980
     replace H := Option.bind_eq_some_iff.mp H
     obtain ⟨⟨t599, t602, t605, t608⟩, A990, H⟩ := H
     replace H : (if t563 = true then (if t597 = 0 then (if t608 = 0 then ((slotmeshref12_Same.f kj61 t588 t591 t594 t599 t602 t605).bind fun t610 => (some t610)) else (some false)) else (some false)) else (some false)) = some r := H
     have A99 := Aside0.mk A990
     clear A990
     by_cases c100 : t563 = true
     ·subst c100
      have H1 : (if t597 = 0 then (if t608 = 0 then ((slotmeshref12_Same.f kj61 t588 t591 t594 t599 t602 t605).bind fun t610 => (some t610)) else (some false)) else (some false)) = some r := by rw [if_pos rfl] at H; exact H
      clear H
      have H := H1
      clear H1
      by_cases c101 : t597 = 0
      ·rw [if_pos c101] at H
       have c101b0 : (t597 == 0) = true := beq_iff_eq.mpr c101
       have c101b1 : (t597 != 0) = false := bne_eq_false_iff_eq.mpr c101
       clear c101
       by_cases c102 : t608 = 0
       ·rw [if_pos c102] at H
        have c102b0 : (t608 == 0) = true := beq_iff_eq.mpr c102
        have c102b1 : (t608 != 0) = false := bne_eq_false_iff_eq.mpr c102
        clear c102
        replace H := Option.bind_eq_some_iff.mp H
        obtain ⟨t610, A1030, H⟩ := H
        replace H : (some t610) = some r := H
        have A103 := Aside0.mk A1030
        clear A1030
        obtain rfl := Option.some.inj H
        have hnb104 := NB576_559.out
        have hnc104 := NB559_576.out
        have hnb105 := NB576_560.out
        have hnc105 := NB560_576.out
        have hnb106 := NB576_561.out
        have hnc106 := NB561_576.out
        have hnb107 := NB576_562.out
        have hnc107 := NB562_576.out
        have hnb108 := NB576_587.out
        have hnc108 := NB587_576.out
        have hcz109_0 : wc.cell? ⟨gb576, 0, none⟩ = some (.slice Ao74 t566.length co74) := bt BK576 0
        have hcz109_1 : wc.cell? ⟨gb576, 1, none⟩ = some (.slice Ao80 t569.length co80) := bt BK576 1
        have hcz109_2 : wc.cell? ⟨gb576, 2, none⟩ = some (.slice Ao81 t572.length co81) := bt BK576 2
        have hfz109_0 := blk_frozen BK576.out 0
        have hfz109_1 := blk_frozen BK576.out 1
        have hfz109_2 := blk_frozen BK576.out 2
        have hnb110 := NB560_559.out
        have hnc110 := NB559_560.out
        have hnb111 := NB560_561.out
        have hnc111 := NB561_560.out
        have hnb112 := NB560_562.out
        have hnc112 := NB562_560.out
        have hnb113 := NB560_587.out
        have hnc113 := NB587_560.out
        have hcz114_0 : wc.cell? ⟨gb560, 0, none⟩ = some (.int .i64 a1_0) := bt BK560 0
        have hcz114_1 : wc.cell? ⟨gb560, 1, none⟩ = some (.int .i64 a1_1) := bt BK560 1
        have hfz114_0 := blk_frozen BK560.out 0
        have hfz114_1 := blk_frozen BK560.out 1
        have hnb115 := NB562_559.out
        have hnc115 := NB559_562.out
        have hnb116 := NB562_561.out
        have hnc116 := NB561_562.out
        have hnb117 := NB562_587.out
        have hnc117 := NB587_562.out
        have hcz118_0 : wc.cell? ⟨gb562, 0, none⟩ = some (.int .i64 a3_0) := bt BK562 0
        have hcz118_1 : wc.cell? ⟨gb562, 1, none⟩ = some (.int .i64 a3_1) := bt BK562 1
        have hcz118_2 : wc.cell? ⟨gb562, 2, none⟩ = some (.int .i64 a3_2) := bt BK562 2
        have hcz118_3 : wc.cell? ⟨gb562, 3, none⟩ = some (.int .i64 a3_3) := bt BK562 3
        have hcz118_4 : wc.cell? ⟨gb562, 4, none⟩ = some (.int .i64 a3_4) := bt BK562 4
        have hfz118_0 := blk_frozen BK562.out 0
        have hfz118_1 := blk_frozen BK562.out 1
        have hfz118_2 := blk_frozen BK562.out 2
        have hfz118_3 := blk_frozen BK562.out 3
        have hfz118_4 := blk_frozen BK562.out 4
        go_wp2_with (first | ((with_reducible refine gate_callee (f := 14) rfl ?_); refine gC (some 74) Try.func14 #[.agg #[.slice Ao74 t566.length co74, .slice Ao80 t569.length co80, .slice Ao81 t572.length co81], .agg #[.int .i64 a1_0, .int .i64 a1_1], .agg #[.int .i64 a3_0, .int .i64 a3_1, .int .i64 a3_2, .int .i64 a3_3, .int .i64 a3_4]] ?_; (with_reducible refine (cells_AddGrant.calls _ _ t566 _ _ t569 _ _ t572 a1_0 a1_1 a3_0 a3_1 a3_2 a3_3 a3_4 t588 t591 t594 t597 _ ?side1 ?side2 ?side3 ?side4 ?side5 ?side6 A98.out).mono ?_); (case side1 => exact sC (Kd.R_reads' HO_577000.out).2.2); (case side2 => exact (Kd.R_reads' HO_577000.out).2.1); (case side3 => exact sC (Kd.R_reads' HO_577001.out).2.2); (case side4 => exact (Kd.R_reads' HO_577001.out).2.1); (case side5 => exact sC (Kd.R_reads' HO_577002.out).2.2); (case side6 => exact (Kd.R_reads' HO_577002.out).2.1); rintro e w119 ⟨v589, v592, v595, rfl, ho0, ho1, ho2, hb⟩; refine ⟨_, rfl, ?_⟩; have HO590 := Aside0.mk (Kd.R_lower (Kd.R_newB (Kd.R_new' (Kd.R_new' ho0 (Kd.R_lt (sR HO_577000))) (Kd.R_lt (sR HO_588000))) (g := gb561) (o := .cells #[.int .i64 a2_0, .int .i64 a2_1, .int .i64 a2_2, .int .i64 a2_3] 32 (0, 0)) (sB BK561)) (below_size (sW HB))); replace HO_577000 := eR HO_577000 ho0 hb; replace HO_588000 := eR HO_588000 ho0 hb; have HO593 := Aside0.mk (Kd.R_lower (Kd.R_newB (Kd.R_new' (Kd.R_new' ho1 (Kd.R_lt (sR HO_577001))) (Kd.R_lt (sR HO_588001))) (g := gb562) (o := .cells #[.int .i64 a3_0, .int .i64 a3_1, .int .i64 a3_2, .int .i64 a3_3, .int .i64 a3_4] 34 (0, 0)) (sB BK562)) (below_size (sW HB))); replace HO_577001 := eR HO_577001 ho1 hb; replace HO_588001 := eR HO_588001 ho1 hb; have HO596 := Aside0.mk (Kd.R_lower (Kd.R_new' (Kd.R_new' ho2 (Kd.R_lt (sR HO_577002))) (Kd.R_lt (sR HO_588002))) (below_size (sW HB))); replace HO_577002 := eR HO_577002 ho2 hb; replace HO_588002 := eR HO_588002 ho2 hb; replace BK559 := tB BK559 hb; replace BK560 := tB BK560 hb; replace BK561 := tB BK561 hb; replace BK562 := tB BK562 hb; replace BK576 := tB BK576 hb; replace BK587 := tB BK587 hb; replace HB := tW HB hb; (try clear hb); (try clear hb2); (try clear hk); (try clear hi); (try clear ho0); (try clear ho1); (try clear ho2)) | ((with_reducible refine gate_dst (N := 14) rfl ?_); (try (refine gate_guard (by rfl) ?_; dsimp only)); refine bE (N := 14) (cs := #[.slice none 0 0, .slice none 0 0, .slice none 0 0]) (t := 26) ?_; intro gb598 hg w120 hbox hb; replace HO_577000 := tR HO_577000 hb; replace HO_577001 := tR HO_577001 hb; replace HO_577002 := tR HO_577002 hb; replace HO_588000 := tR HO_588000 hb; replace HO_588001 := tR HO_588001 hb; replace HO_588002 := tR HO_588002 hb; replace HO590 := tR HO590 hb; replace HO593 := tR HO593 hb; replace HO596 := tR HO596 hb; have BK598 := Aside0.mk (hbox); have GW598 := gW hg HB; have GE598 := GW598; replace HB := tW HB hb; have NB559_598 := gL hg BK559; have NB598_559 := gG hg BK559; replace BK559 := tB BK559 hb; have NB560_598 := gL hg BK560; have NB598_560 := gG hg BK560; replace BK560 := tB BK560 hb; have NB561_598 := gL hg BK561; have NB598_561 := gG hg BK561; replace BK561 := tB BK561 hb; have NB562_598 := gL hg BK562; have NB598_562 := gG hg BK562; replace BK562 := tB BK562 hb; have NB576_598 := gL hg BK576; have NB598_576 := gG hg BK576; replace BK576 := tB BK576 hb; have NB587_598 := gL hg BK587; have NB598_587 := gG hg BK587; replace BK587 := tB BK587 hb; clear hb hbox hg; obtain ⟨Ao121, co121, eo121⟩ := Kd.R_slice HO590.out; subst eo121; have hnb122 := NB598_559.out; have hnc122 := NB559_598.out; have hnb123 := NB598_560.out; have hnc123 := NB560_598.out; have hnb124 := NB598_561.out; have hnc124 := NB561_598.out; have hnb125 := NB598_562.out; have hnc125 := NB562_598.out; have hnb126 := NB598_576.out; have hnc126 := NB576_598.out; have hnb127 := NB598_587.out; have hnc127 := NB587_598.out; have hcz128_0 : w120.cell? ⟨gb598, 0, none⟩ = some (.slice none 0 0) := bt BK598 0; have hcz128_1 : w120.cell? ⟨gb598, 1, none⟩ = some (.slice none 0 0) := bt BK598 1; have hcz128_2 : w120.cell? ⟨gb598, 2, none⟩ = some (.slice none 0 0) := bt BK598 2; have hfz128_0 := blk_frozen BK598.out 0; have hfz128_1 := blk_frozen BK598.out 1; have hfz128_2 := blk_frozen BK598.out 2; obtain ⟨Ao129, co129, eo129⟩ := Kd.R_slice HO593.out; subst eo129; obtain ⟨Ao130, co130, eo130⟩ := Kd.R_slice HO596.out; subst eo130; have hnb131 := NB587_559.out; have hnc131 := NB559_587.out; have hnb132 := NB587_561.out; have hnc132 := NB561_587.out; have hcz133_0 : w120.cell? ⟨gb587, 0, none⟩ = some (.slice Ao87 t577.length co87) := bt BK587 0; have hcz133_1 : w120.cell? ⟨gb587, 1, none⟩ = some (.slice Ao94 t580.length co94) := bt BK587 1; have hcz133_2 : w120.cell? ⟨gb587, 2, none⟩ = some (.slice Ao95 t583.length co95) := bt BK587 2; have hfz133_0 := blk_frozen BK587.out 0; have hfz133_1 := blk_frozen BK587.out 1; have hfz133_2 := blk_frozen BK587.out 2; have hcz134_0 : w120.cell? ⟨gb560, 0, none⟩ = some (.int .i64 a1_0) := bt BK560 0; have hcz134_1 : w120.cell? ⟨gb560, 1, none⟩ = some (.int .i64 a1_1) := bt BK560 1; have hfz134_0 := blk_frozen BK560.out 0; have hfz134_1 := blk_frozen BK560.out 1; have hnb135 := NB561_559.out; have hnc135 := NB559_561.out; have hcz136_0 : w120.cell? ⟨gb561, 0, none⟩ = some (.int .i64 a2_0) := bt BK561 0; have hcz136_1 : w120.cell? ⟨gb561, 1, none⟩ = some (.int .i64 a2_1) := bt BK561 1; have hcz136_2 : w120.cell? ⟨gb561, 2, none⟩ = some (.int .i64 a2_2) := bt BK561 2; have hcz136_3 : w120.cell? ⟨gb561, 3, none⟩ = some (.int .i64 a2_3) := bt BK561 3; have hfz136_0 := blk_frozen BK561.out 0; have hfz136_1 := blk_frozen BK561.out 1; have hfz136_2 := blk_frozen BK561.out 2; have hfz136_3 := blk_frozen BK561.out 3) | ((with_reducible refine gate_callee (f := 12) rfl ?_); refine gC (some 81) Try.func12 #[.agg #[.slice Ao87 t577.length co87, .slice Ao94 t580.length co94, .slice Ao95 t583.length co95], .agg #[.int .i64 a1_0, .int .i64 a1_1], .agg #[.int .i64 a2_0, .int .i64 a2_1, .int .i64 a2_2, .int .i64 a2_3]] ?_; (with_reducible refine (cells_AddUse.calls _ _ t577 _ _ t580 _ _ t583 a1_0 a1_1 a2_0 a2_1 a2_2 a2_3 t599 t602 t605 t608 _ ?side1 ?side2 ?side3 ?side4 ?side5 ?side6 A99.out).mono ?_); (case side1 => refine (Kd.R_reads' (e := 32) (base := w.heap.size) (ok := fun k_ => ((some k_ ≠ (.slice Ao74 t566.length co74 : Value).ownBlock ∧ k_ ≠ gb561) ∧ some k_ ≠ (.slice Ao121 t588.length co121 : Value).ownBlock)) (n := t577.length) (c := co87) ?_).2.2; exact (mR (by exact (Kd.R_mono (Kd.R_far (p := ⟨gb598, 2, none⟩) (Kd.R_far (p := ⟨gb598, 1, none⟩) (Kd.R_far (p := ⟨gb598, 0, none⟩) (Kd.R_types HO_588000.out BK598.out (by decide)) (fun _ hk => hk.2) (.slice Ao121 t588.length co121)) (fun _ hk => hk.2) (.slice Ao129 t591.length co129)) (fun _ hk => hk.2) (.slice Ao130 t594.length co130)) (fun _ h_ => h_.1))))); (case side2 => exact (Kd.R_reads' HO_588000.out).2.1); (case side3 => refine (Kd.R_reads' (e := 34) (base := w.heap.size) (ok := fun k_ => ((some k_ ≠ (.slice Ao80 t569.length co80 : Value).ownBlock ∧ k_ ≠ gb562) ∧ some k_ ≠ (.slice Ao129 t591.length co129 : Value).ownBlock)) (n := t580.length) (c := co94) ?_).2.2; exact (mR (by exact (Kd.R_mono (Kd.R_far (p := ⟨gb598, 2, none⟩) (Kd.R_far (p := ⟨gb598, 1, none⟩) (Kd.R_far (p := ⟨gb598, 0, none⟩) (Kd.R_types HO_588001.out BK598.out (by decide)) (fun _ hk => hk.2) (.slice Ao121 t588.length co121)) (fun _ hk => hk.2) (.slice Ao129 t591.length co129)) (fun _ hk => hk.2) (.slice Ao130 t594.length co130)) (fun _ h_ => h_.1))))); (case side4 => exact (Kd.R_reads' HO_588001.out).2.1); (case side5 => refine (Kd.R_reads' (e := 51) (base := w.heap.size) (ok := fun k_ => (some k_ ≠ (.slice Ao81 t572.length co81 : Value).ownBlock ∧ some k_ ≠ (.slice Ao130 t594.length co130 : Value).ownBlock)) (n := t583.length) (c := co95) ?_).2.2; exact (mR (by exact (Kd.R_mono (Kd.R_far (p := ⟨gb598, 2, none⟩) (Kd.R_far (p := ⟨gb598, 1, none⟩) (Kd.R_far (p := ⟨gb598, 0, none⟩) (Kd.R_types HO_588002.out BK598.out (by decide)) (fun _ hk => hk.2) (.slice Ao121 t588.length co121)) (fun _ hk => hk.2) (.slice Ao129 t591.length co129)) (fun _ hk => hk.2) (.slice Ao130 t594.length co130)) (fun _ h_ => h_.1))))); (case side6 => exact (Kd.R_reads' HO_588002.out).2.1); rintro e w137 ⟨v600, v603, v606, rfl, ho0, ho1, ho2, hb⟩; refine ⟨_, rfl, ?_⟩; have HO601 := Aside0.mk (Kd.R_lower (Kd.R_newB (Kd.R_new' (Kd.R_new' (Kd.R_new' ho0 (Kd.R_lt (mR (by exact (Kd.R_mono (Kd.R_far (p := ⟨gb598, 2, none⟩) (Kd.R_far (p := ⟨gb598, 1, none⟩) (Kd.R_far (p := ⟨gb598, 0, none⟩) (Kd.R_types HO_577000.out BK598.out (by decide)) (fun _ hk => hk.2) (.slice Ao121 t588.length co121)) (fun _ hk => hk.2) (.slice Ao129 t591.length co129)) (fun _ hk => hk.2) (.slice Ao130 t594.length co130)) (fun _ h_ => h_.1)))))) (Kd.R_lt (mR (by exact (Kd.R_mono (Kd.R_far (p := ⟨gb598, 2, none⟩) (Kd.R_far (p := ⟨gb598, 1, none⟩) (Kd.R_far (p := ⟨gb598, 0, none⟩) (Kd.R_types HO_588000.out BK598.out (by decide)) (fun _ hk => hk.2) (.slice Ao121 t588.length co121)) (fun _ hk => hk.2) (.slice Ao129 t591.length co129)) (fun _ hk => hk.2) (.slice Ao130 t594.length co130)) (fun _ h_ => h_.1)))))) (Kd.R_lt (mR (by exact (Kd.R_mono (Kd.R_far (p := ⟨gb598, 2, none⟩) (Kd.R_far (p := ⟨gb598, 1, none⟩) (Kd.R_far (p := ⟨gb598, 0, none⟩) (Kd.R_types HO590.out BK598.out (by decide)) (fun _ hk => hk.2) (.slice Ao121 t588.length co121)) (fun _ hk => hk.2) (.slice Ao129 t591.length co129)) (fun _ hk => hk.2) (.slice Ao130 t594.length co130)) (fun _ h_ => h_.1)))))) (g := gb561) (o := .cells #[.int .i64 a2_0, .int .i64 a2_1, .int .i64 a2_2, .int .i64 a2_3] 32 (0, 0)) (sB BK561)) (below_size (sW HB))); replace HO_577000 := Aside0.mk (Kd.R_elder' (mR (by exact (Kd.R_mono (Kd.R_far (p := ⟨gb598, 2, none⟩) (Kd.R_far (p := ⟨gb598, 1, none⟩) (Kd.R_far (p := ⟨gb598, 0, none⟩) (Kd.R_types HO_577000.out BK598.out (by decide)) (fun _ hk => hk.2) (.slice Ao121 t588.length co121)) (fun _ hk => hk.2) (.slice Ao129 t591.length co129)) (fun _ hk => hk.2) (.slice Ao130 t594.length co130)) (fun _ h_ => h_.1)))) (Kd.R_base ho0) hb); replace HO_588000 := Aside0.mk (Kd.R_elder' (mR (by exact (Kd.R_mono (Kd.R_far (p := ⟨gb598, 2, none⟩) (Kd.R_far (p := ⟨gb598, 1, none⟩) (Kd.R_far (p := ⟨gb598, 0, none⟩) (Kd.R_types HO_588000.out BK598.out (by decide)) (fun _ hk => hk.2) (.slice Ao121 t588.length co121)) (fun _ hk => hk.2) (.slice Ao129 t591.length co129)) (fun _ hk => hk.2) (.slice Ao130 t594.length co130)) (fun _ h_ => h_.1)))) (Kd.R_base ho0) hb); replace HO590 := Aside0.mk (Kd.R_elder' (mR (by exact (Kd.R_mono (Kd.R_far (p := ⟨gb598, 2, none⟩) (Kd.R_far (p := ⟨gb598, 1, none⟩) (Kd.R_far (p := ⟨gb598, 0, none⟩) (Kd.R_types HO590.out BK598.out (by decide)) (fun _ hk => hk.2) (.slice Ao121 t588.length co121)) (fun _ hk => hk.2) (.slice Ao129 t591.length co129)) (fun _ hk => hk.2) (.slice Ao130 t594.length co130)) (fun _ h_ => h_.1)))) (Kd.R_base ho0) hb); have HO604 := Aside0.mk (Kd.R_lower (Kd.R_newB (Kd.R_new' (Kd.R_new' (Kd.R_new' ho1 (Kd.R_lt (mR (by exact (Kd.R_mono (Kd.R_far (p := ⟨gb598, 2, none⟩) (Kd.R_far (p := ⟨gb598, 1, none⟩) (Kd.R_far (p := ⟨gb598, 0, none⟩) (Kd.R_types HO_577001.out BK598.out (by decide)) (fun _ hk => hk.2) (.slice Ao121 t588.length co121)) (fun _ hk => hk.2) (.slice Ao129 t591.length co129)) (fun _ hk => hk.2) (.slice Ao130 t594.length co130)) (fun _ h_ => h_.1)))))) (Kd.R_lt (mR (by exact (Kd.R_mono (Kd.R_far (p := ⟨gb598, 2, none⟩) (Kd.R_far (p := ⟨gb598, 1, none⟩) (Kd.R_far (p := ⟨gb598, 0, none⟩) (Kd.R_types HO_588001.out BK598.out (by decide)) (fun _ hk => hk.2) (.slice Ao121 t588.length co121)) (fun _ hk => hk.2) (.slice Ao129 t591.length co129)) (fun _ hk => hk.2) (.slice Ao130 t594.length co130)) (fun _ h_ => h_.1)))))) (Kd.R_lt (mR (by exact (Kd.R_mono (Kd.R_far (p := ⟨gb598, 2, none⟩) (Kd.R_far (p := ⟨gb598, 1, none⟩) (Kd.R_far (p := ⟨gb598, 0, none⟩) (Kd.R_types HO593.out BK598.out (by decide)) (fun _ hk => hk.2) (.slice Ao121 t588.length co121)) (fun _ hk => hk.2) (.slice Ao129 t591.length co129)) (fun _ hk => hk.2) (.slice Ao130 t594.length co130)) (fun _ h_ => h_.1)))))) (g := gb562) (o := .cells #[.int .i64 a3_0, .int .i64 a3_1, .int .i64 a3_2, .int .i64 a3_3, .int .i64 a3_4] 34 (0, 0)) (sB BK562)) (below_size (sW HB))); replace HO_577001 := Aside0.mk (Kd.R_elder' (mR (by exact (Kd.R_mono (Kd.R_far (p := ⟨gb598, 2, none⟩) (Kd.R_far (p := ⟨gb598, 1, none⟩) (Kd.R_far (p := ⟨gb598, 0, none⟩) (Kd.R_types HO_577001.out BK598.out (by decide)) (fun _ hk => hk.2) (.slice Ao121 t588.length co121)) (fun _ hk => hk.2) (.slice Ao129 t591.length co129)) (fun _ hk => hk.2) (.slice Ao130 t594.length co130)) (fun _ h_ => h_.1)))) (Kd.R_base ho1) hb); replace HO_588001 := Aside0.mk (Kd.R_elder' (mR (by exact (Kd.R_mono (Kd.R_far (p := ⟨gb598, 2, none⟩) (Kd.R_far (p := ⟨gb598, 1, none⟩) (Kd.R_far (p := ⟨gb598, 0, none⟩) (Kd.R_types HO_588001.out BK598.out (by decide)) (fun _ hk => hk.2) (.slice Ao121 t588.length co121)) (fun _ hk => hk.2) (.slice Ao129 t591.length co129)) (fun _ hk => hk.2) (.slice Ao130 t594.length co130)) (fun _ h_ => h_.1)))) (Kd.R_base ho1) hb); replace HO593 := Aside0.mk (Kd.R_elder' (mR (by exact (Kd.R_mono (Kd.R_far (p := ⟨gb598, 2, none⟩) (Kd.R_far (p := ⟨gb598, 1, none⟩) (Kd.R_far (p := ⟨gb598, 0, none⟩) (Kd.R_types HO593.out BK598.out (by decide)) (fun _ hk => hk.2) (.slice Ao121 t588.length co121)) (fun _ hk => hk.2) (.slice Ao129 t591.length co129)) (fun _ hk => hk.2) (.slice Ao130 t594.length co130)) (fun _ h_ => h_.1)))) (Kd.R_base ho1) hb); have HO607 := Aside0.mk (Kd.R_lower (Kd.R_new' (Kd.R_new' (Kd.R_new' ho2 (Kd.R_lt (mR (by exact (Kd.R_mono (Kd.R_far (p := ⟨gb598, 2, none⟩) (Kd.R_far (p := ⟨gb598, 1, none⟩) (Kd.R_far (p := ⟨gb598, 0, none⟩) (Kd.R_types HO_577002.out BK598.out (by decide)) (fun _ hk => hk.2) (.slice Ao121 t588.length co121)) (fun _ hk => hk.2) (.slice Ao129 t591.length co129)) (fun _ hk => hk.2) (.slice Ao130 t594.length co130)) (fun _ h_ => h_.1)))))) (Kd.R_lt (mR (by exact (Kd.R_mono (Kd.R_far (p := ⟨gb598, 2, none⟩) (Kd.R_far (p := ⟨gb598, 1, none⟩) (Kd.R_far (p := ⟨gb598, 0, none⟩) (Kd.R_types HO_588002.out BK598.out (by decide)) (fun _ hk => hk.2) (.slice Ao121 t588.length co121)) (fun _ hk => hk.2) (.slice Ao129 t591.length co129)) (fun _ hk => hk.2) (.slice Ao130 t594.length co130)) (fun _ h_ => h_.1)))))) (Kd.R_lt (mR (by exact (Kd.R_mono (Kd.R_far (p := ⟨gb598, 2, none⟩) (Kd.R_far (p := ⟨gb598, 1, none⟩) (Kd.R_far (p := ⟨gb598, 0, none⟩) (Kd.R_types HO596.out BK598.out (by decide)) (fun _ hk => hk.2) (.slice Ao121 t588.length co121)) (fun _ hk => hk.2) (.slice Ao129 t591.length co129)) (fun _ hk => hk.2) (.slice Ao130 t594.length co130)) (fun _ h_ => h_.1)))))) (below_size (sW HB))); replace HO_577002 := Aside0.mk (Kd.R_elder' (mR (by exact (Kd.R_mono (Kd.R_far (p := ⟨gb598, 2, none⟩) (Kd.R_far (p := ⟨gb598, 1, none⟩) (Kd.R_far (p := ⟨gb598, 0, none⟩) (Kd.R_types HO_577002.out BK598.out (by decide)) (fun _ hk => hk.2) (.slice Ao121 t588.length co121)) (fun _ hk => hk.2) (.slice Ao129 t591.length co129)) (fun _ hk => hk.2) (.slice Ao130 t594.length co130)) (fun _ h_ => h_.1)))) (Kd.R_base ho2) hb); replace HO_588002 := Aside0.mk (Kd.R_elder' (mR (by exact (Kd.R_mono (Kd.R_far (p := ⟨gb598, 2, none⟩) (Kd.R_far (p := ⟨gb598, 1, none⟩) (Kd.R_far (p := ⟨gb598, 0, none⟩) (Kd.R_types HO_588002.out BK598.out (by decide)) (fun _ hk => hk.2) (.slice Ao121 t588.length co121)) (fun _ hk => hk.2) (.slice Ao129 t591.length co129)) (fun _ hk => hk.2) (.slice Ao130 t594.length co130)) (fun _ h_ => h_.1)))) (Kd.R_base ho2) hb); replace HO596 := Aside0.mk (Kd.R_elder' (mR (by exact (Kd.R_mono (Kd.R_far (p := ⟨gb598, 2, none⟩) (Kd.R_far (p := ⟨gb598, 1, none⟩) (Kd.R_far (p := ⟨gb598, 0, none⟩) (Kd.R_types HO596.out BK598.out (by decide)) (fun _ hk => hk.2) (.slice Ao121 t588.length co121)) (fun _ hk => hk.2) (.slice Ao129 t591.length co129)) (fun _ hk => hk.2) (.slice Ao130 t594.length co130)) (fun _ h_ => h_.1)))) (Kd.R_base ho2) hb); replace BK559 := tB BK559 hb; replace BK560 := tB BK560 hb; replace BK561 := tB BK561 hb; replace BK562 := tB BK562 hb; replace BK576 := tB BK576 hb; replace BK587 := tB BK587 hb; replace BK598 := Aside0.mk (blk_below (g := gb598) (o := .cells #[.slice Ao121 t588.length co121, .slice Ao129 t591.length co129, .slice Ao130 t594.length co130] 26 (0, 0)) (by (with_reducible repeat (first | refine blk_drewN ?_ _ | refine blk_drew ?_ | refine blk_alloc ?_ _)); refine blk_put (cs := #[.slice Ao121 t588.length co121, .slice Ao129 t591.length co129, .slice none 0 0]) ?_ 2 _ rfl; (with_reducible repeat (first | refine blk_drewN ?_ _ | refine blk_drew ?_ | refine blk_alloc ?_ _)); refine blk_put (cs := #[.slice Ao121 t588.length co121, .slice none 0 0, .slice none 0 0]) ?_ 1 _ rfl; (with_reducible repeat (first | refine blk_drewN ?_ _ | refine blk_drew ?_ | refine blk_alloc ?_ _)); refine blk_put (cs := #[.slice none 0 0, .slice none 0 0, .slice none 0 0]) ?_ 0 _ rfl; (with_reducible repeat (first | refine blk_drewN ?_ _ | refine blk_drew ?_ | refine blk_alloc ?_ _)); exact BK598.out) hb); replace HB := tW HB hb; (try clear hb); (try clear hb2); (try clear hk); (try clear hi); (try clear ho0); (try clear ho1); (try clear ho2)) | ((with_reducible refine gate_dst (N := 16) rfl ?_); (try (refine gate_guard (by rfl) ?_; dsimp only)); refine bE (N := 16) (cs := #[.slice none 0 0, .slice none 0 0, .slice none 0 0]) (t := 26) ?_; intro gb609 hg w138 hbox hb; replace HO_577000 := tR HO_577000 hb; replace HO_577001 := tR HO_577001 hb; replace HO_577002 := tR HO_577002 hb; replace HO_588000 := tR HO_588000 hb; replace HO_588001 := tR HO_588001 hb; replace HO_588002 := tR HO_588002 hb; replace HO590 := tR HO590 hb; replace HO593 := tR HO593 hb; replace HO596 := tR HO596 hb; replace HO601 := tR HO601 hb; replace HO604 := tR HO604 hb; replace HO607 := tR HO607 hb; have BK609 := Aside0.mk (hbox); have GW609 := gW hg HB; have GE609 := GW609; replace HB := tW HB hb; have NB559_609 := gL hg BK559; have NB609_559 := gG hg BK559; replace BK559 := tB BK559 hb; have NB560_609 := gL hg BK560; have NB609_560 := gG hg BK560; replace BK560 := tB BK560 hb; have NB561_609 := gL hg BK561; have NB609_561 := gG hg BK561; replace BK561 := tB BK561 hb; have NB562_609 := gL hg BK562; have NB609_562 := gG hg BK562; replace BK562 := tB BK562 hb; have NB576_609 := gL hg BK576; have NB609_576 := gG hg BK576; replace BK576 := tB BK576 hb; have NB587_609 := gL hg BK587; have NB609_587 := gG hg BK587; replace BK587 := tB BK587 hb; have NB598_609 := gL hg BK598; have NB609_598 := gG hg BK598; replace BK598 := tB BK598 hb; clear hb hbox hg; obtain ⟨Ao139, co139, eo139⟩ := Kd.R_slice HO601.out; subst eo139; have hnb140 := NB609_559.out; have hnc140 := NB559_609.out; have hnb141 := NB609_560.out; have hnc141 := NB560_609.out; have hnb142 := NB609_561.out; have hnc142 := NB561_609.out; have hnb143 := NB609_562.out; have hnc143 := NB562_609.out; have hnb144 := NB609_576.out; have hnc144 := NB576_609.out; have hnb145 := NB609_587.out; have hnc145 := NB587_609.out; have hnb146 := NB609_598.out; have hnc146 := NB598_609.out; have hcz147_0 : w138.cell? ⟨gb609, 0, none⟩ = some (.slice none 0 0) := bt BK609 0; have hcz147_1 : w138.cell? ⟨gb609, 1, none⟩ = some (.slice none 0 0) := bt BK609 1; have hcz147_2 : w138.cell? ⟨gb609, 2, none⟩ = some (.slice none 0 0) := bt BK609 2; have hfz147_0 := blk_frozen BK609.out 0; have hfz147_1 := blk_frozen BK609.out 1; have hfz147_2 := blk_frozen BK609.out 2; obtain ⟨Ao148, co148, eo148⟩ := Kd.R_slice HO604.out; subst eo148; obtain ⟨Ao149, co149, eo149⟩ := Kd.R_slice HO607.out; subst eo149; have hcz150_0 : w138.cell? ⟨gb598, 0, none⟩ = some (.slice Ao121 t588.length co121) := bt BK598 0; have hcz150_1 : w138.cell? ⟨gb598, 1, none⟩ = some (.slice Ao129 t591.length co129) := bt BK598 1; have hcz150_2 : w138.cell? ⟨gb598, 2, none⟩ = some (.slice Ao130 t594.length co130) := bt BK598 2; have hfz150_0 := blk_frozen BK598.out 0; have hfz150_1 := blk_frozen BK598.out 1; have hfz150_2 := blk_frozen BK598.out 2) | (go_at_call 16; (with_reducible refine (slotmeshref12_Same.calls kj61 _ _ t588 _ _ t591 _ _ t594 _ _ t599 _ _ t602 _ _ t605 t610 _ ?side1 ?side2 ?side3 ?side4 ?side5 ?side6 ?side7 ?side8 ?side9 ?side10 ?side11 ?side12 A103.out).mono ?_); (case side1 => refine (Kd.R_reads' (e := 32) (base := w.heap.size) (ok := fun k_ => ((((True ∧ some k_ ≠ (.slice Ao74 t566.length co74 : Value).ownBlock) ∧ some k_ ≠ (.slice Ao87 t577.length co87 : Value).ownBlock) ∧ k_ ≠ gb561) ∧ some k_ ≠ (.slice Ao139 t599.length co139 : Value).ownBlock)) (n := t588.length) (c := co121) ?_).2.2; exact (mR (by exact (Kd.R_mono (Kd.R_far (p := ⟨gb609, 2, none⟩) (Kd.R_far (p := ⟨gb609, 1, none⟩) (Kd.R_far (p := ⟨gb609, 0, none⟩) (Kd.R_types HO590.out BK609.out (by decide)) (fun _ hk => hk.2) (.slice Ao139 t599.length co139)) (fun _ hk => hk.2) (.slice Ao148 t602.length co148)) (fun _ hk => hk.2) (.slice Ao149 t605.length co149)) (fun _ h_ => h_.1))))); (case side2 => exact (Kd.R_reads' HO590.out).2.1); (case side3 => refine (Kd.R_reads' (e := 34) (base := w.heap.size) (ok := fun k_ => ((((True ∧ some k_ ≠ (.slice Ao80 t569.length co80 : Value).ownBlock) ∧ some k_ ≠ (.slice Ao94 t580.length co94 : Value).ownBlock) ∧ k_ ≠ gb562) ∧ some k_ ≠ (.slice Ao148 t602.length co148 : Value).ownBlock)) (n := t591.length) (c := co129) ?_).2.2; exact (mR (by exact (Kd.R_mono (Kd.R_far (p := ⟨gb609, 2, none⟩) (Kd.R_far (p := ⟨gb609, 1, none⟩) (Kd.R_far (p := ⟨gb609, 0, none⟩) (Kd.R_types HO593.out BK609.out (by decide)) (fun _ hk => hk.2) (.slice Ao139 t599.length co139)) (fun _ hk => hk.2) (.slice Ao148 t602.length co148)) (fun _ hk => hk.2) (.slice Ao149 t605.length co149)) (fun _ h_ => h_.1))))); (case side4 => exact (Kd.R_reads' HO593.out).2.1); (case side5 => refine (Kd.R_reads' (e := 51) (base := w.heap.size) (ok := fun k_ => (((True ∧ some k_ ≠ (.slice Ao81 t572.length co81 : Value).ownBlock) ∧ some k_ ≠ (.slice Ao95 t583.length co95 : Value).ownBlock) ∧ some k_ ≠ (.slice Ao149 t605.length co149 : Value).ownBlock)) (n := t594.length) (c := co130) ?_).2.2; exact (mR (by exact (Kd.R_mono (Kd.R_far (p := ⟨gb609, 2, none⟩) (Kd.R_far (p := ⟨gb609, 1, none⟩) (Kd.R_far (p := ⟨gb609, 0, none⟩) (Kd.R_types HO596.out BK609.out (by decide)) (fun _ hk => hk.2) (.slice Ao139 t599.length co139)) (fun _ hk => hk.2) (.slice Ao148 t602.length co148)) (fun _ hk => hk.2) (.slice Ao149 t605.length co149)) (fun _ h_ => h_.1))))); (case side6 => exact (Kd.R_reads' HO596.out).2.1); (case side7 => refine (Kd.R_reads' (e := 32) (base := w.heap.size) (ok := fun k_ => ((((True ∧ some k_ ≠ (.slice Ao74 t566.length co74 : Value).ownBlock) ∧ some k_ ≠ (.slice Ao87 t577.length co87 : Value).ownBlock) ∧ some k_ ≠ (.slice Ao121 t588.length co121 : Value).ownBlock) ∧ k_ ≠ gb561)) (n := t599.length) (c := co139) ?_).2.2; exact (mR (by exact (Kd.R_mono (Kd.R_far (p := ⟨gb609, 2, none⟩) (Kd.R_far (p := ⟨gb609, 1, none⟩) (Kd.R_far (p := ⟨gb609, 0, none⟩) (Kd.R_types HO601.out BK609.out (by decide)) (fun _ hk => hk.2) (.slice Ao139 t599.length co139)) (fun _ hk => hk.2) (.slice Ao148 t602.length co148)) (fun _ hk => hk.2) (.slice Ao149 t605.length co149)) (fun _ h_ => h_.1))))); (case side8 => exact (Kd.R_reads' HO601.out).2.1); (case side9 => refine (Kd.R_reads' (e := 34) (base := w.heap.size) (ok := fun k_ => ((((True ∧ some k_ ≠ (.slice Ao80 t569.length co80 : Value).ownBlock) ∧ some k_ ≠ (.slice Ao94 t580.length co94 : Value).ownBlock) ∧ some k_ ≠ (.slice Ao129 t591.length co129 : Value).ownBlock) ∧ k_ ≠ gb562)) (n := t602.length) (c := co148) ?_).2.2; exact (mR (by exact (Kd.R_mono (Kd.R_far (p := ⟨gb609, 2, none⟩) (Kd.R_far (p := ⟨gb609, 1, none⟩) (Kd.R_far (p := ⟨gb609, 0, none⟩) (Kd.R_types HO604.out BK609.out (by decide)) (fun _ hk => hk.2) (.slice Ao139 t599.length co139)) (fun _ hk => hk.2) (.slice Ao148 t602.length co148)) (fun _ hk => hk.2) (.slice Ao149 t605.length co149)) (fun _ h_ => h_.1))))); (case side10 => exact (Kd.R_reads' HO604.out).2.1); (case side11 => refine (Kd.R_reads' (e := 51) (base := w.heap.size) (ok := fun k_ => (((True ∧ some k_ ≠ (.slice Ao81 t572.length co81 : Value).ownBlock) ∧ some k_ ≠ (.slice Ao95 t583.length co95 : Value).ownBlock) ∧ some k_ ≠ (.slice Ao130 t594.length co130 : Value).ownBlock)) (n := t605.length) (c := co149) ?_).2.2; exact (mR (by exact (Kd.R_mono (Kd.R_far (p := ⟨gb609, 2, none⟩) (Kd.R_far (p := ⟨gb609, 1, none⟩) (Kd.R_far (p := ⟨gb609, 0, none⟩) (Kd.R_types HO607.out BK609.out (by decide)) (fun _ hk => hk.2) (.slice Ao139 t599.length co139)) (fun _ hk => hk.2) (.slice Ao148 t602.length co148)) (fun _ hk => hk.2) (.slice Ao149 t605.length co149)) (fun _ h_ => h_.1))))); (case side12 => exact (Kd.R_reads' HO607.out).2.1); rintro e w151 ⟨rfl, hb⟩; replace HO_577000 := Aside0.mk (Kd.R_below (mR (by exact (Kd.R_mono (Kd.R_far (p := ⟨gb609, 2, none⟩) (Kd.R_far (p := ⟨gb609, 1, none⟩) (Kd.R_far (p := ⟨gb609, 0, none⟩) (Kd.R_types HO_577000.out BK609.out (by decide)) (fun _ hk => hk.2) (.slice Ao139 t599.length co139)) (fun _ hk => hk.2) (.slice Ao148 t602.length co148)) (fun _ hk => hk.2) (.slice Ao149 t605.length co149)) (fun _ h_ => h_.1)))) hb); replace HO_577001 := Aside0.mk (Kd.R_below (mR (by exact (Kd.R_mono (Kd.R_far (p := ⟨gb609, 2, none⟩) (Kd.R_far (p := ⟨gb609, 1, none⟩) (Kd.R_far (p := ⟨gb609, 0, none⟩) (Kd.R_types HO_577001.out BK609.out (by decide)) (fun _ hk => hk.2) (.slice Ao139 t599.length co139)) (fun _ hk => hk.2) (.slice Ao148 t602.length co148)) (fun _ hk => hk.2) (.slice Ao149 t605.length co149)) (fun _ h_ => h_.1)))) hb); replace HO_577002 := Aside0.mk (Kd.R_below (mR (by exact (Kd.R_mono (Kd.R_far (p := ⟨gb609, 2, none⟩) (Kd.R_far (p := ⟨gb609, 1, none⟩) (Kd.R_far (p := ⟨gb609, 0, none⟩) (Kd.R_types HO_577002.out BK609.out (by decide)) (fun _ hk => hk.2) (.slice Ao139 t599.length co139)) (fun _ hk => hk.2) (.slice Ao148 t602.length co148)) (fun _ hk => hk.2) (.slice Ao149 t605.length co149)) (fun _ h_ => h_.1)))) hb); replace HO_588000 := Aside0.mk (Kd.R_below (mR (by exact (Kd.R_mono (Kd.R_far (p := ⟨gb609, 2, none⟩) (Kd.R_far (p := ⟨gb609, 1, none⟩) (Kd.R_far (p := ⟨gb609, 0, none⟩) (Kd.R_types HO_588000.out BK609.out (by decide)) (fun _ hk => hk.2) (.slice Ao139 t599.length co139)) (fun _ hk => hk.2) (.slice Ao148 t602.length co148)) (fun _ hk => hk.2) (.slice Ao149 t605.length co149)) (fun _ h_ => h_.1)))) hb); replace HO_588001 := Aside0.mk (Kd.R_below (mR (by exact (Kd.R_mono (Kd.R_far (p := ⟨gb609, 2, none⟩) (Kd.R_far (p := ⟨gb609, 1, none⟩) (Kd.R_far (p := ⟨gb609, 0, none⟩) (Kd.R_types HO_588001.out BK609.out (by decide)) (fun _ hk => hk.2) (.slice Ao139 t599.length co139)) (fun _ hk => hk.2) (.slice Ao148 t602.length co148)) (fun _ hk => hk.2) (.slice Ao149 t605.length co149)) (fun _ h_ => h_.1)))) hb); replace HO_588002 := Aside0.mk (Kd.R_below (mR (by exact (Kd.R_mono (Kd.R_far (p := ⟨gb609, 2, none⟩) (Kd.R_far (p := ⟨gb609, 1, none⟩) (Kd.R_far (p := ⟨gb609, 0, none⟩) (Kd.R_types HO_588002.out BK609.out (by decide)) (fun _ hk => hk.2) (.slice Ao139 t599.length co139)) (fun _ hk => hk.2) (.slice Ao148 t602.length co148)) (fun _ hk => hk.2) (.slice Ao149 t605.length co149)) (fun _ h_ => h_.1)))) hb); replace HO590 := Aside0.mk (Kd.R_below (mR (by exact (Kd.R_mono (Kd.R_far (p := ⟨gb609, 2, none⟩) (Kd.R_far (p := ⟨gb609, 1, none⟩) (Kd.R_far (p := ⟨gb609, 0, none⟩) (Kd.R_types HO590.out BK609.out (by decide)) (fun _ hk => hk.2) (.slice Ao139 t599.length co139)) (fun _ hk => hk.2) (.slice Ao148 t602.length co148)) (fun _ hk => hk.2) (.slice Ao149 t605.length co149)) (fun _ h_ => h_.1)))) hb); replace HO593 := Aside0.mk (Kd.R_below (mR (by exact (Kd.R_mono (Kd.R_far (p := ⟨gb609, 2, none⟩) (Kd.R_far (p := ⟨gb609, 1, none⟩) (Kd.R_far (p := ⟨gb609, 0, none⟩) (Kd.R_types HO593.out BK609.out (by decide)) (fun _ hk => hk.2) (.slice Ao139 t599.length co139)) (fun _ hk => hk.2) (.slice Ao148 t602.length co148)) (fun _ hk => hk.2) (.slice Ao149 t605.length co149)) (fun _ h_ => h_.1)))) hb); replace HO596 := Aside0.mk (Kd.R_below (mR (by exact (Kd.R_mono (Kd.R_far (p := ⟨gb609, 2, none⟩) (Kd.R_far (p := ⟨gb609, 1, none⟩) (Kd.R_far (p := ⟨gb609, 0, none⟩) (Kd.R_types HO596.out BK609.out (by decide)) (fun _ hk => hk.2) (.slice Ao139 t599.length co139)) (fun _ hk => hk.2) (.slice Ao148 t602.length co148)) (fun _ hk => hk.2) (.slice Ao149 t605.length co149)) (fun _ h_ => h_.1)))) hb); replace HO601 := Aside0.mk (Kd.R_below (mR (by exact (Kd.R_mono (Kd.R_far (p := ⟨gb609, 2, none⟩) (Kd.R_far (p := ⟨gb609, 1, none⟩) (Kd.R_far (p := ⟨gb609, 0, none⟩) (Kd.R_types HO601.out BK609.out (by decide)) (fun _ hk => hk.2) (.slice Ao139 t599.length co139)) (fun _ hk => hk.2) (.slice Ao148 t602.length co148)) (fun _ hk => hk.2) (.slice Ao149 t605.length co149)) (fun _ h_ => h_.1)))) hb); replace HO604 := Aside0.mk (Kd.R_below (mR (by exact (Kd.R_mono (Kd.R_far (p := ⟨gb609, 2, none⟩) (Kd.R_far (p := ⟨gb609, 1, none⟩) (Kd.R_far (p := ⟨gb609, 0, none⟩) (Kd.R_types HO604.out BK609.out (by decide)) (fun _ hk => hk.2) (.slice Ao139 t599.length co139)) (fun _ hk => hk.2) (.slice Ao148 t602.length co148)) (fun _ hk => hk.2) (.slice Ao149 t605.length co149)) (fun _ h_ => h_.1)))) hb); replace HO607 := Aside0.mk (Kd.R_below (mR (by exact (Kd.R_mono (Kd.R_far (p := ⟨gb609, 2, none⟩) (Kd.R_far (p := ⟨gb609, 1, none⟩) (Kd.R_far (p := ⟨gb609, 0, none⟩) (Kd.R_types HO607.out BK609.out (by decide)) (fun _ hk => hk.2) (.slice Ao139 t599.length co139)) (fun _ hk => hk.2) (.slice Ao148 t602.length co148)) (fun _ hk => hk.2) (.slice Ao149 t605.length co149)) (fun _ h_ => h_.1)))) hb); replace BK559 := tB BK559 hb; replace BK560 := tB BK560 hb; replace BK561 := tB BK561 hb; replace BK562 := tB BK562 hb; replace BK576 := tB BK576 hb; replace BK587 := tB BK587 hb; replace BK598 := tB BK598 hb; replace BK609 := Aside0.mk (blk_below (g := gb609) (o := .cells #[.slice Ao139 t599.length co139, .slice Ao148 t602.length co148, .slice Ao149 t605.length co149] 26 (0, 0)) (by (with_reducible repeat (first | refine blk_drewN ?_ _ | refine blk_drew ?_ | refine blk_alloc ?_ _)); refine blk_put (cs := #[.slice Ao139 t599.length co139, .slice Ao148 t602.length co148, .slice none 0 0]) ?_ 2 _ rfl; (with_reducible repeat (first | refine blk_drewN ?_ _ | refine blk_drew ?_ | refine blk_alloc ?_ _)); refine blk_put (cs := #[.slice Ao139 t599.length co139, .slice none 0 0, .slice none 0 0]) ?_ 1 _ rfl; (with_reducible repeat (first | refine blk_drewN ?_ _ | refine blk_drew ?_ | refine blk_alloc ?_ _)); refine blk_put (cs := #[.slice none 0 0, .slice none 0 0, .slice none 0 0]) ?_ 0 _ rfl; (with_reducible repeat (first | refine blk_drewN ?_ _ | refine blk_drew ?_ | refine blk_alloc ?_ _)); exact BK609.out) hb); replace HB := tW HB hb; (try clear hb); (try clear hb2); (try clear hk); (try clear hi)))
        go_ret
        exact ⟨aE, sW HB⟩
       rw [if_neg c102] at H
       have c102b0 : (t608 == 0) = false := beq_eq_false_iff_ne.mpr c102
       have c102b1 : (t608 != 0) = true := bne_iff_ne.mpr c102
       exact absurd (Option.some.inj H) (by rw [HRT.out]; decide)
      rw [if_neg c101] at H
      have c101b0 : (t597 == 0) = false := beq_eq_false_iff_ne.mpr c101
      have c101b1 : (t597 != 0) = true := bne_iff_ne.mpr c101
      exact absurd (Option.some.inj H) (by rw [HRT.out]; decide)
     replace c100 := Bool.eq_false_iff.mpr c100
     subst c100
     have H1 : (some false) = some r := by rw [if_neg (show ¬ (false = true) by decide)] at H; exact H
     clear H
     have H := H1
     clear H1
     exact absurd (Option.some.inj H) (by rw [HRT.out]; decide)
end Go.Proofs.Ytbpfbdljcdcgnaa.Px
