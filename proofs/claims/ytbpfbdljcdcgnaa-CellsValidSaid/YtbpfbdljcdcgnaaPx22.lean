/- Walks of functions of this seat, written by a program of this workplace out of the translation. -/
import Derived.Test.YtbpfbdljcdcgnaaPx0
import Derived.Test.YtbpfbdljcdcgnaaPx10
namespace Go.Proofs.Ytbpfbdljcdcgnaa.Px
open Go.RowKit Go.Proofs.YtbpfbdljcdcgnaaW.PrintWords Go.Proofs.YtbpfbdljcdcgnaaW.PrintLast Go.Proofs.YtbpfbdljcdcgnaaW.PrintMore
attribute [local go_sem] max2_int min2_int max_two min_two max_three min_three max_four min_four   -- for this text's walks alone
set_option linter.unusedVariables false
set_option linter.unusedSimpArgs false

/-! ### slotmeshref12_Few: function 11 -/
def slotmeshref12_Few.f (l0_0 : List (S32)) (l0_1 : List (S34)) (l0_2 : List (S51)) : Option (Bool) := if (l0_0.length : Int) ≤ 70 then (if (l0_1.length : Int) ≤ 70 then (some (decide ((l0_2.length : Int) ≤ 70))) else (some false)) else (some false)
set_option maxHeartbeats 8000000 in
set_option maxRecDepth 100000 in
theorem slotmeshref12_Few.calls (A0_0 : Option Addr) (c0_0 : Nat) (l0_0 : List (S32)) (A0_1 : Option Addr) (c0_1 : Nat) (l0_1 : List (S34)) (A0_2 : Option Addr) (c0_2 : Nat) (l0_2 : List (S51)) (r : Bool) (w : World) (hr0_0 : Kd.C k32 w A0_0 l0_0.length l0_0) (hc0_0 : l0_0.length ≤ c0_0) (hr0_1 : Kd.C k34 w A0_1 l0_1.length l0_1) (hc0_1 : l0_1.length ≤ c0_1) (hr0_2 : Kd.C k51 w A0_2 l0_2.length l0_2) (hc0_2 : l0_2.length ≤ c0_2) (h : slotmeshref12_Few.f l0_0 l0_1 l0_2 = some r) :
  Calls Try.prog 11 #[.agg #[.slice A0_0 l0_0.length c0_0, .slice A0_1 l0_1.length c0_1, .slice A0_2 l0_2.length c0_2]] w fun e w' => e = .returned (.bool r) ∧ Below w.heap.size w w' := by
 have hu26 := Try.underlying26
 have HR0_0 := Aside0.mk hr0_0
 have HC0_0 := Aside0.mk hc0_0
 clear hr0_0 hc0_0
 have HR0_1 := Aside0.mk hr0_1
 have HC0_1 := Aside0.mk hc0_1
 clear hr0_1 hc0_1
 have HR0_2 := Aside0.mk hr0_2
 have HC0_2 := Aside0.mk hc0_2
 clear hr0_2 hc0_2
 have HB := Aside0.mk (Below.refl w.heap.size w)
 have H : (if (l0_0.length : Int) ≤ 70 then (if (l0_1.length : Int) ≤ 70 then (some (decide ((l0_2.length : Int) ≤ 70))) else (some false)) else (some false)) = some r := h
 clear h
 by_cases c2 : (l0_0.length : Int) ≤ 70
 ·rw [if_pos c2] at H
  have c2b0 : decide ((l0_0.length : Int) ≤ 70) = true := decide_eq_true c2
  have c2b1 : decide (l0_0.length ≤ 70) = true := decide_eq_true (by omega)
  clear c2
  by_cases c3 : (l0_1.length : Int) ≤ 70
  ·rw [if_pos c3] at H
   have c3b0 : decide ((l0_1.length : Int) ≤ 70) = true := decide_eq_true c3
   have c3b1 : decide (l0_1.length ≤ 70) = true := decide_eq_true (by omega)
   clear c3
   obtain rfl := Option.some.inj H
   go_enter Try.func11, Try.ntmps11
   go_wp2_with (first | ((with_reducible refine gate_dst (N := 1) rfl ?_); (try (refine gate_guard (by rfl) ?_; dsimp only)); refine bE (N := 1) (cs := #[.slice A0_0 l0_0.length c0_0, .slice A0_1 l0_1.length c0_1, .slice A0_2 l0_2.length c0_2]) (t := 26) ?_; intro gb249 hg w4 hbox hb; have BK249 := Aside0.mk (hbox); have GW249 := gW hg HB; have GE249 := GW249; replace HB := tW HB hb; clear hb hbox hg; have hcz5_0 : w4.cell? ⟨gb249, 0, none⟩ = some (.slice A0_0 l0_0.length c0_0) := bt BK249 0; have hcz5_1 : w4.cell? ⟨gb249, 1, none⟩ = some (.slice A0_1 l0_1.length c0_1) := bt BK249 1; have hcz5_2 : w4.cell? ⟨gb249, 2, none⟩ = some (.slice A0_2 l0_2.length c0_2) := bt BK249 2; have hfz5_0 := blk_frozen BK249.out 0; have hfz5_1 := blk_frozen BK249.out 1; have hfz5_2 := blk_frozen BK249.out 2))
   go_ret
   exact ⟨aE, sW HB⟩
  rw [if_neg c3] at H
  have c3b0 : decide ((l0_1.length : Int) ≤ 70) = false := decide_eq_false c3
  have c3b1 : decide (l0_1.length ≤ 70) = false := decide_eq_false (by omega)
  clear c3
  obtain rfl := Option.some.inj H
  go_enter Try.func11, Try.ntmps11
  go_wp2_with (first | ((with_reducible refine gate_dst (N := 1) rfl ?_); (try (refine gate_guard (by rfl) ?_; dsimp only)); refine bE (N := 1) (cs := #[.slice A0_0 l0_0.length c0_0, .slice A0_1 l0_1.length c0_1, .slice A0_2 l0_2.length c0_2]) (t := 26) ?_; intro gb249 hg w6 hbox hb; have BK249 := Aside0.mk (hbox); have GW249 := gW hg HB; have GE249 := GW249; replace HB := tW HB hb; clear hb hbox hg; have hcz7_0 : w6.cell? ⟨gb249, 0, none⟩ = some (.slice A0_0 l0_0.length c0_0) := bt BK249 0; have hcz7_1 : w6.cell? ⟨gb249, 1, none⟩ = some (.slice A0_1 l0_1.length c0_1) := bt BK249 1; have hcz7_2 : w6.cell? ⟨gb249, 2, none⟩ = some (.slice A0_2 l0_2.length c0_2) := bt BK249 2; have hfz7_0 := blk_frozen BK249.out 0; have hfz7_1 := blk_frozen BK249.out 1; have hfz7_2 := blk_frozen BK249.out 2))
  go_ret
  exact ⟨aE, sW HB⟩
 rw [if_neg c2] at H
 have c2b0 : decide ((l0_0.length : Int) ≤ 70) = false := decide_eq_false c2
 have c2b1 : decide (l0_0.length ≤ 70) = false := decide_eq_false (by omega)
 clear c2
 obtain rfl := Option.some.inj H
 go_enter Try.func11, Try.ntmps11
 go_wp2_with (first | ((with_reducible refine gate_dst (N := 1) rfl ?_); (try (refine gate_guard (by rfl) ?_; dsimp only)); refine bE (N := 1) (cs := #[.slice A0_0 l0_0.length c0_0, .slice A0_1 l0_1.length c0_1, .slice A0_2 l0_2.length c0_2]) (t := 26) ?_; intro gb249 hg w8 hbox hb; have BK249 := Aside0.mk (hbox); have GW249 := gW hg HB; have GE249 := GW249; replace HB := tW HB hb; clear hb hbox hg; have hcz9_0 : w8.cell? ⟨gb249, 0, none⟩ = some (.slice A0_0 l0_0.length c0_0) := bt BK249 0; have hcz9_1 : w8.cell? ⟨gb249, 1, none⟩ = some (.slice A0_1 l0_1.length c0_1) := bt BK249 1; have hcz9_2 : w8.cell? ⟨gb249, 2, none⟩ = some (.slice A0_2 l0_2.length c0_2) := bt BK249 2; have hfz9_0 := blk_frozen BK249.out 0; have hfz9_1 := blk_frozen BK249.out 1; have hfz9_2 := blk_frozen BK249.out 2))
 go_ret
 exact ⟨aE, sW HB⟩

/-! ### slotmeshref12_Cell: function 48 -/
def slotmeshref12_Cell.f (a0_0 : Int) (a0_1 : Int) (a1 : Int) (a2_0 : Int) (a2_1 : Int) : Option (Bool) := if a0_0 ≥ 0 then (if a0_0 < a2_1 then (if a0_1 ≥ 0 then (if a0_1 < 16 then (if a1 ≥ 0 then (some (decide (a1 < a2_0))) else (some false)) else (some false)) else (some false)) else (some false)) else (some false)
set_option maxHeartbeats 8000000 in
set_option maxRecDepth 100000 in
theorem slotmeshref12_Cell.calls (a0_0 : Int) (a0_1 : Int) (a1 : Int) (a2_0 : Int) (a2_1 : Int) (r : Bool) (w : World) (h : slotmeshref12_Cell.f a0_0 a0_1 a1 a2_0 a2_1 = some r) :
  Calls Try.prog 48 #[.agg #[.int .i64 a0_0, .int .i64 a0_1], .int .i64 a1, .agg #[.int .i64 a2_0, .int .i64 a2_1]] w fun e w' => e = .returned (.bool r) ∧ Below w.heap.size w w' := by
 have hu30 := Try.underlying30
 have hu28 := Try.underlying28
 have HB := Aside0.mk (Below.refl w.heap.size w)
 have H : (if a0_0 ≥ 0 then (if a0_0 < a2_1 then (if a0_1 ≥ 0 then (if a0_1 < 16 then (if a1 ≥ 0 then (some (decide (a1 < a2_0))) else (some false)) else (some false)) else (some false)) else (some false)) else (some false)) = some r := h
 clear h
 by_cases c4 : a0_0 ≥ 0
 ·rw [if_pos c4] at H
  have c4b0 : decide (0 ≤ a0_0) = true := decide_eq_true c4
  clear c4
  by_cases c5 : a0_0 < a2_1
  ·rw [if_pos c5] at H
   have c5b0 : decide (a0_0 < a2_1) = true := decide_eq_true c5
   clear c5
   by_cases c6 : a0_1 ≥ 0
   ·rw [if_pos c6] at H
    have c6b0 : decide (0 ≤ a0_1) = true := decide_eq_true c6
    clear c6
    by_cases c7 : a0_1 < 16
    ·rw [if_pos c7] at H
     have c7b0 : decide (a0_1 < 16) = true := decide_eq_true c7
     clear c7
     by_cases c8 : a1 ≥ 0
     ·rw [if_pos c8] at H
      have c8b0 : decide (0 ≤ a1) = true := decide_eq_true c8
      clear c8
      obtain rfl := Option.some.inj H
      go_enter Try.func48, Try.ntmps48
      go_wp2_with (first | ((with_reducible refine gate_dst (N := 3) rfl ?_); refine bE (N := 3) (cs := #[.int .i64 a0_0, .int .i64 a0_1]) (t := 30) ?_; intro gb250 hg w9 hbox hb; have BK250 := Aside0.mk (hbox); have GW250 := gW hg HB; have GE250 := GW250; replace HB := tW HB hb; clear hb hbox hg) | ((with_reducible refine gate_dst (N := 5) rfl ?_); refine bE (N := 5) (cs := #[.int .i64 a2_0, .int .i64 a2_1]) (t := 28) ?_; intro gb251 hg w10 hbox hb; have BK251 := Aside0.mk (hbox); have GW251 := gW hg HB; have GE251 := GW251; replace HB := tW HB hb; have NB250_251 := gL hg BK250; have NB251_250 := gG hg BK250; replace BK250 := tB BK250 hb; clear hb hbox hg; have hnb11 := NB250_251.out; have hnc11 := NB251_250.out; have hcz12_0 : w10.cell? ⟨gb250, 0, none⟩ = some (.int .i64 a0_0) := bt BK250 0; have hcz12_1 : w10.cell? ⟨gb250, 1, none⟩ = some (.int .i64 a0_1) := bt BK250 1; have hfz12_0 := blk_frozen BK250.out 0; have hfz12_1 := blk_frozen BK250.out 1; have hcz13_0 : w10.cell? ⟨gb251, 0, none⟩ = some (.int .i64 a2_0) := bt BK251 0; have hcz13_1 : w10.cell? ⟨gb251, 1, none⟩ = some (.int .i64 a2_1) := bt BK251 1; have hfz13_0 := blk_frozen BK251.out 0; have hfz13_1 := blk_frozen BK251.out 1))
      go_ret
      exact ⟨aE, sW HB⟩
     rw [if_neg c8] at H
     have c8b0 : decide (0 ≤ a1) = false := decide_eq_false c8
     clear c8
     obtain rfl := Option.some.inj H
     go_enter Try.func48, Try.ntmps48
     go_wp2_with (first | ((with_reducible refine gate_dst (N := 3) rfl ?_); refine bE (N := 3) (cs := #[.int .i64 a0_0, .int .i64 a0_1]) (t := 30) ?_; intro gb250 hg w14 hbox hb; have BK250 := Aside0.mk (hbox); have GW250 := gW hg HB; have GE250 := GW250; replace HB := tW HB hb; clear hb hbox hg) | ((with_reducible refine gate_dst (N := 5) rfl ?_); refine bE (N := 5) (cs := #[.int .i64 a2_0, .int .i64 a2_1]) (t := 28) ?_; intro gb251 hg w15 hbox hb; have BK251 := Aside0.mk (hbox); have GW251 := gW hg HB; have GE251 := GW251; replace HB := tW HB hb; have NB250_251 := gL hg BK250; have NB251_250 := gG hg BK250; replace BK250 := tB BK250 hb; clear hb hbox hg; have hnb16 := NB250_251.out; have hnc16 := NB251_250.out; have hcz17_0 : w15.cell? ⟨gb250, 0, none⟩ = some (.int .i64 a0_0) := bt BK250 0; have hcz17_1 : w15.cell? ⟨gb250, 1, none⟩ = some (.int .i64 a0_1) := bt BK250 1; have hfz17_0 := blk_frozen BK250.out 0; have hfz17_1 := blk_frozen BK250.out 1; have hcz18_0 : w15.cell? ⟨gb251, 0, none⟩ = some (.int .i64 a2_0) := bt BK251 0; have hcz18_1 : w15.cell? ⟨gb251, 1, none⟩ = some (.int .i64 a2_1) := bt BK251 1; have hfz18_0 := blk_frozen BK251.out 0; have hfz18_1 := blk_frozen BK251.out 1))
     go_ret
     exact ⟨aE, sW HB⟩
    rw [if_neg c7] at H
    have c7b0 : decide (a0_1 < 16) = false := decide_eq_false c7
    clear c7
    obtain rfl := Option.some.inj H
    go_enter Try.func48, Try.ntmps48
    go_wp2_with (first | ((with_reducible refine gate_dst (N := 3) rfl ?_); refine bE (N := 3) (cs := #[.int .i64 a0_0, .int .i64 a0_1]) (t := 30) ?_; intro gb250 hg w19 hbox hb; have BK250 := Aside0.mk (hbox); have GW250 := gW hg HB; have GE250 := GW250; replace HB := tW HB hb; clear hb hbox hg) | ((with_reducible refine gate_dst (N := 5) rfl ?_); refine bE (N := 5) (cs := #[.int .i64 a2_0, .int .i64 a2_1]) (t := 28) ?_; intro gb251 hg w20 hbox hb; have BK251 := Aside0.mk (hbox); have GW251 := gW hg HB; have GE251 := GW251; replace HB := tW HB hb; have NB250_251 := gL hg BK250; have NB251_250 := gG hg BK250; replace BK250 := tB BK250 hb; clear hb hbox hg; have hnb21 := NB250_251.out; have hnc21 := NB251_250.out; have hcz22_0 : w20.cell? ⟨gb250, 0, none⟩ = some (.int .i64 a0_0) := bt BK250 0; have hcz22_1 : w20.cell? ⟨gb250, 1, none⟩ = some (.int .i64 a0_1) := bt BK250 1; have hfz22_0 := blk_frozen BK250.out 0; have hfz22_1 := blk_frozen BK250.out 1; have hcz23_0 : w20.cell? ⟨gb251, 0, none⟩ = some (.int .i64 a2_0) := bt BK251 0; have hcz23_1 : w20.cell? ⟨gb251, 1, none⟩ = some (.int .i64 a2_1) := bt BK251 1; have hfz23_0 := blk_frozen BK251.out 0; have hfz23_1 := blk_frozen BK251.out 1))
    go_ret
    exact ⟨aE, sW HB⟩
   rw [if_neg c6] at H
   have c6b0 : decide (0 ≤ a0_1) = false := decide_eq_false c6
   clear c6
   obtain rfl := Option.some.inj H
   go_enter Try.func48, Try.ntmps48
   go_wp2_with (first | ((with_reducible refine gate_dst (N := 3) rfl ?_); refine bE (N := 3) (cs := #[.int .i64 a0_0, .int .i64 a0_1]) (t := 30) ?_; intro gb250 hg w24 hbox hb; have BK250 := Aside0.mk (hbox); have GW250 := gW hg HB; have GE250 := GW250; replace HB := tW HB hb; clear hb hbox hg) | ((with_reducible refine gate_dst (N := 5) rfl ?_); refine bE (N := 5) (cs := #[.int .i64 a2_0, .int .i64 a2_1]) (t := 28) ?_; intro gb251 hg w25 hbox hb; have BK251 := Aside0.mk (hbox); have GW251 := gW hg HB; have GE251 := GW251; replace HB := tW HB hb; have NB250_251 := gL hg BK250; have NB251_250 := gG hg BK250; replace BK250 := tB BK250 hb; clear hb hbox hg; have hnb26 := NB250_251.out; have hnc26 := NB251_250.out; have hcz27_0 : w25.cell? ⟨gb250, 0, none⟩ = some (.int .i64 a0_0) := bt BK250 0; have hcz27_1 : w25.cell? ⟨gb250, 1, none⟩ = some (.int .i64 a0_1) := bt BK250 1; have hfz27_0 := blk_frozen BK250.out 0; have hfz27_1 := blk_frozen BK250.out 1; have hcz28_0 : w25.cell? ⟨gb251, 0, none⟩ = some (.int .i64 a2_0) := bt BK251 0; have hcz28_1 : w25.cell? ⟨gb251, 1, none⟩ = some (.int .i64 a2_1) := bt BK251 1; have hfz28_0 := blk_frozen BK251.out 0; have hfz28_1 := blk_frozen BK251.out 1))
   go_ret
   exact ⟨aE, sW HB⟩
  rw [if_neg c5] at H
  have c5b0 : decide (a0_0 < a2_1) = false := decide_eq_false c5
  clear c5
  obtain rfl := Option.some.inj H
  go_enter Try.func48, Try.ntmps48
  go_wp2_with (first | ((with_reducible refine gate_dst (N := 3) rfl ?_); refine bE (N := 3) (cs := #[.int .i64 a0_0, .int .i64 a0_1]) (t := 30) ?_; intro gb250 hg w29 hbox hb; have BK250 := Aside0.mk (hbox); have GW250 := gW hg HB; have GE250 := GW250; replace HB := tW HB hb; clear hb hbox hg) | ((with_reducible refine gate_dst (N := 5) rfl ?_); refine bE (N := 5) (cs := #[.int .i64 a2_0, .int .i64 a2_1]) (t := 28) ?_; intro gb251 hg w30 hbox hb; have BK251 := Aside0.mk (hbox); have GW251 := gW hg HB; have GE251 := GW251; replace HB := tW HB hb; have NB250_251 := gL hg BK250; have NB251_250 := gG hg BK250; replace BK250 := tB BK250 hb; clear hb hbox hg; have hnb31 := NB250_251.out; have hnc31 := NB251_250.out; have hcz32_0 : w30.cell? ⟨gb250, 0, none⟩ = some (.int .i64 a0_0) := bt BK250 0; have hcz32_1 : w30.cell? ⟨gb250, 1, none⟩ = some (.int .i64 a0_1) := bt BK250 1; have hfz32_0 := blk_frozen BK250.out 0; have hfz32_1 := blk_frozen BK250.out 1; have hcz33_0 : w30.cell? ⟨gb251, 0, none⟩ = some (.int .i64 a2_0) := bt BK251 0; have hcz33_1 : w30.cell? ⟨gb251, 1, none⟩ = some (.int .i64 a2_1) := bt BK251 1; have hfz33_0 := blk_frozen BK251.out 0; have hfz33_1 := blk_frozen BK251.out 1))
  go_ret
  exact ⟨aE, sW HB⟩
 rw [if_neg c4] at H
 have c4b0 : decide (0 ≤ a0_0) = false := decide_eq_false c4
 clear c4
 obtain rfl := Option.some.inj H
 go_enter Try.func48, Try.ntmps48
 go_wp2_with (first | ((with_reducible refine gate_dst (N := 3) rfl ?_); refine bE (N := 3) (cs := #[.int .i64 a0_0, .int .i64 a0_1]) (t := 30) ?_; intro gb250 hg w34 hbox hb; have BK250 := Aside0.mk (hbox); have GW250 := gW hg HB; have GE250 := GW250; replace HB := tW HB hb; clear hb hbox hg) | ((with_reducible refine gate_dst (N := 5) rfl ?_); refine bE (N := 5) (cs := #[.int .i64 a2_0, .int .i64 a2_1]) (t := 28) ?_; intro gb251 hg w35 hbox hb; have BK251 := Aside0.mk (hbox); have GW251 := gW hg HB; have GE251 := GW251; replace HB := tW HB hb; have NB250_251 := gL hg BK250; have NB251_250 := gG hg BK250; replace BK250 := tB BK250 hb; clear hb hbox hg; have hnb36 := NB250_251.out; have hnc36 := NB251_250.out; have hcz37_0 : w35.cell? ⟨gb250, 0, none⟩ = some (.int .i64 a0_0) := bt BK250 0; have hcz37_1 : w35.cell? ⟨gb250, 1, none⟩ = some (.int .i64 a0_1) := bt BK250 1; have hfz37_0 := blk_frozen BK250.out 0; have hfz37_1 := blk_frozen BK250.out 1))
 go_ret
 exact ⟨aE, sW HB⟩

/-! ### slotmeshref12_Use: function 26 -/
def slotmeshref12_Use.f (a0_0 : Int) (a0_1 : Int) (a0_2 : Int) (a0_3 : Int) (a1_0 : Int) (a1_1 : Int) : Option (Bool) := (slotmeshref12_Cell.f a0_0 a0_1 a0_2 a1_0 a1_1).bind fun t254 => (if t254 = true then (if a0_3 ≥ 0 then (some (decide (a0_3 ≤ 1000000000))) else (some false)) else (some false))
set_option maxHeartbeats 8000000 in
set_option maxRecDepth 100000 in
theorem slotmeshref12_Use.calls (a0_0 : Int) (a0_1 : Int) (a0_2 : Int) (a0_3 : Int) (a1_0 : Int) (a1_1 : Int) (r : Bool) (w : World) (h : slotmeshref12_Use.f a0_0 a0_1 a0_2 a0_3 a1_0 a1_1 = some r) :
  Calls Try.prog 26 #[.agg #[.int .i64 a0_0, .int .i64 a0_1, .int .i64 a0_2, .int .i64 a0_3], .agg #[.int .i64 a1_0, .int .i64 a1_1]] w fun e w' => e = .returned (.bool r) ∧ Below w.heap.size w w' := by
 have hu32 := Try.underlying32
 have hu28 := Try.underlying28
 have hu30 := Try.underlying30
 have HB := Aside0.mk (Below.refl w.heap.size w)
 have H : ((slotmeshref12_Cell.f a0_0 a0_1 a0_2 a1_0 a1_1).bind fun t254 => (if t254 = true then (if a0_3 ≥ 0 then (some (decide (a0_3 ≤ 1000000000))) else (some false)) else (some false))) = some r := h
 clear h
 replace H := Option.bind_eq_some_iff.mp H
 obtain ⟨t254, A30, H⟩ := H
 replace H : (if t254 = true then (if a0_3 ≥ 0 then (some (decide (a0_3 ≤ 1000000000))) else (some false)) else (some false)) = some r := H
 have A3 := Aside0.mk A30
 clear A30
 by_cases c4 : t254 = true
 ·subst c4
  have H1 : (if a0_3 ≥ 0 then (some (decide (a0_3 ≤ 1000000000))) else (some false)) = some r := by rw [if_pos rfl] at H; exact H
  clear H
  have H := H1
  clear H1
  by_cases c5 : a0_3 ≥ 0
  ·rw [if_pos c5] at H
   have c5b0 : decide (0 ≤ a0_3) = true := decide_eq_true c5
   clear c5
   obtain rfl := Option.some.inj H
   go_enter Try.func26, Try.ntmps26
   go_wp2_with (first | ((with_reducible refine gate_dst (N := 2) rfl ?_); refine bE (N := 2) (cs := #[.int .i64 a0_0, .int .i64 a0_1, .int .i64 a0_2, .int .i64 a0_3]) (t := 32) ?_; intro gb252 hg w6 hbox hb; have BK252 := Aside0.mk (hbox); have GW252 := gW hg HB; have GE252 := GW252; replace HB := tW HB hb; clear hb hbox hg) | ((with_reducible refine gate_dst (N := 3) rfl ?_); refine bE (N := 3) (cs := #[.int .i64 a1_0, .int .i64 a1_1]) (t := 28) ?_; intro gb253 hg w7 hbox hb; have BK253 := Aside0.mk (hbox); have GW253 := gW hg HB; have GE253 := GW253; replace HB := tW HB hb; have NB252_253 := gL hg BK252; have NB253_252 := gG hg BK252; replace BK252 := tB BK252 hb; clear hb hbox hg; have hnb8 := NB252_253.out; have hnc8 := NB253_252.out; have hcz9_0 : w7.cell? ⟨gb252, 0, none⟩ = some (.int .i64 a0_0) := bt BK252 0; have hcz9_1 : w7.cell? ⟨gb252, 1, none⟩ = some (.int .i64 a0_1) := bt BK252 1; have hcz9_2 : w7.cell? ⟨gb252, 2, none⟩ = some (.int .i64 a0_2) := bt BK252 2; have hcz9_3 : w7.cell? ⟨gb252, 3, none⟩ = some (.int .i64 a0_3) := bt BK252 3; have hfz9_0 := blk_frozen BK252.out 0; have hfz9_1 := blk_frozen BK252.out 1; have hfz9_2 := blk_frozen BK252.out 2; have hfz9_3 := blk_frozen BK252.out 3; have hcz10_0 : w7.cell? ⟨gb253, 0, none⟩ = some (.int .i64 a1_0) := bt BK253 0; have hcz10_1 : w7.cell? ⟨gb253, 1, none⟩ = some (.int .i64 a1_1) := bt BK253 1; have hfz10_0 := blk_frozen BK253.out 0; have hfz10_1 := blk_frozen BK253.out 1) | ((with_reducible refine gate_callee (f := 48) rfl ?_); refine gC (some 10) Try.func48 #[.agg #[.int .i64 a0_0, .int .i64 a0_1], .int .i64 a0_2, .agg #[.int .i64 a1_0, .int .i64 a1_1]] ?_; (with_reducible refine (slotmeshref12_Cell.calls a0_0 a0_1 a0_2 a1_0 a1_1 true _ A3.out).mono ?_); rintro e w11 ⟨rfl, hb⟩; refine ⟨_, rfl, ?_⟩; replace BK252 := tB BK252 hb; replace BK253 := tB BK253 hb; replace HB := tW HB hb; (try clear hb); (try clear hb2); (try clear hk); (try clear hi); have hcz12_0 : w11.cell? ⟨gb252, 0, none⟩ = some (.int .i64 a0_0) := bt BK252 0; have hcz12_1 : w11.cell? ⟨gb252, 1, none⟩ = some (.int .i64 a0_1) := bt BK252 1; have hcz12_2 : w11.cell? ⟨gb252, 2, none⟩ = some (.int .i64 a0_2) := bt BK252 2; have hcz12_3 : w11.cell? ⟨gb252, 3, none⟩ = some (.int .i64 a0_3) := bt BK252 3; have hfz12_0 := blk_frozen BK252.out 0; have hfz12_1 := blk_frozen BK252.out 1; have hfz12_2 := blk_frozen BK252.out 2; have hfz12_3 := blk_frozen BK252.out 3))
   go_ret
   exact ⟨aE, sW HB⟩
  rw [if_neg c5] at H
  have c5b0 : decide (0 ≤ a0_3) = false := decide_eq_false c5
  clear c5
  obtain rfl := Option.some.inj H
  go_enter Try.func26, Try.ntmps26
  go_wp2_with (first | ((with_reducible refine gate_dst (N := 2) rfl ?_); refine bE (N := 2) (cs := #[.int .i64 a0_0, .int .i64 a0_1, .int .i64 a0_2, .int .i64 a0_3]) (t := 32) ?_; intro gb252 hg w13 hbox hb; have BK252 := Aside0.mk (hbox); have GW252 := gW hg HB; have GE252 := GW252; replace HB := tW HB hb; clear hb hbox hg) | ((with_reducible refine gate_dst (N := 3) rfl ?_); refine bE (N := 3) (cs := #[.int .i64 a1_0, .int .i64 a1_1]) (t := 28) ?_; intro gb253 hg w14 hbox hb; have BK253 := Aside0.mk (hbox); have GW253 := gW hg HB; have GE253 := GW253; replace HB := tW HB hb; have NB252_253 := gL hg BK252; have NB253_252 := gG hg BK252; replace BK252 := tB BK252 hb; clear hb hbox hg; have hnb15 := NB252_253.out; have hnc15 := NB253_252.out; have hcz16_0 : w14.cell? ⟨gb252, 0, none⟩ = some (.int .i64 a0_0) := bt BK252 0; have hcz16_1 : w14.cell? ⟨gb252, 1, none⟩ = some (.int .i64 a0_1) := bt BK252 1; have hcz16_2 : w14.cell? ⟨gb252, 2, none⟩ = some (.int .i64 a0_2) := bt BK252 2; have hcz16_3 : w14.cell? ⟨gb252, 3, none⟩ = some (.int .i64 a0_3) := bt BK252 3; have hfz16_0 := blk_frozen BK252.out 0; have hfz16_1 := blk_frozen BK252.out 1; have hfz16_2 := blk_frozen BK252.out 2; have hfz16_3 := blk_frozen BK252.out 3; have hcz17_0 : w14.cell? ⟨gb253, 0, none⟩ = some (.int .i64 a1_0) := bt BK253 0; have hcz17_1 : w14.cell? ⟨gb253, 1, none⟩ = some (.int .i64 a1_1) := bt BK253 1; have hfz17_0 := blk_frozen BK253.out 0; have hfz17_1 := blk_frozen BK253.out 1) | ((with_reducible refine gate_callee (f := 48) rfl ?_); refine gC (some 10) Try.func48 #[.agg #[.int .i64 a0_0, .int .i64 a0_1], .int .i64 a0_2, .agg #[.int .i64 a1_0, .int .i64 a1_1]] ?_; (with_reducible refine (slotmeshref12_Cell.calls a0_0 a0_1 a0_2 a1_0 a1_1 true _ A3.out).mono ?_); rintro e w18 ⟨rfl, hb⟩; refine ⟨_, rfl, ?_⟩; replace BK252 := tB BK252 hb; replace BK253 := tB BK253 hb; replace HB := tW HB hb; (try clear hb); (try clear hb2); (try clear hk); (try clear hi); have hcz19_0 : w18.cell? ⟨gb252, 0, none⟩ = some (.int .i64 a0_0) := bt BK252 0; have hcz19_1 : w18.cell? ⟨gb252, 1, none⟩ = some (.int .i64 a0_1) := bt BK252 1; have hcz19_2 : w18.cell? ⟨gb252, 2, none⟩ = some (.int .i64 a0_2) := bt BK252 2; have hcz19_3 : w18.cell? ⟨gb252, 3, none⟩ = some (.int .i64 a0_3) := bt BK252 3; have hfz19_0 := blk_frozen BK252.out 0; have hfz19_1 := blk_frozen BK252.out 1; have hfz19_2 := blk_frozen BK252.out 2; have hfz19_3 := blk_frozen BK252.out 3))
  go_ret
  exact ⟨aE, sW HB⟩
 replace c4 := Bool.eq_false_iff.mpr c4
 subst c4
 have H1 : (some false) = some r := by rw [if_neg (show ¬ (false = true) by decide)] at H; exact H
 clear H
 have H := H1
 clear H1
 obtain rfl := Option.some.inj H
 go_enter Try.func26, Try.ntmps26
 go_wp2_with (first | ((with_reducible refine gate_dst (N := 2) rfl ?_); refine bE (N := 2) (cs := #[.int .i64 a0_0, .int .i64 a0_1, .int .i64 a0_2, .int .i64 a0_3]) (t := 32) ?_; intro gb252 hg w20 hbox hb; have BK252 := Aside0.mk (hbox); have GW252 := gW hg HB; have GE252 := GW252; replace HB := tW HB hb; clear hb hbox hg) | ((with_reducible refine gate_dst (N := 3) rfl ?_); refine bE (N := 3) (cs := #[.int .i64 a1_0, .int .i64 a1_1]) (t := 28) ?_; intro gb253 hg w21 hbox hb; have BK253 := Aside0.mk (hbox); have GW253 := gW hg HB; have GE253 := GW253; replace HB := tW HB hb; have NB252_253 := gL hg BK252; have NB253_252 := gG hg BK252; replace BK252 := tB BK252 hb; clear hb hbox hg; have hnb22 := NB252_253.out; have hnc22 := NB253_252.out; have hcz23_0 : w21.cell? ⟨gb252, 0, none⟩ = some (.int .i64 a0_0) := bt BK252 0; have hcz23_1 : w21.cell? ⟨gb252, 1, none⟩ = some (.int .i64 a0_1) := bt BK252 1; have hcz23_2 : w21.cell? ⟨gb252, 2, none⟩ = some (.int .i64 a0_2) := bt BK252 2; have hcz23_3 : w21.cell? ⟨gb252, 3, none⟩ = some (.int .i64 a0_3) := bt BK252 3; have hfz23_0 := blk_frozen BK252.out 0; have hfz23_1 := blk_frozen BK252.out 1; have hfz23_2 := blk_frozen BK252.out 2; have hfz23_3 := blk_frozen BK252.out 3; have hcz24_0 : w21.cell? ⟨gb253, 0, none⟩ = some (.int .i64 a1_0) := bt BK253 0; have hcz24_1 : w21.cell? ⟨gb253, 1, none⟩ = some (.int .i64 a1_1) := bt BK253 1; have hfz24_0 := blk_frozen BK253.out 0; have hfz24_1 := blk_frozen BK253.out 1) | ((with_reducible refine gate_callee (f := 48) rfl ?_); refine gC (some 10) Try.func48 #[.agg #[.int .i64 a0_0, .int .i64 a0_1], .int .i64 a0_2, .agg #[.int .i64 a1_0, .int .i64 a1_1]] ?_; (with_reducible refine (slotmeshref12_Cell.calls a0_0 a0_1 a0_2 a1_0 a1_1 false _ A3.out).mono ?_); rintro e w25 ⟨rfl, hb⟩; refine ⟨_, rfl, ?_⟩; replace BK252 := tB BK252 hb; replace BK253 := tB BK253 hb; replace HB := tW HB hb; (try clear hb); (try clear hb2); (try clear hk); (try clear hi)))
 go_ret
 exact ⟨aE, sW HB⟩

/-! ### slotmeshref12_Grant: function 39 -/
def slotmeshref12_Grant.f (a0_0 : Int) (a0_1 : Int) (a0_2 : Int) (a0_3 : Int) (a0_4 : Int) (a1_0 : Int) (a1_1 : Int) : Option (Bool) := (slotmeshref12_Cell.f a0_0 a0_1 a0_2 a1_0 a1_1).bind fun t257 => (if t257 = true then (if a0_3 ≥ 0 then (if a0_3 ≤ a0_4 then (some (decide (a0_4 ≤ 1000000000))) else (some false)) else (some false)) else (some false))
set_option maxHeartbeats 8000000 in
set_option maxRecDepth 100000 in
theorem slotmeshref12_Grant.calls (a0_0 : Int) (a0_1 : Int) (a0_2 : Int) (a0_3 : Int) (a0_4 : Int) (a1_0 : Int) (a1_1 : Int) (r : Bool) (w : World) (h : slotmeshref12_Grant.f a0_0 a0_1 a0_2 a0_3 a0_4 a1_0 a1_1 = some r) :
  Calls Try.prog 39 #[.agg #[.int .i64 a0_0, .int .i64 a0_1, .int .i64 a0_2, .int .i64 a0_3, .int .i64 a0_4], .agg #[.int .i64 a1_0, .int .i64 a1_1]] w fun e w' => e = .returned (.bool r) ∧ Below w.heap.size w w' := by
 have hu34 := Try.underlying34
 have hu28 := Try.underlying28
 have hu30 := Try.underlying30
 have HB := Aside0.mk (Below.refl w.heap.size w)
 have H : ((slotmeshref12_Cell.f a0_0 a0_1 a0_2 a1_0 a1_1).bind fun t257 => (if t257 = true then (if a0_3 ≥ 0 then (if a0_3 ≤ a0_4 then (some (decide (a0_4 ≤ 1000000000))) else (some false)) else (some false)) else (some false))) = some r := h
 clear h
 replace H := Option.bind_eq_some_iff.mp H
 obtain ⟨t257, A30, H⟩ := H
 replace H : (if t257 = true then (if a0_3 ≥ 0 then (if a0_3 ≤ a0_4 then (some (decide (a0_4 ≤ 1000000000))) else (some false)) else (some false)) else (some false)) = some r := H
 have A3 := Aside0.mk A30
 clear A30
 by_cases c4 : t257 = true
 ·subst c4
  have H1 : (if a0_3 ≥ 0 then (if a0_3 ≤ a0_4 then (some (decide (a0_4 ≤ 1000000000))) else (some false)) else (some false)) = some r := by rw [if_pos rfl] at H; exact H
  clear H
  have H := H1
  clear H1
  by_cases c5 : a0_3 ≥ 0
  ·rw [if_pos c5] at H
   have c5b0 : decide (0 ≤ a0_3) = true := decide_eq_true c5
   clear c5
   by_cases c6 : a0_3 ≤ a0_4
   ·rw [if_pos c6] at H
    have c6b0 : decide (a0_3 ≤ a0_4) = true := decide_eq_true c6
    clear c6
    obtain rfl := Option.some.inj H
    go_enter Try.func39, Try.ntmps39
    go_wp2_with (first | ((with_reducible refine gate_dst (N := 2) rfl ?_); refine bE (N := 2) (cs := #[.int .i64 a0_0, .int .i64 a0_1, .int .i64 a0_2, .int .i64 a0_3, .int .i64 a0_4]) (t := 34) ?_; intro gb255 hg w7 hbox hb; have BK255 := Aside0.mk (hbox); have GW255 := gW hg HB; have GE255 := GW255; replace HB := tW HB hb; clear hb hbox hg) | ((with_reducible refine gate_dst (N := 3) rfl ?_); refine bE (N := 3) (cs := #[.int .i64 a1_0, .int .i64 a1_1]) (t := 28) ?_; intro gb256 hg w8 hbox hb; have BK256 := Aside0.mk (hbox); have GW256 := gW hg HB; have GE256 := GW256; replace HB := tW HB hb; have NB255_256 := gL hg BK255; have NB256_255 := gG hg BK255; replace BK255 := tB BK255 hb; clear hb hbox hg; have hnb9 := NB255_256.out; have hnc9 := NB256_255.out; have hcz10_0 : w8.cell? ⟨gb255, 0, none⟩ = some (.int .i64 a0_0) := bt BK255 0; have hcz10_1 : w8.cell? ⟨gb255, 1, none⟩ = some (.int .i64 a0_1) := bt BK255 1; have hcz10_2 : w8.cell? ⟨gb255, 2, none⟩ = some (.int .i64 a0_2) := bt BK255 2; have hcz10_3 : w8.cell? ⟨gb255, 3, none⟩ = some (.int .i64 a0_3) := bt BK255 3; have hcz10_4 : w8.cell? ⟨gb255, 4, none⟩ = some (.int .i64 a0_4) := bt BK255 4; have hfz10_0 := blk_frozen BK255.out 0; have hfz10_1 := blk_frozen BK255.out 1; have hfz10_2 := blk_frozen BK255.out 2; have hfz10_3 := blk_frozen BK255.out 3; have hfz10_4 := blk_frozen BK255.out 4; have hcz11_0 : w8.cell? ⟨gb256, 0, none⟩ = some (.int .i64 a1_0) := bt BK256 0; have hcz11_1 : w8.cell? ⟨gb256, 1, none⟩ = some (.int .i64 a1_1) := bt BK256 1; have hfz11_0 := blk_frozen BK256.out 0; have hfz11_1 := blk_frozen BK256.out 1) | ((with_reducible refine gate_callee (f := 48) rfl ?_); refine gC (some 10) Try.func48 #[.agg #[.int .i64 a0_0, .int .i64 a0_1], .int .i64 a0_2, .agg #[.int .i64 a1_0, .int .i64 a1_1]] ?_; (with_reducible refine (slotmeshref12_Cell.calls a0_0 a0_1 a0_2 a1_0 a1_1 true _ A3.out).mono ?_); rintro e w12 ⟨rfl, hb⟩; refine ⟨_, rfl, ?_⟩; replace BK255 := tB BK255 hb; replace BK256 := tB BK256 hb; replace HB := tW HB hb; (try clear hb); (try clear hb2); (try clear hk); (try clear hi); have hcz13_0 : w12.cell? ⟨gb255, 0, none⟩ = some (.int .i64 a0_0) := bt BK255 0; have hcz13_1 : w12.cell? ⟨gb255, 1, none⟩ = some (.int .i64 a0_1) := bt BK255 1; have hcz13_2 : w12.cell? ⟨gb255, 2, none⟩ = some (.int .i64 a0_2) := bt BK255 2; have hcz13_3 : w12.cell? ⟨gb255, 3, none⟩ = some (.int .i64 a0_3) := bt BK255 3; have hcz13_4 : w12.cell? ⟨gb255, 4, none⟩ = some (.int .i64 a0_4) := bt BK255 4; have hfz13_0 := blk_frozen BK255.out 0; have hfz13_1 := blk_frozen BK255.out 1; have hfz13_2 := blk_frozen BK255.out 2; have hfz13_3 := blk_frozen BK255.out 3; have hfz13_4 := blk_frozen BK255.out 4))
    go_ret
    exact ⟨aE, sW HB⟩
   rw [if_neg c6] at H
   have c6b0 : decide (a0_3 ≤ a0_4) = false := decide_eq_false c6
   clear c6
   obtain rfl := Option.some.inj H
   go_enter Try.func39, Try.ntmps39
   go_wp2_with (first | ((with_reducible refine gate_dst (N := 2) rfl ?_); refine bE (N := 2) (cs := #[.int .i64 a0_0, .int .i64 a0_1, .int .i64 a0_2, .int .i64 a0_3, .int .i64 a0_4]) (t := 34) ?_; intro gb255 hg w14 hbox hb; have BK255 := Aside0.mk (hbox); have GW255 := gW hg HB; have GE255 := GW255; replace HB := tW HB hb; clear hb hbox hg) | ((with_reducible refine gate_dst (N := 3) rfl ?_); refine bE (N := 3) (cs := #[.int .i64 a1_0, .int .i64 a1_1]) (t := 28) ?_; intro gb256 hg w15 hbox hb; have BK256 := Aside0.mk (hbox); have GW256 := gW hg HB; have GE256 := GW256; replace HB := tW HB hb; have NB255_256 := gL hg BK255; have NB256_255 := gG hg BK255; replace BK255 := tB BK255 hb; clear hb hbox hg; have hnb16 := NB255_256.out; have hnc16 := NB256_255.out; have hcz17_0 : w15.cell? ⟨gb255, 0, none⟩ = some (.int .i64 a0_0) := bt BK255 0; have hcz17_1 : w15.cell? ⟨gb255, 1, none⟩ = some (.int .i64 a0_1) := bt BK255 1; have hcz17_2 : w15.cell? ⟨gb255, 2, none⟩ = some (.int .i64 a0_2) := bt BK255 2; have hcz17_3 : w15.cell? ⟨gb255, 3, none⟩ = some (.int .i64 a0_3) := bt BK255 3; have hcz17_4 : w15.cell? ⟨gb255, 4, none⟩ = some (.int .i64 a0_4) := bt BK255 4; have hfz17_0 := blk_frozen BK255.out 0; have hfz17_1 := blk_frozen BK255.out 1; have hfz17_2 := blk_frozen BK255.out 2; have hfz17_3 := blk_frozen BK255.out 3; have hfz17_4 := blk_frozen BK255.out 4; have hcz18_0 : w15.cell? ⟨gb256, 0, none⟩ = some (.int .i64 a1_0) := bt BK256 0; have hcz18_1 : w15.cell? ⟨gb256, 1, none⟩ = some (.int .i64 a1_1) := bt BK256 1; have hfz18_0 := blk_frozen BK256.out 0; have hfz18_1 := blk_frozen BK256.out 1) | ((with_reducible refine gate_callee (f := 48) rfl ?_); refine gC (some 10) Try.func48 #[.agg #[.int .i64 a0_0, .int .i64 a0_1], .int .i64 a0_2, .agg #[.int .i64 a1_0, .int .i64 a1_1]] ?_; (with_reducible refine (slotmeshref12_Cell.calls a0_0 a0_1 a0_2 a1_0 a1_1 true _ A3.out).mono ?_); rintro e w19 ⟨rfl, hb⟩; refine ⟨_, rfl, ?_⟩; replace BK255 := tB BK255 hb; replace BK256 := tB BK256 hb; replace HB := tW HB hb; (try clear hb); (try clear hb2); (try clear hk); (try clear hi); have hcz20_0 : w19.cell? ⟨gb255, 0, none⟩ = some (.int .i64 a0_0) := bt BK255 0; have hcz20_1 : w19.cell? ⟨gb255, 1, none⟩ = some (.int .i64 a0_1) := bt BK255 1; have hcz20_2 : w19.cell? ⟨gb255, 2, none⟩ = some (.int .i64 a0_2) := bt BK255 2; have hcz20_3 : w19.cell? ⟨gb255, 3, none⟩ = some (.int .i64 a0_3) := bt BK255 3; have hcz20_4 : w19.cell? ⟨gb255, 4, none⟩ = some (.int .i64 a0_4) := bt BK255 4; have hfz20_0 := blk_frozen BK255.out 0; have hfz20_1 := blk_frozen BK255.out 1; have hfz20_2 := blk_frozen BK255.out 2; have hfz20_3 := blk_frozen BK255.out 3; have hfz20_4 := blk_frozen BK255.out 4))
   go_ret
   exact ⟨aE, sW HB⟩
  rw [if_neg c5] at H
  have c5b0 : decide (0 ≤ a0_3) = false := decide_eq_false c5
  clear c5
  obtain rfl := Option.some.inj H
  go_enter Try.func39, Try.ntmps39
  go_wp2_with (first | ((with_reducible refine gate_dst (N := 2) rfl ?_); refine bE (N := 2) (cs := #[.int .i64 a0_0, .int .i64 a0_1, .int .i64 a0_2, .int .i64 a0_3, .int .i64 a0_4]) (t := 34) ?_; intro gb255 hg w21 hbox hb; have BK255 := Aside0.mk (hbox); have GW255 := gW hg HB; have GE255 := GW255; replace HB := tW HB hb; clear hb hbox hg) | ((with_reducible refine gate_dst (N := 3) rfl ?_); refine bE (N := 3) (cs := #[.int .i64 a1_0, .int .i64 a1_1]) (t := 28) ?_; intro gb256 hg w22 hbox hb; have BK256 := Aside0.mk (hbox); have GW256 := gW hg HB; have GE256 := GW256; replace HB := tW HB hb; have NB255_256 := gL hg BK255; have NB256_255 := gG hg BK255; replace BK255 := tB BK255 hb; clear hb hbox hg; have hnb23 := NB255_256.out; have hnc23 := NB256_255.out; have hcz24_0 : w22.cell? ⟨gb255, 0, none⟩ = some (.int .i64 a0_0) := bt BK255 0; have hcz24_1 : w22.cell? ⟨gb255, 1, none⟩ = some (.int .i64 a0_1) := bt BK255 1; have hcz24_2 : w22.cell? ⟨gb255, 2, none⟩ = some (.int .i64 a0_2) := bt BK255 2; have hcz24_3 : w22.cell? ⟨gb255, 3, none⟩ = some (.int .i64 a0_3) := bt BK255 3; have hcz24_4 : w22.cell? ⟨gb255, 4, none⟩ = some (.int .i64 a0_4) := bt BK255 4; have hfz24_0 := blk_frozen BK255.out 0; have hfz24_1 := blk_frozen BK255.out 1; have hfz24_2 := blk_frozen BK255.out 2; have hfz24_3 := blk_frozen BK255.out 3; have hfz24_4 := blk_frozen BK255.out 4; have hcz25_0 : w22.cell? ⟨gb256, 0, none⟩ = some (.int .i64 a1_0) := bt BK256 0; have hcz25_1 : w22.cell? ⟨gb256, 1, none⟩ = some (.int .i64 a1_1) := bt BK256 1; have hfz25_0 := blk_frozen BK256.out 0; have hfz25_1 := blk_frozen BK256.out 1) | ((with_reducible refine gate_callee (f := 48) rfl ?_); refine gC (some 10) Try.func48 #[.agg #[.int .i64 a0_0, .int .i64 a0_1], .int .i64 a0_2, .agg #[.int .i64 a1_0, .int .i64 a1_1]] ?_; (with_reducible refine (slotmeshref12_Cell.calls a0_0 a0_1 a0_2 a1_0 a1_1 true _ A3.out).mono ?_); rintro e w26 ⟨rfl, hb⟩; refine ⟨_, rfl, ?_⟩; replace BK255 := tB BK255 hb; replace BK256 := tB BK256 hb; replace HB := tW HB hb; (try clear hb); (try clear hb2); (try clear hk); (try clear hi); have hcz27_0 : w26.cell? ⟨gb255, 0, none⟩ = some (.int .i64 a0_0) := bt BK255 0; have hcz27_1 : w26.cell? ⟨gb255, 1, none⟩ = some (.int .i64 a0_1) := bt BK255 1; have hcz27_2 : w26.cell? ⟨gb255, 2, none⟩ = some (.int .i64 a0_2) := bt BK255 2; have hcz27_3 : w26.cell? ⟨gb255, 3, none⟩ = some (.int .i64 a0_3) := bt BK255 3; have hcz27_4 : w26.cell? ⟨gb255, 4, none⟩ = some (.int .i64 a0_4) := bt BK255 4; have hfz27_0 := blk_frozen BK255.out 0; have hfz27_1 := blk_frozen BK255.out 1; have hfz27_2 := blk_frozen BK255.out 2; have hfz27_3 := blk_frozen BK255.out 3; have hfz27_4 := blk_frozen BK255.out 4))
  go_ret
  exact ⟨aE, sW HB⟩
 replace c4 := Bool.eq_false_iff.mpr c4
 subst c4
 have H1 : (some false) = some r := by rw [if_neg (show ¬ (false = true) by decide)] at H; exact H
 clear H
 have H := H1
 clear H1
 obtain rfl := Option.some.inj H
 go_enter Try.func39, Try.ntmps39
 go_wp2_with (first | ((with_reducible refine gate_dst (N := 2) rfl ?_); refine bE (N := 2) (cs := #[.int .i64 a0_0, .int .i64 a0_1, .int .i64 a0_2, .int .i64 a0_3, .int .i64 a0_4]) (t := 34) ?_; intro gb255 hg w28 hbox hb; have BK255 := Aside0.mk (hbox); have GW255 := gW hg HB; have GE255 := GW255; replace HB := tW HB hb; clear hb hbox hg) | ((with_reducible refine gate_dst (N := 3) rfl ?_); refine bE (N := 3) (cs := #[.int .i64 a1_0, .int .i64 a1_1]) (t := 28) ?_; intro gb256 hg w29 hbox hb; have BK256 := Aside0.mk (hbox); have GW256 := gW hg HB; have GE256 := GW256; replace HB := tW HB hb; have NB255_256 := gL hg BK255; have NB256_255 := gG hg BK255; replace BK255 := tB BK255 hb; clear hb hbox hg; have hnb30 := NB255_256.out; have hnc30 := NB256_255.out; have hcz31_0 : w29.cell? ⟨gb255, 0, none⟩ = some (.int .i64 a0_0) := bt BK255 0; have hcz31_1 : w29.cell? ⟨gb255, 1, none⟩ = some (.int .i64 a0_1) := bt BK255 1; have hcz31_2 : w29.cell? ⟨gb255, 2, none⟩ = some (.int .i64 a0_2) := bt BK255 2; have hcz31_3 : w29.cell? ⟨gb255, 3, none⟩ = some (.int .i64 a0_3) := bt BK255 3; have hcz31_4 : w29.cell? ⟨gb255, 4, none⟩ = some (.int .i64 a0_4) := bt BK255 4; have hfz31_0 := blk_frozen BK255.out 0; have hfz31_1 := blk_frozen BK255.out 1; have hfz31_2 := blk_frozen BK255.out 2; have hfz31_3 := blk_frozen BK255.out 3; have hfz31_4 := blk_frozen BK255.out 4; have hcz32_0 : w29.cell? ⟨gb256, 0, none⟩ = some (.int .i64 a1_0) := bt BK256 0; have hcz32_1 : w29.cell? ⟨gb256, 1, none⟩ = some (.int .i64 a1_1) := bt BK256 1; have hfz32_0 := blk_frozen BK256.out 0; have hfz32_1 := blk_frozen BK256.out 1) | ((with_reducible refine gate_callee (f := 48) rfl ?_); refine gC (some 10) Try.func48 #[.agg #[.int .i64 a0_0, .int .i64 a0_1], .int .i64 a0_2, .agg #[.int .i64 a1_0, .int .i64 a1_1]] ?_; (with_reducible refine (slotmeshref12_Cell.calls a0_0 a0_1 a0_2 a1_0 a1_1 false _ A3.out).mono ?_); rintro e w33 ⟨rfl, hb⟩; refine ⟨_, rfl, ?_⟩; replace BK255 := tB BK255 hb; replace BK256 := tB BK256 hb; replace HB := tW HB hb; (try clear hb); (try clear hb2); (try clear hk); (try clear hi)))
 go_ret
 exact ⟨aE, sW HB⟩

/-! ### slotmeshref12_Layout: function 47 -/
def slotmeshref12_Layout.f (a0_0 : Int) (a0_1 : Int) : Option (Bool) := if a0_0 ≥ 1 then (if a0_0 ≤ 60 then (if a0_1 ≥ 1 then (some (decide (a0_1 ≤ 60))) else (some false)) else (some false)) else (some false)
set_option maxHeartbeats 8000000 in
set_option maxRecDepth 100000 in
theorem slotmeshref12_Layout.calls (a0_0 : Int) (a0_1 : Int) (r : Bool) (w : World) (h : slotmeshref12_Layout.f a0_0 a0_1 = some r) :
  Calls Try.prog 47 #[.agg #[.int .i64 a0_0, .int .i64 a0_1]] w fun e w' => e = .returned (.bool r) ∧ Below w.heap.size w w' := by
 have hu28 := Try.underlying28
 have HB := Aside0.mk (Below.refl w.heap.size w)
 have H : (if a0_0 ≥ 1 then (if a0_0 ≤ 60 then (if a0_1 ≥ 1 then (some (decide (a0_1 ≤ 60))) else (some false)) else (some false)) else (some false)) = some r := h
 clear h
 by_cases c2 : a0_0 ≥ 1
 ·rw [if_pos c2] at H
  have c2b0 : decide (1 ≤ a0_0) = true := decide_eq_true c2
  clear c2
  by_cases c3 : a0_0 ≤ 60
  ·rw [if_pos c3] at H
   have c3b0 : decide (a0_0 ≤ 60) = true := decide_eq_true c3
   clear c3
   by_cases c4 : a0_1 ≥ 1
   ·rw [if_pos c4] at H
    have c4b0 : decide (1 ≤ a0_1) = true := decide_eq_true c4
    clear c4
    obtain rfl := Option.some.inj H
    go_enter Try.func47, Try.ntmps47
    go_wp2_with (first | ((with_reducible refine gate_dst (N := 1) rfl ?_); refine bE (N := 1) (cs := #[.int .i64 a0_0, .int .i64 a0_1]) (t := 28) ?_; intro gb258 hg w5 hbox hb; have BK258 := Aside0.mk (hbox); have GW258 := gW hg HB; have GE258 := GW258; replace HB := tW HB hb; clear hb hbox hg; have hcz6_0 : w5.cell? ⟨gb258, 0, none⟩ = some (.int .i64 a0_0) := bt BK258 0; have hcz6_1 : w5.cell? ⟨gb258, 1, none⟩ = some (.int .i64 a0_1) := bt BK258 1; have hfz6_0 := blk_frozen BK258.out 0; have hfz6_1 := blk_frozen BK258.out 1))
    go_ret
    exact ⟨aE, sW HB⟩
   rw [if_neg c4] at H
   have c4b0 : decide (1 ≤ a0_1) = false := decide_eq_false c4
   clear c4
   obtain rfl := Option.some.inj H
   go_enter Try.func47, Try.ntmps47
   go_wp2_with (first | ((with_reducible refine gate_dst (N := 1) rfl ?_); refine bE (N := 1) (cs := #[.int .i64 a0_0, .int .i64 a0_1]) (t := 28) ?_; intro gb258 hg w7 hbox hb; have BK258 := Aside0.mk (hbox); have GW258 := gW hg HB; have GE258 := GW258; replace HB := tW HB hb; clear hb hbox hg; have hcz8_0 : w7.cell? ⟨gb258, 0, none⟩ = some (.int .i64 a0_0) := bt BK258 0; have hcz8_1 : w7.cell? ⟨gb258, 1, none⟩ = some (.int .i64 a0_1) := bt BK258 1; have hfz8_0 := blk_frozen BK258.out 0; have hfz8_1 := blk_frozen BK258.out 1))
   go_ret
   exact ⟨aE, sW HB⟩
  rw [if_neg c3] at H
  have c3b0 : decide (a0_0 ≤ 60) = false := decide_eq_false c3
  clear c3
  obtain rfl := Option.some.inj H
  go_enter Try.func47, Try.ntmps47
  go_wp2_with (first | ((with_reducible refine gate_dst (N := 1) rfl ?_); refine bE (N := 1) (cs := #[.int .i64 a0_0, .int .i64 a0_1]) (t := 28) ?_; intro gb258 hg w9 hbox hb; have BK258 := Aside0.mk (hbox); have GW258 := gW hg HB; have GE258 := GW258; replace HB := tW HB hb; clear hb hbox hg; have hcz10_0 : w9.cell? ⟨gb258, 0, none⟩ = some (.int .i64 a0_0) := bt BK258 0; have hcz10_1 : w9.cell? ⟨gb258, 1, none⟩ = some (.int .i64 a0_1) := bt BK258 1; have hfz10_0 := blk_frozen BK258.out 0; have hfz10_1 := blk_frozen BK258.out 1))
  go_ret
  exact ⟨aE, sW HB⟩
 rw [if_neg c2] at H
 have c2b0 : decide (1 ≤ a0_0) = false := decide_eq_false c2
 clear c2
 obtain rfl := Option.some.inj H
 go_enter Try.func47, Try.ntmps47
 go_wp2_with (first | ((with_reducible refine gate_dst (N := 1) rfl ?_); refine bE (N := 1) (cs := #[.int .i64 a0_0, .int .i64 a0_1]) (t := 28) ?_; intro gb258 hg w11 hbox hb; have BK258 := Aside0.mk (hbox); have GW258 := gW hg HB; have GE258 := GW258; replace HB := tW HB hb; clear hb hbox hg; have hcz12_0 : w11.cell? ⟨gb258, 0, none⟩ = some (.int .i64 a0_0) := bt BK258 0; have hcz12_1 : w11.cell? ⟨gb258, 1, none⟩ = some (.int .i64 a0_1) := bt BK258 1; have hfz12_0 := blk_frozen BK258.out 0; have hfz12_1 := blk_frozen BK258.out 1))
 go_ret
 exact ⟨aE, sW HB⟩

/-! ### slotmeshref12_Valid: function 18 -/
theorem info3_ : (Try.prog.info? 3).map (fun i => (i.zero, i.size, i.bytes)) = some (some (.int .i64 0), 1, 8) := by kernel_rfl
def encI (cs : List Int) : Array Value := (cs.map (Value.int .i64)).toArray
theorem encI_get {cs : List Int} {i : Nat} (h : i < cs.length) : (encI cs)[i]? = some (.int .i64 (cs.getD i 0)) := by
 unfold encI; simp [h]
theorem encI_set (cs : List Int) (i : Nat) (v : Int) : (encI cs).setIfInBounds i (.int .i64 v) = encI (cs.set i v) := by
 unfold encI; apply Array.ext'; simp [List.map_set]
theorem made_encI (n : Nat) : madeCells (Value.int .i64 0).cells (n * 1) = encI (List.replicate n 0) := by
 unfold madeCells encI
 apply Array.ext
 ·simp
 intro i h1 h2
 simp [Value.cells, Nat.mod_one]
def Cvec (cs : List Int) (data : Int) (ss : List Int) : Prop := (cs.length : Int) = data ∧ ∀ s : Nat, s < cs.length → cs.getD s 0 = ((ss.count (s : Int) : Nat) : Int)
theorem cvec_nil (n : Nat) : Cvec (List.replicate n 0) n [] := ⟨by simp, fun s hs => by rw [List.length_replicate] at hs; simp [List.getD_eq_getElem?_getD, hs]⟩
theorem cvec_step {cs : List Int} {data : Int} {ss : List Int} (h : Cvec cs data ss) {s : Int} (h0 : 0 ≤ s) (h1 : s < data) (hl : ss.length < 1000000) : Cvec (cs.set s.toNat (wrap64 (cs.getD s.toNat 0 + 1))) data (ss ++ [s]) := by
 obtain ⟨hd, hc⟩ := h
 have hsl : s.toNat < cs.length := by omega
 refine ⟨by rw [List.length_set]; exact hd, fun u hu => ?_⟩
 rw [List.length_set] at hu
 have hle : ss.count s ≤ ss.length := List.count_le_length
 rw [List.count_append]
 by_cases e : u = s.toNat
 ·subst e
  have e2 : ((s.toNat : Nat) : Int) = s := Int.toNat_of_nonneg h0
  rw [List.getD_eq_getElem?_getD, List.getElem?_set_self hsl, Option.getD_some, hc _ hsl, e2]
  simp only [List.count_singleton_self]
  unfold wrap64; omega
 have e2 : s ≠ (u : Int) := by omega
 rw [List.getD_eq_getElem?_getD, List.getElem?_set_ne (Ne.symm e), ← List.getD_eq_getElem?_getD, hc _ hu, List.count_singleton]
 simp [e2]
theorem rlay_eq (a b : Int) : slotmeshref12_Layout.f a b = some (decide (1 ≤ a) && decide (a ≤ 60) && decide (1 ≤ b) && decide (b ≤ 60)) := by
 unfold slotmeshref12_Layout.f
 repeat' split
 all_goals (simp_all <;> omega)
theorem rc_eq (a b c d e : Int) : slotmeshref12_Cell.f a b c d e = some (plc a b c d e) := by
 unfold slotmeshref12_Cell.f plc
 repeat' split
 all_goals (simp_all <;> omega)
theorem rv32_eq (nodes data : Int) (x : S32) : slotmeshref12_Use.f x.f0.f0 x.f0.f1 x.f1 x.f2 nodes data = some (v32 nodes data x) := by
 unfold slotmeshref12_Use.f v32
 rw [rc_eq, Option.bind_some]
 cases plc x.f0.f0 x.f0.f1 x.f1 nodes data
 ·rfl
 rw [if_pos rfl]
 repeat' split
 all_goals (simp_all <;> omega)
theorem rv34_eq (nodes data : Int) (x : S34) : slotmeshref12_Grant.f x.f0.f0 x.f0.f1 x.f1 x.f2 x.f3 nodes data = some (v34 nodes data x) := by
 unfold slotmeshref12_Grant.f v34
 rw [rc_eq, Option.bind_some]
 cases plc x.f0.f0 x.f0.f1 x.f1 nodes data
 ·rfl
 rw [if_pos rfl]
 repeat' split
 all_goals (simp_all <;> omega)
theorem rv51_eq (nodes data : Int) (x : S51) : slotmeshref12_Cell.f x.f0.f0 x.f0.f1 x.f1 nodes data = some (v51 nodes data x) := rc_eq _ _ _ _ _
theorem blk_set_far {w : World} {k : Nat} {o : Obj} {a : Addr} (h : w.heap[k]? = some o) (hne : k ≠ a.block) (v : Value) : (w.setCell a v).heap[k]? = some o := by
 rw [Below.heap_setCell _ _ _ _ hne]; exact h
theorem validB_lay {l0 : List S32} {l1 : List S34} {l2 : List S51} {a b : Int} (h : (decide (1 ≤ a) && decide (a ≤ 60) && decide (1 ≤ b) && decide (b ≤ 60)) = false) : validB l0 l1 l2 a b = false := by
 unfold validB
 by_cases h0 : a < 1
 ·rw [if_pos h0]
 by_cases h1 : 60 < a
 ·rw [if_neg h0, if_pos h1]
 by_cases h2 : b < 1
 ·rw [if_neg h0, if_neg h1, if_pos h2]
 by_cases h3 : 60 < b
 ·rw [if_neg h0, if_neg h1, if_neg h2, if_pos h3]
 exfalso
 have e1 := decide_eq_true (show 1 ≤ a by omega)
 have e2 := decide_eq_true (show a ≤ 60 by omega)
 have e3 := decide_eq_true (show 1 ≤ b by omega)
 have e4 := decide_eq_true (show b ≤ 60 by omega)
 rw [e1, e2, e3, e4] at h
 cases h
theorem validB_main {l0 : List S32} {l1 : List S34} {l2 : List S51} {a b : Int} (h : (decide (1 ≤ a) && decide (a ≤ 60) && decide (1 ≤ b) && decide (b ≤ 60)) = true) : 1 ≤ a ∧ a ≤ 60 ∧ 1 ≤ b ∧ b ≤ 60 ∧
  validB l0 l1 l2 a b = if 24 < (l0.length : Int) + (l1.length : Int) then false else if 24 < (l2.length : Int) then false else
   if snd32 a b (-1) l0 = false then false else if snd34 a b (-1) l1 = false then false else if snd51 a b (-1) l2 = false then false else dupfree (slotsOf l0 l1 l2) := by
 simp only [Bool.and_eq_true, decide_eq_true_eq] at h
 refine ⟨by omega, by omega, by omega, by omega, ?_⟩
 unfold validB
 rw [if_neg (show ¬ a < 1 by omega), if_neg (show ¬ 60 < a by omega), if_neg (show ¬ b < 1 by omega), if_neg (show ¬ 60 < b by omega)]
def last32 (l : List S32) (kk : Nat) : Int := if kk = 0 then -1 else (l.getD (kk - 1) z32).f0.f0
theorem snd32_at {nodes data : Int} {l : List S32} {kk : Nat} (h : kk < l.length) : snd32 nodes data (last32 l kk) (l.drop kk) = (v32 nodes data (l.getD kk z32) && decide (last32 l kk < (l.getD kk z32).f0.f0) && snd32 nodes data (last32 l (kk + 1)) (l.drop (kk + 1))) := by
 rw [List.drop_eq_getElem_cons h]
 have e : l.getD kk z32 = l[kk] := by rw [List.getD_eq_getElem?_getD, List.getElem?_eq_getElem h]; rfl
 have e2 : last32 l (kk + 1) = l[kk].f0.f0 := by unfold last32; rw [if_neg (Nat.succ_ne_zero _), Nat.add_sub_cancel, e]
 rw [e, e2]; rfl
theorem snd32_all {nodes data : Int} : ∀ {last : Int} {l : List S32}, snd32 nodes data last l = true → ∀ x ∈ l, v32 nodes data x = true
 | _, [], _, x, hx => absurd hx (by simp)
 | last, y :: t, h, x, hx => by
  have h' : (v32 nodes data y && decide (last < y.f0.f0) && snd32 nodes data y.f0.f0 t) = true := h
  rw [Bool.and_eq_true, Bool.and_eq_true] at h'
  rcases List.mem_cons.1 hx with rfl | hx
  ·exact h'.1.1
  exact snd32_all h'.2 x hx
def last34 (l : List S34) (kk : Nat) : Int := if kk = 0 then -1 else (l.getD (kk - 1) z34).f0.f0
theorem snd34_at {nodes data : Int} {l : List S34} {kk : Nat} (h : kk < l.length) : snd34 nodes data (last34 l kk) (l.drop kk) = (v34 nodes data (l.getD kk z34) && decide (last34 l kk < (l.getD kk z34).f0.f0) && snd34 nodes data (last34 l (kk + 1)) (l.drop (kk + 1))) := by
 rw [List.drop_eq_getElem_cons h]
 have e : l.getD kk z34 = l[kk] := by rw [List.getD_eq_getElem?_getD, List.getElem?_eq_getElem h]; rfl
 have e2 : last34 l (kk + 1) = l[kk].f0.f0 := by unfold last34; rw [if_neg (Nat.succ_ne_zero _), Nat.add_sub_cancel, e]
 rw [e, e2]; rfl
theorem snd34_all {nodes data : Int} : ∀ {last : Int} {l : List S34}, snd34 nodes data last l = true → ∀ x ∈ l, v34 nodes data x = true
 | _, [], _, x, hx => absurd hx (by simp)
 | last, y :: t, h, x, hx => by
  have h' : (v34 nodes data y && decide (last < y.f0.f0) && snd34 nodes data y.f0.f0 t) = true := h
  rw [Bool.and_eq_true, Bool.and_eq_true] at h'
  rcases List.mem_cons.1 hx with rfl | hx
  ·exact h'.1.1
  exact snd34_all h'.2 x hx
def last51 (l : List S51) (kk : Nat) : Int := if kk = 0 then -1 else (l.getD (kk - 1) z51).f0.f0
theorem snd51_at {nodes data : Int} {l : List S51} {kk : Nat} (h : kk < l.length) : snd51 nodes data (last51 l kk) (l.drop kk) = (v51 nodes data (l.getD kk z51) && decide (last51 l kk < (l.getD kk z51).f0.f0) && snd51 nodes data (last51 l (kk + 1)) (l.drop (kk + 1))) := by
 rw [List.drop_eq_getElem_cons h]
 have e : l.getD kk z51 = l[kk] := by rw [List.getD_eq_getElem?_getD, List.getElem?_eq_getElem h]; rfl
 have e2 : last51 l (kk + 1) = l[kk].f0.f0 := by unfold last51; rw [if_neg (Nat.succ_ne_zero _), Nat.add_sub_cancel, e]
 rw [e, e2]; rfl
theorem snd51_all {nodes data : Int} : ∀ {last : Int} {l : List S51}, snd51 nodes data last l = true → ∀ x ∈ l, v51 nodes data x = true
 | _, [], _, x, hx => absurd hx (by simp)
 | last, y :: t, h, x, hx => by
  have h' : (v51 nodes data y && decide (last < y.f0.f0) && snd51 nodes data y.f0.f0 t) = true := h
  rw [Bool.and_eq_true, Bool.and_eq_true] at h'
  rcases List.mem_cons.1 hx with rfl | hx
  ·exact h'.1.1
  exact snd51_all h'.2 x hx
set_option maxHeartbeats 32000000 in
set_option maxRecDepth 100000 in
theorem refValid_walk (A0_0 : Option Addr) (c0_0 : Nat) (l0_0 : List (S32)) (A0_1 : Option Addr) (c0_1 : Nat) (l0_1 : List (S34)) (A0_2 : Option Addr) (c0_2 : Nat) (l0_2 : List (S51)) (a1_0 : Int) (a1_1 : Int) (r : Bool) (w : World) (hr0_0 : Kd.C k32 w A0_0 l0_0.length l0_0) (hc0_0 : l0_0.length ≤ c0_0) (hr0_1 : Kd.C k34 w A0_1 l0_1.length l0_1) (hc0_1 : l0_1.length ≤ c0_1) (hr0_2 : Kd.C k51 w A0_2 l0_2.length l0_2) (hc0_2 : l0_2.length ≤ c0_2) (h : cells_Valid.f l0_0 l0_1 l0_2 a1_0 a1_1 = some r) :
  Calls Try.prog 18 #[.agg #[.slice A0_0 l0_0.length c0_0, .slice A0_1 l0_1.length c0_1, .slice A0_2 l0_2.length c0_2], .agg #[.int .i64 a1_0, .int .i64 a1_1]] w fun e w' => e = .returned (.bool r) ∧ Below w.heap.size w w' := by
 have HLL : l0_0.length < 3518437208883 ∧ l0_1.length < 3518437208883 ∧ l0_2.length < 3518437208883 := by
  unfold cells_Valid.f at h
  by_cases hl : l0_0.length < 3518437208883 ∧ l0_1.length < 3518437208883 ∧ l0_2.length < 3518437208883
  ·exact hl
  rw [if_neg hl] at h; exact absurd h (by simp)
 have HRR : Aside0 (validB l0_0 l0_1 l0_2 a1_0 a1_1 = r) := ⟨by unfold cells_Valid.f at h; rw [if_pos HLL] at h; exact Option.some.inj h⟩
 clear h
 have hu26 := Try.underlying26
 have hu28 := Try.underlying28
 have hu30 := Try.underlying30
 have hu32 := Try.underlying32
 have hu34 := Try.underlying34
 have hu51 := Try.underlying51
 have HR0 := Aside0.mk hr0_0
 have HR1 := Aside0.mk hr0_1
 have HR2 := Aside0.mk hr0_2
 obtain ⟨hb0, hb1, hb2⟩ := HLL
 have HB0 := Aside0.mk (Below.refl w.heap.size w)
 clear hr0_0 hr0_1 hr0_2 hc0_0 hc0_1 hc0_2
 cases hly : (decide (1 ≤ a1_0) && decide (a1_0 ≤ 60) && decide (1 ≤ a1_1) && decide (a1_1 ≤ 60))
 ·have HLY := Aside0.mk ((rlay_eq a1_0 a1_1).trans (congrArg some hly))
  obtain rfl : false = r := by rw [← HRR.out, validB_lay hly]
  clear hly HRR
  go_enter Try.func18, Try.ntmps18
  go_wp2_with (first
   | ((with_reducible refine gate_dst (N := 2) rfl ?_); refine bE (N := 2) (cs := #[.slice A0_0 l0_0.length c0_0, .slice A0_1 l0_1.length c0_1, .slice A0_2 l0_2.length c0_2]) (t := 26) ?_; intro g2 hg w1 hbox hb; have X2 := Aside0.mk hbox; have HB1 := Aside0.mk (below_step HB0.out hb); clear hb hbox hg)
   | ((with_reducible refine gate_dst (N := 3) rfl ?_); refine bE (N := 3) (cs := #[.int .i64 a1_0, .int .i64 a1_1]) (t := 28) ?_; intro g3 hg w2 hbox hb; have X3 := Aside0.mk hbox; have X2' := Aside0.mk (blk_below X2.out hb); clear X2; have X2 := X2'; clear X2'; have HB2 := Aside0.mk (below_step HB1.out hb); have y0 := blk_cell' X2.out 0 _ rfl; have y1 := blk_cell' X2.out 1 _ rfl; have y2 := blk_cell' X2.out 2 _ rfl; have z0 := blk_cell' X3.out 0 _ rfl; have z1 := blk_cell' X3.out 1 _ rfl; clear hb hbox hg)
   | (go_at_call 47; refine (slotmeshref12_Layout.calls a1_0 a1_1 false _ HLY.out).mono ?_; rintro e w3 ⟨rfl, hb⟩; have X2c := Aside0.mk (blk_below X2.out hb); have X3c := Aside0.mk (blk_below X3.out hb); have HB3 := Aside0.mk (below_step HB2.out hb); clear hb y0 y1 y2 z0 z1; have y0 := blk_cell' X2c.out 0 _ rfl; have y1 := blk_cell' X2c.out 1 _ rfl; have y2 := blk_cell' X2c.out 2 _ rfl; have z0 := blk_cell' X3c.out 0 _ rfl; have z1 := blk_cell' X3c.out 1 _ rfl))
  go_ret
  exact ⟨rfl, HB3.out⟩
 have HLY := Aside0.mk ((rlay_eq a1_0 a1_1).trans (congrArg some hly))
 obtain ⟨ha0, ha1, hd0, hd1, hvm⟩ := validB_main (l0 := l0_0) (l1 := l0_1) (l2 := l0_2) hly
 have HVB := Aside0.mk (hvm.symm.trans HRR.out)
 clear hly hvm HRR
 by_cases c4 : 24 < (l0_0.length : Int) + (l0_1.length : Int)
 ·have d4 := decide_eq_true c4
  obtain rfl : false = r := by rw [← HVB.out, if_pos c4]
  clear HVB c4
  go_enter Try.func18, Try.ntmps18
  go_wp2_with (first
   | ((with_reducible refine gate_dst (N := 2) rfl ?_); refine bE (N := 2) (cs := #[.slice A0_0 l0_0.length c0_0, .slice A0_1 l0_1.length c0_1, .slice A0_2 l0_2.length c0_2]) (t := 26) ?_; intro g2 hg w1 hbox hb; have X2 := Aside0.mk hbox; have HB1 := Aside0.mk (below_step HB0.out hb); clear hb hbox hg)
   | ((with_reducible refine gate_dst (N := 3) rfl ?_); refine bE (N := 3) (cs := #[.int .i64 a1_0, .int .i64 a1_1]) (t := 28) ?_; intro g3 hg w2 hbox hb; have X3 := Aside0.mk hbox; have X2' := Aside0.mk (blk_below X2.out hb); clear X2; have X2 := X2'; clear X2'; have HB2 := Aside0.mk (below_step HB1.out hb); have y0 := blk_cell' X2.out 0 _ rfl; have y1 := blk_cell' X2.out 1 _ rfl; have y2 := blk_cell' X2.out 2 _ rfl; have z0 := blk_cell' X3.out 0 _ rfl; have z1 := blk_cell' X3.out 1 _ rfl; clear hb hbox hg)
   | (go_at_call 47; refine (slotmeshref12_Layout.calls a1_0 a1_1 true _ HLY.out).mono ?_; rintro e w3 ⟨rfl, hb⟩; have X2c := Aside0.mk (blk_below X2.out hb); have X3c := Aside0.mk (blk_below X3.out hb); have HB3 := Aside0.mk (below_step HB2.out hb); clear hb y0 y1 y2 z0 z1; have y0 := blk_cell' X2c.out 0 _ rfl; have y1 := blk_cell' X2c.out 1 _ rfl; have y2 := blk_cell' X2c.out 2 _ rfl; have z0 := blk_cell' X3c.out 0 _ rfl; have z1 := blk_cell' X3c.out 1 _ rfl))
  go_ret
  exact ⟨rfl, HB3.out⟩
 have d4 := decide_eq_false c4
 by_cases c5 : 24 < (l0_2.length : Int)
 ·have d5 := decide_eq_true c5
  obtain rfl : false = r := by rw [← HVB.out, if_neg c4, if_pos c5]
  clear HVB c4 c5
  go_enter Try.func18, Try.ntmps18
  go_wp2_with (first
   | ((with_reducible refine gate_dst (N := 2) rfl ?_); refine bE (N := 2) (cs := #[.slice A0_0 l0_0.length c0_0, .slice A0_1 l0_1.length c0_1, .slice A0_2 l0_2.length c0_2]) (t := 26) ?_; intro g2 hg w1 hbox hb; have X2 := Aside0.mk hbox; have HB1 := Aside0.mk (below_step HB0.out hb); clear hb hbox hg)
   | ((with_reducible refine gate_dst (N := 3) rfl ?_); refine bE (N := 3) (cs := #[.int .i64 a1_0, .int .i64 a1_1]) (t := 28) ?_; intro g3 hg w2 hbox hb; have X3 := Aside0.mk hbox; have X2' := Aside0.mk (blk_below X2.out hb); clear X2; have X2 := X2'; clear X2'; have HB2 := Aside0.mk (below_step HB1.out hb); have y0 := blk_cell' X2.out 0 _ rfl; have y1 := blk_cell' X2.out 1 _ rfl; have y2 := blk_cell' X2.out 2 _ rfl; have z0 := blk_cell' X3.out 0 _ rfl; have z1 := blk_cell' X3.out 1 _ rfl; clear hb hbox hg)
   | (go_at_call 47; refine (slotmeshref12_Layout.calls a1_0 a1_1 true _ HLY.out).mono ?_; rintro e w3 ⟨rfl, hb⟩; have X2c := Aside0.mk (blk_below X2.out hb); have X3c := Aside0.mk (blk_below X3.out hb); have HB3 := Aside0.mk (below_step HB2.out hb); clear hb y0 y1 y2 z0 z1; have y0 := blk_cell' X2c.out 0 _ rfl; have y1 := blk_cell' X2c.out 1 _ rfl; have y2 := blk_cell' X2c.out 2 _ rfl; have z0 := blk_cell' X3c.out 0 _ rfl; have z1 := blk_cell' X3c.out 1 _ rfl))
  go_ret
  exact ⟨rfl, HB3.out⟩
 have d5 := decide_eq_false c5
 rw [if_neg c4, if_neg c5] at HVB
 have HSZ : Aside0 (l0_0.length + l0_1.length ≤ 24 ∧ l0_2.length ≤ 24) := ⟨by omega⟩
 have HDT : Aside0 (1 ≤ a1_1 ∧ a1_1 ≤ 60) := ⟨⟨hd0, hd1⟩⟩
 obtain ⟨n, hn⟩ : ∃ n : Nat, a1_1.toNat = n := ⟨_, rfl⟩
 have HN : Aside0 ((n : Int) = a1_1) := ⟨by omega⟩
 have hmk : ∀ W : World, (Instr.makeSlice 91 (.int .i64 a1_1) (.int .i64 a1_1)).run Try.prog W = .ok (.slice (some ⟨W.heap.size, 0, none⟩) n n) (W.alloc (.cells (encI (List.replicate n 0)) 3 (0, 0))) := fun W => by
  obtain ⟨i0, hi, hzz⟩ := Option.map_eq_some_iff.1 info3_
  simp only [Prod.mk.injEq] at hzz
  obtain ⟨hz0, hz1, hz2⟩ := hzz
  have hr := run_make (P := Try.prog) W 91 3 i0 (.int .i64 0) Try.underlying91 hi hz0 .i64 .i64 a1_1 a1_1 (by omega) (Int.le_refl _) (by rw [hz2]; omega) (by omega)
  rw [hz1, hn, made_encI] at hr
  exact hr
 clear c4 c5 ha0 ha1 hd0 hd1 hn
 go_enter Try.func18, Try.ntmps18
 go_wp2_with (first
  | ((with_reducible refine gate_dst (N := 2) rfl ?_); refine bE (N := 2) (cs := #[.slice A0_0 l0_0.length c0_0, .slice A0_1 l0_1.length c0_1, .slice A0_2 l0_2.length c0_2]) (t := 26) ?_; intro g2 hg w1 hbox hb; have X2 := Aside0.mk hbox; have HB1 := Aside0.mk (below_step HB0.out hb); clear hb hbox hg)
  | ((with_reducible refine gate_dst (N := 3) rfl ?_); refine bE (N := 3) (cs := #[.int .i64 a1_0, .int .i64 a1_1]) (t := 28) ?_; intro g3 hg w2 hbox hb; have X3 := Aside0.mk hbox; have X2' := Aside0.mk (blk_below X2.out hb); clear X2; have X2 := X2'; clear X2'; have HB2 := Aside0.mk (below_step HB1.out hb); have y0 := blk_cell' X2.out 0 _ rfl; have y1 := blk_cell' X2.out 1 _ rfl; have y2 := blk_cell' X2.out 2 _ rfl; have z0 := blk_cell' X3.out 0 _ rfl; have z1 := blk_cell' X3.out 1 _ rfl; clear hb hbox hg)
  | (go_at_call 47; refine (slotmeshref12_Layout.calls a1_0 a1_1 true _ HLY.out).mono ?_; rintro e w3 ⟨rfl, hb⟩; have X2c := Aside0.mk (blk_below X2.out hb); have X3c := Aside0.mk (blk_below X3.out hb); have HB3 := Aside0.mk (below_step HB2.out hb); clear hb y0 y1 y2 z0 z1; have y0 := blk_cell' X2c.out 0 _ rfl; have y1 := blk_cell' X2c.out 1 _ rfl; have y2 := blk_cell' X2c.out 2 _ rfl; have z0 := blk_cell' X3c.out 0 _ rfl; have z1 := blk_cell' X3c.out 1 _ rfl))
 have BT : Aside0 ((w3.alloc (.cells (encI (List.replicate n 0)) 3 (0, 0))).heap[w3.heap.size]? = some (.cells (encI (List.replicate n 0)) 3 (0, 0))) := ⟨blk_new w3 _⟩
 have X2 := Aside0.mk (blk_alloc X2c.out (.cells (encI (List.replicate n 0)) 3 (0, 0)))
 have X3 := Aside0.mk (blk_alloc X3c.out (.cells (encI (List.replicate n 0)) 3 (0, 0)))
 have HB := Aside0.mk (below_alloc HB3.out (.cells (encI (List.replicate n 0)) 3 (0, 0)))
 have GET := Aside0.mk HB3.out.size
 have NE2 : Aside0 (g2 ≠ w3.heap.size) := ⟨Nat.ne_of_lt (blk_lt X2c.out)⟩
 have NE3 : Aside0 (g3 ≠ w3.heap.size) := ⟨Nat.ne_of_lt (blk_lt X3c.out)⟩
 have CV : Aside0 (Cvec (List.replicate n 0) a1_1 ([] : List Int)) := ⟨by rw [← HN.out]; exact cvec_nil n⟩
 clear X2c X3c HB1 HB2 HB3 y0 y1 y2 z0 z1 HLY hmk hb0 hb1 hb2 d4 d5
 generalize w3.alloc (.cells (encI (List.replicate n 0)) 3 (0, 0)) = w4 at BT X2 X3 HB ⊢
 generalize w3.heap.size = gt at BT GET NE2 NE3 ⊢
 generalize List.replicate n (0 : Int) = cs at BT CV
 have HB_0 := HB
 go_loopg [6] l0_0.length (fun gg s6 wr => ∃ (x6 : Int) (kk : Nat) (cs : List Int), s6 = .int .i64 x6 ∧ Aside0 (x6 = (kk : Int) ∧ kk ≤ l0_0.length ∧ l0_0.length - kk ≤ gg) ∧ Aside0 (snd32 a1_0 a1_1 (-1) l0_0 = snd32 a1_0 a1_1 (last32 l0_0 kk) (l0_0.drop kk)) ∧ Aside0 (Cvec cs a1_1 (([] : List Int) ++ (l0_0.take kk).map (fun x => x.f0.f0))) ∧ Aside0 (wr.heap[gt]? = some (.cells (encI cs) 3 (0, 0))) ∧ Aside0 (wr.heap[g2]? = some (.cells #[.slice A0_0 l0_0.length c0_0, .slice A0_1 l0_1.length c0_1, .slice A0_2 l0_2.length c0_2] 26 (0, 0))) ∧ Aside0 (wr.heap[g3]? = some (.cells #[.int .i64 a1_0, .int .i64 a1_1] 28 (0, 0))) ∧ Aside0 (Below w.heap.size w wr))
 case atStart => exact ⟨0, 0, cs, rfl, ⟨rfl, Nat.zero_le _, Nat.le_refl _⟩, ⟨by rw [List.drop_zero]; rfl⟩, ⟨by rw [List.take_zero, List.map_nil, List.append_nil]; exact CV.out⟩, BT, X2, X3, HB⟩
 case round =>
  clear BT X2 X3 HB CV HB_0
  obtain ⟨x6, kk, cs0, rfl, HK, HSP, CV, BT, X2, X3, HB⟩ := hrel
  by_cases c1 : x6 < (l0_0.length : Int)
  ·have d1 := decide_eq_true c1
   have p1 : 0 ≤ x6 := by have := HK.out.1; omega
   have hkl : kk < l0_0.length := by have := HK.out.1; omega
   obtain ⟨ad, hA, h0, h1, h2, h3⟩ := at_T32 HR0.out x6 p1 c1
   have HS : Aside0 (snd32 a1_0 a1_1 (-1) l0_0 = (v32 a1_0 a1_1 (rd_T32 l0_0 x6) && decide (last32 l0_0 kk < (rd_T32 l0_0 x6).f0.f0) && snd32 a1_0 a1_1 (last32 l0_0 (kk + 1)) (l0_0.drop (kk + 1)))) := ⟨by
    have e : rd_T32 l0_0 x6 = l0_0.getD kk z32 := by unfold rd_T32; rw [HK.out.1, Int.toNat_natCast]
    rw [HSP.out, e]
    exact snd32_at hkl⟩
   have HLS : Aside0 (last32 l0_0 (kk + 1) = (rd_T32 l0_0 x6).f0.f0) := ⟨by unfold last32 rd_T32; rw [if_neg (Nat.succ_ne_zero _), Nat.add_sub_cancel, HK.out.1, Int.toNat_natCast]⟩
   have HTK : Aside0 ((l0_0.take (kk + 1)).map (fun x => x.f0.f0) = (l0_0.take kk).map (fun x => x.f0.f0) ++ [(rd_T32 l0_0 x6).f0.f0]) := ⟨by
    have e : rd_T32 l0_0 x6 = l0_0[kk] := by unfold rd_T32; rw [HK.out.1, Int.toNat_natCast, List.getD_eq_getElem?_getD, List.getElem?_eq_getElem hkl]; rfl
    rw [List.take_succ_eq_append_getElem hkl, List.map_append, e]; rfl⟩
   have HLP : Aside0 (0 < x6 → last32 l0_0 kk = (rd_T32 l0_0 (wrap64 (x6 - 1))).f0.f0) := ⟨fun h => by
    have e1 : (wrap64 (x6 - 1)).toNat = kk - 1 := by have := HK.out; have := HSZ.out; unfold wrap64; omega
    unfold last32 rd_T32; rw [if_neg (by have := HK.out.1; omega), e1]⟩
   have HPB : Aside0 (0 < x6 → 0 ≤ wrap64 (x6 - 1) ∧ wrap64 (x6 - 1) < (l0_0.length : Int)) := ⟨fun h => by have := HK.out.1; have := HSZ.out; unfold wrap64; omega⟩
   generalize rd_T32 l0_0 x6 = y at h0 h1 h2 h3 HS HLS HTK
   subst hA
   have hw0 := Aside0.mk h0
   have hw1 := Aside0.mk h1
   have hw2 := Aside0.mk h2
   have hw3 := Aside0.mk h3
   clear h0 h1 h2 h3 hkl
   replace p1 := eq_true p1
   replace c1 := eq_true c1
   have HV0 := Aside0.mk (rv32_eq a1_0 a1_1 y)
   have y2 := blk_cell' X2.out 0 _ rfl
   cases hv : v32 a1_0 a1_1 y
   ·have HV := Aside0.mk (HV0.out.trans (congrArg some hv))
    have HF : Aside0 (snd32 a1_0 a1_1 (-1) l0_0 = false) := ⟨by rw [HS.out, hv]; rfl⟩
    obtain rfl : false = r := by rw [← HVB.out, if_pos HF.out]
    clear hv HV0
    go_wp2
    have X2d := Aside0.mk (blk_drew X2.out)
    have X3d := Aside0.mk (blk_drew X3.out)
    have HBd := Aside0.mk (below_drew1 HB.out)
    have BTd := Aside0.mk (blk_drew BT.out)
    refine start_ (n := 30) (S := fun w' => w'.cell? ⟨g2, 0, none⟩ = some (.slice (some ad) l0_0.length c0_0) ∧ w'.cell? ⟨g3, 0, none⟩ = some (.int .i64 a1_0) ∧ w'.cell? ⟨g3, 1, none⟩ = some (.int .i64 a1_1) ∧ w'.cell? (ad.add (x6.toNat * 4)) = some (.int .i64 y.f0.f0) ∧ w'.cell? ⟨(ad.add (x6.toNat * 4)).block, (ad.add (x6.toNat * 4)).off + 1, none⟩ = some (.int .i64 y.f0.f1) ∧ w'.cell? ⟨(ad.add (x6.toNat * 4)).block, (ad.add (x6.toNat * 4)).off + 2, none⟩ = some (.int .i64 y.f1) ∧ w'.cell? ⟨(ad.add (x6.toNat * 4)).block, (ad.add (x6.toNat * 4)).off + 3, none⟩ = some (.int .i64 y.f2)) (ds := []) #[false, false, false, false, false, false, false, false, false, false, false, false, false, false, false, false, false, false, false, false, false, false, false, false, false, false, false, false, false, false] (by kernel_rfl) rfl rfl ⟨blk_cell' X2d.out 0 _ rfl, blk_cell' X3d.out 0 _ rfl, blk_cell' X3d.out 1 _ rfl, ((HBd.out.cell (World.block_lt_of_cell? w _ hw0.out)).trans hw0.out), ((HBd.out.cell (World.block_lt_of_cell? w _ hw1.out)).trans hw1.out), ((HBd.out.cell (World.block_lt_of_cell? w _ hw2.out)).trans hw2.out), ((HBd.out.cell (World.block_lt_of_cell? w _ hw3.out)).trans hw3.out)⟩ (fun hHeld => ?_)
    refine run_ [(0, some 39), (2, some 41), (1, some 40), (3, some 42), (4, some 43), (5, some 44)] ?_
    iterate 2 (refine runP (v := ?_) (a' := ?_) rfl rfl (by kernel_rfl) (fun _ _ _ h => h) (Or.inl ⟨by rfl, ?_⟩) ?_ ?_; rotate_left; (· intro w'; go_simp; with_reducible rfl); rotate_left; (· simp only [Act.put, List.setIfInBounds_toArray, List.set_cons_zero, List.set_cons_succ, i64_w, i32_w]; rfl))
    refine runT (v := ?_) (a' := ?_) rfl rfl (by kernel_rfl) (fun _ _ _ h => h) (Or.inl ⟨by rfl, ?_⟩) hHeld ?_ ?_; rotate_left; (· rintro w' ⟨s0, s1, s2, s3, s4, s5, s6⟩; go_simp; with_reducible rfl); rotate_left; (· simp only [Act.put, List.setIfInBounds_toArray, List.set_cons_zero, List.set_cons_succ, i64_w, i32_w]; rfl)
    refine runP (v := ?_) (a' := ?_) rfl rfl (by kernel_rfl) (fun _ _ _ h => h) (Or.inl ⟨by rfl, ?_⟩) ?_ ?_; rotate_left; (· intro w'; go_simp; with_reducible rfl); rotate_left; (· simp only [Act.put, List.setIfInBounds_toArray, List.set_cons_zero, List.set_cons_succ, i64_w, i32_w]; rfl)
    iterate 2 (refine runT (v := ?_) (a' := ?_) rfl rfl (by kernel_rfl) (fun _ _ _ h => h) (Or.inl ⟨by rfl, ?_⟩) hHeld ?_ ?_; rotate_left; (· rintro w' ⟨s0, s1, s2, s3, s4, s5, s6⟩; go_simp; with_reducible rfl); rotate_left; (· simp only [Act.put, List.setIfInBounds_toArray, List.set_cons_zero, List.set_cons_succ, i64_w, i32_w]; rfl))
    refine runE ?_
    refine one_ (i := 6) (N := some 45) #[true, true, true, true, true, true, true, false, false, false, false, false, false, false, false, false, false, false, false, false, false, false, false, false, false, false, false, false, false, false] rfl rfl (by kernel_rfl) (by decide) (fun K hK => ?_)
    refine gO Try.func26 #[.agg #[.int .i64 y.f0.f0, .int .i64 y.f0.f1, .int .i64 y.f1, .int .i64 y.f2], .agg #[.int .i64 a1_0, .int .i64 a1_1]] ?_
    with_reducible refine (slotmeshref12_Use.calls y.f0.f0 y.f0.f1 y.f1 y.f2 a1_0 a1_1 false _ HV.out).mono ?_
    rintro e wa ⟨rfl, hb⟩
    refine ⟨_, rfl, ?_⟩
    have X2a := Aside0.mk (blk_below X2d.out hb)
    have X3a := Aside0.mk (blk_below X3d.out hb)
    have HBa := Aside0.mk (below_step HBd.out hb)
    have BTa := Aside0.mk (blk_below BTd.out hb)
    clear hb
    refine hK.out _ _ ⟨blk_cell' X2a.out 0 _ rfl, blk_cell' X3a.out 0 _ rfl, blk_cell' X3a.out 1 _ rfl, ((HBa.out.cell (World.block_lt_of_cell? w _ hw0.out)).trans hw0.out), ((HBa.out.cell (World.block_lt_of_cell? w _ hw1.out)).trans hw1.out), ((HBa.out.cell (World.block_lt_of_cell? w _ hw2.out)).trans hw2.out), ((HBa.out.cell (World.block_lt_of_cell? w _ hw3.out)).trans hw3.out)⟩ (fun hHeld => ?_)
    clear hK K
    refine norm_ (a' := ?_) ?_ ?_
    rotate_left
    ·show Act.put _ (some 45) _ = _
     simp only [Act.put, List.setIfInBounds_toArray, List.set_cons_zero, List.set_cons_succ, i64_w, i32_w]
     rfl
    refine run_ [(7, some 46), (8, some 47), (9, some 48), (10, some 49), (11, some 50), (12, some 51), (13, some 52), (14, some 53), (15, some 54), (16, some 55), (17, some 56), (18, some 57), (19, some 58), (20, some 59), (21, some 60), (22, some 61), (23, some 62), (24, some 63), (25, some 64), (26, some 65), (27, some 66), (28, some 67), (29, some 68)] ?_
    iterate 2 (refine runP (v := ?_) (a' := ?_) rfl rfl (by kernel_rfl) (fun _ _ _ h => h) (Or.inl ⟨by rfl, ?_⟩) ?_ ?_; rotate_left; (· intro w'; go_simp; with_reducible rfl); rotate_left; (· simp only [Act.put, List.setIfInBounds_toArray, List.set_cons_zero, List.set_cons_succ, i64_w, i32_w]; rfl))
    iterate 20 (refine runP (v := undef) (a' := ?_) rfl rfl (by kernel_rfl) (fun _ _ _ h => h) (Or.inr ⟨by rfl, rfl⟩) ?_ ?_; rotate_left; (· simp only [Act.put, List.setIfInBounds_toArray, List.set_cons_zero, List.set_cons_succ, i64_w, i32_w]; rfl))
    refine runP (v := ?_) (a' := ?_) rfl rfl (by kernel_rfl) (fun _ _ _ h => h) (Or.inl ⟨by rfl, ?_⟩) ?_ ?_; rotate_left; (· intro w'; go_simp; with_reducible rfl); rotate_left; (· simp only [Act.put, List.setIfInBounds_toArray, List.set_cons_zero, List.set_cons_succ, i64_w, i32_w]; rfl)
    refine runE ?_
    refine done_ (by kernel_rfl) ?_
    go_wp2
    go_ret
    exact ⟨rfl, HBa.out⟩
   have HV := Aside0.mk (HV0.out.trans (congrArg some hv))
   have HVV := Aside0.mk hv
   clear hv HV0
   by_cases c2 : 0 < x6
   ·have d2 := decide_eq_true c2
    obtain ⟨pb0, pb1⟩ := HPB.out c2
    obtain ⟨ad2, hA2, h0, hrest⟩ := at_T32 HR0.out (wrap64 (x6 - 1)) pb0 pb1
    obtain rfl : ad = ad2 := by injection hA2
    have HLP2 := Aside0.mk (HLP.out c2)
    generalize (rd_T32 l0_0 (wrap64 (x6 - 1))).f0.f0 = pv at h0 HLP2
    have hwp := Aside0.mk h0
    clear h0 hrest HPB HLP hA2 c2
    replace pb0 := eq_true pb0
    replace pb1 := eq_true pb1
    by_cases c3 : y.f0.f0 ≤ pv
    ·have d3 := decide_eq_true c3
     have HF : Aside0 (snd32 a1_0 a1_1 (-1) l0_0 = false) := ⟨by rw [HS.out, HVV.out, HLP2.out, decide_eq_false (Int.not_lt.2 c3)]; rfl⟩
     obtain rfl : false = r := by rw [← HVB.out, if_pos HF.out]
     clear c3
     go_wp2
     have X2d := Aside0.mk (blk_drew X2.out)
     have X3d := Aside0.mk (blk_drew X3.out)
     have HBd := Aside0.mk (below_drew1 HB.out)
     have BTd := Aside0.mk (blk_drew BT.out)
     refine start_ (n := 30) (S := fun w' => w'.cell? ⟨g2, 0, none⟩ = some (.slice (some ad) l0_0.length c0_0) ∧ w'.cell? ⟨g3, 0, none⟩ = some (.int .i64 a1_0) ∧ w'.cell? ⟨g3, 1, none⟩ = some (.int .i64 a1_1) ∧ w'.cell? (ad.add (x6.toNat * 4)) = some (.int .i64 y.f0.f0) ∧ w'.cell? ⟨(ad.add (x6.toNat * 4)).block, (ad.add (x6.toNat * 4)).off + 1, none⟩ = some (.int .i64 y.f0.f1) ∧ w'.cell? ⟨(ad.add (x6.toNat * 4)).block, (ad.add (x6.toNat * 4)).off + 2, none⟩ = some (.int .i64 y.f1) ∧ w'.cell? ⟨(ad.add (x6.toNat * 4)).block, (ad.add (x6.toNat * 4)).off + 3, none⟩ = some (.int .i64 y.f2) ∧ w'.cell? (ad.add ((wrap64 (x6 - 1)).toNat * 4)) = some (.int .i64 pv)) (ds := []) #[false, false, false, false, false, false, false, false, false, false, false, false, false, false, false, false, false, false, false, false, false, false, false, false, false, false, false, false, false, false] (by kernel_rfl) rfl rfl ⟨blk_cell' X2d.out 0 _ rfl, blk_cell' X3d.out 0 _ rfl, blk_cell' X3d.out 1 _ rfl, ((HBd.out.cell (World.block_lt_of_cell? w _ hw0.out)).trans hw0.out), ((HBd.out.cell (World.block_lt_of_cell? w _ hw1.out)).trans hw1.out), ((HBd.out.cell (World.block_lt_of_cell? w _ hw2.out)).trans hw2.out), ((HBd.out.cell (World.block_lt_of_cell? w _ hw3.out)).trans hw3.out), ((HBd.out.cell (World.block_lt_of_cell? w _ hwp.out)).trans hwp.out)⟩ (fun hHeld => ?_)
     refine run_ [(0, some 39), (2, some 41), (1, some 40), (3, some 42), (4, some 43), (5, some 44)] ?_
     iterate 2 (refine runP (v := ?_) (a' := ?_) rfl rfl (by kernel_rfl) (fun _ _ _ h => h) (Or.inl ⟨by rfl, ?_⟩) ?_ ?_; rotate_left; (· intro w'; go_simp; with_reducible rfl); rotate_left; (· simp only [Act.put, List.setIfInBounds_toArray, List.set_cons_zero, List.set_cons_succ, i64_w, i32_w]; rfl))
     refine runT (v := ?_) (a' := ?_) rfl rfl (by kernel_rfl) (fun _ _ _ h => h) (Or.inl ⟨by rfl, ?_⟩) hHeld ?_ ?_; rotate_left; (· rintro w' ⟨s0, s1, s2, s3, s4, s5, s6, s7⟩; go_simp; with_reducible rfl); rotate_left; (· simp only [Act.put, List.setIfInBounds_toArray, List.set_cons_zero, List.set_cons_succ, i64_w, i32_w]; rfl)
     refine runP (v := ?_) (a' := ?_) rfl rfl (by kernel_rfl) (fun _ _ _ h => h) (Or.inl ⟨by rfl, ?_⟩) ?_ ?_; rotate_left; (· intro w'; go_simp; with_reducible rfl); rotate_left; (· simp only [Act.put, List.setIfInBounds_toArray, List.set_cons_zero, List.set_cons_succ, i64_w, i32_w]; rfl)
     iterate 2 (refine runT (v := ?_) (a' := ?_) rfl rfl (by kernel_rfl) (fun _ _ _ h => h) (Or.inl ⟨by rfl, ?_⟩) hHeld ?_ ?_; rotate_left; (· rintro w' ⟨s0, s1, s2, s3, s4, s5, s6, s7⟩; go_simp; with_reducible rfl); rotate_left; (· simp only [Act.put, List.setIfInBounds_toArray, List.set_cons_zero, List.set_cons_succ, i64_w, i32_w]; rfl))
     refine runE ?_
     refine one_ (i := 6) (N := some 45) #[true, true, true, true, true, true, true, false, false, false, false, false, false, false, false, false, false, false, false, false, false, false, false, false, false, false, false, false, false, false] rfl rfl (by kernel_rfl) (by decide) (fun K hK => ?_)
     refine gO Try.func26 #[.agg #[.int .i64 y.f0.f0, .int .i64 y.f0.f1, .int .i64 y.f1, .int .i64 y.f2], .agg #[.int .i64 a1_0, .int .i64 a1_1]] ?_
     with_reducible refine (slotmeshref12_Use.calls y.f0.f0 y.f0.f1 y.f1 y.f2 a1_0 a1_1 true _ HV.out).mono ?_
     rintro e wa ⟨rfl, hb⟩
     refine ⟨_, rfl, ?_⟩
     have X2a := Aside0.mk (blk_below X2d.out hb)
     have X3a := Aside0.mk (blk_below X3d.out hb)
     have HBa := Aside0.mk (below_step HBd.out hb)
     have BTa := Aside0.mk (blk_below BTd.out hb)
     clear hb
     refine hK.out _ _ ⟨blk_cell' X2a.out 0 _ rfl, blk_cell' X3a.out 0 _ rfl, blk_cell' X3a.out 1 _ rfl, ((HBa.out.cell (World.block_lt_of_cell? w _ hw0.out)).trans hw0.out), ((HBa.out.cell (World.block_lt_of_cell? w _ hw1.out)).trans hw1.out), ((HBa.out.cell (World.block_lt_of_cell? w _ hw2.out)).trans hw2.out), ((HBa.out.cell (World.block_lt_of_cell? w _ hw3.out)).trans hw3.out), ((HBa.out.cell (World.block_lt_of_cell? w _ hwp.out)).trans hwp.out)⟩ (fun hHeld => ?_)
     clear hK K
     refine norm_ (a' := ?_) ?_ ?_
     rotate_left
     ·show Act.put _ (some 45) _ = _
      simp only [Act.put, List.setIfInBounds_toArray, List.set_cons_zero, List.set_cons_succ, i64_w, i32_w]
      rfl
     refine run_ [(7, some 46), (8, some 47), (9, some 48), (10, some 49), (11, some 50), (12, some 51), (14, some 53), (15, some 54), (20, some 59), (22, some 61), (13, some 52), (16, some 55), (17, some 56), (18, some 57), (19, some 58), (21, some 60), (23, some 62), (24, some 63), (25, some 64), (26, some 65), (27, some 66), (28, some 67), (29, some 68)] ?_
     iterate 10 (refine runP (v := ?_) (a' := ?_) rfl rfl (by kernel_rfl) (fun _ _ _ h => h) (Or.inl ⟨by rfl, ?_⟩) ?_ ?_; rotate_left; (· intro w'; go_simp; with_reducible rfl); rotate_left; (· simp only [Act.put, List.setIfInBounds_toArray, List.set_cons_zero, List.set_cons_succ, i64_w, i32_w]; rfl))
     refine runT (v := ?_) (a' := ?_) rfl rfl (by kernel_rfl) (fun _ _ _ h => h) (Or.inl ⟨by rfl, ?_⟩) hHeld ?_ ?_; rotate_left; (· rintro w' ⟨s0, s1, s2, s3, s4, s5, s6, s7⟩; go_simp; with_reducible rfl); rotate_left; (· simp only [Act.put, List.setIfInBounds_toArray, List.set_cons_zero, List.set_cons_succ, i64_w, i32_w]; rfl)
     iterate 3 (refine runP (v := ?_) (a' := ?_) rfl rfl (by kernel_rfl) (fun _ _ _ h => h) (Or.inl ⟨by rfl, ?_⟩) ?_ ?_; rotate_left; (· intro w'; go_simp; with_reducible rfl); rotate_left; (· simp only [Act.put, List.setIfInBounds_toArray, List.set_cons_zero, List.set_cons_succ, i64_w, i32_w]; rfl))
     iterate 2 (refine runT (v := ?_) (a' := ?_) rfl rfl (by kernel_rfl) (fun _ _ _ h => h) (Or.inl ⟨by rfl, ?_⟩) hHeld ?_ ?_; rotate_left; (· rintro w' ⟨s0, s1, s2, s3, s4, s5, s6, s7⟩; go_simp; with_reducible rfl); rotate_left; (· simp only [Act.put, List.setIfInBounds_toArray, List.set_cons_zero, List.set_cons_succ, i64_w, i32_w]; rfl))
     iterate 3 (refine runP (v := ?_) (a' := ?_) rfl rfl (by kernel_rfl) (fun _ _ _ h => h) (Or.inl ⟨by rfl, ?_⟩) ?_ ?_; rotate_left; (· intro w'; go_simp; with_reducible rfl); rotate_left; (· simp only [Act.put, List.setIfInBounds_toArray, List.set_cons_zero, List.set_cons_succ, i64_w, i32_w]; rfl))
     refine runT (v := ?_) (a' := ?_) rfl rfl (by kernel_rfl) (fun _ _ _ h => h) (Or.inl ⟨by rfl, ?_⟩) hHeld ?_ ?_; rotate_left; (· rintro w' ⟨s0, s1, s2, s3, s4, s5, s6, s7⟩; go_simp; with_reducible rfl); rotate_left; (· simp only [Act.put, List.setIfInBounds_toArray, List.set_cons_zero, List.set_cons_succ, i64_w, i32_w]; rfl)
     iterate 3 (refine runP (v := ?_) (a' := ?_) rfl rfl (by kernel_rfl) (fun _ _ _ h => h) (Or.inl ⟨by rfl, ?_⟩) ?_ ?_; rotate_left; (· intro w'; go_simp; with_reducible rfl); rotate_left; (· simp only [Act.put, List.setIfInBounds_toArray, List.set_cons_zero, List.set_cons_succ, i64_w, i32_w]; rfl))
     refine runE ?_
     refine done_ (by kernel_rfl) ?_
     go_wp2
     go_ret
     exact ⟨rfl, HBa.out⟩
    have d3 := decide_eq_false c3
    have HSP2 : Aside0 (snd32 a1_0 a1_1 (-1) l0_0 = snd32 a1_0 a1_1 (last32 l0_0 (kk + 1)) (l0_0.drop (kk + 1))) := ⟨by rw [HS.out, HVV.out, HLP2.out, decide_eq_true (Int.not_le.1 c3)]; rfl⟩
    clear c3
    have hsl := v32_slot HVV.out
    have NS : Aside0 ((([] : List Int) ++ (l0_0.take kk).map (fun x => x.f0.f0)).length < 1000000) := ⟨by have := HSZ.out; have := HK.out; simp only [List.length_append, List.length_map, List.length_take, List.length_nil]; omega⟩
    have CV2 := Aside0.mk (cvec_step CV.out hsl.1 hsl.2 NS.out)
    have HCL : Aside0 (y.f0.f0.toNat < cs0.length) := ⟨by have := CV.out.1; omega⟩
    have q0 := eq_true hsl.1
    have q1 : (y.f0.f0 < (n : Int)) = True := eq_true (by have := HN.out; omega)
    clear hsl
    go_wp2
    have X2d := Aside0.mk (blk_drew X2.out)
    have X3d := Aside0.mk (blk_drew X3.out)
    have HBd := Aside0.mk (below_drew1 HB.out)
    have BTd := Aside0.mk (blk_drew BT.out)
    refine start_ (n := 30) (S := fun w' => w'.cell? ⟨g2, 0, none⟩ = some (.slice (some ad) l0_0.length c0_0) ∧ w'.cell? ⟨g3, 0, none⟩ = some (.int .i64 a1_0) ∧ w'.cell? ⟨g3, 1, none⟩ = some (.int .i64 a1_1) ∧ w'.cell? (ad.add (x6.toNat * 4)) = some (.int .i64 y.f0.f0) ∧ w'.cell? ⟨(ad.add (x6.toNat * 4)).block, (ad.add (x6.toNat * 4)).off + 1, none⟩ = some (.int .i64 y.f0.f1) ∧ w'.cell? ⟨(ad.add (x6.toNat * 4)).block, (ad.add (x6.toNat * 4)).off + 2, none⟩ = some (.int .i64 y.f1) ∧ w'.cell? ⟨(ad.add (x6.toNat * 4)).block, (ad.add (x6.toNat * 4)).off + 3, none⟩ = some (.int .i64 y.f2) ∧ w'.cell? (ad.add ((wrap64 (x6 - 1)).toNat * 4)) = some (.int .i64 pv)) (ds := []) #[false, false, false, false, false, false, false, false, false, false, false, false, false, false, false, false, false, false, false, false, false, false, false, false, false, false, false, false, false, false] (by kernel_rfl) rfl rfl ⟨blk_cell' X2d.out 0 _ rfl, blk_cell' X3d.out 0 _ rfl, blk_cell' X3d.out 1 _ rfl, ((HBd.out.cell (World.block_lt_of_cell? w _ hw0.out)).trans hw0.out), ((HBd.out.cell (World.block_lt_of_cell? w _ hw1.out)).trans hw1.out), ((HBd.out.cell (World.block_lt_of_cell? w _ hw2.out)).trans hw2.out), ((HBd.out.cell (World.block_lt_of_cell? w _ hw3.out)).trans hw3.out), ((HBd.out.cell (World.block_lt_of_cell? w _ hwp.out)).trans hwp.out)⟩ (fun hHeld => ?_)
    refine run_ [(0, some 39), (2, some 41), (1, some 40), (3, some 42), (4, some 43), (5, some 44)] ?_
    iterate 2 (refine runP (v := ?_) (a' := ?_) rfl rfl (by kernel_rfl) (fun _ _ _ h => h) (Or.inl ⟨by rfl, ?_⟩) ?_ ?_; rotate_left; (· intro w'; go_simp; with_reducible rfl); rotate_left; (· simp only [Act.put, List.setIfInBounds_toArray, List.set_cons_zero, List.set_cons_succ, i64_w, i32_w]; rfl))
    refine runT (v := ?_) (a' := ?_) rfl rfl (by kernel_rfl) (fun _ _ _ h => h) (Or.inl ⟨by rfl, ?_⟩) hHeld ?_ ?_; rotate_left; (· rintro w' ⟨s0, s1, s2, s3, s4, s5, s6, s7⟩; go_simp; with_reducible rfl); rotate_left; (· simp only [Act.put, List.setIfInBounds_toArray, List.set_cons_zero, List.set_cons_succ, i64_w, i32_w]; rfl)
    refine runP (v := ?_) (a' := ?_) rfl rfl (by kernel_rfl) (fun _ _ _ h => h) (Or.inl ⟨by rfl, ?_⟩) ?_ ?_; rotate_left; (· intro w'; go_simp; with_reducible rfl); rotate_left; (· simp only [Act.put, List.setIfInBounds_toArray, List.set_cons_zero, List.set_cons_succ, i64_w, i32_w]; rfl)
    iterate 2 (refine runT (v := ?_) (a' := ?_) rfl rfl (by kernel_rfl) (fun _ _ _ h => h) (Or.inl ⟨by rfl, ?_⟩) hHeld ?_ ?_; rotate_left; (· rintro w' ⟨s0, s1, s2, s3, s4, s5, s6, s7⟩; go_simp; with_reducible rfl); rotate_left; (· simp only [Act.put, List.setIfInBounds_toArray, List.set_cons_zero, List.set_cons_succ, i64_w, i32_w]; rfl))
    refine runE ?_
    refine one_ (i := 6) (N := some 45) #[true, true, true, true, true, true, true, false, false, false, false, false, false, false, false, false, false, false, false, false, false, false, false, false, false, false, false, false, false, false] rfl rfl (by kernel_rfl) (by decide) (fun K hK => ?_)
    refine gO Try.func26 #[.agg #[.int .i64 y.f0.f0, .int .i64 y.f0.f1, .int .i64 y.f1, .int .i64 y.f2], .agg #[.int .i64 a1_0, .int .i64 a1_1]] ?_
    with_reducible refine (slotmeshref12_Use.calls y.f0.f0 y.f0.f1 y.f1 y.f2 a1_0 a1_1 true _ HV.out).mono ?_
    rintro e wa ⟨rfl, hb⟩
    refine ⟨_, rfl, ?_⟩
    have X2a := Aside0.mk (blk_below X2d.out hb)
    have X3a := Aside0.mk (blk_below X3d.out hb)
    have HBa := Aside0.mk (below_step HBd.out hb)
    have BTa := Aside0.mk (blk_below BTd.out hb)
    clear hb
    refine hK.out _ _ ⟨blk_cell' X2a.out 0 _ rfl, blk_cell' X3a.out 0 _ rfl, blk_cell' X3a.out 1 _ rfl, ((HBa.out.cell (World.block_lt_of_cell? w _ hw0.out)).trans hw0.out), ((HBa.out.cell (World.block_lt_of_cell? w _ hw1.out)).trans hw1.out), ((HBa.out.cell (World.block_lt_of_cell? w _ hw2.out)).trans hw2.out), ((HBa.out.cell (World.block_lt_of_cell? w _ hw3.out)).trans hw3.out), ((HBa.out.cell (World.block_lt_of_cell? w _ hwp.out)).trans hwp.out)⟩ (fun hHeld => ?_)
    clear hK K
    refine norm_ (a' := ?_) ?_ ?_
    rotate_left
    ·show Act.put _ (some 45) _ = _
     simp only [Act.put, List.setIfInBounds_toArray, List.set_cons_zero, List.set_cons_succ, i64_w, i32_w]
     rfl
    refine run_ [(7, some 46), (8, some 47), (9, some 48), (10, some 49), (11, some 50), (12, some 51), (14, some 53), (15, some 54), (20, some 59), (22, some 61), (13, some 52), (16, some 55), (17, some 56), (18, some 57), (19, some 58), (21, some 60), (23, some 62), (24, some 63), (25, some 64), (26, some 65), (27, some 66), (28, some 67), (29, some 68)] ?_
    iterate 10 (refine runP (v := ?_) (a' := ?_) rfl rfl (by kernel_rfl) (fun _ _ _ h => h) (Or.inl ⟨by rfl, ?_⟩) ?_ ?_; rotate_left; (· intro w'; go_simp; with_reducible rfl); rotate_left; (· simp only [Act.put, List.setIfInBounds_toArray, List.set_cons_zero, List.set_cons_succ, i64_w, i32_w]; rfl))
    refine runT (v := ?_) (a' := ?_) rfl rfl (by kernel_rfl) (fun _ _ _ h => h) (Or.inl ⟨by rfl, ?_⟩) hHeld ?_ ?_; rotate_left; (· rintro w' ⟨s0, s1, s2, s3, s4, s5, s6, s7⟩; go_simp; with_reducible rfl); rotate_left; (· simp only [Act.put, List.setIfInBounds_toArray, List.set_cons_zero, List.set_cons_succ, i64_w, i32_w]; rfl)
    iterate 3 (refine runP (v := ?_) (a' := ?_) rfl rfl (by kernel_rfl) (fun _ _ _ h => h) (Or.inl ⟨by rfl, ?_⟩) ?_ ?_; rotate_left; (· intro w'; go_simp; with_reducible rfl); rotate_left; (· simp only [Act.put, List.setIfInBounds_toArray, List.set_cons_zero, List.set_cons_succ, i64_w, i32_w]; rfl))
    iterate 2 (refine runT (v := ?_) (a' := ?_) rfl rfl (by kernel_rfl) (fun _ _ _ h => h) (Or.inl ⟨by rfl, ?_⟩) hHeld ?_ ?_; rotate_left; (· rintro w' ⟨s0, s1, s2, s3, s4, s5, s6, s7⟩; go_simp; with_reducible rfl); rotate_left; (· simp only [Act.put, List.setIfInBounds_toArray, List.set_cons_zero, List.set_cons_succ, i64_w, i32_w]; rfl))
    iterate 3 (refine runP (v := ?_) (a' := ?_) rfl rfl (by kernel_rfl) (fun _ _ _ h => h) (Or.inl ⟨by rfl, ?_⟩) ?_ ?_; rotate_left; (· intro w'; go_simp; with_reducible rfl); rotate_left; (· simp only [Act.put, List.setIfInBounds_toArray, List.set_cons_zero, List.set_cons_succ, i64_w, i32_w]; rfl))
    refine runT (v := ?_) (a' := ?_) rfl rfl (by kernel_rfl) (fun _ _ _ h => h) (Or.inl ⟨by rfl, ?_⟩) hHeld ?_ ?_; rotate_left; (· rintro w' ⟨s0, s1, s2, s3, s4, s5, s6, s7⟩; go_simp; with_reducible rfl); rotate_left; (· simp only [Act.put, List.setIfInBounds_toArray, List.set_cons_zero, List.set_cons_succ, i64_w, i32_w]; rfl)
    iterate 3 (refine runP (v := ?_) (a' := ?_) rfl rfl (by kernel_rfl) (fun _ _ _ h => h) (Or.inl ⟨by rfl, ?_⟩) ?_ ?_; rotate_left; (· intro w'; go_simp; with_reducible rfl); rotate_left; (· simp only [Act.put, List.setIfInBounds_toArray, List.set_cons_zero, List.set_cons_succ, i64_w, i32_w]; rfl))
    refine runE ?_
    refine done_ (by kernel_rfl) ?_
    have y2 := blk_cell' X2a.out 0 _ rfl
    have e0 := (HBa.out.cell (World.block_lt_of_cell? w _ hw0.out)).trans hw0.out
    have t0 := blk_cell' BTa.out y.f0.f0.toNat _ (encI_get HCL.out)
    have f0 := blk_frozen BTa.out y.f0.f0.toNat
    go_wp2
    go_roundg (l0_0.length - (kk + 1))
    case measure => have := HK.out; have := of_eq_true c1; omega
    case rel => exact ⟨wrap64 (x6 + 1), kk + 1, _, rfl, ⟨by have := HK.out; have := HSZ.out; unfold wrap64; omega, by have := HK.out; have := of_eq_true c1; omega, Nat.le_refl _⟩, HSP2, ⟨by rw [HTK.out, ← List.append_assoc]; exact CV2.out⟩, ⟨by rw [← encI_set]; exact blk_put BTa.out _ _ rfl⟩, ⟨blk_set_far X2a.out NE2.out _⟩, ⟨blk_set_far X3a.out NE3.out _⟩, ⟨below_set HBa.out GET.out⟩⟩
   have d2 := decide_eq_false c2
   have HSP2 : Aside0 (snd32 a1_0 a1_1 (-1) l0_0 = snd32 a1_0 a1_1 (last32 l0_0 (kk + 1)) (l0_0.drop (kk + 1))) := ⟨by
    have hk0 : kk = 0 := by have := HK.out.1; omega
    have hl : last32 l0_0 kk = -1 := by rw [hk0]; rfl
    have hs := (v32_slot HVV.out).1
    rw [HS.out, HVV.out, hl, decide_eq_true (show (-1 : Int) < y.f0.f0 by omega)]; rfl⟩
   clear c2 HPB HLP
   have hsl := v32_slot HVV.out
   have NS : Aside0 ((([] : List Int) ++ (l0_0.take kk).map (fun x => x.f0.f0)).length < 1000000) := ⟨by have := HSZ.out; have := HK.out; simp only [List.length_append, List.length_map, List.length_take, List.length_nil]; omega⟩
   have CV2 := Aside0.mk (cvec_step CV.out hsl.1 hsl.2 NS.out)
   have HCL : Aside0 (y.f0.f0.toNat < cs0.length) := ⟨by have := CV.out.1; omega⟩
   have q0 := eq_true hsl.1
   have q1 : (y.f0.f0 < (n : Int)) = True := eq_true (by have := HN.out; omega)
   clear hsl
   go_wp2
   have X2d := Aside0.mk (blk_drew X2.out)
   have X3d := Aside0.mk (blk_drew X3.out)
   have HBd := Aside0.mk (below_drew1 HB.out)
   have BTd := Aside0.mk (blk_drew BT.out)
   refine start_ (n := 30) (S := fun w' => w'.cell? ⟨g2, 0, none⟩ = some (.slice (some ad) l0_0.length c0_0) ∧ w'.cell? ⟨g3, 0, none⟩ = some (.int .i64 a1_0) ∧ w'.cell? ⟨g3, 1, none⟩ = some (.int .i64 a1_1) ∧ w'.cell? (ad.add (x6.toNat * 4)) = some (.int .i64 y.f0.f0) ∧ w'.cell? ⟨(ad.add (x6.toNat * 4)).block, (ad.add (x6.toNat * 4)).off + 1, none⟩ = some (.int .i64 y.f0.f1) ∧ w'.cell? ⟨(ad.add (x6.toNat * 4)).block, (ad.add (x6.toNat * 4)).off + 2, none⟩ = some (.int .i64 y.f1) ∧ w'.cell? ⟨(ad.add (x6.toNat * 4)).block, (ad.add (x6.toNat * 4)).off + 3, none⟩ = some (.int .i64 y.f2)) (ds := []) #[false, false, false, false, false, false, false, false, false, false, false, false, false, false, false, false, false, false, false, false, false, false, false, false, false, false, false, false, false, false] (by kernel_rfl) rfl rfl ⟨blk_cell' X2d.out 0 _ rfl, blk_cell' X3d.out 0 _ rfl, blk_cell' X3d.out 1 _ rfl, ((HBd.out.cell (World.block_lt_of_cell? w _ hw0.out)).trans hw0.out), ((HBd.out.cell (World.block_lt_of_cell? w _ hw1.out)).trans hw1.out), ((HBd.out.cell (World.block_lt_of_cell? w _ hw2.out)).trans hw2.out), ((HBd.out.cell (World.block_lt_of_cell? w _ hw3.out)).trans hw3.out)⟩ (fun hHeld => ?_)
   refine run_ [(0, some 39), (2, some 41), (1, some 40), (3, some 42), (4, some 43), (5, some 44)] ?_
   iterate 2 (refine runP (v := ?_) (a' := ?_) rfl rfl (by kernel_rfl) (fun _ _ _ h => h) (Or.inl ⟨by rfl, ?_⟩) ?_ ?_; rotate_left; (· intro w'; go_simp; with_reducible rfl); rotate_left; (· simp only [Act.put, List.setIfInBounds_toArray, List.set_cons_zero, List.set_cons_succ, i64_w, i32_w]; rfl))
   refine runT (v := ?_) (a' := ?_) rfl rfl (by kernel_rfl) (fun _ _ _ h => h) (Or.inl ⟨by rfl, ?_⟩) hHeld ?_ ?_; rotate_left; (· rintro w' ⟨s0, s1, s2, s3, s4, s5, s6⟩; go_simp; with_reducible rfl); rotate_left; (· simp only [Act.put, List.setIfInBounds_toArray, List.set_cons_zero, List.set_cons_succ, i64_w, i32_w]; rfl)
   refine runP (v := ?_) (a' := ?_) rfl rfl (by kernel_rfl) (fun _ _ _ h => h) (Or.inl ⟨by rfl, ?_⟩) ?_ ?_; rotate_left; (· intro w'; go_simp; with_reducible rfl); rotate_left; (· simp only [Act.put, List.setIfInBounds_toArray, List.set_cons_zero, List.set_cons_succ, i64_w, i32_w]; rfl)
   iterate 2 (refine runT (v := ?_) (a' := ?_) rfl rfl (by kernel_rfl) (fun _ _ _ h => h) (Or.inl ⟨by rfl, ?_⟩) hHeld ?_ ?_; rotate_left; (· rintro w' ⟨s0, s1, s2, s3, s4, s5, s6⟩; go_simp; with_reducible rfl); rotate_left; (· simp only [Act.put, List.setIfInBounds_toArray, List.set_cons_zero, List.set_cons_succ, i64_w, i32_w]; rfl))
   refine runE ?_
   refine one_ (i := 6) (N := some 45) #[true, true, true, true, true, true, true, false, false, false, false, false, false, false, false, false, false, false, false, false, false, false, false, false, false, false, false, false, false, false] rfl rfl (by kernel_rfl) (by decide) (fun K hK => ?_)
   refine gO Try.func26 #[.agg #[.int .i64 y.f0.f0, .int .i64 y.f0.f1, .int .i64 y.f1, .int .i64 y.f2], .agg #[.int .i64 a1_0, .int .i64 a1_1]] ?_
   with_reducible refine (slotmeshref12_Use.calls y.f0.f0 y.f0.f1 y.f1 y.f2 a1_0 a1_1 true _ HV.out).mono ?_
   rintro e wa ⟨rfl, hb⟩
   refine ⟨_, rfl, ?_⟩
   have X2a := Aside0.mk (blk_below X2d.out hb)
   have X3a := Aside0.mk (blk_below X3d.out hb)
   have HBa := Aside0.mk (below_step HBd.out hb)
   have BTa := Aside0.mk (blk_below BTd.out hb)
   clear hb
   refine hK.out _ _ ⟨blk_cell' X2a.out 0 _ rfl, blk_cell' X3a.out 0 _ rfl, blk_cell' X3a.out 1 _ rfl, ((HBa.out.cell (World.block_lt_of_cell? w _ hw0.out)).trans hw0.out), ((HBa.out.cell (World.block_lt_of_cell? w _ hw1.out)).trans hw1.out), ((HBa.out.cell (World.block_lt_of_cell? w _ hw2.out)).trans hw2.out), ((HBa.out.cell (World.block_lt_of_cell? w _ hw3.out)).trans hw3.out)⟩ (fun hHeld => ?_)
   clear hK K
   refine norm_ (a' := ?_) ?_ ?_
   rotate_left
   ·show Act.put _ (some 45) _ = _
    simp only [Act.put, List.setIfInBounds_toArray, List.set_cons_zero, List.set_cons_succ, i64_w, i32_w]
    rfl
   refine run_ [(7, some 46), (8, some 47), (9, some 48), (10, some 49), (11, some 50), (12, some 51), (13, some 52), (14, some 53), (15, some 54), (16, some 55), (17, some 56), (18, some 57), (19, some 58), (20, some 59), (21, some 60), (22, some 61), (23, some 62), (24, some 63), (25, some 64), (26, some 65), (27, some 66), (28, some 67), (29, some 68)] ?_
   iterate 5 (refine runP (v := ?_) (a' := ?_) rfl rfl (by kernel_rfl) (fun _ _ _ h => h) (Or.inl ⟨by rfl, ?_⟩) ?_ ?_; rotate_left; (· intro w'; go_simp; with_reducible rfl); rotate_left; (· simp only [Act.put, List.setIfInBounds_toArray, List.set_cons_zero, List.set_cons_succ, i64_w, i32_w]; rfl))
   iterate 16 (refine runP (v := undef) (a' := ?_) rfl rfl (by kernel_rfl) (fun _ _ _ h => h) (Or.inr ⟨by rfl, rfl⟩) ?_ ?_; rotate_left; (· simp only [Act.put, List.setIfInBounds_toArray, List.set_cons_zero, List.set_cons_succ, i64_w, i32_w]; rfl))
   iterate 2 (refine runP (v := ?_) (a' := ?_) rfl rfl (by kernel_rfl) (fun _ _ _ h => h) (Or.inl ⟨by rfl, ?_⟩) ?_ ?_; rotate_left; (· intro w'; go_simp; with_reducible rfl); rotate_left; (· simp only [Act.put, List.setIfInBounds_toArray, List.set_cons_zero, List.set_cons_succ, i64_w, i32_w]; rfl))
   refine runE ?_
   refine done_ (by kernel_rfl) ?_
   have y2 := blk_cell' X2a.out 0 _ rfl
   have e0 := (HBa.out.cell (World.block_lt_of_cell? w _ hw0.out)).trans hw0.out
   have t0 := blk_cell' BTa.out y.f0.f0.toNat _ (encI_get HCL.out)
   have f0 := blk_frozen BTa.out y.f0.f0.toNat
   go_wp2
   go_roundg (l0_0.length - (kk + 1))
   case measure => have := HK.out; have := of_eq_true c1; omega
   case rel => exact ⟨wrap64 (x6 + 1), kk + 1, _, rfl, ⟨by have := HK.out; have := HSZ.out; unfold wrap64; omega, by have := HK.out; have := of_eq_true c1; omega, Nat.le_refl _⟩, HSP2, ⟨by rw [HTK.out, ← List.append_assoc]; exact CV2.out⟩, ⟨by rw [← encI_set]; exact blk_put BTa.out _ _ rfl⟩, ⟨blk_set_far X2a.out NE2.out _⟩, ⟨blk_set_far X3a.out NE3.out _⟩, ⟨below_set HBa.out GET.out⟩⟩
  have d1 := decide_eq_false c1
  have HE : Aside0 (kk = l0_0.length) := ⟨by have := HK.out; omega⟩
  have HT : Aside0 (snd32 a1_0 a1_1 (-1) l0_0 = true) := ⟨by rw [HSP.out, List.drop_of_length_le (by have := HE.out; omega)]; rfl⟩
  have CW : Aside0 (Cvec cs0 a1_1 (([] : List Int) ++ l0_0.map (fun x => x.f0.f0))) := ⟨by have h1 := CV.out; rwa [List.take_of_length_le (by have := HE.out; omega)] at h1⟩
  rw [HT.out, if_neg (by decide)] at HVB
  have y2 := blk_cell' X2.out 0 _ rfl
  have HT0 := HT
  clear HK HSP HE HT c1 CV
  have CV := CW
  clear CW
  go_wp2
  have HB_0 := HB
  go_loopg [7] l0_1.length (fun gg s6 wr => ∃ (x6 : Int) (kk : Nat) (cs : List Int), s6 = .int .i64 x6 ∧ Aside0 (x6 = (kk : Int) ∧ kk ≤ l0_1.length ∧ l0_1.length - kk ≤ gg) ∧ Aside0 (snd34 a1_0 a1_1 (-1) l0_1 = snd34 a1_0 a1_1 (last34 l0_1 kk) (l0_1.drop kk)) ∧ Aside0 (Cvec cs a1_1 (([] : List Int) ++ l0_0.map (fun x => x.f0.f0) ++ (l0_1.take kk).map (fun x => x.f0.f0))) ∧ Aside0 (wr.heap[gt]? = some (.cells (encI cs) 3 (0, 0))) ∧ Aside0 (wr.heap[g2]? = some (.cells #[.slice A0_0 l0_0.length c0_0, .slice A0_1 l0_1.length c0_1, .slice A0_2 l0_2.length c0_2] 26 (0, 0))) ∧ Aside0 (wr.heap[g3]? = some (.cells #[.int .i64 a1_0, .int .i64 a1_1] 28 (0, 0))) ∧ Aside0 (Below w.heap.size w wr))
  case atStart => exact ⟨0, 0, cs0, rfl, ⟨rfl, Nat.zero_le _, Nat.le_refl _⟩, ⟨by rw [List.drop_zero]; rfl⟩, ⟨by rw [List.take_zero, List.map_nil, List.append_nil]; exact CV.out⟩, BT, X2, X3, HB⟩
  case round =>
   clear BT X2 X3 HB CV HB_0
   obtain ⟨x6, kk, cs1, rfl, HK, HSP, CV, BT, X2, X3, HB⟩ := hrel
   by_cases c1 : x6 < (l0_1.length : Int)
   ·have d1 := decide_eq_true c1
    have p1 : 0 ≤ x6 := by have := HK.out.1; omega
    have hkl : kk < l0_1.length := by have := HK.out.1; omega
    obtain ⟨ad, hA, h0, h1, h2, h3, h4⟩ := at_T34 HR1.out x6 p1 c1
    have HS : Aside0 (snd34 a1_0 a1_1 (-1) l0_1 = (v34 a1_0 a1_1 (rd_T34 l0_1 x6) && decide (last34 l0_1 kk < (rd_T34 l0_1 x6).f0.f0) && snd34 a1_0 a1_1 (last34 l0_1 (kk + 1)) (l0_1.drop (kk + 1)))) := ⟨by
     have e : rd_T34 l0_1 x6 = l0_1.getD kk z34 := by unfold rd_T34; rw [HK.out.1, Int.toNat_natCast]
     rw [HSP.out, e]
     exact snd34_at hkl⟩
    have HLS : Aside0 (last34 l0_1 (kk + 1) = (rd_T34 l0_1 x6).f0.f0) := ⟨by unfold last34 rd_T34; rw [if_neg (Nat.succ_ne_zero _), Nat.add_sub_cancel, HK.out.1, Int.toNat_natCast]⟩
    have HTK : Aside0 ((l0_1.take (kk + 1)).map (fun x => x.f0.f0) = (l0_1.take kk).map (fun x => x.f0.f0) ++ [(rd_T34 l0_1 x6).f0.f0]) := ⟨by
     have e : rd_T34 l0_1 x6 = l0_1[kk] := by unfold rd_T34; rw [HK.out.1, Int.toNat_natCast, List.getD_eq_getElem?_getD, List.getElem?_eq_getElem hkl]; rfl
     rw [List.take_succ_eq_append_getElem hkl, List.map_append, e]; rfl⟩
    have HLP : Aside0 (0 < x6 → last34 l0_1 kk = (rd_T34 l0_1 (wrap64 (x6 - 1))).f0.f0) := ⟨fun h => by
     have e1 : (wrap64 (x6 - 1)).toNat = kk - 1 := by have := HK.out; have := HSZ.out; unfold wrap64; omega
     unfold last34 rd_T34; rw [if_neg (by have := HK.out.1; omega), e1]⟩
    have HPB : Aside0 (0 < x6 → 0 ≤ wrap64 (x6 - 1) ∧ wrap64 (x6 - 1) < (l0_1.length : Int)) := ⟨fun h => by have := HK.out.1; have := HSZ.out; unfold wrap64; omega⟩
    generalize rd_T34 l0_1 x6 = y at h0 h1 h2 h3 h4 HS HLS HTK
    subst hA
    have hw0 := Aside0.mk h0
    have hw1 := Aside0.mk h1
    have hw2 := Aside0.mk h2
    have hw3 := Aside0.mk h3
    have hw4 := Aside0.mk h4
    clear h0 h1 h2 h3 h4 hkl
    replace p1 := eq_true p1
    replace c1 := eq_true c1
    have HV0 := Aside0.mk (rv34_eq a1_0 a1_1 y)
    have y2 := blk_cell' X2.out 1 _ rfl
    cases hv : v34 a1_0 a1_1 y
    ·have HV := Aside0.mk (HV0.out.trans (congrArg some hv))
     have HF : Aside0 (snd34 a1_0 a1_1 (-1) l0_1 = false) := ⟨by rw [HS.out, hv]; rfl⟩
     obtain rfl : false = r := by rw [← HVB.out, if_pos HF.out]
     clear hv HV0
     go_wp2
     have X2d := Aside0.mk (blk_drew X2.out)
     have X3d := Aside0.mk (blk_drew X3.out)
     have HBd := Aside0.mk (below_drew1 HB.out)
     have BTd := Aside0.mk (blk_drew BT.out)
     refine start_ (n := 30) (S := fun w' => w'.cell? ⟨g2, 1, none⟩ = some (.slice (some ad) l0_1.length c0_1) ∧ w'.cell? ⟨g3, 0, none⟩ = some (.int .i64 a1_0) ∧ w'.cell? ⟨g3, 1, none⟩ = some (.int .i64 a1_1) ∧ w'.cell? (ad.add (x6.toNat * 5)) = some (.int .i64 y.f0.f0) ∧ w'.cell? ⟨(ad.add (x6.toNat * 5)).block, (ad.add (x6.toNat * 5)).off + 1, none⟩ = some (.int .i64 y.f0.f1) ∧ w'.cell? ⟨(ad.add (x6.toNat * 5)).block, (ad.add (x6.toNat * 5)).off + 2, none⟩ = some (.int .i64 y.f1) ∧ w'.cell? ⟨(ad.add (x6.toNat * 5)).block, (ad.add (x6.toNat * 5)).off + 3, none⟩ = some (.int .i64 y.f2) ∧ w'.cell? ⟨(ad.add (x6.toNat * 5)).block, (ad.add (x6.toNat * 5)).off + 4, none⟩ = some (.int .i64 y.f3)) (ds := []) #[false, false, false, false, false, false, false, false, false, false, false, false, false, false, false, false, false, false, false, false, false, false, false, false, false, false, false, false, false, false] (by kernel_rfl) rfl rfl ⟨blk_cell' X2d.out 1 _ rfl, blk_cell' X3d.out 0 _ rfl, blk_cell' X3d.out 1 _ rfl, ((HBd.out.cell (World.block_lt_of_cell? w _ hw0.out)).trans hw0.out), ((HBd.out.cell (World.block_lt_of_cell? w _ hw1.out)).trans hw1.out), ((HBd.out.cell (World.block_lt_of_cell? w _ hw2.out)).trans hw2.out), ((HBd.out.cell (World.block_lt_of_cell? w _ hw3.out)).trans hw3.out), ((HBd.out.cell (World.block_lt_of_cell? w _ hw4.out)).trans hw4.out)⟩ (fun hHeld => ?_)
     refine run_ [(0, some 88), (2, some 90), (1, some 89), (3, some 91), (4, some 92), (5, some 93)] ?_
     iterate 2 (refine runP (v := ?_) (a' := ?_) rfl rfl (by kernel_rfl) (fun _ _ _ h => h) (Or.inl ⟨by rfl, ?_⟩) ?_ ?_; rotate_left; (· intro w'; go_simp; with_reducible rfl); rotate_left; (· simp only [Act.put, List.setIfInBounds_toArray, List.set_cons_zero, List.set_cons_succ, i64_w, i32_w]; rfl))
     refine runT (v := ?_) (a' := ?_) rfl rfl (by kernel_rfl) (fun _ _ _ h => h) (Or.inl ⟨by rfl, ?_⟩) hHeld ?_ ?_; rotate_left; (· rintro w' ⟨s0, s1, s2, s3, s4, s5, s6, s7⟩; go_simp; with_reducible rfl); rotate_left; (· simp only [Act.put, List.setIfInBounds_toArray, List.set_cons_zero, List.set_cons_succ, i64_w, i32_w]; rfl)
     refine runP (v := ?_) (a' := ?_) rfl rfl (by kernel_rfl) (fun _ _ _ h => h) (Or.inl ⟨by rfl, ?_⟩) ?_ ?_; rotate_left; (· intro w'; go_simp; with_reducible rfl); rotate_left; (· simp only [Act.put, List.setIfInBounds_toArray, List.set_cons_zero, List.set_cons_succ, i64_w, i32_w]; rfl)
     iterate 2 (refine runT (v := ?_) (a' := ?_) rfl rfl (by kernel_rfl) (fun _ _ _ h => h) (Or.inl ⟨by rfl, ?_⟩) hHeld ?_ ?_; rotate_left; (· rintro w' ⟨s0, s1, s2, s3, s4, s5, s6, s7⟩; go_simp; with_reducible rfl); rotate_left; (· simp only [Act.put, List.setIfInBounds_toArray, List.set_cons_zero, List.set_cons_succ, i64_w, i32_w]; rfl))
     refine runE ?_
     refine one_ (i := 6) (N := some 94) #[true, true, true, true, true, true, true, false, false, false, false, false, false, false, false, false, false, false, false, false, false, false, false, false, false, false, false, false, false, false] rfl rfl (by kernel_rfl) (by decide) (fun K hK => ?_)
     refine gO Try.func39 #[.agg #[.int .i64 y.f0.f0, .int .i64 y.f0.f1, .int .i64 y.f1, .int .i64 y.f2, .int .i64 y.f3], .agg #[.int .i64 a1_0, .int .i64 a1_1]] ?_
     with_reducible refine (slotmeshref12_Grant.calls y.f0.f0 y.f0.f1 y.f1 y.f2 y.f3 a1_0 a1_1 false _ HV.out).mono ?_
     rintro e wa ⟨rfl, hb⟩
     refine ⟨_, rfl, ?_⟩
     have X2a := Aside0.mk (blk_below X2d.out hb)
     have X3a := Aside0.mk (blk_below X3d.out hb)
     have HBa := Aside0.mk (below_step HBd.out hb)
     have BTa := Aside0.mk (blk_below BTd.out hb)
     clear hb
     refine hK.out _ _ ⟨blk_cell' X2a.out 1 _ rfl, blk_cell' X3a.out 0 _ rfl, blk_cell' X3a.out 1 _ rfl, ((HBa.out.cell (World.block_lt_of_cell? w _ hw0.out)).trans hw0.out), ((HBa.out.cell (World.block_lt_of_cell? w _ hw1.out)).trans hw1.out), ((HBa.out.cell (World.block_lt_of_cell? w _ hw2.out)).trans hw2.out), ((HBa.out.cell (World.block_lt_of_cell? w _ hw3.out)).trans hw3.out), ((HBa.out.cell (World.block_lt_of_cell? w _ hw4.out)).trans hw4.out)⟩ (fun hHeld => ?_)
     clear hK K
     refine norm_ (a' := ?_) ?_ ?_
     rotate_left
     ·show Act.put _ (some 94) _ = _
      simp only [Act.put, List.setIfInBounds_toArray, List.set_cons_zero, List.set_cons_succ, i64_w, i32_w]
      rfl
     refine run_ [(7, some 95), (8, some 96), (9, some 97), (10, some 98), (11, some 99), (12, some 100), (13, some 101), (14, some 102), (15, some 103), (16, some 104), (17, some 105), (18, some 106), (19, some 107), (20, some 108), (21, some 109), (22, some 110), (23, some 111), (24, some 112), (25, some 113), (26, some 114), (27, some 115), (28, some 116), (29, some 117)] ?_
     iterate 2 (refine runP (v := ?_) (a' := ?_) rfl rfl (by kernel_rfl) (fun _ _ _ h => h) (Or.inl ⟨by rfl, ?_⟩) ?_ ?_; rotate_left; (· intro w'; go_simp; with_reducible rfl); rotate_left; (· simp only [Act.put, List.setIfInBounds_toArray, List.set_cons_zero, List.set_cons_succ, i64_w, i32_w]; rfl))
     iterate 20 (refine runP (v := undef) (a' := ?_) rfl rfl (by kernel_rfl) (fun _ _ _ h => h) (Or.inr ⟨by rfl, rfl⟩) ?_ ?_; rotate_left; (· simp only [Act.put, List.setIfInBounds_toArray, List.set_cons_zero, List.set_cons_succ, i64_w, i32_w]; rfl))
     refine runP (v := ?_) (a' := ?_) rfl rfl (by kernel_rfl) (fun _ _ _ h => h) (Or.inl ⟨by rfl, ?_⟩) ?_ ?_; rotate_left; (· intro w'; go_simp; with_reducible rfl); rotate_left; (· simp only [Act.put, List.setIfInBounds_toArray, List.set_cons_zero, List.set_cons_succ, i64_w, i32_w]; rfl)
     refine runE ?_
     refine done_ (by kernel_rfl) ?_
     go_wp2
     go_ret
     exact ⟨rfl, HBa.out⟩
    have HV := Aside0.mk (HV0.out.trans (congrArg some hv))
    have HVV := Aside0.mk hv
    clear hv HV0
    by_cases c2 : 0 < x6
    ·have d2 := decide_eq_true c2
     obtain ⟨pb0, pb1⟩ := HPB.out c2
     obtain ⟨ad2, hA2, h0, hrest⟩ := at_T34 HR1.out (wrap64 (x6 - 1)) pb0 pb1
     obtain rfl : ad = ad2 := by injection hA2
     have HLP2 := Aside0.mk (HLP.out c2)
     generalize (rd_T34 l0_1 (wrap64 (x6 - 1))).f0.f0 = pv at h0 HLP2
     have hwp := Aside0.mk h0
     clear h0 hrest HPB HLP hA2 c2
     replace pb0 := eq_true pb0
     replace pb1 := eq_true pb1
     by_cases c3 : y.f0.f0 ≤ pv
     ·have d3 := decide_eq_true c3
      have HF : Aside0 (snd34 a1_0 a1_1 (-1) l0_1 = false) := ⟨by rw [HS.out, HVV.out, HLP2.out, decide_eq_false (Int.not_lt.2 c3)]; rfl⟩
      obtain rfl : false = r := by rw [← HVB.out, if_pos HF.out]
      clear c3
      go_wp2
      have X2d := Aside0.mk (blk_drew X2.out)
      have X3d := Aside0.mk (blk_drew X3.out)
      have HBd := Aside0.mk (below_drew1 HB.out)
      have BTd := Aside0.mk (blk_drew BT.out)
      refine start_ (n := 30) (S := fun w' => w'.cell? ⟨g2, 1, none⟩ = some (.slice (some ad) l0_1.length c0_1) ∧ w'.cell? ⟨g3, 0, none⟩ = some (.int .i64 a1_0) ∧ w'.cell? ⟨g3, 1, none⟩ = some (.int .i64 a1_1) ∧ w'.cell? (ad.add (x6.toNat * 5)) = some (.int .i64 y.f0.f0) ∧ w'.cell? ⟨(ad.add (x6.toNat * 5)).block, (ad.add (x6.toNat * 5)).off + 1, none⟩ = some (.int .i64 y.f0.f1) ∧ w'.cell? ⟨(ad.add (x6.toNat * 5)).block, (ad.add (x6.toNat * 5)).off + 2, none⟩ = some (.int .i64 y.f1) ∧ w'.cell? ⟨(ad.add (x6.toNat * 5)).block, (ad.add (x6.toNat * 5)).off + 3, none⟩ = some (.int .i64 y.f2) ∧ w'.cell? ⟨(ad.add (x6.toNat * 5)).block, (ad.add (x6.toNat * 5)).off + 4, none⟩ = some (.int .i64 y.f3) ∧ w'.cell? (ad.add ((wrap64 (x6 - 1)).toNat * 5)) = some (.int .i64 pv)) (ds := []) #[false, false, false, false, false, false, false, false, false, false, false, false, false, false, false, false, false, false, false, false, false, false, false, false, false, false, false, false, false, false] (by kernel_rfl) rfl rfl ⟨blk_cell' X2d.out 1 _ rfl, blk_cell' X3d.out 0 _ rfl, blk_cell' X3d.out 1 _ rfl, ((HBd.out.cell (World.block_lt_of_cell? w _ hw0.out)).trans hw0.out), ((HBd.out.cell (World.block_lt_of_cell? w _ hw1.out)).trans hw1.out), ((HBd.out.cell (World.block_lt_of_cell? w _ hw2.out)).trans hw2.out), ((HBd.out.cell (World.block_lt_of_cell? w _ hw3.out)).trans hw3.out), ((HBd.out.cell (World.block_lt_of_cell? w _ hw4.out)).trans hw4.out), ((HBd.out.cell (World.block_lt_of_cell? w _ hwp.out)).trans hwp.out)⟩ (fun hHeld => ?_)
      refine run_ [(0, some 88), (2, some 90), (1, some 89), (3, some 91), (4, some 92), (5, some 93)] ?_
      iterate 2 (refine runP (v := ?_) (a' := ?_) rfl rfl (by kernel_rfl) (fun _ _ _ h => h) (Or.inl ⟨by rfl, ?_⟩) ?_ ?_; rotate_left; (· intro w'; go_simp; with_reducible rfl); rotate_left; (· simp only [Act.put, List.setIfInBounds_toArray, List.set_cons_zero, List.set_cons_succ, i64_w, i32_w]; rfl))
      refine runT (v := ?_) (a' := ?_) rfl rfl (by kernel_rfl) (fun _ _ _ h => h) (Or.inl ⟨by rfl, ?_⟩) hHeld ?_ ?_; rotate_left; (· rintro w' ⟨s0, s1, s2, s3, s4, s5, s6, s7, s8⟩; go_simp; with_reducible rfl); rotate_left; (· simp only [Act.put, List.setIfInBounds_toArray, List.set_cons_zero, List.set_cons_succ, i64_w, i32_w]; rfl)
      refine runP (v := ?_) (a' := ?_) rfl rfl (by kernel_rfl) (fun _ _ _ h => h) (Or.inl ⟨by rfl, ?_⟩) ?_ ?_; rotate_left; (· intro w'; go_simp; with_reducible rfl); rotate_left; (· simp only [Act.put, List.setIfInBounds_toArray, List.set_cons_zero, List.set_cons_succ, i64_w, i32_w]; rfl)
      iterate 2 (refine runT (v := ?_) (a' := ?_) rfl rfl (by kernel_rfl) (fun _ _ _ h => h) (Or.inl ⟨by rfl, ?_⟩) hHeld ?_ ?_; rotate_left; (· rintro w' ⟨s0, s1, s2, s3, s4, s5, s6, s7, s8⟩; go_simp; with_reducible rfl); rotate_left; (· simp only [Act.put, List.setIfInBounds_toArray, List.set_cons_zero, List.set_cons_succ, i64_w, i32_w]; rfl))
      refine runE ?_
      refine one_ (i := 6) (N := some 94) #[true, true, true, true, true, true, true, false, false, false, false, false, false, false, false, false, false, false, false, false, false, false, false, false, false, false, false, false, false, false] rfl rfl (by kernel_rfl) (by decide) (fun K hK => ?_)
      refine gO Try.func39 #[.agg #[.int .i64 y.f0.f0, .int .i64 y.f0.f1, .int .i64 y.f1, .int .i64 y.f2, .int .i64 y.f3], .agg #[.int .i64 a1_0, .int .i64 a1_1]] ?_
      with_reducible refine (slotmeshref12_Grant.calls y.f0.f0 y.f0.f1 y.f1 y.f2 y.f3 a1_0 a1_1 true _ HV.out).mono ?_
      rintro e wa ⟨rfl, hb⟩
      refine ⟨_, rfl, ?_⟩
      have X2a := Aside0.mk (blk_below X2d.out hb)
      have X3a := Aside0.mk (blk_below X3d.out hb)
      have HBa := Aside0.mk (below_step HBd.out hb)
      have BTa := Aside0.mk (blk_below BTd.out hb)
      clear hb
      refine hK.out _ _ ⟨blk_cell' X2a.out 1 _ rfl, blk_cell' X3a.out 0 _ rfl, blk_cell' X3a.out 1 _ rfl, ((HBa.out.cell (World.block_lt_of_cell? w _ hw0.out)).trans hw0.out), ((HBa.out.cell (World.block_lt_of_cell? w _ hw1.out)).trans hw1.out), ((HBa.out.cell (World.block_lt_of_cell? w _ hw2.out)).trans hw2.out), ((HBa.out.cell (World.block_lt_of_cell? w _ hw3.out)).trans hw3.out), ((HBa.out.cell (World.block_lt_of_cell? w _ hw4.out)).trans hw4.out), ((HBa.out.cell (World.block_lt_of_cell? w _ hwp.out)).trans hwp.out)⟩ (fun hHeld => ?_)
      clear hK K
      refine norm_ (a' := ?_) ?_ ?_
      rotate_left
      ·show Act.put _ (some 94) _ = _
       simp only [Act.put, List.setIfInBounds_toArray, List.set_cons_zero, List.set_cons_succ, i64_w, i32_w]
       rfl
      refine run_ [(7, some 95), (8, some 96), (9, some 97), (10, some 98), (11, some 99), (12, some 100), (14, some 102), (15, some 103), (20, some 108), (22, some 110), (13, some 101), (16, some 104), (17, some 105), (18, some 106), (19, some 107), (21, some 109), (23, some 111), (24, some 112), (25, some 113), (26, some 114), (27, some 115), (28, some 116), (29, some 117)] ?_
      iterate 10 (refine runP (v := ?_) (a' := ?_) rfl rfl (by kernel_rfl) (fun _ _ _ h => h) (Or.inl ⟨by rfl, ?_⟩) ?_ ?_; rotate_left; (· intro w'; go_simp; with_reducible rfl); rotate_left; (· simp only [Act.put, List.setIfInBounds_toArray, List.set_cons_zero, List.set_cons_succ, i64_w, i32_w]; rfl))
      refine runT (v := ?_) (a' := ?_) rfl rfl (by kernel_rfl) (fun _ _ _ h => h) (Or.inl ⟨by rfl, ?_⟩) hHeld ?_ ?_; rotate_left; (· rintro w' ⟨s0, s1, s2, s3, s4, s5, s6, s7, s8⟩; go_simp; with_reducible rfl); rotate_left; (· simp only [Act.put, List.setIfInBounds_toArray, List.set_cons_zero, List.set_cons_succ, i64_w, i32_w]; rfl)
      iterate 3 (refine runP (v := ?_) (a' := ?_) rfl rfl (by kernel_rfl) (fun _ _ _ h => h) (Or.inl ⟨by rfl, ?_⟩) ?_ ?_; rotate_left; (· intro w'; go_simp; with_reducible rfl); rotate_left; (· simp only [Act.put, List.setIfInBounds_toArray, List.set_cons_zero, List.set_cons_succ, i64_w, i32_w]; rfl))
      iterate 2 (refine runT (v := ?_) (a' := ?_) rfl rfl (by kernel_rfl) (fun _ _ _ h => h) (Or.inl ⟨by rfl, ?_⟩) hHeld ?_ ?_; rotate_left; (· rintro w' ⟨s0, s1, s2, s3, s4, s5, s6, s7, s8⟩; go_simp; with_reducible rfl); rotate_left; (· simp only [Act.put, List.setIfInBounds_toArray, List.set_cons_zero, List.set_cons_succ, i64_w, i32_w]; rfl))
      iterate 3 (refine runP (v := ?_) (a' := ?_) rfl rfl (by kernel_rfl) (fun _ _ _ h => h) (Or.inl ⟨by rfl, ?_⟩) ?_ ?_; rotate_left; (· intro w'; go_simp; with_reducible rfl); rotate_left; (· simp only [Act.put, List.setIfInBounds_toArray, List.set_cons_zero, List.set_cons_succ, i64_w, i32_w]; rfl))
      refine runT (v := ?_) (a' := ?_) rfl rfl (by kernel_rfl) (fun _ _ _ h => h) (Or.inl ⟨by rfl, ?_⟩) hHeld ?_ ?_; rotate_left; (· rintro w' ⟨s0, s1, s2, s3, s4, s5, s6, s7, s8⟩; go_simp; with_reducible rfl); rotate_left; (· simp only [Act.put, List.setIfInBounds_toArray, List.set_cons_zero, List.set_cons_succ, i64_w, i32_w]; rfl)
      iterate 3 (refine runP (v := ?_) (a' := ?_) rfl rfl (by kernel_rfl) (fun _ _ _ h => h) (Or.inl ⟨by rfl, ?_⟩) ?_ ?_; rotate_left; (· intro w'; go_simp; with_reducible rfl); rotate_left; (· simp only [Act.put, List.setIfInBounds_toArray, List.set_cons_zero, List.set_cons_succ, i64_w, i32_w]; rfl))
      refine runE ?_
      refine done_ (by kernel_rfl) ?_
      go_wp2
      go_ret
      exact ⟨rfl, HBa.out⟩
     have d3 := decide_eq_false c3
     have HSP2 : Aside0 (snd34 a1_0 a1_1 (-1) l0_1 = snd34 a1_0 a1_1 (last34 l0_1 (kk + 1)) (l0_1.drop (kk + 1))) := ⟨by rw [HS.out, HVV.out, HLP2.out, decide_eq_true (Int.not_le.1 c3)]; rfl⟩
     clear c3
     have hsl := v34_slot HVV.out
     have NS : Aside0 ((([] : List Int) ++ l0_0.map (fun x => x.f0.f0) ++ (l0_1.take kk).map (fun x => x.f0.f0)).length < 1000000) := ⟨by have := HSZ.out; have := HK.out; simp only [List.length_append, List.length_map, List.length_take, List.length_nil]; omega⟩
     have CV2 := Aside0.mk (cvec_step CV.out hsl.1 hsl.2 NS.out)
     have HCL : Aside0 (y.f0.f0.toNat < cs1.length) := ⟨by have := CV.out.1; omega⟩
     have q0 := eq_true hsl.1
     have q1 : (y.f0.f0 < (n : Int)) = True := eq_true (by have := HN.out; omega)
     clear hsl
     go_wp2
     have X2d := Aside0.mk (blk_drew X2.out)
     have X3d := Aside0.mk (blk_drew X3.out)
     have HBd := Aside0.mk (below_drew1 HB.out)
     have BTd := Aside0.mk (blk_drew BT.out)
     refine start_ (n := 30) (S := fun w' => w'.cell? ⟨g2, 1, none⟩ = some (.slice (some ad) l0_1.length c0_1) ∧ w'.cell? ⟨g3, 0, none⟩ = some (.int .i64 a1_0) ∧ w'.cell? ⟨g3, 1, none⟩ = some (.int .i64 a1_1) ∧ w'.cell? (ad.add (x6.toNat * 5)) = some (.int .i64 y.f0.f0) ∧ w'.cell? ⟨(ad.add (x6.toNat * 5)).block, (ad.add (x6.toNat * 5)).off + 1, none⟩ = some (.int .i64 y.f0.f1) ∧ w'.cell? ⟨(ad.add (x6.toNat * 5)).block, (ad.add (x6.toNat * 5)).off + 2, none⟩ = some (.int .i64 y.f1) ∧ w'.cell? ⟨(ad.add (x6.toNat * 5)).block, (ad.add (x6.toNat * 5)).off + 3, none⟩ = some (.int .i64 y.f2) ∧ w'.cell? ⟨(ad.add (x6.toNat * 5)).block, (ad.add (x6.toNat * 5)).off + 4, none⟩ = some (.int .i64 y.f3) ∧ w'.cell? (ad.add ((wrap64 (x6 - 1)).toNat * 5)) = some (.int .i64 pv)) (ds := []) #[false, false, false, false, false, false, false, false, false, false, false, false, false, false, false, false, false, false, false, false, false, false, false, false, false, false, false, false, false, false] (by kernel_rfl) rfl rfl ⟨blk_cell' X2d.out 1 _ rfl, blk_cell' X3d.out 0 _ rfl, blk_cell' X3d.out 1 _ rfl, ((HBd.out.cell (World.block_lt_of_cell? w _ hw0.out)).trans hw0.out), ((HBd.out.cell (World.block_lt_of_cell? w _ hw1.out)).trans hw1.out), ((HBd.out.cell (World.block_lt_of_cell? w _ hw2.out)).trans hw2.out), ((HBd.out.cell (World.block_lt_of_cell? w _ hw3.out)).trans hw3.out), ((HBd.out.cell (World.block_lt_of_cell? w _ hw4.out)).trans hw4.out), ((HBd.out.cell (World.block_lt_of_cell? w _ hwp.out)).trans hwp.out)⟩ (fun hHeld => ?_)
     refine run_ [(0, some 88), (2, some 90), (1, some 89), (3, some 91), (4, some 92), (5, some 93)] ?_
     iterate 2 (refine runP (v := ?_) (a' := ?_) rfl rfl (by kernel_rfl) (fun _ _ _ h => h) (Or.inl ⟨by rfl, ?_⟩) ?_ ?_; rotate_left; (· intro w'; go_simp; with_reducible rfl); rotate_left; (· simp only [Act.put, List.setIfInBounds_toArray, List.set_cons_zero, List.set_cons_succ, i64_w, i32_w]; rfl))
     refine runT (v := ?_) (a' := ?_) rfl rfl (by kernel_rfl) (fun _ _ _ h => h) (Or.inl ⟨by rfl, ?_⟩) hHeld ?_ ?_; rotate_left; (· rintro w' ⟨s0, s1, s2, s3, s4, s5, s6, s7, s8⟩; go_simp; with_reducible rfl); rotate_left; (· simp only [Act.put, List.setIfInBounds_toArray, List.set_cons_zero, List.set_cons_succ, i64_w, i32_w]; rfl)
     refine runP (v := ?_) (a' := ?_) rfl rfl (by kernel_rfl) (fun _ _ _ h => h) (Or.inl ⟨by rfl, ?_⟩) ?_ ?_; rotate_left; (· intro w'; go_simp; with_reducible rfl); rotate_left; (· simp only [Act.put, List.setIfInBounds_toArray, List.set_cons_zero, List.set_cons_succ, i64_w, i32_w]; rfl)
     iterate 2 (refine runT (v := ?_) (a' := ?_) rfl rfl (by kernel_rfl) (fun _ _ _ h => h) (Or.inl ⟨by rfl, ?_⟩) hHeld ?_ ?_; rotate_left; (· rintro w' ⟨s0, s1, s2, s3, s4, s5, s6, s7, s8⟩; go_simp; with_reducible rfl); rotate_left; (· simp only [Act.put, List.setIfInBounds_toArray, List.set_cons_zero, List.set_cons_succ, i64_w, i32_w]; rfl))
     refine runE ?_
     refine one_ (i := 6) (N := some 94) #[true, true, true, true, true, true, true, false, false, false, false, false, false, false, false, false, false, false, false, false, false, false, false, false, false, false, false, false, false, false] rfl rfl (by kernel_rfl) (by decide) (fun K hK => ?_)
     refine gO Try.func39 #[.agg #[.int .i64 y.f0.f0, .int .i64 y.f0.f1, .int .i64 y.f1, .int .i64 y.f2, .int .i64 y.f3], .agg #[.int .i64 a1_0, .int .i64 a1_1]] ?_
     with_reducible refine (slotmeshref12_Grant.calls y.f0.f0 y.f0.f1 y.f1 y.f2 y.f3 a1_0 a1_1 true _ HV.out).mono ?_
     rintro e wa ⟨rfl, hb⟩
     refine ⟨_, rfl, ?_⟩
     have X2a := Aside0.mk (blk_below X2d.out hb)
     have X3a := Aside0.mk (blk_below X3d.out hb)
     have HBa := Aside0.mk (below_step HBd.out hb)
     have BTa := Aside0.mk (blk_below BTd.out hb)
     clear hb
     refine hK.out _ _ ⟨blk_cell' X2a.out 1 _ rfl, blk_cell' X3a.out 0 _ rfl, blk_cell' X3a.out 1 _ rfl, ((HBa.out.cell (World.block_lt_of_cell? w _ hw0.out)).trans hw0.out), ((HBa.out.cell (World.block_lt_of_cell? w _ hw1.out)).trans hw1.out), ((HBa.out.cell (World.block_lt_of_cell? w _ hw2.out)).trans hw2.out), ((HBa.out.cell (World.block_lt_of_cell? w _ hw3.out)).trans hw3.out), ((HBa.out.cell (World.block_lt_of_cell? w _ hw4.out)).trans hw4.out), ((HBa.out.cell (World.block_lt_of_cell? w _ hwp.out)).trans hwp.out)⟩ (fun hHeld => ?_)
     clear hK K
     refine norm_ (a' := ?_) ?_ ?_
     rotate_left
     ·show Act.put _ (some 94) _ = _
      simp only [Act.put, List.setIfInBounds_toArray, List.set_cons_zero, List.set_cons_succ, i64_w, i32_w]
      rfl
     refine run_ [(7, some 95), (8, some 96), (9, some 97), (10, some 98), (11, some 99), (12, some 100), (14, some 102), (15, some 103), (20, some 108), (22, some 110), (13, some 101), (16, some 104), (17, some 105), (18, some 106), (19, some 107), (21, some 109), (23, some 111), (24, some 112), (25, some 113), (26, some 114), (27, some 115), (28, some 116), (29, some 117)] ?_
     iterate 10 (refine runP (v := ?_) (a' := ?_) rfl rfl (by kernel_rfl) (fun _ _ _ h => h) (Or.inl ⟨by rfl, ?_⟩) ?_ ?_; rotate_left; (· intro w'; go_simp; with_reducible rfl); rotate_left; (· simp only [Act.put, List.setIfInBounds_toArray, List.set_cons_zero, List.set_cons_succ, i64_w, i32_w]; rfl))
     refine runT (v := ?_) (a' := ?_) rfl rfl (by kernel_rfl) (fun _ _ _ h => h) (Or.inl ⟨by rfl, ?_⟩) hHeld ?_ ?_; rotate_left; (· rintro w' ⟨s0, s1, s2, s3, s4, s5, s6, s7, s8⟩; go_simp; with_reducible rfl); rotate_left; (· simp only [Act.put, List.setIfInBounds_toArray, List.set_cons_zero, List.set_cons_succ, i64_w, i32_w]; rfl)
     iterate 3 (refine runP (v := ?_) (a' := ?_) rfl rfl (by kernel_rfl) (fun _ _ _ h => h) (Or.inl ⟨by rfl, ?_⟩) ?_ ?_; rotate_left; (· intro w'; go_simp; with_reducible rfl); rotate_left; (· simp only [Act.put, List.setIfInBounds_toArray, List.set_cons_zero, List.set_cons_succ, i64_w, i32_w]; rfl))
     iterate 2 (refine runT (v := ?_) (a' := ?_) rfl rfl (by kernel_rfl) (fun _ _ _ h => h) (Or.inl ⟨by rfl, ?_⟩) hHeld ?_ ?_; rotate_left; (· rintro w' ⟨s0, s1, s2, s3, s4, s5, s6, s7, s8⟩; go_simp; with_reducible rfl); rotate_left; (· simp only [Act.put, List.setIfInBounds_toArray, List.set_cons_zero, List.set_cons_succ, i64_w, i32_w]; rfl))
     iterate 3 (refine runP (v := ?_) (a' := ?_) rfl rfl (by kernel_rfl) (fun _ _ _ h => h) (Or.inl ⟨by rfl, ?_⟩) ?_ ?_; rotate_left; (· intro w'; go_simp; with_reducible rfl); rotate_left; (· simp only [Act.put, List.setIfInBounds_toArray, List.set_cons_zero, List.set_cons_succ, i64_w, i32_w]; rfl))
     refine runT (v := ?_) (a' := ?_) rfl rfl (by kernel_rfl) (fun _ _ _ h => h) (Or.inl ⟨by rfl, ?_⟩) hHeld ?_ ?_; rotate_left; (· rintro w' ⟨s0, s1, s2, s3, s4, s5, s6, s7, s8⟩; go_simp; with_reducible rfl); rotate_left; (· simp only [Act.put, List.setIfInBounds_toArray, List.set_cons_zero, List.set_cons_succ, i64_w, i32_w]; rfl)
     iterate 3 (refine runP (v := ?_) (a' := ?_) rfl rfl (by kernel_rfl) (fun _ _ _ h => h) (Or.inl ⟨by rfl, ?_⟩) ?_ ?_; rotate_left; (· intro w'; go_simp; with_reducible rfl); rotate_left; (· simp only [Act.put, List.setIfInBounds_toArray, List.set_cons_zero, List.set_cons_succ, i64_w, i32_w]; rfl))
     refine runE ?_
     refine done_ (by kernel_rfl) ?_
     have y2 := blk_cell' X2a.out 1 _ rfl
     have e0 := (HBa.out.cell (World.block_lt_of_cell? w _ hw0.out)).trans hw0.out
     have t0 := blk_cell' BTa.out y.f0.f0.toNat _ (encI_get HCL.out)
     have f0 := blk_frozen BTa.out y.f0.f0.toNat
     go_wp2
     go_roundg (l0_1.length - (kk + 1))
     case measure => have := HK.out; have := of_eq_true c1; omega
     case rel => exact ⟨wrap64 (x6 + 1), kk + 1, _, rfl, ⟨by have := HK.out; have := HSZ.out; unfold wrap64; omega, by have := HK.out; have := of_eq_true c1; omega, Nat.le_refl _⟩, HSP2, ⟨by rw [HTK.out, ← List.append_assoc]; exact CV2.out⟩, ⟨by rw [← encI_set]; exact blk_put BTa.out _ _ rfl⟩, ⟨blk_set_far X2a.out NE2.out _⟩, ⟨blk_set_far X3a.out NE3.out _⟩, ⟨below_set HBa.out GET.out⟩⟩
    have d2 := decide_eq_false c2
    have HSP2 : Aside0 (snd34 a1_0 a1_1 (-1) l0_1 = snd34 a1_0 a1_1 (last34 l0_1 (kk + 1)) (l0_1.drop (kk + 1))) := ⟨by
     have hk0 : kk = 0 := by have := HK.out.1; omega
     have hl : last34 l0_1 kk = -1 := by rw [hk0]; rfl
     have hs := (v34_slot HVV.out).1
     rw [HS.out, HVV.out, hl, decide_eq_true (show (-1 : Int) < y.f0.f0 by omega)]; rfl⟩
    clear c2 HPB HLP
    have hsl := v34_slot HVV.out
    have NS : Aside0 ((([] : List Int) ++ l0_0.map (fun x => x.f0.f0) ++ (l0_1.take kk).map (fun x => x.f0.f0)).length < 1000000) := ⟨by have := HSZ.out; have := HK.out; simp only [List.length_append, List.length_map, List.length_take, List.length_nil]; omega⟩
    have CV2 := Aside0.mk (cvec_step CV.out hsl.1 hsl.2 NS.out)
    have HCL : Aside0 (y.f0.f0.toNat < cs1.length) := ⟨by have := CV.out.1; omega⟩
    have q0 := eq_true hsl.1
    have q1 : (y.f0.f0 < (n : Int)) = True := eq_true (by have := HN.out; omega)
    clear hsl
    go_wp2
    have X2d := Aside0.mk (blk_drew X2.out)
    have X3d := Aside0.mk (blk_drew X3.out)
    have HBd := Aside0.mk (below_drew1 HB.out)
    have BTd := Aside0.mk (blk_drew BT.out)
    refine start_ (n := 30) (S := fun w' => w'.cell? ⟨g2, 1, none⟩ = some (.slice (some ad) l0_1.length c0_1) ∧ w'.cell? ⟨g3, 0, none⟩ = some (.int .i64 a1_0) ∧ w'.cell? ⟨g3, 1, none⟩ = some (.int .i64 a1_1) ∧ w'.cell? (ad.add (x6.toNat * 5)) = some (.int .i64 y.f0.f0) ∧ w'.cell? ⟨(ad.add (x6.toNat * 5)).block, (ad.add (x6.toNat * 5)).off + 1, none⟩ = some (.int .i64 y.f0.f1) ∧ w'.cell? ⟨(ad.add (x6.toNat * 5)).block, (ad.add (x6.toNat * 5)).off + 2, none⟩ = some (.int .i64 y.f1) ∧ w'.cell? ⟨(ad.add (x6.toNat * 5)).block, (ad.add (x6.toNat * 5)).off + 3, none⟩ = some (.int .i64 y.f2) ∧ w'.cell? ⟨(ad.add (x6.toNat * 5)).block, (ad.add (x6.toNat * 5)).off + 4, none⟩ = some (.int .i64 y.f3)) (ds := []) #[false, false, false, false, false, false, false, false, false, false, false, false, false, false, false, false, false, false, false, false, false, false, false, false, false, false, false, false, false, false] (by kernel_rfl) rfl rfl ⟨blk_cell' X2d.out 1 _ rfl, blk_cell' X3d.out 0 _ rfl, blk_cell' X3d.out 1 _ rfl, ((HBd.out.cell (World.block_lt_of_cell? w _ hw0.out)).trans hw0.out), ((HBd.out.cell (World.block_lt_of_cell? w _ hw1.out)).trans hw1.out), ((HBd.out.cell (World.block_lt_of_cell? w _ hw2.out)).trans hw2.out), ((HBd.out.cell (World.block_lt_of_cell? w _ hw3.out)).trans hw3.out), ((HBd.out.cell (World.block_lt_of_cell? w _ hw4.out)).trans hw4.out)⟩ (fun hHeld => ?_)
    refine run_ [(0, some 88), (2, some 90), (1, some 89), (3, some 91), (4, some 92), (5, some 93)] ?_
    iterate 2 (refine runP (v := ?_) (a' := ?_) rfl rfl (by kernel_rfl) (fun _ _ _ h => h) (Or.inl ⟨by rfl, ?_⟩) ?_ ?_; rotate_left; (· intro w'; go_simp; with_reducible rfl); rotate_left; (· simp only [Act.put, List.setIfInBounds_toArray, List.set_cons_zero, List.set_cons_succ, i64_w, i32_w]; rfl))
    refine runT (v := ?_) (a' := ?_) rfl rfl (by kernel_rfl) (fun _ _ _ h => h) (Or.inl ⟨by rfl, ?_⟩) hHeld ?_ ?_; rotate_left; (· rintro w' ⟨s0, s1, s2, s3, s4, s5, s6, s7⟩; go_simp; with_reducible rfl); rotate_left; (· simp only [Act.put, List.setIfInBounds_toArray, List.set_cons_zero, List.set_cons_succ, i64_w, i32_w]; rfl)
    refine runP (v := ?_) (a' := ?_) rfl rfl (by kernel_rfl) (fun _ _ _ h => h) (Or.inl ⟨by rfl, ?_⟩) ?_ ?_; rotate_left; (· intro w'; go_simp; with_reducible rfl); rotate_left; (· simp only [Act.put, List.setIfInBounds_toArray, List.set_cons_zero, List.set_cons_succ, i64_w, i32_w]; rfl)
    iterate 2 (refine runT (v := ?_) (a' := ?_) rfl rfl (by kernel_rfl) (fun _ _ _ h => h) (Or.inl ⟨by rfl, ?_⟩) hHeld ?_ ?_; rotate_left; (· rintro w' ⟨s0, s1, s2, s3, s4, s5, s6, s7⟩; go_simp; with_reducible rfl); rotate_left; (· simp only [Act.put, List.setIfInBounds_toArray, List.set_cons_zero, List.set_cons_succ, i64_w, i32_w]; rfl))
    refine runE ?_
    refine one_ (i := 6) (N := some 94) #[true, true, true, true, true, true, true, false, false, false, false, false, false, false, false, false, false, false, false, false, false, false, false, false, false, false, false, false, false, false] rfl rfl (by kernel_rfl) (by decide) (fun K hK => ?_)
    refine gO Try.func39 #[.agg #[.int .i64 y.f0.f0, .int .i64 y.f0.f1, .int .i64 y.f1, .int .i64 y.f2, .int .i64 y.f3], .agg #[.int .i64 a1_0, .int .i64 a1_1]] ?_
    with_reducible refine (slotmeshref12_Grant.calls y.f0.f0 y.f0.f1 y.f1 y.f2 y.f3 a1_0 a1_1 true _ HV.out).mono ?_
    rintro e wa ⟨rfl, hb⟩
    refine ⟨_, rfl, ?_⟩
    have X2a := Aside0.mk (blk_below X2d.out hb)
    have X3a := Aside0.mk (blk_below X3d.out hb)
    have HBa := Aside0.mk (below_step HBd.out hb)
    have BTa := Aside0.mk (blk_below BTd.out hb)
    clear hb
    refine hK.out _ _ ⟨blk_cell' X2a.out 1 _ rfl, blk_cell' X3a.out 0 _ rfl, blk_cell' X3a.out 1 _ rfl, ((HBa.out.cell (World.block_lt_of_cell? w _ hw0.out)).trans hw0.out), ((HBa.out.cell (World.block_lt_of_cell? w _ hw1.out)).trans hw1.out), ((HBa.out.cell (World.block_lt_of_cell? w _ hw2.out)).trans hw2.out), ((HBa.out.cell (World.block_lt_of_cell? w _ hw3.out)).trans hw3.out), ((HBa.out.cell (World.block_lt_of_cell? w _ hw4.out)).trans hw4.out)⟩ (fun hHeld => ?_)
    clear hK K
    refine norm_ (a' := ?_) ?_ ?_
    rotate_left
    ·show Act.put _ (some 94) _ = _
     simp only [Act.put, List.setIfInBounds_toArray, List.set_cons_zero, List.set_cons_succ, i64_w, i32_w]
     rfl
    refine run_ [(7, some 95), (8, some 96), (9, some 97), (10, some 98), (11, some 99), (12, some 100), (13, some 101), (14, some 102), (15, some 103), (16, some 104), (17, some 105), (18, some 106), (19, some 107), (20, some 108), (21, some 109), (22, some 110), (23, some 111), (24, some 112), (25, some 113), (26, some 114), (27, some 115), (28, some 116), (29, some 117)] ?_
    iterate 5 (refine runP (v := ?_) (a' := ?_) rfl rfl (by kernel_rfl) (fun _ _ _ h => h) (Or.inl ⟨by rfl, ?_⟩) ?_ ?_; rotate_left; (· intro w'; go_simp; with_reducible rfl); rotate_left; (· simp only [Act.put, List.setIfInBounds_toArray, List.set_cons_zero, List.set_cons_succ, i64_w, i32_w]; rfl))
    iterate 16 (refine runP (v := undef) (a' := ?_) rfl rfl (by kernel_rfl) (fun _ _ _ h => h) (Or.inr ⟨by rfl, rfl⟩) ?_ ?_; rotate_left; (· simp only [Act.put, List.setIfInBounds_toArray, List.set_cons_zero, List.set_cons_succ, i64_w, i32_w]; rfl))
    iterate 2 (refine runP (v := ?_) (a' := ?_) rfl rfl (by kernel_rfl) (fun _ _ _ h => h) (Or.inl ⟨by rfl, ?_⟩) ?_ ?_; rotate_left; (· intro w'; go_simp; with_reducible rfl); rotate_left; (· simp only [Act.put, List.setIfInBounds_toArray, List.set_cons_zero, List.set_cons_succ, i64_w, i32_w]; rfl))
    refine runE ?_
    refine done_ (by kernel_rfl) ?_
    have y2 := blk_cell' X2a.out 1 _ rfl
    have e0 := (HBa.out.cell (World.block_lt_of_cell? w _ hw0.out)).trans hw0.out
    have t0 := blk_cell' BTa.out y.f0.f0.toNat _ (encI_get HCL.out)
    have f0 := blk_frozen BTa.out y.f0.f0.toNat
    go_wp2
    go_roundg (l0_1.length - (kk + 1))
    case measure => have := HK.out; have := of_eq_true c1; omega
    case rel => exact ⟨wrap64 (x6 + 1), kk + 1, _, rfl, ⟨by have := HK.out; have := HSZ.out; unfold wrap64; omega, by have := HK.out; have := of_eq_true c1; omega, Nat.le_refl _⟩, HSP2, ⟨by rw [HTK.out, ← List.append_assoc]; exact CV2.out⟩, ⟨by rw [← encI_set]; exact blk_put BTa.out _ _ rfl⟩, ⟨blk_set_far X2a.out NE2.out _⟩, ⟨blk_set_far X3a.out NE3.out _⟩, ⟨below_set HBa.out GET.out⟩⟩
   have d1 := decide_eq_false c1
   have HE : Aside0 (kk = l0_1.length) := ⟨by have := HK.out; omega⟩
   have HT : Aside0 (snd34 a1_0 a1_1 (-1) l0_1 = true) := ⟨by rw [HSP.out, List.drop_of_length_le (by have := HE.out; omega)]; rfl⟩
   have CW : Aside0 (Cvec cs1 a1_1 (([] : List Int) ++ l0_0.map (fun x => x.f0.f0) ++ l0_1.map (fun x => x.f0.f0))) := ⟨by have h1 := CV.out; rwa [List.take_of_length_le (by have := HE.out; omega)] at h1⟩
   rw [HT.out, if_neg (by decide)] at HVB
   have y2 := blk_cell' X2.out 1 _ rfl
   have HT1 := HT
   clear HK HSP HE HT c1 CV
   have CV := CW
   clear CW
   go_wp2
   have HB_0 := HB
   go_loopg [8] l0_2.length (fun gg s6 wr => ∃ (x6 : Int) (kk : Nat) (cs : List Int), s6 = .int .i64 x6 ∧ Aside0 (x6 = (kk : Int) ∧ kk ≤ l0_2.length ∧ l0_2.length - kk ≤ gg) ∧ Aside0 (snd51 a1_0 a1_1 (-1) l0_2 = snd51 a1_0 a1_1 (last51 l0_2 kk) (l0_2.drop kk)) ∧ Aside0 (Cvec cs a1_1 (([] : List Int) ++ l0_0.map (fun x => x.f0.f0) ++ l0_1.map (fun x => x.f0.f0) ++ (l0_2.take kk).map (fun x => x.f0.f0))) ∧ Aside0 (wr.heap[gt]? = some (.cells (encI cs) 3 (0, 0))) ∧ Aside0 (wr.heap[g2]? = some (.cells #[.slice A0_0 l0_0.length c0_0, .slice A0_1 l0_1.length c0_1, .slice A0_2 l0_2.length c0_2] 26 (0, 0))) ∧ Aside0 (wr.heap[g3]? = some (.cells #[.int .i64 a1_0, .int .i64 a1_1] 28 (0, 0))) ∧ Aside0 (Below w.heap.size w wr))
   case atStart => exact ⟨0, 0, cs1, rfl, ⟨rfl, Nat.zero_le _, Nat.le_refl _⟩, ⟨by rw [List.drop_zero]; rfl⟩, ⟨by rw [List.take_zero, List.map_nil, List.append_nil]; exact CV.out⟩, BT, X2, X3, HB⟩
   case round =>
    clear BT X2 X3 HB CV HB_0
    obtain ⟨x6, kk, cs2, rfl, HK, HSP, CV, BT, X2, X3, HB⟩ := hrel
    by_cases c1 : x6 < (l0_2.length : Int)
    ·have d1 := decide_eq_true c1
     have p1 : 0 ≤ x6 := by have := HK.out.1; omega
     have hkl : kk < l0_2.length := by have := HK.out.1; omega
     obtain ⟨ad, hA, h0, h1, h2⟩ := at_T51 HR2.out x6 p1 c1
     have HS : Aside0 (snd51 a1_0 a1_1 (-1) l0_2 = (v51 a1_0 a1_1 (rd_T51 l0_2 x6) && decide (last51 l0_2 kk < (rd_T51 l0_2 x6).f0.f0) && snd51 a1_0 a1_1 (last51 l0_2 (kk + 1)) (l0_2.drop (kk + 1)))) := ⟨by
      have e : rd_T51 l0_2 x6 = l0_2.getD kk z51 := by unfold rd_T51; rw [HK.out.1, Int.toNat_natCast]
      rw [HSP.out, e]
      exact snd51_at hkl⟩
     have HLS : Aside0 (last51 l0_2 (kk + 1) = (rd_T51 l0_2 x6).f0.f0) := ⟨by unfold last51 rd_T51; rw [if_neg (Nat.succ_ne_zero _), Nat.add_sub_cancel, HK.out.1, Int.toNat_natCast]⟩
     have HTK : Aside0 ((l0_2.take (kk + 1)).map (fun x => x.f0.f0) = (l0_2.take kk).map (fun x => x.f0.f0) ++ [(rd_T51 l0_2 x6).f0.f0]) := ⟨by
      have e : rd_T51 l0_2 x6 = l0_2[kk] := by unfold rd_T51; rw [HK.out.1, Int.toNat_natCast, List.getD_eq_getElem?_getD, List.getElem?_eq_getElem hkl]; rfl
      rw [List.take_succ_eq_append_getElem hkl, List.map_append, e]; rfl⟩
     have HLP : Aside0 (0 < x6 → last51 l0_2 kk = (rd_T51 l0_2 (wrap64 (x6 - 1))).f0.f0) := ⟨fun h => by
      have e1 : (wrap64 (x6 - 1)).toNat = kk - 1 := by have := HK.out; have := HSZ.out; unfold wrap64; omega
      unfold last51 rd_T51; rw [if_neg (by have := HK.out.1; omega), e1]⟩
     have HPB : Aside0 (0 < x6 → 0 ≤ wrap64 (x6 - 1) ∧ wrap64 (x6 - 1) < (l0_2.length : Int)) := ⟨fun h => by have := HK.out.1; have := HSZ.out; unfold wrap64; omega⟩
     generalize rd_T51 l0_2 x6 = y at h0 h1 h2 HS HLS HTK
     subst hA
     have hw0 := Aside0.mk h0
     have hw1 := Aside0.mk h1
     have hw2 := Aside0.mk h2
     clear h0 h1 h2 hkl
     replace p1 := eq_true p1
     replace c1 := eq_true c1
     have HV0 := Aside0.mk (rv51_eq a1_0 a1_1 y)
     have y2 := blk_cell' X2.out 2 _ rfl
     cases hv : v51 a1_0 a1_1 y
     ·have HV := Aside0.mk (HV0.out.trans (congrArg some hv))
      have HF : Aside0 (snd51 a1_0 a1_1 (-1) l0_2 = false) := ⟨by rw [HS.out, hv]; rfl⟩
      obtain rfl : false = r := by rw [← HVB.out, if_pos HF.out]
      clear hv HV0
      go_wp2
      have X2d := Aside0.mk (blk_drew X2.out)
      have X3d := Aside0.mk (blk_drew X3.out)
      have HBd := Aside0.mk (below_drew1 HB.out)
      have BTd := Aside0.mk (blk_drew BT.out)
      refine start_ (n := 37) (S := fun w' => w'.cell? ⟨g2, 2, none⟩ = some (.slice (some ad) l0_2.length c0_2) ∧ w'.cell? ⟨g3, 0, none⟩ = some (.int .i64 a1_0) ∧ w'.cell? ⟨g3, 1, none⟩ = some (.int .i64 a1_1) ∧ w'.cell? (ad.add (x6.toNat * 3)) = some (.int .i64 y.f0.f0) ∧ w'.cell? ⟨(ad.add (x6.toNat * 3)).block, (ad.add (x6.toNat * 3)).off + 1, none⟩ = some (.int .i64 y.f0.f1) ∧ w'.cell? ⟨(ad.add (x6.toNat * 3)).block, (ad.add (x6.toNat * 3)).off + 2, none⟩ = some (.int .i64 y.f1)) (ds := []) #[false, false, false, false, false, false, false, false, false, false, false, false, false, false, false, false, false, false, false, false, false, false, false, false, false, false, false, false, false, false, false, false, false, false, false, false, false] (by kernel_rfl) rfl rfl ⟨blk_cell' X2d.out 2 _ rfl, blk_cell' X3d.out 0 _ rfl, blk_cell' X3d.out 1 _ rfl, ((HBd.out.cell (World.block_lt_of_cell? w _ hw0.out)).trans hw0.out), ((HBd.out.cell (World.block_lt_of_cell? w _ hw1.out)).trans hw1.out), ((HBd.out.cell (World.block_lt_of_cell? w _ hw2.out)).trans hw2.out)⟩ (fun hHeld => ?_)
      refine run_ [(0, some 137), (2, some 139), (6, some 143), (8, some 145), (1, some 138), (3, some 140), (4, some 141), (5, some 142), (7, some 144), (9, some 146), (10, some 147), (11, some 148), (12, some 149)] ?_
      iterate 4 (refine runP (v := ?_) (a' := ?_) rfl rfl (by kernel_rfl) (fun _ _ _ h => h) (Or.inl ⟨by rfl, ?_⟩) ?_ ?_; rotate_left; (· intro w'; go_simp; with_reducible rfl); rotate_left; (· simp only [Act.put, List.setIfInBounds_toArray, List.set_cons_zero, List.set_cons_succ, i64_w, i32_w]; rfl))
      refine runT (v := ?_) (a' := ?_) rfl rfl (by kernel_rfl) (fun _ _ _ h => h) (Or.inl ⟨by rfl, ?_⟩) hHeld ?_ ?_; rotate_left; (· rintro w' ⟨s0, s1, s2, s3, s4, s5⟩; go_simp; with_reducible rfl); rotate_left; (· simp only [Act.put, List.setIfInBounds_toArray, List.set_cons_zero, List.set_cons_succ, i64_w, i32_w]; rfl)
      iterate 2 (refine runP (v := ?_) (a' := ?_) rfl rfl (by kernel_rfl) (fun _ _ _ h => h) (Or.inl ⟨by rfl, ?_⟩) ?_ ?_; rotate_left; (· intro w'; go_simp; with_reducible rfl); rotate_left; (· simp only [Act.put, List.setIfInBounds_toArray, List.set_cons_zero, List.set_cons_succ, i64_w, i32_w]; rfl))
      iterate 2 (refine runT (v := ?_) (a' := ?_) rfl rfl (by kernel_rfl) (fun _ _ _ h => h) (Or.inl ⟨by rfl, ?_⟩) hHeld ?_ ?_; rotate_left; (· rintro w' ⟨s0, s1, s2, s3, s4, s5⟩; go_simp; with_reducible rfl); rotate_left; (· simp only [Act.put, List.setIfInBounds_toArray, List.set_cons_zero, List.set_cons_succ, i64_w, i32_w]; rfl))
      iterate 2 (refine runP (v := ?_) (a' := ?_) rfl rfl (by kernel_rfl) (fun _ _ _ h => h) (Or.inl ⟨by rfl, ?_⟩) ?_ ?_; rotate_left; (· intro w'; go_simp; with_reducible rfl); rotate_left; (· simp only [Act.put, List.setIfInBounds_toArray, List.set_cons_zero, List.set_cons_succ, i64_w, i32_w]; rfl))
      iterate 2 (refine runT (v := ?_) (a' := ?_) rfl rfl (by kernel_rfl) (fun _ _ _ h => h) (Or.inl ⟨by rfl, ?_⟩) hHeld ?_ ?_; rotate_left; (· rintro w' ⟨s0, s1, s2, s3, s4, s5⟩; go_simp; with_reducible rfl); rotate_left; (· simp only [Act.put, List.setIfInBounds_toArray, List.set_cons_zero, List.set_cons_succ, i64_w, i32_w]; rfl))
      refine runE ?_
      refine one_ (i := 13) (N := some 150) #[true, true, true, true, true, true, true, true, true, true, true, true, true, true, false, false, false, false, false, false, false, false, false, false, false, false, false, false, false, false, false, false, false, false, false, false, false] rfl rfl (by kernel_rfl) (by decide) (fun K hK => ?_)
      refine gO Try.func48 #[.agg #[.int .i64 y.f0.f0, .int .i64 y.f0.f1], .int .i64 y.f1, .agg #[.int .i64 a1_0, .int .i64 a1_1]] ?_
      with_reducible refine (slotmeshref12_Cell.calls y.f0.f0 y.f0.f1 y.f1 a1_0 a1_1 false _ HV.out).mono ?_
      rintro e wa ⟨rfl, hb⟩
      refine ⟨_, rfl, ?_⟩
      have X2a := Aside0.mk (blk_below X2d.out hb)
      have X3a := Aside0.mk (blk_below X3d.out hb)
      have HBa := Aside0.mk (below_step HBd.out hb)
      have BTa := Aside0.mk (blk_below BTd.out hb)
      clear hb
      refine hK.out _ _ ⟨blk_cell' X2a.out 2 _ rfl, blk_cell' X3a.out 0 _ rfl, blk_cell' X3a.out 1 _ rfl, ((HBa.out.cell (World.block_lt_of_cell? w _ hw0.out)).trans hw0.out), ((HBa.out.cell (World.block_lt_of_cell? w _ hw1.out)).trans hw1.out), ((HBa.out.cell (World.block_lt_of_cell? w _ hw2.out)).trans hw2.out)⟩ (fun hHeld => ?_)
      clear hK K
      refine norm_ (a' := ?_) ?_ ?_
      rotate_left
      ·show Act.put _ (some 150) _ = _
       simp only [Act.put, List.setIfInBounds_toArray, List.set_cons_zero, List.set_cons_succ, i64_w, i32_w]
       rfl
      refine run_ [(14, some 151), (15, some 152), (16, some 153), (17, some 154), (18, some 155), (19, some 156), (20, some 157), (21, some 158), (22, some 159), (23, some 160), (24, some 161), (25, some 162), (26, some 163), (27, some 164), (28, some 165), (29, some 166), (30, some 167), (31, some 168), (32, some 169), (33, some 170), (34, some 171), (35, some 172), (36, some 173)] ?_
      iterate 2 (refine runP (v := ?_) (a' := ?_) rfl rfl (by kernel_rfl) (fun _ _ _ h => h) (Or.inl ⟨by rfl, ?_⟩) ?_ ?_; rotate_left; (· intro w'; go_simp; with_reducible rfl); rotate_left; (· simp only [Act.put, List.setIfInBounds_toArray, List.set_cons_zero, List.set_cons_succ, i64_w, i32_w]; rfl))
      iterate 20 (refine runP (v := undef) (a' := ?_) rfl rfl (by kernel_rfl) (fun _ _ _ h => h) (Or.inr ⟨by rfl, rfl⟩) ?_ ?_; rotate_left; (· simp only [Act.put, List.setIfInBounds_toArray, List.set_cons_zero, List.set_cons_succ, i64_w, i32_w]; rfl))
      refine runP (v := ?_) (a' := ?_) rfl rfl (by kernel_rfl) (fun _ _ _ h => h) (Or.inl ⟨by rfl, ?_⟩) ?_ ?_; rotate_left; (· intro w'; go_simp; with_reducible rfl); rotate_left; (· simp only [Act.put, List.setIfInBounds_toArray, List.set_cons_zero, List.set_cons_succ, i64_w, i32_w]; rfl)
      refine runE ?_
      refine done_ (by kernel_rfl) ?_
      go_wp2
      go_ret
      exact ⟨rfl, HBa.out⟩
     have HV := Aside0.mk (HV0.out.trans (congrArg some hv))
     have HVV := Aside0.mk hv
     clear hv HV0
     by_cases c2 : 0 < x6
     ·have d2 := decide_eq_true c2
      obtain ⟨pb0, pb1⟩ := HPB.out c2
      obtain ⟨ad2, hA2, h0, hrest⟩ := at_T51 HR2.out (wrap64 (x6 - 1)) pb0 pb1
      obtain rfl : ad = ad2 := by injection hA2
      have HLP2 := Aside0.mk (HLP.out c2)
      generalize (rd_T51 l0_2 (wrap64 (x6 - 1))).f0.f0 = pv at h0 HLP2
      have hwp := Aside0.mk h0
      clear h0 hrest HPB HLP hA2 c2
      replace pb0 := eq_true pb0
      replace pb1 := eq_true pb1
      by_cases c3 : y.f0.f0 ≤ pv
      ·have d3 := decide_eq_true c3
       have HF : Aside0 (snd51 a1_0 a1_1 (-1) l0_2 = false) := ⟨by rw [HS.out, HVV.out, HLP2.out, decide_eq_false (Int.not_lt.2 c3)]; rfl⟩
       obtain rfl : false = r := by rw [← HVB.out, if_pos HF.out]
       clear c3
       go_wp2
       have X2d := Aside0.mk (blk_drew X2.out)
       have X3d := Aside0.mk (blk_drew X3.out)
       have HBd := Aside0.mk (below_drew1 HB.out)
       have BTd := Aside0.mk (blk_drew BT.out)
       refine start_ (n := 37) (S := fun w' => w'.cell? ⟨g2, 2, none⟩ = some (.slice (some ad) l0_2.length c0_2) ∧ w'.cell? ⟨g3, 0, none⟩ = some (.int .i64 a1_0) ∧ w'.cell? ⟨g3, 1, none⟩ = some (.int .i64 a1_1) ∧ w'.cell? (ad.add (x6.toNat * 3)) = some (.int .i64 y.f0.f0) ∧ w'.cell? ⟨(ad.add (x6.toNat * 3)).block, (ad.add (x6.toNat * 3)).off + 1, none⟩ = some (.int .i64 y.f0.f1) ∧ w'.cell? ⟨(ad.add (x6.toNat * 3)).block, (ad.add (x6.toNat * 3)).off + 2, none⟩ = some (.int .i64 y.f1) ∧ w'.cell? (ad.add ((wrap64 (x6 - 1)).toNat * 3)) = some (.int .i64 pv)) (ds := []) #[false, false, false, false, false, false, false, false, false, false, false, false, false, false, false, false, false, false, false, false, false, false, false, false, false, false, false, false, false, false, false, false, false, false, false, false, false] (by kernel_rfl) rfl rfl ⟨blk_cell' X2d.out 2 _ rfl, blk_cell' X3d.out 0 _ rfl, blk_cell' X3d.out 1 _ rfl, ((HBd.out.cell (World.block_lt_of_cell? w _ hw0.out)).trans hw0.out), ((HBd.out.cell (World.block_lt_of_cell? w _ hw1.out)).trans hw1.out), ((HBd.out.cell (World.block_lt_of_cell? w _ hw2.out)).trans hw2.out), ((HBd.out.cell (World.block_lt_of_cell? w _ hwp.out)).trans hwp.out)⟩ (fun hHeld => ?_)
       refine run_ [(0, some 137), (2, some 139), (6, some 143), (8, some 145), (1, some 138), (3, some 140), (4, some 141), (5, some 142), (7, some 144), (9, some 146), (10, some 147), (11, some 148), (12, some 149)] ?_
       iterate 4 (refine runP (v := ?_) (a' := ?_) rfl rfl (by kernel_rfl) (fun _ _ _ h => h) (Or.inl ⟨by rfl, ?_⟩) ?_ ?_; rotate_left; (· intro w'; go_simp; with_reducible rfl); rotate_left; (· simp only [Act.put, List.setIfInBounds_toArray, List.set_cons_zero, List.set_cons_succ, i64_w, i32_w]; rfl))
       refine runT (v := ?_) (a' := ?_) rfl rfl (by kernel_rfl) (fun _ _ _ h => h) (Or.inl ⟨by rfl, ?_⟩) hHeld ?_ ?_; rotate_left; (· rintro w' ⟨s0, s1, s2, s3, s4, s5, s6⟩; go_simp; with_reducible rfl); rotate_left; (· simp only [Act.put, List.setIfInBounds_toArray, List.set_cons_zero, List.set_cons_succ, i64_w, i32_w]; rfl)
       iterate 2 (refine runP (v := ?_) (a' := ?_) rfl rfl (by kernel_rfl) (fun _ _ _ h => h) (Or.inl ⟨by rfl, ?_⟩) ?_ ?_; rotate_left; (· intro w'; go_simp; with_reducible rfl); rotate_left; (· simp only [Act.put, List.setIfInBounds_toArray, List.set_cons_zero, List.set_cons_succ, i64_w, i32_w]; rfl))
       iterate 2 (refine runT (v := ?_) (a' := ?_) rfl rfl (by kernel_rfl) (fun _ _ _ h => h) (Or.inl ⟨by rfl, ?_⟩) hHeld ?_ ?_; rotate_left; (· rintro w' ⟨s0, s1, s2, s3, s4, s5, s6⟩; go_simp; with_reducible rfl); rotate_left; (· simp only [Act.put, List.setIfInBounds_toArray, List.set_cons_zero, List.set_cons_succ, i64_w, i32_w]; rfl))
       iterate 2 (refine runP (v := ?_) (a' := ?_) rfl rfl (by kernel_rfl) (fun _ _ _ h => h) (Or.inl ⟨by rfl, ?_⟩) ?_ ?_; rotate_left; (· intro w'; go_simp; with_reducible rfl); rotate_left; (· simp only [Act.put, List.setIfInBounds_toArray, List.set_cons_zero, List.set_cons_succ, i64_w, i32_w]; rfl))
       iterate 2 (refine runT (v := ?_) (a' := ?_) rfl rfl (by kernel_rfl) (fun _ _ _ h => h) (Or.inl ⟨by rfl, ?_⟩) hHeld ?_ ?_; rotate_left; (· rintro w' ⟨s0, s1, s2, s3, s4, s5, s6⟩; go_simp; with_reducible rfl); rotate_left; (· simp only [Act.put, List.setIfInBounds_toArray, List.set_cons_zero, List.set_cons_succ, i64_w, i32_w]; rfl))
       refine runE ?_
       refine one_ (i := 13) (N := some 150) #[true, true, true, true, true, true, true, true, true, true, true, true, true, true, false, false, false, false, false, false, false, false, false, false, false, false, false, false, false, false, false, false, false, false, false, false, false] rfl rfl (by kernel_rfl) (by decide) (fun K hK => ?_)
       refine gO Try.func48 #[.agg #[.int .i64 y.f0.f0, .int .i64 y.f0.f1], .int .i64 y.f1, .agg #[.int .i64 a1_0, .int .i64 a1_1]] ?_
       with_reducible refine (slotmeshref12_Cell.calls y.f0.f0 y.f0.f1 y.f1 a1_0 a1_1 true _ HV.out).mono ?_
       rintro e wa ⟨rfl, hb⟩
       refine ⟨_, rfl, ?_⟩
       have X2a := Aside0.mk (blk_below X2d.out hb)
       have X3a := Aside0.mk (blk_below X3d.out hb)
       have HBa := Aside0.mk (below_step HBd.out hb)
       have BTa := Aside0.mk (blk_below BTd.out hb)
       clear hb
       refine hK.out _ _ ⟨blk_cell' X2a.out 2 _ rfl, blk_cell' X3a.out 0 _ rfl, blk_cell' X3a.out 1 _ rfl, ((HBa.out.cell (World.block_lt_of_cell? w _ hw0.out)).trans hw0.out), ((HBa.out.cell (World.block_lt_of_cell? w _ hw1.out)).trans hw1.out), ((HBa.out.cell (World.block_lt_of_cell? w _ hw2.out)).trans hw2.out), ((HBa.out.cell (World.block_lt_of_cell? w _ hwp.out)).trans hwp.out)⟩ (fun hHeld => ?_)
       clear hK K
       refine norm_ (a' := ?_) ?_ ?_
       rotate_left
       ·show Act.put _ (some 150) _ = _
        simp only [Act.put, List.setIfInBounds_toArray, List.set_cons_zero, List.set_cons_succ, i64_w, i32_w]
        rfl
       refine run_ [(14, some 151), (15, some 152), (16, some 153), (17, some 154), (18, some 155), (19, some 156), (21, some 158), (22, some 159), (27, some 164), (29, some 166), (20, some 157), (23, some 160), (24, some 161), (25, some 162), (26, some 163), (28, some 165), (30, some 167), (31, some 168), (32, some 169), (33, some 170), (34, some 171), (35, some 172), (36, some 173)] ?_
       iterate 10 (refine runP (v := ?_) (a' := ?_) rfl rfl (by kernel_rfl) (fun _ _ _ h => h) (Or.inl ⟨by rfl, ?_⟩) ?_ ?_; rotate_left; (· intro w'; go_simp; with_reducible rfl); rotate_left; (· simp only [Act.put, List.setIfInBounds_toArray, List.set_cons_zero, List.set_cons_succ, i64_w, i32_w]; rfl))
       refine runT (v := ?_) (a' := ?_) rfl rfl (by kernel_rfl) (fun _ _ _ h => h) (Or.inl ⟨by rfl, ?_⟩) hHeld ?_ ?_; rotate_left; (· rintro w' ⟨s0, s1, s2, s3, s4, s5, s6⟩; go_simp; with_reducible rfl); rotate_left; (· simp only [Act.put, List.setIfInBounds_toArray, List.set_cons_zero, List.set_cons_succ, i64_w, i32_w]; rfl)
       iterate 3 (refine runP (v := ?_) (a' := ?_) rfl rfl (by kernel_rfl) (fun _ _ _ h => h) (Or.inl ⟨by rfl, ?_⟩) ?_ ?_; rotate_left; (· intro w'; go_simp; with_reducible rfl); rotate_left; (· simp only [Act.put, List.setIfInBounds_toArray, List.set_cons_zero, List.set_cons_succ, i64_w, i32_w]; rfl))
       iterate 2 (refine runT (v := ?_) (a' := ?_) rfl rfl (by kernel_rfl) (fun _ _ _ h => h) (Or.inl ⟨by rfl, ?_⟩) hHeld ?_ ?_; rotate_left; (· rintro w' ⟨s0, s1, s2, s3, s4, s5, s6⟩; go_simp; with_reducible rfl); rotate_left; (· simp only [Act.put, List.setIfInBounds_toArray, List.set_cons_zero, List.set_cons_succ, i64_w, i32_w]; rfl))
       iterate 3 (refine runP (v := ?_) (a' := ?_) rfl rfl (by kernel_rfl) (fun _ _ _ h => h) (Or.inl ⟨by rfl, ?_⟩) ?_ ?_; rotate_left; (· intro w'; go_simp; with_reducible rfl); rotate_left; (· simp only [Act.put, List.setIfInBounds_toArray, List.set_cons_zero, List.set_cons_succ, i64_w, i32_w]; rfl))
       refine runT (v := ?_) (a' := ?_) rfl rfl (by kernel_rfl) (fun _ _ _ h => h) (Or.inl ⟨by rfl, ?_⟩) hHeld ?_ ?_; rotate_left; (· rintro w' ⟨s0, s1, s2, s3, s4, s5, s6⟩; go_simp; with_reducible rfl); rotate_left; (· simp only [Act.put, List.setIfInBounds_toArray, List.set_cons_zero, List.set_cons_succ, i64_w, i32_w]; rfl)
       iterate 3 (refine runP (v := ?_) (a' := ?_) rfl rfl (by kernel_rfl) (fun _ _ _ h => h) (Or.inl ⟨by rfl, ?_⟩) ?_ ?_; rotate_left; (· intro w'; go_simp; with_reducible rfl); rotate_left; (· simp only [Act.put, List.setIfInBounds_toArray, List.set_cons_zero, List.set_cons_succ, i64_w, i32_w]; rfl))
       refine runE ?_
       refine done_ (by kernel_rfl) ?_
       go_wp2
       go_ret
       exact ⟨rfl, HBa.out⟩
      have d3 := decide_eq_false c3
      have HSP2 : Aside0 (snd51 a1_0 a1_1 (-1) l0_2 = snd51 a1_0 a1_1 (last51 l0_2 (kk + 1)) (l0_2.drop (kk + 1))) := ⟨by rw [HS.out, HVV.out, HLP2.out, decide_eq_true (Int.not_le.1 c3)]; rfl⟩
      clear c3
      have hsl := v51_slot HVV.out
      have NS : Aside0 ((([] : List Int) ++ l0_0.map (fun x => x.f0.f0) ++ l0_1.map (fun x => x.f0.f0) ++ (l0_2.take kk).map (fun x => x.f0.f0)).length < 1000000) := ⟨by have := HSZ.out; have := HK.out; simp only [List.length_append, List.length_map, List.length_take, List.length_nil]; omega⟩
      have CV2 := Aside0.mk (cvec_step CV.out hsl.1 hsl.2 NS.out)
      have HCL : Aside0 (y.f0.f0.toNat < cs2.length) := ⟨by have := CV.out.1; omega⟩
      have q0 := eq_true hsl.1
      have q1 : (y.f0.f0 < (n : Int)) = True := eq_true (by have := HN.out; omega)
      clear hsl
      go_wp2
      have X2d := Aside0.mk (blk_drew X2.out)
      have X3d := Aside0.mk (blk_drew X3.out)
      have HBd := Aside0.mk (below_drew1 HB.out)
      have BTd := Aside0.mk (blk_drew BT.out)
      refine start_ (n := 37) (S := fun w' => w'.cell? ⟨g2, 2, none⟩ = some (.slice (some ad) l0_2.length c0_2) ∧ w'.cell? ⟨g3, 0, none⟩ = some (.int .i64 a1_0) ∧ w'.cell? ⟨g3, 1, none⟩ = some (.int .i64 a1_1) ∧ w'.cell? (ad.add (x6.toNat * 3)) = some (.int .i64 y.f0.f0) ∧ w'.cell? ⟨(ad.add (x6.toNat * 3)).block, (ad.add (x6.toNat * 3)).off + 1, none⟩ = some (.int .i64 y.f0.f1) ∧ w'.cell? ⟨(ad.add (x6.toNat * 3)).block, (ad.add (x6.toNat * 3)).off + 2, none⟩ = some (.int .i64 y.f1) ∧ w'.cell? (ad.add ((wrap64 (x6 - 1)).toNat * 3)) = some (.int .i64 pv)) (ds := []) #[false, false, false, false, false, false, false, false, false, false, false, false, false, false, false, false, false, false, false, false, false, false, false, false, false, false, false, false, false, false, false, false, false, false, false, false, false] (by kernel_rfl) rfl rfl ⟨blk_cell' X2d.out 2 _ rfl, blk_cell' X3d.out 0 _ rfl, blk_cell' X3d.out 1 _ rfl, ((HBd.out.cell (World.block_lt_of_cell? w _ hw0.out)).trans hw0.out), ((HBd.out.cell (World.block_lt_of_cell? w _ hw1.out)).trans hw1.out), ((HBd.out.cell (World.block_lt_of_cell? w _ hw2.out)).trans hw2.out), ((HBd.out.cell (World.block_lt_of_cell? w _ hwp.out)).trans hwp.out)⟩ (fun hHeld => ?_)
      refine run_ [(0, some 137), (2, some 139), (6, some 143), (8, some 145), (1, some 138), (3, some 140), (4, some 141), (5, some 142), (7, some 144), (9, some 146), (10, some 147), (11, some 148), (12, some 149)] ?_
      iterate 4 (refine runP (v := ?_) (a' := ?_) rfl rfl (by kernel_rfl) (fun _ _ _ h => h) (Or.inl ⟨by rfl, ?_⟩) ?_ ?_; rotate_left; (· intro w'; go_simp; with_reducible rfl); rotate_left; (· simp only [Act.put, List.setIfInBounds_toArray, List.set_cons_zero, List.set_cons_succ, i64_w, i32_w]; rfl))
      refine runT (v := ?_) (a' := ?_) rfl rfl (by kernel_rfl) (fun _ _ _ h => h) (Or.inl ⟨by rfl, ?_⟩) hHeld ?_ ?_; rotate_left; (· rintro w' ⟨s0, s1, s2, s3, s4, s5, s6⟩; go_simp; with_reducible rfl); rotate_left; (· simp only [Act.put, List.setIfInBounds_toArray, List.set_cons_zero, List.set_cons_succ, i64_w, i32_w]; rfl)
      iterate 2 (refine runP (v := ?_) (a' := ?_) rfl rfl (by kernel_rfl) (fun _ _ _ h => h) (Or.inl ⟨by rfl, ?_⟩) ?_ ?_; rotate_left; (· intro w'; go_simp; with_reducible rfl); rotate_left; (· simp only [Act.put, List.setIfInBounds_toArray, List.set_cons_zero, List.set_cons_succ, i64_w, i32_w]; rfl))
      iterate 2 (refine runT (v := ?_) (a' := ?_) rfl rfl (by kernel_rfl) (fun _ _ _ h => h) (Or.inl ⟨by rfl, ?_⟩) hHeld ?_ ?_; rotate_left; (· rintro w' ⟨s0, s1, s2, s3, s4, s5, s6⟩; go_simp; with_reducible rfl); rotate_left; (· simp only [Act.put, List.setIfInBounds_toArray, List.set_cons_zero, List.set_cons_succ, i64_w, i32_w]; rfl))
      iterate 2 (refine runP (v := ?_) (a' := ?_) rfl rfl (by kernel_rfl) (fun _ _ _ h => h) (Or.inl ⟨by rfl, ?_⟩) ?_ ?_; rotate_left; (· intro w'; go_simp; with_reducible rfl); rotate_left; (· simp only [Act.put, List.setIfInBounds_toArray, List.set_cons_zero, List.set_cons_succ, i64_w, i32_w]; rfl))
      iterate 2 (refine runT (v := ?_) (a' := ?_) rfl rfl (by kernel_rfl) (fun _ _ _ h => h) (Or.inl ⟨by rfl, ?_⟩) hHeld ?_ ?_; rotate_left; (· rintro w' ⟨s0, s1, s2, s3, s4, s5, s6⟩; go_simp; with_reducible rfl); rotate_left; (· simp only [Act.put, List.setIfInBounds_toArray, List.set_cons_zero, List.set_cons_succ, i64_w, i32_w]; rfl))
      refine runE ?_
      refine one_ (i := 13) (N := some 150) #[true, true, true, true, true, true, true, true, true, true, true, true, true, true, false, false, false, false, false, false, false, false, false, false, false, false, false, false, false, false, false, false, false, false, false, false, false] rfl rfl (by kernel_rfl) (by decide) (fun K hK => ?_)
      refine gO Try.func48 #[.agg #[.int .i64 y.f0.f0, .int .i64 y.f0.f1], .int .i64 y.f1, .agg #[.int .i64 a1_0, .int .i64 a1_1]] ?_
      with_reducible refine (slotmeshref12_Cell.calls y.f0.f0 y.f0.f1 y.f1 a1_0 a1_1 true _ HV.out).mono ?_
      rintro e wa ⟨rfl, hb⟩
      refine ⟨_, rfl, ?_⟩
      have X2a := Aside0.mk (blk_below X2d.out hb)
      have X3a := Aside0.mk (blk_below X3d.out hb)
      have HBa := Aside0.mk (below_step HBd.out hb)
      have BTa := Aside0.mk (blk_below BTd.out hb)
      clear hb
      refine hK.out _ _ ⟨blk_cell' X2a.out 2 _ rfl, blk_cell' X3a.out 0 _ rfl, blk_cell' X3a.out 1 _ rfl, ((HBa.out.cell (World.block_lt_of_cell? w _ hw0.out)).trans hw0.out), ((HBa.out.cell (World.block_lt_of_cell? w _ hw1.out)).trans hw1.out), ((HBa.out.cell (World.block_lt_of_cell? w _ hw2.out)).trans hw2.out), ((HBa.out.cell (World.block_lt_of_cell? w _ hwp.out)).trans hwp.out)⟩ (fun hHeld => ?_)
      clear hK K
      refine norm_ (a' := ?_) ?_ ?_
      rotate_left
      ·show Act.put _ (some 150) _ = _
       simp only [Act.put, List.setIfInBounds_toArray, List.set_cons_zero, List.set_cons_succ, i64_w, i32_w]
       rfl
      refine run_ [(14, some 151), (15, some 152), (16, some 153), (17, some 154), (18, some 155), (19, some 156), (21, some 158), (22, some 159), (27, some 164), (29, some 166), (20, some 157), (23, some 160), (24, some 161), (25, some 162), (26, some 163), (28, some 165), (30, some 167), (31, some 168), (32, some 169), (33, some 170), (34, some 171), (35, some 172), (36, some 173)] ?_
      iterate 10 (refine runP (v := ?_) (a' := ?_) rfl rfl (by kernel_rfl) (fun _ _ _ h => h) (Or.inl ⟨by rfl, ?_⟩) ?_ ?_; rotate_left; (· intro w'; go_simp; with_reducible rfl); rotate_left; (· simp only [Act.put, List.setIfInBounds_toArray, List.set_cons_zero, List.set_cons_succ, i64_w, i32_w]; rfl))
      refine runT (v := ?_) (a' := ?_) rfl rfl (by kernel_rfl) (fun _ _ _ h => h) (Or.inl ⟨by rfl, ?_⟩) hHeld ?_ ?_; rotate_left; (· rintro w' ⟨s0, s1, s2, s3, s4, s5, s6⟩; go_simp; with_reducible rfl); rotate_left; (· simp only [Act.put, List.setIfInBounds_toArray, List.set_cons_zero, List.set_cons_succ, i64_w, i32_w]; rfl)
      iterate 3 (refine runP (v := ?_) (a' := ?_) rfl rfl (by kernel_rfl) (fun _ _ _ h => h) (Or.inl ⟨by rfl, ?_⟩) ?_ ?_; rotate_left; (· intro w'; go_simp; with_reducible rfl); rotate_left; (· simp only [Act.put, List.setIfInBounds_toArray, List.set_cons_zero, List.set_cons_succ, i64_w, i32_w]; rfl))
      iterate 2 (refine runT (v := ?_) (a' := ?_) rfl rfl (by kernel_rfl) (fun _ _ _ h => h) (Or.inl ⟨by rfl, ?_⟩) hHeld ?_ ?_; rotate_left; (· rintro w' ⟨s0, s1, s2, s3, s4, s5, s6⟩; go_simp; with_reducible rfl); rotate_left; (· simp only [Act.put, List.setIfInBounds_toArray, List.set_cons_zero, List.set_cons_succ, i64_w, i32_w]; rfl))
      iterate 3 (refine runP (v := ?_) (a' := ?_) rfl rfl (by kernel_rfl) (fun _ _ _ h => h) (Or.inl ⟨by rfl, ?_⟩) ?_ ?_; rotate_left; (· intro w'; go_simp; with_reducible rfl); rotate_left; (· simp only [Act.put, List.setIfInBounds_toArray, List.set_cons_zero, List.set_cons_succ, i64_w, i32_w]; rfl))
      refine runT (v := ?_) (a' := ?_) rfl rfl (by kernel_rfl) (fun _ _ _ h => h) (Or.inl ⟨by rfl, ?_⟩) hHeld ?_ ?_; rotate_left; (· rintro w' ⟨s0, s1, s2, s3, s4, s5, s6⟩; go_simp; with_reducible rfl); rotate_left; (· simp only [Act.put, List.setIfInBounds_toArray, List.set_cons_zero, List.set_cons_succ, i64_w, i32_w]; rfl)
      iterate 3 (refine runP (v := ?_) (a' := ?_) rfl rfl (by kernel_rfl) (fun _ _ _ h => h) (Or.inl ⟨by rfl, ?_⟩) ?_ ?_; rotate_left; (· intro w'; go_simp; with_reducible rfl); rotate_left; (· simp only [Act.put, List.setIfInBounds_toArray, List.set_cons_zero, List.set_cons_succ, i64_w, i32_w]; rfl))
      refine runE ?_
      refine done_ (by kernel_rfl) ?_
      have y2 := blk_cell' X2a.out 2 _ rfl
      have e0 := (HBa.out.cell (World.block_lt_of_cell? w _ hw0.out)).trans hw0.out
      have t0 := blk_cell' BTa.out y.f0.f0.toNat _ (encI_get HCL.out)
      have f0 := blk_frozen BTa.out y.f0.f0.toNat
      go_wp2
      go_roundg (l0_2.length - (kk + 1))
      case measure => have := HK.out; have := of_eq_true c1; omega
      case rel => exact ⟨wrap64 (x6 + 1), kk + 1, _, rfl, ⟨by have := HK.out; have := HSZ.out; unfold wrap64; omega, by have := HK.out; have := of_eq_true c1; omega, Nat.le_refl _⟩, HSP2, ⟨by rw [HTK.out, ← List.append_assoc]; exact CV2.out⟩, ⟨by rw [← encI_set]; exact blk_put BTa.out _ _ rfl⟩, ⟨blk_set_far X2a.out NE2.out _⟩, ⟨blk_set_far X3a.out NE3.out _⟩, ⟨below_set HBa.out GET.out⟩⟩
     have d2 := decide_eq_false c2
     have HSP2 : Aside0 (snd51 a1_0 a1_1 (-1) l0_2 = snd51 a1_0 a1_1 (last51 l0_2 (kk + 1)) (l0_2.drop (kk + 1))) := ⟨by
      have hk0 : kk = 0 := by have := HK.out.1; omega
      have hl : last51 l0_2 kk = -1 := by rw [hk0]; rfl
      have hs := (v51_slot HVV.out).1
      rw [HS.out, HVV.out, hl, decide_eq_true (show (-1 : Int) < y.f0.f0 by omega)]; rfl⟩
     clear c2 HPB HLP
     have hsl := v51_slot HVV.out
     have NS : Aside0 ((([] : List Int) ++ l0_0.map (fun x => x.f0.f0) ++ l0_1.map (fun x => x.f0.f0) ++ (l0_2.take kk).map (fun x => x.f0.f0)).length < 1000000) := ⟨by have := HSZ.out; have := HK.out; simp only [List.length_append, List.length_map, List.length_take, List.length_nil]; omega⟩
     have CV2 := Aside0.mk (cvec_step CV.out hsl.1 hsl.2 NS.out)
     have HCL : Aside0 (y.f0.f0.toNat < cs2.length) := ⟨by have := CV.out.1; omega⟩
     have q0 := eq_true hsl.1
     have q1 : (y.f0.f0 < (n : Int)) = True := eq_true (by have := HN.out; omega)
     clear hsl
     go_wp2
     have X2d := Aside0.mk (blk_drew X2.out)
     have X3d := Aside0.mk (blk_drew X3.out)
     have HBd := Aside0.mk (below_drew1 HB.out)
     have BTd := Aside0.mk (blk_drew BT.out)
     refine start_ (n := 37) (S := fun w' => w'.cell? ⟨g2, 2, none⟩ = some (.slice (some ad) l0_2.length c0_2) ∧ w'.cell? ⟨g3, 0, none⟩ = some (.int .i64 a1_0) ∧ w'.cell? ⟨g3, 1, none⟩ = some (.int .i64 a1_1) ∧ w'.cell? (ad.add (x6.toNat * 3)) = some (.int .i64 y.f0.f0) ∧ w'.cell? ⟨(ad.add (x6.toNat * 3)).block, (ad.add (x6.toNat * 3)).off + 1, none⟩ = some (.int .i64 y.f0.f1) ∧ w'.cell? ⟨(ad.add (x6.toNat * 3)).block, (ad.add (x6.toNat * 3)).off + 2, none⟩ = some (.int .i64 y.f1)) (ds := []) #[false, false, false, false, false, false, false, false, false, false, false, false, false, false, false, false, false, false, false, false, false, false, false, false, false, false, false, false, false, false, false, false, false, false, false, false, false] (by kernel_rfl) rfl rfl ⟨blk_cell' X2d.out 2 _ rfl, blk_cell' X3d.out 0 _ rfl, blk_cell' X3d.out 1 _ rfl, ((HBd.out.cell (World.block_lt_of_cell? w _ hw0.out)).trans hw0.out), ((HBd.out.cell (World.block_lt_of_cell? w _ hw1.out)).trans hw1.out), ((HBd.out.cell (World.block_lt_of_cell? w _ hw2.out)).trans hw2.out)⟩ (fun hHeld => ?_)
     refine run_ [(0, some 137), (2, some 139), (6, some 143), (8, some 145), (1, some 138), (3, some 140), (4, some 141), (5, some 142), (7, some 144), (9, some 146), (10, some 147), (11, some 148), (12, some 149)] ?_
     iterate 4 (refine runP (v := ?_) (a' := ?_) rfl rfl (by kernel_rfl) (fun _ _ _ h => h) (Or.inl ⟨by rfl, ?_⟩) ?_ ?_; rotate_left; (· intro w'; go_simp; with_reducible rfl); rotate_left; (· simp only [Act.put, List.setIfInBounds_toArray, List.set_cons_zero, List.set_cons_succ, i64_w, i32_w]; rfl))
     refine runT (v := ?_) (a' := ?_) rfl rfl (by kernel_rfl) (fun _ _ _ h => h) (Or.inl ⟨by rfl, ?_⟩) hHeld ?_ ?_; rotate_left; (· rintro w' ⟨s0, s1, s2, s3, s4, s5⟩; go_simp; with_reducible rfl); rotate_left; (· simp only [Act.put, List.setIfInBounds_toArray, List.set_cons_zero, List.set_cons_succ, i64_w, i32_w]; rfl)
     iterate 2 (refine runP (v := ?_) (a' := ?_) rfl rfl (by kernel_rfl) (fun _ _ _ h => h) (Or.inl ⟨by rfl, ?_⟩) ?_ ?_; rotate_left; (· intro w'; go_simp; with_reducible rfl); rotate_left; (· simp only [Act.put, List.setIfInBounds_toArray, List.set_cons_zero, List.set_cons_succ, i64_w, i32_w]; rfl))
     iterate 2 (refine runT (v := ?_) (a' := ?_) rfl rfl (by kernel_rfl) (fun _ _ _ h => h) (Or.inl ⟨by rfl, ?_⟩) hHeld ?_ ?_; rotate_left; (· rintro w' ⟨s0, s1, s2, s3, s4, s5⟩; go_simp; with_reducible rfl); rotate_left; (· simp only [Act.put, List.setIfInBounds_toArray, List.set_cons_zero, List.set_cons_succ, i64_w, i32_w]; rfl))
     iterate 2 (refine runP (v := ?_) (a' := ?_) rfl rfl (by kernel_rfl) (fun _ _ _ h => h) (Or.inl ⟨by rfl, ?_⟩) ?_ ?_; rotate_left; (· intro w'; go_simp; with_reducible rfl); rotate_left; (· simp only [Act.put, List.setIfInBounds_toArray, List.set_cons_zero, List.set_cons_succ, i64_w, i32_w]; rfl))
     iterate 2 (refine runT (v := ?_) (a' := ?_) rfl rfl (by kernel_rfl) (fun _ _ _ h => h) (Or.inl ⟨by rfl, ?_⟩) hHeld ?_ ?_; rotate_left; (· rintro w' ⟨s0, s1, s2, s3, s4, s5⟩; go_simp; with_reducible rfl); rotate_left; (· simp only [Act.put, List.setIfInBounds_toArray, List.set_cons_zero, List.set_cons_succ, i64_w, i32_w]; rfl))
     refine runE ?_
     refine one_ (i := 13) (N := some 150) #[true, true, true, true, true, true, true, true, true, true, true, true, true, true, false, false, false, false, false, false, false, false, false, false, false, false, false, false, false, false, false, false, false, false, false, false, false] rfl rfl (by kernel_rfl) (by decide) (fun K hK => ?_)
     refine gO Try.func48 #[.agg #[.int .i64 y.f0.f0, .int .i64 y.f0.f1], .int .i64 y.f1, .agg #[.int .i64 a1_0, .int .i64 a1_1]] ?_
     with_reducible refine (slotmeshref12_Cell.calls y.f0.f0 y.f0.f1 y.f1 a1_0 a1_1 true _ HV.out).mono ?_
     rintro e wa ⟨rfl, hb⟩
     refine ⟨_, rfl, ?_⟩
     have X2a := Aside0.mk (blk_below X2d.out hb)
     have X3a := Aside0.mk (blk_below X3d.out hb)
     have HBa := Aside0.mk (below_step HBd.out hb)
     have BTa := Aside0.mk (blk_below BTd.out hb)
     clear hb
     refine hK.out _ _ ⟨blk_cell' X2a.out 2 _ rfl, blk_cell' X3a.out 0 _ rfl, blk_cell' X3a.out 1 _ rfl, ((HBa.out.cell (World.block_lt_of_cell? w _ hw0.out)).trans hw0.out), ((HBa.out.cell (World.block_lt_of_cell? w _ hw1.out)).trans hw1.out), ((HBa.out.cell (World.block_lt_of_cell? w _ hw2.out)).trans hw2.out)⟩ (fun hHeld => ?_)
     clear hK K
     refine norm_ (a' := ?_) ?_ ?_
     rotate_left
     ·show Act.put _ (some 150) _ = _
      simp only [Act.put, List.setIfInBounds_toArray, List.set_cons_zero, List.set_cons_succ, i64_w, i32_w]
      rfl
     refine run_ [(14, some 151), (15, some 152), (16, some 153), (17, some 154), (18, some 155), (19, some 156), (20, some 157), (21, some 158), (22, some 159), (23, some 160), (24, some 161), (25, some 162), (26, some 163), (27, some 164), (28, some 165), (29, some 166), (30, some 167), (31, some 168), (32, some 169), (33, some 170), (34, some 171), (35, some 172), (36, some 173)] ?_
     iterate 5 (refine runP (v := ?_) (a' := ?_) rfl rfl (by kernel_rfl) (fun _ _ _ h => h) (Or.inl ⟨by rfl, ?_⟩) ?_ ?_; rotate_left; (· intro w'; go_simp; with_reducible rfl); rotate_left; (· simp only [Act.put, List.setIfInBounds_toArray, List.set_cons_zero, List.set_cons_succ, i64_w, i32_w]; rfl))
     iterate 16 (refine runP (v := undef) (a' := ?_) rfl rfl (by kernel_rfl) (fun _ _ _ h => h) (Or.inr ⟨by rfl, rfl⟩) ?_ ?_; rotate_left; (· simp only [Act.put, List.setIfInBounds_toArray, List.set_cons_zero, List.set_cons_succ, i64_w, i32_w]; rfl))
     iterate 2 (refine runP (v := ?_) (a' := ?_) rfl rfl (by kernel_rfl) (fun _ _ _ h => h) (Or.inl ⟨by rfl, ?_⟩) ?_ ?_; rotate_left; (· intro w'; go_simp; with_reducible rfl); rotate_left; (· simp only [Act.put, List.setIfInBounds_toArray, List.set_cons_zero, List.set_cons_succ, i64_w, i32_w]; rfl))
     refine runE ?_
     refine done_ (by kernel_rfl) ?_
     have y2 := blk_cell' X2a.out 2 _ rfl
     have e0 := (HBa.out.cell (World.block_lt_of_cell? w _ hw0.out)).trans hw0.out
     have t0 := blk_cell' BTa.out y.f0.f0.toNat _ (encI_get HCL.out)
     have f0 := blk_frozen BTa.out y.f0.f0.toNat
     go_wp2
     go_roundg (l0_2.length - (kk + 1))
     case measure => have := HK.out; have := of_eq_true c1; omega
     case rel => exact ⟨wrap64 (x6 + 1), kk + 1, _, rfl, ⟨by have := HK.out; have := HSZ.out; unfold wrap64; omega, by have := HK.out; have := of_eq_true c1; omega, Nat.le_refl _⟩, HSP2, ⟨by rw [HTK.out, ← List.append_assoc]; exact CV2.out⟩, ⟨by rw [← encI_set]; exact blk_put BTa.out _ _ rfl⟩, ⟨blk_set_far X2a.out NE2.out _⟩, ⟨blk_set_far X3a.out NE3.out _⟩, ⟨below_set HBa.out GET.out⟩⟩
    have d1 := decide_eq_false c1
    have HE : Aside0 (kk = l0_2.length) := ⟨by have := HK.out; omega⟩
    have HT : Aside0 (snd51 a1_0 a1_1 (-1) l0_2 = true) := ⟨by rw [HSP.out, List.drop_of_length_le (by have := HE.out; omega)]; rfl⟩
    have CW : Aside0 (Cvec cs2 a1_1 (([] : List Int) ++ l0_0.map (fun x => x.f0.f0) ++ l0_1.map (fun x => x.f0.f0) ++ l0_2.map (fun x => x.f0.f0))) := ⟨by have h1 := CV.out; rwa [List.take_of_length_le (by have := HE.out; omega)] at h1⟩
    rw [HT.out, if_neg (by decide)] at HVB
    have y2 := blk_cell' X2.out 2 _ rfl
    have HT2 := HT
    clear HK HSP HE HT c1 CV
    have CV := CW
    clear CW
    go_wp2
    have HCV : Aside0 (Cvec cs2 a1_1 (slotsOf l0_0 l0_1 l0_2)) := ⟨by have h1 := CV.out; rw [List.nil_append] at h1; exact h1⟩
    have HIN : Aside0 (∀ s ∈ slotsOf l0_0 l0_1 l0_2, 0 ≤ s ∧ s < a1_1) := ⟨fun s hs => by
     unfold slotsOf at hs
     simp only [List.mem_append, List.mem_map] at hs
     rcases hs with (⟨x, hx, rfl⟩ | ⟨x, hx, rfl⟩) | ⟨x, hx, rfl⟩
     ·exact v32_slot (snd32_all HT0.out x hx)
     ·exact v34_slot (snd34_all HT1.out x hx)
     exact v51_slot (snd51_all HT2.out x hx)⟩
    generalize slotsOf l0_0 l0_1 l0_2 = ss at HCV HIN HVB
    clear CV HT0 HT1 HT2
    go_loopg [9] n (fun gg s9 wr => ∃ (x9 : Int) (kk : Nat), s9 = .int .i64 x9 ∧ Aside0 (x9 = (kk : Int) ∧ kk ≤ n ∧ n - kk ≤ gg) ∧ Aside0 (∀ u : Nat, u < kk → cs2.getD u 0 ≤ 1) ∧ Aside0 (wr.heap[gt]? = some (.cells (encI cs2) 3 (0, 0))) ∧ Aside0 (Below w.heap.size w wr))
    case atStart => exact ⟨0, 0, rfl, ⟨rfl, Nat.zero_le _, Nat.le_refl _⟩, ⟨fun u hu => absurd hu (Nat.not_lt_zero _)⟩, BT, HB⟩
    case round =>
     clear BT X2 X3 HB
     obtain ⟨x9, kk, rfl, HK, HOK, BT, HB⟩ := hrel
     by_cases c1 : x9 < (n : Int)
     ·have d1 := decide_eq_true c1
      have p1 : (0 ≤ x9) = True := eq_true (by have := HK.out.1; omega)
      have HCL : Aside0 (x9.toNat < cs2.length) := ⟨by have := HCV.out.1; have := HN.out; have := HK.out.1; omega⟩
      have HXN : Aside0 (x9.toNat = kk) := ⟨by have := HK.out.1; omega⟩
      have t0 := blk_cell' BT.out x9.toNat _ (encI_get HCL.out)
      obtain ⟨cv, hcv⟩ : ∃ cv, cs2.getD x9.toNat 0 = cv := ⟨_, rfl⟩
      rw [hcv] at t0
      have HCVE := Aside0.mk hcv
      clear hcv
      by_cases c2 : 1 < cv
      ·have d2 := decide_eq_true c2
       obtain rfl : false = r := by
        rw [← HVB.out]
        have h1 := HCV.out.2 _ HCL.out
        rw [HCVE.out, HXN.out] at h1
        exact (dupfree_hit (x := (kk : Int)) (by rw [← h1]; exact c2)).symm
       have HCV1 := Aside0.mk c1
       clear c2
       replace c1 := eq_true c1
       go_wp2
       go_ret
       exact ⟨rfl, HB.out⟩
      have d2 := decide_eq_false c2
      have HC2 := Aside0.mk c2
      have HC1 := Aside0.mk c1
      clear c2
      replace c1 := eq_true c1
      go_wp2
      go_roundg (n - (kk + 1))
      case measure => have := HK.out; have := HC1.out; omega
      case rel => exact ⟨wrap64 (x9 + 1), kk + 1, rfl, ⟨by have := HK.out; have := HC1.out; have := HN.out; have := HDT.out; unfold wrap64; omega, by have := HK.out; have := HC1.out; omega, Nat.le_refl _⟩, ⟨fun u hu => by
       by_cases e : u = kk
       ·have h1 := HC2.out; have h2 := HCVE.out; rw [HXN.out, ← e] at h2; omega
       exact HOK.out u (by omega)⟩, BT, HB⟩
     have d1 := decide_eq_false c1
     obtain rfl : true = r := by
      rw [← HVB.out]
      refine (dupfree_all fun s hs => ?_).symm
      obtain ⟨h0, h1⟩ := HIN.out s hs
      have hl := HCV.out.1
      have hn := HN.out
      have hk := HK.out
      have h2 := HCV.out.2 s.toNat (by omega)
      have h3 := HOK.out s.toNat (by omega)
      rw [h2, Int.toNat_of_nonneg h0] at h3
      omega
     go_wp2
     go_ret
     exact ⟨rfl, HB.out⟩
def slotmeshref12_Valid.f (l0_0 : List (S32)) (l0_1 : List (S34)) (l0_2 : List (S51)) (a1_0 : Int) (a1_1 : Int) : Option (Bool) := if l0_0.length < 3518437208883 ∧ l0_1.length < 3518437208883 ∧ l0_2.length < 3518437208883 then some (validB l0_0 l0_1 l0_2 a1_0 a1_1) else none
theorem slotmeshref12_Valid.calls (A0_0 : Option Addr) (c0_0 : Nat) (l0_0 : List (S32)) (A0_1 : Option Addr) (c0_1 : Nat) (l0_1 : List (S34)) (A0_2 : Option Addr) (c0_2 : Nat) (l0_2 : List (S51)) (a1_0 : Int) (a1_1 : Int) (r : Bool) (w : World) (hr0_0 : Kd.C k32 w A0_0 l0_0.length l0_0) (hc0_0 : l0_0.length ≤ c0_0) (hr0_1 : Kd.C k34 w A0_1 l0_1.length l0_1) (hc0_1 : l0_1.length ≤ c0_1) (hr0_2 : Kd.C k51 w A0_2 l0_2.length l0_2) (hc0_2 : l0_2.length ≤ c0_2) (h : slotmeshref12_Valid.f l0_0 l0_1 l0_2 a1_0 a1_1 = some r) :
  Calls Try.prog 18 #[.agg #[.slice A0_0 l0_0.length c0_0, .slice A0_1 l0_1.length c0_1, .slice A0_2 l0_2.length c0_2], .agg #[.int .i64 a1_0, .int .i64 a1_1]] w fun e w' => e = .returned (.bool r) ∧ Below w.heap.size w w' :=
 refValid_walk A0_0 c0_0 l0_0 A0_1 c0_1 l0_1 A0_2 c0_2 l0_2 a1_0 a1_1 r w hr0_0 hc0_0 hr0_1 hc0_1 hr0_2 hc0_2 h

end Go.Proofs.Ytbpfbdljcdcgnaa.Px
