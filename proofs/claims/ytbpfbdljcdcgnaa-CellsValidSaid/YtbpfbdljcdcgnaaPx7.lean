/- Walks of functions of this seat, written by a program of this workplace out of the translation. -/
import Derived.Test.YtbpfbdljcdcgnaaPx0
namespace Go.Proofs.Ytbpfbdljcdcgnaa.Px
open Go.RowKit Go.Proofs.YtbpfbdljcdcgnaaW.PrintWords Go.Proofs.YtbpfbdljcdcgnaaW.PrintLast Go.Proofs.YtbpfbdljcdcgnaaW.PrintMore
attribute [local go_sem] max2_int min2_int max_two min_two max_three min_three max_four min_four   -- for this text's walks alone
set_option linter.unusedVariables false
set_option linter.unusedSimpArgs false

/-! ### cells_toUse: function 31 -/
def cells_toUse.f (a0_0 : Int) (a0_1 : Int) (a0_2 : Int) (a0_3 : Int) : Option (Int × Int × Int × Int) := some (a0_0, a0_1, a0_2, a0_3)
set_option maxHeartbeats 8000000 in
set_option maxRecDepth 100000 in
theorem cells_toUse.calls (a0_0 : Int) (a0_1 : Int) (a0_2 : Int) (a0_3 : Int) (r1 : Int) (r2 : Int) (r3 : Int) (r4 : Int) (w : World) (h : cells_toUse.f a0_0 a0_1 a0_2 a0_3 = some (r1, r2, r3, r4)) :
  Calls Try.prog 31 #[.agg #[.int .i64 a0_0, .int .i64 a0_1, .int .i64 a0_2, .int .i64 a0_3]] w fun e w' => e = .returned (.agg #[.int .i64 r1, .int .i64 r2, .int .i64 r3, .int .i64 r4]) ∧ Below w.heap.size w w' := by
 have hu32 := Try.underlying32
 have hu66 := Try.underlying66
 have HB := Aside0.mk (Below.refl w.heap.size w)
 have H : (some (a0_0, a0_1, a0_2, a0_3)) = some (r1, r2, r3, r4) := h
 clear h
 simp only [Option.some.injEq, Prod.mk.injEq] at H
 obtain ⟨rfl, rfl, rfl, rfl⟩ := H
 go_enter Try.func31, Try.ntmps31
 go_wp2_with (first | ((with_reducible refine gate_dst (N := 1) rfl ?_); refine bE (N := 1) (cs := #[.int .i64 a0_0, .int .i64 a0_1, .int .i64 a0_2, .int .i64 a0_3]) (t := 32) ?_; intro gb101 hg w2 hbox hb; have BK101 := Aside0.mk (hbox); have GW101 := gW hg HB; have GE101 := GW101; replace HB := tW HB hb; clear hb hbox hg) | ((with_reducible refine gate_dst (N := 2) rfl ?_); refine bE (N := 2) (cs := #[.int .i64 0, .int .i64 0, .int .i64 0, .int .i64 0]) (t := 66) ?_; intro gb102 hg w3 hbox hb; have BK102 := Aside0.mk (hbox); have GW102 := gW hg HB; have GE102 := GW102; replace HB := tW HB hb; have NB101_102 := gL hg BK101; have NB102_101 := gG hg BK101; replace BK101 := tB BK101 hb; clear hb hbox hg; have hnb4 := NB101_102.out; have hnc4 := NB102_101.out; have hcz5_0 : w3.cell? ⟨gb101, 0, none⟩ = some (.int .i64 a0_0) := bt BK101 0; have hcz5_1 : w3.cell? ⟨gb101, 1, none⟩ = some (.int .i64 a0_1) := bt BK101 1; have hcz5_2 : w3.cell? ⟨gb101, 2, none⟩ = some (.int .i64 a0_2) := bt BK101 2; have hcz5_3 : w3.cell? ⟨gb101, 3, none⟩ = some (.int .i64 a0_3) := bt BK101 3; have hfz5_0 := blk_frozen BK101.out 0; have hfz5_1 := blk_frozen BK101.out 1; have hfz5_2 := blk_frozen BK101.out 2; have hfz5_3 := blk_frozen BK101.out 3; have hcz6_0 : w3.cell? ⟨gb102, 0, none⟩ = some (.int .i64 0) := bt BK102 0; have hcz6_1 : w3.cell? ⟨gb102, 1, none⟩ = some (.int .i64 0) := bt BK102 1; have hcz6_2 : w3.cell? ⟨gb102, 2, none⟩ = some (.int .i64 0) := bt BK102 2; have hcz6_3 : w3.cell? ⟨gb102, 3, none⟩ = some (.int .i64 0) := bt BK102 3; have hfz6_0 := blk_frozen BK102.out 0; have hfz6_1 := blk_frozen BK102.out 1; have hfz6_2 := blk_frozen BK102.out 2; have hfz6_3 := blk_frozen BK102.out 3))
 refine bodyPost_ret (results_cell_row rfl _ _ gb102 66 #[.int .i64 a0_0, .int .i64 a0_1, .int .i64 a0_2, .int .i64 a0_3] (0, 0) _ rfl (by (with_reducible repeat (first | refine blk_drewN ?_ _ | refine blk_drew ?_ | refine blk_alloc ?_ _)); refine blk_put (cs := #[.int .i64 a0_0, .int .i64 a0_1, .int .i64 a0_2, .int .i64 0]) ?_ 3 _ rfl; (with_reducible repeat (first | refine blk_drewN ?_ _ | refine blk_drew ?_ | refine blk_alloc ?_ _)); refine blk_put (cs := #[.int .i64 a0_0, .int .i64 a0_1, .int .i64 0, .int .i64 0]) ?_ 2 _ rfl; (with_reducible repeat (first | refine blk_drewN ?_ _ | refine blk_drew ?_ | refine blk_alloc ?_ _)); refine blk_put (cs := #[.int .i64 a0_0, .int .i64 0, .int .i64 0, .int .i64 0]) ?_ 1 _ rfl; (with_reducible repeat (first | refine blk_drewN ?_ _ | refine blk_drew ?_ | refine blk_alloc ?_ _)); refine blk_put (cs := #[.int .i64 0, .int .i64 0, .int .i64 0, .int .i64 0]) ?_ 0 _ rfl; (with_reducible repeat (first | refine blk_drewN ?_ _ | refine blk_drew ?_ | refine blk_alloc ?_ _)); exact BK102.out) Try.underlying66 rfl (by kernel_rfl)) rfl ?_
 exact ⟨aE, sW HB⟩

/-! ### cells_toGrant: function 38 -/
def cells_toGrant.f (a0_0 : Int) (a0_1 : Int) (a0_2 : Int) (a0_3 : Int) (a0_4 : Int) : Option (Int × Int × Int × Int × Int) := some (a0_0, a0_1, a0_2, a0_3, a0_4)
set_option maxHeartbeats 8000000 in
set_option maxRecDepth 100000 in
theorem cells_toGrant.calls (a0_0 : Int) (a0_1 : Int) (a0_2 : Int) (a0_3 : Int) (a0_4 : Int) (r1 : Int) (r2 : Int) (r3 : Int) (r4 : Int) (r5 : Int) (w : World) (h : cells_toGrant.f a0_0 a0_1 a0_2 a0_3 a0_4 = some (r1, r2, r3, r4, r5)) :
  Calls Try.prog 38 #[.agg #[.int .i64 a0_0, .int .i64 a0_1, .int .i64 a0_2, .int .i64 a0_3, .int .i64 a0_4]] w fun e w' => e = .returned (.agg #[.int .i64 r1, .int .i64 r2, .int .i64 r3, .int .i64 r4, .int .i64 r5]) ∧ Below w.heap.size w w' := by
 have hu34 := Try.underlying34
 have hu73 := Try.underlying73
 have HB := Aside0.mk (Below.refl w.heap.size w)
 have H : (some (a0_0, a0_1, a0_2, a0_3, a0_4)) = some (r1, r2, r3, r4, r5) := h
 clear h
 simp only [Option.some.injEq, Prod.mk.injEq] at H
 obtain ⟨rfl, rfl, rfl, rfl, rfl⟩ := H
 go_enter Try.func38, Try.ntmps38
 go_wp2_with (first | ((with_reducible refine gate_dst (N := 1) rfl ?_); refine bE (N := 1) (cs := #[.int .i64 a0_0, .int .i64 a0_1, .int .i64 a0_2, .int .i64 a0_3, .int .i64 a0_4]) (t := 34) ?_; intro gb103 hg w2 hbox hb; have BK103 := Aside0.mk (hbox); have GW103 := gW hg HB; have GE103 := GW103; replace HB := tW HB hb; clear hb hbox hg) | ((with_reducible refine gate_dst (N := 2) rfl ?_); refine bE (N := 2) (cs := #[.int .i64 0, .int .i64 0, .int .i64 0, .int .i64 0, .int .i64 0]) (t := 73) ?_; intro gb104 hg w3 hbox hb; have BK104 := Aside0.mk (hbox); have GW104 := gW hg HB; have GE104 := GW104; replace HB := tW HB hb; have NB103_104 := gL hg BK103; have NB104_103 := gG hg BK103; replace BK103 := tB BK103 hb; clear hb hbox hg; have hnb4 := NB103_104.out; have hnc4 := NB104_103.out; have hcz5_0 : w3.cell? ⟨gb103, 0, none⟩ = some (.int .i64 a0_0) := bt BK103 0; have hcz5_1 : w3.cell? ⟨gb103, 1, none⟩ = some (.int .i64 a0_1) := bt BK103 1; have hcz5_2 : w3.cell? ⟨gb103, 2, none⟩ = some (.int .i64 a0_2) := bt BK103 2; have hcz5_3 : w3.cell? ⟨gb103, 3, none⟩ = some (.int .i64 a0_3) := bt BK103 3; have hcz5_4 : w3.cell? ⟨gb103, 4, none⟩ = some (.int .i64 a0_4) := bt BK103 4; have hfz5_0 := blk_frozen BK103.out 0; have hfz5_1 := blk_frozen BK103.out 1; have hfz5_2 := blk_frozen BK103.out 2; have hfz5_3 := blk_frozen BK103.out 3; have hfz5_4 := blk_frozen BK103.out 4; have hcz6_0 : w3.cell? ⟨gb104, 0, none⟩ = some (.int .i64 0) := bt BK104 0; have hcz6_1 : w3.cell? ⟨gb104, 1, none⟩ = some (.int .i64 0) := bt BK104 1; have hcz6_2 : w3.cell? ⟨gb104, 2, none⟩ = some (.int .i64 0) := bt BK104 2; have hcz6_3 : w3.cell? ⟨gb104, 3, none⟩ = some (.int .i64 0) := bt BK104 3; have hcz6_4 : w3.cell? ⟨gb104, 4, none⟩ = some (.int .i64 0) := bt BK104 4; have hfz6_0 := blk_frozen BK104.out 0; have hfz6_1 := blk_frozen BK104.out 1; have hfz6_2 := blk_frozen BK104.out 2; have hfz6_3 := blk_frozen BK104.out 3; have hfz6_4 := blk_frozen BK104.out 4))
 refine bodyPost_ret (results_cell_row rfl _ _ gb104 73 #[.int .i64 a0_0, .int .i64 a0_1, .int .i64 a0_2, .int .i64 a0_3, .int .i64 a0_4] (0, 0) _ rfl (by (with_reducible repeat (first | refine blk_drewN ?_ _ | refine blk_drew ?_ | refine blk_alloc ?_ _)); refine blk_put (cs := #[.int .i64 a0_0, .int .i64 a0_1, .int .i64 a0_2, .int .i64 a0_3, .int .i64 0]) ?_ 4 _ rfl; (with_reducible repeat (first | refine blk_drewN ?_ _ | refine blk_drew ?_ | refine blk_alloc ?_ _)); refine blk_put (cs := #[.int .i64 a0_0, .int .i64 a0_1, .int .i64 a0_2, .int .i64 0, .int .i64 0]) ?_ 3 _ rfl; (with_reducible repeat (first | refine blk_drewN ?_ _ | refine blk_drew ?_ | refine blk_alloc ?_ _)); refine blk_put (cs := #[.int .i64 a0_0, .int .i64 a0_1, .int .i64 0, .int .i64 0, .int .i64 0]) ?_ 2 _ rfl; (with_reducible repeat (first | refine blk_drewN ?_ _ | refine blk_drew ?_ | refine blk_alloc ?_ _)); refine blk_put (cs := #[.int .i64 a0_0, .int .i64 0, .int .i64 0, .int .i64 0, .int .i64 0]) ?_ 1 _ rfl; (with_reducible repeat (first | refine blk_drewN ?_ _ | refine blk_drew ?_ | refine blk_alloc ?_ _)); refine blk_put (cs := #[.int .i64 0, .int .i64 0, .int .i64 0, .int .i64 0, .int .i64 0]) ?_ 0 _ rfl; (with_reducible repeat (first | refine blk_drewN ?_ _ | refine blk_drew ?_ | refine blk_alloc ?_ _)); exact BK104.out) Try.underlying73 rfl (by kernel_rfl)) rfl ?_
 exact ⟨aE, sW HB⟩

/-! ### cells_toAsk: function 46 -/
def cells_toAsk.f (a0_0 : Int) (a0_1 : Int) (a0_2 : Int) : Option (Int × Int × Int) := some (a0_0, a0_1, a0_2)
set_option maxHeartbeats 8000000 in
set_option maxRecDepth 100000 in
theorem cells_toAsk.calls (a0_0 : Int) (a0_1 : Int) (a0_2 : Int) (r1 : Int) (r2 : Int) (r3 : Int) (w : World) (h : cells_toAsk.f a0_0 a0_1 a0_2 = some (r1, r2, r3)) :
  Calls Try.prog 46 #[.agg #[.int .i64 a0_0, .int .i64 a0_1, .int .i64 a0_2]] w fun e w' => e = .returned (.agg #[.int .i64 r1, .int .i64 r2, .int .i64 r3]) ∧ Below w.heap.size w w' := by
 have hu51 := Try.underlying51
 have hu86 := Try.underlying86
 have HB := Aside0.mk (Below.refl w.heap.size w)
 have H : (some (a0_0, a0_1, a0_2)) = some (r1, r2, r3) := h
 clear h
 simp only [Option.some.injEq, Prod.mk.injEq] at H
 obtain ⟨rfl, rfl, rfl⟩ := H
 go_enter Try.func46, Try.ntmps46
 go_wp2_with (first | ((with_reducible refine gate_dst (N := 1) rfl ?_); refine bE (N := 1) (cs := #[.int .i64 a0_0, .int .i64 a0_1, .int .i64 a0_2]) (t := 51) ?_; intro gb105 hg w2 hbox hb; have BK105 := Aside0.mk (hbox); have GW105 := gW hg HB; have GE105 := GW105; replace HB := tW HB hb; clear hb hbox hg) | ((with_reducible refine gate_dst (N := 2) rfl ?_); refine bE (N := 2) (cs := #[.int .i64 0, .int .i64 0, .int .i64 0]) (t := 86) ?_; intro gb106 hg w3 hbox hb; have BK106 := Aside0.mk (hbox); have GW106 := gW hg HB; have GE106 := GW106; replace HB := tW HB hb; have NB105_106 := gL hg BK105; have NB106_105 := gG hg BK105; replace BK105 := tB BK105 hb; clear hb hbox hg; have hnb4 := NB105_106.out; have hnc4 := NB106_105.out; have hcz5_0 : w3.cell? ⟨gb105, 0, none⟩ = some (.int .i64 a0_0) := bt BK105 0; have hcz5_1 : w3.cell? ⟨gb105, 1, none⟩ = some (.int .i64 a0_1) := bt BK105 1; have hcz5_2 : w3.cell? ⟨gb105, 2, none⟩ = some (.int .i64 a0_2) := bt BK105 2; have hfz5_0 := blk_frozen BK105.out 0; have hfz5_1 := blk_frozen BK105.out 1; have hfz5_2 := blk_frozen BK105.out 2; have hcz6_0 : w3.cell? ⟨gb106, 0, none⟩ = some (.int .i64 0) := bt BK106 0; have hcz6_1 : w3.cell? ⟨gb106, 1, none⟩ = some (.int .i64 0) := bt BK106 1; have hcz6_2 : w3.cell? ⟨gb106, 2, none⟩ = some (.int .i64 0) := bt BK106 2; have hfz6_0 := blk_frozen BK106.out 0; have hfz6_1 := blk_frozen BK106.out 1; have hfz6_2 := blk_frozen BK106.out 2))
 refine bodyPost_ret (results_cell_row rfl _ _ gb106 86 #[.int .i64 a0_0, .int .i64 a0_1, .int .i64 a0_2] (0, 0) _ rfl (by (with_reducible repeat (first | refine blk_drewN ?_ _ | refine blk_drew ?_ | refine blk_alloc ?_ _)); refine blk_put (cs := #[.int .i64 a0_0, .int .i64 a0_1, .int .i64 0]) ?_ 2 _ rfl; (with_reducible repeat (first | refine blk_drewN ?_ _ | refine blk_drew ?_ | refine blk_alloc ?_ _)); refine blk_put (cs := #[.int .i64 a0_0, .int .i64 0, .int .i64 0]) ?_ 1 _ rfl; (with_reducible repeat (first | refine blk_drewN ?_ _ | refine blk_drew ?_ | refine blk_alloc ?_ _)); refine blk_put (cs := #[.int .i64 0, .int .i64 0, .int .i64 0]) ?_ 0 _ rfl; (with_reducible repeat (first | refine blk_drewN ?_ _ | refine blk_drew ?_ | refine blk_alloc ?_ _)); exact BK106.out) Try.underlying86 rfl (by kernel_rfl)) rfl ?_
 exact ⟨aE, sW HB⟩

/-! ### cells_use_cell: function 93 -/
def cells_use_cell.f (a0_0 : Int) (a0_1 : Int) (a0_2 : Int) (a0_3 : Int) : Option (Int × Int) := some (a0_0, a0_1)
set_option maxHeartbeats 8000000 in
set_option maxRecDepth 100000 in
theorem cells_use_cell.calls (a0_0 : Int) (a0_1 : Int) (a0_2 : Int) (a0_3 : Int) (r1 : Int) (r2 : Int) (w : World) (h : cells_use_cell.f a0_0 a0_1 a0_2 a0_3 = some (r1, r2)) :
  Calls Try.prog 93 #[.agg #[.int .i64 a0_0, .int .i64 a0_1, .int .i64 a0_2, .int .i64 a0_3]] w fun e w' => e = .returned (.agg #[.int .i64 r1, .int .i64 r2]) ∧ Below w.heap.size w w' := by
 have hu66 := Try.underlying66
 have hu30 := Try.underlying30
 have HB := Aside0.mk (Below.refl w.heap.size w)
 have H : (some (a0_0, a0_1)) = some (r1, r2) := h
 clear h
 simp only [Option.some.injEq, Prod.mk.injEq] at H
 obtain ⟨rfl, rfl⟩ := H
 go_enter Try.func93, Try.ntmps93
 go_wp2_with (first | ((with_reducible refine gate_dst (N := 1) rfl ?_); refine bE (N := 1) (cs := #[.int .i64 a0_0, .int .i64 a0_1, .int .i64 a0_2, .int .i64 a0_3]) (t := 66) ?_; intro gb107 hg w2 hbox hb; have BK107 := Aside0.mk (hbox); have GW107 := gW hg HB; have GE107 := GW107; replace HB := tW HB hb; clear hb hbox hg) | ((with_reducible refine gate_dst (N := 2) rfl ?_); refine bE (N := 2) (cs := #[.int .i64 0, .int .i64 0]) (t := 30) ?_; intro gb108 hg w3 hbox hb; have BK108 := Aside0.mk (hbox); have GW108 := gW hg HB; have GE108 := GW108; replace HB := tW HB hb; have NB107_108 := gL hg BK107; have NB108_107 := gG hg BK107; replace BK107 := tB BK107 hb; clear hb hbox hg; have hnb4 := NB107_108.out; have hnc4 := NB108_107.out; have hcz5_0 : w3.cell? ⟨gb107, 0, none⟩ = some (.int .i64 a0_0) := bt BK107 0; have hcz5_1 : w3.cell? ⟨gb107, 1, none⟩ = some (.int .i64 a0_1) := bt BK107 1; have hcz5_2 : w3.cell? ⟨gb107, 2, none⟩ = some (.int .i64 a0_2) := bt BK107 2; have hcz5_3 : w3.cell? ⟨gb107, 3, none⟩ = some (.int .i64 a0_3) := bt BK107 3; have hfz5_0 := blk_frozen BK107.out 0; have hfz5_1 := blk_frozen BK107.out 1; have hfz5_2 := blk_frozen BK107.out 2; have hfz5_3 := blk_frozen BK107.out 3; have hcz6_0 : w3.cell? ⟨gb108, 0, none⟩ = some (.int .i64 0) := bt BK108 0; have hcz6_1 : w3.cell? ⟨gb108, 1, none⟩ = some (.int .i64 0) := bt BK108 1; have hfz6_0 := blk_frozen BK108.out 0; have hfz6_1 := blk_frozen BK108.out 1))
 refine bodyPost_ret (results_cell_row rfl _ _ gb108 30 #[.int .i64 a0_0, .int .i64 a0_1] (0, 0) _ rfl (by (with_reducible repeat (first | refine blk_drewN ?_ _ | refine blk_drew ?_ | refine blk_alloc ?_ _)); refine blk_put (cs := #[.int .i64 a0_0, .int .i64 0]) ?_ 1 _ rfl; (with_reducible repeat (first | refine blk_drewN ?_ _ | refine blk_drew ?_ | refine blk_alloc ?_ _)); refine blk_put (cs := #[.int .i64 0, .int .i64 0]) ?_ 0 _ rfl; (with_reducible repeat (first | refine blk_drewN ?_ _ | refine blk_drew ?_ | refine blk_alloc ?_ _)); exact BK108.out) Try.underlying30 rfl (by kernel_rfl)) rfl ?_
 exact ⟨aE, sW HB⟩

/-! ### cells_placed: function 95 -/
def cells_placed.f (a0_0 : Int) (a0_1 : Int) (a1 : Int) (a2_0 : Int) (a2_1 : Int) : Option (Bool) := if a0_0 ≥ 0 then (if a0_0 < a2_1 then (if a0_1 ≥ 0 then (if a0_1 < 16 then (if a1 ≥ 0 then (some (decide (a1 < a2_0))) else (some false)) else (some false)) else (some false)) else (some false)) else (some false)
set_option maxHeartbeats 8000000 in
set_option maxRecDepth 100000 in
theorem cells_placed.calls (a0_0 : Int) (a0_1 : Int) (a1 : Int) (a2_0 : Int) (a2_1 : Int) (r : Bool) (w : World) (h : cells_placed.f a0_0 a0_1 a1 a2_0 a2_1 = some r) :
  Calls Try.prog 95 #[.agg #[.int .i64 a0_0, .int .i64 a0_1], .int .i64 a1, .agg #[.int .i64 a2_0, .int .i64 a2_1]] w fun e w' => e = .returned (.bool r) ∧ Below w.heap.size w w' := by
 have hu30 := Try.underlying30
 have hu28 := Try.underlying28
 have HB := Aside0.mk (Below.refl w.heap.size w)
 have H : (if a0_0 ≥ 0 then (if a0_0 < a2_1 then (if a0_1 ≥ 0 then (if a0_1 < 16 then (if a1 ≥ 0 then (some (decide (a1 < a2_0))) else (some false)) else (some false)) else (some false)) else (some false)) else (some false)) = some r := h
 clear h
 by_cases c4 : a0_0 ≥ 0
 ·rw [if_pos c4] at H
  have c4b0 : decide (0 ≤ a0_0) = true := decide_eq_true c4
  clear c4
  by_cases c5 : a0_0 < a2_1
  ·rw [if_pos c5] at H
   have c5b0 : decide (a0_0 < a2_1) = true := decide_eq_true c5
   clear c5
   by_cases c6 : a0_1 ≥ 0
   ·rw [if_pos c6] at H
    have c6b0 : decide (0 ≤ a0_1) = true := decide_eq_true c6
    clear c6
    by_cases c7 : a0_1 < 16
    ·rw [if_pos c7] at H
     have c7b0 : decide (a0_1 < 16) = true := decide_eq_true c7
     clear c7
     by_cases c8 : a1 ≥ 0
     ·rw [if_pos c8] at H
      have c8b0 : decide (0 ≤ a1) = true := decide_eq_true c8
      clear c8
      obtain rfl := Option.some.inj H
      go_enter Try.func95, Try.ntmps95
      go_wp2_with (first | ((with_reducible refine gate_dst (N := 3) rfl ?_); refine bE (N := 3) (cs := #[.int .i64 a0_0, .int .i64 a0_1]) (t := 30) ?_; intro gb109 hg w9 hbox hb; have BK109 := Aside0.mk (hbox); have GW109 := gW hg HB; have GE109 := GW109; replace HB := tW HB hb; clear hb hbox hg) | ((with_reducible refine gate_dst (N := 5) rfl ?_); refine bE (N := 5) (cs := #[.int .i64 a2_0, .int .i64 a2_1]) (t := 28) ?_; intro gb110 hg w10 hbox hb; have BK110 := Aside0.mk (hbox); have GW110 := gW hg HB; have GE110 := GW110; replace HB := tW HB hb; have NB109_110 := gL hg BK109; have NB110_109 := gG hg BK109; replace BK109 := tB BK109 hb; clear hb hbox hg; have hnb11 := NB109_110.out; have hnc11 := NB110_109.out; have hcz12_0 : w10.cell? ⟨gb109, 0, none⟩ = some (.int .i64 a0_0) := bt BK109 0; have hcz12_1 : w10.cell? ⟨gb109, 1, none⟩ = some (.int .i64 a0_1) := bt BK109 1; have hfz12_0 := blk_frozen BK109.out 0; have hfz12_1 := blk_frozen BK109.out 1; have hcz13_0 : w10.cell? ⟨gb110, 0, none⟩ = some (.int .i64 a2_0) := bt BK110 0; have hcz13_1 : w10.cell? ⟨gb110, 1, none⟩ = some (.int .i64 a2_1) := bt BK110 1; have hfz13_0 := blk_frozen BK110.out 0; have hfz13_1 := blk_frozen BK110.out 1))
      go_ret
      exact ⟨aE, sW HB⟩
     rw [if_neg c8] at H
     have c8b0 : decide (0 ≤ a1) = false := decide_eq_false c8
     clear c8
     obtain rfl := Option.some.inj H
     go_enter Try.func95, Try.ntmps95
     go_wp2_with (first | ((with_reducible refine gate_dst (N := 3) rfl ?_); refine bE (N := 3) (cs := #[.int .i64 a0_0, .int .i64 a0_1]) (t := 30) ?_; intro gb109 hg w14 hbox hb; have BK109 := Aside0.mk (hbox); have GW109 := gW hg HB; have GE109 := GW109; replace HB := tW HB hb; clear hb hbox hg) | ((with_reducible refine gate_dst (N := 5) rfl ?_); refine bE (N := 5) (cs := #[.int .i64 a2_0, .int .i64 a2_1]) (t := 28) ?_; intro gb110 hg w15 hbox hb; have BK110 := Aside0.mk (hbox); have GW110 := gW hg HB; have GE110 := GW110; replace HB := tW HB hb; have NB109_110 := gL hg BK109; have NB110_109 := gG hg BK109; replace BK109 := tB BK109 hb; clear hb hbox hg; have hnb16 := NB109_110.out; have hnc16 := NB110_109.out; have hcz17_0 : w15.cell? ⟨gb109, 0, none⟩ = some (.int .i64 a0_0) := bt BK109 0; have hcz17_1 : w15.cell? ⟨gb109, 1, none⟩ = some (.int .i64 a0_1) := bt BK109 1; have hfz17_0 := blk_frozen BK109.out 0; have hfz17_1 := blk_frozen BK109.out 1; have hcz18_0 : w15.cell? ⟨gb110, 0, none⟩ = some (.int .i64 a2_0) := bt BK110 0; have hcz18_1 : w15.cell? ⟨gb110, 1, none⟩ = some (.int .i64 a2_1) := bt BK110 1; have hfz18_0 := blk_frozen BK110.out 0; have hfz18_1 := blk_frozen BK110.out 1))
     go_ret
     exact ⟨aE, sW HB⟩
    rw [if_neg c7] at H
    have c7b0 : decide (a0_1 < 16) = false := decide_eq_false c7
    clear c7
    obtain rfl := Option.some.inj H
    go_enter Try.func95, Try.ntmps95
    go_wp2_with (first | ((with_reducible refine gate_dst (N := 3) rfl ?_); refine bE (N := 3) (cs := #[.int .i64 a0_0, .int .i64 a0_1]) (t := 30) ?_; intro gb109 hg w19 hbox hb; have BK109 := Aside0.mk (hbox); have GW109 := gW hg HB; have GE109 := GW109; replace HB := tW HB hb; clear hb hbox hg) | ((with_reducible refine gate_dst (N := 5) rfl ?_); refine bE (N := 5) (cs := #[.int .i64 a2_0, .int .i64 a2_1]) (t := 28) ?_; intro gb110 hg w20 hbox hb; have BK110 := Aside0.mk (hbox); have GW110 := gW hg HB; have GE110 := GW110; replace HB := tW HB hb; have NB109_110 := gL hg BK109; have NB110_109 := gG hg BK109; replace BK109 := tB BK109 hb; clear hb hbox hg; have hnb21 := NB109_110.out; have hnc21 := NB110_109.out; have hcz22_0 : w20.cell? ⟨gb109, 0, none⟩ = some (.int .i64 a0_0) := bt BK109 0; have hcz22_1 : w20.cell? ⟨gb109, 1, none⟩ = some (.int .i64 a0_1) := bt BK109 1; have hfz22_0 := blk_frozen BK109.out 0; have hfz22_1 := blk_frozen BK109.out 1; have hcz23_0 : w20.cell? ⟨gb110, 0, none⟩ = some (.int .i64 a2_0) := bt BK110 0; have hcz23_1 : w20.cell? ⟨gb110, 1, none⟩ = some (.int .i64 a2_1) := bt BK110 1; have hfz23_0 := blk_frozen BK110.out 0; have hfz23_1 := blk_frozen BK110.out 1))
    go_ret
    exact ⟨aE, sW HB⟩
   rw [if_neg c6] at H
   have c6b0 : decide (0 ≤ a0_1) = false := decide_eq_false c6
   clear c6
   obtain rfl := Option.some.inj H
   go_enter Try.func95, Try.ntmps95
   go_wp2_with (first | ((with_reducible refine gate_dst (N := 3) rfl ?_); refine bE (N := 3) (cs := #[.int .i64 a0_0, .int .i64 a0_1]) (t := 30) ?_; intro gb109 hg w24 hbox hb; have BK109 := Aside0.mk (hbox); have GW109 := gW hg HB; have GE109 := GW109; replace HB := tW HB hb; clear hb hbox hg) | ((with_reducible refine gate_dst (N := 5) rfl ?_); refine bE (N := 5) (cs := #[.int .i64 a2_0, .int .i64 a2_1]) (t := 28) ?_; intro gb110 hg w25 hbox hb; have BK110 := Aside0.mk (hbox); have GW110 := gW hg HB; have GE110 := GW110; replace HB := tW HB hb; have NB109_110 := gL hg BK109; have NB110_109 := gG hg BK109; replace BK109 := tB BK109 hb; clear hb hbox hg; have hnb26 := NB109_110.out; have hnc26 := NB110_109.out; have hcz27_0 : w25.cell? ⟨gb109, 0, none⟩ = some (.int .i64 a0_0) := bt BK109 0; have hcz27_1 : w25.cell? ⟨gb109, 1, none⟩ = some (.int .i64 a0_1) := bt BK109 1; have hfz27_0 := blk_frozen BK109.out 0; have hfz27_1 := blk_frozen BK109.out 1; have hcz28_0 : w25.cell? ⟨gb110, 0, none⟩ = some (.int .i64 a2_0) := bt BK110 0; have hcz28_1 : w25.cell? ⟨gb110, 1, none⟩ = some (.int .i64 a2_1) := bt BK110 1; have hfz28_0 := blk_frozen BK110.out 0; have hfz28_1 := blk_frozen BK110.out 1))
   go_ret
   exact ⟨aE, sW HB⟩
  rw [if_neg c5] at H
  have c5b0 : decide (a0_0 < a2_1) = false := decide_eq_false c5
  clear c5
  obtain rfl := Option.some.inj H
  go_enter Try.func95, Try.ntmps95
  go_wp2_with (first | ((with_reducible refine gate_dst (N := 3) rfl ?_); refine bE (N := 3) (cs := #[.int .i64 a0_0, .int .i64 a0_1]) (t := 30) ?_; intro gb109 hg w29 hbox hb; have BK109 := Aside0.mk (hbox); have GW109 := gW hg HB; have GE109 := GW109; replace HB := tW HB hb; clear hb hbox hg) | ((with_reducible refine gate_dst (N := 5) rfl ?_); refine bE (N := 5) (cs := #[.int .i64 a2_0, .int .i64 a2_1]) (t := 28) ?_; intro gb110 hg w30 hbox hb; have BK110 := Aside0.mk (hbox); have GW110 := gW hg HB; have GE110 := GW110; replace HB := tW HB hb; have NB109_110 := gL hg BK109; have NB110_109 := gG hg BK109; replace BK109 := tB BK109 hb; clear hb hbox hg; have hnb31 := NB109_110.out; have hnc31 := NB110_109.out; have hcz32_0 : w30.cell? ⟨gb109, 0, none⟩ = some (.int .i64 a0_0) := bt BK109 0; have hcz32_1 : w30.cell? ⟨gb109, 1, none⟩ = some (.int .i64 a0_1) := bt BK109 1; have hfz32_0 := blk_frozen BK109.out 0; have hfz32_1 := blk_frozen BK109.out 1; have hcz33_0 : w30.cell? ⟨gb110, 0, none⟩ = some (.int .i64 a2_0) := bt BK110 0; have hcz33_1 : w30.cell? ⟨gb110, 1, none⟩ = some (.int .i64 a2_1) := bt BK110 1; have hfz33_0 := blk_frozen BK110.out 0; have hfz33_1 := blk_frozen BK110.out 1))
  go_ret
  exact ⟨aE, sW HB⟩
 rw [if_neg c4] at H
 have c4b0 : decide (0 ≤ a0_0) = false := decide_eq_false c4
 clear c4
 obtain rfl := Option.some.inj H
 go_enter Try.func95, Try.ntmps95
 go_wp2_with (first | ((with_reducible refine gate_dst (N := 3) rfl ?_); refine bE (N := 3) (cs := #[.int .i64 a0_0, .int .i64 a0_1]) (t := 30) ?_; intro gb109 hg w34 hbox hb; have BK109 := Aside0.mk (hbox); have GW109 := gW hg HB; have GE109 := GW109; replace HB := tW HB hb; clear hb hbox hg) | ((with_reducible refine gate_dst (N := 5) rfl ?_); refine bE (N := 5) (cs := #[.int .i64 a2_0, .int .i64 a2_1]) (t := 28) ?_; intro gb110 hg w35 hbox hb; have BK110 := Aside0.mk (hbox); have GW110 := gW hg HB; have GE110 := GW110; replace HB := tW HB hb; have NB109_110 := gL hg BK109; have NB110_109 := gG hg BK109; replace BK109 := tB BK109 hb; clear hb hbox hg; have hnb36 := NB109_110.out; have hnc36 := NB110_109.out; have hcz37_0 : w35.cell? ⟨gb109, 0, none⟩ = some (.int .i64 a0_0) := bt BK109 0; have hcz37_1 : w35.cell? ⟨gb109, 1, none⟩ = some (.int .i64 a0_1) := bt BK109 1; have hfz37_0 := blk_frozen BK109.out 0; have hfz37_1 := blk_frozen BK109.out 1))
 go_ret
 exact ⟨aE, sW HB⟩

/-! ### cells_use_valid: function 94 -/
def cells_use_valid.f (a0_0 : Int) (a0_1 : Int) (a0_2 : Int) (a0_3 : Int) (a1_0 : Int) (a1_1 : Int) : Option (Bool) := (cells_placed.f a0_0 a0_1 a0_2 a1_0 a1_1).bind fun t113 => (if t113 = true then (if a0_3 ≥ 0 then (some (decide (a0_3 ≤ 1000000000))) else (some false)) else (some false))
set_option maxHeartbeats 8000000 in
set_option maxRecDepth 100000 in
theorem cells_use_valid.calls (a0_0 : Int) (a0_1 : Int) (a0_2 : Int) (a0_3 : Int) (a1_0 : Int) (a1_1 : Int) (r : Bool) (w : World) (h : cells_use_valid.f a0_0 a0_1 a0_2 a0_3 a1_0 a1_1 = some r) :
  Calls Try.prog 94 #[.agg #[.int .i64 a0_0, .int .i64 a0_1, .int .i64 a0_2, .int .i64 a0_3], .agg #[.int .i64 a1_0, .int .i64 a1_1]] w fun e w' => e = .returned (.bool r) ∧ Below w.heap.size w w' := by
 have hu66 := Try.underlying66
 have hu28 := Try.underlying28
 have hu30 := Try.underlying30
 have HB := Aside0.mk (Below.refl w.heap.size w)
 have H : ((cells_placed.f a0_0 a0_1 a0_2 a1_0 a1_1).bind fun t113 => (if t113 = true then (if a0_3 ≥ 0 then (some (decide (a0_3 ≤ 1000000000))) else (some false)) else (some false))) = some r := h
 clear h
 replace H := Option.bind_eq_some_iff.mp H
 obtain ⟨t113, A30, H⟩ := H
 replace H : (if t113 = true then (if a0_3 ≥ 0 then (some (decide (a0_3 ≤ 1000000000))) else (some false)) else (some false)) = some r := H
 have A3 := Aside0.mk A30
 clear A30
 by_cases c4 : t113 = true
 ·subst c4
  have H1 : (if a0_3 ≥ 0 then (some (decide (a0_3 ≤ 1000000000))) else (some false)) = some r := by rw [if_pos rfl] at H; exact H
  clear H
  have H := H1
  clear H1
  by_cases c5 : a0_3 ≥ 0
  ·rw [if_pos c5] at H
   have c5b0 : decide (0 ≤ a0_3) = true := decide_eq_true c5
   clear c5
   obtain rfl := Option.some.inj H
   go_enter Try.func94, Try.ntmps94
   go_wp2_with (first | ((with_reducible refine gate_dst (N := 2) rfl ?_); refine bE (N := 2) (cs := #[.int .i64 a0_0, .int .i64 a0_1, .int .i64 a0_2, .int .i64 a0_3]) (t := 66) ?_; intro gb111 hg w6 hbox hb; have BK111 := Aside0.mk (hbox); have GW111 := gW hg HB; have GE111 := GW111; replace HB := tW HB hb; clear hb hbox hg) | ((with_reducible refine gate_dst (N := 3) rfl ?_); refine bE (N := 3) (cs := #[.int .i64 a1_0, .int .i64 a1_1]) (t := 28) ?_; intro gb112 hg w7 hbox hb; have BK112 := Aside0.mk (hbox); have GW112 := gW hg HB; have GE112 := GW112; replace HB := tW HB hb; have NB111_112 := gL hg BK111; have NB112_111 := gG hg BK111; replace BK111 := tB BK111 hb; clear hb hbox hg; have hnb8 := NB111_112.out; have hnc8 := NB112_111.out; have hcz9_0 : w7.cell? ⟨gb111, 0, none⟩ = some (.int .i64 a0_0) := bt BK111 0; have hcz9_1 : w7.cell? ⟨gb111, 1, none⟩ = some (.int .i64 a0_1) := bt BK111 1; have hcz9_2 : w7.cell? ⟨gb111, 2, none⟩ = some (.int .i64 a0_2) := bt BK111 2; have hcz9_3 : w7.cell? ⟨gb111, 3, none⟩ = some (.int .i64 a0_3) := bt BK111 3; have hfz9_0 := blk_frozen BK111.out 0; have hfz9_1 := blk_frozen BK111.out 1; have hfz9_2 := blk_frozen BK111.out 2; have hfz9_3 := blk_frozen BK111.out 3; have hcz10_0 : w7.cell? ⟨gb112, 0, none⟩ = some (.int .i64 a1_0) := bt BK112 0; have hcz10_1 : w7.cell? ⟨gb112, 1, none⟩ = some (.int .i64 a1_1) := bt BK112 1; have hfz10_0 := blk_frozen BK112.out 0; have hfz10_1 := blk_frozen BK112.out 1) | ((with_reducible refine gate_callee (f := 95) rfl ?_); refine gC (some 10) Try.func95 #[.agg #[.int .i64 a0_0, .int .i64 a0_1], .int .i64 a0_2, .agg #[.int .i64 a1_0, .int .i64 a1_1]] ?_; (with_reducible refine (cells_placed.calls a0_0 a0_1 a0_2 a1_0 a1_1 true _ A3.out).mono ?_); rintro e w11 ⟨rfl, hb⟩; refine ⟨_, rfl, ?_⟩; replace BK111 := tB BK111 hb; replace BK112 := tB BK112 hb; replace HB := tW HB hb; (try clear hb); (try clear hb2); (try clear hk); (try clear hi); have hcz12_0 : w11.cell? ⟨gb111, 0, none⟩ = some (.int .i64 a0_0) := bt BK111 0; have hcz12_1 : w11.cell? ⟨gb111, 1, none⟩ = some (.int .i64 a0_1) := bt BK111 1; have hcz12_2 : w11.cell? ⟨gb111, 2, none⟩ = some (.int .i64 a0_2) := bt BK111 2; have hcz12_3 : w11.cell? ⟨gb111, 3, none⟩ = some (.int .i64 a0_3) := bt BK111 3; have hfz12_0 := blk_frozen BK111.out 0; have hfz12_1 := blk_frozen BK111.out 1; have hfz12_2 := blk_frozen BK111.out 2; have hfz12_3 := blk_frozen BK111.out 3))
   go_ret
   exact ⟨aE, sW HB⟩
  rw [if_neg c5] at H
  have c5b0 : decide (0 ≤ a0_3) = false := decide_eq_false c5
  clear c5
  obtain rfl := Option.some.inj H
  go_enter Try.func94, Try.ntmps94
  go_wp2_with (first | ((with_reducible refine gate_dst (N := 2) rfl ?_); refine bE (N := 2) (cs := #[.int .i64 a0_0, .int .i64 a0_1, .int .i64 a0_2, .int .i64 a0_3]) (t := 66) ?_; intro gb111 hg w13 hbox hb; have BK111 := Aside0.mk (hbox); have GW111 := gW hg HB; have GE111 := GW111; replace HB := tW HB hb; clear hb hbox hg) | ((with_reducible refine gate_dst (N := 3) rfl ?_); refine bE (N := 3) (cs := #[.int .i64 a1_0, .int .i64 a1_1]) (t := 28) ?_; intro gb112 hg w14 hbox hb; have BK112 := Aside0.mk (hbox); have GW112 := gW hg HB; have GE112 := GW112; replace HB := tW HB hb; have NB111_112 := gL hg BK111; have NB112_111 := gG hg BK111; replace BK111 := tB BK111 hb; clear hb hbox hg; have hnb15 := NB111_112.out; have hnc15 := NB112_111.out; have hcz16_0 : w14.cell? ⟨gb111, 0, none⟩ = some (.int .i64 a0_0) := bt BK111 0; have hcz16_1 : w14.cell? ⟨gb111, 1, none⟩ = some (.int .i64 a0_1) := bt BK111 1; have hcz16_2 : w14.cell? ⟨gb111, 2, none⟩ = some (.int .i64 a0_2) := bt BK111 2; have hcz16_3 : w14.cell? ⟨gb111, 3, none⟩ = some (.int .i64 a0_3) := bt BK111 3; have hfz16_0 := blk_frozen BK111.out 0; have hfz16_1 := blk_frozen BK111.out 1; have hfz16_2 := blk_frozen BK111.out 2; have hfz16_3 := blk_frozen BK111.out 3; have hcz17_0 : w14.cell? ⟨gb112, 0, none⟩ = some (.int .i64 a1_0) := bt BK112 0; have hcz17_1 : w14.cell? ⟨gb112, 1, none⟩ = some (.int .i64 a1_1) := bt BK112 1; have hfz17_0 := blk_frozen BK112.out 0; have hfz17_1 := blk_frozen BK112.out 1) | ((with_reducible refine gate_callee (f := 95) rfl ?_); refine gC (some 10) Try.func95 #[.agg #[.int .i64 a0_0, .int .i64 a0_1], .int .i64 a0_2, .agg #[.int .i64 a1_0, .int .i64 a1_1]] ?_; (with_reducible refine (cells_placed.calls a0_0 a0_1 a0_2 a1_0 a1_1 true _ A3.out).mono ?_); rintro e w18 ⟨rfl, hb⟩; refine ⟨_, rfl, ?_⟩; replace BK111 := tB BK111 hb; replace BK112 := tB BK112 hb; replace HB := tW HB hb; (try clear hb); (try clear hb2); (try clear hk); (try clear hi); have hcz19_0 : w18.cell? ⟨gb111, 0, none⟩ = some (.int .i64 a0_0) := bt BK111 0; have hcz19_1 : w18.cell? ⟨gb111, 1, none⟩ = some (.int .i64 a0_1) := bt BK111 1; have hcz19_2 : w18.cell? ⟨gb111, 2, none⟩ = some (.int .i64 a0_2) := bt BK111 2; have hcz19_3 : w18.cell? ⟨gb111, 3, none⟩ = some (.int .i64 a0_3) := bt BK111 3; have hfz19_0 := blk_frozen BK111.out 0; have hfz19_1 := blk_frozen BK111.out 1; have hfz19_2 := blk_frozen BK111.out 2; have hfz19_3 := blk_frozen BK111.out 3))
  go_ret
  exact ⟨aE, sW HB⟩
 replace c4 := Bool.eq_false_iff.mpr c4
 subst c4
 have H1 : (some false) = some r := by rw [if_neg (show ¬ (false = true) by decide)] at H; exact H
 clear H
 have H := H1
 clear H1
 obtain rfl := Option.some.inj H
 go_enter Try.func94, Try.ntmps94
 go_wp2_with (first | ((with_reducible refine gate_dst (N := 2) rfl ?_); refine bE (N := 2) (cs := #[.int .i64 a0_0, .int .i64 a0_1, .int .i64 a0_2, .int .i64 a0_3]) (t := 66) ?_; intro gb111 hg w20 hbox hb; have BK111 := Aside0.mk (hbox); have GW111 := gW hg HB; have GE111 := GW111; replace HB := tW HB hb; clear hb hbox hg) | ((with_reducible refine gate_dst (N := 3) rfl ?_); refine bE (N := 3) (cs := #[.int .i64 a1_0, .int .i64 a1_1]) (t := 28) ?_; intro gb112 hg w21 hbox hb; have BK112 := Aside0.mk (hbox); have GW112 := gW hg HB; have GE112 := GW112; replace HB := tW HB hb; have NB111_112 := gL hg BK111; have NB112_111 := gG hg BK111; replace BK111 := tB BK111 hb; clear hb hbox hg; have hnb22 := NB111_112.out; have hnc22 := NB112_111.out; have hcz23_0 : w21.cell? ⟨gb111, 0, none⟩ = some (.int .i64 a0_0) := bt BK111 0; have hcz23_1 : w21.cell? ⟨gb111, 1, none⟩ = some (.int .i64 a0_1) := bt BK111 1; have hcz23_2 : w21.cell? ⟨gb111, 2, none⟩ = some (.int .i64 a0_2) := bt BK111 2; have hcz23_3 : w21.cell? ⟨gb111, 3, none⟩ = some (.int .i64 a0_3) := bt BK111 3; have hfz23_0 := blk_frozen BK111.out 0; have hfz23_1 := blk_frozen BK111.out 1; have hfz23_2 := blk_frozen BK111.out 2; have hfz23_3 := blk_frozen BK111.out 3; have hcz24_0 : w21.cell? ⟨gb112, 0, none⟩ = some (.int .i64 a1_0) := bt BK112 0; have hcz24_1 : w21.cell? ⟨gb112, 1, none⟩ = some (.int .i64 a1_1) := bt BK112 1; have hfz24_0 := blk_frozen BK112.out 0; have hfz24_1 := blk_frozen BK112.out 1) | ((with_reducible refine gate_callee (f := 95) rfl ?_); refine gC (some 10) Try.func95 #[.agg #[.int .i64 a0_0, .int .i64 a0_1], .int .i64 a0_2, .agg #[.int .i64 a1_0, .int .i64 a1_1]] ?_; (with_reducible refine (cells_placed.calls a0_0 a0_1 a0_2 a1_0 a1_1 false _ A3.out).mono ?_); rintro e w25 ⟨rfl, hb⟩; refine ⟨_, rfl, ?_⟩; replace BK111 := tB BK111 hb; replace BK112 := tB BK112 hb; replace HB := tW HB hb; (try clear hb); (try clear hb2); (try clear hk); (try clear hi)))
 go_ret
 exact ⟨aE, sW HB⟩

/-! ### cells_grant_cell: function 96 -/
def cells_grant_cell.f (a0_0 : Int) (a0_1 : Int) (a0_2 : Int) (a0_3 : Int) (a0_4 : Int) : Option (Int × Int) := some (a0_0, a0_1)
set_option maxHeartbeats 8000000 in
set_option maxRecDepth 100000 in
theorem cells_grant_cell.calls (a0_0 : Int) (a0_1 : Int) (a0_2 : Int) (a0_3 : Int) (a0_4 : Int) (r1 : Int) (r2 : Int) (w : World) (h : cells_grant_cell.f a0_0 a0_1 a0_2 a0_3 a0_4 = some (r1, r2)) :
  Calls Try.prog 96 #[.agg #[.int .i64 a0_0, .int .i64 a0_1, .int .i64 a0_2, .int .i64 a0_3, .int .i64 a0_4]] w fun e w' => e = .returned (.agg #[.int .i64 r1, .int .i64 r2]) ∧ Below w.heap.size w w' := by
 have hu73 := Try.underlying73
 have hu30 := Try.underlying30
 have HB := Aside0.mk (Below.refl w.heap.size w)
 have H : (some (a0_0, a0_1)) = some (r1, r2) := h
 clear h
 simp only [Option.some.injEq, Prod.mk.injEq] at H
 obtain ⟨rfl, rfl⟩ := H
 go_enter Try.func96, Try.ntmps96
 go_wp2_with (first | ((with_reducible refine gate_dst (N := 1) rfl ?_); refine bE (N := 1) (cs := #[.int .i64 a0_0, .int .i64 a0_1, .int .i64 a0_2, .int .i64 a0_3, .int .i64 a0_4]) (t := 73) ?_; intro gb114 hg w2 hbox hb; have BK114 := Aside0.mk (hbox); have GW114 := gW hg HB; have GE114 := GW114; replace HB := tW HB hb; clear hb hbox hg) | ((with_reducible refine gate_dst (N := 2) rfl ?_); refine bE (N := 2) (cs := #[.int .i64 0, .int .i64 0]) (t := 30) ?_; intro gb115 hg w3 hbox hb; have BK115 := Aside0.mk (hbox); have GW115 := gW hg HB; have GE115 := GW115; replace HB := tW HB hb; have NB114_115 := gL hg BK114; have NB115_114 := gG hg BK114; replace BK114 := tB BK114 hb; clear hb hbox hg; have hnb4 := NB114_115.out; have hnc4 := NB115_114.out; have hcz5_0 : w3.cell? ⟨gb114, 0, none⟩ = some (.int .i64 a0_0) := bt BK114 0; have hcz5_1 : w3.cell? ⟨gb114, 1, none⟩ = some (.int .i64 a0_1) := bt BK114 1; have hcz5_2 : w3.cell? ⟨gb114, 2, none⟩ = some (.int .i64 a0_2) := bt BK114 2; have hcz5_3 : w3.cell? ⟨gb114, 3, none⟩ = some (.int .i64 a0_3) := bt BK114 3; have hcz5_4 : w3.cell? ⟨gb114, 4, none⟩ = some (.int .i64 a0_4) := bt BK114 4; have hfz5_0 := blk_frozen BK114.out 0; have hfz5_1 := blk_frozen BK114.out 1; have hfz5_2 := blk_frozen BK114.out 2; have hfz5_3 := blk_frozen BK114.out 3; have hfz5_4 := blk_frozen BK114.out 4; have hcz6_0 : w3.cell? ⟨gb115, 0, none⟩ = some (.int .i64 0) := bt BK115 0; have hcz6_1 : w3.cell? ⟨gb115, 1, none⟩ = some (.int .i64 0) := bt BK115 1; have hfz6_0 := blk_frozen BK115.out 0; have hfz6_1 := blk_frozen BK115.out 1))
 refine bodyPost_ret (results_cell_row rfl _ _ gb115 30 #[.int .i64 a0_0, .int .i64 a0_1] (0, 0) _ rfl (by (with_reducible repeat (first | refine blk_drewN ?_ _ | refine blk_drew ?_ | refine blk_alloc ?_ _)); refine blk_put (cs := #[.int .i64 a0_0, .int .i64 0]) ?_ 1 _ rfl; (with_reducible repeat (first | refine blk_drewN ?_ _ | refine blk_drew ?_ | refine blk_alloc ?_ _)); refine blk_put (cs := #[.int .i64 0, .int .i64 0]) ?_ 0 _ rfl; (with_reducible repeat (first | refine blk_drewN ?_ _ | refine blk_drew ?_ | refine blk_alloc ?_ _)); exact BK115.out) Try.underlying30 rfl (by kernel_rfl)) rfl ?_
 exact ⟨aE, sW HB⟩

/-! ### cells_grant_valid: function 97 -/
def cells_grant_valid.f (a0_0 : Int) (a0_1 : Int) (a0_2 : Int) (a0_3 : Int) (a0_4 : Int) (a1_0 : Int) (a1_1 : Int) : Option (Bool) := (cells_placed.f a0_0 a0_1 a0_2 a1_0 a1_1).bind fun t118 => (if t118 = true then (if a0_3 ≥ 0 then (if a0_3 ≤ a0_4 then (some (decide (a0_4 ≤ 1000000000))) else (some false)) else (some false)) else (some false))
set_option maxHeartbeats 8000000 in
set_option maxRecDepth 100000 in
theorem cells_grant_valid.calls (a0_0 : Int) (a0_1 : Int) (a0_2 : Int) (a0_3 : Int) (a0_4 : Int) (a1_0 : Int) (a1_1 : Int) (r : Bool) (w : World) (h : cells_grant_valid.f a0_0 a0_1 a0_2 a0_3 a0_4 a1_0 a1_1 = some r) :
  Calls Try.prog 97 #[.agg #[.int .i64 a0_0, .int .i64 a0_1, .int .i64 a0_2, .int .i64 a0_3, .int .i64 a0_4], .agg #[.int .i64 a1_0, .int .i64 a1_1]] w fun e w' => e = .returned (.bool r) ∧ Below w.heap.size w w' := by
 have hu73 := Try.underlying73
 have hu28 := Try.underlying28
 have hu30 := Try.underlying30
 have HB := Aside0.mk (Below.refl w.heap.size w)
 have H : ((cells_placed.f a0_0 a0_1 a0_2 a1_0 a1_1).bind fun t118 => (if t118 = true then (if a0_3 ≥ 0 then (if a0_3 ≤ a0_4 then (some (decide (a0_4 ≤ 1000000000))) else (some false)) else (some false)) else (some false))) = some r := h
 clear h
 replace H := Option.bind_eq_some_iff.mp H
 obtain ⟨t118, A30, H⟩ := H
 replace H : (if t118 = true then (if a0_3 ≥ 0 then (if a0_3 ≤ a0_4 then (some (decide (a0_4 ≤ 1000000000))) else (some false)) else (some false)) else (some false)) = some r := H
 have A3 := Aside0.mk A30
 clear A30
 by_cases c4 : t118 = true
 ·subst c4
  have H1 : (if a0_3 ≥ 0 then (if a0_3 ≤ a0_4 then (some (decide (a0_4 ≤ 1000000000))) else (some false)) else (some false)) = some r := by rw [if_pos rfl] at H; exact H
  clear H
  have H := H1
  clear H1
  by_cases c5 : a0_3 ≥ 0
  ·rw [if_pos c5] at H
   have c5b0 : decide (0 ≤ a0_3) = true := decide_eq_true c5
   clear c5
   by_cases c6 : a0_3 ≤ a0_4
   ·rw [if_pos c6] at H
    have c6b0 : decide (a0_3 ≤ a0_4) = true := decide_eq_true c6
    clear c6
    obtain rfl := Option.some.inj H
    go_enter Try.func97, Try.ntmps97
    go_wp2_with (first | ((with_reducible refine gate_dst (N := 2) rfl ?_); refine bE (N := 2) (cs := #[.int .i64 a0_0, .int .i64 a0_1, .int .i64 a0_2, .int .i64 a0_3, .int .i64 a0_4]) (t := 73) ?_; intro gb116 hg w7 hbox hb; have BK116 := Aside0.mk (hbox); have GW116 := gW hg HB; have GE116 := GW116; replace HB := tW HB hb; clear hb hbox hg) | ((with_reducible refine gate_dst (N := 3) rfl ?_); refine bE (N := 3) (cs := #[.int .i64 a1_0, .int .i64 a1_1]) (t := 28) ?_; intro gb117 hg w8 hbox hb; have BK117 := Aside0.mk (hbox); have GW117 := gW hg HB; have GE117 := GW117; replace HB := tW HB hb; have NB116_117 := gL hg BK116; have NB117_116 := gG hg BK116; replace BK116 := tB BK116 hb; clear hb hbox hg; have hnb9 := NB116_117.out; have hnc9 := NB117_116.out; have hcz10_0 : w8.cell? ⟨gb116, 0, none⟩ = some (.int .i64 a0_0) := bt BK116 0; have hcz10_1 : w8.cell? ⟨gb116, 1, none⟩ = some (.int .i64 a0_1) := bt BK116 1; have hcz10_2 : w8.cell? ⟨gb116, 2, none⟩ = some (.int .i64 a0_2) := bt BK116 2; have hcz10_3 : w8.cell? ⟨gb116, 3, none⟩ = some (.int .i64 a0_3) := bt BK116 3; have hcz10_4 : w8.cell? ⟨gb116, 4, none⟩ = some (.int .i64 a0_4) := bt BK116 4; have hfz10_0 := blk_frozen BK116.out 0; have hfz10_1 := blk_frozen BK116.out 1; have hfz10_2 := blk_frozen BK116.out 2; have hfz10_3 := blk_frozen BK116.out 3; have hfz10_4 := blk_frozen BK116.out 4; have hcz11_0 : w8.cell? ⟨gb117, 0, none⟩ = some (.int .i64 a1_0) := bt BK117 0; have hcz11_1 : w8.cell? ⟨gb117, 1, none⟩ = some (.int .i64 a1_1) := bt BK117 1; have hfz11_0 := blk_frozen BK117.out 0; have hfz11_1 := blk_frozen BK117.out 1) | ((with_reducible refine gate_callee (f := 95) rfl ?_); refine gC (some 10) Try.func95 #[.agg #[.int .i64 a0_0, .int .i64 a0_1], .int .i64 a0_2, .agg #[.int .i64 a1_0, .int .i64 a1_1]] ?_; (with_reducible refine (cells_placed.calls a0_0 a0_1 a0_2 a1_0 a1_1 true _ A3.out).mono ?_); rintro e w12 ⟨rfl, hb⟩; refine ⟨_, rfl, ?_⟩; replace BK116 := tB BK116 hb; replace BK117 := tB BK117 hb; replace HB := tW HB hb; (try clear hb); (try clear hb2); (try clear hk); (try clear hi); have hcz13_0 : w12.cell? ⟨gb116, 0, none⟩ = some (.int .i64 a0_0) := bt BK116 0; have hcz13_1 : w12.cell? ⟨gb116, 1, none⟩ = some (.int .i64 a0_1) := bt BK116 1; have hcz13_2 : w12.cell? ⟨gb116, 2, none⟩ = some (.int .i64 a0_2) := bt BK116 2; have hcz13_3 : w12.cell? ⟨gb116, 3, none⟩ = some (.int .i64 a0_3) := bt BK116 3; have hcz13_4 : w12.cell? ⟨gb116, 4, none⟩ = some (.int .i64 a0_4) := bt BK116 4; have hfz13_0 := blk_frozen BK116.out 0; have hfz13_1 := blk_frozen BK116.out 1; have hfz13_2 := blk_frozen BK116.out 2; have hfz13_3 := blk_frozen BK116.out 3; have hfz13_4 := blk_frozen BK116.out 4))
    go_ret
    exact ⟨aE, sW HB⟩
   rw [if_neg c6] at H
   have c6b0 : decide (a0_3 ≤ a0_4) = false := decide_eq_false c6
   clear c6
   obtain rfl := Option.some.inj H
   go_enter Try.func97, Try.ntmps97
   go_wp2_with (first | ((with_reducible refine gate_dst (N := 2) rfl ?_); refine bE (N := 2) (cs := #[.int .i64 a0_0, .int .i64 a0_1, .int .i64 a0_2, .int .i64 a0_3, .int .i64 a0_4]) (t := 73) ?_; intro gb116 hg w14 hbox hb; have BK116 := Aside0.mk (hbox); have GW116 := gW hg HB; have GE116 := GW116; replace HB := tW HB hb; clear hb hbox hg) | ((with_reducible refine gate_dst (N := 3) rfl ?_); refine bE (N := 3) (cs := #[.int .i64 a1_0, .int .i64 a1_1]) (t := 28) ?_; intro gb117 hg w15 hbox hb; have BK117 := Aside0.mk (hbox); have GW117 := gW hg HB; have GE117 := GW117; replace HB := tW HB hb; have NB116_117 := gL hg BK116; have NB117_116 := gG hg BK116; replace BK116 := tB BK116 hb; clear hb hbox hg; have hnb16 := NB116_117.out; have hnc16 := NB117_116.out; have hcz17_0 : w15.cell? ⟨gb116, 0, none⟩ = some (.int .i64 a0_0) := bt BK116 0; have hcz17_1 : w15.cell? ⟨gb116, 1, none⟩ = some (.int .i64 a0_1) := bt BK116 1; have hcz17_2 : w15.cell? ⟨gb116, 2, none⟩ = some (.int .i64 a0_2) := bt BK116 2; have hcz17_3 : w15.cell? ⟨gb116, 3, none⟩ = some (.int .i64 a0_3) := bt BK116 3; have hcz17_4 : w15.cell? ⟨gb116, 4, none⟩ = some (.int .i64 a0_4) := bt BK116 4; have hfz17_0 := blk_frozen BK116.out 0; have hfz17_1 := blk_frozen BK116.out 1; have hfz17_2 := blk_frozen BK116.out 2; have hfz17_3 := blk_frozen BK116.out 3; have hfz17_4 := blk_frozen BK116.out 4; have hcz18_0 : w15.cell? ⟨gb117, 0, none⟩ = some (.int .i64 a1_0) := bt BK117 0; have hcz18_1 : w15.cell? ⟨gb117, 1, none⟩ = some (.int .i64 a1_1) := bt BK117 1; have hfz18_0 := blk_frozen BK117.out 0; have hfz18_1 := blk_frozen BK117.out 1) | ((with_reducible refine gate_callee (f := 95) rfl ?_); refine gC (some 10) Try.func95 #[.agg #[.int .i64 a0_0, .int .i64 a0_1], .int .i64 a0_2, .agg #[.int .i64 a1_0, .int .i64 a1_1]] ?_; (with_reducible refine (cells_placed.calls a0_0 a0_1 a0_2 a1_0 a1_1 true _ A3.out).mono ?_); rintro e w19 ⟨rfl, hb⟩; refine ⟨_, rfl, ?_⟩; replace BK116 := tB BK116 hb; replace BK117 := tB BK117 hb; replace HB := tW HB hb; (try clear hb); (try clear hb2); (try clear hk); (try clear hi); have hcz20_0 : w19.cell? ⟨gb116, 0, none⟩ = some (.int .i64 a0_0) := bt BK116 0; have hcz20_1 : w19.cell? ⟨gb116, 1, none⟩ = some (.int .i64 a0_1) := bt BK116 1; have hcz20_2 : w19.cell? ⟨gb116, 2, none⟩ = some (.int .i64 a0_2) := bt BK116 2; have hcz20_3 : w19.cell? ⟨gb116, 3, none⟩ = some (.int .i64 a0_3) := bt BK116 3; have hcz20_4 : w19.cell? ⟨gb116, 4, none⟩ = some (.int .i64 a0_4) := bt BK116 4; have hfz20_0 := blk_frozen BK116.out 0; have hfz20_1 := blk_frozen BK116.out 1; have hfz20_2 := blk_frozen BK116.out 2; have hfz20_3 := blk_frozen BK116.out 3; have hfz20_4 := blk_frozen BK116.out 4))
   go_ret
   exact ⟨aE, sW HB⟩
  rw [if_neg c5] at H
  have c5b0 : decide (0 ≤ a0_3) = false := decide_eq_false c5
  clear c5
  obtain rfl := Option.some.inj H
  go_enter Try.func97, Try.ntmps97
  go_wp2_with (first | ((with_reducible refine gate_dst (N := 2) rfl ?_); refine bE (N := 2) (cs := #[.int .i64 a0_0, .int .i64 a0_1, .int .i64 a0_2, .int .i64 a0_3, .int .i64 a0_4]) (t := 73) ?_; intro gb116 hg w21 hbox hb; have BK116 := Aside0.mk (hbox); have GW116 := gW hg HB; have GE116 := GW116; replace HB := tW HB hb; clear hb hbox hg) | ((with_reducible refine gate_dst (N := 3) rfl ?_); refine bE (N := 3) (cs := #[.int .i64 a1_0, .int .i64 a1_1]) (t := 28) ?_; intro gb117 hg w22 hbox hb; have BK117 := Aside0.mk (hbox); have GW117 := gW hg HB; have GE117 := GW117; replace HB := tW HB hb; have NB116_117 := gL hg BK116; have NB117_116 := gG hg BK116; replace BK116 := tB BK116 hb; clear hb hbox hg; have hnb23 := NB116_117.out; have hnc23 := NB117_116.out; have hcz24_0 : w22.cell? ⟨gb116, 0, none⟩ = some (.int .i64 a0_0) := bt BK116 0; have hcz24_1 : w22.cell? ⟨gb116, 1, none⟩ = some (.int .i64 a0_1) := bt BK116 1; have hcz24_2 : w22.cell? ⟨gb116, 2, none⟩ = some (.int .i64 a0_2) := bt BK116 2; have hcz24_3 : w22.cell? ⟨gb116, 3, none⟩ = some (.int .i64 a0_3) := bt BK116 3; have hcz24_4 : w22.cell? ⟨gb116, 4, none⟩ = some (.int .i64 a0_4) := bt BK116 4; have hfz24_0 := blk_frozen BK116.out 0; have hfz24_1 := blk_frozen BK116.out 1; have hfz24_2 := blk_frozen BK116.out 2; have hfz24_3 := blk_frozen BK116.out 3; have hfz24_4 := blk_frozen BK116.out 4; have hcz25_0 : w22.cell? ⟨gb117, 0, none⟩ = some (.int .i64 a1_0) := bt BK117 0; have hcz25_1 : w22.cell? ⟨gb117, 1, none⟩ = some (.int .i64 a1_1) := bt BK117 1; have hfz25_0 := blk_frozen BK117.out 0; have hfz25_1 := blk_frozen BK117.out 1) | ((with_reducible refine gate_callee (f := 95) rfl ?_); refine gC (some 10) Try.func95 #[.agg #[.int .i64 a0_0, .int .i64 a0_1], .int .i64 a0_2, .agg #[.int .i64 a1_0, .int .i64 a1_1]] ?_; (with_reducible refine (cells_placed.calls a0_0 a0_1 a0_2 a1_0 a1_1 true _ A3.out).mono ?_); rintro e w26 ⟨rfl, hb⟩; refine ⟨_, rfl, ?_⟩; replace BK116 := tB BK116 hb; replace BK117 := tB BK117 hb; replace HB := tW HB hb; (try clear hb); (try clear hb2); (try clear hk); (try clear hi); have hcz27_0 : w26.cell? ⟨gb116, 0, none⟩ = some (.int .i64 a0_0) := bt BK116 0; have hcz27_1 : w26.cell? ⟨gb116, 1, none⟩ = some (.int .i64 a0_1) := bt BK116 1; have hcz27_2 : w26.cell? ⟨gb116, 2, none⟩ = some (.int .i64 a0_2) := bt BK116 2; have hcz27_3 : w26.cell? ⟨gb116, 3, none⟩ = some (.int .i64 a0_3) := bt BK116 3; have hcz27_4 : w26.cell? ⟨gb116, 4, none⟩ = some (.int .i64 a0_4) := bt BK116 4; have hfz27_0 := blk_frozen BK116.out 0; have hfz27_1 := blk_frozen BK116.out 1; have hfz27_2 := blk_frozen BK116.out 2; have hfz27_3 := blk_frozen BK116.out 3; have hfz27_4 := blk_frozen BK116.out 4))
  go_ret
  exact ⟨aE, sW HB⟩
 replace c4 := Bool.eq_false_iff.mpr c4
 subst c4
 have H1 : (some false) = some r := by rw [if_neg (show ¬ (false = true) by decide)] at H; exact H
 clear H
 have H := H1
 clear H1
 obtain rfl := Option.some.inj H
 go_enter Try.func97, Try.ntmps97
 go_wp2_with (first | ((with_reducible refine gate_dst (N := 2) rfl ?_); refine bE (N := 2) (cs := #[.int .i64 a0_0, .int .i64 a0_1, .int .i64 a0_2, .int .i64 a0_3, .int .i64 a0_4]) (t := 73) ?_; intro gb116 hg w28 hbox hb; have BK116 := Aside0.mk (hbox); have GW116 := gW hg HB; have GE116 := GW116; replace HB := tW HB hb; clear hb hbox hg) | ((with_reducible refine gate_dst (N := 3) rfl ?_); refine bE (N := 3) (cs := #[.int .i64 a1_0, .int .i64 a1_1]) (t := 28) ?_; intro gb117 hg w29 hbox hb; have BK117 := Aside0.mk (hbox); have GW117 := gW hg HB; have GE117 := GW117; replace HB := tW HB hb; have NB116_117 := gL hg BK116; have NB117_116 := gG hg BK116; replace BK116 := tB BK116 hb; clear hb hbox hg; have hnb30 := NB116_117.out; have hnc30 := NB117_116.out; have hcz31_0 : w29.cell? ⟨gb116, 0, none⟩ = some (.int .i64 a0_0) := bt BK116 0; have hcz31_1 : w29.cell? ⟨gb116, 1, none⟩ = some (.int .i64 a0_1) := bt BK116 1; have hcz31_2 : w29.cell? ⟨gb116, 2, none⟩ = some (.int .i64 a0_2) := bt BK116 2; have hcz31_3 : w29.cell? ⟨gb116, 3, none⟩ = some (.int .i64 a0_3) := bt BK116 3; have hcz31_4 : w29.cell? ⟨gb116, 4, none⟩ = some (.int .i64 a0_4) := bt BK116 4; have hfz31_0 := blk_frozen BK116.out 0; have hfz31_1 := blk_frozen BK116.out 1; have hfz31_2 := blk_frozen BK116.out 2; have hfz31_3 := blk_frozen BK116.out 3; have hfz31_4 := blk_frozen BK116.out 4; have hcz32_0 : w29.cell? ⟨gb117, 0, none⟩ = some (.int .i64 a1_0) := bt BK117 0; have hcz32_1 : w29.cell? ⟨gb117, 1, none⟩ = some (.int .i64 a1_1) := bt BK117 1; have hfz32_0 := blk_frozen BK117.out 0; have hfz32_1 := blk_frozen BK117.out 1) | ((with_reducible refine gate_callee (f := 95) rfl ?_); refine gC (some 10) Try.func95 #[.agg #[.int .i64 a0_0, .int .i64 a0_1], .int .i64 a0_2, .agg #[.int .i64 a1_0, .int .i64 a1_1]] ?_; (with_reducible refine (cells_placed.calls a0_0 a0_1 a0_2 a1_0 a1_1 false _ A3.out).mono ?_); rintro e w33 ⟨rfl, hb⟩; refine ⟨_, rfl, ?_⟩; replace BK116 := tB BK116 hb; replace BK117 := tB BK117 hb; replace HB := tW HB hb; (try clear hb); (try clear hb2); (try clear hk); (try clear hi)))
 go_ret
 exact ⟨aE, sW HB⟩

/-! ### cells_ask_cell: function 98 -/
def cells_ask_cell.f (a0_0 : Int) (a0_1 : Int) (a0_2 : Int) : Option (Int × Int) := some (a0_0, a0_1)
set_option maxHeartbeats 8000000 in
set_option maxRecDepth 100000 in
theorem cells_ask_cell.calls (a0_0 : Int) (a0_1 : Int) (a0_2 : Int) (r1 : Int) (r2 : Int) (w : World) (h : cells_ask_cell.f a0_0 a0_1 a0_2 = some (r1, r2)) :
  Calls Try.prog 98 #[.agg #[.int .i64 a0_0, .int .i64 a0_1, .int .i64 a0_2]] w fun e w' => e = .returned (.agg #[.int .i64 r1, .int .i64 r2]) ∧ Below w.heap.size w w' := by
 have hu86 := Try.underlying86
 have hu30 := Try.underlying30
 have HB := Aside0.mk (Below.refl w.heap.size w)
 have H : (some (a0_0, a0_1)) = some (r1, r2) := h
 clear h
 simp only [Option.some.injEq, Prod.mk.injEq] at H
 obtain ⟨rfl, rfl⟩ := H
 go_enter Try.func98, Try.ntmps98
 go_wp2_with (first | ((with_reducible refine gate_dst (N := 1) rfl ?_); refine bE (N := 1) (cs := #[.int .i64 a0_0, .int .i64 a0_1, .int .i64 a0_2]) (t := 86) ?_; intro gb119 hg w2 hbox hb; have BK119 := Aside0.mk (hbox); have GW119 := gW hg HB; have GE119 := GW119; replace HB := tW HB hb; clear hb hbox hg) | ((with_reducible refine gate_dst (N := 2) rfl ?_); refine bE (N := 2) (cs := #[.int .i64 0, .int .i64 0]) (t := 30) ?_; intro gb120 hg w3 hbox hb; have BK120 := Aside0.mk (hbox); have GW120 := gW hg HB; have GE120 := GW120; replace HB := tW HB hb; have NB119_120 := gL hg BK119; have NB120_119 := gG hg BK119; replace BK119 := tB BK119 hb; clear hb hbox hg; have hnb4 := NB119_120.out; have hnc4 := NB120_119.out; have hcz5_0 : w3.cell? ⟨gb119, 0, none⟩ = some (.int .i64 a0_0) := bt BK119 0; have hcz5_1 : w3.cell? ⟨gb119, 1, none⟩ = some (.int .i64 a0_1) := bt BK119 1; have hcz5_2 : w3.cell? ⟨gb119, 2, none⟩ = some (.int .i64 a0_2) := bt BK119 2; have hfz5_0 := blk_frozen BK119.out 0; have hfz5_1 := blk_frozen BK119.out 1; have hfz5_2 := blk_frozen BK119.out 2; have hcz6_0 : w3.cell? ⟨gb120, 0, none⟩ = some (.int .i64 0) := bt BK120 0; have hcz6_1 : w3.cell? ⟨gb120, 1, none⟩ = some (.int .i64 0) := bt BK120 1; have hfz6_0 := blk_frozen BK120.out 0; have hfz6_1 := blk_frozen BK120.out 1))
 refine bodyPost_ret (results_cell_row rfl _ _ gb120 30 #[.int .i64 a0_0, .int .i64 a0_1] (0, 0) _ rfl (by (with_reducible repeat (first | refine blk_drewN ?_ _ | refine blk_drew ?_ | refine blk_alloc ?_ _)); refine blk_put (cs := #[.int .i64 a0_0, .int .i64 0]) ?_ 1 _ rfl; (with_reducible repeat (first | refine blk_drewN ?_ _ | refine blk_drew ?_ | refine blk_alloc ?_ _)); refine blk_put (cs := #[.int .i64 0, .int .i64 0]) ?_ 0 _ rfl; (with_reducible repeat (first | refine blk_drewN ?_ _ | refine blk_drew ?_ | refine blk_alloc ?_ _)); exact BK120.out) Try.underlying30 rfl (by kernel_rfl)) rfl ?_
 exact ⟨aE, sW HB⟩

/-! ### cells_ask_valid: function 99 -/
def cells_ask_valid.f (a0_0 : Int) (a0_1 : Int) (a0_2 : Int) (a1_0 : Int) (a1_1 : Int) : Option (Bool) := (cells_placed.f a0_0 a0_1 a0_2 a1_0 a1_1).bind fun t123 => (some t123)
set_option maxHeartbeats 8000000 in
set_option maxRecDepth 100000 in
theorem cells_ask_valid.calls (a0_0 : Int) (a0_1 : Int) (a0_2 : Int) (a1_0 : Int) (a1_1 : Int) (r : Bool) (w : World) (h : cells_ask_valid.f a0_0 a0_1 a0_2 a1_0 a1_1 = some r) :
  Calls Try.prog 99 #[.agg #[.int .i64 a0_0, .int .i64 a0_1, .int .i64 a0_2], .agg #[.int .i64 a1_0, .int .i64 a1_1]] w fun e w' => e = .returned (.bool r) ∧ Below w.heap.size w w' := by
 have hu86 := Try.underlying86
 have hu28 := Try.underlying28
 have hu30 := Try.underlying30
 have HB := Aside0.mk (Below.refl w.heap.size w)
 have H : ((cells_placed.f a0_0 a0_1 a0_2 a1_0 a1_1).bind fun t123 => (some t123)) = some r := h
 clear h
 replace H := Option.bind_eq_some_iff.mp H
 obtain ⟨t123, A30, H⟩ := H
 replace H : (some t123) = some r := H
 have A3 := Aside0.mk A30
 clear A30
 obtain rfl := Option.some.inj H
 go_enter Try.func99, Try.ntmps99
 go_wp2_with (first | ((with_reducible refine gate_dst (N := 2) rfl ?_); refine bE (N := 2) (cs := #[.int .i64 a0_0, .int .i64 a0_1, .int .i64 a0_2]) (t := 86) ?_; intro gb121 hg w4 hbox hb; have BK121 := Aside0.mk (hbox); have GW121 := gW hg HB; have GE121 := GW121; replace HB := tW HB hb; clear hb hbox hg) | ((with_reducible refine gate_dst (N := 3) rfl ?_); refine bE (N := 3) (cs := #[.int .i64 a1_0, .int .i64 a1_1]) (t := 28) ?_; intro gb122 hg w5 hbox hb; have BK122 := Aside0.mk (hbox); have GW122 := gW hg HB; have GE122 := GW122; replace HB := tW HB hb; have NB121_122 := gL hg BK121; have NB122_121 := gG hg BK121; replace BK121 := tB BK121 hb; clear hb hbox hg; have hnb6 := NB121_122.out; have hnc6 := NB122_121.out; have hcz7_0 : w5.cell? ⟨gb121, 0, none⟩ = some (.int .i64 a0_0) := bt BK121 0; have hcz7_1 : w5.cell? ⟨gb121, 1, none⟩ = some (.int .i64 a0_1) := bt BK121 1; have hcz7_2 : w5.cell? ⟨gb121, 2, none⟩ = some (.int .i64 a0_2) := bt BK121 2; have hfz7_0 := blk_frozen BK121.out 0; have hfz7_1 := blk_frozen BK121.out 1; have hfz7_2 := blk_frozen BK121.out 2; have hcz8_0 : w5.cell? ⟨gb122, 0, none⟩ = some (.int .i64 a1_0) := bt BK122 0; have hcz8_1 : w5.cell? ⟨gb122, 1, none⟩ = some (.int .i64 a1_1) := bt BK122 1; have hfz8_0 := blk_frozen BK122.out 0; have hfz8_1 := blk_frozen BK122.out 1) | ((with_reducible refine gate_callee (f := 95) rfl ?_); refine gC (some 10) Try.func95 #[.agg #[.int .i64 a0_0, .int .i64 a0_1], .int .i64 a0_2, .agg #[.int .i64 a1_0, .int .i64 a1_1]] ?_; (with_reducible refine (cells_placed.calls a0_0 a0_1 a0_2 a1_0 a1_1 t123 _ A3.out).mono ?_); rintro e w9 ⟨rfl, hb⟩; refine ⟨_, rfl, ?_⟩; replace BK121 := tB BK121 hb; replace BK122 := tB BK122 hb; replace HB := tW HB hb; (try clear hb); (try clear hb2); (try clear hk); (try clear hi)))
 go_ret
 exact ⟨aE, sW HB⟩

end Go.Proofs.Ytbpfbdljcdcgnaa.Px
