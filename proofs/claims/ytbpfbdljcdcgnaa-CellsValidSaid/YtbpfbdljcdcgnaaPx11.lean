/- Walks of functions of this seat, written by a program of this workplace out of the translation. -/
import Derived.Test.YtbpfbdljcdcgnaaPx0
import Derived.Test.YtbpfbdljcdcgnaaPx5
import Derived.Test.YtbpfbdljcdcgnaaPx6
namespace Go.Proofs.Ytbpfbdljcdcgnaa.Px
open Go.RowKit Go.Proofs.YtbpfbdljcdcgnaaW.PrintWords Go.Proofs.YtbpfbdljcdcgnaaW.PrintLast Go.Proofs.YtbpfbdljcdcgnaaW.PrintMore
attribute [local go_sem] max2_int min2_int max_two min_two max_three min_three max_four min_four   -- for this text's walks alone
set_option linter.unusedVariables false
set_option linter.unusedSimpArgs false

-- NOT PRINTED: function 61 (api_Use_61)

-- NOT PRINTED: function 49 (api_Use_49)

-- NOT PRINTED: function 65 (api_Grant_65)

-- NOT PRINTED: function 51 (api_Grant_51)

/-! ### cells_Busy: function 19 -/
theorem scl50.calls (s : Int) (x : S32) (gb : Nat) (W : World) (hb : W.heap[gb]? = some (.cells #[.int .i64 s] 3 (0, 0))) :
  Calls Try.prog 50 #[.agg #[.int .i64 x.f0.f0, .int .i64 x.f0.f1, .int .i64 x.f1, .int .i64 x.f2], .pointer (some ⟨gb, 0, none⟩)] W fun e w' => e = .returned (.bool (x.f0.f0 == s)) ∧ Below W.heap.size W w' := by
 have hu1 := Try.underlying32
 have hu2 := Try.underlying30
 have HB0 := Aside0.mk (Below.refl W.heap.size W)
 have BG := Aside0.mk hb
 clear hb
 go_enter Try.func50, Try.ntmps50
 go_wp2_with (first | ((with_reducible refine gate_dst (N := 2) rfl ?_); refine bE (N := 2) (cs := #[.int .i64 x.f0.f0, .int .i64 x.f0.f1, .int .i64 x.f1, .int .i64 x.f2]) (t := 32) ?_; intro gx hg w1 hbox hb1; have BX := Aside0.mk hbox; have HB1 := Aside0.mk (below_step HB0.out hb1); have x0 : w1.cell? ⟨gx, 0, none⟩ = some (.int .i64 x.f0.f0) := blk_cell' BX.out 0 _ rfl; have g0 : w1.cell? ⟨gb, 0, none⟩ = some (.int .i64 s) := blk_cell' (blk_below BG.out hb1) 0 _ rfl; clear hb1 hbox hg))
 go_ret
 exact ⟨rfl, by repeat (first | exact HB1.out | apply below_drew1 | apply pw_below_drewN)⟩
theorem scl52.calls (s : Int) (x : S34) (gb : Nat) (W : World) (hb : W.heap[gb]? = some (.cells #[.int .i64 s] 3 (0, 0))) :
  Calls Try.prog 52 #[.agg #[.int .i64 x.f0.f0, .int .i64 x.f0.f1, .int .i64 x.f1, .int .i64 x.f2, .int .i64 x.f3], .pointer (some ⟨gb, 0, none⟩)] W fun e w' => e = .returned (.bool (x.f0.f0 == s)) ∧ Below W.heap.size W w' := by
 have hu1 := Try.underlying34
 have hu2 := Try.underlying30
 have HB0 := Aside0.mk (Below.refl W.heap.size W)
 have BG := Aside0.mk hb
 clear hb
 go_enter Try.func52, Try.ntmps52
 go_wp2_with (first | ((with_reducible refine gate_dst (N := 2) rfl ?_); refine bE (N := 2) (cs := #[.int .i64 x.f0.f0, .int .i64 x.f0.f1, .int .i64 x.f1, .int .i64 x.f2, .int .i64 x.f3]) (t := 34) ?_; intro gx hg w1 hbox hb1; have BX := Aside0.mk hbox; have HB1 := Aside0.mk (below_step HB0.out hb1); have x0 : w1.cell? ⟨gx, 0, none⟩ = some (.int .i64 x.f0.f0) := blk_cell' BX.out 0 _ rfl; have g0 : w1.cell? ⟨gb, 0, none⟩ = some (.int .i64 s) := blk_cell' (blk_below BG.out hb1) 0 _ rfl; clear hb1 hbox hg))
 go_ret
 exact ⟨rfl, by repeat (first | exact HB1.out | apply below_drew1 | apply pw_below_drewN)⟩
theorem scl64.calls (s : Int) (x : S51) (gb : Nat) (W : World) (hb : W.heap[gb]? = some (.cells #[.int .i64 s] 3 (0, 0))) :
  Calls Try.prog 64 #[.agg #[.int .i64 x.f0.f0, .int .i64 x.f0.f1, .int .i64 x.f1], .pointer (some ⟨gb, 0, none⟩)] W fun e w' => e = .returned (.bool (x.f0.f0 == s)) ∧ Below W.heap.size W w' := by
 have hu1 := Try.underlying86
 have hu2 := Try.underlying30
 have HB0 := Aside0.mk (Below.refl W.heap.size W)
 have BG := Aside0.mk hb
 clear hb
 go_enter Try.func64, Try.ntmps64
 go_wp2_with (first | ((with_reducible refine gate_dst (N := 2) rfl ?_); refine bE (N := 2) (cs := #[.int .i64 x.f0.f0, .int .i64 x.f0.f1, .int .i64 x.f1]) (t := 86) ?_; intro gx hg w1 hbox hb1; have BX := Aside0.mk hbox; have HB1 := Aside0.mk (below_step HB0.out hb1); have x0 : w1.cell? ⟨gx, 0, none⟩ = some (.int .i64 x.f0.f0) := blk_cell' BX.out 0 _ rfl; have g0 : w1.cell? ⟨gb, 0, none⟩ = some (.int .i64 s) := blk_cell' (blk_below BG.out hb1) 0 _ rfl; clear hb1 hbox hg))
 go_ret
 exact ⟨rfl, by repeat (first | exact HB1.out | apply below_drew1 | apply pw_below_drewN)⟩
def slot32 (s : Int) (x : S32) : Bool := x.f0.f0 == s
def slot34 (s : Int) (x : S34) : Bool := x.f0.f0 == s
def slot51 (s : Int) (x : S51) : Bool := x.f0.f0 == s
def cells_Busy.f (l0_0 : List (S32)) (l0_1 : List (S34)) (l0_2 : List (S51)) (a1 : Int) : Option (Bool) := some (decide (0 ≤ fidx (slot32 a1) l0_0 0) || decide (0 ≤ fidx (slot34 a1) l0_1 0))
set_option maxHeartbeats 4000000 in
theorem cells_Busy.calls (A0_0 : Option Addr) (c0_0 : Nat) (l0_0 : List (S32)) (A0_1 : Option Addr) (c0_1 : Nat) (l0_1 : List (S34)) (A0_2 : Option Addr) (c0_2 : Nat) (l0_2 : List (S51)) (a1 : Int) (r : Bool) (w : World) (hr0_0 : Kd.C k32 w A0_0 l0_0.length l0_0) (hc0_0 : l0_0.length ≤ c0_0) (hr0_1 : Kd.C k34 w A0_1 l0_1.length l0_1) (hc0_1 : l0_1.length ≤ c0_1) (hr0_2 : Kd.C k51 w A0_2 l0_2.length l0_2) (hc0_2 : l0_2.length ≤ c0_2) (h : cells_Busy.f l0_0 l0_1 l0_2 a1 = some r) :
  Calls Try.prog 19 #[.agg #[.slice A0_0 l0_0.length c0_0, .slice A0_1 l0_1.length c0_1, .slice A0_2 l0_2.length c0_2], .int .i64 a1] w fun e w' => e = .returned (.bool r) ∧ Below w.heap.size w w' := by
 have hu26 := Try.underlying26
 obtain rfl := Option.some.inj h
 clear h
 have HR0 := Aside0.mk hr0_0
 have HR1 := Aside0.mk hr0_1
 have HB0 := Aside0.mk (Below.refl w.heap.size w)
 have eg50 : ∀ args w, (callFunc 50 args).run Try.prog w = .ok (.enter 50 args) w := enters_of Try.func50 (by kernel_rfl) rfl
 have eg52 : ∀ args w, (callFunc 52 args).run Try.prog w = .ok (.enter 52 args) w := enters_of Try.func52 (by kernel_rfl) rfl
 have EG50 := Aside0.mk eg50
 have EG52 := Aside0.mk eg52
 have H1 := Aside0.mk (fun (g : Nat) (W : World) (hW : Below w.heap.size w W) (hg : W.heap[g]? = some (.cells #[.int .i64 a1] 3 (0, 0))) => ctf32 50 #[.pointer (some ⟨g, 0, none⟩)] (slot32 a1) A0_0 c0_0 l0_0 W (Kd.C_below HR0.out hW) EG50.out (fun W2 x hW2 => (scl50.calls a1 x g W2 (blk_below hg hW2)).mono fun e w'' hq => ⟨hq.1, below_step hW2 hq.2⟩))
 have H2 := Aside0.mk (fun (g : Nat) (W : World) (hW : Below w.heap.size w W) (hg : W.heap[g]? = some (.cells #[.int .i64 a1] 3 (0, 0))) => ctf34 52 #[.pointer (some ⟨g, 0, none⟩)] (slot34 a1) A0_1 c0_1 l0_1 W (Kd.C_below HR1.out hW) EG52.out (fun W2 x hW2 => (scl52.calls a1 x g W2 (blk_below hg hW2)).mono fun e w'' hq => ⟨hq.1, below_step hW2 hq.2⟩))
 clear hr0_0 hr0_1 hr0_2 eg50 eg52
 generalize decide (0 ≤ fidx (slot32 a1) l0_0 0) = b1 at H1 ⊢
 generalize decide (0 ≤ fidx (slot34 a1) l0_1 0) = b2 at H2 ⊢
 cases b1
 all_goals cases b2
 all_goals go_enter Try.func19, Try.ntmps19
 all_goals go_wp2_with (first
  | ((with_reducible refine gate_dst (N := 2) rfl ?_); refine bE (N := 2) (cs := #[.slice A0_0 l0_0.length c0_0, .slice A0_1 l0_1.length c0_1, .slice A0_2 l0_2.length c0_2]) (t := 26) ?_; intro g2 hg2 w1 hbox hb1; have BX2 := Aside0.mk hbox; have HB1 := Aside0.mk (below_step HB0.out hb1); clear hb1 hbox hg2)
  | ((with_reducible refine gate_dst (N := 3) rfl ?_); refine bE (N := 3) (cs := #[.int .i64 a1]) (t := 3) ?_; intro g3 hg3 w2 hbox hb2; have BX3 := Aside0.mk hbox; have X2 := Aside0.mk (blk_below BX2.out hb2); have HB2 := Aside0.mk (below_step HB1.out hb2); have x0 := blk_cell' X2.out 0 _ rfl; clear hb2 hbox hg3)
  | (go_at_call 49; refine (H1.out g3 _ HB2.out BX3.out).mono ?_; rintro e w3 ⟨rfl, hb3⟩; have X3 := Aside0.mk (blk_below X2.out hb3); have BX4 := Aside0.mk (blk_below BX3.out hb3); have HB3 := Aside0.mk (below_step HB2.out hb3); have x1 := blk_cell' X3.out 1 _ rfl; clear hb3)
  | (go_at_call 51; refine (H2.out g3 _ HB3.out BX4.out).mono ?_; rintro e w4 ⟨rfl, hb4⟩; have HB4 := Aside0.mk (below_step HB3.out hb4); clear hb4))
 all_goals go_ret
 all_goals exact ⟨rfl, by repeat (first | exact HB4.out | exact HB3.out | apply below_drew1 | apply pw_below_drewN)⟩

end Go.Proofs.Ytbpfbdljcdcgnaa.Px
