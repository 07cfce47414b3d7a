/- Walks of functions of this seat, written by a program of this workplace out of the translation. -/
import Derived.Test.YtbpfbdljcdcgnaaPx0
import Derived.Test.YtbpfbdljcdcgnaaPx5
import Derived.Test.YtbpfbdljcdcgnaaPx6
import Derived.Test.YtbpfbdljcdcgnaaPx7
import Derived.Test.YtbpfbdljcdcgnaaPx11
namespace Go.Proofs.Ytbpfbdljcdcgnaa.Px
open Go.RowKit Go.Proofs.YtbpfbdljcdcgnaaW.PrintWords Go.Proofs.YtbpfbdljcdcgnaaW.PrintLast Go.Proofs.YtbpfbdljcdcgnaaW.PrintMore
attribute [local go_sem] max2_int min2_int max_two min_two max_three min_three max_four min_four   -- for this text's walks alone
set_option linter.unusedVariables false
set_option linter.unusedSimpArgs false

-- NOT PRINTED: function 76 (api_Ask_76)

-- NOT PRINTED: function 72 (api_Ask_72)

/-! ### cells_ask_57: function 57 -/
theorem below_less {a b : Nat} {w W : World} (h : Below b w W) (hab : a ≤ b) : Below a w W := ⟨h.os, h.tape, h.output, h.size, fun k hk => h.block k (Nat.lt_of_lt_of_le hk hab)⟩
set_option maxHeartbeats 4000000 in
set_option maxRecDepth 100000 in
theorem wcl32 (g : Nat) (cb : Array Value) (p : S32 → Bool) (x : S32) (ga gb : Nat) (W : World) (h1 : W.heap[ga]? = some (.cells #[.func (.func g) #[] cb] 98 (0, 0))) (h2 : W.heap[gb]? = some (.cells #[.func (.func 31) #[] #[]] 68 (0, 0)))
  (eg : ∀ args w, (callFunc g args).run Try.prog w = .ok (.enter g args) w)
  (hp : ∀ W', Below W.heap.size W W' → Calls Try.prog g (#[.agg #[.int .i64 x.f0.f0, .int .i64 x.f0.f1, .int .i64 x.f1, .int .i64 x.f2]] ++ cb) W' fun e w' => e = .returned (.bool (p x)) ∧ Below W'.heap.size W' w') :
  Calls Try.prog 69 #[.agg #[.int .i64 x.f0.f0, .int .i64 x.f0.f1, .int .i64 x.f1, .int .i64 x.f2], .pointer (some ⟨ga, 0, none⟩), .pointer (some ⟨gb, 0, none⟩)] W fun e w' => e = .returned (.bool (p x)) ∧ Below W.heap.size W w' := by
 have hu1 := Try.underlying32
 have HB0 := Aside0.mk (Below.refl W.heap.size W)
 have H1 := Aside0.mk h1
 have H2 := Aside0.mk h2
 have EG := Aside0.mk eg
 have HP := Aside0.mk hp
 have EAS : Aside0 (∀ args w, (callFunc 31 args).run Try.prog w = .ok (.enter 31 args) w) := ⟨enters_of Try.func31 (by kernel_rfl) rfl⟩
 clear h1 h2 eg hp
 go_enter Try.func69, Try.ntmps69
 go_wp2_with (first | ((with_reducible refine gate_dst (N := 3) rfl ?_); refine bE (N := 3) (cs := #[.int .i64 x.f0.f0, .int .i64 x.f0.f1, .int .i64 x.f1, .int .i64 x.f2]) (t := 32) ?_; intro gx hg w1 hbox hb; have BX := Aside0.mk hbox; have HB1 := Aside0.mk (below_step HB0.out hb); have BA := Aside0.mk (blk_below H1.out hb); have BB := Aside0.mk (blk_below H2.out hb); clear hb hbox hg))
 refine start_ (n := 6) (S := fun w' => w'.cell? ⟨gx, 0, none⟩ = some (.int .i64 x.f0.f0) ∧ w'.cell? ⟨gx, 1, none⟩ = some (.int .i64 x.f0.f1) ∧ w'.cell? ⟨gx, 2, none⟩ = some (.int .i64 x.f1) ∧ w'.cell? ⟨gx, 3, none⟩ = some (.int .i64 x.f2) ∧ w'.cell? ⟨ga, 0, none⟩ = some (.func (.func g) #[] cb) ∧ w'.cell? ⟨gb, 0, none⟩ = some (.func (.func 31) #[] #[])) (ds := []) #[false, false, false, false, false, false] (by kernel_rfl) rfl rfl ⟨blk_cell' (blk_drew BX.out) 0 _ rfl, blk_cell' (blk_drew BX.out) 1 _ rfl, blk_cell' (blk_drew BX.out) 2 _ rfl, blk_cell' (blk_drew BX.out) 3 _ rfl, blk_cell' (blk_drew BA.out) 0 _ rfl, blk_cell' (blk_drew BB.out) 0 _ rfl⟩ (fun hHeld => ?_)
 refine run_ [(0, some 5), (1, some 6), (2, some 7)] ?_
 iterate 3 (refine runT (v := ?_) (a' := ?_) rfl rfl (by kernel_rfl) (fun _ _ _ h => h) (Or.inl ⟨by rfl, ?_⟩) hHeld ?_ ?_; rotate_left; (· rintro w' ⟨s0, s1, s2, s3, s4, s5⟩; go_simp; with_reducible rfl); rotate_left; (· simp only [Act.put, List.setIfInBounds_toArray, List.set_cons_zero, List.set_cons_succ, i64_w, i32_w]; rfl))
 refine runE ?_
 refine one_ (i := 3) (N := some 8) #[true, true, true, true, false, false] rfl rfl (by kernel_rfl) (by decide) (fun K hK => ?_)
 refine call_ 31 #[.agg #[.int .i64 x.f0.f0, .int .i64 x.f0.f1, .int .i64 x.f1, .int .i64 x.f2]] (by rfl) rfl (by unfold execOp; simp [resolve, Deferred.ofValue, invoke, Act.eval, EAS.out]) ?_
 with_reducible refine (cells_toUse.calls x.f0.f0 x.f0.f1 x.f1 x.f2 x.f0.f0 x.f0.f1 x.f1 x.f2 _ rfl).mono ?_
 rintro e w3 ⟨rfl, hb3⟩
 refine ⟨_, rfl, ?_⟩
 have BX3 := Aside0.mk (blk_below (blk_drew BX.out) hb3)
 have BA3 := Aside0.mk (blk_below (blk_drew BA.out) hb3)
 have BB3 := Aside0.mk (blk_below (blk_drew BB.out) hb3)
 have HB3 := Aside0.mk (below_step (below_drew1 HB1.out) hb3)
 refine hK.out _ _ ⟨blk_cell' (BX3.out) 0 _ rfl, blk_cell' (BX3.out) 1 _ rfl, blk_cell' (BX3.out) 2 _ rfl, blk_cell' (BX3.out) 3 _ rfl, blk_cell' (BA3.out) 0 _ rfl, blk_cell' (BB3.out) 0 _ rfl⟩ (fun hHeld => ?_)
 clear hK K
 refine norm_ (a' := ?_) ?_ ?_
 rotate_left
 ·show Act.put _ (some 8) _ = _
  simp only [Act.put, List.setIfInBounds_toArray, List.set_cons_zero, List.set_cons_succ, i64_w, i32_w]
  rfl
 refine one_ (i := 4) (N := some 9) #[true, true, true, true, true, false] rfl rfl (by kernel_rfl) (by decide) (fun K hK => ?_)
 refine call_ g (#[.agg #[.int .i64 x.f0.f0, .int .i64 x.f0.f1, .int .i64 x.f1, .int .i64 x.f2]] ++ cb) (by rfl) rfl (by unfold execOp; simp [resolve, Deferred.ofValue, invoke, Act.eval, EG.out]) ?_
 with_reducible refine (HP.out _ HB3.out).mono ?_
 rintro e w4 ⟨rfl, hb4⟩
 refine ⟨_, rfl, ?_⟩
 have BX4 := Aside0.mk (blk_below BX3.out hb4)
 have BA4 := Aside0.mk (blk_below BA3.out hb4)
 have BB4 := Aside0.mk (blk_below BB3.out hb4)
 have HB4 := Aside0.mk (below_step HB3.out hb4)
 refine hK.out _ _ ⟨blk_cell' (BX4.out) 0 _ rfl, blk_cell' (BX4.out) 1 _ rfl, blk_cell' (BX4.out) 2 _ rfl, blk_cell' (BX4.out) 3 _ rfl, blk_cell' (BA4.out) 0 _ rfl, blk_cell' (BB4.out) 0 _ rfl⟩ (fun hHeld => ?_)
 clear hK K
 refine norm_ (a' := ?_) ?_ ?_
 rotate_left
 ·show Act.put _ (some 9) _ = _
  simp only [Act.put, List.setIfInBounds_toArray, List.set_cons_zero, List.set_cons_succ, i64_w, i32_w]
  rfl
 refine run_ [(5, some 4)] ?_
 refine runP (v := ?_) (a' := ?_) rfl rfl (by kernel_rfl) (fun _ _ _ h => h) (Or.inl ⟨by rfl, ?_⟩) ?_ ?_; rotate_left; (· intro w'; go_simp; with_reducible rfl); rotate_left; (· simp only [Act.put, List.setIfInBounds_toArray, List.set_cons_zero, List.set_cons_succ, i64_w, i32_w]; rfl)
 refine runE ?_
 refine done_ (by kernel_rfl) ?_
 go_wp2
 go_ret
 exact ⟨rfl, HB4.out⟩
def dcl32 (a b : Int) (x : S32) : Bool := x.f0.f0 == a && x.f0.f1 == b
set_option maxHeartbeats 4000000 in
set_option maxRecDepth 100000 in
theorem dcl32.calls (a b : Int) (x : S32) (gb : Nat) (W : World) (hb : W.heap[gb]? = some (.cells #[.int .i64 a, .int .i64 b] 30 (0, 0))) :
  Calls Try.prog 54 #[.agg #[.int .i64 x.f0.f0, .int .i64 x.f0.f1, .int .i64 x.f1, .int .i64 x.f2], .pointer (some ⟨gb, 0, none⟩)] W fun e w' => e = .returned (.bool (dcl32 a b x)) ∧ Below W.heap.size W w' := by
 have hu1 := Try.underlying66
 have hu2 := Try.underlying30
 have HB0 := Aside0.mk (Below.refl W.heap.size W)
 have BG := Aside0.mk hb
 clear hb
 go_enter Try.func54, Try.ntmps54
 go_wp2_with (first | ((with_reducible refine gate_dst (N := 2) rfl ?_); refine bE (N := 2) (cs := #[.int .i64 x.f0.f0, .int .i64 x.f0.f1, .int .i64 x.f1, .int .i64 x.f2]) (t := 66) ?_; intro gx hg w1 hbox hb; have BX := Aside0.mk hbox; have HB1 := Aside0.mk (below_step HB0.out hb); have x0 : w1.cell? ⟨gx, 0, none⟩ = some (.int .i64 x.f0.f0) := blk_cell' BX.out 0 _ rfl; have x1 : w1.cell? ⟨gx, 1, none⟩ = some (.int .i64 x.f0.f1) := blk_cell' BX.out 1 _ rfl; have g0 : w1.cell? ⟨gb, 0, none⟩ = some (.int .i64 a) := blk_cell' (blk_below BG.out hb) 0 _ rfl; have g1 : w1.cell? ⟨gb, 1, none⟩ = some (.int .i64 b) := blk_cell' (blk_below BG.out hb) 1 _ rfl; clear hb hbox hg))
 all_goals go_ret
 all_goals exact ⟨by simp [dcl32, *], by repeat (first | exact HB1.out | apply below_drew1 | apply pw_below_drewN | apply below_alloc)⟩
set_option maxHeartbeats 4000000 in
set_option maxRecDepth 100000 in
theorem wcl34 (g : Nat) (cb : Array Value) (p : S34 → Bool) (x : S34) (ga gb : Nat) (W : World) (h1 : W.heap[ga]? = some (.cells #[.func (.func g) #[] cb] 100 (0, 0))) (h2 : W.heap[gb]? = some (.cells #[.func (.func 38) #[] #[]] 76 (0, 0)))
  (eg : ∀ args w, (callFunc g args).run Try.prog w = .ok (.enter g args) w)
  (hp : ∀ W', Below W.heap.size W W' → Calls Try.prog g (#[.agg #[.int .i64 x.f0.f0, .int .i64 x.f0.f1, .int .i64 x.f1, .int .i64 x.f2, .int .i64 x.f3]] ++ cb) W' fun e w' => e = .returned (.bool (p x)) ∧ Below W'.heap.size W' w') :
  Calls Try.prog 71 #[.agg #[.int .i64 x.f0.f0, .int .i64 x.f0.f1, .int .i64 x.f1, .int .i64 x.f2, .int .i64 x.f3], .pointer (some ⟨ga, 0, none⟩), .pointer (some ⟨gb, 0, none⟩)] W fun e w' => e = .returned (.bool (p x)) ∧ Below W.heap.size W w' := by
 have hu1 := Try.underlying34
 have HB0 := Aside0.mk (Below.refl W.heap.size W)
 have H1 := Aside0.mk h1
 have H2 := Aside0.mk h2
 have EG := Aside0.mk eg
 have HP := Aside0.mk hp
 have EAS : Aside0 (∀ args w, (callFunc 38 args).run Try.prog w = .ok (.enter 38 args) w) := ⟨enters_of Try.func38 (by kernel_rfl) rfl⟩
 clear h1 h2 eg hp
 go_enter Try.func71, Try.ntmps71
 go_wp2_with (first | ((with_reducible refine gate_dst (N := 3) rfl ?_); refine bE (N := 3) (cs := #[.int .i64 x.f0.f0, .int .i64 x.f0.f1, .int .i64 x.f1, .int .i64 x.f2, .int .i64 x.f3]) (t := 34) ?_; intro gx hg w1 hbox hb; have BX := Aside0.mk hbox; have HB1 := Aside0.mk (below_step HB0.out hb); have BA := Aside0.mk (blk_below H1.out hb); have BB := Aside0.mk (blk_below H2.out hb); clear hb hbox hg))
 refine start_ (n := 6) (S := fun w' => w'.cell? ⟨gx, 0, none⟩ = some (.int .i64 x.f0.f0) ∧ w'.cell? ⟨gx, 1, none⟩ = some (.int .i64 x.f0.f1) ∧ w'.cell? ⟨gx, 2, none⟩ = some (.int .i64 x.f1) ∧ w'.cell? ⟨gx, 3, none⟩ = some (.int .i64 x.f2) ∧ w'.cell? ⟨gx, 4, none⟩ = some (.int .i64 x.f3) ∧ w'.cell? ⟨ga, 0, none⟩ = some (.func (.func g) #[] cb) ∧ w'.cell? ⟨gb, 0, none⟩ = some (.func (.func 38) #[] #[])) (ds := []) #[false, false, false, false, false, false] (by kernel_rfl) rfl rfl ⟨blk_cell' (blk_drew BX.out) 0 _ rfl, blk_cell' (blk_drew BX.out) 1 _ rfl, blk_cell' (blk_drew BX.out) 2 _ rfl, blk_cell' (blk_drew BX.out) 3 _ rfl, blk_cell' (blk_drew BX.out) 4 _ rfl, blk_cell' (blk_drew BA.out) 0 _ rfl, blk_cell' (blk_drew BB.out) 0 _ rfl⟩ (fun hHeld => ?_)
 refine run_ [(0, some 5), (1, some 6), (2, some 7)] ?_
 iterate 3 (refine runT (v := ?_) (a' := ?_) rfl rfl (by kernel_rfl) (fun _ _ _ h => h) (Or.inl ⟨by rfl, ?_⟩) hHeld ?_ ?_; rotate_left; (· rintro w' ⟨s0, s1, s2, s3, s4, s5, s6⟩; go_simp; with_reducible rfl); rotate_left; (· simp only [Act.put, List.setIfInBounds_toArray, List.set_cons_zero, List.set_cons_succ, i64_w, i32_w]; rfl))
 refine runE ?_
 refine one_ (i := 3) (N := some 8) #[true, true, true, true, false, false] rfl rfl (by kernel_rfl) (by decide) (fun K hK => ?_)
 refine call_ 38 #[.agg #[.int .i64 x.f0.f0, .int .i64 x.f0.f1, .int .i64 x.f1, .int .i64 x.f2, .int .i64 x.f3]] (by rfl) rfl (by unfold execOp; simp [resolve, Deferred.ofValue, invoke, Act.eval, EAS.out]) ?_
 with_reducible refine (cells_toGrant.calls x.f0.f0 x.f0.f1 x.f1 x.f2 x.f3 x.f0.f0 x.f0.f1 x.f1 x.f2 x.f3 _ rfl).mono ?_
 rintro e w3 ⟨rfl, hb3⟩
 refine ⟨_, rfl, ?_⟩
 have BX3 := Aside0.mk (blk_below (blk_drew BX.out) hb3)
 have BA3 := Aside0.mk (blk_below (blk_drew BA.out) hb3)
 have BB3 := Aside0.mk (blk_below (blk_drew BB.out) hb3)
 have HB3 := Aside0.mk (below_step (below_drew1 HB1.out) hb3)
 refine hK.out _ _ ⟨blk_cell' (BX3.out) 0 _ rfl, blk_cell' (BX3.out) 1 _ rfl, blk_cell' (BX3.out) 2 _ rfl, blk_cell' (BX3.out) 3 _ rfl, blk_cell' (BX3.out) 4 _ rfl, blk_cell' (BA3.out) 0 _ rfl, blk_cell' (BB3.out) 0 _ rfl⟩ (fun hHeld => ?_)
 clear hK K
 refine norm_ (a' := ?_) ?_ ?_
 rotate_left
 ·show Act.put _ (some 8) _ = _
  simp only [Act.put, List.setIfInBounds_toArray, List.set_cons_zero, List.set_cons_succ, i64_w, i32_w]
  rfl
 refine one_ (i := 4) (N := some 9) #[true, true, true, true, true, false] rfl rfl (by kernel_rfl) (by decide) (fun K hK => ?_)
 refine call_ g (#[.agg #[.int .i64 x.f0.f0, .int .i64 x.f0.f1, .int .i64 x.f1, .int .i64 x.f2, .int .i64 x.f3]] ++ cb) (by rfl) rfl (by unfold execOp; simp [resolve, Deferred.ofValue, invoke, Act.eval, EG.out]) ?_
 with_reducible refine (HP.out _ HB3.out).mono ?_
 rintro e w4 ⟨rfl, hb4⟩
 refine ⟨_, rfl, ?_⟩
 have BX4 := Aside0.mk (blk_below BX3.out hb4)
 have BA4 := Aside0.mk (blk_below BA3.out hb4)
 have BB4 := Aside0.mk (blk_below BB3.out hb4)
 have HB4 := Aside0.mk (below_step HB3.out hb4)
 refine hK.out _ _ ⟨blk_cell' (BX4.out) 0 _ rfl, blk_cell' (BX4.out) 1 _ rfl, blk_cell' (BX4.out) 2 _ rfl, blk_cell' (BX4.out) 3 _ rfl, blk_cell' (BX4.out) 4 _ rfl, blk_cell' (BA4.out) 0 _ rfl, blk_cell' (BB4.out) 0 _ rfl⟩ (fun hHeld => ?_)
 clear hK K
 refine norm_ (a' := ?_) ?_ ?_
 rotate_left
 ·show Act.put _ (some 9) _ = _
  simp only [Act.put, List.setIfInBounds_toArray, List.set_cons_zero, List.set_cons_succ, i64_w, i32_w]
  rfl
 refine run_ [(5, some 4)] ?_
 refine runP (v := ?_) (a' := ?_) rfl rfl (by kernel_rfl) (fun _ _ _ h => h) (Or.inl ⟨by rfl, ?_⟩) ?_ ?_; rotate_left; (· intro w'; go_simp; with_reducible rfl); rotate_left; (· simp only [Act.put, List.setIfInBounds_toArray, List.set_cons_zero, List.set_cons_succ, i64_w, i32_w]; rfl)
 refine runE ?_
 refine done_ (by kernel_rfl) ?_
 go_wp2
 go_ret
 exact ⟨rfl, HB4.out⟩
def dcl34 (a b : Int) (x : S34) : Bool := x.f0.f0 == a && x.f0.f1 == b
set_option maxHeartbeats 4000000 in
set_option maxRecDepth 100000 in
theorem dcl34.calls (a b : Int) (x : S34) (gb : Nat) (W : World) (hb : W.heap[gb]? = some (.cells #[.int .i64 a, .int .i64 b] 30 (0, 0))) :
  Calls Try.prog 56 #[.agg #[.int .i64 x.f0.f0, .int .i64 x.f0.f1, .int .i64 x.f1, .int .i64 x.f2, .int .i64 x.f3], .pointer (some ⟨gb, 0, none⟩)] W fun e w' => e = .returned (.bool (dcl34 a b x)) ∧ Below W.heap.size W w' := by
 have hu1 := Try.underlying73
 have hu2 := Try.underlying30
 have HB0 := Aside0.mk (Below.refl W.heap.size W)
 have BG := Aside0.mk hb
 clear hb
 go_enter Try.func56, Try.ntmps56
 go_wp2_with (first | ((with_reducible refine gate_dst (N := 2) rfl ?_); refine bE (N := 2) (cs := #[.int .i64 x.f0.f0, .int .i64 x.f0.f1, .int .i64 x.f1, .int .i64 x.f2, .int .i64 x.f3]) (t := 73) ?_; intro gx hg w1 hbox hb; have BX := Aside0.mk hbox; have HB1 := Aside0.mk (below_step HB0.out hb); have x0 : w1.cell? ⟨gx, 0, none⟩ = some (.int .i64 x.f0.f0) := blk_cell' BX.out 0 _ rfl; have x1 : w1.cell? ⟨gx, 1, none⟩ = some (.int .i64 x.f0.f1) := blk_cell' BX.out 1 _ rfl; have g0 : w1.cell? ⟨gb, 0, none⟩ = some (.int .i64 a) := blk_cell' (blk_below BG.out hb) 0 _ rfl; have g1 : w1.cell? ⟨gb, 1, none⟩ = some (.int .i64 b) := blk_cell' (blk_below BG.out hb) 1 _ rfl; clear hb hbox hg))
 all_goals go_ret
 all_goals exact ⟨by simp [dcl34, *], by repeat (first | exact HB1.out | apply below_drew1 | apply pw_below_drewN | apply below_alloc)⟩
set_option maxHeartbeats 4000000 in
set_option maxRecDepth 100000 in
theorem wcl51 (g : Nat) (cb : Array Value) (p : S51 → Bool) (x : S51) (ga gb : Nat) (W : World) (h1 : W.heap[ga]? = some (.cells #[.func (.func g) #[] cb] 102 (0, 0))) (h2 : W.heap[gb]? = some (.cells #[.func (.func 46) #[] #[]] 89 (0, 0)))
  (eg : ∀ args w, (callFunc g args).run Try.prog w = .ok (.enter g args) w)
  (hp : ∀ W', Below W.heap.size W W' → Calls Try.prog g (#[.agg #[.int .i64 x.f0.f0, .int .i64 x.f0.f1, .int .i64 x.f1]] ++ cb) W' fun e w' => e = .returned (.bool (p x)) ∧ Below W'.heap.size W' w') :
  Calls Try.prog 73 #[.agg #[.int .i64 x.f0.f0, .int .i64 x.f0.f1, .int .i64 x.f1], .pointer (some ⟨ga, 0, none⟩), .pointer (some ⟨gb, 0, none⟩)] W fun e w' => e = .returned (.bool (p x)) ∧ Below W.heap.size W w' := by
 have hu1 := Try.underlying51
 have HB0 := Aside0.mk (Below.refl W.heap.size W)
 have H1 := Aside0.mk h1
 have H2 := Aside0.mk h2
 have EG := Aside0.mk eg
 have HP := Aside0.mk hp
 have EAS : Aside0 (∀ args w, (callFunc 46 args).run Try.prog w = .ok (.enter 46 args) w) := ⟨enters_of Try.func46 (by kernel_rfl) rfl⟩
 clear h1 h2 eg hp
 go_enter Try.func73, Try.ntmps73
 go_wp2_with (first | ((with_reducible refine gate_dst (N := 3) rfl ?_); refine bE (N := 3) (cs := #[.int .i64 x.f0.f0, .int .i64 x.f0.f1, .int .i64 x.f1]) (t := 51) ?_; intro gx hg w1 hbox hb; have BX := Aside0.mk hbox; have HB1 := Aside0.mk (below_step HB0.out hb); have BA := Aside0.mk (blk_below H1.out hb); have BB := Aside0.mk (blk_below H2.out hb); clear hb hbox hg))
 refine start_ (n := 6) (S := fun w' => w'.cell? ⟨gx, 0, none⟩ = some (.int .i64 x.f0.f0) ∧ w'.cell? ⟨gx, 1, none⟩ = some (.int .i64 x.f0.f1) ∧ w'.cell? ⟨gx, 2, none⟩ = some (.int .i64 x.f1) ∧ w'.cell? ⟨ga, 0, none⟩ = some (.func (.func g) #[] cb) ∧ w'.cell? ⟨gb, 0, none⟩ = some (.func (.func 46) #[] #[])) (ds := []) #[false, false, false, false, false, false] (by kernel_rfl) rfl rfl ⟨blk_cell' (blk_drew BX.out) 0 _ rfl, blk_cell' (blk_drew BX.out) 1 _ rfl, blk_cell' (blk_drew BX.out) 2 _ rfl, blk_cell' (blk_drew BA.out) 0 _ rfl, blk_cell' (blk_drew BB.out) 0 _ rfl⟩ (fun hHeld => ?_)
 refine run_ [(0, some 5), (1, some 6), (2, some 7)] ?_
 iterate 3 (refine runT (v := ?_) (a' := ?_) rfl rfl (by kernel_rfl) (fun _ _ _ h => h) (Or.inl ⟨by rfl, ?_⟩) hHeld ?_ ?_; rotate_left; (· rintro w' ⟨s0, s1, s2, s3, s4⟩; go_simp; with_reducible rfl); rotate_left; (· simp only [Act.put, List.setIfInBounds_toArray, List.set_cons_zero, List.set_cons_succ, i64_w, i32_w]; rfl))
 refine runE ?_
 refine one_ (i := 3) (N := some 8) #[true, true, true, true, false, false] rfl rfl (by kernel_rfl) (by decide) (fun K hK => ?_)
 refine call_ 46 #[.agg #[.int .i64 x.f0.f0, .int .i64 x.f0.f1, .int .i64 x.f1]] (by rfl) rfl (by unfold execOp; simp [resolve, Deferred.ofValue, invoke, Act.eval, EAS.out]) ?_
 with_reducible refine (cells_toAsk.calls x.f0.f0 x.f0.f1 x.f1 x.f0.f0 x.f0.f1 x.f1 _ rfl).mono ?_
 rintro e w3 ⟨rfl, hb3⟩
 refine ⟨_, rfl, ?_⟩
 have BX3 := Aside0.mk (blk_below (blk_drew BX.out) hb3)
 have BA3 := Aside0.mk (blk_below (blk_drew BA.out) hb3)
 have BB3 := Aside0.mk (blk_below (blk_drew BB.out) hb3)
 have HB3 := Aside0.mk (below_step (below_drew1 HB1.out) hb3)
 refine hK.out _ _ ⟨blk_cell' (BX3.out) 0 _ rfl, blk_cell' (BX3.out) 1 _ rfl, blk_cell' (BX3.out) 2 _ rfl, blk_cell' (BA3.out) 0 _ rfl, blk_cell' (BB3.out) 0 _ rfl⟩ (fun hHeld => ?_)
 clear hK K
 refine norm_ (a' := ?_) ?_ ?_
 rotate_left
 ·show Act.put _ (some 8) _ = _
  simp only [Act.put, List.setIfInBounds_toArray, List.set_cons_zero, List.set_cons_succ, i64_w, i32_w]
  rfl
 refine one_ (i := 4) (N := some 9) #[true, true, true, true, true, false] rfl rfl (by kernel_rfl) (by decide) (fun K hK => ?_)
 refine call_ g (#[.agg #[.int .i64 x.f0.f0, .int .i64 x.f0.f1, .int .i64 x.f1]] ++ cb) (by rfl) rfl (by unfold execOp; simp [resolve, Deferred.ofValue, invoke, Act.eval, EG.out]) ?_
 with_reducible refine (HP.out _ HB3.out).mono ?_
 rintro e w4 ⟨rfl, hb4⟩
 refine ⟨_, rfl, ?_⟩
 have BX4 := Aside0.mk (blk_below BX3.out hb4)
 have BA4 := Aside0.mk (blk_below BA3.out hb4)
 have BB4 := Aside0.mk (blk_below BB3.out hb4)
 have HB4 := Aside0.mk (below_step HB3.out hb4)
 refine hK.out _ _ ⟨blk_cell' (BX4.out) 0 _ rfl, blk_cell' (BX4.out) 1 _ rfl, blk_cell' (BX4.out) 2 _ rfl, blk_cell' (BA4.out) 0 _ rfl, blk_cell' (BB4.out) 0 _ rfl⟩ (fun hHeld => ?_)
 clear hK K
 refine norm_ (a' := ?_) ?_ ?_
 rotate_left
 ·show Act.put _ (some 9) _ = _
  simp only [Act.put, List.setIfInBounds_toArray, List.set_cons_zero, List.set_cons_succ, i64_w, i32_w]
  rfl
 refine run_ [(5, some 4)] ?_
 refine runP (v := ?_) (a' := ?_) rfl rfl (by kernel_rfl) (fun _ _ _ h => h) (Or.inl ⟨by rfl, ?_⟩) ?_ ?_; rotate_left; (· intro w'; go_simp; with_reducible rfl); rotate_left; (· simp only [Act.put, List.setIfInBounds_toArray, List.set_cons_zero, List.set_cons_succ, i64_w, i32_w]; rfl)
 refine runE ?_
 refine done_ (by kernel_rfl) ?_
 go_wp2
 go_ret
 exact ⟨rfl, HB4.out⟩
def dcl51 (a b : Int) (x : S51) : Bool := x.f0.f0 == a && x.f0.f1 == b
set_option maxHeartbeats 4000000 in
set_option maxRecDepth 100000 in
theorem dcl51.calls (a b : Int) (x : S51) (gb : Nat) (W : World) (hb : W.heap[gb]? = some (.cells #[.int .i64 a, .int .i64 b] 30 (0, 0))) :
  Calls Try.prog 58 #[.agg #[.int .i64 x.f0.f0, .int .i64 x.f0.f1, .int .i64 x.f1], .pointer (some ⟨gb, 0, none⟩)] W fun e w' => e = .returned (.bool (dcl51 a b x)) ∧ Below W.heap.size W w' := by
 have hu1 := Try.underlying86
 have hu2 := Try.underlying30
 have HB0 := Aside0.mk (Below.refl W.heap.size W)
 have BG := Aside0.mk hb
 clear hb
 go_enter Try.func58, Try.ntmps58
 go_wp2_with (first | ((with_reducible refine gate_dst (N := 2) rfl ?_); refine bE (N := 2) (cs := #[.int .i64 x.f0.f0, .int .i64 x.f0.f1, .int .i64 x.f1]) (t := 86) ?_; intro gx hg w1 hbox hb; have BX := Aside0.mk hbox; have HB1 := Aside0.mk (below_step HB0.out hb); have x0 : w1.cell? ⟨gx, 0, none⟩ = some (.int .i64 x.f0.f0) := blk_cell' BX.out 0 _ rfl; have x1 : w1.cell? ⟨gx, 1, none⟩ = some (.int .i64 x.f0.f1) := blk_cell' BX.out 1 _ rfl; have g0 : w1.cell? ⟨gb, 0, none⟩ = some (.int .i64 a) := blk_cell' (blk_below BG.out hb) 0 _ rfl; have g1 : w1.cell? ⟨gb, 1, none⟩ = some (.int .i64 b) := blk_cell' (blk_below BG.out hb) 1 _ rfl; clear hb hbox hg))
 all_goals go_ret
 all_goals exact ⟨by simp [dcl51, *], by repeat (first | exact HB1.out | apply below_drew1 | apply pw_below_drewN | apply below_alloc)⟩
def ecl34 (a : Int) (x : S34) : Bool := decide (x.f3 < a)
set_option maxHeartbeats 4000000 in
set_option maxRecDepth 100000 in
theorem ecl34.calls (a : Int) (x : S34) (gb : Nat) (W : World) (hb : W.heap[gb]? = some (.cells #[.int .i64 a] 3 (0, 0))) :
  Calls Try.prog 59 #[.agg #[.int .i64 x.f0.f0, .int .i64 x.f0.f1, .int .i64 x.f1, .int .i64 x.f2, .int .i64 x.f3], .pointer (some ⟨gb, 0, none⟩)] W fun e w' => e = .returned (.bool (ecl34 a x)) ∧ Below W.heap.size W w' := by
 have hu1 := Try.underlying73
 have HB0 := Aside0.mk (Below.refl W.heap.size W)
 have BG := Aside0.mk hb
 clear hb
 go_enter Try.func59, Try.ntmps59
 go_wp2_with (first | ((with_reducible refine gate_dst (N := 2) rfl ?_); refine bE (N := 2) (cs := #[.int .i64 x.f0.f0, .int .i64 x.f0.f1, .int .i64 x.f1, .int .i64 x.f2, .int .i64 x.f3]) (t := 73) ?_; intro gx hg w1 hbox hb; have BX := Aside0.mk hbox; have HB1 := Aside0.mk (below_step HB0.out hb); have x0 : w1.cell? ⟨gx, 4, none⟩ = some (.int .i64 x.f3) := blk_cell' BX.out 4 _ rfl; have g0 : w1.cell? ⟨gb, 0, none⟩ = some (.int .i64 a) := blk_cell' (blk_below BG.out hb) 0 _ rfl; clear hb hbox hg))
 go_ret
 exact ⟨rfl, by repeat (first | exact HB1.out | apply below_drew1 | apply pw_below_drewN | apply below_alloc)⟩
set_option maxHeartbeats 4000000 in
set_option maxRecDepth 100000 in
theorem wo32 (g : Nat) (cb : Array Value) (p : S32 → Bool) (A : Option Addr) (c : Nat) (l : List S32) (w : World) (hr : Kd.C k32 w A l.length l) (hc : l.length ≤ c) (hl : l.length < 4398046511104)
  (eg : ∀ args w, (callFunc g args).run Try.prog w = .ok (.enter g args) w)
  (hp : ∀ (W : World) (x : S32), Below w.heap.size w W → Calls Try.prog g (#[.agg #[.int .i64 x.f0.f0, .int .i64 x.f0.f1, .int .i64 x.f1, .int .i64 x.f2]] ++ cb) W fun e w' => e = .returned (.bool (p x)) ∧ Below W.heap.size W w') :
  Calls Try.prog 53 #[.slice A l.length c, .func (.func 31) #[] #[], .func (.func g) #[] cb] w fun e w' => ∃ v, e = .returned v ∧ Kd.R k32 32 w' w.heap.size (fun _ => True) v (l.filter fun x => !p x) ∧ Below w.heap.size w w' := by
 have HB0 := Aside0.mk (Below.refl w.heap.size w)
 have HR := Aside0.mk hr
 have HC := Aside0.mk hc
 have EG := Aside0.mk eg
 have HP := Aside0.mk hp
 have HL : Aside0 (api_Use_36.f l = some l) := ⟨if_pos hl⟩
 have EW : Aside0 (∀ args w, (callFunc 69 args).run Try.prog w = .ok (.enter 69 args) w) := ⟨enters_of Try.func69 (by kernel_rfl) rfl⟩
 have hmf : ∀ (fn : Fn) (first cap : Array Value) (w : World), (Instr.makeFunc fn first cap).run Try.prog w = .ok (.func fn first cap) w := fun _ _ _ _ => rfl
 clear hr hc hl eg hp
 go_enter Try.func53, Try.ntmps53
 go_wp2_with (first
  | ((with_reducible refine gate_dst (N := 4) rfl ?_); refine bE (N := 4) (cs := #[.func (.func 31) #[] #[]]) (t := 68) ?_; intro ga hg w1 hbox hb; have BA1 := Aside0.mk hbox; have HB1 := Aside0.mk (below_step HB0.out hb); clear hb hbox hg)
  | ((with_reducible refine gate_dst (N := 5) rfl ?_); refine bE (N := 5) (cs := #[.func (.func g) #[] cb]) (t := 98) ?_; intro gb hg w2 hbox hb; have BB2 := Aside0.mk hbox; have BA2 := Aside0.mk (blk_below BA1.out hb); have HB2 := Aside0.mk (below_step HB1.out hb); have HZ2 := Aside0.mk HB2.out.size; clear hb hbox hg)
  | (go_at_call 36; refine (api_Use_36.calls A c l l _ (Kd.C_below HR.out HB2.out) HC.out HL.out).mono ?_; rintro e w3 ⟨v3, rfl, hr3, hb3⟩; have HO3 := Aside0.mk hr3; have HB3 := Aside0.mk (below_step HB2.out hb3); have BA3 := Aside0.mk (blk_below BA2.out hb3); have BB3 := Aside0.mk (blk_below BB2.out hb3); have HS3 := Aside0.mk hb3.size; clear hb3 hr3)
  | (go_at_call 68; refine (dlf32 69 #[.pointer (some ⟨gb, 0, none⟩), .pointer (some ⟨ga, 0, none⟩)] p l v3 _ (fun _ => True) w3 HO3.out HS3.out EW.out (fun W x hW => wcl32 g cb p x gb ga W ((hW.block gb (blk_lt BB2.out)).trans BB3.out) ((hW.block ga (blk_lt BA2.out)).trans BA3.out) EG.out (fun W' hW' => HP.out W' x (HB3.out.trans (below_less (below_on hW (Nat.le_trans HS3.out hW.size) hW') HZ2.out))))).mono ?_; rintro e w4 ⟨v4, rfl, hr4, hb4⟩; have HO4 := Aside0.mk (Kd.R_lower hr4 HB2.out.size); have HB4 := Aside0.mk (HB3.out.trans (below_less hb4 HB2.out.size)); clear hr4 hb4))
 go_ret
 exact ⟨_, rfl, HO4.out, HB4.out⟩
set_option maxHeartbeats 4000000 in
set_option maxRecDepth 100000 in
theorem wo34 (g : Nat) (cb : Array Value) (p : S34 → Bool) (A : Option Addr) (c : Nat) (l : List S34) (w : World) (hr : Kd.C k34 w A l.length l) (hc : l.length ≤ c) (hl : l.length < 3518437208883)
  (eg : ∀ args w, (callFunc g args).run Try.prog w = .ok (.enter g args) w)
  (hp : ∀ (W : World) (x : S34), Below w.heap.size w W → Calls Try.prog g (#[.agg #[.int .i64 x.f0.f0, .int .i64 x.f0.f1, .int .i64 x.f1, .int .i64 x.f2, .int .i64 x.f3]] ++ cb) W fun e w' => e = .returned (.bool (p x)) ∧ Below W.heap.size W w') :
  Calls Try.prog 55 #[.slice A l.length c, .func (.func 38) #[] #[], .func (.func g) #[] cb] w fun e w' => ∃ v, e = .returned v ∧ Kd.R k34 34 w' w.heap.size (fun _ => True) v (l.filter fun x => !p x) ∧ Below w.heap.size w w' := by
 have HB0 := Aside0.mk (Below.refl w.heap.size w)
 have HR := Aside0.mk hr
 have HC := Aside0.mk hc
 have EG := Aside0.mk eg
 have HP := Aside0.mk hp
 have HL : Aside0 (api_Grant_32.f l = some l) := ⟨if_pos hl⟩
 have EW : Aside0 (∀ args w, (callFunc 71 args).run Try.prog w = .ok (.enter 71 args) w) := ⟨enters_of Try.func71 (by kernel_rfl) rfl⟩
 have hmf : ∀ (fn : Fn) (first cap : Array Value) (w : World), (Instr.makeFunc fn first cap).run Try.prog w = .ok (.func fn first cap) w := fun _ _ _ _ => rfl
 clear hr hc hl eg hp
 go_enter Try.func55, Try.ntmps55
 go_wp2_with (first
  | ((with_reducible refine gate_dst (N := 4) rfl ?_); refine bE (N := 4) (cs := #[.func (.func 38) #[] #[]]) (t := 76) ?_; intro ga hg w1 hbox hb; have BA1 := Aside0.mk hbox; have HB1 := Aside0.mk (below_step HB0.out hb); clear hb hbox hg)
  | ((with_reducible refine gate_dst (N := 5) rfl ?_); refine bE (N := 5) (cs := #[.func (.func g) #[] cb]) (t := 100) ?_; intro gb hg w2 hbox hb; have BB2 := Aside0.mk hbox; have BA2 := Aside0.mk (blk_below BA1.out hb); have HB2 := Aside0.mk (below_step HB1.out hb); have HZ2 := Aside0.mk HB2.out.size; clear hb hbox hg)
  | (go_at_call 32; refine (api_Grant_32.calls A c l l _ (Kd.C_below HR.out HB2.out) HC.out HL.out).mono ?_; rintro e w3 ⟨v3, rfl, hr3, hb3⟩; have HO3 := Aside0.mk hr3; have HB3 := Aside0.mk (below_step HB2.out hb3); have BA3 := Aside0.mk (blk_below BA2.out hb3); have BB3 := Aside0.mk (blk_below BB2.out hb3); have HS3 := Aside0.mk hb3.size; clear hb3 hr3)
  | (go_at_call 70; refine (dlf34 71 #[.pointer (some ⟨gb, 0, none⟩), .pointer (some ⟨ga, 0, none⟩)] p l v3 _ (fun _ => True) w3 HO3.out HS3.out EW.out (fun W x hW => wcl34 g cb p x gb ga W ((hW.block gb (blk_lt BB2.out)).trans BB3.out) ((hW.block ga (blk_lt BA2.out)).trans BA3.out) EG.out (fun W' hW' => HP.out W' x (HB3.out.trans (below_less (below_on hW (Nat.le_trans HS3.out hW.size) hW') HZ2.out))))).mono ?_; rintro e w4 ⟨v4, rfl, hr4, hb4⟩; have HO4 := Aside0.mk (Kd.R_lower hr4 HB2.out.size); have HB4 := Aside0.mk (HB3.out.trans (below_less hb4 HB2.out.size)); clear hr4 hb4))
 go_ret
 exact ⟨_, rfl, HO4.out, HB4.out⟩
set_option maxHeartbeats 4000000 in
set_option maxRecDepth 100000 in
theorem wo51 (g : Nat) (cb : Array Value) (p : S51 → Bool) (A : Option Addr) (c : Nat) (l : List S51) (w : World) (hr : Kd.C k51 w A l.length l) (hc : l.length ≤ c) (hl : l.length < 5864062014805)
  (eg : ∀ args w, (callFunc g args).run Try.prog w = .ok (.enter g args) w)
  (hp : ∀ (W : World) (x : S51), Below w.heap.size w W → Calls Try.prog g (#[.agg #[.int .i64 x.f0.f0, .int .i64 x.f0.f1, .int .i64 x.f1]] ++ cb) W fun e w' => e = .returned (.bool (p x)) ∧ Below W.heap.size W w') :
  Calls Try.prog 57 #[.slice A l.length c, .func (.func 46) #[] #[], .func (.func g) #[] cb] w fun e w' => ∃ v, e = .returned v ∧ Kd.R k51 51 w' w.heap.size (fun _ => True) v (l.filter fun x => !p x) ∧ Below w.heap.size w w' := by
 have HB0 := Aside0.mk (Below.refl w.heap.size w)
 have HR := Aside0.mk hr
 have HC := Aside0.mk hc
 have EG := Aside0.mk eg
 have HP := Aside0.mk hp
 have HL : Aside0 (api_Ask_60.f l = some l) := ⟨if_pos hl⟩
 have EW : Aside0 (∀ args w, (callFunc 73 args).run Try.prog w = .ok (.enter 73 args) w) := ⟨enters_of Try.func73 (by kernel_rfl) rfl⟩
 have hmf : ∀ (fn : Fn) (first cap : Array Value) (w : World), (Instr.makeFunc fn first cap).run Try.prog w = .ok (.func fn first cap) w := fun _ _ _ _ => rfl
 clear hr hc hl eg hp
 go_enter Try.func57, Try.ntmps57
 go_wp2_with (first
  | ((with_reducible refine gate_dst (N := 4) rfl ?_); refine bE (N := 4) (cs := #[.func (.func 46) #[] #[]]) (t := 89) ?_; intro ga hg w1 hbox hb; have BA1 := Aside0.mk hbox; have HB1 := Aside0.mk (below_step HB0.out hb); clear hb hbox hg)
  | ((with_reducible refine gate_dst (N := 5) rfl ?_); refine bE (N := 5) (cs := #[.func (.func g) #[] cb]) (t := 102) ?_; intro gb hg w2 hbox hb; have BB2 := Aside0.mk hbox; have BA2 := Aside0.mk (blk_below BA1.out hb); have HB2 := Aside0.mk (below_step HB1.out hb); have HZ2 := Aside0.mk HB2.out.size; clear hb hbox hg)
  | (go_at_call 60; refine (api_Ask_60.calls A c l l _ (Kd.C_below HR.out HB2.out) HC.out HL.out).mono ?_; rintro e w3 ⟨v3, rfl, hr3, hb3⟩; have HO3 := Aside0.mk hr3; have HB3 := Aside0.mk (below_step HB2.out hb3); have BA3 := Aside0.mk (blk_below BA2.out hb3); have BB3 := Aside0.mk (blk_below BB2.out hb3); have HS3 := Aside0.mk hb3.size; clear hb3 hr3)
  | (go_at_call 72; refine (dlf51 73 #[.pointer (some ⟨gb, 0, none⟩), .pointer (some ⟨ga, 0, none⟩)] p l v3 _ (fun _ => True) w3 HO3.out HS3.out EW.out (fun W x hW => wcl51 g cb p x gb ga W ((hW.block gb (blk_lt BB2.out)).trans BB3.out) ((hW.block ga (blk_lt BA2.out)).trans BA3.out) EG.out (fun W' hW' => HP.out W' x (HB3.out.trans (below_less (below_on hW (Nat.le_trans HS3.out hW.size) hW') HZ2.out))))).mono ?_; rintro e w4 ⟨v4, rfl, hr4, hb4⟩; have HO4 := Aside0.mk (Kd.R_lower hr4 HB2.out.size); have HB4 := Aside0.mk (HB3.out.trans (below_less hb4 HB2.out.size)); clear hr4 hb4))
 go_ret
 exact ⟨_, rfl, HO4.out, HB4.out⟩

/-! ### cells_unasked: function 33 -/
def cells_unasked.f (l0_0 : List (S32)) (l0_1 : List (S34)) (l0_2 : List (S51)) (a1 : Int) : Option (List (S51)) := if l0_2.length < 5864062014805 then some (l0_2.filter fun x => !slot51 a1 x) else none
set_option maxHeartbeats 4000000 in
set_option maxRecDepth 100000 in
theorem cells_unasked.calls (A0_0 : Option Addr) (c0_0 : Nat) (l0_0 : List (S32)) (A0_1 : Option Addr) (c0_1 : Nat) (l0_1 : List (S34)) (A0_2 : Option Addr) (c0_2 : Nat) (l0_2 : List (S51)) (a1 : Int) (r : List (S51)) (w : World) (hr0_0 : Kd.C k32 w A0_0 l0_0.length l0_0) (hc0_0 : l0_0.length ≤ c0_0) (hr0_1 : Kd.C k34 w A0_1 l0_1.length l0_1) (hc0_1 : l0_1.length ≤ c0_1) (hr0_2 : Kd.C k51 w A0_2 l0_2.length l0_2) (hc0_2 : l0_2.length ≤ c0_2) (h : cells_unasked.f l0_0 l0_1 l0_2 a1 = some r) :
  Calls Try.prog 33 #[.agg #[.slice A0_0 l0_0.length c0_0, .slice A0_1 l0_1.length c0_1, .slice A0_2 l0_2.length c0_2], .int .i64 a1] w fun e w' => ∃ v0_ : Value, e = .returned (v0_) ∧ Kd.R k51 51 w' w.heap.size (fun _ => True) v0_ r ∧ Below w.heap.size w w' := by
 have HL : l0_2.length < 5864062014805 := by
  unfold cells_unasked.f at h
  by_cases hl : l0_2.length < 5864062014805
  ·exact hl
  rw [if_neg hl] at h; exact absurd h (by simp)
 obtain rfl : l0_2.filter (fun x => !slot51 a1 x) = r := by unfold cells_unasked.f at h; rw [if_pos HL] at h; exact Option.some.inj h
 clear h
 have hu26 := Try.underlying26
 have HR2 := Aside0.mk hr0_2
 have HC2 := Aside0.mk hc0_2
 have HLA := Aside0.mk HL
 have HB0 := Aside0.mk (Below.refl w.heap.size w)
 have EG : Aside0 (∀ args w, (callFunc 64 args).run Try.prog w = .ok (.enter 64 args) w) := ⟨enters_of Try.func64 (by kernel_rfl) rfl⟩
 have hmf : ∀ (fn : Fn) (first cap : Array Value) (w : World), (Instr.makeFunc fn first cap).run Try.prog w = .ok (.func fn first cap) w := fun _ _ _ _ => rfl
 clear hr0_0 hr0_1 hr0_2 hc0_0 hc0_1 hc0_2 HL
 go_enter Try.func33, Try.ntmps33
 go_wp2_with (first
  | ((with_reducible refine gate_dst (N := 2) rfl ?_); refine bE (N := 2) (cs := #[.slice A0_0 l0_0.length c0_0, .slice A0_1 l0_1.length c0_1, .slice A0_2 l0_2.length c0_2]) (t := 26) ?_; intro g2 hg w1 hbox hb; have BX2 := Aside0.mk hbox; have HB1 := Aside0.mk (below_step HB0.out hb); clear hb hbox hg)
  | ((with_reducible refine gate_dst (N := 3) rfl ?_); refine bE (N := 3) (cs := #[.int .i64 a1]) (t := 3) ?_; intro g3 hg w2 hbox hb; have BX3 := Aside0.mk hbox; have X2 := Aside0.mk (blk_below BX2.out hb); have HB2 := Aside0.mk (below_step HB1.out hb); have x0 := blk_cell' X2.out 2 _ rfl; clear hb hbox hg)
  | (go_at_call 57; refine (wo51 64 #[.pointer (some ⟨g3, 0, none⟩)] (slot51 a1) A0_2 c0_2 l0_2 w2 (Kd.C_below HR2.out HB2.out) HC2.out HLA.out EG.out (fun W x hW => scl64.calls a1 x g3 W (blk_below BX3.out hW))).mono ?_; rintro e w4 ⟨v4, rfl, hr4, hb4⟩; have HO4 := Aside0.mk (Kd.R_lower hr4 HB2.out.size); have HB4 := Aside0.mk (below_step HB2.out hb4); clear hr4 hb4))
 go_ret
 exact ⟨_, rfl, HO4.out, HB4.out⟩

end Go.Proofs.Ytbpfbdljcdcgnaa.Px
