/- Walks of functions of this seat, written by a program of this workplace out of the translation. -/
import Derived.Test.YtbpfbdljcdcgnaaPx0
import Derived.Test.YtbpfbdljcdcgnaaPx5
import Derived.Test.YtbpfbdljcdcgnaaPx6
import Derived.Test.YtbpfbdljcdcgnaaPx7
import Derived.Test.YtbpfbdljcdcgnaaPx8
import Derived.Test.YtbpfbdljcdcgnaaPx10
import Derived.Test.YtbpfbdljcdcgnaaPx11
namespace Go.Proofs.Ytbpfbdljcdcgnaa.Px
open Go.RowKit Go.Proofs.YtbpfbdljcdcgnaaW.PrintWords Go.Proofs.YtbpfbdljcdcgnaaW.PrintLast Go.Proofs.YtbpfbdljcdcgnaaW.PrintMore
attribute [local go_sem] max2_int min2_int max_two min_two max_three min_three max_four min_four   -- for this text's walks alone
set_option linter.unusedVariables false
set_option linter.unusedSimpArgs false

/-! ### cells_refused: function 29 -/
def busyB (l0 : List S32) (l1 : List S34) (s : Int) : Bool := decide (0 ≤ fidx (slot32 s) l0 0) || decide (0 ≤ fidx (slot34 s) l1 0)
def refB (l0 : List S32) (l1 : List S34) (l2 : List S51) (nodes data : Int) (v : Bool) (s : Int) : Int :=
 if validB l0 l1 l2 nodes data = false then 1 else if v = false then 1 else if busyB l0 l1 s = true then 5 else if 24 ≤ (l0.length : Int) + (l1.length : Int) then 10 else 0
set_option maxHeartbeats 8000000 in
set_option maxRecDepth 100000 in
theorem refused32.calls (A0_0 : Option Addr) (c0_0 : Nat) (l0_0 : List (S32)) (A0_1 : Option Addr) (c0_1 : Nat) (l0_1 : List (S34)) (A0_2 : Option Addr) (c0_2 : Nat) (l0_2 : List (S51)) (a1_0 : Int) (a1_1 : Int) (x : S32) (r : Int) (w : World) (hr0_0 : Kd.C k32 w A0_0 l0_0.length l0_0) (hc0_0 : l0_0.length ≤ c0_0) (hr0_1 : Kd.C k34 w A0_1 l0_1.length l0_1) (hc0_1 : l0_1.length ≤ c0_1) (hr0_2 : Kd.C k51 w A0_2 l0_2.length l0_2) (hc0_2 : l0_2.length ≤ c0_2) (hsz : l0_0.length < 3518437208883 ∧ l0_1.length < 3518437208883 ∧ l0_2.length < 3518437208883) (h : refB l0_0 l0_1 l0_2 a1_0 a1_1 (v32 a1_0 a1_1 x) x.f0.f0 = r) :
  Calls Try.prog 29 #[.agg #[.slice A0_0 l0_0.length c0_0, .slice A0_1 l0_1.length c0_1, .slice A0_2 l0_2.length c0_2], .agg #[.int .i64 a1_0, .int .i64 a1_1], .iface 66 (.agg #[.int .i64 x.f0.f0, .int .i64 x.f0.f1, .int .i64 x.f1, .int .i64 x.f2])] w fun e w' => e = .returned (.int .i64 r) ∧ Below w.heap.size w w' := by
 have hu1 := Try.underlying66
 have hu2 := Try.underlying30
 have hu3 := Try.underlying28
 have hu4 := Try.underlying26
 have hiv := mthv66
 have hic := mthc66
 have hfd : ∀ w : World, (Instr.field 30 (.agg #[.int .i64 x.f0.f0, .int .i64 x.f0.f1]) 0).run Try.prog w = .ok (.int .i64 x.f0.f0) w := fun _ => by kernel_rfl
 have HRR := Aside0.mk h
 have HLL : l0_0.length < 3518437208883 ∧ l0_1.length < 3518437208883 ∧ l0_2.length < 3518437208883 := hsz
 have HR0 := Aside0.mk hr0_0
 have HR1 := Aside0.mk hr0_1
 have HR2 := Aside0.mk hr0_2
 have HC0 := Aside0.mk hc0_0
 have HC1 := Aside0.mk hc0_1
 have HC2 := Aside0.mk hc0_2
 have HSZ := Aside0.mk hsz
 have HB0 := Aside0.mk (Below.refl w.heap.size w)
 obtain ⟨hb0, hb1, hb2⟩ := HLL
 clear hr0_0 hr0_1 hr0_2 hc0_0 hc0_1 hc0_2 hsz h
 cases hv : validB l0_0 l0_1 l0_2 a1_0 a1_1
 ·obtain rfl : (1 : Int) = r := by rw [← HRR.out]; unfold refB; rw [if_pos hv]
  have HV : Aside0 (cells_Valid.f l0_0 l0_1 l0_2 a1_0 a1_1 = some false) := ⟨by unfold cells_Valid.f; rw [if_pos HSZ.out, hv]⟩
  clear hv HRR
  go_enter Try.func29, Try.ntmps29
  go_wp2_with (first
   | ((with_reducible refine gate_dst (N := 3) rfl ?_); refine bE (N := 3) (cs := #[.slice A0_0 l0_0.length c0_0, .slice A0_1 l0_1.length c0_1, .slice A0_2 l0_2.length c0_2]) (t := 26) ?_; intro g3 hg w1 hbox hb; have X3 := Aside0.mk hbox; have HB1 := Aside0.mk (below_step HB0.out hb); clear hb hbox hg)
   | ((with_reducible refine gate_dst (N := 4) rfl ?_); refine bE (N := 4) (cs := #[.int .i64 a1_0, .int .i64 a1_1]) (t := 28) ?_; intro g4 hg w2 hbox hb; have X4 := Aside0.mk hbox; have X3' := Aside0.mk (blk_below X3.out hb); clear X3; have X3 := X3'; clear X3'; have HB2 := Aside0.mk (below_step HB1.out hb); have y0 := blk_cell' X3.out 0 _ rfl; have y1 := blk_cell' X3.out 1 _ rfl; have y2 := blk_cell' X3.out 2 _ rfl; have z0 := blk_cell' X4.out 0 _ rfl; have z1 := blk_cell' X4.out 1 _ rfl; clear hb hbox hg)
   | (go_at_call 17; refine (cells_Valid.calls A0_0 c0_0 l0_0 A0_1 c0_1 l0_1 A0_2 c0_2 l0_2 a1_0 a1_1 false _ (Kd.C_below HR0.out HB2.out) HC0.out (Kd.C_below HR1.out HB2.out) HC1.out (Kd.C_below HR2.out HB2.out) HC2.out HV.out).mono ?_; rintro e w3 ⟨rfl, hb⟩; have X3c := Aside0.mk (blk_below X3.out hb); have X4c := Aside0.mk (blk_below X4.out hb); have HB3 := Aside0.mk (below_step HB2.out hb); clear hb y0 y1 y2 z0 z1; have p0 := blk_cell' X3c.out 0 _ rfl; have p1 := blk_cell' X3c.out 1 _ rfl; have p2 := blk_cell' X3c.out 2 _ rfl; have q0 := blk_cell' X4c.out 0 _ rfl; have q1 := blk_cell' X4c.out 1 _ rfl))
  go_ret
  exact ⟨rfl, HB3.out⟩
 have HV : Aside0 (cells_Valid.f l0_0 l0_1 l0_2 a1_0 a1_1 = some true) := ⟨by unfold cells_Valid.f; rw [if_pos HSZ.out, hv]⟩
 cases hx : v32 a1_0 a1_1 x
 ·obtain rfl : (1 : Int) = r := by rw [← HRR.out]; unfold refB; rw [if_neg (by rw [hv]; decide), if_pos hx]
  have HX := Aside0.mk ((v32_eq a1_0 a1_1 x).trans (congrArg some hx))
  clear hv hx HRR
  go_enter Try.func29, Try.ntmps29
  go_wp2_with (first
   | ((with_reducible refine gate_dst (N := 3) rfl ?_); refine bE (N := 3) (cs := #[.slice A0_0 l0_0.length c0_0, .slice A0_1 l0_1.length c0_1, .slice A0_2 l0_2.length c0_2]) (t := 26) ?_; intro g3 hg w1 hbox hb; have X3 := Aside0.mk hbox; have HB1 := Aside0.mk (below_step HB0.out hb); clear hb hbox hg)
   | ((with_reducible refine gate_dst (N := 4) rfl ?_); refine bE (N := 4) (cs := #[.int .i64 a1_0, .int .i64 a1_1]) (t := 28) ?_; intro g4 hg w2 hbox hb; have X4 := Aside0.mk hbox; have X3' := Aside0.mk (blk_below X3.out hb); clear X3; have X3 := X3'; clear X3'; have HB2 := Aside0.mk (below_step HB1.out hb); have y0 := blk_cell' X3.out 0 _ rfl; have y1 := blk_cell' X3.out 1 _ rfl; have y2 := blk_cell' X3.out 2 _ rfl; have z0 := blk_cell' X4.out 0 _ rfl; have z1 := blk_cell' X4.out 1 _ rfl; clear hb hbox hg)
   | (go_at_call 17; refine (cells_Valid.calls A0_0 c0_0 l0_0 A0_1 c0_1 l0_1 A0_2 c0_2 l0_2 a1_0 a1_1 true _ (Kd.C_below HR0.out HB2.out) HC0.out (Kd.C_below HR1.out HB2.out) HC1.out (Kd.C_below HR2.out HB2.out) HC2.out HV.out).mono ?_; rintro e w3 ⟨rfl, hb⟩; have X3c := Aside0.mk (blk_below X3.out hb); have X4c := Aside0.mk (blk_below X4.out hb); have HB3 := Aside0.mk (below_step HB2.out hb); clear hb y0 y1 y2 z0 z1; have p0 := blk_cell' X3c.out 0 _ rfl; have p1 := blk_cell' X3c.out 1 _ rfl; have p2 := blk_cell' X3c.out 2 _ rfl; have q0 := blk_cell' X4c.out 0 _ rfl; have q1 := blk_cell' X4c.out 1 _ rfl)
   | (go_at_call 94; refine (cells_use_valid.calls x.f0.f0 x.f0.f1 x.f1 x.f2 a1_0 a1_1 false _ HX.out).mono ?_; rintro e w4 ⟨rfl, hb⟩; have X3e := Aside0.mk (blk_below X3c.out hb); have X4e := Aside0.mk (blk_below X4c.out hb); have HB4 := Aside0.mk (below_step HB3.out hb); clear hb p0 p1 p2 q0 q1))
  go_ret
  exact ⟨rfl, HB4.out⟩
 have HX := Aside0.mk ((v32_eq a1_0 a1_1 x).trans (congrArg some hx))
 cases hbu : busyB l0_0 l0_1 x.f0.f0
 ·have HBU := Aside0.mk hbu
  by_cases hf : 24 ≤ (l0_0.length : Int) + (l0_1.length : Int)
  ·obtain rfl : (10 : Int) = r := by rw [← HRR.out]; unfold refB; rw [if_neg (by rw [hv]; decide), if_neg (by rw [hx]; decide), if_neg (by rw [hbu]; decide), if_pos hf]
   have hd := decide_eq_true hf
   clear hf hv hx hbu HRR
   go_enter Try.func29, Try.ntmps29
   go_wp2_with (first
    | ((with_reducible refine gate_dst (N := 3) rfl ?_); refine bE (N := 3) (cs := #[.slice A0_0 l0_0.length c0_0, .slice A0_1 l0_1.length c0_1, .slice A0_2 l0_2.length c0_2]) (t := 26) ?_; intro g3 hg w1 hbox hb; have X3 := Aside0.mk hbox; have HB1 := Aside0.mk (below_step HB0.out hb); clear hb hbox hg)
    | ((with_reducible refine gate_dst (N := 4) rfl ?_); refine bE (N := 4) (cs := #[.int .i64 a1_0, .int .i64 a1_1]) (t := 28) ?_; intro g4 hg w2 hbox hb; have X4 := Aside0.mk hbox; have X3' := Aside0.mk (blk_below X3.out hb); clear X3; have X3 := X3'; clear X3'; have HB2 := Aside0.mk (below_step HB1.out hb); have y0 := blk_cell' X3.out 0 _ rfl; have y1 := blk_cell' X3.out 1 _ rfl; have y2 := blk_cell' X3.out 2 _ rfl; have z0 := blk_cell' X4.out 0 _ rfl; have z1 := blk_cell' X4.out 1 _ rfl; clear hb hbox hg)
    | (go_at_call 17; refine (cells_Valid.calls A0_0 c0_0 l0_0 A0_1 c0_1 l0_1 A0_2 c0_2 l0_2 a1_0 a1_1 true _ (Kd.C_below HR0.out HB2.out) HC0.out (Kd.C_below HR1.out HB2.out) HC1.out (Kd.C_below HR2.out HB2.out) HC2.out HV.out).mono ?_; rintro e w3 ⟨rfl, hb⟩; have X3c := Aside0.mk (blk_below X3.out hb); have X4c := Aside0.mk (blk_below X4.out hb); have HB3 := Aside0.mk (below_step HB2.out hb); clear hb y0 y1 y2 z0 z1; have p0 := blk_cell' X3c.out 0 _ rfl; have p1 := blk_cell' X3c.out 1 _ rfl; have p2 := blk_cell' X3c.out 2 _ rfl; have q0 := blk_cell' X4c.out 0 _ rfl; have q1 := blk_cell' X4c.out 1 _ rfl)
    | (go_at_call 94; refine (cells_use_valid.calls x.f0.f0 x.f0.f1 x.f1 x.f2 a1_0 a1_1 true _ HX.out).mono ?_; rintro e w4 ⟨rfl, hb⟩; have X3e := Aside0.mk (blk_below X3c.out hb); have X4e := Aside0.mk (blk_below X4c.out hb); have HB4 := Aside0.mk (below_step HB3.out hb); clear hb p0 p1 p2 q0 q1))
   have X3d := Aside0.mk (blk_drew X3e.out)
   have HBd := Aside0.mk (below_drew1 HB4.out)
   refine start_ (n := 6) (S := fun w' => w'.cell? ⟨g3, 0, none⟩ = some (.slice A0_0 l0_0.length c0_0) ∧ w'.cell? ⟨g3, 1, none⟩ = some (.slice A0_1 l0_1.length c0_1) ∧ w'.cell? ⟨g3, 2, none⟩ = some (.slice A0_2 l0_2.length c0_2)) (ds := []) #[false, false, false, false, false, false] (by kernel_rfl) rfl rfl ⟨blk_cell' X3d.out 0 _ rfl, blk_cell' X3d.out 1 _ rfl, blk_cell' X3d.out 2 _ rfl⟩ (fun hHeld => ?_)
   refine run_ [(1, some 20), (0, some 19)] ?_
   refine runP (v := ?_) (a' := ?_) rfl rfl (by kernel_rfl) (fun _ _ _ h => h) (Or.inl ⟨by rfl, ?_⟩) ?_ ?_; rotate_left; (· intro w'; go_simp; with_reducible rfl); rotate_left; (· simp only [Act.put, List.setIfInBounds_toArray, List.set_cons_zero, List.set_cons_succ, i64_w, i32_w]; rfl)
   refine runT (v := ?_) (a' := ?_) rfl rfl (by kernel_rfl) (fun _ _ _ h => h) (Or.inl ⟨by rfl, ?_⟩) hHeld ?_ ?_; rotate_left; (· rintro w' ⟨s0, s1, s2⟩; go_simp; with_reducible rfl); rotate_left; (· simp only [Act.put, List.setIfInBounds_toArray, List.set_cons_zero, List.set_cons_succ, i64_w, i32_w]; rfl)
   refine runE ?_
   refine one_ (i := 2) (N := some 21) #[true, true, true, false, false, false] rfl rfl (by kernel_rfl) (by decide) (fun K hK => ?_)
   refine call_ 93 #[.agg #[.int .i64 x.f0.f0, .int .i64 x.f0.f1, .int .i64 x.f1, .int .i64 x.f2]] (by rfl) rfl (by unfold execOp; simp [resolve, Deferred.ofValue, Act.eval, invc66]) ?_
   with_reducible refine (cells_use_cell.calls x.f0.f0 x.f0.f1 x.f1 x.f2 x.f0.f0 x.f0.f1 _ rfl).mono ?_
   rintro e wa ⟨rfl, hb⟩
   refine ⟨_, rfl, ?_⟩
   have X3a := Aside0.mk (blk_below X3d.out hb)
   have HBa := Aside0.mk (below_step HBd.out hb)
   clear hb
   refine hK.out _ _ ⟨blk_cell' X3a.out 0 _ rfl, blk_cell' X3a.out 1 _ rfl, blk_cell' X3a.out 2 _ rfl⟩ (fun hHeld => ?_)
   clear hK K
   refine norm_ (a' := ?_) ?_ ?_
   rotate_left
   ·show Act.put _ (some 21) _ = _
    simp only [Act.put, List.setIfInBounds_toArray, List.set_cons_zero, List.set_cons_succ, i64_w, i32_w]
    rfl
   refine run_ [(3, some 22)] ?_
   refine runP (v := ?_) (a' := ?_) rfl rfl (by kernel_rfl) (fun _ _ _ h => h) (Or.inl ⟨by rfl, ?_⟩) ?_ ?_; rotate_left; (· intro w'; go_simp; with_reducible rfl); rotate_left; (· simp only [Act.put, List.setIfInBounds_toArray, List.set_cons_zero, List.set_cons_succ, i64_w, i32_w]; rfl)
   refine runE ?_
   refine one_ (i := 4) (N := some 23) #[true, true, true, true, true, false] rfl rfl (by kernel_rfl) (by decide) (fun K hK => ?_)
   refine gO Try.func19 #[.agg #[.slice A0_0 l0_0.length c0_0, .slice A0_1 l0_1.length c0_1, .slice A0_2 l0_2.length c0_2], .int .i64 x.f0.f0] ?_
   have HK_ := cells_Busy.calls A0_0 c0_0 l0_0 A0_1 c0_1 l0_1 A0_2 c0_2 l0_2 x.f0.f0 (busyB l0_0 l0_1 x.f0.f0) _ (Kd.C_below HR0.out HBa.out) HC0.out (Kd.C_below HR1.out HBa.out) HC1.out (Kd.C_below HR2.out HBa.out) HC2.out rfl
   rw [HBU.out] at HK_
   with_reducible refine HK_.mono ?_
   clear HK_
   rintro e wb ⟨rfl, hb⟩
   refine ⟨_, rfl, ?_⟩
   have X3b := Aside0.mk (blk_below X3a.out hb)
   have HBb := Aside0.mk (below_step HBa.out hb)
   clear hb
   refine hK.out _ _ ⟨blk_cell' X3b.out 0 _ rfl, blk_cell' X3b.out 1 _ rfl, blk_cell' X3b.out 2 _ rfl⟩ (fun hHeld => ?_)
   clear hK K
   refine norm_ (a' := ?_) ?_ ?_
   rotate_left
   ·show Act.put _ (some 23) _ = _
    simp only [Act.put, List.setIfInBounds_toArray, List.set_cons_zero, List.set_cons_succ, i64_w, i32_w]
    rfl
   refine run_ [(5, some 18)] ?_
   refine runP (v := ?_) (a' := ?_) rfl rfl (by kernel_rfl) (fun _ _ _ h => h) (Or.inl ⟨by rfl, ?_⟩) ?_ ?_; rotate_left; (· intro w'; go_simp; with_reducible rfl); rotate_left; (· simp only [Act.put, List.setIfInBounds_toArray, List.set_cons_zero, List.set_cons_succ, i64_w, i32_w]; rfl)
   refine runE ?_
   refine done_ (by kernel_rfl) ?_
   have y0 := blk_cell' X3b.out 0 _ rfl
   have y1 := blk_cell' X3b.out 1 _ rfl
   have y2 := blk_cell' X3b.out 2 _ rfl
   go_wp2
   go_ret
   exact ⟨rfl, HBb.out⟩
  obtain rfl : (0 : Int) = r := by rw [← HRR.out]; unfold refB; rw [if_neg (by rw [hv]; decide), if_neg (by rw [hx]; decide), if_neg (by rw [hbu]; decide), if_neg hf]
  have hd := decide_eq_false hf
  clear hf hv hx hbu HRR
  go_enter Try.func29, Try.ntmps29
  go_wp2_with (first
   | ((with_reducible refine gate_dst (N := 3) rfl ?_); refine bE (N := 3) (cs := #[.slice A0_0 l0_0.length c0_0, .slice A0_1 l0_1.length c0_1, .slice A0_2 l0_2.length c0_2]) (t := 26) ?_; intro g3 hg w1 hbox hb; have X3 := Aside0.mk hbox; have HB1 := Aside0.mk (below_step HB0.out hb); clear hb hbox hg)
   | ((with_reducible refine gate_dst (N := 4) rfl ?_); refine bE (N := 4) (cs := #[.int .i64 a1_0, .int .i64 a1_1]) (t := 28) ?_; intro g4 hg w2 hbox hb; have X4 := Aside0.mk hbox; have X3' := Aside0.mk (blk_below X3.out hb); clear X3; have X3 := X3'; clear X3'; have HB2 := Aside0.mk (below_step HB1.out hb); have y0 := blk_cell' X3.out 0 _ rfl; have y1 := blk_cell' X3.out 1 _ rfl; have y2 := blk_cell' X3.out 2 _ rfl; have z0 := blk_cell' X4.out 0 _ rfl; have z1 := blk_cell' X4.out 1 _ rfl; clear hb hbox hg)
   | (go_at_call 17; refine (cells_Valid.calls A0_0 c0_0 l0_0 A0_1 c0_1 l0_1 A0_2 c0_2 l0_2 a1_0 a1_1 true _ (Kd.C_below HR0.out HB2.out) HC0.out (Kd.C_below HR1.out HB2.out) HC1.out (Kd.C_below HR2.out HB2.out) HC2.out HV.out).mono ?_; rintro e w3 ⟨rfl, hb⟩; have X3c := Aside0.mk (blk_below X3.out hb); have X4c := Aside0.mk (blk_below X4.out hb); have HB3 := Aside0.mk (below_step HB2.out hb); clear hb y0 y1 y2 z0 z1; have p0 := blk_cell' X3c.out 0 _ rfl; have p1 := blk_cell' X3c.out 1 _ rfl; have p2 := blk_cell' X3c.out 2 _ rfl; have q0 := blk_cell' X4c.out 0 _ rfl; have q1 := blk_cell' X4c.out 1 _ rfl)
   | (go_at_call 94; refine (cells_use_valid.calls x.f0.f0 x.f0.f1 x.f1 x.f2 a1_0 a1_1 true _ HX.out).mono ?_; rintro e w4 ⟨rfl, hb⟩; have X3e := Aside0.mk (blk_below X3c.out hb); have X4e := Aside0.mk (blk_below X4c.out hb); have HB4 := Aside0.mk (below_step HB3.out hb); clear hb p0 p1 p2 q0 q1))
  have X3d := Aside0.mk (blk_drew X3e.out)
  have HBd := Aside0.mk (below_drew1 HB4.out)
  refine start_ (n := 6) (S := fun w' => w'.cell? ⟨g3, 0, none⟩ = some (.slice A0_0 l0_0.length c0_0) ∧ w'.cell? ⟨g3, 1, none⟩ = some (.slice A0_1 l0_1.length c0_1) ∧ w'.cell? ⟨g3, 2, none⟩ = some (.slice A0_2 l0_2.length c0_2)) (ds := []) #[false, false, false, false, false, false] (by kernel_rfl) rfl rfl ⟨blk_cell' X3d.out 0 _ rfl, blk_cell' X3d.out 1 _ rfl, blk_cell' X3d.out 2 _ rfl⟩ (fun hHeld => ?_)
  refine run_ [(1, some 20), (0, some 19)] ?_
  refine runP (v := ?_) (a' := ?_) rfl rfl (by kernel_rfl) (fun _ _ _ h => h) (Or.inl ⟨by rfl, ?_⟩) ?_ ?_; rotate_left; (· intro w'; go_simp; with_reducible rfl); rotate_left; (· simp only [Act.put, List.setIfInBounds_toArray, List.set_cons_zero, List.set_cons_succ, i64_w, i32_w]; rfl)
  refine runT (v := ?_) (a' := ?_) rfl rfl (by kernel_rfl) (fun _ _ _ h => h) (Or.inl ⟨by rfl, ?_⟩) hHeld ?_ ?_; rotate_left; (· rintro w' ⟨s0, s1, s2⟩; go_simp; with_reducible rfl); rotate_left; (· simp only [Act.put, List.setIfInBounds_toArray, List.set_cons_zero, List.set_cons_succ, i64_w, i32_w]; rfl)
  refine runE ?_
  refine one_ (i := 2) (N := some 21) #[true, true, true, false, false, false] rfl rfl (by kernel_rfl) (by decide) (fun K hK => ?_)
  refine call_ 93 #[.agg #[.int .i64 x.f0.f0, .int .i64 x.f0.f1, .int .i64 x.f1, .int .i64 x.f2]] (by rfl) rfl (by unfold execOp; simp [resolve, Deferred.ofValue, Act.eval, invc66]) ?_
  with_reducible refine (cells_use_cell.calls x.f0.f0 x.f0.f1 x.f1 x.f2 x.f0.f0 x.f0.f1 _ rfl).mono ?_
  rintro e wa ⟨rfl, hb⟩
  refine ⟨_, rfl, ?_⟩
  have X3a := Aside0.mk (blk_below X3d.out hb)
  have HBa := Aside0.mk (below_step HBd.out hb)
  clear hb
  refine hK.out _ _ ⟨blk_cell' X3a.out 0 _ rfl, blk_cell' X3a.out 1 _ rfl, blk_cell' X3a.out 2 _ rfl⟩ (fun hHeld => ?_)
  clear hK K
  refine norm_ (a' := ?_) ?_ ?_
  rotate_left
  ·show Act.put _ (some 21) _ = _
   simp only [Act.put, List.setIfInBounds_toArray, List.set_cons_zero, List.set_cons_succ, i64_w, i32_w]
   rfl
  refine run_ [(3, some 22)] ?_
  refine runP (v := ?_) (a' := ?_) rfl rfl (by kernel_rfl) (fun _ _ _ h => h) (Or.inl ⟨by rfl, ?_⟩) ?_ ?_; rotate_left; (· intro w'; go_simp; with_reducible rfl); rotate_left; (· simp only [Act.put, List.setIfInBounds_toArray, List.set_cons_zero, List.set_cons_succ, i64_w, i32_w]; rfl)
  refine runE ?_
  refine one_ (i := 4) (N := some 23) #[true, true, true, true, true, false] rfl rfl (by kernel_rfl) (by decide) (fun K hK => ?_)
  refine gO Try.func19 #[.agg #[.slice A0_0 l0_0.length c0_0, .slice A0_1 l0_1.length c0_1, .slice A0_2 l0_2.length c0_2], .int .i64 x.f0.f0] ?_
  have HK_ := cells_Busy.calls A0_0 c0_0 l0_0 A0_1 c0_1 l0_1 A0_2 c0_2 l0_2 x.f0.f0 (busyB l0_0 l0_1 x.f0.f0) _ (Kd.C_below HR0.out HBa.out) HC0.out (Kd.C_below HR1.out HBa.out) HC1.out (Kd.C_below HR2.out HBa.out) HC2.out rfl
  rw [HBU.out] at HK_
  with_reducible refine HK_.mono ?_
  clear HK_
  rintro e wb ⟨rfl, hb⟩
  refine ⟨_, rfl, ?_⟩
  have X3b := Aside0.mk (blk_below X3a.out hb)
  have HBb := Aside0.mk (below_step HBa.out hb)
  clear hb
  refine hK.out _ _ ⟨blk_cell' X3b.out 0 _ rfl, blk_cell' X3b.out 1 _ rfl, blk_cell' X3b.out 2 _ rfl⟩ (fun hHeld => ?_)
  clear hK K
  refine norm_ (a' := ?_) ?_ ?_
  rotate_left
  ·show Act.put _ (some 23) _ = _
   simp only [Act.put, List.setIfInBounds_toArray, List.set_cons_zero, List.set_cons_succ, i64_w, i32_w]
   rfl
  refine run_ [(5, some 18)] ?_
  refine runP (v := ?_) (a' := ?_) rfl rfl (by kernel_rfl) (fun _ _ _ h => h) (Or.inl ⟨by rfl, ?_⟩) ?_ ?_; rotate_left; (· intro w'; go_simp; with_reducible rfl); rotate_left; (· simp only [Act.put, List.setIfInBounds_toArray, List.set_cons_zero, List.set_cons_succ, i64_w, i32_w]; rfl)
  refine runE ?_
  refine done_ (by kernel_rfl) ?_
  have y0 := blk_cell' X3b.out 0 _ rfl
  have y1 := blk_cell' X3b.out 1 _ rfl
  have y2 := blk_cell' X3b.out 2 _ rfl
  go_wp2
  go_ret
  exact ⟨rfl, HBb.out⟩
 have HBU := Aside0.mk hbu
 obtain rfl : (5 : Int) = r := by rw [← HRR.out]; unfold refB; rw [if_neg (by rw [hv]; decide), if_neg (by rw [hx]; decide), if_pos hbu]
 clear hv hx hbu HRR
 go_enter Try.func29, Try.ntmps29
 go_wp2_with (first
  | ((with_reducible refine gate_dst (N := 3) rfl ?_); refine bE (N := 3) (cs := #[.slice A0_0 l0_0.length c0_0, .slice A0_1 l0_1.length c0_1, .slice A0_2 l0_2.length c0_2]) (t := 26) ?_; intro g3 hg w1 hbox hb; have X3 := Aside0.mk hbox; have HB1 := Aside0.mk (below_step HB0.out hb); clear hb hbox hg)
  | ((with_reducible refine gate_dst (N := 4) rfl ?_); refine bE (N := 4) (cs := #[.int .i64 a1_0, .int .i64 a1_1]) (t := 28) ?_; intro g4 hg w2 hbox hb; have X4 := Aside0.mk hbox; have X3' := Aside0.mk (blk_below X3.out hb); clear X3; have X3 := X3'; clear X3'; have HB2 := Aside0.mk (below_step HB1.out hb); have y0 := blk_cell' X3.out 0 _ rfl; have y1 := blk_cell' X3.out 1 _ rfl; have y2 := blk_cell' X3.out 2 _ rfl; have z0 := blk_cell' X4.out 0 _ rfl; have z1 := blk_cell' X4.out 1 _ rfl; clear hb hbox hg)
  | (go_at_call 17; refine (cells_Valid.calls A0_0 c0_0 l0_0 A0_1 c0_1 l0_1 A0_2 c0_2 l0_2 a1_0 a1_1 true _ (Kd.C_below HR0.out HB2.out) HC0.out (Kd.C_below HR1.out HB2.out) HC1.out (Kd.C_below HR2.out HB2.out) HC2.out HV.out).mono ?_; rintro e w3 ⟨rfl, hb⟩; have X3c := Aside0.mk (blk_below X3.out hb); have X4c := Aside0.mk (blk_below X4.out hb); have HB3 := Aside0.mk (below_step HB2.out hb); clear hb y0 y1 y2 z0 z1; have p0 := blk_cell' X3c.out 0 _ rfl; have p1 := blk_cell' X3c.out 1 _ rfl; have p2 := blk_cell' X3c.out 2 _ rfl; have q0 := blk_cell' X4c.out 0 _ rfl; have q1 := blk_cell' X4c.out 1 _ rfl)
  | (go_at_call 94; refine (cells_use_valid.calls x.f0.f0 x.f0.f1 x.f1 x.f2 a1_0 a1_1 true _ HX.out).mono ?_; rintro e w4 ⟨rfl, hb⟩; have X3e := Aside0.mk (blk_below X3c.out hb); have X4e := Aside0.mk (blk_below X4c.out hb); have HB4 := Aside0.mk (below_step HB3.out hb); clear hb p0 p1 p2 q0 q1))
 have X3d := Aside0.mk (blk_drew X3e.out)
 have HBd := Aside0.mk (below_drew1 HB4.out)
 refine start_ (n := 6) (S := fun w' => w'.cell? ⟨g3, 0, none⟩ = some (.slice A0_0 l0_0.length c0_0) ∧ w'.cell? ⟨g3, 1, none⟩ = some (.slice A0_1 l0_1.length c0_1) ∧ w'.cell? ⟨g3, 2, none⟩ = some (.slice A0_2 l0_2.length c0_2)) (ds := []) #[false, false, false, false, false, false] (by kernel_rfl) rfl rfl ⟨blk_cell' X3d.out 0 _ rfl, blk_cell' X3d.out 1 _ rfl, blk_cell' X3d.out 2 _ rfl⟩ (fun hHeld => ?_)
 refine run_ [(1, some 20), (0, some 19)] ?_
 refine runP (v := ?_) (a' := ?_) rfl rfl (by kernel_rfl) (fun _ _ _ h => h) (Or.inl ⟨by rfl, ?_⟩) ?_ ?_; rotate_left; (· intro w'; go_simp; with_reducible rfl); rotate_left; (· simp only [Act.put, List.setIfInBounds_toArray, List.set_cons_zero, List.set_cons_succ, i64_w, i32_w]; rfl)
 refine runT (v := ?_) (a' := ?_) rfl rfl (by kernel_rfl) (fun _ _ _ h => h) (Or.inl ⟨by rfl, ?_⟩) hHeld ?_ ?_; rotate_left; (· rintro w' ⟨s0, s1, s2⟩; go_simp; with_reducible rfl); rotate_left; (· simp only [Act.put, List.setIfInBounds_toArray, List.set_cons_zero, List.set_cons_succ, i64_w, i32_w]; rfl)
 refine runE ?_
 refine one_ (i := 2) (N := some 21) #[true, true, true, false, false, false] rfl rfl (by kernel_rfl) (by decide) (fun K hK => ?_)
 refine call_ 93 #[.agg #[.int .i64 x.f0.f0, .int .i64 x.f0.f1, .int .i64 x.f1, .int .i64 x.f2]] (by rfl) rfl (by unfold execOp; simp [resolve, Deferred.ofValue, Act.eval, invc66]) ?_
 with_reducible refine (cells_use_cell.calls x.f0.f0 x.f0.f1 x.f1 x.f2 x.f0.f0 x.f0.f1 _ rfl).mono ?_
 rintro e wa ⟨rfl, hb⟩
 refine ⟨_, rfl, ?_⟩
 have X3a := Aside0.mk (blk_below X3d.out hb)
 have HBa := Aside0.mk (below_step HBd.out hb)
 clear hb
 refine hK.out _ _ ⟨blk_cell' X3a.out 0 _ rfl, blk_cell' X3a.out 1 _ rfl, blk_cell' X3a.out 2 _ rfl⟩ (fun hHeld => ?_)
 clear hK K
 refine norm_ (a' := ?_) ?_ ?_
 rotate_left
 ·show Act.put _ (some 21) _ = _
  simp only [Act.put, List.setIfInBounds_toArray, List.set_cons_zero, List.set_cons_succ, i64_w, i32_w]
  rfl
 refine run_ [(3, some 22)] ?_
 refine runP (v := ?_) (a' := ?_) rfl rfl (by kernel_rfl) (fun _ _ _ h => h) (Or.inl ⟨by rfl, ?_⟩) ?_ ?_; rotate_left; (· intro w'; go_simp; with_reducible rfl); rotate_left; (· simp only [Act.put, List.setIfInBounds_toArray, List.set_cons_zero, List.set_cons_succ, i64_w, i32_w]; rfl)
 refine runE ?_
 refine one_ (i := 4) (N := some 23) #[true, true, true, true, true, false] rfl rfl (by kernel_rfl) (by decide) (fun K hK => ?_)
 refine gO Try.func19 #[.agg #[.slice A0_0 l0_0.length c0_0, .slice A0_1 l0_1.length c0_1, .slice A0_2 l0_2.length c0_2], .int .i64 x.f0.f0] ?_
 have HK_ := cells_Busy.calls A0_0 c0_0 l0_0 A0_1 c0_1 l0_1 A0_2 c0_2 l0_2 x.f0.f0 (busyB l0_0 l0_1 x.f0.f0) _ (Kd.C_below HR0.out HBa.out) HC0.out (Kd.C_below HR1.out HBa.out) HC1.out (Kd.C_below HR2.out HBa.out) HC2.out rfl
 rw [HBU.out] at HK_
 with_reducible refine HK_.mono ?_
 clear HK_
 rintro e wb ⟨rfl, hb⟩
 refine ⟨_, rfl, ?_⟩
 have X3b := Aside0.mk (blk_below X3a.out hb)
 have HBb := Aside0.mk (below_step HBa.out hb)
 clear hb
 refine hK.out _ _ ⟨blk_cell' X3b.out 0 _ rfl, blk_cell' X3b.out 1 _ rfl, blk_cell' X3b.out 2 _ rfl⟩ (fun hHeld => ?_)
 clear hK K
 refine norm_ (a' := ?_) ?_ ?_
 rotate_left
 ·show Act.put _ (some 23) _ = _
  simp only [Act.put, List.setIfInBounds_toArray, List.set_cons_zero, List.set_cons_succ, i64_w, i32_w]
  rfl
 refine run_ [(5, some 18)] ?_
 refine runP (v := ?_) (a' := ?_) rfl rfl (by kernel_rfl) (fun _ _ _ h => h) (Or.inl ⟨by rfl, ?_⟩) ?_ ?_; rotate_left; (· intro w'; go_simp; with_reducible rfl); rotate_left; (· simp only [Act.put, List.setIfInBounds_toArray, List.set_cons_zero, List.set_cons_succ, i64_w, i32_w]; rfl)
 refine runE ?_
 refine done_ (by kernel_rfl) ?_
 go_wp2
 go_ret
 exact ⟨rfl, HBb.out⟩
set_option maxHeartbeats 8000000 in
set_option maxRecDepth 100000 in
theorem refused34.calls (A0_0 : Option Addr) (c0_0 : Nat) (l0_0 : List (S32)) (A0_1 : Option Addr) (c0_1 : Nat) (l0_1 : List (S34)) (A0_2 : Option Addr) (c0_2 : Nat) (l0_2 : List (S51)) (a1_0 : Int) (a1_1 : Int) (x : S34) (r : Int) (w : World) (hr0_0 : Kd.C k32 w A0_0 l0_0.length l0_0) (hc0_0 : l0_0.length ≤ c0_0) (hr0_1 : Kd.C k34 w A0_1 l0_1.length l0_1) (hc0_1 : l0_1.length ≤ c0_1) (hr0_2 : Kd.C k51 w A0_2 l0_2.length l0_2) (hc0_2 : l0_2.length ≤ c0_2) (hsz : l0_0.length < 3518437208883 ∧ l0_1.length < 3518437208883 ∧ l0_2.length < 3518437208883) (h : refB l0_0 l0_1 l0_2 a1_0 a1_1 (v34 a1_0 a1_1 x) x.f0.f0 = r) :
  Calls Try.prog 29 #[.agg #[.slice A0_0 l0_0.length c0_0, .slice A0_1 l0_1.length c0_1, .slice A0_2 l0_2.length c0_2], .agg #[.int .i64 a1_0, .int .i64 a1_1], .iface 73 (.agg #[.int .i64 x.f0.f0, .int .i64 x.f0.f1, .int .i64 x.f1, .int .i64 x.f2, .int .i64 x.f3])] w fun e w' => e = .returned (.int .i64 r) ∧ Below w.heap.size w w' := by
 have hu1 := Try.underlying73
 have hu2 := Try.underlying30
 have hu3 := Try.underlying28
 have hu4 := Try.underlying26
 have hiv := mthv73
 have hic := mthc73
 have hfd : ∀ w : World, (Instr.field 30 (.agg #[.int .i64 x.f0.f0, .int .i64 x.f0.f1]) 0).run Try.prog w = .ok (.int .i64 x.f0.f0) w := fun _ => by kernel_rfl
 have HRR := Aside0.mk h
 have HLL : l0_0.length < 3518437208883 ∧ l0_1.length < 3518437208883 ∧ l0_2.length < 3518437208883 := hsz
 have HR0 := Aside0.mk hr0_0
 have HR1 := Aside0.mk hr0_1
 have HR2 := Aside0.mk hr0_2
 have HC0 := Aside0.mk hc0_0
 have HC1 := Aside0.mk hc0_1
 have HC2 := Aside0.mk hc0_2
 have HSZ := Aside0.mk hsz
 have HB0 := Aside0.mk (Below.refl w.heap.size w)
 obtain ⟨hb0, hb1, hb2⟩ := HLL
 clear hr0_0 hr0_1 hr0_2 hc0_0 hc0_1 hc0_2 hsz h
 cases hv : validB l0_0 l0_1 l0_2 a1_0 a1_1
 ·obtain rfl : (1 : Int) = r := by rw [← HRR.out]; unfold refB; rw [if_pos hv]
  have HV : Aside0 (cells_Valid.f l0_0 l0_1 l0_2 a1_0 a1_1 = some false) := ⟨by unfold cells_Valid.f; rw [if_pos HSZ.out, hv]⟩
  clear hv HRR
  go_enter Try.func29, Try.ntmps29
  go_wp2_with (first
   | ((with_reducible refine gate_dst (N := 3) rfl ?_); refine bE (N := 3) (cs := #[.slice A0_0 l0_0.length c0_0, .slice A0_1 l0_1.length c0_1, .slice A0_2 l0_2.length c0_2]) (t := 26) ?_; intro g3 hg w1 hbox hb; have X3 := Aside0.mk hbox; have HB1 := Aside0.mk (below_step HB0.out hb); clear hb hbox hg)
   | ((with_reducible refine gate_dst (N := 4) rfl ?_); refine bE (N := 4) (cs := #[.int .i64 a1_0, .int .i64 a1_1]) (t := 28) ?_; intro g4 hg w2 hbox hb; have X4 := Aside0.mk hbox; have X3' := Aside0.mk (blk_below X3.out hb); clear X3; have X3 := X3'; clear X3'; have HB2 := Aside0.mk (below_step HB1.out hb); have y0 := blk_cell' X3.out 0 _ rfl; have y1 := blk_cell' X3.out 1 _ rfl; have y2 := blk_cell' X3.out 2 _ rfl; have z0 := blk_cell' X4.out 0 _ rfl; have z1 := blk_cell' X4.out 1 _ rfl; clear hb hbox hg)
   | (go_at_call 17; refine (cells_Valid.calls A0_0 c0_0 l0_0 A0_1 c0_1 l0_1 A0_2 c0_2 l0_2 a1_0 a1_1 false _ (Kd.C_below HR0.out HB2.out) HC0.out (Kd.C_below HR1.out HB2.out) HC1.out (Kd.C_below HR2.out HB2.out) HC2.out HV.out).mono ?_; rintro e w3 ⟨rfl, hb⟩; have X3c := Aside0.mk (blk_below X3.out hb); have X4c := Aside0.mk (blk_below X4.out hb); have HB3 := Aside0.mk (below_step HB2.out hb); clear hb y0 y1 y2 z0 z1; have p0 := blk_cell' X3c.out 0 _ rfl; have p1 := blk_cell' X3c.out 1 _ rfl; have p2 := blk_cell' X3c.out 2 _ rfl; have q0 := blk_cell' X4c.out 0 _ rfl; have q1 := blk_cell' X4c.out 1 _ rfl))
  go_ret
  exact ⟨rfl, HB3.out⟩
 have HV : Aside0 (cells_Valid.f l0_0 l0_1 l0_2 a1_0 a1_1 = some true) := ⟨by unfold cells_Valid.f; rw [if_pos HSZ.out, hv]⟩
 cases hx : v34 a1_0 a1_1 x
 ·obtain rfl : (1 : Int) = r := by rw [← HRR.out]; unfold refB; rw [if_neg (by rw [hv]; decide), if_pos hx]
  have HX := Aside0.mk ((v34_eq a1_0 a1_1 x).trans (congrArg some hx))
  clear hv hx HRR
  go_enter Try.func29, Try.ntmps29
  go_wp2_with (first
   | ((with_reducible refine gate_dst (N := 3) rfl ?_); refine bE (N := 3) (cs := #[.slice A0_0 l0_0.length c0_0, .slice A0_1 l0_1.length c0_1, .slice A0_2 l0_2.length c0_2]) (t := 26) ?_; intro g3 hg w1 hbox hb; have X3 := Aside0.mk hbox; have HB1 := Aside0.mk (below_step HB0.out hb); clear hb hbox hg)
   | ((with_reducible refine gate_dst (N := 4) rfl ?_); refine bE (N := 4) (cs := #[.int .i64 a1_0, .int .i64 a1_1]) (t := 28) ?_; intro g4 hg w2 hbox hb; have X4 := Aside0.mk hbox; have X3' := Aside0.mk (blk_below X3.out hb); clear X3; have X3 := X3'; clear X3'; have HB2 := Aside0.mk (below_step HB1.out hb); have y0 := blk_cell' X3.out 0 _ rfl; have y1 := blk_cell' X3.out 1 _ rfl; have y2 := blk_cell' X3.out 2 _ rfl; have z0 := blk_cell' X4.out 0 _ rfl; have z1 := blk_cell' X4.out 1 _ rfl; clear hb hbox hg)
   | (go_at_call 17; refine (cells_Valid.calls A0_0 c0_0 l0_0 A0_1 c0_1 l0_1 A0_2 c0_2 l0_2 a1_0 a1_1 true _ (Kd.C_below HR0.out HB2.out) HC0.out (Kd.C_below HR1.out HB2.out) HC1.out (Kd.C_below HR2.out HB2.out) HC2.out HV.out).mono ?_; rintro e w3 ⟨rfl, hb⟩; have X3c := Aside0.mk (blk_below X3.out hb); have X4c := Aside0.mk (blk_below X4.out hb); have HB3 := Aside0.mk (below_step HB2.out hb); clear hb y0 y1 y2 z0 z1; have p0 := blk_cell' X3c.out 0 _ rfl; have p1 := blk_cell' X3c.out 1 _ rfl; have p2 := blk_cell' X3c.out 2 _ rfl; have q0 := blk_cell' X4c.out 0 _ rfl; have q1 := blk_cell' X4c.out 1 _ rfl)
   | (go_at_call 97; refine (cells_grant_valid.calls x.f0.f0 x.f0.f1 x.f1 x.f2 x.f3 a1_0 a1_1 false _ HX.out).mono ?_; rintro e w4 ⟨rfl, hb⟩; have X3e := Aside0.mk (blk_below X3c.out hb); have X4e := Aside0.mk (blk_below X4c.out hb); have HB4 := Aside0.mk (below_step HB3.out hb); clear hb p0 p1 p2 q0 q1))
  go_ret
  exact ⟨rfl, HB4.out⟩
 have HX := Aside0.mk ((v34_eq a1_0 a1_1 x).trans (congrArg some hx))
 cases hbu : busyB l0_0 l0_1 x.f0.f0
 ·have HBU := Aside0.mk hbu
  by_cases hf : 24 ≤ (l0_0.length : Int) + (l0_1.length : Int)
  ·obtain rfl : (10 : Int) = r := by rw [← HRR.out]; unfold refB; rw [if_neg (by rw [hv]; decide), if_neg (by rw [hx]; decide), if_neg (by rw [hbu]; decide), if_pos hf]
   have hd := decide_eq_true hf
   clear hf hv hx hbu HRR
   go_enter Try.func29, Try.ntmps29
   go_wp2_with (first
    | ((with_reducible refine gate_dst (N := 3) rfl ?_); refine bE (N := 3) (cs := #[.slice A0_0 l0_0.length c0_0, .slice A0_1 l0_1.length c0_1, .slice A0_2 l0_2.length c0_2]) (t := 26) ?_; intro g3 hg w1 hbox hb; have X3 := Aside0.mk hbox; have HB1 := Aside0.mk (below_step HB0.out hb); clear hb hbox hg)
    | ((with_reducible refine gate_dst (N := 4) rfl ?_); refine bE (N := 4) (cs := #[.int .i64 a1_0, .int .i64 a1_1]) (t := 28) ?_; intro g4 hg w2 hbox hb; have X4 := Aside0.mk hbox; have X3' := Aside0.mk (blk_below X3.out hb); clear X3; have X3 := X3'; clear X3'; have HB2 := Aside0.mk (below_step HB1.out hb); have y0 := blk_cell' X3.out 0 _ rfl; have y1 := blk_cell' X3.out 1 _ rfl; have y2 := blk_cell' X3.out 2 _ rfl; have z0 := blk_cell' X4.out 0 _ rfl; have z1 := blk_cell' X4.out 1 _ rfl; clear hb hbox hg)
    | (go_at_call 17; refine (cells_Valid.calls A0_0 c0_0 l0_0 A0_1 c0_1 l0_1 A0_2 c0_2 l0_2 a1_0 a1_1 true _ (Kd.C_below HR0.out HB2.out) HC0.out (Kd.C_below HR1.out HB2.out) HC1.out (Kd.C_below HR2.out HB2.out) HC2.out HV.out).mono ?_; rintro e w3 ⟨rfl, hb⟩; have X3c := Aside0.mk (blk_below X3.out hb); have X4c := Aside0.mk (blk_below X4.out hb); have HB3 := Aside0.mk (below_step HB2.out hb); clear hb y0 y1 y2 z0 z1; have p0 := blk_cell' X3c.out 0 _ rfl; have p1 := blk_cell' X3c.out 1 _ rfl; have p2 := blk_cell' X3c.out 2 _ rfl; have q0 := blk_cell' X4c.out 0 _ rfl; have q1 := blk_cell' X4c.out 1 _ rfl)
    | (go_at_call 97; refine (cells_grant_valid.calls x.f0.f0 x.f0.f1 x.f1 x.f2 x.f3 a1_0 a1_1 true _ HX.out).mono ?_; rintro e w4 ⟨rfl, hb⟩; have X3e := Aside0.mk (blk_below X3c.out hb); have X4e := Aside0.mk (blk_below X4c.out hb); have HB4 := Aside0.mk (below_step HB3.out hb); clear hb p0 p1 p2 q0 q1))
   have X3d := Aside0.mk (blk_drew X3e.out)
   have HBd := Aside0.mk (below_drew1 HB4.out)
   refine start_ (n := 6) (S := fun w' => w'.cell? ⟨g3, 0, none⟩ = some (.slice A0_0 l0_0.length c0_0) ∧ w'.cell? ⟨g3, 1, none⟩ = some (.slice A0_1 l0_1.length c0_1) ∧ w'.cell? ⟨g3, 2, none⟩ = some (.slice A0_2 l0_2.length c0_2)) (ds := []) #[false, false, false, false, false, false] (by kernel_rfl) rfl rfl ⟨blk_cell' X3d.out 0 _ rfl, blk_cell' X3d.out 1 _ rfl, blk_cell' X3d.out 2 _ rfl⟩ (fun hHeld => ?_)
   refine run_ [(1, some 20), (0, some 19)] ?_
   refine runP (v := ?_) (a' := ?_) rfl rfl (by kernel_rfl) (fun _ _ _ h => h) (Or.inl ⟨by rfl, ?_⟩) ?_ ?_; rotate_left; (· intro w'; go_simp; with_reducible rfl); rotate_left; (· simp only [Act.put, List.setIfInBounds_toArray, List.set_cons_zero, List.set_cons_succ, i64_w, i32_w]; rfl)
   refine runT (v := ?_) (a' := ?_) rfl rfl (by kernel_rfl) (fun _ _ _ h => h) (Or.inl ⟨by rfl, ?_⟩) hHeld ?_ ?_; rotate_left; (· rintro w' ⟨s0, s1, s2⟩; go_simp; with_reducible rfl); rotate_left; (· simp only [Act.put, List.setIfInBounds_toArray, List.set_cons_zero, List.set_cons_succ, i64_w, i32_w]; rfl)
   refine runE ?_
   refine one_ (i := 2) (N := some 21) #[true, true, true, false, false, false] rfl rfl (by kernel_rfl) (by decide) (fun K hK => ?_)
   refine call_ 96 #[.agg #[.int .i64 x.f0.f0, .int .i64 x.f0.f1, .int .i64 x.f1, .int .i64 x.f2, .int .i64 x.f3]] (by rfl) rfl (by unfold execOp; simp [resolve, Deferred.ofValue, Act.eval, invc73]) ?_
   with_reducible refine (cells_grant_cell.calls x.f0.f0 x.f0.f1 x.f1 x.f2 x.f3 x.f0.f0 x.f0.f1 _ rfl).mono ?_
   rintro e wa ⟨rfl, hb⟩
   refine ⟨_, rfl, ?_⟩
   have X3a := Aside0.mk (blk_below X3d.out hb)
   have HBa := Aside0.mk (below_step HBd.out hb)
   clear hb
   refine hK.out _ _ ⟨blk_cell' X3a.out 0 _ rfl, blk_cell' X3a.out 1 _ rfl, blk_cell' X3a.out 2 _ rfl⟩ (fun hHeld => ?_)
   clear hK K
   refine norm_ (a' := ?_) ?_ ?_
   rotate_left
   ·show Act.put _ (some 21) _ = _
    simp only [Act.put, List.setIfInBounds_toArray, List.set_cons_zero, List.set_cons_succ, i64_w, i32_w]
    rfl
   refine run_ [(3, some 22)] ?_
   refine runP (v := ?_) (a' := ?_) rfl rfl (by kernel_rfl) (fun _ _ _ h => h) (Or.inl ⟨by rfl, ?_⟩) ?_ ?_; rotate_left; (· intro w'; go_simp; with_reducible rfl); rotate_left; (· simp only [Act.put, List.setIfInBounds_toArray, List.set_cons_zero, List.set_cons_succ, i64_w, i32_w]; rfl)
   refine runE ?_
   refine one_ (i := 4) (N := some 23) #[true, true, true, true, true, false] rfl rfl (by kernel_rfl) (by decide) (fun K hK => ?_)
   refine gO Try.func19 #[.agg #[.slice A0_0 l0_0.length c0_0, .slice A0_1 l0_1.length c0_1, .slice A0_2 l0_2.length c0_2], .int .i64 x.f0.f0] ?_
   have HK_ := cells_Busy.calls A0_0 c0_0 l0_0 A0_1 c0_1 l0_1 A0_2 c0_2 l0_2 x.f0.f0 (busyB l0_0 l0_1 x.f0.f0) _ (Kd.C_below HR0.out HBa.out) HC0.out (Kd.C_below HR1.out HBa.out) HC1.out (Kd.C_below HR2.out HBa.out) HC2.out rfl
   rw [HBU.out] at HK_
   with_reducible refine HK_.mono ?_
   clear HK_
   rintro e wb ⟨rfl, hb⟩
   refine ⟨_, rfl, ?_⟩
   have X3b := Aside0.mk (blk_below X3a.out hb)
   have HBb := Aside0.mk (below_step HBa.out hb)
   clear hb
   refine hK.out _ _ ⟨blk_cell' X3b.out 0 _ rfl, blk_cell' X3b.out 1 _ rfl, blk_cell' X3b.out 2 _ rfl⟩ (fun hHeld => ?_)
   clear hK K
   refine norm_ (a' := ?_) ?_ ?_
   rotate_left
   ·show Act.put _ (some 23) _ = _
    simp only [Act.put, List.setIfInBounds_toArray, List.set_cons_zero, List.set_cons_succ, i64_w, i32_w]
    rfl
   refine run_ [(5, some 18)] ?_
   refine runP (v := ?_) (a' := ?_) rfl rfl (by kernel_rfl) (fun _ _ _ h => h) (Or.inl ⟨by rfl, ?_⟩) ?_ ?_; rotate_left; (· intro w'; go_simp; with_reducible rfl); rotate_left; (· simp only [Act.put, List.setIfInBounds_toArray, List.set_cons_zero, List.set_cons_succ, i64_w, i32_w]; rfl)
   refine runE ?_
   refine done_ (by kernel_rfl) ?_
   have y0 := blk_cell' X3b.out 0 _ rfl
   have y1 := blk_cell' X3b.out 1 _ rfl
   have y2 := blk_cell' X3b.out 2 _ rfl
   go_wp2
   go_ret
   exact ⟨rfl, HBb.out⟩
  obtain rfl : (0 : Int) = r := by rw [← HRR.out]; unfold refB; rw [if_neg (by rw [hv]; decide), if_neg (by rw [hx]; decide), if_neg (by rw [hbu]; decide), if_neg hf]
  have hd := decide_eq_false hf
  clear hf hv hx hbu HRR
  go_enter Try.func29, Try.ntmps29
  go_wp2_with (first
   | ((with_reducible refine gate_dst (N := 3) rfl ?_); refine bE (N := 3) (cs := #[.slice A0_0 l0_0.length c0_0, .slice A0_1 l0_1.length c0_1, .slice A0_2 l0_2.length c0_2]) (t := 26) ?_; intro g3 hg w1 hbox hb; have X3 := Aside0.mk hbox; have HB1 := Aside0.mk (below_step HB0.out hb); clear hb hbox hg)
   | ((with_reducible refine gate_dst (N := 4) rfl ?_); refine bE (N := 4) (cs := #[.int .i64 a1_0, .int .i64 a1_1]) (t := 28) ?_; intro g4 hg w2 hbox hb; have X4 := Aside0.mk hbox; have X3' := Aside0.mk (blk_below X3.out hb); clear X3; have X3 := X3'; clear X3'; have HB2 := Aside0.mk (below_step HB1.out hb); have y0 := blk_cell' X3.out 0 _ rfl; have y1 := blk_cell' X3.out 1 _ rfl; have y2 := blk_cell' X3.out 2 _ rfl; have z0 := blk_cell' X4.out 0 _ rfl; have z1 := blk_cell' X4.out 1 _ rfl; clear hb hbox hg)
   | (go_at_call 17; refine (cells_Valid.calls A0_0 c0_0 l0_0 A0_1 c0_1 l0_1 A0_2 c0_2 l0_2 a1_0 a1_1 true _ (Kd.C_below HR0.out HB2.out) HC0.out (Kd.C_below HR1.out HB2.out) HC1.out (Kd.C_below HR2.out HB2.out) HC2.out HV.out).mono ?_; rintro e w3 ⟨rfl, hb⟩; have X3c := Aside0.mk (blk_below X3.out hb); have X4c := Aside0.mk (blk_below X4.out hb); have HB3 := Aside0.mk (below_step HB2.out hb); clear hb y0 y1 y2 z0 z1; have p0 := blk_cell' X3c.out 0 _ rfl; have p1 := blk_cell' X3c.out 1 _ rfl; have p2 := blk_cell' X3c.out 2 _ rfl; have q0 := blk_cell' X4c.out 0 _ rfl; have q1 := blk_cell' X4c.out 1 _ rfl)
   | (go_at_call 97; refine (cells_grant_valid.calls x.f0.f0 x.f0.f1 x.f1 x.f2 x.f3 a1_0 a1_1 true _ HX.out).mono ?_; rintro e w4 ⟨rfl, hb⟩; have X3e := Aside0.mk (blk_below X3c.out hb); have X4e := Aside0.mk (blk_below X4c.out hb); have HB4 := Aside0.mk (below_step HB3.out hb); clear hb p0 p1 p2 q0 q1))
  have X3d := Aside0.mk (blk_drew X3e.out)
  have HBd := Aside0.mk (below_drew1 HB4.out)
  refine start_ (n := 6) (S := fun w' => w'.cell? ⟨g3, 0, none⟩ = some (.slice A0_0 l0_0.length c0_0) ∧ w'.cell? ⟨g3, 1, none⟩ = some (.slice A0_1 l0_1.length c0_1) ∧ w'.cell? ⟨g3, 2, none⟩ = some (.slice A0_2 l0_2.length c0_2)) (ds := []) #[false, false, false, false, false, false] (by kernel_rfl) rfl rfl ⟨blk_cell' X3d.out 0 _ rfl, blk_cell' X3d.out 1 _ rfl, blk_cell' X3d.out 2 _ rfl⟩ (fun hHeld => ?_)
  refine run_ [(1, some 20), (0, some 19)] ?_
  refine runP (v := ?_) (a' := ?_) rfl rfl (by kernel_rfl) (fun _ _ _ h => h) (Or.inl ⟨by rfl, ?_⟩) ?_ ?_; rotate_left; (· intro w'; go_simp; with_reducible rfl); rotate_left; (· simp only [Act.put, List.setIfInBounds_toArray, List.set_cons_zero, List.set_cons_succ, i64_w, i32_w]; rfl)
  refine runT (v := ?_) (a' := ?_) rfl rfl (by kernel_rfl) (fun _ _ _ h => h) (Or.inl ⟨by rfl, ?_⟩) hHeld ?_ ?_; rotate_left; (· rintro w' ⟨s0, s1, s2⟩; go_simp; with_reducible rfl); rotate_left; (· simp only [Act.put, List.setIfInBounds_toArray, List.set_cons_zero, List.set_cons_succ, i64_w, i32_w]; rfl)
  refine runE ?_
  refine one_ (i := 2) (N := some 21) #[true, true, true, false, false, false] rfl rfl (by kernel_rfl) (by decide) (fun K hK => ?_)
  refine call_ 96 #[.agg #[.int .i64 x.f0.f0, .int .i64 x.f0.f1, .int .i64 x.f1, .int .i64 x.f2, .int .i64 x.f3]] (by rfl) rfl (by unfold execOp; simp [resolve, Deferred.ofValue, Act.eval, invc73]) ?_
  with_reducible refine (cells_grant_cell.calls x.f0.f0 x.f0.f1 x.f1 x.f2 x.f3 x.f0.f0 x.f0.f1 _ rfl).mono ?_
  rintro e wa ⟨rfl, hb⟩
  refine ⟨_, rfl, ?_⟩
  have X3a := Aside0.mk (blk_below X3d.out hb)
  have HBa := Aside0.mk (below_step HBd.out hb)
  clear hb
  refine hK.out _ _ ⟨blk_cell' X3a.out 0 _ rfl, blk_cell' X3a.out 1 _ rfl, blk_cell' X3a.out 2 _ rfl⟩ (fun hHeld => ?_)
  clear hK K
  refine norm_ (a' := ?_) ?_ ?_
  rotate_left
  ·show Act.put _ (some 21) _ = _
   simp only [Act.put, List.setIfInBounds_toArray, List.set_cons_zero, List.set_cons_succ, i64_w, i32_w]
   rfl
  refine run_ [(3, some 22)] ?_
  refine runP (v := ?_) (a' := ?_) rfl rfl (by kernel_rfl) (fun _ _ _ h => h) (Or.inl ⟨by rfl, ?_⟩) ?_ ?_; rotate_left; (· intro w'; go_simp; with_reducible rfl); rotate_left; (· simp only [Act.put, List.setIfInBounds_toArray, List.set_cons_zero, List.set_cons_succ, i64_w, i32_w]; rfl)
  refine runE ?_
  refine one_ (i := 4) (N := some 23) #[true, true, true, true, true, false] rfl rfl (by kernel_rfl) (by decide) (fun K hK => ?_)
  refine gO Try.func19 #[.agg #[.slice A0_0 l0_0.length c0_0, .slice A0_1 l0_1.length c0_1, .slice A0_2 l0_2.length c0_2], .int .i64 x.f0.f0] ?_
  have HK_ := cells_Busy.calls A0_0 c0_0 l0_0 A0_1 c0_1 l0_1 A0_2 c0_2 l0_2 x.f0.f0 (busyB l0_0 l0_1 x.f0.f0) _ (Kd.C_below HR0.out HBa.out) HC0.out (Kd.C_below HR1.out HBa.out) HC1.out (Kd.C_below HR2.out HBa.out) HC2.out rfl
  rw [HBU.out] at HK_
  with_reducible refine HK_.mono ?_
  clear HK_
  rintro e wb ⟨rfl, hb⟩
  refine ⟨_, rfl, ?_⟩
  have X3b := Aside0.mk (blk_below X3a.out hb)
  have HBb := Aside0.mk (below_step HBa.out hb)
  clear hb
  refine hK.out _ _ ⟨blk_cell' X3b.out 0 _ rfl, blk_cell' X3b.out 1 _ rfl, blk_cell' X3b.out 2 _ rfl⟩ (fun hHeld => ?_)
  clear hK K
  refine norm_ (a' := ?_) ?_ ?_
  rotate_left
  ·show Act.put _ (some 23) _ = _
   simp only [Act.put, List.setIfInBounds_toArray, List.set_cons_zero, List.set_cons_succ, i64_w, i32_w]
   rfl
  refine run_ [(5, some 18)] ?_
  refine runP (v := ?_) (a' := ?_) rfl rfl (by kernel_rfl) (fun _ _ _ h => h) (Or.inl ⟨by rfl, ?_⟩) ?_ ?_; rotate_left; (· intro w'; go_simp; with_reducible rfl); rotate_left; (· simp only [Act.put, List.setIfInBounds_toArray, List.set_cons_zero, List.set_cons_succ, i64_w, i32_w]; rfl)
  refine runE ?_
  refine done_ (by kernel_rfl) ?_
  have y0 := blk_cell' X3b.out 0 _ rfl
  have y1 := blk_cell' X3b.out 1 _ rfl
  have y2 := blk_cell' X3b.out 2 _ rfl
  go_wp2
  go_ret
  exact ⟨rfl, HBb.out⟩
 have HBU := Aside0.mk hbu
 obtain rfl : (5 : Int) = r := by rw [← HRR.out]; unfold refB; rw [if_neg (by rw [hv]; decide), if_neg (by rw [hx]; decide), if_pos hbu]
 clear hv hx hbu HRR
 go_enter Try.func29, Try.ntmps29
 go_wp2_with (first
  | ((with_reducible refine gate_dst (N := 3) rfl ?_); refine bE (N := 3) (cs := #[.slice A0_0 l0_0.length c0_0, .slice A0_1 l0_1.length c0_1, .slice A0_2 l0_2.length c0_2]) (t := 26) ?_; intro g3 hg w1 hbox hb; have X3 := Aside0.mk hbox; have HB1 := Aside0.mk (below_step HB0.out hb); clear hb hbox hg)
  | ((with_reducible refine gate_dst (N := 4) rfl ?_); refine bE (N := 4) (cs := #[.int .i64 a1_0, .int .i64 a1_1]) (t := 28) ?_; intro g4 hg w2 hbox hb; have X4 := Aside0.mk hbox; have X3' := Aside0.mk (blk_below X3.out hb); clear X3; have X3 := X3'; clear X3'; have HB2 := Aside0.mk (below_step HB1.out hb); have y0 := blk_cell' X3.out 0 _ rfl; have y1 := blk_cell' X3.out 1 _ rfl; have y2 := blk_cell' X3.out 2 _ rfl; have z0 := blk_cell' X4.out 0 _ rfl; have z1 := blk_cell' X4.out 1 _ rfl; clear hb hbox hg)
  | (go_at_call 17; refine (cells_Valid.calls A0_0 c0_0 l0_0 A0_1 c0_1 l0_1 A0_2 c0_2 l0_2 a1_0 a1_1 true _ (Kd.C_below HR0.out HB2.out) HC0.out (Kd.C_below HR1.out HB2.out) HC1.out (Kd.C_below HR2.out HB2.out) HC2.out HV.out).mono ?_; rintro e w3 ⟨rfl, hb⟩; have X3c := Aside0.mk (blk_below X3.out hb); have X4c := Aside0.mk (blk_below X4.out hb); have HB3 := Aside0.mk (below_step HB2.out hb); clear hb y0 y1 y2 z0 z1; have p0 := blk_cell' X3c.out 0 _ rfl; have p1 := blk_cell' X3c.out 1 _ rfl; have p2 := blk_cell' X3c.out 2 _ rfl; have q0 := blk_cell' X4c.out 0 _ rfl; have q1 := blk_cell' X4c.out 1 _ rfl)
  | (go_at_call 97; refine (cells_grant_valid.calls x.f0.f0 x.f0.f1 x.f1 x.f2 x.f3 a1_0 a1_1 true _ HX.out).mono ?_; rintro e w4 ⟨rfl, hb⟩; have X3e := Aside0.mk (blk_below X3c.out hb); have X4e := Aside0.mk (blk_below X4c.out hb); have HB4 := Aside0.mk (below_step HB3.out hb); clear hb p0 p1 p2 q0 q1))
 have X3d := Aside0.mk (blk_drew X3e.out)
 have HBd := Aside0.mk (below_drew1 HB4.out)
 refine start_ (n := 6) (S := fun w' => w'.cell? ⟨g3, 0, none⟩ = some (.slice A0_0 l0_0.length c0_0) ∧ w'.cell? ⟨g3, 1, none⟩ = some (.slice A0_1 l0_1.length c0_1) ∧ w'.cell? ⟨g3, 2, none⟩ = some (.slice A0_2 l0_2.length c0_2)) (ds := []) #[false, false, false, false, false, false] (by kernel_rfl) rfl rfl ⟨blk_cell' X3d.out 0 _ rfl, blk_cell' X3d.out 1 _ rfl, blk_cell' X3d.out 2 _ rfl⟩ (fun hHeld => ?_)
 refine run_ [(1, some 20), (0, some 19)] ?_
 refine runP (v := ?_) (a' := ?_) rfl rfl (by kernel_rfl) (fun _ _ _ h => h) (Or.inl ⟨by rfl, ?_⟩) ?_ ?_; rotate_left; (· intro w'; go_simp; with_reducible rfl); rotate_left; (· simp only [Act.put, List.setIfInBounds_toArray, List.set_cons_zero, List.set_cons_succ, i64_w, i32_w]; rfl)
 refine runT (v := ?_) (a' := ?_) rfl rfl (by kernel_rfl) (fun _ _ _ h => h) (Or.inl ⟨by rfl, ?_⟩) hHeld ?_ ?_; rotate_left; (· rintro w' ⟨s0, s1, s2⟩; go_simp; with_reducible rfl); rotate_left; (· simp only [Act.put, List.setIfInBounds_toArray, List.set_cons_zero, List.set_cons_succ, i64_w, i32_w]; rfl)
 refine runE ?_
 refine one_ (i := 2) (N := some 21) #[true, true, true, false, false, false] rfl rfl (by kernel_rfl) (by decide) (fun K hK => ?_)
 refine call_ 96 #[.agg #[.int .i64 x.f0.f0, .int .i64 x.f0.f1, .int .i64 x.f1, .int .i64 x.f2, .int .i64 x.f3]] (by rfl) rfl (by unfold execOp; simp [resolve, Deferred.ofValue, Act.eval, invc73]) ?_
 with_reducible refine (cells_grant_cell.calls x.f0.f0 x.f0.f1 x.f1 x.f2 x.f3 x.f0.f0 x.f0.f1 _ rfl).mono ?_
 rintro e wa ⟨rfl, hb⟩
 refine ⟨_, rfl, ?_⟩
 have X3a := Aside0.mk (blk_below X3d.out hb)
 have HBa := Aside0.mk (below_step HBd.out hb)
 clear hb
 refine hK.out _ _ ⟨blk_cell' X3a.out 0 _ rfl, blk_cell' X3a.out 1 _ rfl, blk_cell' X3a.out 2 _ rfl⟩ (fun hHeld => ?_)
 clear hK K
 refine norm_ (a' := ?_) ?_ ?_
 rotate_left
 ·show Act.put _ (some 21) _ = _
  simp only [Act.put, List.setIfInBounds_toArray, List.set_cons_zero, List.set_cons_succ, i64_w, i32_w]
  rfl
 refine run_ [(3, some 22)] ?_
 refine runP (v := ?_) (a' := ?_) rfl rfl (by kernel_rfl) (fun _ _ _ h => h) (Or.inl ⟨by rfl, ?_⟩) ?_ ?_; rotate_left; (· intro w'; go_simp; with_reducible rfl); rotate_left; (· simp only [Act.put, List.setIfInBounds_toArray, List.set_cons_zero, List.set_cons_succ, i64_w, i32_w]; rfl)
 refine runE ?_
 refine one_ (i := 4) (N := some 23) #[true, true, true, true, true, false] rfl rfl (by kernel_rfl) (by decide) (fun K hK => ?_)
 refine gO Try.func19 #[.agg #[.slice A0_0 l0_0.length c0_0, .slice A0_1 l0_1.length c0_1, .slice A0_2 l0_2.length c0_2], .int .i64 x.f0.f0] ?_
 have HK_ := cells_Busy.calls A0_0 c0_0 l0_0 A0_1 c0_1 l0_1 A0_2 c0_2 l0_2 x.f0.f0 (busyB l0_0 l0_1 x.f0.f0) _ (Kd.C_below HR0.out HBa.out) HC0.out (Kd.C_below HR1.out HBa.out) HC1.out (Kd.C_below HR2.out HBa.out) HC2.out rfl
 rw [HBU.out] at HK_
 with_reducible refine HK_.mono ?_
 clear HK_
 rintro e wb ⟨rfl, hb⟩
 refine ⟨_, rfl, ?_⟩
 have X3b := Aside0.mk (blk_below X3a.out hb)
 have HBb := Aside0.mk (below_step HBa.out hb)
 clear hb
 refine hK.out _ _ ⟨blk_cell' X3b.out 0 _ rfl, blk_cell' X3b.out 1 _ rfl, blk_cell' X3b.out 2 _ rfl⟩ (fun hHeld => ?_)
 clear hK K
 refine norm_ (a' := ?_) ?_ ?_
 rotate_left
 ·show Act.put _ (some 23) _ = _
  simp only [Act.put, List.setIfInBounds_toArray, List.set_cons_zero, List.set_cons_succ, i64_w, i32_w]
  rfl
 refine run_ [(5, some 18)] ?_
 refine runP (v := ?_) (a' := ?_) rfl rfl (by kernel_rfl) (fun _ _ _ h => h) (Or.inl ⟨by rfl, ?_⟩) ?_ ?_; rotate_left; (· intro w'; go_simp; with_reducible rfl); rotate_left; (· simp only [Act.put, List.setIfInBounds_toArray, List.set_cons_zero, List.set_cons_succ, i64_w, i32_w]; rfl)
 refine runE ?_
 refine done_ (by kernel_rfl) ?_
 go_wp2
 go_ret
 exact ⟨rfl, HBb.out⟩

end Go.Proofs.Ytbpfbdljcdcgnaa.Px
