/- Walks of functions of this seat, written by a program of this workplace out of the translation. -/
import Derived.Test.YtbpfbdljcdcgnaaPx0
import Derived.Test.YtbpfbdljcdcgnaaPx5
import Derived.Test.YtbpfbdljcdcgnaaPx6
import Derived.Test.YtbpfbdljcdcgnaaPx8
import Derived.Test.YtbpfbdljcdcgnaaPx11
import Derived.Test.YtbpfbdljcdcgnaaPx12
import Derived.Test.YtbpfbdljcdcgnaaPx13
import Derived.Test.YtbpfbdljcdcgnaaPx14
import Derived.Test.YtbpfbdljcdcgnaaPx15
namespace Go.Proofs.Ytbpfbdljcdcgnaa.Px
open Go.RowKit Go.Proofs.YtbpfbdljcdcgnaaW.PrintWords Go.Proofs.YtbpfbdljcdcgnaaW.PrintLast Go.Proofs.YtbpfbdljcdcgnaaW.PrintMore
attribute [local go_sem] max2_int min2_int max_two min_two max_three min_three max_four min_four   -- for this text's walks alone
set_option linter.unusedVariables false
set_option linter.unusedSimpArgs false

/-! ### cells_AddUse: function 12 -/
def addB32 (l0_0 : List (S32)) (l0_1 : List (S34)) (l0_2 : List (S51)) (a1_0 a1_1 : Int) (x : S32) : Option (List (S32) × List (S34) × List (S51) × Int) :=
 if l0_0.length + 1 < 3518437208883 ∧ l0_1.length + 1 < 3518437208883 ∧ l0_2.length < 3518437208883 then (if refB l0_0 l0_1 l0_2 a1_0 a1_1 (v32 a1_0 a1_1 x) x.f0.f0 = 0 then some ((l0_0.take (insAt32 x l0_0) ++ x :: l0_0.drop (insAt32 x l0_0)), l0_1, (l0_2.filter fun z => !slot51 x.f0.f0 z), 0) else some ([], [], [], refB l0_0 l0_1 l0_2 a1_0 a1_1 (v32 a1_0 a1_1 x) x.f0.f0)) else none
set_option maxHeartbeats 16000000 in
set_option maxRecDepth 100000 in
theorem addB32.calls (A0_0 : Option Addr) (c0_0 : Nat) (l0_0 : List (S32)) (A0_1 : Option Addr) (c0_1 : Nat) (l0_1 : List (S34)) (A0_2 : Option Addr) (c0_2 : Nat) (l0_2 : List (S51)) (a1_0 : Int) (a1_1 : Int) (x : S32) (r1 : List (S32)) (r2 : List (S34)) (r3 : List (S51)) (r4 : Int) (w : World) (hr0_0 : Kd.C k32 w A0_0 l0_0.length l0_0) (hc0_0 : l0_0.length ≤ c0_0) (hr0_1 : Kd.C k34 w A0_1 l0_1.length l0_1) (hc0_1 : l0_1.length ≤ c0_1) (hr0_2 : Kd.C k51 w A0_2 l0_2.length l0_2) (hc0_2 : l0_2.length ≤ c0_2) (h : addB32 l0_0 l0_1 l0_2 a1_0 a1_1 x = some (r1, r2, r3, r4)) :
  Calls Try.prog 12 #[.agg #[.slice A0_0 l0_0.length c0_0, .slice A0_1 l0_1.length c0_1, .slice A0_2 l0_2.length c0_2], .agg #[.int .i64 a1_0, .int .i64 a1_1], .agg #[.int .i64 x.f0.f0, .int .i64 x.f0.f1, .int .i64 x.f1, .int .i64 x.f2]] w fun e w' => ∃ v0_ v1_ v2_ : Value, e = .returned (.tuple #[.agg #[v0_, v1_, v2_], .int .i64 r4]) ∧ Kd.R k32 32 w' w.heap.size (fun _ => True) v0_ r1 ∧ Kd.R k34 34 w' w.heap.size (fun _ => True) v1_ r2 ∧ Kd.R k51 51 w' w.heap.size (fun _ => True) v2_ r3 ∧ Below w.heap.size w w' := by
 have hsz : l0_0.length + 1 < 3518437208883 ∧ l0_1.length + 1 < 3518437208883 ∧ l0_2.length < 3518437208883 := by
  unfold addB32 at h
  by_cases hl : l0_0.length + 1 < 3518437208883 ∧ l0_1.length + 1 < 3518437208883 ∧ l0_2.length < 3518437208883
  ·exact hl
  rw [if_neg hl] at h; exact absurd h (by simp)
 have hu1 := Try.underlying32
 have hu2 := Try.underlying30
 have hu3 := Try.underlying28
 have hu4 := Try.underlying26
 have hu5 := Try.underlying37
 have HLL : l0_0.length < 3518437208883 ∧ l0_1.length < 3518437208883 ∧ l0_2.length < 3518437208883 := ⟨by omega, by omega, hsz.2.2⟩
 have HR0 := Aside0.mk hr0_0
 have HR1 := Aside0.mk hr0_1
 have HR2 := Aside0.mk hr0_2
 have HC0 := Aside0.mk hc0_0
 have HC1 := Aside0.mk hc0_1
 have HC2 := Aside0.mk hc0_2
 have HSZ := Aside0.mk HLL
 have HB0 := Aside0.mk (Below.refl w.heap.size w)
 clear hr0_0 hr0_1 hr0_2 hc0_0 hc0_1 hc0_2
 by_cases he : refB l0_0 l0_1 l0_2 a1_0 a1_1 (v32 a1_0 a1_1 x) x.f0.f0 = 0
 ·obtain ⟨rfl, rfl, rfl, rfl⟩ : (l0_0.take (insAt32 x l0_0) ++ x :: l0_0.drop (insAt32 x l0_0)) = r1 ∧ l0_1 = r2 ∧ (l0_2.filter fun z => !slot51 x.f0.f0 z) = r3 ∧ (0 : Int) = r4 := by unfold addB32 at h; rw [if_pos hsz, if_pos he] at h; simpa using h
  have HE := Aside0.mk he
  have HIN : Aside0 (ins32.f l0_0 x = some (l0_0.take (insAt32 x l0_0) ++ x :: l0_0.drop (insAt32 x l0_0))) := ⟨by unfold ins32.f; rw [if_pos (by omega)]⟩
  have HCL : Aside0 (api_Grant_32.f l0_1 = some l0_1) := ⟨if_pos (by omega)⟩
  have HUN : Aside0 (cells_unasked.f l0_0 l0_1 l0_2 x.f0.f0 = some (l0_2.filter fun z => !slot51 x.f0.f0 z)) := ⟨by unfold cells_unasked.f; rw [if_pos (by omega)]⟩
  generalize (l0_0.take (insAt32 x l0_0) ++ x :: l0_0.drop (insAt32 x l0_0)) = yy at HIN ⊢
  generalize (l0_2.filter fun z => !slot51 x.f0.f0 z) = uu at HUN ⊢
  clear he h hsz HLL
  go_enter Try.func12, Try.ntmps12
  go_wp2_with (first
   | ((with_reducible refine gate_dst (N := 3) rfl ?_); refine bE (N := 3) (cs := #[.slice A0_0 l0_0.length c0_0, .slice A0_1 l0_1.length c0_1, .slice A0_2 l0_2.length c0_2]) (t := 26) ?_; intro g3 hg w1 hbox hb; have X3 := Aside0.mk hbox; have HB1 := Aside0.mk (below_step HB0.out hb); clear hb hbox hg)
   | ((with_reducible refine gate_dst (N := 4) rfl ?_); refine bE (N := 4) (cs := #[.int .i64 a1_0, .int .i64 a1_1]) (t := 28) ?_; intro g4 hg w2 hbox hb; have X4 := Aside0.mk hbox; have X3' := Aside0.mk (blk_below X3.out hb); clear X3; have X3 := X3'; clear X3'; have HB2 := Aside0.mk (below_step HB1.out hb); clear hb hbox hg)
   | ((with_reducible refine gate_dst (N := 5) rfl ?_); refine bE (N := 5) (cs := #[.int .i64 x.f0.f0, .int .i64 x.f0.f1, .int .i64 x.f1, .int .i64 x.f2]) (t := 32) ?_; intro g5 hg w3 hbox hb; have X5 := Aside0.mk hbox; have X3' := Aside0.mk (blk_below X3.out hb); clear X3; have X3 := X3'; clear X3'; have X4' := Aside0.mk (blk_below X4.out hb); clear X4; have X4 := X4'; clear X4'; have HB3 := Aside0.mk (below_step HB2.out hb); clear hb hbox hg)
   | ((with_reducible refine gate_dst (N := 6) rfl ?_); refine bE (N := 6) (cs := #[.slice none 0 0, .slice none 0 0, .slice none 0 0]) (t := 26) ?_; intro g6 hg w4 hbox hb; have X6 := Aside0.mk hbox; have X3' := Aside0.mk (blk_below X3.out hb); clear X3; have X3 := X3'; clear X3'; have X4' := Aside0.mk (blk_below X4.out hb); clear X4; have X4 := X4'; clear X4'; have X5' := Aside0.mk (blk_below X5.out hb); clear X5; have X5 := X5'; clear X5'; have GE6 := Aside0.mk ((by rw [hg]; exact HB3.out.size) : w.heap.size ≤ g6); have HB4 := Aside0.mk (below_step HB3.out hb); have y0 := blk_cell' X3.out 0 _ rfl; have y1 := blk_cell' X3.out 1 _ rfl; have y2 := blk_cell' X3.out 2 _ rfl; have z0 := blk_cell' X4.out 0 _ rfl; have z1 := blk_cell' X4.out 1 _ rfl; have x0 := blk_cell' X5.out 0 _ rfl; have x1 := blk_cell' X5.out 1 _ rfl; have x2 := blk_cell' X5.out 2 _ rfl; have x3 := blk_cell' X5.out 3 _ rfl; clear hb hbox hg)
   | (go_at_call 29; refine (refused32.calls A0_0 c0_0 l0_0 A0_1 c0_1 l0_1 A0_2 c0_2 l0_2 a1_0 a1_1 x 0 _ (Kd.C_below HR0.out HB4.out) HC0.out (Kd.C_below HR1.out HB4.out) HC1.out (Kd.C_below HR2.out HB4.out) HC2.out HSZ.out HE.out).mono ?_; rintro e w5 ⟨rfl, hb⟩; have X3' := Aside0.mk (blk_below X3.out hb); clear X3; have X3 := X3'; clear X3'; have X5' := Aside0.mk (blk_below X5.out hb); clear X5; have X5 := X5'; clear X5'; have X6' := Aside0.mk (blk_below X6.out hb); clear X6; have X6 := X6'; clear X6'; have HB5 := Aside0.mk (below_step HB4.out hb); clear hb; clear y0 y1 y2 z0 z1 x0 x1 x2 x3))
  have X3d := Aside0.mk (blk_drew X3.out)
  have X5d := Aside0.mk (blk_drew X5.out)
  have X6d := Aside0.mk (blk_drew X6.out)
  have HBd := Aside0.mk (below_drew1 HB5.out)
  refine start_ (n := 15) (S := fun w' => w'.cell? ⟨g3, 0, none⟩ = some (.slice A0_0 l0_0.length c0_0) ∧ w'.cell? ⟨g3, 1, none⟩ = some (.slice A0_1 l0_1.length c0_1) ∧ w'.cell? ⟨g3, 2, none⟩ = some (.slice A0_2 l0_2.length c0_2) ∧ w'.cell? ⟨g5, 0, none⟩ = some (.int .i64 x.f0.f0) ∧ w'.cell? ⟨g5, 1, none⟩ = some (.int .i64 x.f0.f1) ∧ w'.cell? ⟨g5, 2, none⟩ = some (.int .i64 x.f1) ∧ w'.cell? ⟨g5, 3, none⟩ = some (.int .i64 x.f2)) (ds := [13]) #[false, false, false, false, false, false, false, false, false, false, false, false, false, false, false] (by kernel_rfl) rfl rfl ⟨blk_cell' X3d.out 0 _ rfl, blk_cell' X3d.out 1 _ rfl, blk_cell' X3d.out 2 _ rfl, blk_cell' X5d.out 0 _ rfl, blk_cell' X5d.out 1 _ rfl, blk_cell' X5d.out 2 _ rfl, blk_cell' X5d.out 3 _ rfl⟩ (fun hHeld => ?_)
  refine run_ [(0, some 18), (4, some 22), (8, some 26), (9, some 27), (1, some 19), (2, some 20), (5, some 23), (7, some 25), (10, some 28)] ?_
  iterate 4 (refine runP (v := ?_) (a' := ?_) rfl rfl (by kernel_rfl) (fun _ _ _ h => h) (Or.inl ⟨by rfl, ?_⟩) ?_ ?_; rotate_left; (· intro w'; go_simp; with_reducible rfl); rotate_left; (· simp only [Act.put, List.setIfInBounds_toArray, List.set_cons_zero, List.set_cons_succ, i64_w, i32_w]; rfl))
  iterate 5 (refine runT (v := ?_) (a' := ?_) rfl rfl (by kernel_rfl) (fun _ _ _ h => h) (Or.inl ⟨by rfl, ?_⟩) hHeld ?_ ?_; rotate_left; (· rintro w' ⟨s0, s1, s2, s3, s4, s5, s6⟩; go_simp; with_reducible rfl); rotate_left; (· simp only [Act.put, List.setIfInBounds_toArray, List.set_cons_zero, List.set_cons_succ, i64_w, i32_w]; rfl))
  refine runE ?_
  refine one_ (i := 3) (N := some 21) #[true, true, true, true, true, true, false, true, true, true, true, false, false, false, false] rfl rfl (by kernel_rfl) (by decide) (fun K hK => ?_)
  refine gO Try.func30 #[.slice A0_0 l0_0.length c0_0, .agg #[.int .i64 x.f0.f0, .int .i64 x.f0.f1, .int .i64 x.f1, .int .i64 x.f2], .func (.func 31) #[] #[]] ?_
  have HK_ := ins32.calls A0_0 c0_0 l0_0 x _ _ (Kd.C_below HR0.out HBd.out) HC0.out HIN.out
  with_reducible refine HK_.mono ?_
  clear HK_
  rintro e wa ⟨v0, rfl, hr, hb⟩
  refine ⟨_, rfl, ?_⟩
  obtain ⟨A0, c0, e0⟩ := Kd.R_slice hr
  subst e0
  have X3a := Aside0.mk (blk_below X3d.out hb)
  have X5a := Aside0.mk (blk_below X5d.out hb)
  have X6a := Aside0.mk (blk_below X6d.out hb)
  have HBa := Aside0.mk (below_step HBd.out hb)
  have HO0_a := Aside0.mk (Kd.R_lower hr HBd.out.size)
  clear hr hb
  refine hK.out _ _ ⟨blk_cell' X3a.out 0 _ rfl, blk_cell' X3a.out 1 _ rfl, blk_cell' X3a.out 2 _ rfl, blk_cell' X5a.out 0 _ rfl, blk_cell' X5a.out 1 _ rfl, blk_cell' X5a.out 2 _ rfl, blk_cell' X5a.out 3 _ rfl⟩ (fun hHeld => ?_)
  clear hK K
  refine norm_ (a' := ?_) ?_ ?_
  rotate_left
  ·show Act.put _ (some 21) _ = _
   simp only [Act.put, List.setIfInBounds_toArray, List.set_cons_zero, List.set_cons_succ, i64_w, i32_w]
   rfl
  refine one_ (i := 6) (N := some 24) #[true, true, true, true, true, true, true, true, true, true, true, false, false, false, false] rfl rfl (by kernel_rfl) (by decide) (fun K hK => ?_)
  refine gO Try.func32 #[.slice A0_1 l0_1.length c0_1] ?_
  have HK_ := api_Grant_32.calls A0_1 c0_1 l0_1 l0_1 _ (Kd.C_below HR1.out HBa.out) HC1.out HCL.out
  with_reducible refine HK_.mono ?_
  clear HK_
  rintro e wb ⟨v1, rfl, hr, hb⟩
  refine ⟨_, rfl, ?_⟩
  obtain ⟨A1, c1, e1⟩ := Kd.R_slice hr
  subst e1
  have X3b := Aside0.mk (blk_below X3a.out hb)
  have X5b := Aside0.mk (blk_below X5a.out hb)
  have X6b := Aside0.mk (blk_below X6a.out hb)
  have HBb := Aside0.mk (below_step HBa.out hb)
  have HO0_b := Aside0.mk (Kd.R_below HO0_a.out hb)
  have HO1_b := Aside0.mk (Kd.R_lower hr HBa.out.size)
  clear hr hb
  refine hK.out _ _ ⟨blk_cell' X3b.out 0 _ rfl, blk_cell' X3b.out 1 _ rfl, blk_cell' X3b.out 2 _ rfl, blk_cell' X5b.out 0 _ rfl, blk_cell' X5b.out 1 _ rfl, blk_cell' X5b.out 2 _ rfl, blk_cell' X5b.out 3 _ rfl⟩ (fun hHeld => ?_)
  clear hK K
  refine norm_ (a' := ?_) ?_ ?_
  rotate_left
  ·show Act.put _ (some 24) _ = _
   simp only [Act.put, List.setIfInBounds_toArray, List.set_cons_zero, List.set_cons_succ, i64_w, i32_w]
   rfl
  refine one_ (i := 11) (N := some 29) #[true, true, true, true, true, true, true, true, true, true, true, true, false, false, false] rfl rfl (by kernel_rfl) (by decide) (fun K hK => ?_)
  refine gO Try.func33 #[.agg #[.slice A0_0 l0_0.length c0_0, .slice A0_1 l0_1.length c0_1, .slice A0_2 l0_2.length c0_2], .int .i64 x.f0.f0] ?_
  have HK_ := cells_unasked.calls A0_0 c0_0 l0_0 A0_1 c0_1 l0_1 A0_2 c0_2 l0_2 x.f0.f0 _ _ (Kd.C_below HR0.out HBb.out) HC0.out (Kd.C_below HR1.out HBb.out) HC1.out (Kd.C_below HR2.out HBb.out) HC2.out HUN.out
  with_reducible refine HK_.mono ?_
  clear HK_
  rintro e wc ⟨v2, rfl, hr, hb⟩
  refine ⟨_, rfl, ?_⟩
  obtain ⟨A2, c2, e2⟩ := Kd.R_slice hr
  subst e2
  have X3c := Aside0.mk (blk_below X3b.out hb)
  have X5c := Aside0.mk (blk_below X5b.out hb)
  have X6c := Aside0.mk (blk_below X6b.out hb)
  have HBc := Aside0.mk (below_step HBb.out hb)
  have HO0_c := Aside0.mk (Kd.R_below HO0_b.out hb)
  have HO1_c := Aside0.mk (Kd.R_below HO1_b.out hb)
  have HO2_c := Aside0.mk (Kd.R_lower hr HBb.out.size)
  clear hr hb
  refine hK.out _ _ ⟨blk_cell' X3c.out 0 _ rfl, blk_cell' X3c.out 1 _ rfl, blk_cell' X3c.out 2 _ rfl, blk_cell' X5c.out 0 _ rfl, blk_cell' X5c.out 1 _ rfl, blk_cell' X5c.out 2 _ rfl, blk_cell' X5c.out 3 _ rfl⟩ (fun hHeld => ?_)
  clear hK K
  refine norm_ (a' := ?_) ?_ ?_
  rotate_left
  ·show Act.put _ (some 29) _ = _
   simp only [Act.put, List.setIfInBounds_toArray, List.set_cons_zero, List.set_cons_succ, i64_w, i32_w]
   rfl
  refine run_ [(12, some 30)] ?_
  refine runP (v := ?_) (a' := ?_) rfl rfl (by kernel_rfl) (fun _ _ _ h => h) (Or.inl ⟨by rfl, ?_⟩) ?_ ?_; rotate_left; (· intro w'; go_simp; with_reducible rfl); rotate_left; (· simp only [Act.put, List.setIfInBounds_toArray, List.set_cons_zero, List.set_cons_succ, i64_w, i32_w]; rfl)
  refine runE ?_
  refine last_ (i := 13) (N := none) #[true, true, true, true, true, true, true, true, true, true, true, true, true, true, false] rfl rfl (by kernel_rfl) (by decide) (fun K hK => ?_)
  have q0 := blk_cell' X6c.out 0 _ rfl
  have q1 := blk_cell' X6c.out 1 _ rfl
  have q2 := blk_cell' X6c.out 2 _ rfl
  have f0 := blk_frozen X6c.out 0
  have f1 := blk_frozen X6c.out 1
  have f2 := blk_frozen X6c.out 2
  refine skip_ (w1 := ?_) (by rfl) rfl ?_ ?_
  rotate_left
  ·go_simp
   rfl
  refine hK.out _ _ ?_
  clear hK K
  refine run_ [(14, some 7)] ?_
  refine runP (v := ?_) (a' := ?_) rfl rfl (by kernel_rfl) (fun _ _ _ h => h) (Or.inl ⟨by rfl, ?_⟩) ?_ ?_; rotate_left; (· intro w'; go_simp; with_reducible rfl); rotate_left; (· simp only [Act.put, List.setIfInBounds_toArray, List.set_cons_zero, List.set_cons_succ, i64_w, i32_w]; rfl)
  refine runE ?_
  refine done_ (by kernel_rfl) ?_
  go_wp2
  have BXE := X6c
  refine bodyPost_ret (results_ct rfl _ _ g6 26 #[.slice A0 yy.length c0, .slice A1 l0_1.length c1, .slice A2 uu.length c2] (0, 0) _ rfl (by (with_reducible repeat (first | refine blk_drewN ?_ _ | refine blk_drew ?_ | refine blk_alloc ?_ _)); refine blk_put (cs := #[.slice A0 yy.length c0, .slice A1 l0_1.length c1, .slice none 0 0]) ?_ 2 _ rfl; refine blk_put (cs := #[.slice A0 yy.length c0, .slice none 0 0, .slice none 0 0]) ?_ 1 _ rfl; refine blk_put (cs := #[.slice none 0 0, .slice none 0 0, .slice none 0 0]) ?_ 0 _ rfl; exact BXE.out) Try.underlying26 rfl (by kernel_rfl)) rfl ?_
  exact ⟨_, _, _, rfl, Kd.R_mono (Kd.R_far (p := ⟨g6, 2, none⟩) (Kd.R_far (p := ⟨g6, 1, none⟩) (Kd.R_far (p := ⟨g6, 0, none⟩) (Kd.R_types HO0_c.out BXE.out (by decide)) (fun _ hk => hk.2) (.slice A0 yy.length c0)) (fun _ hk => hk.2) (.slice A1 l0_1.length c1)) (fun _ hk => hk.2) (.slice A2 uu.length c2)) (fun _ hk => trivial), Kd.R_mono (Kd.R_far (p := ⟨g6, 2, none⟩) (Kd.R_far (p := ⟨g6, 1, none⟩) (Kd.R_far (p := ⟨g6, 0, none⟩) (Kd.R_types HO1_c.out BXE.out (by decide)) (fun _ hk => hk.2) (.slice A0 yy.length c0)) (fun _ hk => hk.2) (.slice A1 l0_1.length c1)) (fun _ hk => hk.2) (.slice A2 uu.length c2)) (fun _ hk => trivial), Kd.R_mono (Kd.R_far (p := ⟨g6, 2, none⟩) (Kd.R_far (p := ⟨g6, 1, none⟩) (Kd.R_far (p := ⟨g6, 0, none⟩) (Kd.R_types HO2_c.out BXE.out (by decide)) (fun _ hk => hk.2) (.slice A0 yy.length c0)) (fun _ hk => hk.2) (.slice A1 l0_1.length c1)) (fun _ hk => hk.2) (.slice A2 uu.length c2)) (fun _ hk => trivial), below_set (below_set (below_set HBc.out GE6.out) GE6.out) GE6.out⟩
 obtain ⟨rfl, rfl, rfl, rfl⟩ : [] = r1 ∧ [] = r2 ∧ [] = r3 ∧ refB l0_0 l0_1 l0_2 a1_0 a1_1 (v32 a1_0 a1_1 x) x.f0.f0 = r4 := by unfold addB32 at h; rw [if_pos hsz, if_neg he] at h; simpa using h
 have HE : Aside0 (refB l0_0 l0_1 l0_2 a1_0 a1_1 (v32 a1_0 a1_1 x) x.f0.f0 = refB l0_0 l0_1 l0_2 a1_0 a1_1 (v32 a1_0 a1_1 x) x.f0.f0) := ⟨rfl⟩
 obtain ⟨er, her⟩ : ∃ er, er = refB l0_0 l0_1 l0_2 a1_0 a1_1 (v32 a1_0 a1_1 x) x.f0.f0 := ⟨_, rfl⟩
 rw [← her] at he ⊢
 clear HE
 have HE := Aside0.mk her.symm
 have hd : (er == 0) = false := by simpa using he
 have hd2 : (er != 0) = true := by simpa using he
 have zv := Try.zeroValue26
 clear he her h hsz HLL
 go_enter Try.func12, Try.ntmps12
 go_wp2_with (first
  | ((with_reducible refine gate_dst (N := 3) rfl ?_); refine bE (N := 3) (cs := #[.slice A0_0 l0_0.length c0_0, .slice A0_1 l0_1.length c0_1, .slice A0_2 l0_2.length c0_2]) (t := 26) ?_; intro g3 hg w1 hbox hb; have X3 := Aside0.mk hbox; have HB1 := Aside0.mk (below_step HB0.out hb); clear hb hbox hg)
  | ((with_reducible refine gate_dst (N := 4) rfl ?_); refine bE (N := 4) (cs := #[.int .i64 a1_0, .int .i64 a1_1]) (t := 28) ?_; intro g4 hg w2 hbox hb; have X4 := Aside0.mk hbox; have X3' := Aside0.mk (blk_below X3.out hb); clear X3; have X3 := X3'; clear X3'; have HB2 := Aside0.mk (below_step HB1.out hb); clear hb hbox hg)
  | ((with_reducible refine gate_dst (N := 5) rfl ?_); refine bE (N := 5) (cs := #[.int .i64 x.f0.f0, .int .i64 x.f0.f1, .int .i64 x.f1, .int .i64 x.f2]) (t := 32) ?_; intro g5 hg w3 hbox hb; have X5 := Aside0.mk hbox; have X3' := Aside0.mk (blk_below X3.out hb); clear X3; have X3 := X3'; clear X3'; have X4' := Aside0.mk (blk_below X4.out hb); clear X4; have X4 := X4'; clear X4'; have HB3 := Aside0.mk (below_step HB2.out hb); clear hb hbox hg)
  | ((with_reducible refine gate_dst (N := 6) rfl ?_); refine bE (N := 6) (cs := #[.slice none 0 0, .slice none 0 0, .slice none 0 0]) (t := 26) ?_; intro g6 hg w4 hbox hb; have X6 := Aside0.mk hbox; have X3' := Aside0.mk (blk_below X3.out hb); clear X3; have X3 := X3'; clear X3'; have X4' := Aside0.mk (blk_below X4.out hb); clear X4; have X4 := X4'; clear X4'; have X5' := Aside0.mk (blk_below X5.out hb); clear X5; have X5 := X5'; clear X5'; have GE6 := Aside0.mk ((by rw [hg]; exact HB3.out.size) : w.heap.size ≤ g6); have HB4 := Aside0.mk (below_step HB3.out hb); have y0 := blk_cell' X3.out 0 _ rfl; have y1 := blk_cell' X3.out 1 _ rfl; have y2 := blk_cell' X3.out 2 _ rfl; have z0 := blk_cell' X4.out 0 _ rfl; have z1 := blk_cell' X4.out 1 _ rfl; have x0 := blk_cell' X5.out 0 _ rfl; have x1 := blk_cell' X5.out 1 _ rfl; have x2 := blk_cell' X5.out 2 _ rfl; have x3 := blk_cell' X5.out 3 _ rfl; clear hb hbox hg)
  | (go_at_call 29; refine (refused32.calls A0_0 c0_0 l0_0 A0_1 c0_1 l0_1 A0_2 c0_2 l0_2 a1_0 a1_1 x er _ (Kd.C_below HR0.out HB4.out) HC0.out (Kd.C_below HR1.out HB4.out) HC1.out (Kd.C_below HR2.out HB4.out) HC2.out HSZ.out HE.out).mono ?_; rintro e w5 ⟨rfl, hb⟩; have X3' := Aside0.mk (blk_below X3.out hb); clear X3; have X3 := X3'; clear X3'; have X5' := Aside0.mk (blk_below X5.out hb); clear X5; have X5 := X5'; clear X5'; have X6' := Aside0.mk (blk_below X6.out hb); clear X6; have X6 := X6'; clear X6'; have HB5 := Aside0.mk (below_step HB4.out hb); clear hb; clear y0 y1 y2 z0 z1 x0 x1 x2 x3; have q0 := blk_cell' X6.out 0 _ rfl; have f0 := blk_frozen X6.out 0; have q1 := blk_cell' X6.out 1 _ rfl; have f1 := blk_frozen X6.out 1; have q2 := blk_cell' X6.out 2 _ rfl; have f2 := blk_frozen X6.out 2))
 refine bodyPost_ret (results_ct rfl _ _ g6 26 #[.slice none 0 0, .slice none 0 0, .slice none 0 0] (0, 0) _ rfl (by (with_reducible repeat (first | refine blk_drewN ?_ _ | refine blk_drew ?_ | refine blk_alloc ?_ _)); refine blk_put (cs := #[.slice none 0 0, .slice none 0 0, .slice none 0 0]) ?_ 2 _ rfl; refine blk_put (cs := #[.slice none 0 0, .slice none 0 0, .slice none 0 0]) ?_ 1 _ rfl; refine blk_put (cs := #[.slice none 0 0, .slice none 0 0, .slice none 0 0]) ?_ 0 _ rfl; exact X6.out) Try.underlying26 rfl (by kernel_rfl)) rfl ?_
 exact ⟨_, _, _, rfl, Kd.R_nil _ _ _ _ _, Kd.R_nil _ _ _ _ _, Kd.R_nil _ _ _ _ _, below_set (below_set (below_set HB5.out GE6.out) GE6.out) GE6.out⟩
def cells_AddUse.f (l0_0 : List (S32)) (l0_1 : List (S34)) (l0_2 : List (S51)) (a1_0 : Int) (a1_1 : Int) (a2_0 : Int) (a2_1 : Int) (a2_2 : Int) (a2_3 : Int) : Option (List (S32) × List (S34) × List (S51) × Int) := addB32 l0_0 l0_1 l0_2 a1_0 a1_1 ⟨⟨a2_0, a2_1⟩, a2_2, a2_3⟩
theorem cells_AddUse.calls (A0_0 : Option Addr) (c0_0 : Nat) (l0_0 : List (S32)) (A0_1 : Option Addr) (c0_1 : Nat) (l0_1 : List (S34)) (A0_2 : Option Addr) (c0_2 : Nat) (l0_2 : List (S51)) (a1_0 : Int) (a1_1 : Int) (a2_0 : Int) (a2_1 : Int) (a2_2 : Int) (a2_3 : Int) (r1 : List (S32)) (r2 : List (S34)) (r3 : List (S51)) (r4 : Int) (w : World) (hr0_0 : Kd.C k32 w A0_0 l0_0.length l0_0) (hc0_0 : l0_0.length ≤ c0_0) (hr0_1 : Kd.C k34 w A0_1 l0_1.length l0_1) (hc0_1 : l0_1.length ≤ c0_1) (hr0_2 : Kd.C k51 w A0_2 l0_2.length l0_2) (hc0_2 : l0_2.length ≤ c0_2) (h : cells_AddUse.f l0_0 l0_1 l0_2 a1_0 a1_1 a2_0 a2_1 a2_2 a2_3 = some (r1, r2, r3, r4)) :
  Calls Try.prog 12 #[.agg #[.slice A0_0 l0_0.length c0_0, .slice A0_1 l0_1.length c0_1, .slice A0_2 l0_2.length c0_2], .agg #[.int .i64 a1_0, .int .i64 a1_1], .agg #[.int .i64 a2_0, .int .i64 a2_1, .int .i64 a2_2, .int .i64 a2_3]] w fun e w' => ∃ v0_ v1_ v2_ : Value, e = .returned (.tuple #[.agg #[v0_, v1_, v2_], .int .i64 r4]) ∧ Kd.R k32 32 w' w.heap.size (fun _ => True) v0_ r1 ∧ Kd.R k34 34 w' w.heap.size (fun _ => True) v1_ r2 ∧ Kd.R k51 51 w' w.heap.size (fun _ => True) v2_ r3 ∧ Below w.heap.size w w' :=
 addB32.calls A0_0 c0_0 l0_0 A0_1 c0_1 l0_1 A0_2 c0_2 l0_2 a1_0 a1_1 ⟨⟨a2_0, a2_1⟩, a2_2, a2_3⟩ r1 r2 r3 r4 w hr0_0 hc0_0 hr0_1 hc0_1 hr0_2 hc0_2 h

-- NOT PRINTED: function 75 (api_Grant_75)

/-! ### api_Grant_67: function 67 -/
set_option maxHeartbeats 4000000 in
theorem growG (n : Int) (w : World) (h0 : 0 ≤ n) (hn : n < 3518437208883) :
  Calls Try.prog 75 #[.slice none 0 0, .int .i64 n] w fun e w' => ∃ v0_ : Value, e = .returned (v0_) ∧ Kd.R k34 34 w' w.heap.size (fun _ => True) v0_ ([] : List (S34)) ∧ Below w.heap.size w w' := by
 have HB := Aside0.mk (Below.refl w.heap.size w)
 by_cases hp : 0 < n
 ·have hcut0 := cut_to (P := Try.prog) 23 34 .i64 Try.underlying23 (info_parts info34).choose_spec.1 none 0 0 0 (by omega) (by omega) (by omega)
  go_enter Try.func75, Try.ntmps75
  go_wp2_with (first
   | ((with_reducible refine gate_builtin (b := .append) (xs := #[.tmp 20, .tmp 21]) rfl ?_); at_builtin; refine Kd.R_append_zeros k34 (w0 := w) w.heap.size rfl (.tmp 20) (.tmp 21) 23 3 34 (.agg #[(.int .i64 0), (.int .i64 0), (.int .i64 0), (.int .i64 0), (.int .i64 0)]) 40 rfl Try.underlying23 Try.underlying3 info34 rfl (by decide) (by omega) (.slice none 0 0) [] z34 n (fun _ => True) rfl rfl (k34_mkM _ _ _ z34) (fun _ _ => trivial) ?aO h0 ?aB ?aS ?aL ?_; (case aO => exact Kd.R_nil _ _ _ _ _); (case aB => exact HB.out); (case aS => exact Nat.le_refl _); (case aL => simp; omega); intro v22 w22 ho hb hg hat; clear hg hat; have HO22 := Aside0.mk ho; have HB22 := Aside0.mk hb; clear ho hb; obtain ⟨A22, c22, e22⟩ := Kd.R_slice HO22.out; subst e22; have hcut1 := cut_to (P := Try.prog) 23 34 .i64 Try.underlying23 (info_parts info34).choose_spec.1 A22 _ c22 0 (by omega) (by omega) (Kd.R_reads' HO22.out).2.1))
  go_ret
  exact ⟨_, rfl, by have := Kd.R_take (m := 0) HO22.out (by omega); simpa using this, HB22.out⟩
 obtain rfl : n = 0 := by omega
 go_enter Try.func75, Try.ntmps75
 go_wp2
 go_ret
 exact ⟨_, rfl, Kd.R_nil _ _ _ _ _, HB.out⟩
def api_Grant_67.f (l0 : List (List (S34))) : Option (List (S34)) := if l0.flatten.length < 3518437208883 then some l0.flatten else none
set_option maxHeartbeats 4000000 in
theorem api_Grant_67.calls (A0 : Option Addr) (c0 : Nat) (l0 : List (List (S34))) (r : List (S34)) (w : World) (hr0 : Kd.C (Kd.slice 34 k34) w A0 l0.length l0) (hc0 : l0.length ≤ c0) (h : api_Grant_67.f l0 = some r) :
  Calls Try.prog 67 #[.slice A0 l0.length c0] w fun e w' => ∃ v0_ : Value, e = .returned (v0_) ∧ Kd.R k34 34 w' w.heap.size (fun _ => True) v0_ r ∧ Below w.heap.size w w' := by
 have HL : Aside0 (l0.flatten.length < 3518437208883 ∧ l0.flatten = r) := ⟨by
  unfold api_Grant_67.f at h
  by_cases hl : l0.flatten.length < 3518437208883
  ·rw [if_pos hl] at h; exact ⟨hl, Option.some.inj h⟩
  rw [if_neg hl] at h; exact absurd h (by simp)⟩
 obtain rfl := HL.out.2
 clear h hc0
 have HR := Aside0.mk hr0
 clear hr0
 have HB := Aside0.mk (Below.refl w.heap.size w)
 have HN := Aside0.mk (show l0.length ≤ 9223372036854775807 by have := HR.out.2.1; omega)
 go_enter Try.func67, Try.ntmps67
 go_wp2
 go_loopg [3, 11] l0.length (fun gg s3 s11 wr => ∃ kk : Nat, s3 = .int .i64 ((l0.take kk).flatten.length : Nat) ∧ s11 = .int .i64 kk ∧ Aside0 (kk ≤ l0.length ∧ l0.length - kk ≤ gg) ∧ Aside0 (Drawn0 w wr))
 case atStart => exact ⟨0, by simp, rfl, ⟨Nat.zero_le _, by omega⟩, ⟨Drawn0.refl _⟩⟩
 case round =>
  obtain ⟨kk, rfl, rfl, HK, HD⟩ := hrel
  by_cases hlt : kk < l0.length
  ·obtain ⟨ad, c, eA, _, hK, hc⟩ := Kd.C_get (Kd.C_below HR.out HD.out.below) [] kk (by omega) (by omega)
   obtain ⟨A1, c1, rfl, hl1, hC1⟩ := hK
   subst eA
   have h0 := hc 0 _ rfl
   simp only [Int.toNat_natCast] at h0
   rw [show kk * (Kd.slice 34 k34).sz + 0 = kk from by show kk * 1 + 0 = kk; omega] at h0
   have hltb : decide ((kk : Int) < (l0.length : Int)) = true := decide_eq_true (by omega)
   have hltz : (kk : Int) < (l0.length : Int) := by omega
   have hk0 : 0 ≤ (kk : Int) := by omega
   have hN := HN.out
   have hsum := congrArg List.length (take_flat l0 kk hlt)
   rw [List.length_append] at hsum
   have hle := take_flat_le l0 (kk + 1)
   have hb1 := HL.out.1
   have hs0 : (0 : Int) ≤ ((l0.take kk).flatten.length : Nat) := by omega
   have hs1 : (((l0.take kk).flatten.length : Nat) : Int) ≤ 3518437208883 := by omega
   have hn0 : (0 : Int) ≤ ((l0.getD kk []).length : Nat) := by omega
   have hn1 : (((l0.getD kk []).length : Nat) : Int) ≤ 3518437208883 := by omega
   have HS := Aside0.mk hsum
   have HLE := Aside0.mk hle
   clear hsum hle hb1 hC1 hc hl1
   generalize (l0.getD kk []).length = n1 at h0 hn0 hn1 HS
   generalize hsz : (l0.take kk).flatten.length = sz at hs0 hs1 HS ⊢
   clear hsz
   have hneg : decide (((sz : Int) + (n1 : Int)) < 0) = false := decide_eq_false (by omega)
   have hneg2 : decide (((sz : Nat) + (n1 : Nat) : Int) < 0) = false := decide_eq_false (by omega)
   go_wp2
   go_roundg (l0.length - (kk + 1))
   case measure => have := HK.out; omega
   case rel => exact ⟨kk + 1, by rw [HS.out]; go_num, by go_num, ⟨by have := HK.out; omega, by omega⟩, ⟨HD.out⟩⟩
  have hkl : kk = l0.length := by have := HK.out; omega
  have hd : decide ((kk : Int) < (l0.length : Int)) = false := decide_eq_false (by omega)
  have hT : (l0.take kk).flatten.length = l0.flatten.length := by rw [hkl, List.take_length]
  rw [hT]
  have HKL := Aside0.mk hkl
  clear hkl hT
  have hb1 := HL.out.1
  generalize l0.flatten.length = nF at hb1 ⊢
  have HD1 := Aside0.mk (HD.out.below)
  go_wp2_with (first
   | (go_at_call 75; refine (growG _ _ (by omega) (by omega)).mono ?_; rintro e w6 ⟨v6, rfl, ho, hb⟩; have HO6 := Aside0.mk (Kd.R_lower ho HD1.out.size); have HB6 := Aside0.mk (below_step HD1.out hb); clear ho hb))
  go_loopg [6, 27] l0.length (fun gg s6 s27 wr => ∃ kk : Nat, s27 = .int .i64 kk ∧ Aside0 (kk ≤ l0.length ∧ l0.length - kk ≤ gg) ∧ Aside0 (Kd.R k34 34 wr w.heap.size (fun _ => True) s6 (l0.take kk).flatten) ∧ Aside0 (Below w.heap.size w wr))
  case atStart => exact ⟨0, rfl, ⟨Nat.zero_le _, by omega⟩, ⟨by simpa using HO6.out⟩, ⟨HB6.out⟩⟩
  case round =>
   obtain ⟨k2, rfl, HK2, HO, HB2⟩ := hrel
   by_cases hlt2 : k2 < l0.length
   ·obtain ⟨ad, c, eA, _, hK, hc⟩ := Kd.C_get (Kd.C_below HR.out HB2.out) [] k2 (by omega) (by omega)
    obtain ⟨A1, c1, rfl, hl1, hC1⟩ := hK
    have h0 := hc 0 _ rfl
    simp only [Int.toNat_natCast] at h0 hC1
    rw [show k2 * (Kd.slice 34 k34).sz + 0 = k2 from by show k2 * 1 + 0 = k2; omega] at h0
    have hltb : decide ((k2 : Int) < (l0.length : Int)) = true := decide_eq_true (by omega)
    have hltz : (k2 : Int) < (l0.length : Int) := by omega
    have hk0 : 0 ≤ (k2 : Int) := by omega
    have hN := HN.out
    have HTF := Aside0.mk (take_flat l0 k2 hlt2)
    have HLE := Aside0.mk (take_flat_le l0 (k2 + 1))
    have HC1 := Aside0.mk hC1
    have EA := Aside0.mk eA
    clear hC1 hc hl1
    generalize (l0.take k2).flatten = X6 at HO HTF
    generalize l0.getD k2 [] = Y6 at h0 HC1 HTF
    obtain ⟨A6, c6, e6⟩ := Kd.R_slice HO.out
    subst e6
    subst eA
    go_wp2_with (first
     | ((with_reducible refine gate_builtin (b := .append) (xs := #[.tmp 31, .tmp 32]) rfl ?_); at_builtin; refine Kd.R_append_rows k34 (w0 := w) w.heap.size rfl (.tmp 31) (.tmp 32) 23 34 (.agg #[(.int .i64 0), (.int .i64 0), (.int .i64 0), (.int .i64 0), (.int .i64 0)]) 40 rfl Try.underlying23 info34 rfl (by decide) (by omega) (.slice A6 X6.length c6) X6 Y6 _ _ _ (fun _ => True) (fun _ => False) rfl rfl ?aO ?aR (fun _ _ h_ => flat34 _ _ _ _ _ h_) (fun _ h_ => h_.elim) (fun _ _ => trivial) ?aB ?aS ?aL ?_; (case aR => exact HC1.out); (case aO => exact HO.out); (case aB => exact HB2.out); (case aS => exact HB2.out.size); (case aL => have h1_ := HL.out.1; have h2_ := HLE.out; have h3_ := congrArg List.length HTF.out; rw [List.length_append] at h3_; omega); intro v7 w7 ho hb hg hat; clear hg hat; have HO7 := Aside0.mk ho; have HB7 := Aside0.mk hb; clear ho hb))
    go_roundg (l0.length - (k2 + 1))
    case measure => have := HK2.out; omega
    case rel => exact ⟨k2 + 1, by go_num, ⟨by have := HK2.out; omega, by omega⟩, ⟨by rw [HTF.out]; exact HO7.out⟩, ⟨HB7.out⟩⟩
   have hkl2 : k2 = l0.length := by have := HK2.out; omega
   have hd2 : decide ((k2 : Int) < (l0.length : Int)) = false := decide_eq_false (by omega)
   have HF := Aside0.mk (show (l0.take k2).flatten = l0.flatten by rw [hkl2, List.take_length])
   clear hkl2
   go_wp2
   go_ret
   exact ⟨_, rfl, by rw [← HF.out]; exact HO.out, HB2.out⟩

end Go.Proofs.Ytbpfbdljcdcgnaa.Px
